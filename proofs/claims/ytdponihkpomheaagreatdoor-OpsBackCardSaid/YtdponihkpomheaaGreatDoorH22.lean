/- Texts of this claim. -/
import Derived.Test.YtdponihkpomheaaGreatDoorCards
import Derived.Test.YtdponihkpomheaaGreatDoorTie
import Derived.OpenShut
import Derived.Deep.DeepHandedRow
import Derived.Deep.DeepWitnessRowRef
import Derived.Below
import Derived.ChangeSame
import Derived.WideKeyArgs
import Derived.Lib.Join
import Derived.Test.YtdponihkpomheaaGreatDoorH18
import Derived.Test.YtdponihkpomheaaGreatDoorH21

set_option maxRecDepth 100000
set_option maxHeartbeats 16000000
namespace Go.Proofs.YtdponihkpomheaaGreatDoor
open Go.RowKit
open Go.Proofs.Tryz
section
attribute [local go_sem] Oper.semAt_some
theorem EH (a b:List UInt8):bs a++bs b=bs (a++b):=by
 rw [Zw (bs a++bs b)]
 congr 1
theorem asi (A:Nat->Addr) (B mg hm:Nat) (pi pb rv nv fv iv bv:Value) (g:C.Ga) (h t:List UInt8) (nn:Int) (w:World) (hM:Mt w mg hm pi pb rv nv fv iv bv g) (hs:nN g.t) (hw:rY g.w) (hb:C.jF g=true) (hz:h.length+t.length<=800) (hE:E A B w) (hD:Ed A B w) (hG:Eg A B w) (hB:B<=w.heap.size) :
  Calls prog 202 #[aA mg, .string (bs h), .string (bs t), ah nn] w λe w'=>e = .returned (.bool (C.nI g h t nn))/\ak w w':=by
 have hsz:(bs (h++t)).size<=800:=by rw [dN,bC];exact hz
 have HIS:=bx (ag5 A B (.agg #[ah g.t.n,pi,pb,rv,nv,fv]) g.t (bs (h++t)) (h.length:Int) w hM.tab hs hsz hE hD hG hB (C.wG hb (by rw [xZ,bC];omega)));have qX:=bx (λW (hW:ak w W)=>ag7 A B mg hm pi pb rv nv fv iv bv g (bs (h++t)) _ W (hM.below hW) hs hw hb hsz (hE.below (hW.mono hB)) (hD.below (hW.mono hB)) (hG.below (hW.mono hB)) (bP hB hW.size) rfl);have HR:=bx (show C.nI g h t nn=(C.isA g.t (h++t) (h.length:Int)&&decide (C.dX g (C.aO g.t (h++t)) (C.aO g.t (h++t)).length<=nn)) by
  unfold C.nI C.bZ;rw [aG (C.nU hb (by rw [bC];omega))])
 rw [HR.o];rw [xZ] at HIS qX;have hk:=hM.blk;have hap:=EH h t;have hsh:=dN h;have hcs:(bs h).size+(bs t).size<=800:=by rw [dN,dN];exact hz
 generalize C.isA g.t (h++t) (h.length:Int)=is at *;generalize C.dX g (C.aO g.t (h++t)) (C.aO g.t (h++t)).length=sm at *;generalize g.t.n=tn at hk HIS;generalize g.w.wide=wd at hk;generalize g.k=gk at hk;have c0:w.cell? ⟨mg,0,none⟩=some (ah tn):=(hk.cell 0).trans rfl;have c1:w.cell? ⟨mg,1,none⟩=some pi:=(hk.cell 1).trans rfl;have c2:w.cell? ⟨mg,2,none⟩=some pb:=(hk.cell 2).trans rfl;have c3:w.cell? ⟨mg,3,none⟩=some rv:=(hk.cell 3).trans rfl;have c4:w.cell? ⟨mg,4,none⟩=some nv:=(hk.cell 4).trans rfl;have c5:w.cell? ⟨mg,5,none⟩=some fv:=(hk.cell 5).trans rfl;have Xb:=hk.lt;clear hM hs hb hE hD hG hB hk hz hsz hw HR
 go_in
 go_wp2_with fail
 try rw [hap]
 try rw [hsh]
 refine aT HIS.o λw1 hb1=>?_
 have HB1:=bx hb1;clear hb1 c0 c1 c2 c3 c4 c5 Xb
 cases is with
 | false =>
  go_wp2
  go_ret
  exact⟨rfl,HB1.o⟩
 | true =>
  have pF:=bx (qX.o w1 HB1.o);go_wp2_with fail
  try rw [hap]
  refine dI pF.o HB1.o λw2 HB2=>?_
  go_wp2
  go_ret
  exact⟨aY (by rw [Bool.true_and];try rfl),HB2.o⟩
end
namespace C
def wn (g:Ga) (s e:List UInt8) (n:Int):Nat->Option Nat
 | 0=>none
 | k+1=>yF g s e n k
theorem atg {g:Ga} {s e:List UInt8} {n:Int} {k:Nat} (h:nI g (headA g.t s k) (M.fix e) n=true):wn g s e n (k+1)=some k:=by
 cases k with
 | zero =>
  show (if nI g (headA g.t s 0) (M.fix e) n=true then some 0 else none)=some 0
  rw [aG h]
 | succ k =>
  show (if nI g (headA g.t s (k+1)) (M.fix e) n=true then some (k+1) else yF g s e n k)=some (k+1)
  rw [aG h]
theorem asv {g:Ga} {s e:List UInt8} {n:Int} {k:Nat} (h:nI g (headA g.t s k) (M.fix e) n=false):wn g s e n (k+1)=wn g s e n k:=by
 cases k with
 | zero =>
  show (if nI g (headA g.t s 0) (M.fix e) n=true then some 0 else none)=none
  rw [aF (by rw [h];simp)]
 | succ k =>
  show (if nI g (headA g.t s (k+1)) (M.fix e) n=true then some (k+1) else yF g s e n k)=yF g s e n k
  rw [aF (by rw [h];simp)]
theorem aoZ {g:Ga} {s e:List UInt8} (h:jF g=false):ug g s e=150:=by
 unfold ug;rw [aG h]
theorem apb {g:Ga} {s e:List UInt8} (h:jF g=true) (h1:s.length<=600) (h2:e.length<=60):ug g s e=0:=by
 unfold ug;rw [aF (by rw [h];simp),aF (by omega)]
end C
attribute [local go_sem] Oper.semAt_some
theorem aud (A:Nat->Addr) (B:Nat) (v:Value) (g:C.Ga) (s e:ByteArray) (nn:Int) (w:World) (hv:rM w v g) (hs:nN g.t) (hw:rY g.w) (hz:3*s.size+3*e.size<=800) (hze:e.size<=60) (hE:E A B w) (hD:Ed A B w) (hG:Eg A B w) (hB:B<=w.heap.size) :
  Calls prog 115 #[v, .string s, .string e, ah nn] w λen w'=>en = .returned (.tuple #[ah ((C.su g s.data.toList e.data.toList nn).getD 0:Nat), .bool (C.su g s.data.toList e.data.toList nn).isSome, ah (C.ug g s.data.toList e.data.toList)])/\ak w w':=by
 have BM:=bx (λW (h:ak w W)=>hv.below h);obtain⟨tn,hn⟩:∃ n,n=g.t.n:=⟨_,rfl⟩
 obtain⟨wd,hwd⟩:∃ b,b=g.w.wide:=⟨_,rfl⟩
 obtain⟨gk,hgk⟩:∃ k,k=g.k:=⟨_,rfl⟩
 obtain⟨pi,pb,rv,nv,fv,iv,bv,rfl,h1,h2⟩:=hv;rw [<- hn,<- hwd,<- hgk] at BM;rw [<- hn,<- hwd,<- hgk];obtain⟨V,hV⟩:∃ V,V=w.alloc (.cells #[ah tn,pi,pb,rv,nv,fv,iv,bv, .bool wd, ah gk] 57):=⟨_,rfl⟩
 have HB0:=bx (aB hV);have HK:=bx (aK hV);have aI:=bx (λW (h:ak V W)=>HK.o.d10 h);have HV:=bx hV;have cu:=bx (HB0.o.trans ((dA V (.cells #[.string s, ah 600, .string e, ah 60] 122)).mono HB0.o.size));have pX:=bx (asq V s e 600 60 122);have Gx:=hB;have hrest:∀ W,ak w W->E A B W/\Ed A B W/\Eg A B W/\B<=W.heap.size:=λW h=>⟨hE.below (h.mono hB),hD.below (h.mono hB),hG.below (h.mono hB),bP hB h.size⟩
 have qF:=bx hrest;have vO:=bx (XZ A B _ (.slice (some ⟨V.heap.size,0,none⟩) 2 2) g [(s,600),(e,60)] _ (BM.o _ cu.o) hs hw (hrest _ cu.o).1 (hrest _ cu.o).2.1 (hrest _ cu.o).2.2.1 (hrest _ cu.o).2.2.2);have iM:=bx (Yb A B _ (.slice (some ⟨V.heap.size,0,none⟩) 2 2) g _ (BM.o _ cu.o) hs hw (hrest _ cu.o).1 (hrest _ cu.o).2.1 (hrest _ cu.o).2.2.1 (hrest _ cu.o).2.2.2);have NR:=bx (λW (h:ak w W)=>VD A B 0 (by decide) W (hrest W h).1);obtain⟨k0,k1,k2,k3,k4,k5,k6,k7,k8,k9,kk⟩:=aI.o V aZ;have ng:=bx (λ(hgb:C.jF g=true) W mg hm pi pb rv nv fv iv bv (h:ak w W) (hM:Mt W mg hm pi pb rv nv fv iv bv g)=>XF A B mg hm pi pb rv nv fv iv bv g s W hM hs hgb (by omega) (hrest W h).1 (hrest W h).2.1 (hrest W h).2.2.1 (hrest W h).2.2.2);have HCM:=bx (λ(hgb:C.jF g=true) W mg hm pi pb rv nv fv iv bv (hd tl:List UInt8) (h:ak w W) (hM:Mt W mg hm pi pb rv nv fv iv bv g) (hz:hd.length+tl.length<=800)=>asi A B mg hm pi pb rv nv fv iv bv g hd tl nn W hM hs hw hgb hz (hrest W h).1 (hrest W h).2.1 (hrest W h).2.2.1 (hrest W h).2.2.2);have vP:=bx (λW (h:ak w W)=>wZ A B e W (by omega) (hrest W h).1 (hrest W h).2.2.2)
 cases hgb:C.jF g with
 | false =>
  have HR:=bx (show C.su g s.data.toList e.data.toList nn=none/\C.ug g s.data.toList e.data.toList=150 by
   have h:=C.aoZ (s:=s.data.toList) (e:=e.data.toList) hgb;unfold C.su;rw [h];exact⟨rfl,rfl⟩)
  rw [HR.o.1,HR.o.2];clear ng vP;have iM:=bx (iM.o hgb);clear vO HCM h1 h2 hV hs hw hn hwd hgk hE hD hG hB hgb hrest Gx hz
  go_in
  go_upto_region 1 with(fail)
  rw [<- HV.o];go_wp2_with fail;refine dI iM.o cu.o λw1 HB1=>?_
  have HT1:=bx (NR.o w1 HB1.o);clear k0 k1 k2 k3 k4 k5 k6 k7 k8 k9 kk;unfold oZ at HT1 ⊢;go_wp2_with fail;refine aP HT1.o ?_;go_wp2_with fail
  go_ret3
  exact⟨rfl,HB1.o⟩
 | true =>
  have hge:=C.nU (s:=s.data.toList) hgb (by rw [<- size_eq];omega);have hE0:=C.apb (s:=s.data.toList) (e:=e.data.toList) hgb (by rw [<- size_eq];omega) (by rw [<- size_eq];omega);have HR:=bx (show C.su g s.data.toList e.data.toList nn=C.wn g s.data.toList e.data.toList nn ((C.bf g.t s.data.toList).length+1)/\C.ug g s.data.toList e.data.toList=0 by
   unfold C.su;rw [aG hE0];exact⟨rfl,hE0⟩)
  rw [HR.o.1,HR.o.2];have lG:=bx (λk=>show (C.headA g.t s.data.toList k).length<=3*s.size by
   have h:=C.aaR g s.data.toList hge k;rw [<- size_eq] at h;exact h)
  have WH:=bx (show (M.fix e.data.toList).length<=3*e.size by have:=C.qJ e.data.toList;rw [<- size_eq] at this;exact this);have qj:=bx (show (C.bf g.t s.data.toList).length<=1000 by
   rw [C.Ru hge,C.Gt];have h1:=(qg g.t s.data.toList).2.len;have h2:=uJ s.data.toList;rw [<- size_eq] at h2;omega)
  have HHD:=bx (λk=>show ((C.bf g.t s.data.toList).take k).flatten=C.headA g.t s.data.toList k from rfl);have HCM:=bx (HCM.o hgb);have ng:=bx (ng.o hgb);have dU:=bx (show 3*s.size+3*e.size<=800 from hz);have QZ:=bx (λk=>C.atg (g:=g) (s:=s.data.toList) (e:=e.data.toList) (n:=nn) (k:=k));have Iz:=bx (λk=>C.asv (g:=g) (s:=s.data.toList) (e:=e.data.toList) (n:=nn) (k:=k));have HW0:=bx (show C.wn g s.data.toList e.data.toList nn 0=none from rfl);clear hge HR hE0;generalize C.wn g s.data.toList e.data.toList nn=wn at *;generalize C.headA g.t s.data.toList=hda at *;generalize C.bf g.t s.data.toList=cl at *;generalize M.fix e.data.toList=fe at *;obtain⟨n,hn⟩:∃ n,n=cl.length:=⟨_,rfl⟩
  have HN:=bx hn;rw [<- hn];clear hn;have vO:=bx (vO.o hgb pX.o (by simp) (by intro x hx;simp only [fB,qV,or_false] at hx;rcases hx with rfl | rfl <;> dsimp only <;> omega));clear iM h1 h2 hV hs hw hn hwd hgk hE hD hG hB hrest Gx
  go_in
  go_upto_region 1 with(fail)
  rw [<- HV.o];go_wp2_with fail;refine vO.o.mono ?_;rintro e w1 ⟨⟨mg,hm,zf,pb',rv',yU,zi,uG,vJ,rfl,hM⟩,hb1⟩;have HB1:=aJ cu hb1;have pF:=bx hM;clear hb1 hM k0 k1 k2 k3 k4 k5 k6 k7 k8 k9 kk;have pU:=bx (ng.o w1 mg hm zf pb' rv' yU zi uG vJ HB1.o pF.o);have AL:=bx (λW hd (h:ak w1 W) (hz:hd.length+fe.length<=800)=>HCM.o W mg hm zf pb' rv' yU zi uG vJ hd fe (bt HB1.o h) (pF.o.below h) hz);clear HCM ng;clear hz hze;go_wp2_with fail;refine pU.o.mono ?_;rintro e0 w2 ⟨⟨v2,rfl,hv2,-⟩,hb2⟩;have HB2:=bx hb2;have iV:=bx hv2;clear hb2;obtain⟨la,lc,rfl,hl1,hl2⟩:=hv2.slice;rw [<- HN.o] at hl1 iV ⊢;clear hv2;go_wp2_with fail
  go_loopw [14] (λkv wr=>∃ z:Int,kv = ah z/\-1<=z/\z<=n/\Box (wn (n+1)=wn (z+1).toNat)/\Box (ak w2 wr)) (λkv _=>(intOf kv+1).toNat)
  ·exact⟨_,rfl,by omega,by omega,⟨by rw [show ((n:Int)+1).toNat=n+1 by omega]⟩,⟨Below.refl _ _⟩⟩
  obtain⟨z,rfl,hz1,hz2,hwn,hb⟩:=hrel
  by_cases hlt:0<=z
  ·obtain⟨k,rfl⟩:∃ k:Nat,z=k:=⟨z.toNat,by omega⟩
   have hkn:k<=n:=by omega
   have e1:((k:Int)+1).toNat=k+1:=by omega
   rw [e1] at hwn;have htl:(cl.take k).length=k:=by rw [dw];have:=HN.o;omega
   have Wl:=bx (λW (h:ak w2 W)=>show Calls prog 70 #[.slice la k lc, .string (bs [])] W λe w'=>e = .returned (.string (bs (cl.take k).flatten))/\ak W w' by
    have h3:=iV.o.below h;rw [HN.o] at h3;have h2:=cZ.take h3 k lc (by rw [htl];omega) aU;rw [htl] at h2;exact Eo _ _ W h2 (by rw [HHD.o];have:=lG.o k;have:=dU.o;omega) (by rw [htl];have:=HN.o;have:=qj.o;omega))
   have hkl:k<=lc:=by omega
   rw [HHD.o] at Wl;have dL:=bx hb.o;have bM:=bx (bt HB2.o hb.o);have F8:=bx (show (hda k).length+fe.length<=800 by have:=lG.o k;have:=WH.o;have:=dU.o;omega);have OJ:=bx hwn.o;have HZ:=bx hz2
   cases hgo:C.nI g (hda k) fe nn with
   | true =>
    have Yd:=bx (hgo▸λW h=>AL.o W (hda k) h F8.o);have GY:=bx (OJ.o.trans (QZ.o k hgo));clear e1 htl hgo hb hwn hz1 hz2;go_wp2_with fail;refine dI (Wl.o wr dL.o) bM.o λw3 HB3=>?_
    go_wp2_with fail;refine dI (vP.o w3 (bt HB1.o HB3.o)) HB3.o λw4 HB4=>?_
    go_wp2_with fail;refine dI (Yd.o w4 HB4.o) HB4.o λw5 bU=>?_
    go_wp2_with fail
    go_ret3
    exact⟨by rw [GY.o];rfl,bt HB1.o bU.o⟩
   | false =>
    have Yd:=bx (hgo▸λW h=>AL.o W (hda k) h F8.o);have GY:=bx (OJ.o.trans (Iz.o k hgo));clear e1 htl hgo hb hwn hz1 hz2;go_wp2_with fail;refine aT (Wl.o wr dL.o) λw3 hb3=>?_
    have HB3:=aJ bM hb3;have pG:=bx hb3;clear hb3;go_wp2_with fail;refine aT (vP.o w3 (bt HB1.o HB3.o)) λw4 hb4=>?_
    have HB4:=aJ HB3 hb4;have CB:=bx hb4;clear hb4;go_wp2_with fail;refine aT (Yd.o w4 HB4.o) λw5 hb5=>?_
    have bU:=aJ HB4 hb5;have AY:=bx hb5;have aki:=bx (show ak w2 w5 from dL.o.trans ((pG.o.trans ((bt CB.o AY.o).mono pG.o.size)).mono dL.o.size));clear hb5
    go_wp2
    go_roundw
    ·exact⟨(k:Int)-1,rfl,by omega,by have:=HZ.o;omega,⟨by rw [show ((k:Int)-1+1).toNat=k by omega];exact GY.o⟩,aki⟩
    simp [intOf]
  obtain rfl:z=-1:=by omega
  have OJ:=bx (hwn.o.trans HW0.o);rw [OJ.o];clear hwn;have bM:=bx (HB1.o.trans ((bt HB2.o hb.o).mono HB1.o.size));clear hb;go_wp2_with fail
  go_ret3
  exact⟨by rw [OJ.o];rfl,bM.o⟩
section
attribute [local go_sem] Oper.semAt_some
structure Sw (A:Nat->Addr) (B:Nat) (w:World):Prop where
 e:E A B w
 d:Ed A B w
 g:Eg A B w
 t:zW w
 le:B<=w.heap.size
theorem Sw.below {A:Nat->Addr} {B:Nat} {w w':World} (h:Sw A B w) (hb:ak w w'):Sw A B w':=⟨h.e.below (hb.mono h.le),h.d.below (hb.mono h.le),h.g.below (hb.mono h.le),(hb.cell (p:=⟨6,0,none⟩) (World.block_lt_of_cell? w _ h.t)).trans h.t,bP h.le hb.size⟩
theorem bT {a b c:World} (h:ak a b) (k:ak b c):ak a c:=bt h k
theorem rM.slices {w:World} {v:Value} {g:C.Ga} (h:rM w v g):∃ x1 z1 x2 z2 x3 z3 x4 z4 x5 z5 x6 z6 x7 z7,v = .agg #[ah g.t.n, .slice x1 g.t.p.1.length z1, .slice x2 g.t.p.2.length z2, .slice x3 g.t.r.length z3, .slice x4 g.t.m.1.length z4, .slice x5 g.t.m.2.length z5, .slice x6 g.w.p.1.length z6, .slice x7 g.w.p.2.length z7, .bool g.w.wide, ah g.k]:=by
 obtain⟨pi,pb,rv,nv,fv,iv,bv,rfl,⟨_,_,_,_,_,h1,t1,t2,t3,t4,t5⟩,⟨_,_,h2,t6,t7⟩⟩:=h;injection h1 with h1;injection h2 with h2;simp only [Array.mk.injEq,jm] at h1 h2;obtain⟨-,rfl,rfl,rfl,rfl,rfl,-⟩:=h1;obtain⟨rfl,rfl,-⟩:=h2;obtain⟨a1,c1,rfl⟩:=t1.slice;obtain⟨a2,c2,rfl⟩:=t2.slice;obtain⟨a3,c3,rfl⟩:=t3.slice;obtain⟨a4,c4,rfl⟩:=t4.slice;obtain⟨a5,c5,rfl⟩:=t5.slice;obtain⟨a6,c6,rfl⟩:=t6.slice;obtain⟨a7,c7,rfl⟩:=t7.slice;exact⟨a1,c1,a2,c2,a3,c3,a4,c4,a5,c5,a6,c6,a7,c7,rfl⟩
theorem Bj (t:F.Trie):(lY t).1.length<=4360/\(lY t).2.length<=30/\∀ r∈(lY t).2,r.length<=260:=by
 refine⟨?_,?_,λr hr=>?_⟩
 ·show (t.1.take 4360).length<=_;rw [dw];omega
 ·show ((t.2.take 30).map Hy).length<=_;rw [aV,dw];omega
 obtain⟨y,-,rfl⟩:=jM.1 hr;unfold Hy;rw [dw];omega
theorem adK (t:Tab):nN (eH t) where
 p1:=by have:=(Bj t.p).1;show (lY t.p).1.length<=_;omega
 p2:=by have:=(Bj t.p).2.1;show (lY t.p).2.length<=_;omega
 p3:=λr hr=>by have:=(Bj t.p).2.2 r hr;omega
 r1:=λx hx=>by
  have hx2:=List.mem_of_mem_take hx;unfold Ic at hx2;obtain⟨y,-,rfl⟩:=jM.1 hx2;unfold uS Ik;simp only [dw];exact⟨by omega,by omega⟩
 r2:=by show ((Ic t.r).take 12).length<=_;rw [dw];omega
 m:=aol t.m
theorem asT (c:C.Wd):rY (tq c) where
 p1:=by have:=(Bj c.p).1;show (lY c.p).1.length<=_;omega
 p2:=by have:=(Bj c.p).2.1;show (lY c.p).2.length<=_;omega
 p3:=λr hr=>by have:=(Bj c.p).2.2 r hr;omega
def Y5 (s:ByteArray) (n:Nat):ByteArray:=s.extract 0 (min s.size n)
theorem aqm (s:ByteArray) (n:Nat):(Y5 s n).data.toList=s.data.toList.take n:=by
 unfold Y5;rw [Lib.extract_data];have h:s.data.toList.length=s.size:=by rw [size_eq]
 show (s.data.toList.drop 0).take (min s.size n-0)=_
 rw [List.drop_zero,Nat.sub_zero]
 rcases Nat.le_total s.size n with h1 | h1
 ·rw [sH h1,gq (by omega),gq (by omega)]
 rw [Nat.min_eq_right h1]
theorem ajJ (s:ByteArray) (n:Nat):(Y5 s n).size<=n:=by rw [size_eq,aqm,dw];omega
end
section
open Go.ChangeShapes Go.WideShapes Go.ChangeAt Go.RowKit
section
variable {H:Type} {enc:TypeId×Value->H} {P:Program}
theorem avv {f:Func} {s:ChangeSpec} {apart fresh handsOn again:Bool} {W W':World} {args:Array Value} {v:Value} {ds gs:List (DataW H)} {before pa pv:List MemPlace}
  (hW:DataW.Whole enc P f.params.toList s.vars apart W args.toList ds gs before)
  (hres:∀ (b:Nat) (sp:Nat->Bool) (hd:Bool),DataW.TrodAll enc P W' b sp hd f.resultTypes.toList (v.resultList f.resultTypes.size) (s.fn H (ds++gs)).results [])
  (hargs:∀ sp:Nat->Bool,(∀ p∈before,sp p.block=true)->DataW.TrodAll enc P W' 0 sp true f.params.toList args.toList (s.fn H (ds++gs)).args pa)
  (hvars:∀ sp:Nat->Bool,(∀ p∈before,sp p.block=true)->DataW.TrodVars enc P W' sp s.vars (s.fn H (ds++gs)).vars pv)
  (hps:before=pa++pv) (hb:ak W W')
  (hok:∀ (j:Nat) (t:TypeId) (r:Value),f.resultTypes[j]?=some t->(v.resultList f.resultTypes.size)[j]?=some r->Value.okWide P W' .any 0 t r) :
  s.post enc P f apart fresh handsOn again W args v W':=by
 have hlt:∀ p∈before,p.block<W.heap.size:=λp hp=>hW.lt p hp
 have hold:∀ p∈before,(λb=>decide (b<W.heap.size)) p.block=true:=λp hp=>by simpa using hlt p hp
 refine⟨ds,gs,before,[],pa,pv,hW,hres _ _ _,hargs _ hold,hvars _ hold,World.keptBut_mono (λp hp=>⟨hp,?_⟩) (hb.frame (·∈before)),λ_=>?_⟩
 ·rw [hps,lM] at hp;exact Or.inr hp
 obtain⟨_,_,_,_,_,hz,hn⟩:=hW;refine⟨hok,_,_,([]++pa)++pv,⟨[]++pa,pv,trodAll_append (hargs _ (λ_ _=>rfl)) (hres _ _ _),hvars _ (λ_ _=>rfl),rfl,?_,?_⟩,?_⟩
 ·intro b off hp;have hin:MemPlace.cell b off∈before:=by rw [hps];simpa using hp
  rw [hb.frozen (hlt _ hin)];exact hz b off hin
 ·intro ha;have:=hn ha;rw [hps] at this
  simpa using this
 intro p hp _;rw [hps]
 simpa using hp
end
theorem own:ownKnob prog.godebug=none:=by kernel_rfl
theorem apw:prog.cellsOf 467=1:=by kernel_rfl
theorem alp:prog.cellsOf 9=1:=by kernel_rfl
theorem aa1 : "*" ++ "errors.errorString" = "*errors.errorString" := by decide
theorem aou (u:TypeId) (h:prog.typeName? 3 u=some "*errors.errorString"):u=448 :=
 typeName_ptr_named (nm := "errors.errorString") (by rw [aa1];kernel_rfl) (by kernel_rfl) (by decide) u (by rw [aa1];exact h)
theorem gN0:prog.globalNamed "virama/scalar.errScalar" = some 2/\(prog.globals[2]?).map (·.type)=some 87:=⟨by kernel_rfl,by kernel_rfl⟩
theorem gN1:prog.globalNamed "virama/scalar.errUtf" = some 3/\(prog.globals[3]?).map (·.type)=some 87:=⟨by kernel_rfl,by kernel_rfl⟩
theorem gN2:prog.globalNamed "virama/dfa.errRule" = some 14/\(prog.globals[14]?).map (·.type)=some 87:=⟨by kernel_rfl,by kernel_rfl⟩
theorem gN3:prog.globalNamed "virama/dfa.errMachine" = some 10/\(prog.globals[10]?).map (·.type)=some 87:=⟨by kernel_rfl,by kernel_rfl⟩
theorem gN4:prog.globalNamed "virama/seg.errCut" = some 7/\(prog.globals[7]?).map (·.type)=some 87:=⟨by kernel_rfl,by kernel_rfl⟩
theorem gN5:prog.globalNamed "virama/title.errCase" = some 4/\(prog.globals[4]?).map (·.type)=some 87:=⟨by kernel_rfl,by kernel_rfl⟩
theorem gN6:prog.globalNamed "virama/title.errText" = some 5/\(prog.globals[5]?).map (·.type)=some 87:=⟨by kernel_rfl,by kernel_rfl⟩
theorem gN7:prog.globalNamed "virama/title.errScalar" = some 8/\(prog.globals[8]?).map (·.type)=some 87:=⟨by kernel_rfl,by kernel_rfl⟩
theorem gN8:prog.globalNamed "virama/title.errPlace" = some 9/\(prog.globals[9]?).map (·.type)=some 87:=⟨by kernel_rfl,by kernel_rfl⟩
theorem gN9:prog.globalNamed "virama/width.errWidth" = some 11/\(prog.globals[11]?).map (·.type)=some 87:=⟨by kernel_rfl,by kernel_rfl⟩
theorem alP:prog.globalNamed "virama/width.errScalar" = some 13/\(prog.globals[13]?).map (·.type)=some 87:=⟨by kernel_rfl,by kernel_rfl⟩
theorem an7:prog.globalNamed "virama/width.errUtf" = some 12/\(prog.globals[12]?).map (·.type)=some 87:=⟨by kernel_rfl,by kernel_rfl⟩
theorem av6:prog.globalNamed "virama/gauge.errGauge" = some 0/\(prog.globals[0]?).map (·.type)=some 87:=⟨by kernel_rfl,by kernel_rfl⟩
theorem arX:prog.globalNamed "virama/gauge.errText" = some 1/\(prog.globals[1]?).map (·.type)=some 87:=⟨by kernel_rfl,by kernel_rfl⟩
def Yq:List Sent:=[("virama/scalar.errScalar",2,[110,111,32,115,99,97,108,97,114]),("virama/scalar.errUtf",3,[110,111,116,32,119,101,108,108,45,102,111,114,109,101,100]),("virama/dfa.errRule",14,[110,111,32,114,117,108,101,115]),("virama/dfa.errMachine",10,[110,111,32,109,97,99,104,105,110,101]),("virama/seg.errCut",7,[110,111,32,99,117,116,115]),("virama/title.errCase",4,[110,111,32,99,97,115,101,115]),("virama/title.errText",5,[116,111,111,32,108,111,110,103]),("virama/title.errScalar",8,[110,111,32,115,99,97,108,97,114,115]),("virama/title.errPlace",9,[110,111,32,112,108,97,99,101]),("virama/width.errWidth",11,[110,111,32,119,105,100,116,104,115]),("virama/width.errScalar",13,[110,111,32,115,99,97,108,97,114]),("virama/width.errUtf",12,[110,111,116,32,119,101,108,108,45,102,111,114,109,101,100]),("virama/gauge.errGauge",0,[110,111,32,103,97,117,103,101]),("virama/gauge.errText",1,[116,111,111,32,108,111,110,103])]
noncomputable def low:Nat:=(World.holding prog default ⟨#[],#[],[]⟩).heap.size
noncomputable def laidWorld (os:Os):World :=
 let w0:=World.holding prog os ⟨#[(.cells #[.string { data:=#[110,111,32,115,99,97,108,97,114] }] 467:Obj),(.cells #[.string { data:=#[110,111,116,32,119,101,108,108,45,102,111,114,109,101,100] }] 467:Obj),(.cells #[.string { data:=#[110,111,32,114,117,108,101,115] }] 467:Obj),(.cells #[.string { data:=#[110,111,32,109,97,99,104,105,110,101] }] 467:Obj),(.cells #[.string { data:=#[110,111,32,99,117,116,115] }] 467:Obj),(.cells #[.string { data:=#[110,111,32,99,97,115,101,115] }] 467:Obj),(.cells #[.string { data:=#[116,111,111,32,108,111,110,103] }] 467:Obj),(.cells #[.string { data:=#[110,111,32,115,99,97,108,97,114,115] }] 467:Obj),(.cells #[.string { data:=#[110,111,32,112,108,97,99,101] }] 467:Obj),(.cells #[.string { data:=#[110,111,32,119,105,100,116,104,115] }] 467:Obj),(.cells #[.string { data:=#[110,111,32,115,99,97,108,97,114] }] 467:Obj),(.cells #[.string { data:=#[110,111,116,32,119,101,108,108,45,102,111,114,109,101,100] }] 467:Obj),(.cells #[.string { data:=#[110,111,32,103,97,117,103,101] }] 467:Obj),(.cells #[.string { data:=#[116,111,111,32,108,111,110,103] }] 467:Obj)],#[],[]⟩
 { w0 with heap:=(((((((((((((((w0.heap.modify 2 fun
   | .cells _ t frozen=>.cells #[.iface 448 (aA (low+0))] t frozen
   | o=>o).modify 3 fun
   | .cells _ t frozen=>.cells #[.iface 448 (aA (low+1))] t frozen
   | o=>o).modify 14 fun
   | .cells _ t frozen=>.cells #[.iface 448 (aA (low+2))] t frozen
   | o=>o).modify 10 fun
   | .cells _ t frozen=>.cells #[.iface 448 (aA (low+3))] t frozen
   | o=>o).modify 7 fun
   | .cells _ t frozen=>.cells #[.iface 448 (aA (low+4))] t frozen
   | o=>o).modify 4 fun
   | .cells _ t frozen=>.cells #[.iface 448 (aA (low+5))] t frozen
   | o=>o).modify 5 fun
   | .cells _ t frozen=>.cells #[.iface 448 (aA (low+6))] t frozen
   | o=>o).modify 8 fun
   | .cells _ t frozen=>.cells #[.iface 448 (aA (low+7))] t frozen
   | o=>o).modify 9 fun
   | .cells _ t frozen=>.cells #[.iface 448 (aA (low+8))] t frozen
   | o=>o).modify 11 fun
   | .cells _ t frozen=>.cells #[.iface 448 (aA (low+9))] t frozen
   | o=>o).modify 13 fun
   | .cells _ t frozen=>.cells #[.iface 448 (aA (low+10))] t frozen
   | o=>o).modify 12 fun
   | .cells _ t frozen=>.cells #[.iface 448 (aA (low+11))] t frozen
   | o=>o).modify 0 fun
   | .cells _ t frozen=>.cells #[.iface 448 (aA (low+12))] t frozen
   | o=>o).modify 1 fun
   | .cells _ t frozen=>.cells #[.iface 448 (aA (low+13))] t frozen
   | o=>o).modify 6 fun
   | .cells _ t frozen=>.cells #[.iface 351 (.agg #[.pointer (some ⟨16,87,none⟩)])] t frozen
   | o=>o) }
theorem et:prog.globalNamed "errors.errorType" = some 6:=by kernel_rfl
theorem rt:(prog.cutTypes.find? (·.1 == "internal/reflectlite.rtype")).map (·.2)=some 351:=by kernel_rfl
theorem oneRow:((List.range prog.types.size).filter λt=>prog.rowNamed t [101,114,114,111,114])=[87]:=by kernel_rfl
theorem laid_met (os:Os) (args:Array Value):laidMetH prog Rows.opsTurnedRow.laid ((laidWorld os).forCall (λ_ _=>0) ⟨#[],args,[]⟩).memory :=
 laidMetH_of_parts (laidMet_of_run (ps:=[.cell 2 0, .cell (low+0) 0, .cell 3 0, .cell (low+1) 0, .cell 14 0, .cell (low+2) 0, .cell 10 0, .cell (low+3) 0, .cell 7 0, .cell (low+4) 0, .cell 4 0, .cell (low+5) 0, .cell 5 0, .cell (low+6) 0, .cell 8 0, .cell (low+7) 0, .cell 9 0, .cell (low+8) 0, .cell 11 0, .cell (low+9) 0, .cell 13 0, .cell (low+10) 0, .cell 12 0, .cell (low+11) 0, .cell 0 0, .cell (low+12) 0, .cell 1 0, .cell (low+13) 0]) 8 (by kernel_rfl) (by kernel_rfl) (by kernel_rfl)) (by kernel_rfl)
theorem am8 {W:World} (hL:laidMetH prog Rows.opsTurnedRow.laid W):(∃ A:Nat->Addr,Env (Yq.map (·.2.1)) 448 A W.heap.size W)/\zW W:=by
 have h':laidMet prog (Yq.map (XK "*errors.errorString")) W/\handlesMet prog [("errors.errorType",Rows.laid_errors_errorType)] W:=hL;refine⟨ao5 underlying87 aou underlying448 underlying467 rfl rfl underlying9 apw alp Yq
  (xX.2 ⟨gN0,xX.2 ⟨gN1,xX.2 ⟨gN2,xX.2 ⟨gN3,xX.2 ⟨gN4,xX.2 ⟨gN5,xX.2 ⟨gN6,xX.2 ⟨gN7,xX.2 ⟨gN8,xX.2 ⟨gN9,xX.2 ⟨alP,xX.2 ⟨an7,xX.2 ⟨av6,xX.2 ⟨arX,λ_ h=>absurd h iH⟩⟩⟩⟩⟩⟩⟩⟩⟩⟩⟩⟩⟩⟩) h'.1,?_⟩
 obtain⟨name,u,ty,e1,e2,e3,e4,e5⟩:=h'.2 _ (fU.2 rfl);have en:name=[101,114,114,111,114]:=(Option.some.inj e1).symm;subst en;obtain rfl:=Option.some.inj (rt.symm.trans e2);have hm:ty∈(List.range prog.types.size).filter λt=>prog.rowNamed t [101,114,114,111,114]:=List.mem_filter.2 ⟨oM.2 e3,e4⟩
 rw [oneRow] at hm;obtain rfl:=fU.1 hm;have hh:typeHandle prog 87 = .pointer (some ⟨16,87,none⟩):=by kernel_rfl
 rw [hh] at e5;unfold zW
 simpa using World.var?_cell et e5 0
theorem LC {W:World} (hL:laidMetH prog Rows.opsTurnedRow.laid W):∃ A:Nat->Addr,Sw A W.heap.size W:=by
 obtain⟨⟨A,h⟩,ht⟩:=am8 hL;exact⟨A,Yx h (by decide),Yx h (by decide),Yx h (by decide),ht,bK _⟩
section
variable {H:Type} {enc:TypeId×Value->H} {P:Program}
theorem afQ (hl:laidOutB P=true) {W W':World} (hb:ak W W'):∀ (ts:List TypeId) {vs:List Value} {ds:List (DataW H)} {ps:List MemPlace},(∀ t∈ts,P.readableRec t=true/\t<P.types.size) ->
  DataW.TrodAll enc P W 0 (λ_=>true) true ts vs ds ps->(∀ p∈ps,p.block<W.heap.size)->∀ sp:Nat->Bool,(∀ p∈ps,sp p.block=true)->DataW.TrodAll enc P W' 0 sp true ts vs ds ps
 | [],vs,ds,ps,_,h,_,sp,_=>by
  obtain⟨rfl,rfl,rfl⟩:=trodAll_nil h;exact trodAll_mk0
 | t::ts,vs,ds,ps,hr,h,hlt,sp,hs=>by
  obtain⟨v,vs',d,ds',p,q,rfl,rfl,rfl,h1,h2⟩:=trodAll_cons h;have ht:=hr t (jZ ..);exact trodAll_cons_mk (WideElems.Trod_stays hl ht.1 ht.2 h1 (λx hx=>hb.same (hlt x (List.mem_append_left _ hx))) (λx hx=>hs x (List.mem_append_left _ hx)))
   (afQ hl hb ts (λt' h'=>hr t' (mZ _ h')) h2 (λx hx=>hlt x (List.mem_append_right _ hx)) sp (λx hx=>hs x (List.mem_append_right _ hx)))
theorem KO {f:Func} {s:ChangeSpec} {apart fresh handsOn again:Bool} {W W':World} {args:Array Value} {ds:List (DataW H)} {before:List MemPlace} {tb:TypeId} (hl:laidOutB P=true)
  (hv:s.vars=[]) (hW:DataW.Whole enc P f.params.toList s.vars apart W args.toList ds [] before) (hb:ak W W') (htb:P.underlying tb=some .bool) (hr:f.resultTypes=#[tb])
  (hread:∀ t∈f.params.toList,P.readableRec t=true/\t<P.types.size) (hs:s.fn H ds={ results:=[.lit (.bool true)],args:=ds }) :
  s.post enc P f apart fresh handsOn again W args (.bool true) W':=by
 have hW':=hW;obtain⟨p,q,hA,hV,he,hfz,hnd⟩:=hW;rw [hv] at hV;obtain⟨-,rfl⟩:=trodVars_none hV;rw [oG] at he;subst he;have hlt:∀ x∈before,x.block<W.heap.size:=λx hx=>hW'.lt x hx
 have hs':s.fn H (ds++[])={ results:=[.lit (.bool true)],args:=ds }:=by rw [oG];exact hs
 refine avv (pa:=before) (pv:=[]) hW' ?_ ?_ ?_ (by simp) hb (ok_one hr rfl (okWide_bool_mk htb _))
 ·intro b sp hd;rw [hs',hr];exact trodAll_mk1 (shut_bool htb _)
 ·intro sp hsp;rw [hs'];exact afQ hl hb _ hread hA hlt sp hsp
 intro sp _;rw [hs',hv]
 rfl
end
end
section
open Go.ChangeShapes Go.WideShapes Go.Deep
section
variable {H:Type} {enc:TypeId×Value->H} {W:World}
theorem ab6 {fuel:Nat} {cs:List Value} {x:DataW H×List MemPlace} (h:DataW.trod enc prog W 0 (λ_=>true) true fuel 31 cs=some x) :
  ∃ (t:Tab) (pi pb rv nv fv:Value),cs=[ah t.n,pi,pb,rv,nv,fv]/\TabAt W (.agg #[ah t.n,pi,pb,rv,nv,fv]) t:=by
 obtain⟨y0,y1,y2,y3,n,-,hl,h0,h1,h2,h3⟩:=Go.Joins.trod_struct4 underlying31 h;obtain⟨c0,c1,c2,c3,c4,c5,rfl⟩:=ahO (l:=cs) (hl.trans (by kernel_rfl));obtain⟨k,e0,_⟩:=DataW.trod_int underlying3 h0;have e0':[c0]=[ah k]:=e0;simp only [jm,and_true] at e0';subst e0';obtain⟨a2,b2,t2,e2,k1,k2⟩:=Tn (cs:=[c1,c2]) h1;obtain⟨l1,hl1⟩:=iD.open (v:=c3) h2;obtain⟨a3,b3,t3,e3,k3,k4⟩:=akS (cs:=[c4,c5]) h3;simp only [jm,and_true] at e2 e3;obtain⟨rfl,rfl⟩:=e2;obtain⟨rfl,rfl⟩:=e3;exact⟨⟨k,t2,l1,t3⟩,_,_,_,_,_,rfl,_,_,_,_,_,rfl,k1,k2,hl1,k3,k4⟩
theorem aqX {α:Type} {l:List α} (h:l.length=3):∃ a b c,l=[a,b,c]:=by
 match l,h with
 | [a,b,c],_=>exact⟨a,b,c,rfl⟩
theorem asL {fuel:Nat} {cs:List Value} {x:DataW H×List MemPlace} (h:DataW.trod enc prog W 0 (λ_=>true) true fuel 33 cs=some x) :
  ∃ (c:C.Wd) (iv bv:Value),cs=[iv,bv, .bool c.wide]/\WideAt W (.agg #[iv,bv, .bool c.wide]) c:=by
 obtain⟨y0,y1,n,-,hl,h0,h1⟩:=trod_struct2 underlying33 h;obtain⟨c0,c1,c2,rfl⟩:=aqX (l:=cs) (hl.trans (by kernel_rfl));obtain⟨a2,b2,t2,e2,k1,k2⟩:=Tn (cs:=[c0,c1]) h0;simp only [jm,and_true] at e2;obtain⟨rfl,rfl⟩:=e2;obtain⟨b,e0⟩:=DataW.trod_bool underlying4 h1;have e0':[c2]=[.bool b]:=e0.1;simp only [jm,and_true] at e0';subst e0';exact⟨⟨t2,b⟩,_,_,rfl,_,_,rfl,k1,k2⟩
end
end
namespace C
structure Kt where
 c:Tab
 w:Tab
 d:Wd
 s:T.Cs
def bH (k:Kt):Bool:=nD k.c&&nD k.w&&vZ k.d&&T.lI 600 k.s
def kg (k:Kt) (i:Int):Ga:=⟨k.c,k.d,i⟩
theorem CY {k:Kt} (h:bH k=true) {i:Int} (h0:0<=i) (h2:i<=2):jF (kg k i)=true:=by
 unfold bH at h;simp only [dD] at h;unfold jF kg;simp only [h.1.1.1,h.1.2,bD h0,bD h2,Bool.and_self]
def lH (k:Kt) (s e:List UInt8):Int:=if bH k=false then 160 else if 600<s.length\/60<e.length then 121 else 0
theorem He {k:Kt} {s e:List UInt8} (h:bH k=false):lH k s e=160:=by unfold lH;rw [aG h]
theorem uV {k:Kt} {s e:List UInt8} (h:bH k=true) (h1:s.length<=600) (h2:e.length<=60):lH k s e=0:=by
 unfold lH;rw [aF (by rw [h];simp),aF (by omega)]
def kY (k:Kt) (i:Int) (s:List UInt8) (n:Int) (e:List UInt8):Int:=if lH k s e=0 then (if i<0\/2<i then 150 else if n<0 then 161 else 0) else lH k s e
def vS (g:Ga) (s:List UInt8) (n:Int) (e:List UInt8):List UInt8:=if bZ g s<=n then M.fix s else if n<bZ g e then [] else headA g.t s ((su g s e n).getD 0)++M.fix e
def qm (k:Kt) (i:Int) (s:List UInt8) (n:Int) (e:List UInt8):List UInt8:=if kY k i s n e=0 then vS (kg k i) s n e else []
def sD (ls:List (List Int)) (k:Nat):Nat:=((ls.take k).map λl=>(U.textOf l).length).sum
def tu (ls:List (List Int)) (k:Nat):Nat:=((ls.take k).map List.length).sum
def pW (ls:List (List Int)) (b c:Int) (k:Nat):Bool:=decide ((sD ls k:Int)<=b)&&decide ((tu ls k:Int)<=c)
def lQ (ls:List (List Int)) (b c:Int):Nat->Nat
 | 0=>0
 | k+1=>if pW ls b c (k+1)=true then k+1 else lQ ls b c k
def qI (k:Kt) (s:List UInt8) (b c:Int):Int:=if lH k s []=0 then (if b<0\/c<0 then 161 else 0) else lH k s []
def vU (k:Kt) (s:List UInt8) (b c:Int):List UInt8:=if qI k s b c=0 then headA k.c s (lQ (aO k.c s) b c (aO k.c s).length) else []
theorem ajg (ls:List (List Int)) {k:Nat} {l:List Int} (h:ls[k]?=some l):sD ls (k+1)=sD ls k+(U.textOf l).length:=by
 obtain⟨hk,rfl⟩:=dO h;unfold sD;rw [Ja hk,gX,List.sum_append];simp
theorem adI (ls:List (List Int)) {k:Nat} {l:List Int} (h:ls[k]?=some l):tu ls (k+1)=tu ls k+l.length:=by
 obtain⟨hk,rfl⟩:=dO h;unfold tu;rw [Ja hk,gX,List.sum_append];simp
theorem alX (ls:List (List Int)) (k:Nat):sD ls k<=sD ls (k+1):=by
 cases h:ls[k]? with
 | none =>
  have:=Vz.1 h;unfold sD;rw [gq (by omega),gq (by omega)];exact bK _
 | some l=>rw [ajg ls h];omega
theorem awn (ls:List (List Int)) (k:Nat):tu ls k<=tu ls (k+1):=by
 cases h:ls[k]? with
 | none =>
  have:=Vz.1 h;unfold tu;rw [gq (by omega),gq (by omega)];exact bK _
 | some l=>rw [adI ls h];omega
theorem amF {ls:List (List Int)} {b c:Int} {k:Nat} (h:pW ls b c (k+1)=true):pW ls b c k=true:=by
 unfold pW at *;rw [dD] at *;have h1:=of_decide_eq_true h.1;have h2:=of_decide_eq_true h.2;have h3:=alX ls k;have h4:=awn ls k;exact⟨bD (by omega),bD (by omega)⟩
theorem ahr {ls:List (List Int)} {b c:Int} {k:Nat} (h:pW ls b c (k+1)=false):∀ m,lQ ls b c (k+m)=lQ ls b c k/\pW ls b c (k+m+1)=false
 | 0=>⟨rfl,h⟩
 | m+1=>by
  obtain⟨h1,h2⟩:=ahr h m;refine⟨?_,?_⟩
  ·rw [show k+(m+1)=k+m+1 by omega];show (if pW ls b c (k+m+1)=true then k+m+1 else lQ ls b c (k+m))=_
   rw [h2,aF Bool.false_ne_true];exact h1
  cases h3:pW ls b c (k+(m+1)+1) with
  | false=>rfl
  | true =>
   have:=amF h3;rw [show k+(m+1)=k+m+1 by omega,h2] at this
   cases this
theorem aa5 {ls:List (List Int)} {b c:Int} {k n:Nat} (hk:k<=n) (h1:k=0\/pW ls b c k=true) (h2:k=n\/pW ls b c (k+1)=false):lQ ls b c n=k:=by
 have hc:lQ ls b c k=k:=by
  cases k with
  | zero=>rfl
  | succ k =>
   unfold lQ
   rcases h1 with h1 | h1
   ·omega
   rw [aG h1]
 rcases h2 with h2 | h2
 ·rw [<- h2,hc]
 obtain⟨m,rfl⟩:=Nat.exists_eq_add_of_le hk;rw [(ahr h2 m).1,hc]
def Ej (k:Kt) (s:List UInt8):List UInt8:=if lH k s []=0 then ((bf k.c s).reverse).flatten else []
def uX (k:Kt) (s:List UInt8) (a b:Int):Int:=if lH k s []=0 then (if a<0\/b<a then 162 else 0) else lH k s []
def Ac (k:Kt) (s:List UInt8) (a b:Int):List UInt8:=if uX k s a b=0 then (((bf k.c s).take b.toNat).drop a.toNat).flatten else []
def jD:List (List UInt8)->List UInt8->Nat
 | [],_=>0
 | x::t,sep=>if sep=x then 1 else if x.isPrefixOf sep=true then (match jD t (sep.drop x.length) with | 0=>0 | n+1=>n+2) else 0
def mY (l:List (List UInt8)) (sep:List UInt8):Nat->Nat->Nat->List (List UInt8)
 | 0,_,b=>[(l.drop b).flatten]
 | f+1,a,b=>if l.length<=a then [(l.drop b).flatten] else
   if 0<jD (l.drop a) sep then ((l.take a).drop b).flatten::mY l sep f (a+jD (l.drop a) sep) (a+jD (l.drop a) sep) else mY l sep f (a+1) b
def qM (k:Kt) (s e:List UInt8):Int:=if lH k s e=0 then (if e=[] then 163 else 0) else lH k s e
def mX (k:Kt) (s e:List UInt8):List (List UInt8):=if qM k s e=0 then mY (bf k.c s) (M.fix e) (bf k.c s).length 0 0 else []
def wJ (g:Ga) (ls:List (List Int)):Nat->Nat->Int->List UInt8
 | 0,_,_=>[]
 | f+1,i,c=>if c<=0 then [] else if c<meas g (ls.getD (i % ls.length) []) then [] else U.textOf (ls.getD (i % ls.length) [])++wJ g ls f (i+1) (c-meas g (ls.getD (i % ls.length) []))
def iY (k:Kt) (s:List UInt8) (n:Int) (e:List UInt8) (side:Int):Int :=
 if lH k s e=0 then (if n<0\/300<n then 161 else if side<0\/2<side then 2 else if bZ (kg k 2) e=0 then 163 else 0) else lH k s e
end C
theorem aC.c21 {V W:World} {g:Nat} {t:TypeId} {x0 x1 x2 x3 x4 x5 x6 x7 x8 x9 x10 x11 x12 jY x14 x15 x16 x17 x18 x19 x20:Value} (H:aC V g t #[x0,x1,x2,x3,x4,x5,x6,x7,x8,x9,x10,x11,x12,jY,x14,x15,x16,x17,x18,x19,x20]) (h:ak V W):ay W g 0=some x0/\ay W g 1=some x1/\ay W g 2=some x2/\ay W g 3=some x3/\ay W g 4=some x4/\ay W g 5=some x5/\ay W g 6=some x6/\ay W g 7=some x7/\ay W g 8=some x8/\ay W g 9=some x9/\ay W g 10=some x10/\ay W g 11=some x11/\ay W g 12=some x12/\ay W g 13=some jY/\ay W g 14=some x14/\ay W g 15=some x15/\ay W g 16=some x16/\ay W g 17=some x17/\ay W g 18=some x18/\ay W g 19=some x19/\ay W g 20=some x20/\g<W.heap.size:=⟨((H.below h H.lt).cell 0).trans rfl,((H.below h H.lt).cell 1).trans rfl,((H.below h H.lt).cell 2).trans rfl,((H.below h H.lt).cell 3).trans rfl,((H.below h H.lt).cell 4).trans rfl,((H.below h H.lt).cell 5).trans rfl,((H.below h H.lt).cell 6).trans rfl,((H.below h H.lt).cell 7).trans rfl,((H.below h H.lt).cell 8).trans rfl,((H.below h H.lt).cell 9).trans rfl,((H.below h H.lt).cell 10).trans rfl,((H.below h H.lt).cell 11).trans rfl,((H.below h H.lt).cell 12).trans rfl,((H.below h H.lt).cell 13).trans rfl,((H.below h H.lt).cell 14).trans rfl,((H.below h H.lt).cell 15).trans rfl,((H.below h H.lt).cell 16).trans rfl,((H.below h H.lt).cell 17).trans rfl,((H.below h H.lt).cell 18).trans rfl,((H.below h H.lt).cell 19).trans rfl,((H.below h H.lt).cell 20).trans rfl,(H.below h H.lt).lt⟩
theorem eF {ops:Array Oper} {rest:List Oper} {o:Oper} {a:Act} {w:World} {Q:Exit->Act->World->Prop} (hgd:o.guard=none) (x:Operand) (ho:o.op = .load 38 x)
  (g:Nat) (hx:a.eval x = aA g) {t:TypeId} {cs:Array Value} (hg:aC w g t cs) (hn:cs.size=21) (h:wpList prog ops Q rest (a.put o.dst (.agg cs)) w):wpList prog ops Q (o::rest) a w :=
 wpList_load_row hgd _ x ho g hx t cs (0,0) _ hg underlying38 rfl (by rw [hn];kernel_rfl) h
theorem Jl {ops:Array Oper} {rest:List Oper} {o:Oper} {a:Act} {w:World} {Q:Exit->Act->World->Prop} (hgd:o.guard=none) (x y:Operand) (ho:o.op = .store 38 x y)
  (g:Nat) {cells:Array Value} (hx:a.eval x = aA g) (hy:a.eval y = .agg cells) {t:TypeId} {cs:Array Value} (hg:aC w g t cs) (hn:cs.size=21) (hm:cells.size=21) (h1:cells.all (·.oneCell')=true)
  (h:wpList prog ops Q rest (a.put o.dst undef) (w.setRow g cells)):wpList prog ops Q (o::rest) a w :=
 wpList_store_row hgd _ x y ho g cells hx hy t cs hg (by rw [hm];kernel_rfl) (by rw [hn,hm]) h1 h
structure IU (w:World) (ca:Int) (cp cq cr cm cf:Value) (wa:Int) (wp wq vr wm wf iv bv:Value) (wd:Bool) (lo ti c1 c2 g1 g2:Value) (k:C.Kt):Prop where
 eca:ca=k.c.n
 ewa:wa=k.w.n
 ewd:wd=k.d.wide
 c:TabAt w (.agg #[ah ca,cp,cq,cr,cm,cf]) k.c
 d:WideAt w (.agg #[iv,bv, .bool wd]) k.d
 s:o8 w (.agg #[lo,ti,c1,c2,g1,g2]) k.s
 w:TabAt w (.agg #[ah wa,wp,wq,vr,wm,wf]) k.w
theorem IU.below {w w':World} {ca:Int} {cp:Value} {cq:Value} {cr:Value} {cm:Value} {cf:Value} {wa:Int} {wp:Value} {wq:Value} {vr:Value} {wm:Value} {wf:Value} {iv:Value} {bv:Value} {wd:Bool} {lo:Value} {ti:Value} {c1:Value} {c2:Value} {g1:Value} {g2:Value} {k:C.Kt} (h:IU w ca cp cq cr cm cf wa wp wq vr wm wf iv bv wd lo ti c1 c2 g1 g2 k) (hb:ak w w'):IU w' ca cp cq cr cm cf wa wp wq vr wm wf iv bv wd lo ti c1 c2 g1 g2 k :=
 ⟨h.eca,h.ewa,h.ewd,h.c.below hb,h.d.below hb,h.s.below hb,h.w.below hb⟩
def dS (w:World) (v:Value) (k:C.Kt):Prop:=∃ ca cp cq cr cm cf wa wp wq vr wm wf iv bv wd lo ti c1 c2 g1 g2,v = .agg #[ah ca,cp,cq,cr,cm,cf, ah wa,wp,wq,vr,wm,wf,iv,bv, .bool wd,lo,ti,c1,c2,g1,g2]/\IU w ca cp cq cr cm cf wa wp wq vr wm wf iv bv wd lo ti c1 c2 g1 g2 k
theorem dS.below {w w':World} {v:Value} {k:C.Kt} (h:dS w v k) (hb:ak w w'):dS w' v k:=by
 obtain⟨ca,cp,cq,cr,cm,cf,wa,wp,wq,vr,wm,wf,iv,bv,wd,lo,ti,c1,c2,g1,g2,h1,h2⟩:=h;exact⟨ca,cp,cq,cr,cm,cf,wa,wp,wq,vr,wm,wf,iv,bv,wd,lo,ti,c1,c2,g1,g2,h1,h2.below hb⟩
theorem dS.slices {w:World} {v:Value} {k:C.Kt} (h:dS w v k):∃ x1 z1 x2 z2 x3 z3 x4 z4 x5 z5 x6 z6 x7 z7 x8 z8 x9 z9 x10 z10 x11 z11 x12 z12 jY z13 x14 sJ x15 sO x16 rZ x17 z17 x18 rO,v = .agg #[ah k.c.n, .slice x1 k.c.p.1.length z1, .slice x2 k.c.p.2.length z2, .slice x3 k.c.r.length z3, .slice x4 k.c.m.1.length z4, .slice x5 k.c.m.2.length z5, ah k.w.n, .slice x6 k.w.p.1.length z6, .slice x7 k.w.p.2.length z7, .slice x8 k.w.r.length z8, .slice x9 k.w.m.1.length z9, .slice x10 k.w.m.2.length z10, .slice x11 k.d.p.1.length z11, .slice x12 k.d.p.2.length z12, .bool k.d.wide, .slice jY k.s.lo.length z13, .slice x14 k.s.ti.length sJ, .slice x15 k.s.ca.1.length sO, .slice x16 k.s.ca.2.length rZ, .slice x17 k.s.ig.1.length z17, .slice x18 k.s.ig.2.length rO]:=by
 obtain⟨ca,cp,cq,cr,cm,cf,wa,wp,wq,vr,wm,wf,iv,bv,wd,lo,ti,c1,c2,g1,g2,rfl,rfl,rfl,rfl,⟨_,_,_,_,_,h1,t1,t2,t3,t4,t5⟩,⟨_,_,h3,t11,t12⟩,⟨_,_,_,_,_,_,h4,t13,t14,t15,t16,t17,t18⟩,⟨_,_,_,_,_,h2,t6,t7,t8,t9,t10⟩⟩:=h;injection h1 with h1;injection h2 with h2;injection h3 with h3;injection h4 with h4;simp only [Array.mk.injEq,jm] at h1 h2 h3 h4;obtain⟨-,rfl,rfl,rfl,rfl,rfl,-⟩:=h1;obtain⟨-,rfl,rfl,rfl,rfl,rfl,-⟩:=h2;obtain⟨rfl,rfl,-⟩:=h3;obtain⟨rfl,rfl,rfl,rfl,rfl,rfl,-⟩:=h4;obtain⟨a1,b1,rfl⟩:=t1.slice;obtain⟨a2,b2,rfl⟩:=t2.slice;obtain⟨a3,b3,rfl⟩:=t3.slice;obtain⟨a4,b4,rfl⟩:=t4.slice;obtain⟨a5,b5,rfl⟩:=t5.slice;obtain⟨a6,b6,rfl⟩:=t6.slice;obtain⟨a7,b7,rfl⟩:=t7.slice;obtain⟨a8,b8,rfl⟩:=t8.slice;obtain⟨a9,b9,rfl⟩:=t9.slice;obtain⟨a10,b10,rfl⟩:=t10.slice;obtain⟨a11,b11,rfl⟩:=t11.slice;obtain⟨a12,b12,rfl⟩:=t12.slice;obtain⟨JI,b13,rfl,-⟩:=t13.slice;obtain⟨Iy,b14,rfl,-⟩:=t14.slice;obtain⟨Jd,b15,rfl⟩:=t15.slice;obtain⟨a16,b16,rfl⟩:=t16.slice;obtain⟨a17,b17,rfl⟩:=t17.slice;obtain⟨JQ,b18,rfl⟩:=t18.slice;exact⟨a1,b1,a2,b2,a3,b3,a4,b4,a5,b5,a6,b6,a7,b7,a8,b8,a9,b9,a10,b10,a11,b11,a12,b12,JI,b13,Iy,b14,Jd,b15,a16,b16,a17,b17,JQ,b18,rfl⟩
theorem IU.gauge {w:World} {ca:Int} {cp:Value} {cq:Value} {cr:Value} {cm:Value} {cf:Value} {wa:Int} {wp:Value} {wq:Value} {vr:Value} {wm:Value} {wf:Value} {iv:Value} {bv:Value} {wd:Bool} {lo:Value} {ti:Value} {c1:Value} {c2:Value} {g1:Value} {g2:Value} {k:C.Kt} (h:IU w ca cp cq cr cm cf wa wp wq vr wm wf iv bv wd lo ti c1 c2 g1 g2 k) (i:Int):rM w (.agg #[ah ca,cp,cq,cr,cm,cf,iv,bv, .bool wd, ah i]) (C.kg k i):=by
 have h1:=h.c;have h2:=h.d;rw [h.eca] at h1 ⊢;rw [h.ewd] at h2 ⊢;exact⟨_,_,_,_,_,_,_,rfl,h1,h2⟩
structure gY (k:C.Kt):Prop where
 c:nN k.c
 w:nN k.w
 d:rY k.d
 s:T.Small k.s
def mW (w:World) (g:Nat) (k:C.Kt):Prop:=∃ ca cp cq cr cm cf wa wp wq vr wm wf iv bv wd lo ti c1 c2 g1 g2,aC w g 162 #[ah ca,cp,cq,cr,cm,cf, ah wa,wp,wq,vr,wm,wf,iv,bv, .bool wd,lo,ti,c1,c2,g1,g2]/\IU w ca cp cq cr cm cf wa wp wq vr wm wf iv bv wd lo ti c1 c2 g1 g2 k
theorem mW.below {w w':World} {g:Nat} {k:C.Kt} (h:mW w g k) (hb:ak w w'):mW w' g k:=by
 obtain⟨ca,cp,cq,cr,cm,cf,wa,wp,wq,vr,wm,wf,iv,bv,wd,lo,ti,c1,c2,g1,g2,h1,h2⟩:=h;exact⟨ca,cp,cq,cr,cm,cf,wa,wp,wq,vr,wm,wf,iv,bv,wd,lo,ti,c1,c2,g1,g2,h1.below hb h1.lt,h2.below hb⟩
section
open Go.ChangeShapes Go.WideShapes Go.Deep
section
variable {H:Type} {enc:TypeId×Value->H} {W:World}
theorem ake {fuel:Nat} {cs:List Value} {x:DataW H×List MemPlace} (h:DataW.trod enc prog W 0 (λ_=>true) true fuel 36 cs=some x) :
  ∃ (c:T.Cs) (lo ti c1 c2 g1 g2:Value),cs=[lo,ti,c1,c2,g1,g2]/\o8 W (.agg #[lo,ti,c1,c2,g1,g2]) c:=by
 obtain⟨y0,y1,y2,y3,n,-,hl,h0,h1,h2,h3⟩:=Go.Joins.trod_struct4 underlying36 h;obtain⟨c0,c1,c2,c3,c4,c5,rfl⟩:=ahO (l:=cs) (hl.trans (by kernel_rfl));obtain⟨l0,hl0⟩:=rF.open (v:=c0) h0;obtain⟨l1,hl1⟩:=rF.open (v:=c1) h1;obtain⟨a2,b2,t2,e2,k1,k2⟩:=Tn (cs:=[c2,c3]) h2;obtain⟨a3,b3,t3,e3,k3,k4⟩:=Tn (cs:=[c4,c5]) h3;simp only [jm,and_true] at e2 e3;obtain⟨rfl,rfl⟩:=e2;obtain⟨rfl,rfl⟩:=e3;exact⟨⟨l0,l1,t2,t3⟩,_,_,_,_,_,_,rfl,_,_,_,_,_,_,rfl,hl0,hl1,k1,k2,k3,k4⟩
theorem aln {α:Type} {l:List α} (h:l.length=21):∃ c0 c1 c2 c3 c4 c5 c6 c7 c8 c9 c10 c11 c12 c13 c14 c15 c16 c17 c18 c19 c20,l=[c0,c1,c2,c3,c4,c5,c6,c7,c8,c9,c10,c11,c12,c13,c14,c15,c16,c17,c18,c19,c20]:=by
 match l,h with
 | [c0,c1,c2,c3,c4,c5,c6,c7,c8,c9,c10,c11,c12,c13,c14,c15,c16,c17,c18,c19,c20],_=>exact⟨c0,c1,c2,c3,c4,c5,c6,c7,c8,c9,c10,c11,c12,c13,c14,c15,c16,c17,c18,c19,c20,rfl⟩
theorem KJ {base:Nat} {v:Value} {d:DataW H} {p:List MemPlace} (hv:Value.okWide prog W .any base 38 v) (h:DataW.Trod enc prog W 0 (λ_=>true) true 38 v d p) :
  ∃ k:C.Kt,dS W v k:=by
 obtain⟨cs,rfl,hsz⟩:=okWide_struct underlying38 hv;obtain⟨fuel,hf⟩:=h;obtain⟨y0,y1,y2,y3,n,-,-,h0,h1,h2,h3⟩:=Go.Joins.trod_struct4 underlying38 hf;obtain⟨cs⟩:=cs;obtain⟨c0,c1,c2,c3,c4,c5,c6,c7,c8,c9,c10,c11,c12,c13,c14,c15,c16,c17,c18,c19,c20,rfl⟩:=aln (l:=cs) (hsz.trans (by kernel_rfl));obtain⟨t1,a1,a2,a3,a4,a5,e1,hT1⟩:=ab6 (cs:=[c0,c1,c2,c3,c4,c5]) h0;obtain⟨t2,b1,b2,b3,b4,b5,e2,hT2⟩:=ab6 (cs:=[c6,c7,c8,c9,c10,c11]) h1;obtain⟨wd,iv,bv,e3,hW⟩:=asL (cs:=[c12,c13,c14]) h2;obtain⟨cc,d1,d2,d3,d4,d5,d6,e4,hC⟩:=ake (cs:=[c15,c16,c17,c18,c19,c20]) h3;simp only [jm,and_true] at e1 e2 e3 e4;obtain⟨rfl,rfl,rfl,rfl,rfl,rfl⟩:=e1;obtain⟨rfl,rfl,rfl,rfl,rfl,rfl⟩:=e2;obtain⟨rfl,rfl,rfl⟩:=e3;obtain⟨rfl,rfl,rfl,rfl,rfl,rfl⟩:=e4;exact⟨⟨t1,t2,wd,cc⟩,_,_,_,_,_,_,_,_,_,_,_,_,_,_,_,_,_,_,_,_,_,rfl,rfl,rfl,rfl,hT1,hW,hC,hT2⟩
end
end
namespace aQ
def props:List UInt8:=[48,51,48,49,59,69,120,116,101,110,100]
def rule:List UInt8:=[43,32,69,120,116,101,110,100]
def names:List (List UInt8):=[[79,116,104,101,114],[69,120,116,101,110,100]]
def r3:List F.bI:=[(769,769,1)]
def yV:D.Rule:=((false,[]),(false,[(2,0)]),false)
def QE:D.gJ:=([[0,0,0]],[1])
def tb:Tab:=⟨2,F.iC r3,[yV],QE⟩
attribute [local irreducible] F.iC
theorem rG {t:F.Trie} {l:List F.bI} (h:t=F.iC l) (r:Nat) (hr:r / 256<4352):F.says t (r:Int)=F.tJ l (r:Int):=by rw [h,F.Xz _ _ hr]
theorem xB:tb.p=F.iC r3:=rfl
theorem rb3:F.uy r3=true:=by decide +kernel
theorem nb:F.zQ names=true:=by decide +kernel
theorem akE:F.BI props names false=some r3:=by decide +kernel
theorem YZ:F.split 10 rule=[rule]/\F.trim ((F.split 35 rule).headD [])≠[]/\F.KY names (F.trim ((F.split 35 rule).headD []))=some yV:=by decide +kernel
theorem ac4:uS yV:=⟨by decide,by decide⟩
theorem Xk:D8 [yV] 2=0/\Aj [yV] 2=QE:=by
 have h1:uN 2 [yV]=true:=by decide +kernel
 have h2:(D.build (lefts [yV]) 2 2).todo.length<=(D.build (lefts [yV]) 2 2).next.length:=by decide +kernel
 have h3:D.build (lefts [yV]) 2 300=D.build (lefts [yV]) 2 2:=D.Wp _ _ (by omega) h2;have h4:D.EI (lefts [yV]) 2=true:=D.ad8 _ _ (k:=2) (by omega) h2 (by decide +kernel);have h5:Tj (D.build (lefts [yV]) 2 2)=QE:=by decide +kernel
 refine⟨?_,?_⟩
 ·unfold D8;rw [h1,show (2:Int).toNat=2 from rfl,h4];rfl
 unfold Aj Xi;rw [h1,show (2:Int).toNat=2 from rfl,h4,h3,h5];rfl
theorem fine:YR QE=true:=by decide +kernel
theorem ok3:F.nT tb.p=true:=by rw [xB];exact F.Tt (by decide)
theorem Bq {t:F.Trie} (l:List F.bI) (h:t=F.iC l):t.1.length<=100000/\t.2.length<=100000/\∀ r∈t.2,r.length<=256:=by
 have hb:=F.built l 4352;rw [h];unfold F.iC;generalize F.pR l 4352=b at hb;refine⟨?_,?_,λr hr=>?_⟩
 ·have:=hb.len;omega
 ·have:=hb.few;omega
 obtain⟨i,-,rfl⟩:=hb.all r hr;unfold F.qU;simp
theorem afy:nN tb where
 p1:=(Bq r3 xB).1
 p2:=(Bq r3 xB).2.1
 p3:=λr hr=>bP ((Bq r3 xB).2.2 r hr) (by decide)
 r1:=λx hx=>by rw [fU.1 hx];exact ac4
 r2:=by decide
 m:=⟨by decide +kernel,by decide +kernel,by decide +kernel⟩
theorem Zz:nD tb=true:=by
 unfold nD;rw [ok3,show xI tb.r tb.m tb.n=true by decide +kernel]
 rfl
theorem awv {l:List F.bI} (h:∀ x∈l,x.2.2<=6) (r:Int):F.tJ l r<=6:=by
 unfold F.tJ
 split
 ·rename_i x hx
  exact h x (List.mem_reverse.1 (List.mem_of_find?_eq_some hx))
 decide
theorem GK:F.says tb.p 97=0:=by rw [show (97:Int)=((97:Nat):Int) from rfl,rG xB _ (by decide)];decide +kernel
theorem abW:F.says tb.p 769=1:=by rw [show (769:Int)=((769:Nat):Int) from rfl,rG xB _ (by decide)];decide +kernel
theorem Io:F.says tb.p 98=0:=by rw [show (98:Int)=((98:Nat):Int) from rfl,rG xB _ (by decide)];decide +kernel
theorem Qz:F.says tb.p 46=0:=by rw [show (46:Int)=((46:Nat):Int) from rfl,rG xB _ (by decide)];decide +kernel
end aQ
namespace C
theorem DT {t:Tab} {s:List UInt8} (h:textE t s=0):(bf t s).flatten=M.fix s:=by
 unfold bf;rw [aG h,abl (qg t s).2,Jc]
theorem uO {t:Tab} {s:List UInt8} (h:textE t s=0):bf t s=(aO t s).map U.textOf:=by
 unfold bf;rw [aG h,VG]
theorem UQ {t:Tab} {s:List UInt8} (h:textE t s=0):(bf t s).length=(aO t s).length:=by rw [uO h,aV]
end C
namespace C
theorem Qu:∀ (l:List (List UInt8)) (sep:List UInt8),
  (jD l sep=0/\∀ i,1<=i->i<=l.length->(l.take i).flatten≠sep)\/(1<=jD l sep/\jD l sep<=l.length/\(l.take (jD l sep)).flatten=sep/\∀ i,1<=i->i<jD l sep->(l.take i).flatten≠sep)
 | [],sep=>.inl ⟨rfl,λi h1 h2=>by simp at h2;omega⟩
 | x::t,sep=>by
  unfold jD
  by_cases h1:sep=x
  ·rw [aG h1];refine .inr ⟨bK _,by simp,by simp [h1],λi h2 h3=>by omega⟩
  rw [aF h1]
  by_cases h2:x.isPrefixOf sep=true
  ·rw [aG h2];obtain⟨r,hr⟩:=List.isPrefixOf_iff_prefix.1 h2;have hd:sep.drop x.length=r:=by rw [<- hr,List.drop_left]
   rw [hd];have key:∀ i,(((x::t).take (i+1)).flatten=sep↔(t.take i).flatten=r):=λi=>by
    rw [wM,pY,<- hr];exact List.append_cancel_left_eq _ _ _ |>.to_iff
   have hr0:r≠[]:=by
    rintro rfl;rw [oG] at hr;exact h1 hr.symm
   rcases Qu t r with⟨h3,h4⟩ | ⟨h3,h4,h5,h6⟩
   ·rw [h3];refine .inl ⟨rfl,λi hi1 hi2=>?_⟩;obtain⟨i,rfl⟩:=Nat.exists_eq_add_of_le' hi1;rw [Ne,key];intro h
    by_cases hi0:i=0
    ·rw [hi0] at h;exact hr0 (by simpa using h.symm)
    exact h4 i (by omega) (by simp at hi2;omega) h
   obtain⟨n,hn⟩:=Nat.exists_eq_add_of_le' h3;rw [hn] at h4 h5 h6 ⊢;refine .inr ⟨by simp,by simp;omega,?_,λi hi1 hi2=>?_⟩
   ·show ((x::t).take (n+1+1)).flatten=sep
    rw [key];exact h5
   obtain⟨i,rfl⟩:=Nat.exists_eq_add_of_le' hi1;rw [Ne,key];intro h;have hi2:i+1<n+2:=hi2
   by_cases hi0:i=0
   ·rw [hi0] at h;exact hr0 (by simpa using h.symm)
   exact h6 i (by omega) (by omega) h
  rw [aF h2];refine .inl ⟨rfl,λi hi1 hi2 h=>h2 ?_⟩;obtain⟨i,rfl⟩:=Nat.exists_eq_add_of_le' hi1;rw [wM,pY] at h;exact List.isPrefixOf_iff_prefix.2 ⟨_,h⟩
theorem OD (l:List (List UInt8)) (sep:List UInt8):jD l sep<=l.length:=by
 rcases Qu l sep with⟨h,-⟩ | ⟨-,h,-⟩ <;> omega
end C
namespace C
def dist (p n i:Nat):Nat:=if i % n<=p then p-i % n else p+n-i % n
theorem ajE {n i:Nat} (hn:0<n):(i+1) % n=if i % n+1=n then 0 else i % n+1:=by
 have h1:=Nat.mod_lt i hn;have h2:(i+1) % n=(i % n+1) % n:=by rw [Nat.mod_add_mod]
 rw [h2]
 split
 ·rename_i h;rw [h,Nat.mod_self]
 exact Nat.mod_eq_of_lt (by omega)
theorem ao9 {p n i:Nat} (hp:p<n) (h:i % n≠p):dist p n (i+1)+1=dist p n i:=by
 unfold dist;have h1:=Nat.mod_lt i (show 0<n by omega);rw [ajE (show 0<n by omega)]
 split <;> (repeat' split) <;> omega
theorem adM {p n i:Nat} (hp:p<n):dist p n i<n:=by
 unfold dist;have h1:=Nat.mod_lt i (show 0<n by omega)
 split <;> omega
def todo (p n i:Nat) (c:Int):Nat:=c.toNat*n+dist p n i
theorem adB {p n i:Nat} {c w:Int} (hp:p<n) (hc:0<c) (hw:0<=w) (hpw:i % n=p->1<=w):todo p n (i+1) (c-w)<todo p n i c:=by
 unfold todo
 by_cases h:i % n=p
 ·have h1:=hpw h;have h2:=adM (i:=i+1) hp;have h3:(c-w).toNat+1<=c.toNat:=by omega
  have h4:=Nat.mul_le_mul_right n h3;rw [BX,Nat.one_mul] at h4;omega
 have h1:=ao9 hp h;have h3:(c-w).toNat<=c.toNat:=by omega
 have h4:=Nat.mul_le_mul_right n h3;omega
def Dc (g:Ga) (ls:List (List Int)) (p:Nat):Prop:=p<ls.length/\1<=meas g (ls.getD p [])
theorem X7 {g:Ga}:∀ {ls:List (List Int)},dX g ls ls.length≠0->∃ p,Dc g ls p:=by
 intro ls h;rw [avL] at h
 by_cases hx:∃ x∈ls,1<=meas g x
 ·obtain⟨x,hx,h1⟩:=hx;obtain⟨p,hp,rfl⟩:=List.getElem_of_mem hx;exact⟨p,hp,by rw [fO,dW hp];exact h1⟩
 exfalso
 apply h
 have:∀ l:List (List Int),(∀ x∈l,meas g x=0)->(l.map (meas g)).sum=0:=λl hl=>by
  induction l with
  | nil=>rfl
  | cons x t ih=>rw [iR,List.sum_cons,hl x (jZ ..),ih (λy hy=>hl y (mZ _ hy))];rfl
 refine this ls (λx hx2=>?_);have h1:=Ui g x;have h2:¬ 1<=meas g x:=λh=>hx ⟨x,hx2,h⟩
 omega
theorem af0 {g:Ga} {ls:List (List Int)} {f i:Nat} {c:Int} (h:c<=0):wJ g ls f i c=[]:=by
 cases f with
 | zero=>rfl
 | succ f=>unfold wJ;rw [aG h]
theorem agN {g:Ga} {ls:List (List Int)} {p f i:Nat} {c:Int} (hp:Dc g ls p) (hc:0<c) (hf:todo p ls.length i c<f) :
  ∃ f',f=f'+1/\wJ g ls f i c=(if c<meas g (ls.getD (i % ls.length) []) then [] else U.textOf (ls.getD (i % ls.length) [])++wJ g ls f' (i+1) (c-meas g (ls.getD (i % ls.length) [])))/\todo p ls.length (i+1) (c-meas g (ls.getD (i % ls.length) []))<f':=by
 obtain⟨f',rfl⟩:∃ f',f=f'+1:=⟨f-1,by omega⟩
 have h1:=adB (p:=p) (n:=ls.length) (i:=i) (c:=c) (w:=meas g (ls.getD (i % ls.length) [])) hp.1 hc (Ui g _) (λh=>by rw [h];exact hp.2);refine⟨f',rfl,?_,by omega⟩;show (if c<=0 then _ else _)=_
 rw [aF (by omega)]
def JC (g:Ga) (ls:List (List Int)) (c:Int):List UInt8:=wJ g ls (c.toNat*ls.length+ls.length+1) 0 c
theorem amQ {g:Ga} {ls:List (List Int)} {p:Nat} {c:Int} (hp:Dc g ls p):todo p ls.length 0 c<c.toNat*ls.length+ls.length+1:=by
 unfold todo;have:=adM (i:=0) hp.1;omega
def wW (k:Kt) (s:List UInt8) (n:Int):Int:=max (n-bZ (kg k 2) s) 0
def gu (k:Kt) (e:List UInt8) (c:Int):List UInt8:=JC (kg k 2) (aO k.c e) c
def DL (k:Kt) (s:List UInt8) (c:Int) (e:List UInt8) (side:Int):List UInt8 :=
 if side=0 then gu k e c++M.fix s else if side=1 then M.fix s++gu k e c else gu k e (c / 2)++(M.fix s++gu k e (c-c / 2))
def jV (k:Kt) (s:List UInt8) (n:Int) (e:List UInt8) (side:Int):List UInt8:=if iY k s n e side=0 then DL k s (wW k s n) e side else []
theorem WQ (k:Kt) (e:List UInt8):gu k e 0=[]:=af0 (Int.le_refl 0)
end C
end Go.Proofs.YtdponihkpomheaaGreatDoor
