/- Texts of this claim. -/
import Derived.Test.YtdponihkpomheaaGreatDoorH25
import Derived.Test.YtdponihkpomheaaGreatDoorHXOpsClips1

set_option maxRecDepth 100000
set_option maxHeartbeats 16000000
namespace Go.Proofs.YtdponihkpomheaaGreatDoor
open Go.RowKit
attribute [local go_sem] Oper.semAt_some
open Go.Proofs.Tryz
namespace C
open Go.Proofs.YtdponihkpomheaaGreatDoor
def kZ (g:Ga) (ls:List (List Int)) (n:Int):Nat->Nat
 | 0=>0
 | k+1=>if dX g ls (k+1)<=n then k+1 else kZ g ls n k
theorem afY (g:Ga) (ls:List (List Int)) (n:Int):∀ k,kZ g ls n k<=k
 | 0=>bK _
 | k+1=>by
  unfold kZ
  split
  ·exact bK _
  exact Nat.le_succ_of_le (afY g ls n k)
theorem ad5 (g:Ga) (ls:List (List Int)) (n:Int) {k:Nat} (h:n<dX g ls (k+1)):∀ m,kZ g ls n (k+m)=kZ g ls n k
 | 0=>rfl
 | m+1=>by
  have h1:=abS g ls (show k+1<=k+m+1 by omega);have ih:=ad5 g ls n h m;rw [show k+(m+1)=k+m+1 by omega,show kZ g ls n (k+m+1)=if dX g ls (k+m+1)<=n then k+m+1 else kZ g ls n (k+m) from rfl,aF (by omega)];exact ih
theorem asC (g:Ga) (ls:List (List Int)) (n:Int):∀ k,dX g ls k<=n->kZ g ls n k=k
 | 0,_=>rfl
 | k+1,h=>by unfold kZ;rw [aG h]
def ET (g:Ga) (s:List UInt8) (n:Int):List UInt8:=if kM g s=0 then (((aO g.t s).map U.textOf).take (kZ g (aO g.t s) n (aO g.t s).length)).flatten else []
end C
namespace C
open Go.Proofs.YtdponihkpomheaaGreatDoor
theorem afA (g:Ga) (hk:g.k=0):∀ ls:List (List Int),(ls.map (meas g)).sum=(((ls.map U.textOf).flatten).length:Int)
 | []=>rfl
 | l::t=>by
  rw [iR,List.sum_cons,afA g hk t,iR,pY,bC];unfold meas;rw [aG hk];omega
end C
namespace C
theorem ar1 {g:Ga} {ls:List (List Int)} {pre rest:List (Nat×Int)} {x:Nat×Int} (h:sums g ls=pre++x::rest):x=(pre.length+1,dX g ls (pre.length+1))/\pre.length<ls.length:=by
 have hl:pre.length<ls.length:=by
  have:=congrArg List.length h;rw [JL,bC,dY] at this;omega
 have h1:=XA g ls hl;rw [h,yD aU,Nat.sub_self] at h1;simp at h1;exact⟨h1,hl⟩
theorem anl (g:Ga) (ls:List (List Int)) (n:Int) (k:Nat) (hk:k<=ls.length) (h1:k=0\/dX g ls k<=n) (h2:k=ls.length\/n<dX g ls (k+1)):kZ g ls n ls.length=k:=by
 have e:kZ g ls n k=k:=by
  rcases h1 with rfl | h1
  ·rfl
  exact asC g ls n k h1
 rcases h2 with h2 | h2
 ·rw [<- h2];exact e
 have:=ad5 g ls n h2 (ls.length-k);rw [show k+(ls.length-k)=ls.length by omega,e] at this;exact this
end C
theorem ak8 (w:World) (c0 c1 c2 c3:Array Value) (T0 T1 T2 T3:TypeId) (W:World) (hW:W=(((w.alloc (.cells c0 T0)).alloc (.cells c1 T1)).alloc (.cells c2 T2)).alloc (.cells c3 T3)) :
  aC W w.heap.size T0 c0/\aC W (w.heap.size+1) T1 c1/\aC W (w.heap.size+1+1) T2 c2/\aC W (w.heap.size+1+1+1) T3 c3/\Below (w.heap.size+1) (w.alloc (.cells c0 T0)) W/\W.heap.size=w.heap.size+4:=by
 rw [hW];obtain⟨h0,h1,h2,h3,h4,h5⟩:=four w c0 c1 c2 c3 T0 T1 T2 T3;refine⟨h0,h1,h2,h3,?_,h5⟩;have e:(w.alloc (.cells c0 T0)).heap.size=w.heap.size+1:=by simp
 obtain⟨_,_,_,h6,_⟩:=three (w.alloc (.cells c0 T0)) c1 c2 c3 T1 T2 T3;unfold ak at h6;rw [e] at h6;exact h6
theorem atG (A:Nat->Addr) (B mg hm:Nat) (pi pb rv nv fv iv bv:Value) (g:C.Ga) (s:ByteArray) (ls:List (List Int)) (nn:Int) (w:World) (hM:Mt w mg hm pi pb rv nv fv iv bv g) (hs:nN g.t) (hw:rY g.w) (hb:C.jF g=true) (hz:s.size<=800) (hE:E A B w) (hD:Ed A B w) (hG:Eg A B w) (hB:B<=w.heap.size) (hls:C.aO g.t s.data.toList=ls) :
  Calls prog 97 #[aA mg, .string s, ah nn] w λe w'=>e = .returned (ah (C.kZ g ls nn ls.length:Nat))/\ak w w':=by
 obtain⟨V,hV⟩:∃ V,V=w.alloc (.cells #[ah nn] 3):=⟨_,rfl⟩
 have fV:=bx (aB hV);have vT:=bx (show V.heap.size=w.heap.size+1 by rw [hV];simp);have HIT:=bx (λ(W1:World) (l:Nat) (h1:Below (w.heap.size+1) V W1) (h2:aC W1 (w.heap.size+1+1) 118 #[aA mg]) (h3:aC W1 (w.heap.size+1+1+1) 9 #[.string s])=>aeo 7 A B (w.heap.size+1) (w.heap.size+1+1) (w.heap.size+1+1+1) mg hm pi pb rv nv fv iv bv g s ls l V W1 vT.o h1 (hE.below (fV.o.mono hB)) (hD.below (fV.o.mono hB)) (hG.below (fV.o.mono hB)) (by omega) (hM.below fV.o) hs hw hb hz h2 h3 hls);have Ze:=bx (λk hk h1 h2=>C.anl g ls nn k hk h1 h2);generalize C.kZ g ls nn ls.length=res at Ze ⊢;clear hM hs hw hb hE hD hG hB hls;refine(callsIn_wide (n:=9)).1 (callsIn_of_wp_marks func97 rfl trivial (wpIn_wide.2 ?_));simp only [ntmps97,qH,dY,iG,Nat.reduceAdd,Nat.reduceSub,rE,qW,ou,qQ,iJ,jd];go_wp2_with fail;refine aP (adE _ _ _) ?_;go_wp2_with fail;obtain⟨wL,xQ⟩:∃ W,W=(((w.alloc (.cells #[ah nn] 3)).alloc (.cells #[ah 0] 3)).alloc (.cells #[aA mg] 118)).alloc (.cells #[.string s] 9):=⟨_,rfl⟩
 obtain⟨hn0,hb0,hb1,hb2,hbL,rU⟩:=ak8 w _ _ _ _ _ _ _ _ wL xQ;rw [<- xQ];rw [<- hV] at hbL;have HN0:=bx hn0;have HB0:=bx hb0;have HB1:=bx hb1;have HB2:=bx hb2;have cu:=bx hbL;clear hn0 hb0 hb1 hb2 hbL xQ hV;refine(wpIn_wide (n:=9)).1 (Nz (α:=Nat×Int) (gf:=234) (lb:=#[aA (w.heap.size+1+1), aA (w.heap.size+1+1+1)]) rfl (enters_of func234 (by kernel_rfl) rfl)
  (encs:=λx:Nat×Int=>#[ah (x.1:Int), ah x.2]) (own:=λ_=>False) (keep:=λk=>k<w.heap.size+1\/k=w.heap.size+1+1) (ok:=λpre x _=>∃ rest,C.sums g ls=pre++x::rest) (S:=λys _=>ys=C.sums g ls)
  (λk hk=>by rcases hk with h | h | h;exact h.elim;omega;omega)
  (λW1 ht=>by
   have hwl:=ht.below aU (λ_ h=>h.elim);exact HIT.o W1 _ (cu.o.trans (hwl.mono (by omega))) (HB1.o.below hwl HB1.o.lt) (HB2.o.below hwl HB2.o.lt))
  (λ_=>rfl)
  (λN1 pre W=>aC W (w.heap.size+1) 3 #[ah (pre.length:Nat)]/\Below (w.heap.size+1) wL W/\(pre.length=0\/C.dX g ls pre.length<=nn))
  (λN1 c pre W=>c = .exit 0/\aC W (w.heap.size+1) 3 #[ah (res:Nat)]/\Below (w.heap.size+1) wL W) ?hI ?hIx (λ_ _ _ _ h _=>h) (λN1 h=>⟨HB0.o,Below.refl _ _, .inl rfl⟩)
  (λx a1 W=>a1={ tmps:=#[aA mg, .string s, ah nn,undef,undef, aA (w.heap.size), ah 0, aA (w.heap.size+1), ah (x.1:Int), ah x.2, aA mg, .string s, .func (.func 234) #[] #[aA (w.heap.size+1+1), aA (w.heap.size+1+1+1)], ah (x.1:Int), ah x.2,undef,undef,undef,undef,undef],defers:=[] })
  (λ_ _ _ _ h _=>h) ?assign ?body ?done ?stop (λ_ _ _ h _=>h))
 case hI =>
  rintro N1 pre W W' ⟨h1,h2,h3⟩ ht;exact⟨ht.blk h1 (by rintro(h | h);exact h;omega),h2.trans (ht.below (by have:=h2.size;omega) (λk hk=>by rcases hk with h | h;exact h.elim;omega)),h3⟩
 case hIx =>
  rintro N1 c pre W W' ⟨h1,h2,h3⟩ ht;exact⟨h1,ht.blk h2 (by omega),h3.trans (ht.below (by have:=h3.size;omega) (λk hk=>by omega))⟩
 case assign =>
  intro x W K hW hK
  gi_wp2
  exact hK _ _ (Turns.refl _ _) rfl
 case body =>
  rintro N1 pre x a1 W0 W N hN1 Ld hW0 ⟨h1,h2,h3⟩ ht hN ⟨rest,hx⟩ rfl;have hb:=ht.blk h1 (by rintro(h | h);exact h;omega);have h2':=h2.trans (ht.below (by have:=h2.size;omega) (λk hk=>by rcases hk with h | h;exact h.elim;omega));obtain⟨hxe,hlt⟩:=C.ar1 hx;subst hxe;have hn:=HN0.o.below h2' (by omega);have HB:=bx hb;have H2:=bx h2';have H3:=bx h3;have HL:=bx hlt;have c0:ay W (w.heap.size+1) 0=some (ah (pre.length:Nat)):=(hb.cell 0).trans rfl;have cn:ay W w.heap.size 0=some (ah nn):=(hn.cell 0).trans rfl;have f0:=hb.frozen 0;have l0:=hb.lt;obtain⟨S1,hS1⟩:∃ S,S=C.dX g ls (pre.length+1):=⟨_,rfl⟩
  rw [<- hS1];have eG:=bx hS1;clear h1 h2 h3 hb h2' hn hx hS1 hlt
  by_cases hle:S1<=nn
  ·have hd:decide (nn<S1)=false:=dh (by omega);have zo:=bx hle;clear hle
   gi_wp2
   have hT:Turns (λk=>k=w.heap.size+1) W (W.setCell ⟨w.heap.size+1,0,none⟩ (ah ((pre.length+1:Nat):Int))):=Turns.setCell (own:=λk=>k=w.heap.size+1) W (p:=⟨w.heap.size+1,0,none⟩) rfl _;have hlen:(pre++[(pre.length+1,S1)]).length=pre.length+1:=by rw [bC];rfl
   refine⟨hT.mono (λk hk hh=>?_),by rw [hlen];exact HB.o.bJ 0 _,H2.o.trans (hT.below (by have:=H2.o.size;omega) (λk hk=>by omega)), .inr (by rw [hlen,<- eG.o];exact zo.o)⟩;subst hk
   rcases hh with((h | h) | h | h) | h | h <;> omega
  have hd:decide (nn<S1)=true:=bD (by omega);have HR:=bx (Ze.o pre.length (G9 HL.o) H3.o (.inr (by rw [<- eG.o];omega)));clear hle
  gi_wp2
  refine⟨Holds.zX (Turns.refl (own:=λk=>k=w.heap.size+1) W) (λk hk=>by omega) (λk hk=>by omega),rfl,?_,H2.o⟩;rw [HR.o];exact HB.o
 case done =>
  intro N1 xs W hW hS ⟨h1,h2,h3⟩ hD;subst hS;have hr:=Ze.o (C.sums g ls).length (by rw [C.JL];exact bK _) h3 (.inl (C.JL _ _));rw [<- hr] at h1;have c0:ay W (w.heap.size+1) 0=some (ah (res:Nat)):=(h1.cell 0).trans rfl;have H2:=bx h2;have HD:=bx hD;have hwl:=rU;clear h1 h2 hD h3 rU hr;go_wp2_with fail;refine⟨by simp, .inl ⟨_,_,rfl,run_takeDeferred HD.o,?_⟩⟩;refine⟨_,results_tmp rfl _ _ _,?_⟩;exact⟨rfl,(fV.o.trans (cu.o.mono (by omega))).trans ((H2.o.mono (by omega)).trans ((Turns.putObj (own:=λk=>k=wL.heap.size) W rfl _).below (by have:=H2.o.size;omega) (λk hk=>by omega)))⟩
 case stop =>
  rintro N1 c pre W hW ⟨rfl,h1,h2⟩ hD;have c0:ay W (w.heap.size+1) 0=some (ah (res:Nat)):=(h1.cell 0).trans rfl;have H2:=bx h2;have HD:=bx hD;have hwl:=rU;clear h1 h2 hD rU;refine wpIn_wide.2 ?_;go_wp2_with fail;refine⟨by simp, .inl ⟨_,_,rfl,run_takeDeferred HD.o,?_⟩⟩;refine⟨_,results_tmp rfl _ _ _,?_⟩;exact⟨rfl,(fV.o.trans (cu.o.mono (by omega))).trans ((H2.o.mono (by omega)).trans ((Turns.putObj (own:=λk=>k=wL.heap.size) W rfl _).below (by have:=H2.o.size;omega) (λk hk=>by omega)))⟩
namespace C
end C
theorem anU (A:Nat->Addr) (B:Nat) (v:Value) (g:C.Ga) (s:ByteArray) (nn:Int) (w:World) (hv:rM w v g) (hs:nN g.t) (hw:rY g.w) (hz:s.size<=800) (hE:E A B w) (hD:Ed A B w) (hG:Eg A B w) (hB:B<=w.heap.size) :
  Calls prog 38 #[v, .string s, ah nn] w λe w'=>e = .returned (.tuple #[.string (bs (C.ET g s.data.toList nn)), ah (C.kM g s.data.toList)])/\ak w w':=by
 have BM:=bx (λW (h:ak w W)=>hv.below h);obtain⟨tn,hn⟩:∃ n,n=g.t.n:=⟨_,rfl⟩
 obtain⟨wd,hwd⟩:∃ b,b=g.w.wide:=⟨_,rfl⟩
 obtain⟨gk,hgk⟩:∃ k,k=g.k:=⟨_,rfl⟩
 obtain⟨pi,pb,rv,nv,fv,iv,bv,rfl,h1,h2⟩:=hv;rw [<- hn,<- hwd,<- hgk] at BM;rw [<- hn,<- hwd,<- hgk];obtain⟨V,hV⟩:∃ V,V=w.alloc (.cells #[ah tn,pi,pb,rv,nv,fv,iv,bv, .bool wd, ah gk] 57):=⟨_,rfl⟩
 have HB0:=bx (aB hV);have HK:=bx (aK hV);have aI:=bx (λW (h:ak V W)=>HK.o.d10 h);have HV:=bx hV;have cu:=bx (HB0.o.trans ((dA V (.cells #[.string s, ah 2000] 122)).mono HB0.o.size));have pX:=bx (ai6 V s 2000 122);have Gx:=hB;have hrest:∀ W,ak w W->E A B W/\Ed A B W/\Eg A B W/\B<=W.heap.size:=λW h=>⟨hE.below (h.mono hB),hD.below (h.mono hB),hG.below (h.mono hB),bP hB h.size⟩
 have qF:=bx hrest;have vO:=bx (XZ A B _ (.slice (some ⟨V.heap.size,0,none⟩) 1 1) g [(s,2000)] _ (BM.o _ cu.o) hs hw (hrest _ cu.o).1 (hrest _ cu.o).2.1 (hrest _ cu.o).2.2.1 (hrest _ cu.o).2.2.2);have iM:=bx (Yb A B _ (.slice (some ⟨V.heap.size,0,none⟩) 1 1) g _ (BM.o _ cu.o) hs hw (hrest _ cu.o).1 (hrest _ cu.o).2.1 (hrest _ cu.o).2.2.1 (hrest _ cu.o).2.2.2);have NR:=bx (λW (h:ak w W)=>VD A B 0 (by decide) W (hrest W h).1);obtain⟨k0,k1,k2,k3,k4,k5,k6,k7,k8,k9,kk⟩:=aI.o V aZ;have HCM:=bx (λ(hgb:C.jF g=true) W mg hm pi pb rv nv fv iv bv (h:ak w W) (hM:Mt W mg hm pi pb rv nv fv iv bv g)=>atG A B mg hm pi pb rv nv fv iv bv g s _ nn W hM hs hw hgb hz (hrest W h).1 (hrest W h).2.1 (hrest W h).2.2.1 (hrest W h).2.2.2 rfl);have ng:=bx (λ(hgb:C.jF g=true) W mg hm pi pb rv nv fv iv bv (h:ak w W) (hM:Mt W mg hm pi pb rv nv fv iv bv g)=>XF A B mg hm pi pb rv nv fv iv bv g s W hM hs hgb hz (hrest W h).1 (hrest W h).2.1 (hrest W h).2.2.1 (hrest W h).2.2.2)
 cases hgb:C.jF g with
 | false =>
  have HR:=bx (show C.ET g s.data.toList nn=[]/\C.kM g s.data.toList=150 by
   have h:=C.agp (s:=s.data.toList) hgb;unfold C.ET;rw [h];exact⟨rfl,rfl⟩)
  rw [HR.o.1,HR.o.2];clear ng;have iM:=bx (iM.o hgb);clear vO HCM h1 h2 hV hs hw hn hwd hgk hE hD hG hB hgb hrest Gx hz
  go_in
  go_upto_region 1 with(fail)
  rw [<- HV.o];go_wp2_with fail;refine dI iM.o cu.o λw1 HB1=>?_
  have HT1:=bx (NR.o w1 HB1.o);clear k0 k1 k2 k3 k4 k5 k6 k7 k8 k9 kk;unfold oZ at HT1 ⊢;go_wp2_with fail;refine aP HT1.o ?_
  go_wp2
  go_ret2
  exact⟨rfl,HB1.o⟩
 | true =>
  have hge:=C.nU (s:=s.data.toList) hgb (by rw [<- size_eq];omega);have HR:=bx (show C.ET g s.data.toList nn=((C.bf g.t s.data.toList).take (C.kZ g (C.aO g.t s.data.toList) nn (C.aO g.t s.data.toList).length)).flatten/\C.kM g s.data.toList=0 by
   unfold C.ET;rw [aG hge,C.aiJ hge];exact⟨rfl,hge⟩)
  rw [HR.o.1,HR.o.2];have lG:=bx (C.aaR g s.data.toList hge (C.kZ g (C.aO g.t s.data.toList) nn (C.aO g.t s.data.toList).length));have hfl:C.kZ g (C.aO g.t s.data.toList) nn (C.aO g.t s.data.toList).length<=(C.bf g.t s.data.toList).length:=by
   rw [C.Ru hge];exact C.afY g (C.aO g.t s.data.toList) nn (C.aO g.t s.data.toList).length
  have qj:=bx (show (C.bf g.t s.data.toList).length<=1000 by
   rw [C.Ru hge,C.Gt];have h1:=(qg g.t s.data.toList).2.len;have h2:=uJ s.data.toList;rw [<- size_eq] at h2;omega)
  have HCM:=bx (HCM.o hgb);have ng:=bx (ng.o hgb);have dU:=bx (show s.data.toList.length<=800 by rw [<- size_eq];exact hz);clear hge HR;generalize C.kZ g (C.aO g.t s.data.toList) nn (C.aO g.t s.data.toList).length=res at *;generalize C.bf g.t s.data.toList=cl at *;have vO:=bx (vO.o hgb pX.o (by simp) (by intro x hx;rw [fU.1 hx];show (s.size:Int)<=2000;omega));clear iM h1 h2 hV hs hw hn hwd hgk hE hD hG hB hrest Gx
  go_in
  go_upto_region 1 with(fail)
  rw [<- HV.o];go_wp2_with fail;refine vO.o.mono ?_;rintro e w1 ⟨⟨mg,hm,zf,pb',rv',yU,zi,uG,vJ,rfl,hM⟩,hb1⟩;have HB1:=aJ cu hb1;have pF:=bx hM;clear hb1 hM k0 k1 k2 k3 k4 k5 k6 k7 k8 k9 kk;have pU:=bx (ng.o w1 mg hm zf pb' rv' yU zi uG vJ HB1.o pF.o);have HC2:=bx (λW (h:ak w1 W)=>HCM.o W mg hm zf pb' rv' yU zi uG vJ (bt HB1.o h) (pF.o.below h));clear HCM ng;obtain⟨n,hn⟩:∃ n,n=cl.length:=⟨_,rfl⟩
  rw [<- hn] at hfl;have HN:=bx hn;have uZ:=bx hfl;clear hn hfl;go_wp2_with fail;refine pU.o.mono ?_;rintro e w2 ⟨⟨v2,rfl,hv2,-⟩,hb2⟩;have HB2:=bx hb2;have iV:=bx hv2;clear hb2 hv2;go_wp2_with fail;refine aT (HC2.o w2 HB2.o) λw3 hb3=>?_
  have HB3:=aJ HB2 hb3;obtain⟨la,lc,rfl,hl1,hl2⟩:=iV.o.slice;rw [<- HN.o] at hl1 ⊢;have hfl:=uZ.o;have htl:(cl.take res).length=res:=by rw [dw];have:=HN.o;omega
  have hv3:=cZ.take (iV.o.below hb3) res lc (by omega) aU;rw [htl] at hv3;have sV:=bx hv3;clear htl hv3;have HJ:=bx (Eo _ _ w3 sV.o (by have:=lG.o;have:=dU.o;omega) (by rw [dw];have:=qj.o;omega));clear hb3 HC2;go_wp2_with fail;refine aT HJ.o λw4 hb4=>?_
  have HB4:=bx (HB1.o.trans ((bt HB3.o hb4).mono HB1.o.size));clear hb4
  go_wp2
  go_ret2
  exact⟨rfl,HB4.o⟩
namespace C
theorem ah8 (ls:List (List Int)) (b c:Int):∀ k,lQ ls b c k<=k
 | 0=>bK _
 | k+1=>by
  unfold lQ
  split
  ·exact bK _
  exact Nat.le_succ_of_le (ah8 ls b c k)
end C
namespace C
def wO (t:Tab) (s:List UInt8) (k:Nat):List Int:=((aO t s).take k).flatten
theorem zD:∀ ls:List (List Int),(ls.map U.textOf).flatten=U.textOf ls.flatten
 | []=>rfl
 | l::t=>by rw [iR,pY,pY,zD t,U.Fq]
theorem Yf {t:Tab} {s:List UInt8} (h:textE t s=0) (k:Nat):headA t s k=U.textOf (wO t s k):=by
 unfold headA wO;rw [uO h,<- List.map_take,zD]
theorem EL {t:Tab} {s:List UInt8}:∀ l∈aO t s,∀ x∈l,U.right x=true:=by
 intro l hl x hx;unfold aO at hl;obtain⟨i,-,rfl⟩:=jM.1 hl;exact PI (Dx s) _ _ x hx
theorem Yj (t:Tab) (s:List UInt8) (k:Nat):∀ x∈wO t s k,U.right x=true:=by
 intro x hx;unfold wO at hx;obtain⟨l,hl,hxl⟩:=List.mem_flatten.1 hx;exact EL l (List.mem_of_mem_take hl) x hxl
theorem auk {t:Tab} {s:List UInt8} (h:textE t s=0) (k:Nat):U.scalars (headA t s k)=some (wO t s k):=by
 rw [Yf h];exact(U.zJ _ _).2 ⟨rfl,Yj t s k⟩
theorem ZX {t:Tab} {s:List UInt8} (h:textE t s=0) (k:Nat):(headA t s k).length<=(M.fix s).length:=by
 rw [<- DT h];unfold headA;have h1:(bf t s).flatten=((bf t s).take k).flatten++((bf t s).drop k).flatten:=by rw [<- rH,oN]
 rw [h1,bC];omega
theorem XG {t:Tab} {s:List UInt8} (h:textE t s=0):(aO t s).flatten=dF s:=by
 have h1:U.scalars (U.textOf (aO t s).flatten)=some (aO t s).flatten:=(U.zJ _ _).2 ⟨rfl,λx hx=>by
  obtain⟨l,hl,hxl⟩:=List.mem_flatten.1 hx;exact EL l hl x hxl⟩
 rw [<- zD,<- uO h,DT h,Et] at h1;exact(Option.some.inj h1).symm
end C
namespace C
theorem QY (l:List (List UInt8)) {b e:Nat} (h:b<=e):(l.take b).flatten++((l.take e).drop b).flatten=(l.take e).flatten:=by
 rw [<- rH]
 congr 1
 have h1:=oN b (l.take e)
 rwa [List.take_take,sH h] at h1
theorem Xa (ls:List (List Int)) (b c:Int):∀ k,lQ ls b c k=0\/pW ls b c (lQ ls b c k)=true
 | 0=>.inl rfl
 | k+1=>by
  unfold lQ
  split
  ·rename_i h;exact .inr h
  exact Xa ls b c k
theorem adO {ls:List (List Int)} {b c b' c':Int}:∀ n,(∀ k,k<=n->pW ls b c k=true->pW ls b' c' k=true)->lQ ls b c n<=lQ ls b' c' n
 | 0,_=>bK _
 | n+1,h=>by
  have ih:=adO (ls:=ls) (b:=b) (c:=c) (b':=b') (c':=c') n (λk hk=>h k (by omega));unfold lQ
  split
  ·rename_i h1
   rw [aG (h (n+1) aU h1)];exact bK _
  split
  ·have:=ah8 ls b c n;omega
  exact ih
theorem ama {t:Tab} {s:List UInt8} (h:textE t s=0) (i:Nat):(headA t s i).length=sD (aO t s) i:=by
 unfold headA sD;rw [uO h,<- List.map_take];generalize (aO t s).take i=l
 induction l with
 | nil=>rfl
 | cons x t ih=>rw [iR,pY,bC,ih,iR,List.sum_cons]
theorem abD (t:Tab) (s:List UInt8) (i:Nat):(wO t s i).length=tu (aO t s) i:=by
 unfold wO tu;rw [List.length_flatten]
theorem ahk {t:Tab} {s:List UInt8} (h:textE t s=0) (i:Nat):tu (aO t s) i<=(dF s).length:=by
 rw [<- abD,<- XG h];unfold wO;have h1:(aO t s).flatten=((aO t s).take i).flatten++((aO t s).drop i).flatten:=by rw [<- rH,oN]
 rw [h1,bC];omega
theorem axw (t:Tab) (s:List UInt8) {i j:Nat} (h:i<=j):∃ r,headA t s j=headA t s i++r:=by
 unfold headA;refine⟨(((bf t s).take j).drop i).flatten,?_⟩;rw [QY _ h]
theorem alu (g:Ga) (hk:g.k=0) (ls:List (List Int)) (k:Nat):dX g ls k=(sD ls k:Int):=by
 unfold dX;rw [afA g hk];unfold sD;generalize ls.take k=l
 congr 1
 induction l with
 | nil=>rfl
 | cons x t ih=>rw [iR,pY,bC,ih,iR,List.sum_cons]
theorem akq {k:Kt} {s:List UInt8} {n c:Int} (he:kM (kg k 0) s=0) (hc:(dF s).length<=c):ET (kg k 0) s n=headA k.c s (lQ (aO k.c s) n c (aO k.c s).length):=by
 obtain⟨h1,h2⟩:=TS he;have ht:textE k.c s=0:=wG (g:=kg k 0) h1 h2;have hf:∀ m,kZ (kg k 0) (aO k.c s) n m=lQ (aO k.c s) n c m:=λm=>by
  induction m with
  | zero=>rfl
  | succ m ih =>
   unfold kZ lQ;rw [ih];have e:dX (kg k 0) (aO k.c s) (m+1)=(sD (aO k.c s) (m+1):Int):=alu _ rfl _ _;have hs:=ahk (s:=s) ht (m+1);have:pW (aO k.c s) n c (m+1)=decide (dX (kg k 0) (aO k.c s) (m+1)<=n):=by
    unfold pW;rw [e,bD (show (tu (aO k.c s) (m+1):Int)<=c by omega),Bool.and_true]
   rw [this]
   by_cases h:dX (kg k 0) (aO k.c s) (m+1)<=n
   ·rw [aG h,aG (bD h)]
   rw [aF h,aF (by rw [dh h];decide)]
 unfold ET headA;rw [aG he,show (kg k 0).t=k.c from rfl,hf,uO ht]
theorem aj3 {t:Tab} {s:List UInt8} {n m:Int} (ht:textE t s=0) (hn:0<=n) (hm:0<=m) {c:Int} (hc:(dF s).length<=c) :
  ((headA t s (lQ (aO t s) n c (aO t s).length)).length:Int)<=n/\((wO t s (lQ (aO t s) n m (aO t s).length)).length:Int)<=m /\
  ∃ r,headA t s (lQ (aO t s) n c (aO t s).length)=headA t s (lQ (aO t s) n m (aO t s).length)++r:=by
 refine⟨?_,?_,axw t s (adO _ (λk _ hk=>?_))⟩
 ·rw [ama ht]
  rcases Xa (aO t s) n c (aO t s).length with h | h
  ·rw [h];simp [sD];exact hn
  unfold pW at h;rw [dD] at h;exact of_decide_eq_true h.1
 ·rw [abD]
  rcases Xa (aO t s) n m (aO t s).length with h | h
  ·rw [h];simp [tu];exact hm
  unfold pW at h;rw [dD] at h;exact of_decide_eq_true h.2
 have h1:=ahk (s:=s) ht k;unfold pW at *;rw [dD] at *;exact⟨hk.1,bD (by omega)⟩
end C
namespace C
theorem Zk {k:Kt} {s:List UInt8} {b c:Int} (h:bH k=false):vU k s b c=[]/\qI k s b c=160:=by
 have h0:qI k s b c=160:=by unfold qI;rw [He h];rfl
 exact⟨by unfold vU;rw [h0];rfl,h0⟩
theorem QN {k:Kt} {s:List UInt8} {b c:Int} (h:bH k=true) (hz:s.length<=600) (hc:b<0\/c<0):vU k s b c=[]/\qI k s b c=161:=by
 have h0:qI k s b c=161:=by unfold qI;rw [aG (uV h hz (by simp)),aG hc]
 exact⟨by unfold vU;rw [h0];rfl,h0⟩
end C
theorem asP (A:Nat->Addr) (B:Nat) (v:Value) (k:C.Kt) (s:ByteArray) (b c:Int) (w:World) (hv:dS w v k) (hs:gY k) (_:s.size<=260) (_:b<=9223372036854775807) (_:c<=9223372036854775807) (hS:Sw A B w) (hb:C.bH k=false) :
  Calls prog 20 #[v, .string s, ah b, ah c] w λen w'=>en = .returned (.tuple #[.string (bs (C.vU k s.data.toList b c)), ah (C.qI k s.data.toList b c)])/\ak w w':=by
 obtain⟨kz,V,rfl,hkz,HV,HB0,aI,dM,dK⟩:=oL hv hS;have HOW:=bx HB0.o;have iM:=bx (λ(hb:C.bH k=false)=>LZ A B _ (aj) k s [] V (dM.o V HB0.o) hs (dK.o V HB0.o) hb (.inl ⟨rfl,rfl⟩));have HO:=bx (iM.o hb);have HR:=bx (C.Zk (s:=s.data.toList) (b:=b) (c:=c) hb);clear iM hb hs hS dM;have hld:=aI.o V aZ
 go_in
 go_upto_region 1 with(fail)
 rw [<- HV.o];go_wp2_with (refine eF rfl _ rfl _ rfl hld hkz ?_)
 refine dI HO.o HOW.o λw1 HB1=>?_
 clear hld;go_wp2_with fail;refine dI (yA (160) w1 (dK.o w1 HB1.o).t) HB1.o λw9 fA=>?_
 go_wp2
 go_ret2
 exact⟨by rw [HR.o.1,HR.o.2] <;> rfl,fA.o⟩
theorem apT (A:Nat->Addr) (B:Nat) (v:Value) (k:C.Kt) (s:ByteArray) (b c:Int) (w:World) (hv:dS w v k) (hs:gY k) (hz:s.size<=260) (hbm:b<=9223372036854775807) (hcm:c<=9223372036854775807) (hS:Sw A B w) (hb:C.bH k=true) (hc:b<0\/c<0) :
  Calls prog 20 #[v, .string s, ah b, ah c] w λen w'=>en = .returned (.tuple #[.string (bs (C.vU k s.data.toList b c)), ah (C.qI k s.data.toList b c)])/\ak w w':=by
 obtain⟨kz,V,rfl,hkz,HV,HB0,aI,dM,dK⟩:=oL hv hS;have HOW:=bx HB0.o;have fH:=bx (λ(hb:C.bH k=true) (hz:s.size<=600)=>uQ A B _ (aj) k s [] V (dM.o V HB0.o) hs (dK.o V HB0.o) hb (.inl ⟨rfl,rfl⟩) hz (by simp) (λp hp=>by cases hp));have HO:=bx (fH.o hb (by omega));have HR:=bx (C.QN (s:=s.data.toList) hb (by rw [<- size_eq];omega) hc);have d1:decide (min b c<0)=true:=bD (by omega);clear fH hb hs hS hz dM;have hld:=aI.o V aZ
 go_in
 go_upto_region 1 with(fail)
 rw [<- HV.o];go_wp2_with (refine eF rfl _ rfl _ rfl hld hkz ?_)
 refine HO.o.mono ?_;rintro en w1 ⟨⟨g,rfl,hwk,-⟩,hb1⟩;have HB1:=aJ HOW hb1;have kF:=bx hwk;clear hb1 hwk hld;go_wp2_with fail;refine dI (yA (161) w1 (dK.o w1 HB1.o).t) HB1.o λw9 fA=>?_
 go_wp2
 go_ret2
 exact⟨by rw [HR.o.1,HR.o.2] <;> rfl,fA.o⟩
theorem ahK (A:Nat->Addr) (B:Nat) (v:Value) (k:C.Kt) (s:ByteArray) (b c:Int) (w:World) (hv:dS w v k) (hs:gY k) (hz:s.size<=260) (hbm:b<=9223372036854775807) (hcm:c<=9223372036854775807) (hS:Sw A B w) :
  Calls prog 20 #[v, .string s, ah b, ah c] w λen w'=>en = .returned (.tuple #[.string (bs (C.vU k s.data.toList b c)), ah (C.qI k s.data.toList b c)])/\ak w w':=by
 cases hb:C.bH k with
 | false=>exact asP A B v k s b c w hv hs hz hbm hcm hS hb
 | true =>
  by_cases hc:b<0\/c<0
  ·exact apT A B v k s b c w hv hs hz hbm hcm hS hb hc
  exact aiS A B v k s b c w hv hs hz hbm hcm hS hb hc
theorem dS.gauge {w:World} {n m:Int} {x1 x2 x3 x4 x5 x6 x7 x8 x9 x10 x11 x12 jY x14 x15 x16 x17 x18:Value} {b:Bool} {k:C.Kt}
  (h:dS w (.agg #[ah n,x1,x2,x3,x4,x5, ah m,x6,x7,x8,x9,x10,x11,x12, .bool b,jY,x14,x15,x16,x17,x18]) k) (i:Int):rM w (.agg #[ah n,x1,x2,x3,x4,x5,x11,x12, .bool b, ah i]) (C.kg k i):=by
 obtain⟨_,_,_,_,_,_,_,_,_,_,_,_,_,_,_,_,_,_,_,_,_,e,h⟩:=h;injection e with e;simp only [Array.mk.injEq,jm,Value.int.injEq,Value.bool.injEq,true_and,and_true] at e;obtain⟨rfl,rfl,rfl,rfl,rfl,rfl,rfl,rfl,rfl,rfl,rfl,rfl,rfl,rfl,rfl,rfl,rfl,rfl,rfl,rfl,rfl⟩:=e;exact h.gauge i
theorem aoH (A:Nat->Addr) (B:Nat) (v:Value) (k:C.Kt) (s:ByteArray) (n m:Int) (w:World) (hv:dS w v k) (hzs:s.size<=9223372036854775807) (hn:aar n) (hm:aar m) (hS:Sw A B w) :
  Calls prog 11 #[v, .string s, ah n, ah m] w λx w'=>x = .returned (.bool true)/\ak w w':=by
 have HS:=bx hS;have oI:=bx hv;obtain⟨x1,z1,x2,z2,x3,z3,x4,z4,x5,z5,x6,z6,x7,z7,x8,z8,x9,z9,x10,z10,x11,z11,x12,z12,jY,z13,x14,sJ,x15,sO,x16,rZ,x17,z17,x18,rO,rfl⟩:=hv.slices;clear hv;generalize k.c.p.1.length=y1,k.c.p.2.length=y2,k.c.r.length=y3,k.c.m.1.length=y4,k.c.m.2.length=y5,k.w.p.1.length=y6,k.w.p.2.length=y7,k.w.r.length=y8,k.w.m.1.length=y9,k.w.m.2.length=uM,k.d.p.1.length=uj,k.d.p.2.length=vI,k.s.lo.length=y13,k.s.ti.length=vK,k.s.ca.1.length=vH,k.s.ca.2.length=vF,k.s.ig.1.length=uh,k.s.ig.2.length=uY,k.c.n=nt,k.w.n=nw,k.d.wide=wb at oI ⊢;have oU:=bx (λW=>FK s 100 100 W rfl hzs (by decide));have mM:=bx (EU s 100);generalize zL s 100=cs at oU mM;clear hzs;obtain⟨V,hV⟩:∃ V,V=w.alloc (.cells #[ah nt, .slice x1 y1 z1, .slice x2 y2 z2, .slice x3 y3 z3, .slice x4 y4 z4, .slice x5 y5 z5, ah nw, .slice x6 y6 z6, .slice x7 y7 z7, .slice x8 y8 z8, .slice x9 y9 z9, .slice x10 uM z10, .slice x11 uj z11, .slice x12 vI z12, .bool wb, .slice jY y13 z13, .slice x14 vK sJ, .slice x15 vH sO, .slice x16 vF rZ, .slice x17 uh z17, .slice x18 uY rO] 38):=⟨_,rfl⟩
 have HB0:=bx (aB hV);have vw:=bx (show Sep [Pc.blk w.heap.size 38 #[ah nt, .slice x1 y1 z1, .slice x2 y2 z2, .slice x3 y3 z3, .slice x4 y4 z4, .slice x5 y5 z5, ah nw, .slice x6 y6 z6, .slice x7 y7 z7, .slice x8 y8 z8, .slice x9 y9 z9, .slice x10 uM z10, .slice x11 uj z11, .slice x12 vI z12, .bool wb, .slice jY y13 z13, .slice x14 vK sJ, .slice x15 vH sO, .slice x16 vF rZ, .slice x17 uh z17, .slice x18 uY rO],Pc.old w.heap.size w] V by rw [hV];exact(Sep.start w).eu _ _);have dU:=bx (show V.heap.size=w.heap.size+1 by rw [hV];simp);have HV:=bx hV;clear hS hV
 go_in
 go_wp2_with fail;rw [<- HV.o];refine aT (MH A B V (HS.o.below HB0.o)) λw1 hb1=>?_
 have HB1:=bx (bT HB0.o hb1);have o9:=bx (vw.o.below hb1);have eG:=bx (show w.heap.size<w1.heap.size by have:=dU.o;have:=hb1.size;omega);clear hb1 HV;have gG:=bx (KW _ k w w1 oI.o HB1.o);have hld:=o9.o.blk 0 rfl;go_wp2_with (refine eF rfl _ rfl _ rfl hld rfl ?_)
 refine gG.o.mono ?_;rintro ex w2 ⟨hb2,v',rfl,ji⟩;clear hld;have HB2:=bx (bT HB1.o hb2);have lZ:=bx (o9.o.below hb2);obtain⟨p1,r1,p2,r2,p3,r3,p4,r4,p5,r5,p6,r6,p7,r7,p8,r8,p9,r9,p10,r10,p11,r11,p12,r12,p13,r13,jP,jT,jK,jH,p16,r16,jL,jS,jI,jJ,rfl⟩:=(ji w2 (Turns.refl _ _) HB2.o).slices;have hks:=LM k;obtain⟨K,hK⟩:∃ K,K=G7 k:=⟨_,rfl⟩
 have lW:=bx (show gY K by rw [hK];exact hks);rw [<- hK] at ji ⊢;clear hb2 hK hks;generalize K.c.p.1.length=q1,K.c.p.2.length=q2,K.c.r.length=q3,K.c.m.1.length=q4,K.c.m.2.length=q5,K.w.p.1.length=q6,K.w.p.2.length=q7,K.w.r.length=q8,K.w.m.1.length=q9,K.w.m.2.length=q10,K.d.p.1.length=q11,K.d.p.2.length=q12,K.s.lo.length=q13,K.s.ti.length=jh,K.s.ca.1.length=iZ,K.s.ca.2.length=q16,K.s.ig.1.length=je,K.s.ig.2.length=jf,K.c.n=nu,K.w.n=nv,K.d.wide=we at ji ⊢;have uI:=bx ji;clear ji gG;have hld:=lZ.o.blk 0 rfl;have iL:=bx (show Sep [Pc.blk w.heap.size 38 #[ah nu, .slice p1 q1 r1, .slice p2 q2 r2, .slice p3 q3 r3, .slice p4 q4 r4, .slice p5 q5 r5, ah nv, .slice p6 q6 r6, .slice p7 q7 r7, .slice p8 q8 r8, .slice p9 q9 r9, .slice p10 q10 r10, .slice p11 q11 r11, .slice p12 q12 r12, .bool we, .slice p13 q13 r13, .slice jP jh jT, .slice jK iZ jH, .slice p16 q16 r16, .slice jL je jS, .slice jI jf jJ],Pc.old w.heap.size w] _ from lZ.o.setRow 0 rfl #[ah nu, .slice p1 q1 r1, .slice p2 q2 r2, .slice p3 q3 r3, .slice p4 q4 r4, .slice p5 q5 r5, ah nv, .slice p6 q6 r6, .slice p7 q7 r7, .slice p8 q8 r8, .slice p9 q9 r9, .slice p10 q10 r10, .slice p11 q11 r11, .slice p12 q12 r12, .bool we, .slice p13 q13 r13, .slice jP jh jT, .slice jK iZ jH, .slice p16 q16 r16, .slice jL je jS, .slice jI jf jJ]);have HT3:=bx (show Turns (λq=>q=w.heap.size) w2 _ from Turns.setRow (own:=λq=>q=w.heap.size) (g:=w.heap.size) rfl #[ah nu, .slice p1 q1 r1, .slice p2 q2 r2, .slice p3 q3 r3, .slice p4 q4 r4, .slice p5 q5 r5, ah nv, .slice p6 q6 r6, .slice p7 q7 r7, .slice p8 q8 r8, .slice p9 q9 r9, .slice p10 q10 r10, .slice p11 q11 r11, .slice p12 q12 r12, .bool we, .slice p13 q13 r13, .slice jP jh jT, .slice jK iZ jH, .slice p16 q16 r16, .slice jL je jS, .slice jI jf jJ])
 go_upto_region 3 with(refine Jl rfl _ _ rfl _ rfl rfl hld rfl (by rfl) (by kernel_rfl) ?_)
 generalize w2.setRow w.heap.size #[ah nu, .slice p1 q1 r1, .slice p2 q2 r2, .slice p3 q3 r3, .slice p4 q4 r4, .slice p5 q5 r5, ah nv, .slice p6 q6 r6, .slice p7 q7 r7, .slice p8 q8 r8, .slice p9 q9 r9, .slice p10 q10 r10, .slice p11 q11 r11, .slice p12 q12 r12, .bool we, .slice p13 q13 r13, .slice jP jh jT, .slice jK iZ jH, .slice p16 q16 r16, .slice jL je jS, .slice jI jf jJ]=w3 at iL HT3 ⊢;clear hld;have HB3:=bx (iL.o.bel (n:=w.heap.size) (W0:=w) (by simp));have iw:=bx (show dS w3 (.agg #[ah nu, .slice p1 q1 r1, .slice p2 q2 r2, .slice p3 q3 r3, .slice p4 q4 r4, .slice p5 q5 r5, ah nv, .slice p6 q6 r6, .slice p7 q7 r7, .slice p8 q8 r8, .slice p9 q9 r9, .slice p10 q10 r10, .slice p11 q11 r11, .slice p12 q12 r12, .bool we, .slice p13 q13 r13, .slice jP jh jT, .slice jK iZ jH, .slice p16 q16 r16, .slice jL je jS, .slice jI jf jJ]) K from uI.o w3 (HT3.o.mono (λk hk=>by have:=eG.o;omega)) HB3.o);have aS:=bx (HS.o.below HB3.o);have aI:=bx (λW (h:ak w3 W)=>(iL.o.blk 0 rfl).below h (iL.o.blk 0 rfl).lt);clear vw o9 lZ iL HT3 uI HB0 HB1 HB2 dU oI HS eG;go_wp2_with fail;refine aP (oU.o _) ?_;clear oU;have hcs:cs.size<=100:=mM.o;have X1:=bx (λW (h:ak w3 W)=>ahK A B _ K cs n 4611686018427387904 W (iw.o.below h) lW.o (by omega) hn.2 (by decide) (aS.o.below h));have X2:=bx (λW (h:ak w3 W)=>ahK A B _ K cs n m W (iw.o.below h) lW.o (by omega) hn.2 hm.2 (aS.o.below h));obtain⟨ta,hta⟩:∃ t,t=C.vU K cs.data.toList n 4611686018427387904:=⟨_,rfl⟩
 obtain⟨ea,hea⟩:∃ t,t=C.qI K cs.data.toList n 4611686018427387904:=⟨_,rfl⟩
 obtain⟨tb,htb⟩:∃ t,t=C.vU K cs.data.toList n m:=⟨_,rfl⟩
 obtain⟨eb,heb⟩:∃ t,t=C.qI K cs.data.toList n m:=⟨_,rfl⟩
 obtain⟨tc,htc⟩:∃ t,t=C.ET (C.kg K 0) cs.data.toList n:=⟨_,rfl⟩
 obtain⟨ec,Jy⟩:∃ t,t=C.kM (C.kg K 0) cs.data.toList:=⟨_,rfl⟩
 rw [<- hta,<- hea] at X1;rw [<- htb,<- heb] at X2;have yQ:=bx hcs;have HH:=bx (show (ta=C.vU K cs.data.toList n 4611686018427387904/\ea=C.qI K cs.data.toList n 4611686018427387904)/\(tb=C.vU K cs.data.toList n m/\eb=C.qI K cs.data.toList n m)/\tc=C.ET (C.kg K 0) cs.data.toList n/\ec=C.kM (C.kg K 0) cs.data.toList from⟨⟨hta,hea⟩,⟨htb,heb⟩,htc,Jy⟩);clear hta hea htb heb hn hm;have hld:=aI.o w3 (Below.refl _ w3);go_wp2_with (refine eF rfl _ rfl _ rfl hld rfl ?_)
 refine aT (X1.o w3 (Below.refl _ w3)) λw4 hb=>?_
 clear hld;have HB4:=bx (bT (Below.refl _ w3) hb);clear hb;have hld:=aI.o w4 HB4.o;go_wp2_with (refine eF rfl _ rfl _ rfl hld rfl ?_)
 refine aT (X2.o w4 HB4.o) λw5 hb=>?_
 clear hld;have bU:=bx (bT HB4.o hb);clear hb;obtain⟨V9,EG⟩:∃ V,V=w5.alloc (.cells #[ah nu, .slice p1 q1 r1, .slice p2 q2 r2, .slice p3 q3 r3, .slice p4 q4 r4, .slice p5 q5 r5, .slice p11 q11 r11, .slice p12 q12 r12, .bool we, ah 0] 57):=⟨_,rfl⟩
 have G6:=bx (aK EG);have k9:ak w5 V9:=by rw [EG];exact dA _ _
 have fA:=bx (bT bU.o k9);have kR:=bx (λW (h:ak V9 W)=>G6.o.c10 h);have KX:=bx (λW (h:ak V9 W)=>show rM W (.agg #[ah nu, .slice p1 q1 r1, .slice p2 q2 r2, .slice p3 q3 r3, .slice p4 q4 r4, .slice p5 q5 r5, .slice p11 q11 r11, .slice p12 q12 r12, .bool we, ah 0]) (C.kg K 0) from((iw.o.below (bT fA.o h)).gauge (0)));have Qh:=bx EG;clear EG k9;obtain⟨e0,e1,e2,e3,e4,e5,e6,e7,e8,e9,e10,e11,e12,e13,e14,e15,e16,e17,e18,e19,e20,el⟩:=(aI.o w5 bU.o).c21 aZ
 go_upto_region 7 with(fail)
 rw [<- Qh.o];clear e0 e1 e2 e3 e4 e5 e6 e7 e8 e9 e10 e11 e12 e13 e14 e15 e16 e17 e18 e19 e20 el;generalize w5.heap.size=gb at kR ⊢;clear G6 Qh;have X3:=bx (λW (h:ak V9 W)=>anU A B _ (C.kg K 0) cs n W (KX.o W h) lW.o.c lW.o.d (by omega) (aS.o.below (bT fA.o h)).e (aS.o.below (bT fA.o h)).d (aS.o.below (bT fA.o h)).g (aS.o.below (bT fA.o h)).le);rw [<- htc,<- Jy] at X3;clear htc Jy;obtain⟨g0,g1,g2,g3,g4,g5,g6,g7,g8,g9,gl⟩:=kR.o V9 (Below.refl _ V9);go_wp2_with fail;refine aT (X3.o V9 (Below.refl _ V9)) λw10 hb=>?_
 clear g0 g1 g2 g3 g4 g5 g6 g7 g8 g9 gl;have Fh:=bx (bT (Below.refl _ V9) hb);clear hb;have e1:=xH
 cases hb:C.bH K with
 | false =>
  have hr:=C.Zk (s:=cs.data.toList) (b:=n) (c:=4611686018427387904) hb;have hr2:=C.Zk (s:=cs.data.toList) (b:=n) (c:=m) hb;obtain rfl:ta=[]:=HH.o.1.1.trans hr.1;obtain rfl:ea=160:=HH.o.1.2.trans hr.2;obtain rfl:tb=[]:=HH.o.2.1.1.trans hr2.1;obtain rfl:eb=160:=HH.o.2.1.2.trans hr2.2;clear hr hr2 hb hcs
  go_wp2
  go_ret
  exact⟨rfl,bT HB3.o (bT fA.o Fh.o)⟩
 | true =>
  have h1:cs.data.toList.length<=600:=by rw [<- size_eq];omega
  by_cases hn:n<0
  ·have hr:=C.QN (c:=4611686018427387904) hb h1 (.inl hn);have hr2:=C.QN (c:=m) hb h1 (.inl hn);obtain rfl:ta=[]:=HH.o.1.1.trans hr.1;obtain rfl:ea=161:=HH.o.1.2.trans hr.2;obtain rfl:tb=[]:=HH.o.2.1.1.trans hr2.1;obtain rfl:eb=161:=HH.o.2.1.2.trans hr2.2;clear hr hr2 hb hcs h1 hn
   go_wp2
   go_ret
   exact⟨rfl,bT HB3.o (bT fA.o Fh.o)⟩
  have hr:=C.Yc (b:=n) (c:=4611686018427387904) hb h1 (by omega);obtain rfl:ea=0:=HH.o.1.2.trans hr.2
  by_cases hm:m<0
  ·have hr2:=C.QN (b:=n) hb h1 (.inr hm);obtain rfl:tb=[]:=HH.o.2.1.1.trans hr2.1;obtain rfl:eb=161:=HH.o.2.1.2.trans hr2.2;have d1:=bD hm;clear hr hr2 hb hcs h1 hn hm
   go_wp2
   go_ret
   exact⟨rfl,bT HB3.o (bT fA.o Fh.o)⟩
  have hr2:=C.Yc (b:=n) (c:=m) hb h1 (by omega);obtain rfl:eb=0:=HH.o.2.1.2.trans hr2.2;have hte:textE K.c cs.data.toList=0:=EC hb (by rw [<- size_eq];omega);have hge:C.kM (C.kg K 0) cs.data.toList=0:=C.nU (C.CY hb (by decide) (by decide)) (by rw [<- size_eq];omega);obtain rfl:ec=0:=HH.o.2.2.2.trans hge;have hsl:=uJ cs.data.toList;rw [<- size_eq] at hsl;have hcl:=C.akq (n:=n) (c:=4611686018427387904) hge (by omega);obtain rfl:ta=tc:=by rw [HH.o.1.1,hr.1,HH.o.2.2.1,hcl]
  have hlw:=C.aj3 (n:=n) (m:=m) hte (by omega) (by omega) (c:=4611686018427387904) (by omega);rw [<- hcl,<- HH.o.2.2.1,<- hr2.1,<- HH.o.2.1.1] at hlw;obtain⟨hl1,hl2,r,hl3⟩:=hlw;have hsc:U.scalars tb=some (C.wO K.c cs.data.toList (C.lQ (C.aO K.c cs.data.toList) n m (C.aO K.c cs.data.toList).length)):=by
   rw [HH.o.2.1.1,hr2.1];exact C.auk hte _
  have hlen:tb.length<=300:=by
   rw [HH.o.2.1.1,hr2.1];have h2:=C.ZX hte (C.lQ (C.aO K.c cs.data.toList) n m (C.aO K.c cs.data.toList).length);have h3:=C.qJ cs.data.toList;rw [<- size_eq] at h3;omega
  have X4:=bx (λW (h:ak V9 W)=>TK A B tb _ W (by omega) (aS.o.below (bT fA.o h)).e (aS.o.below (bT fA.o h)).le hsc);generalize (C.wO K.c cs.data.toList (C.lQ (C.aO K.c cs.data.toList) n m (C.aO K.c cs.data.toList).length)).length=sl at X4 hl2;have q1:((bs ta).toList==(bs ta).toList)=true:=by simp
  have q2:((bs tb).toList==(bs tb).toList)=true:=by simp
  have d1:decide (((bs ta).size:Int)<=n)=true:=bD (by rw [dN];exact hl1);have d2:=bD hl2;have hle:(bs tb).size<=(bs ta).size:=by rw [dN,dN,hl3,bC];omega
  have d3:decide (((bs tb).size:Int)<=((bs ta).size:Int))=true:=bD (by omega);have hcut:=Ef (P:=prog) (T:=9) underlying9 ta tb.length ((bs tb).size:Int) (by rw [dN]) (by rw [hl3,bC];omega);rw [show ta.take tb.length=tb by rw [hl3,List.take_left]] at hcut;clear hr hr2 hb hcs h1 hn hm hte hge hsl hcl hl1 hl2 hl3 hsc hlen HH;go_wp2_with fail;refine(X4.o w10 Fh.o).mono ?_;rintro ex DN ⟨⟨sa,sc,rfl⟩,hb⟩;have Lr:=bx (bT Fh.o hb);clear hb
  go_wp2
  go_ret
  exact⟨rfl,bT HB3.o (bT fA.o Lr.o)⟩
end Go.Proofs.YtdponihkpomheaaGreatDoor
