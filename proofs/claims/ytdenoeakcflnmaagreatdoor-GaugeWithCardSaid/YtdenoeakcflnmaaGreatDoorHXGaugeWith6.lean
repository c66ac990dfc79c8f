/- Texts of this claim. -/
import Derived.Test.YtdenoeakcflnmaaGreatDoorH23
import Derived.Test.YtdenoeakcflnmaaGreatDoorHXGaugeWith5

set_option maxRecDepth 100000
set_option maxHeartbeats 16000000
namespace Go.Proofs.YtdenoeakcflnmaaGreatDoor
section
open Go.RowKit
attribute [local go_sem] Oper.semAt_some
theorem Lj {n:Nat} {W0 w:World} {ov:Value} {l:List (List UInt8)} (h:Sep (lD n W0 ov l) w):Below n W0 w:=Sep.bel (ps:=lD n W0 ov l) h (by simp [lD])
theorem Xg {n:Nat} {W0 w:World} {ov yE:Value} {l r:List (List UInt8)} {x:List UInt8} (h:Sep ((lD n W0 ov l).set 0 (Pc.row n 9 1 yE (l.length+1) (l.map jK++[jK x]))) w) (hr:r=l++[x]):Sep (lD n W0 yE r) w:=by
 subst hr;unfold lD at *;rw [List.length_append,List.map_append];exact h
theorem Xm (n:Nat) (W0:World) (h:n=W0.heap.size):Sep (lD n W0 (.slice none 0 0) []) W0:=by
 subst h;exact(Sep.start W0).iW W0.heap.size 1 9
theorem TF {t:Tab} {s:List UInt8} (he:textE t s=0) {k a b:Nat} (ha:(C.eX t s)[k]?=some a) (hb:(C.eX t s)[k+1]?=some b) :
  a<=b/\b<=(M.fix s).length/\(C.cZ t s).take (k+1)=(C.cZ t s).take k++[((M.fix s).take b).drop a]:=by
 have hr:=(iq t s).2;unfold C.eX at ha hb;unfold C.cZ;rw [if_pos he] at ha hb ⊢;have hk:k+1<(bK t s).length:=by
  have:=(List.getElem?_eq_some_iff.1 hb).1
  rwa [C.tu] at this
 have ea:(C.places (aT s) (bK t s)).getD k 0=a:=by rw [List.getD_eq_getElem?_getD,ha,Option.getD_some]
 have eb:(C.places (aT s) (bK t s)).getD (k+1) 0=b:=by rw [List.getD_eq_getElem?_getD,hb,Option.getD_some]
 have h1:=C.Oe (xs:=aT s) hr hk;have h2:=C.sS (xs:=aT s) (ns:=bK t s) hk;rw [ea,eb] at h1;rw [eb] at h2;refine⟨by omega,by rw [C.qp];exact h2,?_⟩;rw [C.UL _ _ hk,C.WL hr hk,ea,eb,C.qp,List.drop_take]
theorem PG (v:Value) (t:Tab) (s:ByteArray) (w:World) (hv:TabAt w v t) (hs:dZ t) (hz:s.size<=299) :
  Calls Tryz.prog 56 #[v, .string s] w λe w'=>(∃ v',e = .returned (.tuple #[v', .int .i64 (textE t s.data.toList)])/\dI w' v' (C.cZ t s.data.toList))/\Below w.heap.size w w':=by
 obtain⟨pi,pb,rv,nv,fv,rfl,h1,h2,h3,h4,h5⟩:=hv;obtain⟨V,hV⟩:∃ V,V=w.alloc (.cells #[.int .i64 t.n,pi,pb,rv,nv,fv] 31):=⟨_,rfl⟩
 have HB0:=bx (show Below w.heap.size w V by rw [hV];exact aO _ _);have HK:=bx (show aj V w.heap.size 31 #[.int .i64 t.n,pi,pb,rv,nv,fv] by rw [hV];exact aj.new _ _ _);have bD:=bx (λW (h:Below w.heap.size w W)=>show TabAt W (.agg #[.int .i64 t.n,pi,pb,rv,nv,fv]) t from⟨pi,pb,rv,nv,fv,rfl,h1.below h,h2.below h,h3.below h,h4.below h,h5.below h⟩);have ay:=bx (λW (h:Below V.heap.size V W)=>HK.o.c6 h);have HV:=bx hV;have eY:=bx (E5 _ t s V (bD.o V HB0.o) hs hz);have gQ:=bx (λW=>yF s W (by omega));have hpl:=Jy t s.data.toList;rw [<- size_eq] at hpl;have hfl:=C.sG s.data.toList;rw [<- size_eq] at hfl
 by_cases he:textE t s.data.toList=0
 ·have xG:=bx he;have vY:=bx (λ(k a b:Nat) ha hb=>TF he (k:=k) (a:=a) (b:=b) ha hb);have jH:=bx (show (C.cZ t s.data.toList).length+1=(C.eX t s.data.toList).length by
   unfold C.cZ C.eX;rw [if_pos he,if_pos he,C.pieces_len,C.tu];have:=(iq t s.data.toList).2.ne;omega)
  rw [he] at eY;have gQ:=bx (λW=>show Calls Tryz.prog 41 #[.string s] W λe w'=>e = .returned (.string (bs (M.fix s.data.toList)))/\Below W.heap.size W w' from gQ.o W);generalize C.eX t s.data.toList=ps at eY vY hpl jH;generalize C.cZ t s.data.toList=cl at vY jH ⊢;generalize M.fix s.data.toList=fx at gQ vY hfl;obtain⟨Q,hQ⟩:∃ Q,cl.length=Q:=⟨_,rfl⟩
  rw [hQ] at jH;have HQ:=bx hQ;have pG:Q<=299:=by have:=jH.o;omega
  clear h1 h2 h3 h4 h5 hV hs he hQ hpl;obtain⟨tn,hn⟩:∃ n,n=t.n:=⟨_,rfl⟩
  rw [<- hn] at HV HK bD ay eY ⊢;clear hn;obtain⟨k0,k1,k2,k3,k4,k5,kk⟩:=ay.o V (Below.refl _ _)
  go_enter Tryz.func56,Tryz.ntmps56
  go_upto_region 1 with(fail)
  rw [<- HV.o];go_wp2_with fail;refine eY.o.mono ?_;rintro e w1 ⟨⟨v1,rfl,hv1⟩,hb1⟩;have dV:=bx hv1;obtain⟨ca,cc,rfl⟩:=hv1.slice;rw [List.length_map,<- jH.o] at dV ⊢;have HB1:=bx (bt HB0.o hb1);clear hb1 hv1 k0 k1 k2 k3 k4 k5 kk;go_wp2_with fail;refine(gQ.o w1).mono ?_;rintro e w2 ⟨rfl,hb2⟩;have HC2:=bx (dV.o.below hb2);have HB2:=bx (bt HB1.o hb2);clear hb2;have aQ:=bx (show Sep (lD w2.heap.size w2 (.slice none 0 0) (cl.take 0)) w2 from Xm _ _ rfl);go_wp2_with fail
  go_loopw [9,10] (λov i wr=>∃ k:Nat,k<=Q/\i = .int .i64 k/\Box (Sep (lD w2.heap.size w2 ov (cl.take k)) wr)) (λ_ i _=>Q-(intOf i).toNat)
  case atStart=>exact⟨0,by omega,rfl,aQ⟩
  case round =>
   obtain⟨k,hk,rfl,hsep⟩:=hrel;have aG:=bx (Lj hsep.o);have aJ:=bx (bt HB2.o aG.o)
   by_cases hlt:k<Q
   ·obtain⟨a,ha⟩:∃ a,ps[k]?=some a:=⟨_,List.getElem?_eq_getElem (by rw [<- jH.o];omega)⟩
    obtain⟨b,hb⟩:∃ b,ps[k+1]?=some b:=⟨_,List.getElem?_eq_getElem (by rw [<- jH.o];omega)⟩
    obtain⟨hab,hbf,htk⟩:=vY.o k a b ha hb;obtain⟨cg,dK,rY,e1,e2,e3,e4,e5⟩:=HC2.o.get (by intro h;have:=congrArg List.length h;rw [List.length_map,<- jH.o,List.length_nil] at this;omega);rw [List.length_map,<- jH.o] at e1 e2;obtain⟨rfl,rfl⟩:ca=some ⟨cg,dK,none⟩/\cc=rY:=by injection e1 with h1 h2 h3;exact⟨h1,h3⟩
    have ca1:=e5 k (a:Int) (by rw [List.getElem?_map,ha];rfl);have cb1:=e5 (k+1) (b:Int) (by rw [List.getElem?_map,hb];rfl);have hsl:=FK (P:=Tryz.prog) (T:=9) Tryz.underlying9 fx a b a b rfl rfl ⟨hab,hbf⟩;have dF:=bx htk;generalize (fx.take b).drop a=X at hsl htk dF;have cu:=bx (λW (h:Below w2.heap.size w2 W)=>show W.cell? ⟨cg,dK+k,none⟩=some (.int .i64 (a:Nat))/\W.cell? ⟨cg,dK+(k+1),none⟩=some (.int .i64 (b:Nat)) from⟨(h.cell (p:=⟨cg,dK+k,none⟩) e4).trans ca1,(h.cell (p:=⟨cg,dK+(k+1),none⟩) e4).trans cb1⟩);have iI:=bx (show (cl.take k).length<=1000000000 by rw [List.length_take,HQ.o];omega);generalize cl.take k=acc at hsep dF iI;have dY:=bx (show Sep (lD w2.heap.size w2 u9 acc) wr.drew from hsep.o.drewN 1);have aF:=bx (show Below w2.heap.size w2 wr.drew from aG.o.trans ((iD wr 1).mono aG.o.size));have au:=bx (cu.o wr.drew aF.o);have hbs:w2.heap.size<=wr.drew.heap.size:=aF.o.size;have e8:decide ((k:Int)+1<(Q:Int)+1)=true:=decide_eq_true (by omega);have EY:(k:Int)<(Q:Int)+1:=by omega
    have UM:(k:Int)+1<(Q:Int)+1:=by omega
    have hk1:IntKind.i64.wrap ((k:Int)+1)=(k:Int)+1:=by rw [IntKind.wrap_i64];omega
    have hk2:(0:Int)<=(k:Int)+1:=by omega
    have hk3:((k:Int)+1).toNat=k+1:=by omega
    unfold maxLen at e3;clear ha hb e1 e4 e5 ca1 cb1 htk hab hbf;go_wp2_with fail;refine fP 14 (λW'=>W'.cell? ⟨cg,dK+k,none⟩=some (.int .i64 (a:Nat))/\W'.cell? ⟨cg,dK+(k+1),none⟩=some (.int .i64 (b:Nat))) (by kernel_rfl) ?_;generalize wr.drew=WR at dY aF au hbs ⊢;refine kS 0 ?_ rfl au.o ?_ ?_;rotate_left
    ·rintro w ⟨q1,q2⟩;go_simp;try with_reducible rfl
    refine kS 1 ?_ rfl au.o ?_ ?_;rotate_left
    ·rintro w ⟨q1,q2⟩;go_simp;try with_reducible rfl
    refine kS 2 ?_ rfl au.o ?_ ?_;rotate_left
    ·rintro w ⟨q1,q2⟩;go_simp;try with_reducible rfl
    refine kS 3 ?_ rfl au.o ?_ ?_;rotate_left
    ·rintro w ⟨q1,q2⟩;go_simp;try with_reducible rfl
    refine kS 4 ?_ rfl au.o ?_ ?_;rotate_left
    ·rintro w ⟨q1,q2⟩;go_simp;try with_reducible rfl
    refine kS 5 ?_ rfl au.o ?_ ?_;rotate_left
    ·rintro w ⟨q1,q2⟩;go_simp;try with_reducible rfl
    refine kS 6 ?_ rfl au.o ?_ ?_;rotate_left
    ·rintro w ⟨q1,q2⟩;go_simp;try with_reducible rfl
    refine kS 7 ?_ rfl au.o ?_ ?_;rotate_left
    ·rintro w ⟨q1,q2⟩;go_simp;try with_reducible rfl
    refine kS 8 ?_ rfl au.o ?_ ?_;rotate_left
    ·rintro w ⟨q1,q2⟩;go_simp;try with_reducible rfl
    refine kS 9 ?_ rfl au.o ?_ ?_;rotate_left
    ·rintro w ⟨q1,q2⟩;go_simp;try with_reducible rfl
    refine kS 10 ?_ rfl au.o ?_ ?_;rotate_left
    ·rintro w ⟨q1,q2⟩;go_simp;try with_reducible rfl
    refine kS 11 ?_ rfl au.o ?_ ?_;rotate_left
    ·rintro w ⟨q1,q2⟩;go_simp;try with_reducible rfl
    refine kP 12 rfl λKK ah=>?_
    go_simp;refine ah.out _ _ (λ_=>cu.o _ (aF.o.trans ((aO WR _).mono aF.o.size))) ?_;clear ah KK;refine kP 13 rfl λKK ah=>?_
    refine uF (u:=jK X) rfl _ _ 48 rfl Gu dY.o 0 rfl rfl (by kernel_rfl) rfl iI.o (by omega) hbs ?_;rintro v6 w6 hS6 -;have aW:=bx (Xg hS6 dF.o);have HF6:=bx (cu.o w6 (Lj aW.o));clear hS6;refine ah.out _ _ (λ_=>HF6.o) ?_;clear ah KK;refine kP 14 rfl λKK ah=>?_
    go_simp;refine ah.out _ _ (λh=>by cases h) ?_;clear ah KK;refine kD ?_ _;clear hk1 hk2 hk3 hsl;go_wp2_with fail
    go_roundw
    case rel=>exact⟨k+1,by omega,by go_num,aW⟩
    case measure=>simp [intOf];omega
   ·obtain rfl:k=Q:=by omega
    have hsp:=hsep.o;rw [List.take_of_length_le (by rw [HQ.o];exact Nat.le_refl _)] at hsp;have HI:=bx (V8 hsp);clear hsp;have e8:decide ((k:Int)+1<(k:Int)+1)=false:=decide_eq_false (by omega);go_wp2_with fail;go_ret2
    exact⟨⟨_,rC rfl (kG xG.o.symm),HI.o⟩,aJ.o⟩
 ·have nJ:=bx (show C.cZ t s.data.toList=[] by unfold C.cZ;rw [if_neg he]);obtain⟨r,hr⟩:∃ r,r=textE t s.data.toList:=⟨_,rfl⟩
  have HR:=bx hr;rw [<- hr] at he eY;have e2:(r != 0)=true:=by rw [bne_iff_ne];exact he
  obtain⟨tn,hn⟩:∃ n,n=t.n:=⟨_,rfl⟩
  rw [<- hn] at HV HK bD ay eY ⊢;clear h1 h2 h3 h4 h5 hV hs hn he hr;obtain⟨k0,k1,k2,k3,k4,k5,kk⟩:=ay.o V (Below.refl _ _)
  go_enter Tryz.func56,Tryz.ntmps56
  go_upto_region 1 with(fail)
  rw [<- HV.o];go_wp2_with fail;refine eY.o.mono ?_;rintro e w1 ⟨⟨v1,rfl,hv1⟩,hb1⟩;obtain⟨ca,cc,rfl⟩:=hv1.slice;have HB1:=bx (bt HB0.o hb1);clear hb1 hv1 k0 k1 k2 k3 k4 k5 kk;go_wp2_with fail;go_ret2
  exact⟨⟨_,rC rfl (kG HR.o),by rw [nJ.o];exact ig.nil⟩,HB1.o⟩
theorem Xn (v:Value) (g:C.Ga) (s:ByteArray) (xs:List Int) (w:World) (hv:dR w v g) (ht:F.iw g.w.p=true) (hx:U.scalars s.data.toList=some xs) (hz:s.size<=4000) :
  Calls Tryz.prog 57 #[v, .string s] w λe w'=>e = .returned (.int .i64 (C.meas g xs))/\Below w.heap.size w w':=by
 have dH:=bx (λW (h:Below w.heap.size w W)=>hv.below h);obtain⟨tn,hn⟩:∃ n,n=g.t.n:=⟨_,rfl⟩
 obtain⟨wd,hwd⟩:∃ b,b=g.w.wide:=⟨_,rfl⟩
 obtain⟨gk,hgk⟩:∃ k,k=g.k:=⟨_,rfl⟩
 have mW:=bx hgk;obtain⟨pi,pb,rv,nv,fv,iv,bv,rfl,h1,h2⟩:=hv;rw [<- hn] at h1;rw [<- hwd] at h2;rw [<- hn,<- hwd,<- hgk] at dH;rw [<- hn,<- hwd,<- hgk];obtain⟨V,hV⟩:∃ V,V=w.alloc (.cells #[.int .i64 tn,pi,pb,rv,nv,fv,iv,bv, .bool wd, .int .i64 gk] 35):=⟨_,rfl⟩
 have HB0:=bx (show Below w.heap.size w V by rw [hV];exact aO _ _);have HK:=bx (show aj V w.heap.size 35 #[.int .i64 tn,pi,pb,rv,nv,fv,iv,bv, .bool wd, .int .i64 gk] by rw [hV];exact aj.new _ _ _);have ay:=bx (λW (h:Below V.heap.size V W)=>HK.o.c10 h);have HV:=bx hV;have jg:=bx (λW (h:Below w.heap.size w W)=>h1.below h);have uK:=bx (λW (h:Below w.heap.size w W)=>h2.below h);clear hn hwd hgk h1 h2 hV;have ng:=bx (λW (h:Below w.heap.size w W)=>Vg _ g.w s xs W (uK.o W h) ht hx hz);have aU:=bx (show (s.size:Int)=((U.textOf xs).length:Int) by rw [((U.qK _ _).1 hx).1,<- size_eq]);have kZ:=bx (show C.meas g xs=if gk=0 then ((U.textOf xs).length:Int) else if gk=1 then 1 else C.fZ g.w xs by rw [mW.o];rfl);generalize C.meas g xs=res at kZ ⊢;clear ht hx hz;obtain⟨k0,k1,k2,k3,k4,k5,k6,k7,k8,k9,kk⟩:=ay.o V (Below.refl _ _)
 go_enter Tryz.func57,Tryz.ntmps57
 go_upto_region 1 with(fail)
 rw [<- HV.o]
 by_cases h0:gk=0
 ·subst h0;have HR:=bx (show res=(s.size:Int) by rw [kZ.o,if_pos rfl,aU.o]);go_wp2_with fail;go_ret
  exact⟨by rw [HR.o];rfl,HB0.o⟩
 ·by_cases h1:gk=1
  ·subst h1;have HR:=bx (show res=1 by rw [kZ.o,if_neg (by decide),if_pos rfl]);clear h0;go_wp2_with fail;go_ret
   exact⟨by rw [HR.o];rfl,HB0.o⟩
  ·have HR:=bx (show res=C.fZ g.w xs by rw [kZ.o,if_neg h0,if_neg h1]);have b0:(gk==0)=false:=beq_false_of_ne h0;have b1:(gk==1)=false:=beq_false_of_ne h1;generalize C.fZ g.w xs=wi at ng HR;clear h0 h1 kZ;go_wp2_with fail;refine(ng.o V HB0.o).mono ?_;rintro e w1 ⟨rfl,hb1⟩;have HB1:=bx (bt HB0.o hb1);clear hb1;go_wp2_with fail;go_ret
   exact⟨by rw [HR.o];rfl,HB1.o⟩
theorem lW {g:C.Ga} {s:List UInt8} (h:C.bF g=false):C.bJ g s=150:=by
 unfold C.bJ;rw [if_pos h]
theorem Wj {g:C.Ga} (h:C.bF g=true):F.iw g.w.p=true:=by
 have:=(C.Hw h).2.1;unfold C.kL at this;rw [Bool.and_eq_true] at this;exact this.1
theorem Gp {g:C.Ga} {s:List UInt8} (h:C.bF g=false):C.jO g s=[]:=by
 unfold C.jO;rw [lW h,if_neg (by decide)]
theorem SI {t:Tab} {s:ByteArray} (hz:s.size<=299):∀ y∈C.aH t s.data.toList,(U.textOf y).length<=4000:=by
 intro y hy;have hr:=(iq t s.data.toList).2;unfold C.aH at hy;obtain⟨i,hi,rfl⟩:=List.mem_map.1 hy;have hi2:i+1<(bK t s.data.toList).length:=by
  have:=List.mem_range.1 hi;omega
 have h3:=C.NU (xs:=aT s.data.toList) hr hi2;have h4:=C.sS (xs:=aT s.data.toList) (ns:=bK t s.data.toList) hi2;rw [<- C.qp] at h4;have h5:=C.sG s.data.toList;rw [<- size_eq] at h5;unfold C.piece at h3;omega
theorem FM {g:C.Ga} {s:List UInt8} (h:C.bJ g s=0):C.jO g s=C.marks g (C.aH g.t s):=by
 unfold C.jO;rw [if_pos h]
theorem Kq (v:Value) (g:C.Ga) (s:ByteArray) (w:World) (hv:dR w v g) (hs:dZ g.t) (hw:fF g.w) (hz:s.size<=299) :
  Calls Tryz.prog 23 #[v, .string s] w λe w'=>(∃ v',e = .returned (.tuple #[v', .int .i64 (C.bJ g s.data.toList)])/\aB w' v' (C.jO g s.data.toList))/\Below w.heap.size w w':=by
 have dH:=bx (λW (h:Below w.heap.size w W)=>hv.below h);obtain⟨tn,hn⟩:∃ n,n=g.t.n:=⟨_,rfl⟩
 obtain⟨wd,hwd⟩:∃ b,b=g.w.wide:=⟨_,rfl⟩
 obtain⟨gk,hgk⟩:∃ k,k=g.k:=⟨_,rfl⟩
 have mW:=bx hgk;obtain⟨pi,pb,rv,nv,fv,iv,bv,rfl,h1,h2⟩:=hv;rw [<- hn] at h1;rw [<- hwd] at h2;rw [<- hn,<- hwd,<- hgk] at dH;rw [<- hn,<- hwd,<- hgk];obtain⟨V,hV⟩:∃ V,V=w.alloc (.cells #[.int .i64 tn,pi,pb,rv,nv,fv,iv,bv, .bool wd, .int .i64 gk] 35):=⟨_,rfl⟩
 have HB0:=bx (show Below w.heap.size w V by rw [hV];exact aO _ _);have HK:=bx (show aj V w.heap.size 35 #[.int .i64 tn,pi,pb,rv,nv,fv,iv,bv, .bool wd, .int .i64 gk] by rw [hV];exact aj.new _ _ _);have ay:=bx (λW (h:Below V.heap.size V W)=>HK.o.c10 h);have HV:=bx hV;have jg:=bx (λW (h:Below w.heap.size w W)=>h1.below h);have uK:=bx (λW (h:Below w.heap.size w W)=>h2.below h);clear hn hwd hgk h1 h2 hV;have eH:=bx (IL _ g V (dH.o V HB0.o) hs hw)
 cases hgb:C.bF g with
 | false =>
  rw [lW hgb,Gp hgb];rw [hgb] at eH;clear hs hw hz hgb;obtain⟨k0,k1,k2,k3,k4,k5,k6,k7,k8,k9,kk⟩:=ay.o V (Below.refl _ _)
  go_enter Tryz.func23,Tryz.ntmps23
  go_upto_region 1 with(fail)
  rw [<- HV.o];go_wp2_with fail;refine eH.o.mono ?_;rintro e w1 ⟨rfl,hb1⟩;have HB1:=bx (bt HB0.o hb1);clear hb1 k0 k1 k2 k3 k4 k5 k6 k7 k8 k9 kk;go_wp2_with fail;go_ret2
  exact⟨⟨_,rfl, .nil⟩,HB1.o⟩
 | true =>
  have hge:=C.jL (s:=s.data.toList) hgb (by rw [<- size_eq];omega);have hte:=C.nC (s:=s.data.toList) hgb (by rw [<- size_eq];omega);rw [FM hge,hge];have gB:=bx (λW (h:Below w.heap.size w W)=>PG _ g.t s W (jg.o W h) hs hz);have jX:=bx (C.Ei hge);rw [hte,jX.o] at gB;have pI:=bx (Wj hgb);have wH:=bx (λy hy=>OC (t:=g.t) (s:=s) (by omega) y hy);have LJ:=bx (SI (t:=g.t) hz);obtain⟨ls,hls⟩:∃ ls,ls=C.aH g.t s.data.toList:=⟨_,rfl⟩
  rw [<- hls] at gB wH LJ ⊢;have lN:=bx (show ls.length<=299 by
   rw [hls,C.tq];have h1:=(iq g.t s.data.toList).2.len;have h2:=lM s.data.toList;rw [<- size_eq] at h2;omega)
  have lu:=bx (show ∀ k,k<=ls.length->0<=C.aS g ls k/\C.aS g ls k<=8000000 from λk hk=>⟨C.Kt g ls k,Nh (by have:=lN.o;omega) (λy hy=>(wH.o y hy).2.2) k hk⟩);have Me:=bx (λ(y:List Int) (hy:y∈ls) W (h:Below w.heap.size w W)=>Xn _ g (bs (U.textOf y)) y W (dH.o W h) pI.o (by rw [qP];exact(wH.o y hy).1) (by rw [eU];exact LJ.o y hy));have eH:=bx (show Calls Tryz.prog 28 #[.agg #[.int .i64 tn,pi,pb,rv,nv,fv,iv,bv, .bool wd, .int .i64 gk]] V λe w'=>e = .returned (.bool true)/\Below V.heap.size V w' from hgb▸eH.o);obtain⟨Q,hQ⟩:∃ Q,ls.length=Q:=⟨_,rfl⟩
  have HQ:=bx hQ;have pG:Q<=299:=by rw [<- hQ];exact lN.o
  clear hs hw hz hgb hge hte hls hQ jg;obtain⟨k0,k1,k2,k3,k4,k5,k6,k7,k8,k9,kk⟩:=ay.o V (Below.refl _ _)
  go_enter Tryz.func23,Tryz.ntmps23
  go_upto_region 1 with(fail)
  rw [<- HV.o];go_wp2_with fail;refine eH.o.mono ?_;rintro e w1 ⟨rfl,hb1⟩;have HB1:=bx (bt HB0.o hb1);have dV:=bx hb1;clear hb1 k0 k1 k2 k3 k4 k5 k6 k7 k8 k9 kk;obtain⟨k0,k1,k2,k3,k4,k5,k6,k7,k8,k9,kk⟩:=ay.o w1 dV.o;go_wp2_with fail;refine(gB.o w1 HB1.o).mono ?_;rintro e w2 ⟨⟨v2,rfl,hv2⟩,hb2⟩;have HB2:=bx (bt HB1.o hb2);have HC2:=bx (bt dV.o hb2);have iV:=bx hv2;obtain⟨la,lc,rfl,-⟩:=hv2.slice;rw [List.length_map,HQ.o] at iV ⊢;clear hb2 hv2 k0 k1 k2 k3 k4 k5 k6 k7 k8 k9 kk;go_wp2_with fail;have aQ:=bx (show Sep (fK w2.heap.size w2 (.slice (some ⟨w2.heap.size,0,none⟩) 1 1) ((C.marks g ls).take (0+1))) (w2.alloc (.cells #[.int .i64 0] 3)) by
   rw [show (C.marks g ls).take (0+1)=[0] by rw [C.IQ g ls (Nat.zero_le _)];rfl];exact(Sep.start w2).got (base:=w2.heap.size) (aO w2 _) (World.ownsRow_lit (base:=w2.heap.size) (e:=3) (size:=1) w2 #[.int .i64 0] 1 (Nat.le_refl _) (by unfold maxLen;omega) rfl) (Nat.le_refl _))
  go_loopw [8,9] (λov i wr=>∃ k:Nat,k<=Q/\i = .int .i64 k/\Box (Sep (fK w2.heap.size w2 ov ((C.marks g ls).take (k+1))) wr)) (λ_ i _=>Q-(intOf i).toNat)
  case atStart=>exact⟨0,by omega,rfl,aQ⟩
  case round =>
   obtain⟨k,hk,rfl,hsep⟩:=hrel;have aG:=bx (zW hsep.o);have aJ:=bx (bt HB2.o aG.o)
   by_cases hlt:k<Q
   ·obtain⟨y,hy⟩:∃ y,ls[k]?=some y:=⟨_,List.getElem?_eq_getElem (by rw [HQ.o];exact hlt)⟩
    obtain⟨lg,lo,kV,e1,e2,e3,e4,e5⟩:=iV.o.get (by intro h;have:=congrArg List.length h;rw [List.length_map,HQ.o,List.length_nil] at this;omega);rw [List.length_map,HQ.o] at e1 e2;obtain⟨rfl,rfl⟩:la=some ⟨lg,lo,none⟩/\lc=kV:=by injection e1 with h1 h2 h3;exact⟨h1,h3⟩
    have Cb:=e5 k (U.textOf y) (by rw [List.getElem?_map,hy];rfl);have hml:((C.marks g ls).take (k+1)).length=k+1:=by rw [List.length_take,C.uZ,HQ.o];omega
    obtain⟨og,oo,IV,o1,o2,o3,o4,o5⟩:=(zL hsep.o).1.get (by intro h;rw [h] at hml;simp at hml);rw [hml] at o1 o2;subst o1;have Dx:=o5 k (C.aS g ls k) (by rw [List.getElem?_take_of_lt (by omega),C.vC g ls (by rw [HQ.o];omega)]);have dF:=bx (C.IQ g ls (k:=k+1) (by rw [HQ.o];omega));have mP:=bx (C.FB g ls hy);have aU:=bx (lu.o (k+1) (by rw [HQ.o];omega));have Eb:=bx (λW h=>Me.o y (List.mem_of_getElem? hy) W h);obtain⟨S0,hS0⟩:∃ S,S=C.aS g ls k:=⟨_,rfl⟩
    obtain⟨S1,hS1⟩:∃ S,S=C.aS g ls (k+1):=⟨_,rfl⟩
    rw [<- hS0] at Dx mP;rw [<- hS1] at mP aU dF;have bG:=bx hS1;have hadd:IntKind.i64.wrap (S0+C.meas g y)=S1:=by
     have h1:=mP.o;have h2:=aU.o;rw [IntKind.wrap_i64];omega
    generalize C.meas g y=M0 at Eb hadd;have iO:=bx hml;generalize (C.marks g ls).take (k+1)=acc at hsep dF iO;have cu:=bx (λW (h:Below wr.heap.size wr W)=>show W.cell? ⟨w.heap.size,0,none⟩=some (.int .i64 tn)/\W.cell? ⟨w.heap.size,1,none⟩=some (pi)/\W.cell? ⟨w.heap.size,2,none⟩=some (pb)/\W.cell? ⟨w.heap.size,3,none⟩=some (rv)/\W.cell? ⟨w.heap.size,4,none⟩=some (nv)/\W.cell? ⟨w.heap.size,5,none⟩=some (fv)/\W.cell? ⟨w.heap.size,6,none⟩=some (iv)/\W.cell? ⟨w.heap.size,7,none⟩=some (bv)/\W.cell? ⟨w.heap.size,8,none⟩=some (.bool wd)/\W.cell? ⟨w.heap.size,9,none⟩=some (.int .i64 gk)/\w.heap.size<W.heap.size/\W.cell? ⟨lg,lo+k,none⟩=some (.string (bs (U.textOf y)))/\W.cell? ⟨og,oo+k,none⟩=some (.int .i64 S0) from by
     obtain⟨k0,k1,k2,k3,k4,k5,k6,k7,k8,k9,kk⟩:=ay.o W (HC2.o.trans ((bt aG.o h).mono HC2.o.size));exact⟨k0,k1,k2,k3,k4,k5,k6,k7,k8,k9,kk,((bt aG.o h).cell (p:=⟨lg,lo+k,none⟩) e4).trans Cb,(h.cell (p:=⟨og,oo+k,none⟩) o4).trans Dx⟩)
    have dY:=bx (show Sep (fK w2.heap.size w2 (.slice (some ⟨og,oo,none⟩) (k+1) IV) acc) wr.drew from hsep.o.drewN 1);have aF:=bx (show Below wr.heap.size wr wr.drew from iD wr 1);have jh:=bx (bt aJ.o aF.o);have au:=bx (cu.o wr.drew aF.o);have hbs:w2.heap.size<=wr.drew.heap.size:=Nat.le_trans aG.o.size aF.o.size;have e8:decide ((k:Int)<(Q:Int))=true:=decide_eq_true (by omega);have EY:(k:Int)<(k:Int)+1:=by omega
    have hln:acc.length<=1000000000:=by rw [iO.o];omega
    unfold maxLen at e3 o3;clear hy e1 e4 e5 Cb o4 o5 Dx hml hS0 hS1;go_wp2_with fail;refine fP 13 (λW'=>W'.cell? ⟨w.heap.size,0,none⟩=some (.int .i64 tn)/\W'.cell? ⟨w.heap.size,1,none⟩=some (pi)/\W'.cell? ⟨w.heap.size,2,none⟩=some (pb)/\W'.cell? ⟨w.heap.size,3,none⟩=some (rv)/\W'.cell? ⟨w.heap.size,4,none⟩=some (nv)/\W'.cell? ⟨w.heap.size,5,none⟩=some (fv)/\W'.cell? ⟨w.heap.size,6,none⟩=some (iv)/\W'.cell? ⟨w.heap.size,7,none⟩=some (bv)/\W'.cell? ⟨w.heap.size,8,none⟩=some (.bool wd)/\W'.cell? ⟨w.heap.size,9,none⟩=some (.int .i64 gk)/\w.heap.size<W'.heap.size/\W'.cell? ⟨lg,lo+k,none⟩=some (.string (bs (U.textOf y)))/\W'.cell? ⟨og,oo+k,none⟩=some (.int .i64 S0)) (by kernel_rfl) ?_;generalize wr.drew=WR at dY aF au jh hbs ⊢;refine kS 0 ?_ rfl au.o ?_ ?_;rotate_left
    ·rintro w ⟨q1,q2,q3,q4,q5,q6,q7,q8,q9,q10,q11,q12,q13⟩;go_simp;try with_reducible rfl
    refine kS 1 ?_ rfl au.o ?_ ?_;rotate_left
    ·rintro w ⟨q1,q2,q3,q4,q5,q6,q7,q8,q9,q10,q11,q12,q13⟩;go_simp;try with_reducible rfl
    refine kS 2 ?_ rfl au.o ?_ ?_;rotate_left
    ·rintro w ⟨q1,q2,q3,q4,q5,q6,q7,q8,q9,q10,q11,q12,q13⟩;go_simp;try with_reducible rfl
    refine kS 3 ?_ rfl au.o ?_ ?_;rotate_left
    ·rintro w ⟨q1,q2,q3,q4,q5,q6,q7,q8,q9,q10,q11,q12,q13⟩;go_simp;try with_reducible rfl
    refine kS 4 ?_ rfl au.o ?_ ?_;rotate_left
    ·rintro w ⟨q1,q2,q3,q4,q5,q6,q7,q8,q9,q10,q11,q12,q13⟩;go_simp;try with_reducible rfl
    refine kS 5 ?_ rfl au.o ?_ ?_;rotate_left
    ·rintro w ⟨q1,q2,q3,q4,q5,q6,q7,q8,q9,q10,q11,q12,q13⟩;go_simp;try with_reducible rfl
    refine kS 6 ?_ rfl au.o ?_ ?_;rotate_left
    ·rintro w ⟨q1,q2,q3,q4,q5,q6,q7,q8,q9,q10,q11,q12,q13⟩;go_simp;try with_reducible rfl
    refine kS 7 ?_ rfl au.o ?_ ?_;rotate_left
    ·rintro w ⟨q1,q2,q3,q4,q5,q6,q7,q8,q9,q10,q11,q12,q13⟩;go_simp;try with_reducible rfl
    refine kS 8 ?_ rfl au.o ?_ ?_;rotate_left
    ·rintro w ⟨q1,q2,q3,q4,q5,q6,q7,q8,q9,q10,q11,q12,q13⟩;go_simp;try with_reducible rfl
    refine kS 9 ?_ rfl au.o ?_ ?_;rotate_left
    ·rintro w ⟨q1,q2,q3,q4,q5,q6,q7,q8,q9,q10,q11,q12,q13⟩;go_simp;try with_reducible rfl
    refine kP 10 rfl λKK ah=>?_
    go_simp;refine(Eb.o WR jh.o).mono ?_;rintro e w5 ⟨rfl,hb5⟩;have aK:=bx (bt aF.o hb5);have fB:=bx (cu.o w5 aK.o);have bU:=bx (dY.o.below hb5);have Uf:w2.heap.size<=w5.heap.size:=Nat.le_trans hbs hb5.size;clear hb5;refine ah.out _ _ (λ_=>fB.o) ?_;clear ah KK;refine kS 11 ?_ rfl fB.o ?_ ?_;rotate_left
    ·rintro w ⟨q1,q2,q3,q4,q5,q6,q7,q8,q9,q10,q11,q12,q13⟩;go_simp;try with_reducible rfl
    refine kP 12 rfl λKK ah=>?_
    go_simp;refine ah.out _ _ (λ_=>cu.o _ (aK.o.trans ((aO w5 _).mono aK.o.size))) ?_;clear ah KK;refine kP 13 rfl λKK ah=>?_
    refine uF (u:=.int .i64 S1) rfl _ _ 22 rfl iT bU.o 0 rfl rfl (by kernel_rfl) rfl hln (by omega) Uf ?_;rintro v6 w6 hS6 -;have aW:=bx (DW (m:=[S1]) hS6 (by simp) dF.o);clear hS6;refine ah.out _ _ (λh=>by cases h) ?_;clear ah KK;refine kP 14 rfl λKK ah=>?_
    go_simp;refine ah.out _ _ (λh=>by cases h) ?_;clear ah KK;refine kD ?_ _;clear hadd;go_wp2_with fail
    go_roundw
    case rel=>exact⟨k+1,by omega,by go_num,aW⟩
    case measure=>simp [intOf];omega
   ·obtain rfl:k=Q:=by omega
    have hsp:=hsep.o;rw [List.take_of_length_le (by rw [C.uZ,HQ.o];exact Nat.le_refl _)] at hsp;have HI:=bx (zL hsp).1;clear hsp;have e8:decide ((k:Int)<(k:Int))=false:=decide_eq_false (by omega);go_wp2_with fail;go_ret2
    exact⟨⟨_,rfl,HI.o⟩,aJ.o⟩
theorem VK (v:Value) (g:C.Ga) (s:ByteArray) (w:World) (hv:dR w v g) (hs:dZ g.t) (hw:fF g.w) (hz:s.size<=299) :
  Calls Tryz.prog 22 #[v, .string s] w λe w'=>e = .returned (.tuple #[.int .i64 (C.eG g s.data.toList), .int .i64 (C.bJ g s.data.toList)])/\Below w.heap.size w w':=by
 have dH:=bx (λW (h:Below w.heap.size w W)=>hv.below h);obtain⟨tn,hn⟩:∃ n,n=g.t.n:=⟨_,rfl⟩
 obtain⟨wd,hwd⟩:∃ b,b=g.w.wide:=⟨_,rfl⟩
 obtain⟨gk,hgk⟩:∃ k,k=g.k:=⟨_,rfl⟩
 have mW:=bx hgk;obtain⟨pi,pb,rv,nv,fv,iv,bv,rfl,h1,h2⟩:=hv;rw [<- hn] at h1;rw [<- hwd] at h2;rw [<- hn,<- hwd,<- hgk] at dH;rw [<- hn,<- hwd,<- hgk];obtain⟨V,hV⟩:∃ V,V=w.alloc (.cells #[.int .i64 tn,pi,pb,rv,nv,fv,iv,bv, .bool wd, .int .i64 gk] 35):=⟨_,rfl⟩
 have HB0:=bx (show Below w.heap.size w V by rw [hV];exact aO _ _);have HK:=bx (show aj V w.heap.size 35 #[.int .i64 tn,pi,pb,rv,nv,fv,iv,bv, .bool wd, .int .i64 gk] by rw [hV];exact aj.new _ _ _);have ay:=bx (λW (h:Below V.heap.size V W)=>HK.o.c10 h);have HV:=bx hV;have jg:=bx (λW (h:Below w.heap.size w W)=>h1.below h);have uK:=bx (λW (h:Below w.heap.size w W)=>h2.below h);clear hn hwd hgk h1 h2 hV;have mY:=bx (Kq _ g s V (dH.o V HB0.o) hs hw hz)
 cases hgb:C.bF g with
 | false =>
  have HR:=bx (show C.eG g s.data.toList=0 by unfold C.eG;rw [lW hgb,if_neg (by decide)]);rw [lW hgb,Gp hgb] at mY;rw [lW hgb,HR.o];clear hs hw hz hgb;obtain⟨k0,k1,k2,k3,k4,k5,k6,k7,k8,k9,kk⟩:=ay.o V (Below.refl _ _)
  go_enter Tryz.func22,Tryz.ntmps22
  go_upto_region 1 with(fail)
  rw [<- HV.o];go_wp2_with fail;refine mY.o.mono ?_;rintro e w1 ⟨⟨v1,rfl,hv1⟩,hb1⟩;have HB1:=bx (bt HB0.o hb1);clear hb1 hv1 k0 k1 k2 k3 k4 k5 k6 k7 k8 k9 kk;go_wp2_with fail;go_ret2
  exact⟨rfl,HB1.o⟩
 | true =>
  have hge:=C.jL (s:=s.data.toList) hgb (by rw [<- size_eq];omega);have HR:=bx (show C.eG g s.data.toList=C.aS g (C.aH g.t s.data.toList) (C.aH g.t s.data.toList).length by unfold C.eG;rw [if_pos hge]);rw [hge,FM hge] at mY;rw [hge,HR.o];have iO:=bx (show (C.marks g (C.aH g.t s.data.toList)).length=(C.aH g.t s.data.toList).length+1 from C.uZ _ _);have lJ:=bx (C.vC g (C.aH g.t s.data.toList) (i:=(C.aH g.t s.data.toList).length) (Nat.le_refl _));have lN:=bx (show (C.aH g.t s.data.toList).length<=299 by
   rw [C.tq];have h1:=(iq g.t s.data.toList).2.len;have h2:=lM s.data.toList;rw [<- size_eq] at h2;omega)
  generalize C.marks g (C.aH g.t s.data.toList)=ms at mY iO lJ;generalize C.aS g (C.aH g.t s.data.toList) (C.aH g.t s.data.toList).length=res at lJ ⊢;generalize (C.aH g.t s.data.toList).length=Q at iO lJ lN;have hQ:=lN.o;clear hs hw hz hgb hge HR;obtain⟨k0,k1,k2,k3,k4,k5,k6,k7,k8,k9,kk⟩:=ay.o V (Below.refl _ _)
  go_enter Tryz.func22,Tryz.ntmps22
  go_upto_region 1 with(fail)
  rw [<- HV.o];go_wp2_with fail;refine mY.o.mono ?_;rintro e w1 ⟨⟨v1,rfl,hv1⟩,hb1⟩;have HB1:=bx (bt HB0.o hb1);obtain⟨lg,lo,kV,e1,e2,e3,e4,e5⟩:=hv1.get (by intro h;have h2:=iO.o;rw [h] at h2;simp at h2);rw [iO.o] at e1 e2;subst e1;have c1:=e5 Q res lJ.o;have h1:IntKind.i64.wrap ((Q:Int)+1-1)=(Q:Int):=by rw [IntKind.wrap_i64];omega
  unfold maxLen at e3;clear hb1 hv1 e5 k0 k1 k2 k3 k4 k5 k6 k7 k8 k9 kk;go_wp2_with fail;go_ret2
  exact⟨rfl,HB1.o⟩
theorem abJ {t:Tab} {s:List UInt8} (he:textE t s=0) {k p:Nat} (hp:(C.eX t s)[k]?=some p):p<=(M.fix s).length/\(M.fix s).take p=C.headA t s k:=by
 have hr:=(iq t s).2;unfold C.eX at hp;rw [if_pos he] at hp;have hlt:k<(bK t s).length:=by
  have:=(List.getElem?_eq_some_iff.1 hp).1
  rwa [C.tu] at this
 have hp2:(C.places (aT s) (bK t s)).getD k 0=p:=by rw [List.getD_eq_getElem?_getD,hp,Option.getD_some]
 have h3:=C.sS (xs:=aT s) (ns:=bK t s) hlt;rw [hp2,<- C.qp] at h3;refine⟨h3,?_⟩;have h4:=C.N7 (xs:=aT s) hr _ hlt;rw [hp2,<- C.qp] at h4;rw [<- h4];unfold C.headA C.cZ;rw [if_pos he]
theorem anc (v:Value) (g:C.Ga) (h t:List UInt8) (nn:Int) (w:World) (hv:dR w v g) (hs:dZ g.t) (hw:fF g.w) (hgb:C.bF g=true) (hz:h.length+t.length<=299) :
  Calls Tryz.prog 42 #[v, .string (bs h), .string (bs t), .int .i64 nn] w λe w'=>e = .returned (.bool (C.gV g h t nn))/\Below w.heap.size w w':=by
 have dH:=bx (λW (h:Below w.heap.size w W)=>hv.below h);obtain⟨tn,hn⟩:∃ n,n=g.t.n:=⟨_,rfl⟩
 obtain⟨wd,hwd⟩:∃ b,b=g.w.wide:=⟨_,rfl⟩
 obtain⟨gk,hgk⟩:∃ k,k=g.k:=⟨_,rfl⟩
 have mW:=bx hgk;obtain⟨pi,pb,rv,nv,fv,iv,bv,rfl,h1,h2⟩:=hv;rw [<- hn] at h1;rw [<- hwd] at h2;rw [<- hn,<- hwd,<- hgk] at dH;rw [<- hn,<- hwd,<- hgk];obtain⟨V,hV⟩:∃ V,V=w.alloc (.cells #[.int .i64 tn,pi,pb,rv,nv,fv,iv,bv, .bool wd, .int .i64 gk] 35):=⟨_,rfl⟩
 have HB0:=bx (show Below w.heap.size w V by rw [hV];exact aO _ _);have HK:=bx (show aj V w.heap.size 35 #[.int .i64 tn,pi,pb,rv,nv,fv,iv,bv, .bool wd, .int .i64 gk] by rw [hV];exact aj.new _ _ _);have ay:=bx (λW (h:Below V.heap.size V W)=>HK.o.c10 h);have HV:=bx hV;have jg:=bx (λW (h:Below w.heap.size w W)=>h1.below h);have uK:=bx (λW (h:Below w.heap.size w W)=>h2.below h);clear hn hwd hgk h1 h2 hV;have IG:=bx (KC h t);have mY:=bx (VK _ g (bs (h++t)) V (dH.o V HB0.o) hs hw (by rw [eU,List.length_append];exact hz));have HIS:=bx (λW (hb:Below w.heap.size w W)=>anL _ g.t (bs (h++t)) (h.length:Int) W (jg.o W hb) hs (by rw [eU,List.length_append];exact hz));have hge:=C.jL (s:=h++t) hgb (by rw [List.length_append];omega);have hte:=C.nC (s:=h++t) hgb (by rw [List.length_append];omega);rw [qP] at mY HIS;rw [hge] at mY;rw [hte] at HIS;have gQ:=bx (show C.gV g h t nn=(C.isA g.t (h++t) h.length&&decide (C.eG g (h++t)<=nn)) from rfl);have hsh:=eU h;have hcs:(bs h).size+(bs t).size<=299:=by rw [eU,eU];exact hz
 generalize C.gV g h t nn=res at gQ ⊢;generalize C.isA g.t (h++t) h.length=ia at HIS gQ;generalize C.eG g (h++t)=ma at mY gQ;clear hs hw hgb hz hge hte;obtain⟨k0,k1,k2,k3,k4,k5,k6,k7,k8,k9,kk⟩:=ay.o V (Below.refl _ _)
 go_enter Tryz.func42,Tryz.ntmps42
 go_upto_region 1 with(fail)
 rw [<- HV.o];have hap:=IG.o;go_wp2_with fail
 try rw [hap]
 refine mY.o.mono ?_;rintro e w1 ⟨rfl,hb1⟩;have HB1:=bx (bt HB0.o hb1);have dV:=bx hb1;clear hb1 k0 k1 k2 k3 k4 k5 k6 k7 k8 k9 kk;obtain⟨k0,k1,k2,k3,k4,k5,k6,k7,k8,k9,kk⟩:=ay.o w1 dV.o;go_wp2_with fail
 try rw [hap]
 try rw [hsh]
 refine(HIS.o w1 HB1.o).mono ?_;rintro e w2 ⟨rfl,hb2⟩;have HB2:=bx (bt HB1.o hb2);clear hb2 hap hsh hcs k0 k1 k2 k3 k4 k5 k6 k7 k8 k9 kk
 by_cases hm:ma<=nn
 ·have hd:=decide_eq_true hm;have HR:=bx (show res=ia by rw [gQ.o,hd,Bool.and_true]);clear hm;go_wp2_with fail;go_ret
  exact⟨aI HR.o.symm,HB2.o⟩
 ·have hd:=decide_eq_false hm;have HR:=bx (show res=false by rw [gQ.o,hd,Bool.and_false]);clear hm;go_wp2_with fail;go_ret
  exact⟨aI HR.o.symm,HB2.o⟩
theorem afW {g:C.Ga} {s e:List UInt8} {n:Int} {k:Nat}:C.wn g s e n (k+1)=if C.gV g (C.headA g.t s k) (M.fix e) n=true then some k else C.wn g s e n k:=by
 cases hb:C.gV g (C.headA g.t s k) (M.fix e) n with
 | true=>rw [if_pos rfl,C.Z5 hb]
 | false=>rw [if_neg Bool.false_ne_true,C.Zb hb]
theorem amU {g:C.Ga} {s e:List UInt8} {n:Int} (h:C.jI g s e=0):C.gu g s e n=C.wn g s e n ((C.cZ g.t s).length+1):=by
 unfold C.gu;rw [if_pos h]
 rfl
theorem agZ {t:Tab} {s:List UInt8} (he:textE t s=0) {k p:Nat} (hp:(C.eX t s)[k]?=some p):(C.headA t s k).length<=(M.fix s).length:=by
 obtain⟨h1,h2⟩:=abJ he hp;rw [<- h2,List.length_take];omega
theorem alm (v:Value) (g:C.Ga) (s e:ByteArray) (nn:Int) (w:World) (hv:dR w v g) (hs:dZ g.t) (hw:fF g.w) (hz:3*s.size+3*e.size<=299) (hze:e.size<=60) :
  Calls Tryz.prog 15 #[v, .string s, .string e, .int .i64 nn] w λx w'=>x = .returned (.tuple #[.int .i64 (((C.gu g s.data.toList e.data.toList nn).getD 0:Nat):Int), .bool (C.gu g s.data.toList e.data.toList nn).isSome, .int .i64 (C.jI g s.data.toList e.data.toList)])/\Below w.heap.size w w':=by
 have dH:=bx (λW (h:Below w.heap.size w W)=>hv.below h);obtain⟨tn,hn⟩:∃ n,n=g.t.n:=⟨_,rfl⟩
 obtain⟨wd,hwd⟩:∃ b,b=g.w.wide:=⟨_,rfl⟩
 obtain⟨gk,hgk⟩:∃ k,k=g.k:=⟨_,rfl⟩
 have mW:=bx hgk;obtain⟨pi,pb,rv,nv,fv,iv,bv,rfl,h1,h2⟩:=hv;rw [<- hn] at h1;rw [<- hwd] at h2;rw [<- hn,<- hwd,<- hgk] at dH;rw [<- hn,<- hwd,<- hgk];obtain⟨V,hV⟩:∃ V,V=w.alloc (.cells #[.int .i64 tn,pi,pb,rv,nv,fv,iv,bv, .bool wd, .int .i64 gk] 35):=⟨_,rfl⟩
 have HB0:=bx (show Below w.heap.size w V by rw [hV];exact aO _ _);have HK:=bx (show aj V w.heap.size 35 #[.int .i64 tn,pi,pb,rv,nv,fv,iv,bv, .bool wd, .int .i64 gk] by rw [hV];exact aj.new _ _ _);have ay:=bx (λW (h:Below V.heap.size V W)=>HK.o.c10 h);have HV:=bx hV;have jg:=bx (λW (h:Below w.heap.size w W)=>h1.below h);have uK:=bx (λW (h:Below w.heap.size w W)=>h2.below h);clear hn hwd hgk h1 h2 hV;have eH:=bx (IL _ g V (dH.o V HB0.o) hs hw)
 cases hgb:C.bF g with
 | false =>
  have h0:=C.NZ (s:=s.data.toList) (e:=e.data.toList) hgb;have HR:=bx (show C.gu g s.data.toList e.data.toList nn=none by unfold C.gu;rw [h0,if_neg (by decide)]);rw [h0,HR.o];rw [hgb] at eH;clear hs hw hz hze hgb h0;obtain⟨k0,k1,k2,k3,k4,k5,k6,k7,k8,k9,kk⟩:=ay.o V (Below.refl _ _)
  go_enter Tryz.func15,Tryz.ntmps15
  go_upto_region 1 with(fail)
  rw [<- HV.o];go_wp2_with fail;refine eH.o.mono ?_;rintro e w1 ⟨rfl,hb1⟩;have HB1:=bx (bt HB0.o hb1);clear hb1 k0 k1 k2 k3 k4 k5 k6 k7 k8 k9 kk;go_wp2_with fail
  go_ret3
  exact⟨rfl,HB1.o⟩
 | true =>
  have hwe:=C.MS (s:=s.data.toList) (e:=e.data.toList) hgb (by rw [<- size_eq];omega) (by rw [<- size_eq];omega);have hte:=C.nC (s:=s.data.toList) hgb (by rw [<- size_eq];omega);rw [hwe,amU hwe];have eH:=bx (show Calls Tryz.prog 28 #[.agg #[.int .i64 tn,pi,pb,rv,nv,fv,iv,bv, .bool wd, .int .i64 gk]] V λe w'=>e = .returned (.bool true)/\Below V.heap.size V w' from hgb▸eH.o);have eY:=bx (λW (h:Below w.heap.size w W)=>E5 _ g.t s W (jg.o W h) hs (by omega));rw [hte] at eY;have pW:=bx (λW=>show Calls Tryz.prog 41 #[.string s] W λe w'=>e = .returned (.string (bs (M.fix s.data.toList)))/\Below W.heap.size W w' from yF s W (by omega));have fE:=bx (λW=>show Calls Tryz.prog 41 #[.string e] W λe' w'=>e' = .returned (.string (bs (M.fix e.data.toList)))/\Below W.heap.size W w' from yF e W (by omega));have hf1:=C.sG s.data.toList;have hf2:=C.sG e.data.toList;rw [<- size_eq] at hf1 hf2;have NP:=bx (λ(k p:Nat) hp=>abJ hte (k:=k) (p:=p) hp);have jC:=bx (λ(k p:Nat) (hp:(C.eX g.t s.data.toList)[k]?=some p) W (h:Below w.heap.size w W)=>anc _ g (C.headA g.t s.data.toList k) (M.fix e.data.toList) nn W (dH.o W h) hs hw hgb (by have:=agZ hte hp;omega));have ET:=bx (λk=>afW (g:=g) (s:=s.data.toList) (e:=e.data.toList) (n:=nn) (k:=k));have HW0:=bx (show C.wn g s.data.toList e.data.toList nn 0=none from rfl);have jH:=bx (show (C.eX g.t s.data.toList).length=(C.cZ g.t s.data.toList).length+1 by
   unfold C.eX C.cZ;rw [if_pos hte,if_pos hte,C.tu,C.pieces_len];have:=(iq g.t s.data.toList).2.ne;omega)
  have hpl:=Jy g.t s.data.toList;rw [<- size_eq] at hpl;generalize C.wn g s.data.toList e.data.toList nn=wn at ET HW0 ⊢;generalize C.headA g.t s.data.toList=hd at NP jC ET;generalize M.fix s.data.toList=fx at pW NP;generalize M.fix e.data.toList=fe at fE jC ET;generalize C.eX g.t s.data.toList=ps at eY NP jC jH hpl;generalize (C.cZ g.t s.data.toList).length=Q at jH ⊢;have pG:Q<=299:=by have:=jH.o;omega
  have hss:s.size<=299:=by omega
  have ama:decide ((600:Int)<(s.size:Int))=false:=decide_eq_false (by omega);have c60:decide ((60:Int)<(e.size:Int))=false:=decide_eq_false (by omega);clear hs hw hz hze hgb hwe hte hf1 hf2 hpl jg dH hss;obtain⟨k0,k1,k2,k3,k4,k5,k6,k7,k8,k9,kk⟩:=ay.o V (Below.refl _ _)
  go_enter Tryz.func15,Tryz.ntmps15
  go_upto_region 1 with(fail)
  rw [<- HV.o];go_wp2_with fail;refine eH.o.mono ?_;rintro e w1 ⟨rfl,hb1⟩;have HB1:=bx (bt HB0.o hb1);have dV:=bx hb1;clear hb1 k0 k1 k2 k3 k4 k5 k6 k7 k8 k9 kk;obtain⟨k0,k1,k2,k3,k4,k5,k6,k7,k8,k9,kk⟩:=ay.o w1 dV.o;go_wp2_with fail;refine(eY.o w1 HB1.o).mono ?_;rintro e w2 ⟨⟨v2,rfl,hv2⟩,hb2⟩;have HB2:=bx (bt HB1.o hb2);have HC2:=bx (bt dV.o hb2);obtain⟨lg,lo,kV,e1,e2,e3,e4,e5⟩:=hv2.get (by intro h;have h2:=jH.o;have h3:=congrArg List.length h;rw [List.length_map,h2,List.length_nil] at h3;omega);rw [List.length_map,jH.o] at e1 e2;subst e1;have BQ:=bx (show lg<w2.heap.size/\∀ (k p:Nat),ps[k]?=some p->w2.cell? ⟨lg,lo+k,none⟩=some (.int .i64 (p:Nat)) from⟨e4,λk p hp=>e5 k (p:Int) (by rw [List.getElem?_map,hp];rfl)⟩);unfold maxLen at e3;clear hb2 hv2 e4 e5 ama c60 k0 k1 k2 k3 k4 k5 k6 k7 k8 k9 kk;go_wp2_with fail;refine(pW.o w2).mono ?_;rintro e w3 ⟨rfl,hb3⟩;have HB3:=bx (bt HB2.o hb3);have dN:=bx (bt HC2.o hb3);have HD3:=bx hb3;clear hb3;have hk1:IntKind.i64.wrap ((Q:Int)+1-1)=(Q:Int):=by rw [IntKind.wrap_i64];omega
  go_wp2_with fail;clear hk1
  go_loopw [14] (λi wr=>∃ k:Nat,k<=Q+1/\i = .int .i64 ((k:Int)-1)/\Box (Below w3.heap.size w3 wr)/\Box (wn (Q+1)=wn k)) (λi _=>(intOf i+1).toNat)
  case atStart=>exact⟨Q+1,by omega,by go_num,⟨Below.refl _ _⟩,⟨rfl⟩⟩
  case round =>
   obtain⟨k,hk,rfl,hbl,hwn⟩:=hrel;have aJ:=bx (bt HB3.o hbl.o)
   cases k with
   | zero =>
    have HR:=bx (show wn (Q+1)=none by rw [hwn.o,HW0.o]);have e8:decide ((0:Int)<=((0:Nat):Int)-1)=false:=by decide
    go_wp2_with fail
    go_ret3
    exact⟨by rw [HR.o];rfl,aJ.o⟩
   | succ k =>
    obtain⟨p,hp⟩:∃ p,ps[k]?=some p:=⟨_,List.getElem?_eq_getElem (by rw [jH.o];omega)⟩
    obtain⟨hp1,hp2⟩:=NP.o k p hp;have Cb:=BQ.o.2 k p hp;have xB:=bx (λW h=>jC.o k p hp W h);have HST:=bx (ET.o k);have hsl:=DN (P:=Tryz.prog) (T:=9) Tryz.underlying9 fx p p rfl hp1;rw [hp2] at hsl;generalize C.gV g (hd k) fe nn=gb at xB HST;generalize hd k=hdk at xB hsl;have HSL:=bx hsl;rw [show (((k+1:Nat):Int)-1)=(k:Int) by omega];have e8:decide ((0:Int)<=(k:Int))=true:=decide_eq_true (by omega);have cu:=bx (λW (h:Below wr.heap.size wr W)=>show W.cell? ⟨w.heap.size,0,none⟩=some (.int .i64 tn)/\W.cell? ⟨w.heap.size,1,none⟩=some (pi)/\W.cell? ⟨w.heap.size,2,none⟩=some (pb)/\W.cell? ⟨w.heap.size,3,none⟩=some (rv)/\W.cell? ⟨w.heap.size,4,none⟩=some (nv)/\W.cell? ⟨w.heap.size,5,none⟩=some (fv)/\W.cell? ⟨w.heap.size,6,none⟩=some (iv)/\W.cell? ⟨w.heap.size,7,none⟩=some (bv)/\W.cell? ⟨w.heap.size,8,none⟩=some (.bool wd)/\W.cell? ⟨w.heap.size,9,none⟩=some (.int .i64 gk)/\w.heap.size<W.heap.size/\W.cell? ⟨lg,lo+k,none⟩=some (.int .i64 (p:Nat)) from by
     have hb:=bt hbl.o h;obtain⟨k0,k1,k2,k3,k4,k5,k6,k7,k8,k9,kk⟩:=ay.o W (bt dN.o hb);exact⟨k0,k1,k2,k3,k4,k5,k6,k7,k8,k9,kk,((bt HD3.o hb).cell (p:=⟨lg,lo+k,none⟩) BQ.o.1).trans Cb⟩)
    have aF:=bx (show Below wr.heap.size wr wr.drew from iD wr 1);have au:=bx (cu.o wr.drew aF.o);have jh:=bx (λW (h:Below wr.heap.size wr W)=>bt aJ.o h);have EY:(k:Int)<(Q:Int)+1:=by omega
    have hkz:k<=Q:=by omega
    clear hp hp1 hp2 Cb hsl hk;go_wp2_with fail;have hsl:=HSL.o;refine fP 10 (λW'=>W'.cell? ⟨w.heap.size,0,none⟩=some (.int .i64 tn)/\W'.cell? ⟨w.heap.size,1,none⟩=some (pi)/\W'.cell? ⟨w.heap.size,2,none⟩=some (pb)/\W'.cell? ⟨w.heap.size,3,none⟩=some (rv)/\W'.cell? ⟨w.heap.size,4,none⟩=some (nv)/\W'.cell? ⟨w.heap.size,5,none⟩=some (fv)/\W'.cell? ⟨w.heap.size,6,none⟩=some (iv)/\W'.cell? ⟨w.heap.size,7,none⟩=some (bv)/\W'.cell? ⟨w.heap.size,8,none⟩=some (.bool wd)/\W'.cell? ⟨w.heap.size,9,none⟩=some (.int .i64 gk)/\w.heap.size<W'.heap.size/\W'.cell? ⟨lg,lo+k,none⟩=some (.int .i64 (p:Nat))) (by kernel_rfl) ?_;generalize wr.drew=WR at aF au ⊢;refine kS 0 ?_ rfl au.o ?_ ?_;rotate_left
    ·rintro w ⟨q1,q2,q3,q4,q5,q6,q7,q8,q9,q10,q11,q12⟩;go_simp;try with_reducible rfl
    refine kS 1 ?_ rfl au.o ?_ ?_;rotate_left
    ·rintro w ⟨q1,q2,q3,q4,q5,q6,q7,q8,q9,q10,q11,q12⟩;go_simp;try with_reducible rfl
    refine kS 2 ?_ rfl au.o ?_ ?_;rotate_left
    ·rintro w ⟨q1,q2,q3,q4,q5,q6,q7,q8,q9,q10,q11,q12⟩;go_simp;try with_reducible rfl
    refine kS 3 ?_ rfl au.o ?_ ?_;rotate_left
    ·rintro w ⟨q1,q2,q3,q4,q5,q6,q7,q8,q9,q10,q11,q12⟩;go_simp;try with_reducible rfl
    refine kS 4 ?_ rfl au.o ?_ ?_;rotate_left
    ·rintro w ⟨q1,q2,q3,q4,q5,q6,q7,q8,q9,q10,q11,q12⟩;go_simp;try with_reducible rfl
    refine kS 5 ?_ rfl au.o ?_ ?_;rotate_left
    ·rintro w ⟨q1,q2,q3,q4,q5,q6,q7,q8,q9,q10,q11,q12⟩;go_simp;try with_reducible rfl
    refine kS 6 ?_ rfl au.o ?_ ?_;rotate_left
    ·rintro w ⟨q1,q2,q3,q4,q5,q6,q7,q8,q9,q10,q11,q12⟩;go_simp;try with_reducible rfl
    refine kS 7 ?_ rfl au.o ?_ ?_;rotate_left
    ·rintro w ⟨q1,q2,q3,q4,q5,q6,q7,q8,q9,q10,q11,q12⟩;go_simp;try with_reducible rfl
    refine kS 9 ?_ rfl au.o ?_ ?_;rotate_left
    ·rintro w ⟨q1,q2,q3,q4,q5,q6,q7,q8,q9,q10,q11,q12⟩;go_simp;try with_reducible rfl
    refine kP 8 rfl λKK ah=>?_
    go_simp;refine(fE.o WR).mono ?_;rintro e w5 ⟨rfl,hb5⟩;have aK:=bx (bt aF.o hb5);have fB:=bx (cu.o w5 aK.o);clear hb5;refine ah.out _ _ (λ_=>fB.o) ?_;clear ah KK;refine kP 10 rfl λKK ah=>?_
    go_simp;refine(xB.o w5 (jh.o w5 aK.o)).mono ?_;rintro e w6 ⟨rfl,hb6⟩;have dO:=bx (bt aK.o hb6);clear hb6;refine ah.out _ _ (λh=>by cases h) ?_;clear ah KK;refine kD ?_ _;clear hsl;have bW:=bx (bt aJ.o dO.o);have aG:=bx (bt hbl.o dO.o)
    cases gb with
    | true =>
     have HR:=bx (show wn (Q+1)=some k by rw [hwn.o,HST.o,if_pos rfl]);go_wp2_with fail
     go_ret3
     exact⟨by rw [HR.o];rfl,bW.o⟩
    | false =>
     have HR:=bx (show wn (Q+1)=wn k by rw [hwn.o,HST.o,if_neg Bool.false_ne_true]);go_wp2_with fail
     go_roundw
     case rel=>exact⟨k,by omega,by go_num,aG,HR⟩
     case measure=>simp [intOf]
end
end Go.Proofs.YtdenoeakcflnmaaGreatDoor
