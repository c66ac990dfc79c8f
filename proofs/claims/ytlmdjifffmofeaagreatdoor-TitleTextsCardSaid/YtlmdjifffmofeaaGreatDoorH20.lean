/- Texts of this claim. -/
import Derived.Test.YtlmdjifffmofeaaGreatDoorCards
import Derived.Test.YtlmdjifffmofeaaGreatDoorTie
import Derived.OpenShut
import Derived.Deep.DeepHandedRow
import Derived.Deep.DeepWitnessRowRef
import Derived.Below
import Derived.ChangeSame
import Derived.WideKeyArgs
import Derived.Deep.Slices
import Derived.Deep.Strs
import Derived.Test.YtlmdjifffmofeaaGreatDoorH19

set_option maxRecDepth 100000
set_option maxHeartbeats 16000000
namespace Go.Proofs.YtlmdjifffmofeaaGreatDoor
section
open Go.RowKit
attribute [local go_sem] Oper.semAt_some
theorem ajm (A:Nat->Addr) (B pg:Nat) (tn:Int) (pi pb rv nv fv sv ov:Value) (R:List D.Rule) (M:D.dF) (L:List Int) (w:World) (hb:ak w pg 213 #[.int .i64 tn,pi,pb,rv,nv,fv,sv,ov]) (hR:dP w rv R) (hf:∀ x∈R,pz x) (vV:R.length<=16777216) (hM:nT w (.agg #[nv,fv]) M) (qX:qZ M) (hL:ay w ov L) (hLz:L.length<=900) (hD:Ed A B w) (hG:Eg A B w) (hB:B<=w.heap.size) (hyes:oD R M tn=true) :
  Calls Tryz.prog 93 #[.pointer (some ⟨pg,0,none⟩)] w λe w'=>(∃ v,e = .returned v/\ay w' v (vS R M tn.toNat L))/\Below w.heap.size w w':=by
 have aB:=bx (λW (h:Below w.heap.size w W)=>show W.cell? ⟨pg,0,none⟩=some (.int .i64 tn)/\W.cell? ⟨pg,3,none⟩=some rv/\W.cell? ⟨pg,4,none⟩=some nv/\W.cell? ⟨pg,5,none⟩=some fv/\W.cell? ⟨pg,7,none⟩=some ov/\pg<W.heap.size from
  ⟨((hb.below h hb.lt).cell 0).trans rfl,((hb.below h hb.lt).cell 3).trans rfl,((hb.below h hb.lt).cell 4).trans rfl,((hb.below h hb.lt).cell 5).trans rfl,((hb.below h hb.lt).cell 7).trans rfl,(hb.below h hb.lt).lt⟩)
 have gQ:=bx (λW (h:Below w.heap.size w W)=>XL A B rv R (.agg #[nv,fv]) M tn ov L W (hR.below h) hf vV (hM.below h) qX (hL.below h) hLz (hD.below (h.mono hB)) (hG.below (h.mono hB)) (Nat.le_trans hB h.size) hyes);clear hb hR hf vV hM qX hL hLz hD hG hB hyes
 go_enter Tryz.func93,Tryz.ntmps93
 go_wp2_with fail;have aF:=bx (show Below w.heap.size w w.drew from eu w 1);have au:=bx (aB.o w.drew aF.o);refine dO 24 (λW'=>W'.cell? ⟨pg,0,none⟩=some (.int .i64 tn)/\W'.cell? ⟨pg,3,none⟩=some rv/\W'.cell? ⟨pg,4,none⟩=some nv/\W'.cell? ⟨pg,5,none⟩=some fv/\W'.cell? ⟨pg,7,none⟩=some ov/\pg<W'.heap.size) (by kernel_rfl) ?_;generalize w.drew=WR at aF au ⊢;refine kS 0 ?_ rfl au.o ?_ ?_;rotate_left
 ·rintro w ⟨q1,q2,q3,q4,q5,q6⟩;go_simp;try with_reducible rfl
 refine kS 1 ?_ rfl au.o ?_ ?_;rotate_left
 ·rintro w ⟨q1,q2,q3,q4,q5,q6⟩;go_simp;try with_reducible rfl
 refine kS 2 ?_ rfl au.o ?_ ?_;rotate_left
 ·rintro w ⟨q1,q2,q3,q4,q5,q6⟩;go_simp;try with_reducible rfl
 refine kS 3 ?_ rfl au.o ?_ ?_;rotate_left
 ·rintro w ⟨q1,q2,q3,q4,q5,q6⟩;go_simp;try with_reducible rfl
 refine kS 4 ?_ rfl au.o ?_ ?_;rotate_left
 ·rintro w ⟨q1,q2,q3,q4,q5,q6⟩;go_simp;try with_reducible rfl
 refine kS 5 ?_ rfl au.o ?_ ?_;rotate_left
 ·rintro w ⟨q1,q2,q3,q4,q5,q6⟩;go_simp;try with_reducible rfl
 refine kS 6 ?_ rfl au.o ?_ ?_;rotate_left
 ·rintro w ⟨q1,q2,q3,q4,q5,q6⟩;go_simp;try with_reducible rfl
 refine kS 7 ?_ rfl au.o ?_ ?_;rotate_left
 ·rintro w ⟨q1,q2,q3,q4,q5,q6⟩;go_simp;try with_reducible rfl
 refine kS 8 ?_ rfl au.o ?_ ?_;rotate_left
 ·rintro w ⟨q1,q2,q3,q4,q5,q6⟩;go_simp;try with_reducible rfl
 refine kS 9 ?_ rfl au.o ?_ ?_;rotate_left
 ·rintro w ⟨q1,q2,q3,q4,q5,q6⟩;go_simp;try with_reducible rfl
 refine kS 10 ?_ rfl au.o ?_ ?_;rotate_left
 ·rintro w ⟨q1,q2,q3,q4,q5,q6⟩;go_simp;try with_reducible rfl
 refine kS 11 ?_ rfl au.o ?_ ?_;rotate_left
 ·rintro w ⟨q1,q2,q3,q4,q5,q6⟩;go_simp;try with_reducible rfl
 refine kS 12 ?_ rfl au.o ?_ ?_;rotate_left
 ·rintro w ⟨q1,q2,q3,q4,q5,q6⟩;go_simp;try with_reducible rfl
 refine kS 13 ?_ rfl au.o ?_ ?_;rotate_left
 ·rintro w ⟨q1,q2,q3,q4,q5,q6⟩;go_simp;try with_reducible rfl
 refine kS 14 ?_ rfl au.o ?_ ?_;rotate_left
 ·rintro w ⟨q1,q2,q3,q4,q5,q6⟩;go_simp;try with_reducible rfl
 refine kS 15 ?_ rfl au.o ?_ ?_;rotate_left
 ·rintro w ⟨q1,q2,q3,q4,q5,q6⟩;go_simp;try with_reducible rfl
 refine kS 16 ?_ rfl au.o ?_ ?_;rotate_left
 ·rintro w ⟨q1,q2,q3,q4,q5,q6⟩;go_simp;try with_reducible rfl
 refine kS 17 ?_ rfl au.o ?_ ?_;rotate_left
 ·rintro w ⟨q1,q2,q3,q4,q5,q6⟩;go_simp;try with_reducible rfl
 refine kS 18 ?_ rfl au.o ?_ ?_;rotate_left
 ·rintro w ⟨q1,q2,q3,q4,q5,q6⟩;go_simp;try with_reducible rfl
 refine kP 19 rfl λKK aj=>?_
 go_simp;refine(gQ.o WR aF.o).mono ?_;rintro e w6 ⟨⟨v6,rfl,hv6⟩,hb6⟩;have yT:=bx hv6;have cO:=bx (bt aF.o hb6);have HF6:=bx (aB.o w6 cO.o);clear hv6 hb6;refine aj.out _ _ (λ_=>HF6.o) ?_;clear aj KK;refine kP 20 rfl λKK aj=>?_
 go_simp;refine aj.out _ _ (λ_=>HF6.o) ?_;clear aj KK;refine kS 21 ?_ rfl HF6.o ?_ ?_;rotate_left
 ·rintro w ⟨q1,q2,q3,q4,q5,q6⟩;go_simp;try with_reducible rfl
 refine kS 22 ?_ rfl HF6.o ?_ ?_;rotate_left
 ·rintro w ⟨q1,q2,q3,q4,q5,q6⟩;go_simp;try with_reducible rfl
 refine kP 23 rfl λKK aj=>?_
 go_simp;refine aj.out _ _ (λ_=>HF6.o) ?_;clear aj KK;refine kP 24 rfl λKK aj=>?_
 go_simp;refine aj.out _ _ (λh=>by cases h) ?_;clear aj KK;refine kD ?_ _;go_wp2_with fail;go_ret
 exact⟨⟨_,rfl,yT.o⟩,cO.o⟩
theorem aiz (A:Nat->Addr) (B:Nat) (v:Value) (t:Tab) (s:ByteArray) (w:World) (hv:TabAt w v t) (hs:wz t) (hz:s.size<=800) (hE:E A B w) (hD:Ed A B w) (hG:Eg A B w) (hT:Ah w) (hB:B<=w.heap.size) :
  Calls Tryz.prog 52 #[v, .string s] w λe w'=>(∃ v',e = .returned (.tuple #[v', .int .i64 (textE t s.data.toList)])/\ay w' v' (vH t s.data.toList))/\Below w.heap.size w w':=by
 obtain⟨pi,pb,rv,nv,fv,rfl,h1,h2,h3,h4,h5⟩:=hv;obtain⟨V,hV⟩:∃ V,V=w.alloc (.cells #[.int .i64 t.n,pi,pb,rv,nv,fv] 46):=⟨_,rfl⟩
 have HB0:=bx (show Below w.heap.size w V by rw [hV];exact aS _ _);have HK:=bx (show ak V w.heap.size 46 #[.int .i64 t.n,pi,pb,rv,nv,fv] by rw [hV];exact ak.new _ _ _);have bW:=bx (λW (h:Below w.heap.size w W)=>show TabAt W (.agg #[.int .i64 t.n,pi,pb,rv,nv,fv]) t from⟨pi,pb,rv,nv,fv,rfl,h1.below h,h2.below h,h3.below h,h4.below h,h5.below h⟩);have aB:=bx (λW (h:Below V.heap.size V W)=>HK.o.c6 h);have HV:=bx hV;have bD:=bx hs;have HTY:=bx (λW (h:Below w.heap.size w W)=>show Ah W from(h.cell (p:=⟨7,0,none⟩) (World.block_lt_of_cell? w _ hT)).trans hT);have BO:=bx (λW (h:Below w.heap.size w W)=>show Ed A B W/\Eg A B W/\B<=W.heap.size from⟨hD.below (h.mono hB),hG.below (h.mono hB),Nat.le_trans hB h.size⟩);have nZ:=bx (λhe=>agI A B _ t s V (bW.o V HB0.o) hs (by omega) (BO.o V HB0.o).1 (BO.o V HB0.o).2.1 (BO.o V HB0.o).2.2 he);have tC:=bx (λhe=>ahv A B _ t s V (bW.o V HB0.o) hs (by omega) (hE.below (HB0.o.mono hB)) (BO.o V HB0.o).1 (BO.o V HB0.o).2.1 (BO.o V HB0.o).2.2 he);have HSL:=bx (show (jJ t.p (dw s.data.toList)).length<=900 by unfold jJ;rw [List.length_map];have:=rM s.data.toList;rw [<- size_eq] at this;omega)
 by_cases he:textE t s.data.toList=0
 ·obtain⟨t1,t2⟩:=Rz he;have t3:=t1;unfold rE at t3;rw [Bool.and_eq_true] at t3;have yV:=bx t3.1;have HO:=bx (tC.o he);have bU:=bx (show vH t s.data.toList=vS t.r t.m t.n.toNat (jJ t.p (dw s.data.toList)) by unfold vH FW;rw [if_pos he]);have Sl:=bx he;have Lm:=bx (λW (h:Below w.heap.size w W)=>show dP W rv t.r/\nT W (.agg #[nv,fv]) t.m from⟨h3.below h,nv,fv,rfl,h4.below h,h5.below h⟩);clear h1 h2 h3 h4 h5 hV hs he t1 t2 t3 nZ tC hD hE hG hB hT;obtain⟨tn,hn⟩:∃ n,n=t.n:=⟨_,rfl⟩
  rw [<- hn] at HV HK bW aB HO yV bU ⊢;clear hn;obtain⟨k0,k1,k2,k3,k4,k5,kk⟩:=aB.o V (Below.refl _ _)
  go_enter Tryz.func52,Tryz.ntmps52
  go_upto_region 1 with(fail)
  rw [<- HV.o];go_wp2_with fail;refine HO.o.mono ?_;rintro e w1 ⟨pi',pb',rv',nv',fv',pg,ov,sF,rfl,hbk,hov,hb1⟩;obtain⟨rfl,rfl,rfl,rfl,rfl⟩:pi=pi'/\pb=pb'/\rv=rv'/\nv=nv'/\fv=fv':=by simpa using sF
  have HB1:=bx (bt HB0.o hb1);have HC:=bx (ajm A B pg tn pi pb rv nv fv _ ov t.r t.m _ w1 hbk (Lm.o w1 HB1.o).1 bD.o.r1 bD.o.r2 (Lm.o w1 HB1.o).2 bD.o.m hov HSL.o (BO.o w1 HB1.o).1 (BO.o w1 HB1.o).2.1 (BO.o w1 HB1.o).2.2 yV.o);clear sF hbk hov hb1 k0 k1 k2 k3 k4 k5 kk;go_wp2_with fail;refine HC.o.mono ?_;rintro e w2 ⟨⟨v2,rfl,hv2⟩,hb2⟩;have eY:=bx hv2;have HB2:=bx (bt HB1.o hb2);clear hv2 hb2;go_wp2_with fail;go_ret2
  exact⟨⟨_,gY rfl (fF Sl.o.symm),by rw [bU.o];exact eY.o⟩,HB2.o⟩
 ·have bU:=bx (show vH t s.data.toList=[] by unfold vH;rw [if_neg he]);have HO:=bx (nZ.o he);obtain⟨r,hr⟩:∃ r,r=textE t s.data.toList:=⟨_,rfl⟩
  have HR:=bx hr;rw [<- hr] at HO;clear h1 h2 h3 h4 h5 hV hs he nZ tC hD hE hG hB hT hr;obtain⟨tn,hn⟩:∃ n,n=t.n:=⟨_,rfl⟩
  rw [<- hn] at HV HK bW aB HO ⊢;clear hn;obtain⟨k0,k1,k2,k3,k4,k5,kk⟩:=aB.o V (Below.refl _ _)
  go_enter Tryz.func52,Tryz.ntmps52
  go_upto_region 1 with(fail)
  rw [<- HV.o];go_wp2_with fail;refine HO.o.mono ?_;rintro e w1 ⟨rfl,hb1⟩;have HB1:=bx (bt HB0.o hb1);have HW:=bx (aij 0 r w1 (HTY.o w1 HB1.o));clear hb1 k0 k1 k2 k3 k4 k5 kk;go_wp2_with fail;refine HW.o.mono ?_;rintro e w2 ⟨rfl,hb2⟩;have HB2:=bx (bt HB1.o hb2);clear hb2;go_wp2_with fail;go_ret2
  exact⟨⟨_,gY rfl (fF HR.o),by rw [bU.o];exact .nil⟩,HB2.o⟩
theorem YR (A:Nat->Addr) (B:Nat) (s:ByteArray) (w:World) (hz:s.size<=100000) (hE:E A B w) (hB:B<=w.heap.size) :
  Calls Tryz.prog 47 #[.string s] w λe w'=>(∃ v,e = .returned v/\ay w' v (dw s.data.toList))/\Below w.heap.size w w':=by
 have hfl:=BD s.data.toList;rw [<- size_eq] at hfl;have wR:=bx (AA A B s w hz hE hB);have lW:=bx (λW (h:Below w.heap.size w W)=>sH A B ⟨(M.fix s.data.toList).toArray⟩ W (by rw [size_mk];omega) (hE.below (h.mono hB)) (Nat.le_trans hB h.size));have kV:=bx (zT s.data.toList);clear hE hB hfl
 go_enter Tryz.func47,Tryz.ntmps47
 go_wp2_with fail;refine wR.o.mono ?_;rintro e w1 ⟨rfl,hb1⟩;have HB1:=bx hb1;clear hb1;go_wp2_with fail;refine(lW.o w1 HB1.o).mono ?_;rintro e w2 ⟨hb2,hr2⟩;rw [toList_mk,kV.o] at hr2;obtain⟨v2,rfl,hrow⟩:=hr2;have HB2:=bx (bt HB1.o hb2);have HI:=bx (ay.dL hrow rfl);clear hb2 hrow;go_wp2_with fail;go_ret
 exact⟨⟨_,rfl,HI.o⟩,HB2.o⟩
theorem DJ (A:Nat->Addr) (B:Nat) (v:Value) (c:T.Cs) (s:ByteArray) (w:World) (hv:bC w v c) (hs:T.Small c) (hz:s.size<=300) (hE:E A B w) (hB:B<=w.heap.size) :
  Calls Tryz.prog 23 #[v, .string s] w λe w'=>e = .returned (.tuple #[.string ⟨(T.jR c s.data.toList).toArray⟩, .int .i64 (T.jd c s.data.toList)])/\Below w.heap.size w w':=by
 obtain⟨lv,tv,ci,cb,gi,gb,rfl,h1,h2,h3,h4,h5,h6⟩:=hv;obtain⟨V,hV⟩:∃ V,V=w.alloc (.cells #[lv,tv,ci,cb,gi,gb] 28):=⟨_,rfl⟩
 have HB0:=bx (show Below w.heap.size w V by rw [hV];exact aS _ _);have HK:=bx (show ak V w.heap.size 28 #[lv,tv,ci,cb,gi,gb] by rw [hV];exact ak.new _ _ _);have bU:=bx (λW (h:Below w.heap.size w W)=>show bC W (.agg #[lv,tv,ci,cb,gi,gb]) c from⟨lv,tv,ci,cb,gi,gb,rfl,h1.below h,h2.below h,h3.below h,h4.below h,h5.below h,h6.below h⟩);have aB:=bx (λW (h:Below V.heap.size V W)=>HK.o.c6 h);have HV:=bx hV;have bI:=bx (Qn _ c V (bU.o V HB0.o) hs);have iU:=bx (λW (h:Below w.heap.size w W)=>show E A B W/\B<=W.heap.size from⟨hE.below (h.mono hB),Nat.le_trans hB h.size⟩);have uI:=bx (λW (h:Below w.heap.size w W)=>YR A B s W (by omega) (iU.o W h).1 (iU.o W h).2);have qH:=bx (λW (h:Below w.heap.size w W) aT (hl:ay W aT (dw s.data.toList)) (hlz:(dw s.data.toList).length<=100000)=>Ij A B _ aT c (dw s.data.toList) W (bU.o W h) hs hl hlz (iU.o W h).1 (iU.o W h).2);have e9:decide ((2000:Int)<(s.size:Int))=false:=decide_eq_false (by omega);have hsl:=rM s.data.toList;rw [<- size_eq] at hsl;obtain⟨k0,k1,k2,k3,k4,k5,kk⟩:=aB.o V (Below.refl _ _)
 cases hcb:T.cu 600 c with
 | false =>
  rw [hcb] at bI;have HE:=bx (show T.jd c s.data.toList=140 by unfold T.jd;rw [if_pos hcb]);have HA:=bx (show T.jR c s.data.toList=[] by unfold T.jR;rw [HE.o,if_neg (by decide)]);have oL:=bx (λW (h:Below w.heap.size w W)=>Nv A B 0 (by decide) W (iU.o W h).1);unfold kH at oL;clear h1 h2 h3 h4 h5 h6 hs hV hcb hsl hE hB
  go_enter Tryz.func23,Tryz.ntmps23
  go_upto_region 1 with(fail)
  rw [<- HV.o];go_wp2_with fail;refine bI.o.mono ?_;rintro e w1 ⟨rfl,hb1⟩;have HB1:=bx (bt HB0.o hb1);have g0:=(iU.o w1 HB1.o).1.var 0 (by decide);clear hb1 k0 k1 k2 k3 k4 k5 kk;go_wp2_with fail;refine(oL.o w1 HB1.o).mono ?_;rintro e w2 ⟨rfl,rfl⟩;go_wp2_with fail;go_ret2
  exact⟨gY (by rw [HA.o];rfl) (fF (by rw [HE.o];rfl)),HB1.o⟩
 | true =>
  rw [hcb] at bI;have HE:=bx (show T.jd c s.data.toList=0 by unfold T.jd;rw [hcb,if_neg (by simp),if_neg (by rw [<- size_eq];omega)]);have HA:=bx (show T.jR c s.data.toList=U.textOf (T.lower c (dw s.data.toList)) by unfold T.jR;rw [HE.o,if_pos rfl]);have hwz:=T.PU hcb (by omega) (uf s.data.toList);have Gp:=T.Fa hcb (uf s.data.toList);have yI:=bx (Lp Gp);have sG:=bx (show T.gy c (dw s.data.toList)=T.lower c (dw s.data.toList) by unfold T.gy;rw [if_pos hwz]);have hlz:(T.lower c (dw s.data.toList)).length<=1000:=by have:=Gp.1;omega
  have nG:=bx (λv' W (h:Below w.heap.size w W) (hv':ay W v' (T.lower c (dw s.data.toList)))=>QT A B v' _ W hv' hlz (iU.o W h).1 (iU.o W h).2);have bK:=bx (show (dw s.data.toList).length<=100000 by omega);rw [hwz,sG.o] at qH;rw [yI.o] at nG;clear h1 h2 h3 h4 h5 h6 hs hV hcb hsl hwz Gp hlz hE hB
  go_enter Tryz.func23,Tryz.ntmps23
  go_upto_region 1 with(fail)
  rw [<- HV.o];go_wp2_with fail;refine bI.o.mono ?_;rintro e w1 ⟨rfl,hb1⟩;have dU:=bx hb1;clear hb1 k0 k1 k2 k3 k4 k5 kk;go_wp2_with fail;have aF:=bx (show Below V.heap.size V w1.drew from dU.o.trans ((eu w1 1).mono dU.o.size));have au:=bx (aB.o w1.drew aF.o);refine dO 8 (λW'=>W'.cell? ⟨w.heap.size,0,none⟩=some lv/\W'.cell? ⟨w.heap.size,1,none⟩=some tv/\W'.cell? ⟨w.heap.size,2,none⟩=some ci/\W'.cell? ⟨w.heap.size,3,none⟩=some cb/\W'.cell? ⟨w.heap.size,4,none⟩=some gi/\W'.cell? ⟨w.heap.size,5,none⟩=some gb/\w.heap.size<W'.heap.size) (by kernel_rfl) ?_;generalize w1.drew=WR at aF au ⊢;have aJ:=bx (bt HB0.o aF.o);refine kS 0 ?_ rfl au.o ?_ ?_;rotate_left
  ·rintro w ⟨q1,q2,q3,q4,q5,q6,q7⟩;go_simp;try with_reducible rfl
  refine kS 1 ?_ rfl au.o ?_ ?_;rotate_left
  ·rintro w ⟨q1,q2,q3,q4,q5,q6,q7⟩;go_simp;try with_reducible rfl
  refine kP 2 rfl λKK aj=>?_
  go_simp;refine(uI.o WR aJ.o).mono ?_;rintro e w5 ⟨⟨v5,rfl,hv5⟩,hb5⟩;have aP:=bx (bt aF.o hb5);have Gw:=bx (bt HB0.o aP.o);have jI:=bx (aB.o w5 aP.o);have HL5:=bx (qH.o w5 Gw.o v5 hv5 bK.o);clear hv5 hb5;refine aj.out _ _ (λ_=>jI.o) ?_;clear aj KK;refine kP 3 rfl λKK aj=>?_
  go_simp;refine HL5.o.mono ?_;rintro e w6 ⟨⟨v6,rfl,hv6⟩,hb6⟩;have cO:=bx (bt aP.o hb6);have HW6:=bx (bt HB0.o cO.o);have HF6:=bx (aB.o w6 cO.o);have iL:=bx (nG.o v6 w6 HW6.o hv6);clear hv6 hb6;refine aj.out _ _ (λ_=>HF6.o) ?_;clear aj KK;refine kP 4 rfl λKK aj=>?_
  go_simp;refine aj.out _ _ (λ_=>HF6.o) ?_;clear aj KK;refine kS 5 ?_ rfl HF6.o ?_ ?_;rotate_left
  ·rintro w ⟨q1,q2,q3,q4,q5,q6,q7⟩;go_simp;try with_reducible rfl
  refine kS 6 ?_ rfl HF6.o ?_ ?_;rotate_left
  ·rintro w ⟨q1,q2,q3,q4,q5,q6,q7⟩;go_simp;try with_reducible rfl
  refine kP 7 rfl λKK aj=>?_
  go_simp;refine aj.out _ _ (λ_=>HF6.o) ?_;clear aj KK;refine kP 8 rfl λKK aj=>?_
  go_simp;refine aj.out _ _ (λh=>by cases h) ?_;clear aj KK;refine kD ?_ _;go_wp2_with fail;refine iL.o.mono ?_;rintro e w7 ⟨rfl,hb7⟩;have aH:=bx (bt HW6.o hb7);clear hb7;go_wp2_with fail;go_ret2
  exact⟨gY (by rw [HA.o];rfl) (fF HE.o.symm),aH.o⟩
def Ky (v:Value) (xs:List Int) (k:Nat):Prop:=xs≠[]/\∃ off sp n c,v = .slice (some ⟨k,off,sp⟩) n c
theorem XF {own:Nat->Prop} {W W':World} {v:Value} {xs:List Int} (h:ay W v xs) (ht:Turns own W W') (ho:∀ k,Ky v xs k->¬ own k):ay W' v xs:=by
 rcases h with h | ⟨b,off,sp,cap,h1,h2,h3,h4⟩
 ·exact .inl h
 ·refine .inr ⟨b,off,sp,cap,h1,h2,h3,λhn=>?_⟩;obtain⟨h5,h6,h7⟩:=h4 hn;have hb:¬ own b:=ho b ⟨hn,off,sp,_,_,h1⟩;exact⟨h5,Nat.lt_of_lt_of_le h6 ht.size,λi x hx=>ht.cell (p:=⟨b,off+i,none⟩) (h7 i x hx) hb⟩
theorem ints_at {W:World} {v:Value} {xs:List Int} (h:ay W v xs) {k:Nat} (hk:Ky v xs k):k<W.heap.size/\∃ o x,W.cell? ⟨k,o,none⟩=some (.int .i64 x):=by
 obtain⟨hn,off,sp,n,c,rfl⟩:=hk;obtain⟨b,off',cap,h1,h2,h3,h4,h5⟩:=h.get hn;injection h1 with h1;injection h1 with h1;injection h1 with h1;subst h1
 cases xs with
 | nil=>exact absurd rfl hn
 | cons x t=>exact⟨h4,_,_,h5 0 x rfl⟩
def Pc.read (n:Nat) (W0:World) (v1:Value) (l1:List Int) (v2:Value) (l2:List Int):Pc where
 fp k:=k<n\/Ky v1 l1 k\/Ky v2 l2 k
 ok W:=(n<=W.heap.size/\Below n W0 W)/\ay W v1 l1/\ay W v2 l2
 keep:=λ{_ _ _} h ht ho=>⟨(Pc.old n W0).keep h.1 ht (λk hk=>ho k (.inl hk)),XF h.2.1 ht (λk hk=>ho k (.inr (.inl hk))),XF h.2.2 ht (λk hk=>ho k (.inr (.inr hk)))⟩
 lt:=λ{_ _} h hk=>by
  rcases hk with hk | hk | hk
  ·exact Nat.lt_of_lt_of_le hk h.1.1
  ·exact(ints_at h.2.1 hk).1
  ·exact(ints_at h.2.2 hk).1
theorem amV {n g km:Nat} {lv tv ci cb gi gb lv0 vl vc:Value} {c:T.Cs} {W0 W:World} {xs cs:List Int} (h:Sep (outW n g km lv tv ci cb gi gb lv0 (.slice none 0 0) [] c [Pc.old n W0]) W) (hl:ay W vl xs) (hc:ay W vc cs)
  (hni:∀ (i:Nat) (x:Int),(#[lv,tv,ci,cb,gi,gb, .map (some km),lv0, .slice none 0 0]:Array Value)[i]?≠some (.int .i64 x)):Sep (outW n g km lv tv ci cb gi gb vl (.slice none 0 0) [] c [Pc.read n W0 vl xs vc cs]) (W.setCell ⟨g,7,none⟩ vl):=by
 have hb:=h.blk 1 rfl;have hk:lU W km c:=h.at' 2 (p:=Pc.known km c) rfl;have ho:n<=W.heap.size/\Below n W0 W:=h.at' 3 (p:=Pc.old n W0) rfl;have hgk:g≠km:=λe=>h.2.2.2.1 (Pc.known km c) (List.mem_cons_self ..) g rfl e
 have hgn:¬ g<n:=λe=>h.2.2.2.1 (Pc.old n W0) (List.mem_cons_of_mem _ (List.mem_cons_self ..)) g rfl e
 have hkn:¬ km<n:=λe=>h.2.2.2.2.2.1 (Pc.old n W0) (List.mem_cons_self ..) km rfl e
 have key:∀ {v:Value} {l:List Int} (hI:ay W v l) (k:Nat),Ky v l k->k≠g/\k≠km:=λhI k hkb=>by
  obtain⟨-,o,x,hx⟩:=ints_at hI hkb
  constructor
  ·rintro rfl;rw [hb.cell o] at hx;exact hni o x hx
  ·rintro rfl;obtain⟨es,clk,hm,-⟩:=hk;simp [World.cell?,hm] at hx
 have hT:Turns (λk=>k=g) W (W.setCell ⟨g,7,none⟩ vl):=Turns.setCell (own:=λk=>k=g) W (p:=⟨g,7,none⟩) rfl vl;have hfg:∀ k,(Pc.read n W0 vl xs vc cs).fp k->k≠g/\k≠km:=λk Ae=>by
  rcases Ae with Ae | Ae | Ae
  ·exact⟨λe=>hgn (e▸Ae),λe=>hkn (e▸Ae)⟩
  ·exact key hl k Ae
  ·exact key hc k Ae
 refine⟨World.ownsRow_nil _ _ _ _,λq _ k hk=>by simp [Pc.row,Value.ownBlock] at hk,hb.bP 7 vl,λq hq k hkq hqk=>?_,hk.turns hT (λe=>hgk e.symm),λq hq k hkq hqk=>?_,?_,λq hq=>absurd hq List.not_mem_nil,trivial⟩
 ·obtain rfl:k=g:=hkq
  rcases List.mem_cons.1 hq with rfl | hq
  ·exact hgk hqk
  ·rw [List.mem_singleton] at hq;subst hq;exact(hfg k hqk).1 rfl
 ·obtain rfl:k=km:=hkq;rw [List.mem_singleton] at hq;subst hq;exact(hfg k hqk).2 rfl
 ·exact(Pc.read n W0 vl xs vc cs).keep ⟨ho,hl,hc⟩ hT (λk Ae e=>(hfg k Ae).1 e)
theorem aiN (a:Option Addr) (N cap:Nat) (xs:List Int) (hj:1<=N) (hN:xs.length=N) (hz:N<=100000) {w0:World} (h0:ay w0 (.slice a N cap) xs) :
  ∃ Y,(∀ W,(Instr.slice 23 (.slice a N cap) (some (.int .i64 1)) none none).run Tryz.prog W = .ok Y W)/\∀ W,ay W (.slice a N cap) xs->ay W Y (xs.drop 1):=by
 subst hN;obtain⟨b,off,cap2,h1,h2,h3,h4,h5⟩:=h0.get (by rintro rfl;simp at hj);injection h1 with e1 e2 e3;subst e1 e3;have hd:((xs.take xs.length).drop 1)=xs.drop 1:=by rw [List.take_length]
 by_cases hc:cap=1
 ·have hl:xs.length=1:=by omega
  refine⟨.slice (some ⟨b,off,none⟩) (xs.length-1) (cap-1),λW=>?_,λW hW=>?_⟩
  ·unfold maxLen at h3;rw [hl,hc];go_simp
  ·have:=hW.part 1 xs.length (cap-1) hj (Nat.le_refl _) (by omega) (by omega) (⟨b,off,none⟩) (λh=>by omega)
   rwa [hd] at this
 ·have hj':¬ (xs.length:Int)<1:=by omega
  refine⟨.slice (some ((⟨b,off,none⟩:Addr).add 1)) (xs.length-1) (cap-1),λW=>?_,λW hW=>?_⟩
  ·unfold maxLen at h3;go_simp
  ·have:=hW.part 1 xs.length (cap-1) hj (Nat.le_refl _) (by omega) (by omega) ((⟨b,off,none⟩:Addr).add 1) (λ_=>rfl)
   rwa [hd] at this
theorem zV (A:Nat->Addr) (B:Nat) (v vt:Value) (c:T.Cs) (t:Tab) (s:ByteArray) (w:World) (hv:bC w v c) (hs:T.Small c) (hvt:TabAt w vt t) (hts:wz t) (hz:s.size<=299) (hE:E A B w) (hD:Ed A B w) (hG:Eg A B w) (hT:Ah w) (hB:B<=w.heap.size) :
  Calls Tryz.prog 25 #[v,vt, .string s] w λe w'=>e = .returned (.tuple #[.string ⟨(T.iJ c t s.data.toList).toArray⟩, .int .i64 (T.jH c t s.data.toList)])/\Below w.heap.size w w':=by
 obtain⟨lv,tv,ci,cb,gi,gb,rfl,h1,h2,h3,h4,h5,h6⟩:=hv;obtain⟨V,hV⟩:∃ V,V=w.alloc (.cells #[lv,tv,ci,cb,gi,gb] 28):=⟨_,rfl⟩
 have HB0:=bx (show Below w.heap.size w V by rw [hV];exact aS _ _);have HK:=bx (show ak V w.heap.size 28 #[lv,tv,ci,cb,gi,gb] by rw [hV];exact ak.new _ _ _);have bU:=bx (λW (h:Below w.heap.size w W)=>show bC W (.agg #[lv,tv,ci,cb,gi,gb]) c from⟨lv,tv,ci,cb,gi,gb,rfl,h1.below h,h2.below h,h3.below h,h4.below h,h5.below h,h6.below h⟩);have aB:=bx (λW (h:Below V.heap.size V W)=>HK.o.c6 h);have HV:=bx hV;obtain⟨pi,pb,rv,nv,fv,rfl,t1,t2,t3,t4,t5⟩:=hvt;obtain⟨V2,hV2⟩:∃ V2,V2=V.alloc (.cells #[.int .i64 t.n,pi,pb,rv,nv,fv] 46):=⟨_,rfl⟩
 have bG:=bx (show Below V.heap.size V V2 by rw [hV2];exact aS _ _);have KT:=bx (show ak V2 V.heap.size 46 #[.int .i64 t.n,pi,pb,rv,nv,fv] by rw [hV2];exact ak.new _ _ _);have eY:=bx hV2;have HB2:=bx (bt HB0.o bG.o);have bW:=bx (λW (h:Below w.heap.size w W)=>show TabAt W (.agg #[.int .i64 t.n,pi,pb,rv,nv,fv]) t from⟨pi,pb,rv,nv,fv,rfl,t1.below h,t2.below h,t3.below h,t4.below h,t5.below h⟩);have lT:=bx (λW (h:Below V2.heap.size V2 W)=>KT.o.c6 h);have hvs:V.heap.size=w.heap.size+1:=by rw [hV];simp
 rw [hvs] at lT;clear hvs;have iU:=bx (λW (h:Below w.heap.size w W)=>show E A B W/\Ed A B W/\Eg A B W/\Ah W/\B<=W.heap.size from⟨hE.below (h.mono hB),hD.below (h.mono hB),hG.below (h.mono hB),(h.cell (p:=⟨7,0,none⟩) (World.block_lt_of_cell? w _ hT)).trans hT,Nat.le_trans hB h.size⟩);have gQ:=bx (λW (h:Below w.heap.size w W)=>aiz A B _ t s W (bW.o W h) hts (by omega) (iU.o W h).1 (iU.o W h).2.1 (iU.o W h).2.2.1 (iU.o W h).2.2.2.1 (iU.o W h).2.2.2.2);have uI:=bx (λW (h:Below w.heap.size w W)=>YR A B s W (by omega) (iU.o W h).1 (iU.o W h).2.2.2.2);have HC2:=bx (bU.o V2 HB2.o);have hsl:=rM s.data.toList;rw [<- size_eq] at hsl;have hni:∀ (km:Nat) (i:Nat) (x:Int),(#[lv,tv,ci,cb,gi,gb, .map (some km), .slice none 0 0, .slice none 0 0]:Array Value)[i]?≠some (.int .i64 x):=by
  obtain⟨a1,c1,rfl,-⟩:=h1.slice;obtain⟨a2,c2,rfl,-⟩:=h2.slice;obtain⟨a3,c3,rfl⟩:=h3.slice;obtain⟨a4,c4,rfl⟩:=h4.slice;obtain⟨a5,c5,rfl⟩:=h5.slice;obtain⟨a6,c6,rfl⟩:=h6.slice;intro km i x
  match i with
  | 0 | 1 | 2 | 3 | 4 | 5 | 6 | 7 | 8=>simp
  | n+9=>simp
 have HNI:=bx hni;obtain⟨tn,hn⟩:∃ n,n=t.n:=⟨_,rfl⟩
 rw [<- hn] at KT bW lT eY gQ ⊢;obtain⟨k0,k1,k2,k3,k4,k5,kk⟩:=aB.o V2 bG.o
 cases hcb:T.cu 600 c with
 | false =>
  have hoe:T.fU c [] []=140:=by unfold T.fU T.wrong;rw [if_pos hcb];rfl
  have nZ:=bx (PY A B _ (.slice none 0 0) (.slice none 0 0) c [] [] V2 HC2.o hs .nil (by simp) .nil (by simp) (iU.o V2 HB2.o).1 (iU.o V2 HB2.o).2.2.2.2 (by rw [hoe];decide));rw [hoe] at nZ;have HE:=bx (show T.jH c t s.data.toList=140 by unfold T.jH;rw [if_pos hcb]);have HA:=bx (show T.iJ c t s.data.toList=[] by unfold T.iJ;rw [HE.o,if_neg (by decide)]);have oL:=bx (λW (h:Below w.heap.size w W)=>Nv A B (T.ET 140) (by decide) W (iU.o W h).1);unfold kH at oL nZ;clear h1 h2 h3 h4 h5 h6 t1 t2 t3 t4 t5 hs hts hV hV2 hcb hsl hn hni hE hD hG hT hB hoe
  go_enter Tryz.func25,Tryz.ntmps25
  go_upto_region 1 with(fail)
  rw [<- HV.o,<- eY.o];go_wp2_with fail;refine nZ.o.mono ?_;rintro e w1 ⟨rfl,hb1⟩;have HB1:=bx (bt HB2.o hb1);clear hb1 k0 k1 k2 k3 k4 k5 kk;go_wp2_with fail;refine(oL.o w1 HB1.o).mono ?_;rintro e w2 ⟨rfl,rfl⟩;go_wp2_with fail;go_ret2
  exact⟨gY (by rw [HA.o];rfl) (fF (by rw [HE.o];rfl)),HB1.o⟩
 | true =>
  have hoe:T.fU c [] []=0:=by unfold T.fU T.wrong;rw [hcb];rfl
  have tC:=bx (OU A B _ (.slice none 0 0) (.slice none 0 0) c [] [] V2 HC2.o hs .nil (by simp) .nil (by simp) (iU.o V2 HB2.o).1 (iU.o V2 HB2.o).2.2.2.2 hoe);have iZ:=bx (show T.jH c t s.data.toList=textE t s.data.toList by unfold T.jH;rw [hcb,if_neg (by simp)])
  by_cases he:textE t s.data.toList=0
  ·have HE:=bx (iZ.o.trans he);have HA:=bx (show T.iJ c t s.data.toList=U.textOf (T.vG c t s.data.toList) by unfold T.iJ;rw [HE.o,if_pos rfl]);obtain⟨hcn,qO⟩:=L6 t s.data.toList;have RV:=bx (show vH t s.data.toList=(qM t s.data.toList).map (λn:Nat=>(n:Int)) by unfold vH;rw [if_pos he,hcn]);rw [he,RV.o] at gQ;have lq:=bx (show T.vG c t s.data.toList=T.qg c (dw s.data.toList) (qM t s.data.toList) ((qM t s.data.toList).length-1) from rfl);have hsr:=uf s.data.toList;generalize qM t s.data.toList=ns at gQ lq qO;generalize T.vG c t s.data.toList=tl at HA lq;generalize dw s.data.toList=xs at uI lq qO hsl hsr;have FP:=bx qO;have Rh:=bx (λk hk=>T.JK hcb hsr qO k hk);have yI:=bx (λ(h:T.Fine xs.length tl)=>Lp h);have SC:=bx (λg km vl ov acc vc cs (h1:acc.length<=800000000) (W:World) (a b:Nat) (hab:a<=b) (hb:b<=xs.length) (h2:Sep (outW V2.heap.size g km lv tv ci cb gi gb vl ov acc c [Pc.read V2.heap.size V2 vl xs vc cs]) W) =>
    adI V2.heap.size g km a b lv tv ci cb gi gb vl ov acc c hs hcb [Pc.read V2.heap.size V2 vl xs vc cs] xs hsr (by omega) hab hb h1 (λW' h'=>⟨HC2.o.below h'.1.1.2,h'.1.2.1⟩) (λW' h'=>h'.1.1.1) W h2)
   obtain⟨N,hN⟩:∃ N,xs.length=N:=⟨_,rfl⟩
   have HN:=bx hN;have SX:N<=299:=by omega
   obtain⟨Q,hQ⟩:∃ Q,ns.length=Q:=⟨_,rfl⟩
   have HQ:=bx hQ;have hQ0:0<Q:=by rw [<- hQ];exact qO.ne
   have hQz:Q<=300:=by have:=qO.len;omega
   clear h1 h2 h3 h4 h5 h6 t1 t2 t3 t4 t5 hs hts hV hV2 hcb hsl hn he hcn qO hsr hN hQ hni hE hD hG hT hB hoe
   go_enter Tryz.func25,Tryz.ntmps25
   go_upto_region 1 with(fail)
   rw [<- HV.o,<- eY.o];go_wp2_with fail;refine tC.o.mono ?_;rintro e w1 ⟨aT,tv',ci',cb',Em,gb',g,km,sF,rfl,hs1⟩;obtain⟨rfl,rfl,rfl,rfl,rfl,rfl⟩:lv=aT/\tv=tv'/\ci=ci'/\cb=cb'/\gi=Em/\gb=gb':=by simpa using sF
   have bQ:=bx hs1;have dU:=bx (hs1.bel (n:=V2.heap.size) (W0:=V2) (by simp [outW,wX]));have HB1:=bx (bt HB2.o dU.o);clear hs1 sF k0 k1 k2 k3 k4 k5 kk;obtain⟨k0,k1,k2,k3,k4,k5,kk⟩:=lT.o w1 dU.o;go_wp2_with fail;refine(gQ.o w1 HB1.o).mono ?_;rintro e w2 ⟨⟨v2,rfl,hv2⟩,hb2⟩;have HI2:=bx hv2;obtain⟨ca,cc,rfl⟩:=hv2.slice;rw [List.length_map,HQ.o] at HI2 ⊢;have HS2:=bx (bQ.o.below hb2);have dM:=bx (bt HB1.o hb2);clear hb2 hv2 k0 k1 k2 k3 k4 k5 kk;go_wp2_with fail;refine(uI.o w2 dM.o).mono ?_;rintro e w3 ⟨⟨vl,rfl,hvl⟩,hb3⟩;have aK:=bx (HS2.o.below hb3);have HI3:=bx (HI2.o.below hb3);obtain⟨la,lc,rfl⟩:=hvl.slice;have dn:=bx (amV aK.o hvl HI3.o (HNI.o km));have p7:w3.cell? ⟨g,7,none⟩=some (.slice none 0 0):=((aK.o.blk 1 rfl).cell 7).trans rfl;have f7:=(aK.o.blk 1 rfl).frozen 7;have l7:=(aK.o.blk 1 rfl).lt;obtain⟨Y,aaw,hY⟩:=aiN ca Q cc (ns.map (λn:Nat=>(n:Int))) hQ0 (by rw [List.length_map,HQ.o]) (by omega) HI3.o;have HY:=bx hY;obtain⟨ya,yc,hye⟩:=(hY w3 HI3.o).slice;rw [List.length_drop,List.length_map,HQ.o] at hye;subst hye;clear hb3 hvl hY;rw [HN.o] at dn ⊢
   go_upto_region 8 with(fail)
   have aG:=bx (show Sep (outW V2.heap.size g km lv tv ci cb gi gb (.slice la N lc) (.slice none 0 0) (T.qg c xs ns 0) c [Pc.read V2.heap.size V2 (.slice la N lc) xs (.slice ca Q cc) (ns.map (λn:Nat=>(n:Int)))]) (w3.setCell ⟨g,7,none⟩ (.slice la N lc)) from dn.o);generalize w3.setCell ⟨g,7,none⟩ (.slice la N lc)=w4 at aG ⊢;clear p7 f7 l7;have hqI:((Q-1:Nat):Int)=(Q:Int)-1:=by omega
   obtain⟨Q1,hQ1⟩:∃ Q1,Q1=Q-1:=⟨_,rfl⟩
   rw [<- hQ1] at aaw HY;have YH:Q=Q1+1:=by omega
   clear hqI hQ1;have Dk:=bx YH;clear YH;go_wp2_with fail;clear aaw
   go_loopw [12,13,42] (λu1 u2 i wr=>∃ k:Nat,k<=Q1/\i = .int .i64 k/\∃ ov,Box (Sep (outW V2.heap.size g km lv tv ci cb gi gb (.slice la N lc) ov (T.qg c xs ns k) c [Pc.read V2.heap.size V2 (.slice la N lc) xs (.slice ca Q cc) (ns.map (λn:Nat=>(n:Int)))]) wr)) (λ_ _ i _=>Q1-(intOf i).toNat)
   case atStart=>exact⟨0,by omega,rfl,_,aG⟩
   case round =>
    obtain⟨k,hk,rfl,ov,hsep⟩:=hrel;obtain⟨⟨hn1,hbe⟩,hiv,hic⟩:(V2.heap.size<=wr.heap.size/\Below V2.heap.size V2 wr)/\ay wr (.slice la N lc) xs/\ay wr (.slice ca Q cc) (ns.map (λn:Nat=>(n:Int))):=hsep.o.at' 3 rfl;have dJ:=bx (bt HB2.o hbe);have HFk:=bx (Rh.o k (by have:=Dk.o;rw [HQ.o];omega))
    by_cases hlt:k<Q1
    ·obtain⟨a,ha⟩:∃ a,ns[k]?=some a:=⟨_,List.getElem?_eq_getElem (by have:=Dk.o;rw [HQ.o];omega)⟩
     obtain⟨b,hb⟩:∃ b,ns[k+1]?=some b:=⟨_,List.getElem?_eq_getElem (by have:=Dk.o;rw [HQ.o];omega)⟩
     have hga:ns.getD k 0=a:=by rw [List.getD_eq_getElem?_getD,ha,Option.getD_some]
     have hgb:ns.getD (k+1) 0=b:=by rw [List.getD_eq_getElem?_getD,hb,Option.getD_some]
     have hab:a<=b:=by have:=FP.o.up k (by have:=Dk.o;rw [HQ.o];omega);omega
     have hbN:b<=xs.length:=by have:=FP.o.le (k+1) (by have:=Dk.o;rw [HQ.o];omega);omega
     obtain⟨cg,yM,KJ,e1,e2,e3,e4,e5⟩:=hic.get (by intro h;have:=congrArg List.length h;rw [List.length_map,HQ.o] at this;simp at this;omega);rw [List.length_map,HQ.o] at e1 e2;obtain⟨rfl,rfl⟩:ca=some ⟨cg,yM,none⟩/\cc=KJ:=by injection e1 with h1 h2 h3;exact⟨h1,h3⟩
     have ca1:=e5 k (a:Int) (by rw [List.getElem?_map,ha];rfl);have hdr:((ns.map (λn:Nat=>(n:Int))).drop 1)[k]?=some (b:Int):=by rw [List.getElem?_drop,List.getElem?_map,show 1+k=k+1 by omega,hb];rfl
     have hdl:((ns.map (λn:Nat=>(n:Int))).drop 1).length=Q1:=by have:=Dk.o;rw [List.length_drop,List.length_map,HQ.o];omega
     obtain⟨yg,akJ,akZ,y1,y2,y3,y4,y5⟩:=(HY.o wr hic).get (by intro h;rw [h] at hdr;simp at hdr);rw [hdl] at y1 y2;obtain⟨rfl,rfl⟩:ya=some ⟨yg,akJ,none⟩/\yc=akZ:=by injection y1 with h1 h2 h3;exact⟨h1,h3⟩
     have cb1:=y5 k (b:Int) hdr;have nR:=bx (show T.qg c xs ns (k+1)=T.qg c xs ns k++T.word c xs a b by rw [T.OA,hga,hgb]);have hal:=HFk.o.1;rw [hga] at hal;have oV:=bx (SC.o g km (.slice la N lc) ov (T.qg c xs ns k) _ _ (by rw [HN.o] at hbN;omega) wr a b hab hbN hsep.o);have hkQ:k<Q:=by have:=Dk.o;omega
     have hkI:(k:Int)<(Q:Int):=by omega
     unfold maxLen at e3 y3;clear ha hb hga hgb e1 e4 e5 y1 y4 y5 hal hdr hdl hbe hiv hic hn1;go_wp2_with fail;refine oV.o.mono ?_;rintro e w5 ⟨⟨v5,rfl⟩,ov5,hs5⟩;rw [<- nR.o] at hs5;have dA:=bx hs5;clear hs5;go_wp2_with fail
     go_roundw
     case rel=>exact⟨k+1,by omega,by go_num,ov5,dA⟩
     case measure=>simp [intOf];omega
    ·obtain rfl:k=Q1:=by omega
     have hkk:k=ns.length-1:=by have:=Dk.o;rw [HQ.o];omega
     have hsp:=hsep.o;rw [hkk,<- lq.o] at hsp;have HI:=bx (ay.dL (hsp.row 0 rfl) rfl);have eF:=bx (show T.Fine xs.length tl by
      have h9:=HFk.o;rw [hkk,<- lq.o,FP.o.last] at h9;exact h9)
     have nG:=bx (QT A B ov tl wr HI.o (by have:=eF.o.1;have:=HN.o;omega) (iU.o wr dJ.o).1 (iU.o wr dJ.o).2.2.2.2);rw [yI.o eF.o] at nG;have p8:wr.cell? ⟨g,8,none⟩=some ov:=((hsp.blk 1 rfl).cell 8).trans rfl;have l8:=(hsp.blk 1 rfl).lt;clear hsp hkk hbe hiv hic hn1;go_wp2_with fail;refine nG.o.mono ?_;rintro e w5 ⟨rfl,hb5⟩;have aP:=bx (bt dJ.o hb5);clear hb5;go_wp2_with fail;go_ret2
     exact⟨gY (by rw [HA.o];rfl) (fF HE.o.symm),aP.o⟩
  ·have HA:=bx (show T.iJ c t s.data.toList=[] by unfold T.iJ;rw [iZ.o,if_neg he]);obtain⟨r,hr⟩:∃ r,r=textE t s.data.toList:=⟨_,rfl⟩
   have HR:=bx (iZ.o.trans hr.symm);rw [<- hr] at he gQ;have e2:(r != 0)=true:=by rw [bne_iff_ne];exact he
   clear h1 h2 h3 h4 h5 h6 t1 t2 t3 t4 t5 hs hts hV hV2 hcb hsl hn he hr hni hE hD hG hT hB hoe
   go_enter Tryz.func25,Tryz.ntmps25
   go_upto_region 1 with(fail)
   rw [<- HV.o,<- eY.o];go_wp2_with fail;refine tC.o.mono ?_;rintro e w1 ⟨aT,tv',ci',cb',Em,gb',g,km,sF,rfl,hs1⟩;have dU:=bx (hs1.bel (n:=V2.heap.size) (W0:=V2) (by simp [outW,wX]));have HB1:=bx (bt HB2.o dU.o);clear hs1 sF k0 k1 k2 k3 k4 k5 kk;obtain⟨k0,k1,k2,k3,k4,k5,kk⟩:=lT.o w1 dU.o;go_wp2_with fail;refine(gQ.o w1 HB1.o).mono ?_;rintro e w2 ⟨⟨v2,rfl,-⟩,hb2⟩;have dM:=bx (bt HB1.o hb2);clear hb2 k0 k1 k2 k3 k4 k5 kk;go_wp2_with fail;go_ret2
   exact⟨gY (by rw [HA.o];rfl) (fF HR.o.symm),dM.o⟩
end
section
open Go.RowKit
attribute [local go_sem] Oper.semAt_some
attribute [local irreducible] F.iR
structure Sw (A:Nat->Addr) (B:Nat) (w:World):Prop where
 e:E A B w
 d:Ed A B w
 g:Eg A B w
 t:Ah w
 le:B<=w.heap.size
theorem Sw.below {A:Nat->Addr} {B:Nat} {w w':World} (h:Sw A B w) (hb:Below w.heap.size w w'):Sw A B w':=⟨h.e.below (hb.mono h.le),h.d.below (hb.mono h.le),h.g.below (hb.mono h.le),(hb.cell (p:=⟨7,0,none⟩) (World.block_lt_of_cell? w _ h.t)).trans h.t,Nat.le_trans h.le hb.size⟩
theorem bT {a b c:World} (h:Below a.heap.size a b) (k:Below b.heap.size b c):Below a.heap.size a c:=bt h k
namespace dD
theorem acw:T.jd cs s2=0/\T.jR cs s2=w2:=by
 have h:T.jd cs s2=0:=by unfold T.jd;rw [Q7];rfl
 refine⟨h,?_⟩;unfold T.jR;rw [if_pos h,afB,aeQ]
 decide +kernel
theorem abg:T.jH cs tb s1=0/\T.iJ cs tb s1=w1:=by
 have h:T.jH cs tb s1=0:=by unfold T.jH textE;rw [Q7,al0];rfl
 refine⟨h,?_⟩;unfold T.iJ;rw [if_pos h,ama]
 decide +kernel
theorem aaz:T.jW cs [97,39,931] 2=0/\T.jL cs [97,39,931] 2=true:=by
 have h:T.jW cs [97,39,931] 2=0:=by unfold T.jW;rw [VB (by decide +kernel) (by decide)];rfl
 refine⟨h,?_⟩;unfold T.jL;rw [h,show (2:Int).toNat=2 from rfl,afm]
 rfl
theorem Ya:T.wrong cs [97,931,39,97]=0/\T.gy cs [97,931,39,97]=[97,963,39,97]:=by
 have h:T.wrong cs [97,931,39,97]=0:=VB (by decide +kernel) (by decide);refine⟨h,?_⟩;unfold T.gy;rw [if_pos h,ane]
theorem adU:T.kK cs [97] 1 0=12:=by
 unfold T.kK;rw [VB (by decide +kernel) (by decide)]
 rfl
end dD
theorem zG (A:Nat->Addr) (B:Nat) (w:World) (hS:Sw A B w) :
  Calls Tryz.prog 11 #[] w λe w'=>e = .returned (.bool true)/\Below w.heap.size w w':=by
 have HS:=bx hS;clear hS;obtain⟨rs,hp,hd⟩:=dD.recs;have Yo:=bx (ahf dD.data dD.core rs _ _ _ _ _ w hp hd dD.agq dD.rb1 dD.ajR dD.rb2);clear hp hd
 go_enter Tryz.func11,Tryz.ntmps11
 go_wp2_with fail;refine Yo.o.mono ?_;rintro e w1 ⟨⟨cv,rfl,hcv⟩,hb1⟩;have EL:=bx (show bC w1 cv dD.cs from hcv);have HB1:=bx hb1;clear hcv hb1;obtain⟨lv,tv,ci,cb,gi,gb,rfl,h1,h2,h3,h4,h5,h6⟩:=EL.o;obtain⟨a1,c1,rfl,-⟩:=h1.slice;obtain⟨a2,c2,rfl,-⟩:=h2.slice;obtain⟨a3,c3,rfl⟩:=h3.slice;obtain⟨a4,c4,rfl⟩:=h4.slice;obtain⟨a5,c5,rfl⟩:=h5.slice;obtain⟨a6,c6,rfl⟩:=h6.slice;clear h1 h2 h3 h4 h5 h6;obtain⟨q1,hq1⟩:∃ q,dD.cs.lo.length=q:=⟨_,rfl⟩
 obtain⟨q2,hq2⟩:∃ q,dD.cs.ti.length=q:=⟨_,rfl⟩
 obtain⟨q3,hq3⟩:∃ q,dD.cs.ca.1.length=q:=⟨_,rfl⟩
 obtain⟨q4,hq4⟩:∃ q,dD.cs.ca.2.length=q:=⟨_,rfl⟩
 obtain⟨q5,hq5⟩:∃ q,dD.cs.ig.1.length=q:=⟨_,rfl⟩
 obtain⟨q6,hq6⟩:∃ q,dD.cs.ig.2.length=q:=⟨_,rfl⟩
 rw [hq1,hq2,hq3,hq4,hq5,hq6] at EL ⊢;clear hq1 hq2 hq3 hq4 hq5 hq6;obtain⟨V1,hV1⟩:∃ V,V=w1.alloc (.cells #[.slice a1 q1 c1, .slice a2 q2 c2, .slice a3 q3 c3, .slice a4 q4 c4, .slice a5 q5 c5, .slice a6 q6 c6] 28):=⟨_,rfl⟩
 have dG:=bx (show ak V1 w1.heap.size 28 #[.slice a1 q1 c1, .slice a2 q2 c2, .slice a3 q3 c3, .slice a4 q4 c4, .slice a5 q5 c5, .slice a6 q6 c6] by rw [hV1];exact ak.new _ _ _);have k1:Below w1.heap.size w1 V1:=by rw [hV1];exact aS _ _
 have s1:V1.heap.size=w1.heap.size+1:=by rw [hV1];simp
 have aB:=bx (λW (h:Below V1.heap.size V1 W)=>dG.o.c6 h);obtain⟨V2,hV2⟩:∃ V,V=V1.alloc (.cells #[.string (bs [79,116,104,101,114]), .string (bs [76])] 9):=⟨_,rfl⟩
 have k2:Below V1.heap.size V1 V2:=by rw [hV2];exact aS _ _
 have k12:=bT k1 k2;have xu:=bx (show iY V2 (.slice (some ⟨w1.heap.size+1,0,none⟩) 2 2) dD.names by rw [hV2,<- s1];exact aaA V1 _ _ _);have HB2:=bx (bT HB1.o k12);have lN:=bx k2;have ZC:=bx k12;have hm:=aez dD.props dD.rule _ dD.names dD.r3 dD.wM V2 xu.o dD.nb dD.ajY dD.rb3 dD.VZ.1 dD.VZ.2.1 dD.VZ.2.2 (by decide) dD.aaW dD.UF.1 (by rw [show ((dD.names.length:Nat):Int)=2 from rfl,dD.UF.2];exact dD.fine);rw [show ((dD.names.length:Nat):Int)=2 from rfl,dD.UF.2] at hm;have abB:=bx hm;have dU:=bx hV1;have eY:=bx hV2;clear hm hV1 hV2 k1 k2 k12 s1;go_wp2_with fail;rw [<- dU.o];have hx:V1.alloc (.cells #[.string { data:=#[79,116,104,101,114] }, .string { data:=#[76] }] 9)=V2:=eY.o.symm;rw [hx];clear hx;refine abB.o.mono ?_;rintro e w2 ⟨⟨xv,rfl,hxv⟩,hb2⟩;have P8:=bx (show TabAt w2 xv dD.tb from hxv);have HB3:=bx (bT HB2.o hb2);have acv:=bx (EL.o.below (bT ZC.o hb2));have jT:=bx (bT lN.o hb2);clear hxv hb2;obtain⟨pi,pb,rv,nv,fv,rfl,t1,t2,t3,t4,t5⟩:=P8.o;obtain⟨b1,d1,rfl⟩:=t1.slice;obtain⟨b2,d2,rfl⟩:=t2.slice;obtain⟨b3,d3,rfl⟩:=t3.slice;obtain⟨b4,d4,rfl⟩:=t4.slice;obtain⟨b5,d5,rfl⟩:=t5.slice;clear t1 t2 t3 t4 t5;obtain⟨p1,hp1⟩:∃ q,dD.tb.p.1.length=q:=⟨_,rfl⟩
 obtain⟨p2,hp2⟩:∃ q,dD.tb.p.2.length=q:=⟨_,rfl⟩
 obtain⟨p3,hp3⟩:∃ q,dD.tb.r.length=q:=⟨_,rfl⟩
 obtain⟨p4,XG⟩:∃ q,dD.tb.m.1.length=q:=⟨_,rfl⟩
 obtain⟨p5,VJ⟩:∃ q,dD.tb.m.2.length=q:=⟨_,rfl⟩
 rw [hp1,hp2,hp3,XG,VJ,show dD.tb.n=2 from rfl] at P8 ⊢;clear hp1 hp2 hp3 XG VJ;obtain⟨V3,lF⟩:∃ V,V=w2.alloc (.cells #[.int .i64 2, .slice b1 p1 d1, .slice b2 p2 d2, .slice b3 p3 d3, .slice b4 p4 d4, .slice b5 p5 d5] 46):=⟨_,rfl⟩
 have xQ:=bx (show ak V3 w2.heap.size 46 #[.int .i64 2, .slice b1 p1 d1, .slice b2 p2 d2, .slice b3 p3 d3, .slice b4 p4 d4, .slice b5 p5 d5] by rw [lF];exact ak.new _ _ _);have k3:Below w2.heap.size w2 V3:=by rw [lF];exact aS _ _
 have s3:V3.heap.size=w2.heap.size+1:=by rw [lF];simp
 have lT:=bx (λW (h:Below V3.heap.size V3 W)=>xQ.o.c6 h);have JI:=bx (bT jT.o k3);have aK:=bx (HS.o.below (bT HB3.o k3));have JZ:=bx (bT HB3.o k3);have fA:=bx (acv.o.below k3);have HX3:=bx (P8.o.below k3);clear Yo abB EL acv P8 jT dG lN ZC xu HB1 HB2 dU eY HB3 HS;obtain⟨V4,zN⟩:∃ V,V=V3.alloc (.cells #[.int .i64 97, .int .i64 39, .int .i64 931] 3):=⟨_,rfl⟩
 have k4:Below V3.heap.size V3 V4:=by rw [zN];exact aS _ _
 have i4:ay V4 (.slice (some ⟨w2.heap.size+1,0,none⟩) 3 3) [97,39,931]:=by rw [zN,<- s3];exact OC V3 [97,39,931] 3 3 rfl (by omega) _ rfl
 have h4:=DY A B _ _ dD.cs [97,39,931] 2 V4 (fA.o.below k4) dD.Le i4 (by simp) (aK.o.below k4).e (aK.o.below k4).le;rw [dD.aaz.1,dD.aaz.2] at h4;have KH:=bx h4;have HB4:=bx k4;obtain⟨e0,e1,e2,e3,e4,e5,el⟩:=aB.o V3 JI.o;have nU:=bx lF;have sJ:=bx zN;clear h4 i4 k4 k3 s3;rw [lF] at e0 e1 e2 e3 e4 e5 el;clear lF zN;go_wp2_with fail;rw [<- nU.o,<- sJ.o];refine KH.o.mono ?_;rintro e w4 ⟨rfl,hb4⟩;have IK:=bx (bT HB4.o hb4);clear e0 e1 e2 e3 e4 e5 el hb4 KH HB4 nU sJ;obtain⟨V5,AX⟩:∃ V,V=w4.alloc (.cells #[.int .i64 97, .int .i64 931, .int .i64 39, .int .i64 97] 3):=⟨_,rfl⟩
 have k5:Below w4.heap.size w4 V5:=by rw [AX];exact aS _ _
 have i5:ay V5 (.slice (some ⟨w4.heap.size,0,none⟩) 4 4) [97,931,39,97]:=by rw [AX];exact OC w4 [97,931,39,97] 3 4 rfl (by omega) _ rfl
 have h5:=Ij A B _ _ dD.cs [97,931,39,97] V5 (fA.o.below (bT IK.o k5)) dD.Le i5 (by simp) (aK.o.below (bT IK.o k5)).e (aK.o.below (bT IK.o k5)).le;rw [dD.Ya.1,dD.Ya.2] at h5;have jI:=bx h5;have aP:=bx (bT IK.o k5);obtain⟨e0,e1,e2,e3,e4,e5,el⟩:=aB.o w4 (bT JI.o IK.o);have HV5:=bx AX;clear h5 i5 k5 AX;go_wp2_with fail;rw [<- HV5.o];refine jI.o.mono ?_;rintro e w5 ⟨⟨lv,rfl,hlv⟩,hb5⟩;have jZ:=bx (bT aP.o hb5);have qC:=bx hlv;obtain⟨la,lc,rfl⟩:∃ la lc,lv = .slice la 4 lc:=hlv.slice;clear e0 e1 e2 e3 e4 e5 el hb5 hlv jI aP HV5;have h6:=zV A B _ _ dD.cs dD.tb (bs dD.s1) w5 (fA.o.below jZ.o) dD.Le (HX3.o.below jZ.o) dD.alh (by decide) (aK.o.below jZ.o).e (aK.o.below jZ.o).d (aK.o.below jZ.o).g (aK.o.below jZ.o).t (aK.o.below jZ.o).le;rw [show (bs dD.s1).data.toList=dD.s1 from rfl,dD.abg.1,dD.abg.2] at h6;have HF6:=bx (show Calls Tryz.prog 25 #[.agg #[.slice a1 q1 c1, .slice a2 q2 c2, .slice a3 q3 c3, .slice a4 q4 c4, .slice a5 q5 c5, .slice a6 q6 c6], .agg #[.int .i64 2, .slice b1 p1 d1, .slice b2 p2 d2, .slice b3 p3 d3, .slice b4 p4 d4, .slice b5 p5 d5], .string (bs dD.s1)] w5 λe w'=>e = .returned (.tuple #[.string { data:=#[39,65,97,32,39,65,207,130,32,65] }, .int .i64 0])/\Below w5.heap.size w5 w' from h6);obtain⟨e0,e1,e2,e3,e4,e5,el⟩:=aB.o w5 (bT JI.o jZ.o);obtain⟨f0,f1,f2,f3,f4,f5,fl⟩:=lT.o w5 jZ.o;clear h6;go_wp2_with fail;refine HF6.o.mono ?_;rintro e w6 ⟨rfl,hb6⟩;have MP:=bx (bT jZ.o hb6);have ajy:=bx (qC.o.below hb6);clear e0 e1 e2 e3 e4 e5 el f0 f1 f2 f3 f4 f5 fl hb6 HF6;have h7:=DJ A B _ dD.cs (bs dD.s2) w6 (fA.o.below MP.o) dD.Le (by decide) (aK.o.below MP.o).e (aK.o.below MP.o).le;rw [show (bs dD.s2).data.toList=dD.s2 from rfl,dD.acw.1,dD.acw.2] at h7;have pW:=bx (show Calls Tryz.prog 23 #[.agg #[.slice a1 q1 c1, .slice a2 q2 c2, .slice a3 q3 c3, .slice a4 q4 c4, .slice a5 q5 c5, .slice a6 q6 c6], .string (bs dD.s2)] w6 λe w'=>e = .returned (.tuple #[.string { data:=#[97,207,130,32,239,191,189] }, .int .i64 0])/\Below w6.heap.size w6 w' from h7);obtain⟨e0,e1,e2,e3,e4,e5,el⟩:=aB.o w6 (bT JI.o MP.o);clear h7;go_wp2_with fail;refine pW.o.mono ?_;rintro e w7 ⟨rfl,hb7⟩;have LC:=bx (bT MP.o hb7);have ajs:=bx (ajy.o.below hb7);clear e0 e1 e2 e3 e4 e5 el hb7 pW;obtain⟨V8,Qp⟩:∃ V,V=w7.alloc (.cells #[.int .i64 97] 3):=⟨_,rfl⟩
 have k8:Below w7.heap.size w7 V8:=by rw [Qp];exact aS _ _
 have i8:ay V8 (.slice (some ⟨w7.heap.size,0,none⟩) 1 1) [97]:=by rw [Qp];exact OC w7 [97] 3 1 rfl (by omega) _ rfl
 have h8:=Gu A B _ _ dD.cs [97] 1 0 V8 (fA.o.below (bT LC.o k8)) dD.Le i8 (by simp) (aK.o.below (bT LC.o k8)).e (aK.o.below (bT LC.o k8)).le;rw [dD.adU] at h8;have HF8:=bx h8;have aY:=bx (bT LC.o k8);have aec:=bx (ajs.o.below k8);obtain⟨e0,e1,e2,e3,e4,e5,el⟩:=aB.o w7 (bT JI.o LC.o);have HV8:=bx Qp;clear h8 i8 k8 Qp;go_wp2_with fail;rw [<- HV8.o];refine HF8.o.mono ?_;rintro e w8 ⟨⟨wv,rfl,hwv⟩,hb8⟩;obtain⟨wa,wc,rfl⟩:=hwv.slice;have Ko:=bx (bT aY.o hb8);have alr:=bx (aec.o.below hb8);clear e0 e1 e2 e3 e4 e5 el hb8 HF8 aY HV8 hwv;obtain⟨V9,QS⟩:∃ V,V=w8.alloc (.cells #[.int .i64 97, .int .i64 963, .int .i64 39, .int .i64 97] 3):=⟨_,rfl⟩
 have k9:Below w8.heap.size w8 V9:=by rw [QS];exact aS _ _
 have i9:ay V9 (.slice (some ⟨w8.heap.size,0,none⟩) 4 4) [97,963,39,97]:=by rw [QS];exact OC w8 [97,963,39,97] 3 4 rfl (by omega) _ rfl
 have h9:=Dq _ _ [97,963,39,97] [97,963,39,97] V9 (alr.o.below k9) i9 (by simp) (by simp);rw [show decide (([97,963,39,97]:List Int)=[97,963,39,97])=true from rfl] at h9;have HF9:=bx h9;have dM:=bx (bT Ko.o k9);have HV9:=bx QS;clear h9 i9 k9 QS;go_wp2_with fail;rw [<- HV9.o];refine HF9.o.mono ?_;rintro e w9 ⟨rfl,dY⟩;have HG9:=bx (bT JZ.o (bT dM.o dY));clear dY;go_wp2_with fail;go_ret
 exact⟨rfl,HG9.o⟩
end
section
open Go.ChangeShapes Go.WideShapes Go.ChangeAt Go.RowKit
section
variable {H:Type} {enc:TypeId×Value->H} {P:Program}
theorem alA {f:Func} {s:ChangeSpec} {apart fresh handsOn again:Bool} {W W':World} {args:Array Value} {v:Value} {ds gs:List (DataW H)} {before pa pv:List MemPlace}
  (hW:DataW.Whole enc P f.params.toList s.vars apart W args.toList ds gs before)
  (hres:∀ (b:Nat) (sp:Nat->Bool) (hd:Bool),DataW.TrodAll enc P W' b sp hd f.resultTypes.toList (v.resultList f.resultTypes.size) (s.fn H (ds++gs)).results [])
  (hargs:∀ sp:Nat->Bool,(∀ p∈before,sp p.block=true)->DataW.TrodAll enc P W' 0 sp true f.params.toList args.toList (s.fn H (ds++gs)).args pa)
  (hvars:∀ sp:Nat->Bool,(∀ p∈before,sp p.block=true)->DataW.TrodVars enc P W' sp s.vars (s.fn H (ds++gs)).vars pv)
  (hps:before=pa++pv) (hb:Below W.heap.size W W')
  (hok:∀ (j:Nat) (t:TypeId) (r:Value),f.resultTypes[j]?=some t->(v.resultList f.resultTypes.size)[j]?=some r->Value.okWide P W' .any 0 t r) :
  s.post enc P f apart fresh handsOn again W args v W':=by
 have hlt:∀ p∈before,p.block<W.heap.size:=λp hp=>hW.lt p hp
 have hold:∀ p∈before,(λb=>decide (b<W.heap.size)) p.block=true:=λp hp=>by simpa using hlt p hp
 refine⟨ds,gs,before,[],pa,pv,hW,hres _ _ _,hargs _ hold,hvars _ hold,World.keptBut_mono (λp hp=>⟨hp,?_⟩) (hb.frame (·∈before)),λ_=>?_⟩
 ·rw [hps,List.mem_append] at hp;exact Or.inr hp
 ·obtain⟨_,_,_,_,_,hz,hn⟩:=hW;refine⟨hok,_,_,([]++pa)++pv,⟨[]++pa,pv,trodAll_append (hargs _ (λ_ _=>rfl)) (hres _ _ _),hvars _ (λ_ _=>rfl),rfl,?_,?_⟩,?_⟩
  ·intro b off hp;have hin:MemPlace.cell b off∈before:=by rw [hps];simpa using hp
   rw [hb.frozen (hlt _ hin)];exact hz b off hin
  ·intro ha;have:=hn ha;rw [hps] at this
   simpa using this
  ·intro p hp _;rw [hps]
   simpa using hp
end
theorem own:ownKnob Tryz.prog.godebug=none:=by kernel_rfl
theorem ahc:Tryz.prog.cellsOf 368=1:=by kernel_rfl
theorem alS:Tryz.prog.cellsOf 9=1:=by kernel_rfl
theorem X6 : "*" ++ "errors.errorString" = "*errors.errorString" := by decide
theorem afA (u:TypeId) (h:Tryz.prog.typeName? 3 u=some "*errors.errorString"):u=348 :=
 typeName_ptr_named (nm := "errors.errorString") (by rw [X6];kernel_rfl) (by kernel_rfl) (by decide) u (by rw [X6];exact h)
theorem gN0:Tryz.prog.globalNamed "virama/scalar.errScalar" = some 4/\(Tryz.prog.globals[4]?).map (·.type)=some 68:=⟨by kernel_rfl,by kernel_rfl⟩
theorem gN1:Tryz.prog.globalNamed "virama/scalar.errUtf" = some 5/\(Tryz.prog.globals[5]?).map (·.type)=some 68:=⟨by kernel_rfl,by kernel_rfl⟩
theorem gN2:Tryz.prog.globalNamed "virama/dfa.errRule" = some 9/\(Tryz.prog.globals[9]?).map (·.type)=some 68:=⟨by kernel_rfl,by kernel_rfl⟩
theorem gN3:Tryz.prog.globalNamed "virama/dfa.errMachine" = some 8/\(Tryz.prog.globals[8]?).map (·.type)=some 68:=⟨by kernel_rfl,by kernel_rfl⟩
theorem gN4:Tryz.prog.globalNamed "virama/seg.errCut" = some 6/\(Tryz.prog.globals[6]?).map (·.type)=some 68:=⟨by kernel_rfl,by kernel_rfl⟩
theorem gN5:Tryz.prog.globalNamed "virama/title.errCase" = some 0/\(Tryz.prog.globals[0]?).map (·.type)=some 68:=⟨by kernel_rfl,by kernel_rfl⟩
theorem gN6:Tryz.prog.globalNamed "virama/title.errText" = some 1/\(Tryz.prog.globals[1]?).map (·.type)=some 68:=⟨by kernel_rfl,by kernel_rfl⟩
theorem gN7:Tryz.prog.globalNamed "virama/title.errScalar" = some 2/\(Tryz.prog.globals[2]?).map (·.type)=some 68:=⟨by kernel_rfl,by kernel_rfl⟩
theorem gN8:Tryz.prog.globalNamed "virama/title.errPlace" = some 3/\(Tryz.prog.globals[3]?).map (·.type)=some 68:=⟨by kernel_rfl,by kernel_rfl⟩
def RD:List Sent:=[("virama/scalar.errScalar",4,[110,111,32,115,99,97,108,97,114]),("virama/scalar.errUtf",5,[110,111,116,32,119,101,108,108,45,102,111,114,109,101,100]),("virama/dfa.errRule",9,[110,111,32,114,117,108,101,115]),("virama/dfa.errMachine",8,[110,111,32,109,97,99,104,105,110,101]),("virama/seg.errCut",6,[110,111,32,99,117,116,115]),("virama/title.errCase",0,[110,111,32,99,97,115,101,115]),("virama/title.errText",1,[116,111,111,32,108,111,110,103]),("virama/title.errScalar",2,[110,111,32,115,99,97,108,97,114,115]),("virama/title.errPlace",3,[110,111,32,112,108,97,99,101])]
noncomputable def low:Nat:=(World.holding Tryz.prog default ⟨#[],#[],[]⟩).heap.size
noncomputable def laidWorld (os:Os):World :=
 let w0:=World.holding Tryz.prog os ⟨#[(.cells #[.string { data:=#[110,111,32,115,99,97,108,97,114] }] 368:Obj),(.cells #[.string { data:=#[110,111,116,32,119,101,108,108,45,102,111,114,109,101,100] }] 368:Obj),(.cells #[.string { data:=#[110,111,32,114,117,108,101,115] }] 368:Obj),(.cells #[.string { data:=#[110,111,32,109,97,99,104,105,110,101] }] 368:Obj),(.cells #[.string { data:=#[110,111,32,99,117,116,115] }] 368:Obj),(.cells #[.string { data:=#[110,111,32,99,97,115,101,115] }] 368:Obj),(.cells #[.string { data:=#[116,111,111,32,108,111,110,103] }] 368:Obj),(.cells #[.string { data:=#[110,111,32,115,99,97,108,97,114,115] }] 368:Obj),(.cells #[.string { data:=#[110,111,32,112,108,97,99,101] }] 368:Obj)],#[],[]⟩
 { w0 with heap:=((((((((((w0.heap.modify 4 fun
   | .cells _ t frozen=>.cells #[.iface 348 (.pointer (some ⟨low+0,0,none⟩))] t frozen
   | o=>o).modify 5 fun
   | .cells _ t frozen=>.cells #[.iface 348 (.pointer (some ⟨low+1,0,none⟩))] t frozen
   | o=>o).modify 9 fun
   | .cells _ t frozen=>.cells #[.iface 348 (.pointer (some ⟨low+2,0,none⟩))] t frozen
   | o=>o).modify 8 fun
   | .cells _ t frozen=>.cells #[.iface 348 (.pointer (some ⟨low+3,0,none⟩))] t frozen
   | o=>o).modify 6 fun
   | .cells _ t frozen=>.cells #[.iface 348 (.pointer (some ⟨low+4,0,none⟩))] t frozen
   | o=>o).modify 0 fun
   | .cells _ t frozen=>.cells #[.iface 348 (.pointer (some ⟨low+5,0,none⟩))] t frozen
   | o=>o).modify 1 fun
   | .cells _ t frozen=>.cells #[.iface 348 (.pointer (some ⟨low+6,0,none⟩))] t frozen
   | o=>o).modify 2 fun
   | .cells _ t frozen=>.cells #[.iface 348 (.pointer (some ⟨low+7,0,none⟩))] t frozen
   | o=>o).modify 3 fun
   | .cells _ t frozen=>.cells #[.iface 348 (.pointer (some ⟨low+8,0,none⟩))] t frozen
   | o=>o).modify 7 fun
   | .cells _ t frozen=>.cells #[.iface 244 (.agg #[.pointer (some ⟨10,68,none⟩)])] t frozen
   | o=>o) }
theorem et:Tryz.prog.globalNamed "errors.errorType" = some 7:=by kernel_rfl
theorem rt:(Tryz.prog.cutTypes.find? (·.1 == "internal/reflectlite.rtype")).map (·.2)=some 244:=by kernel_rfl
theorem oneRow:((List.range Tryz.prog.types.size).filter λt=>Tryz.prog.rowNamed t [101,114,114,111,114])=[68]:=by kernel_rfl
theorem laid_met (os:Os) (args:Array Value):laidMetH Tryz.prog Rows.titleFinalsRow.laid ((laidWorld os).forCall (λ_ _=>0) ⟨#[],args,[]⟩).memory :=
 laidMetH_of_parts (laidMet_of_run (ps:=[.cell 4 0, .cell (low+0) 0, .cell 5 0, .cell (low+1) 0, .cell 9 0, .cell (low+2) 0, .cell 8 0, .cell (low+3) 0, .cell 6 0, .cell (low+4) 0, .cell 0 0, .cell (low+5) 0, .cell 1 0, .cell (low+6) 0, .cell 2 0, .cell (low+7) 0, .cell 3 0, .cell (low+8) 0]) 8 (by kernel_rfl) (by kernel_rfl) (by kernel_rfl)) (by kernel_rfl)
theorem amB {W:World} (hL:laidMetH Tryz.prog Rows.titleFinalsRow.laid W):(∃ A:Nat->Addr,Env (RD.map (·.2.1)) 348 A W.heap.size W)/\Ah W:=by
 have h':laidMet Tryz.prog (RD.map (SH "*errors.errorString")) W/\handlesMet Tryz.prog [("errors.errorType",Rows.laid_errors_errorType)] W:=hL;refine⟨ajQ Tryz.underlying68 afA Tryz.underlying348 Tryz.underlying368 rfl rfl Tryz.underlying9 ahc alS RD
  (List.forall_mem_cons.2 ⟨gN0,List.forall_mem_cons.2 ⟨gN1,List.forall_mem_cons.2 ⟨gN2,List.forall_mem_cons.2 ⟨gN3,List.forall_mem_cons.2 ⟨gN4,List.forall_mem_cons.2 ⟨gN5,List.forall_mem_cons.2 ⟨gN6,List.forall_mem_cons.2 ⟨gN7,List.forall_mem_cons.2 ⟨gN8,λ_ h=>absurd h List.not_mem_nil⟩⟩⟩⟩⟩⟩⟩⟩⟩) h'.1,?_⟩
 obtain⟨name,u,ty,e1,e2,e3,e4,e5⟩:=h'.2 _ (List.mem_singleton.2 rfl);have en:name=[101,114,114,111,114]:=(Option.some.inj e1).symm;subst en;obtain rfl:=Option.some.inj (rt.symm.trans e2);have hm:ty∈(List.range Tryz.prog.types.size).filter λt=>Tryz.prog.rowNamed t [101,114,114,111,114]:=List.mem_filter.2 ⟨List.mem_range.2 e3,e4⟩
 rw [oneRow] at hm;obtain rfl:=List.mem_singleton.1 hm;have hh:typeHandle Tryz.prog 68 = .pointer (some ⟨10,68,none⟩):=by kernel_rfl
 rw [hh] at e5;unfold Ah
 simpa using World.var?_cell et e5 0
theorem Es {W:World} (hL:laidMetH Tryz.prog Rows.titleFinalsRow.laid W):∃ A:Nat->Addr,Sw A W.heap.size W:=by
 obtain⟨⟨A,h⟩,ht⟩:=amB hL;exact⟨A,RZ h (by decide),RZ h (by decide),RZ h (by decide),ht,Nat.le_refl _⟩
section
variable {H:Type} {enc:TypeId×Value->H} {P:Program}
theorem ZF (hl:laidOutB P=true) {W W':World} (hb:Below W.heap.size W W'):∀ (ts:List TypeId) {vs:List Value} {ds:List (DataW H)} {ps:List MemPlace},(∀ t∈ts,P.readableRec t=true/\t<P.types.size) ->
  DataW.TrodAll enc P W 0 (λ_=>true) true ts vs ds ps->(∀ p∈ps,p.block<W.heap.size)->∀ sp:Nat->Bool,(∀ p∈ps,sp p.block=true)->DataW.TrodAll enc P W' 0 sp true ts vs ds ps
 | [],vs,ds,ps,_,h,_,sp,_=>by
  obtain⟨rfl,rfl,rfl⟩:=trodAll_nil h;exact trodAll_mk0
 | t::ts,vs,ds,ps,hr,h,hlt,sp,hs=>by
  obtain⟨v,vs',d,ds',p,q,rfl,rfl,rfl,h1,h2⟩:=trodAll_cons h;have ht:=hr t (List.mem_cons_self ..);exact trodAll_cons_mk (WideElems.Trod_stays hl ht.1 ht.2 h1 (λx hx=>hb.same (hlt x (List.mem_append_left _ hx))) (λx hx=>hs x (List.mem_append_left _ hx)))
   (ZF hl hb ts (λt' h'=>hr t' (List.mem_cons_of_mem _ h')) h2 (λx hx=>hlt x (List.mem_append_right _ hx)) sp (λx hx=>hs x (List.mem_append_right _ hx)))
theorem DX {f:Func} {s:ChangeSpec} {apart fresh handsOn again:Bool} {W W':World} {args:Array Value} {ds:List (DataW H)} {before:List MemPlace} {tb:TypeId} (hl:laidOutB P=true)
  (hv:s.vars=[]) (hW:DataW.Whole enc P f.params.toList s.vars apart W args.toList ds [] before) (hb:Below W.heap.size W W') (htb:P.underlying tb=some .bool) (hr:f.resultTypes=#[tb])
  (hread:∀ t∈f.params.toList,P.readableRec t=true/\t<P.types.size) (hs:s.fn H ds={ results:=[.lit (.bool true)],args:=ds }) :
  s.post enc P f apart fresh handsOn again W args (.bool true) W':=by
 have hW':=hW;obtain⟨p,q,hA,hV,he,hfz,hnd⟩:=hW;rw [hv] at hV;obtain⟨-,rfl⟩:=trodVars_none hV;rw [List.append_nil] at he;subst he;have hlt:∀ x∈before,x.block<W.heap.size:=λx hx=>hW'.lt x hx
 have hs':s.fn H (ds++[])={ results:=[.lit (.bool true)],args:=ds }:=by rw [List.append_nil];exact hs
 refine alA (pa:=before) (pv:=[]) hW' ?_ ?_ ?_ (by simp) hb (ok_one hr rfl (okWide_bool_mk htb _))
 ·intro b sp hd;rw [hs',hr];exact trodAll_mk1 (shut_bool htb _)
 ·intro sp hsp;rw [hs'];exact ZF hl hb _ hread hA hlt sp hsp
 ·intro sp _;rw [hs',hv]
  rfl
end
end
section
open Go.RowKit Go.ChangeShapes Go.WideShapes Go.Deep
section
variable {H:Type} {enc:TypeId×Value->H} {W:World}
theorem G6 {fuel:Nat} {v:Value} {x:DataW H×List MemPlace} {t e:TypeId} (ht:Tryz.prog.underlying t=some (.slice e)) (he:Tryz.prog.underlying e=some (.int .i64)) (hc:Tryz.prog.cellsOf e=1)
  (h:DataW.trod enc Tryz.prog W 0 (λ_=>true) true fuel t [v]=some x):∃ l,ay W v l:=by
 rcases Go.ChangeShapes.open_ints ht he hc h with⟨h1,_⟩ | ⟨a,len,cap,zs,h1,_,h2,h3,h4,_,h5,_⟩
 ·simp only [List.cons.injEq,and_true] at h1;exact⟨[], .inl ⟨h1,rfl⟩⟩
 ·simp only [List.cons.injEq,and_true] at h1;subst h1;simp only [if_true] at h4;have hl:(zs.take len).length=len:=by rw [List.length_take];omega
  obtain⟨b,off,sp⟩:=a;refine⟨zs.take len, .inr ⟨b,off,sp,cap,by rw [hl],by rw [hl];exact h2,h3,λhn=>?_⟩⟩;have h0:0<zs.length:=by
   rcases Nat.eq_zero_or_pos zs.length with h | h
   ·exact absurd (by rw [List.eq_nil_of_length_eq_zero h];simp) hn
   ·exact h
  have hc0:=h5 0 h0;have hsp:sp=none:=World.cell?_spot (a:=(⟨b,off,sp⟩:Addr).add 0) hc0;subst hsp;refine⟨rfl,World.block_lt_of_cell? _ _ hc0,λi x hx=>?_⟩;rw [List.getElem?_take] at hx
  split at hx
  ·have hi:i<zs.length:=(List.getElem?_eq_some_iff.1 hx).1;have:=h5 i hi;rw [show (⟨b,off+i,none⟩:Addr)=(⟨b,off,none⟩:Addr).add i by unfold Addr.add;by_cases h0:i=0 <;> simp [h0],this,List.getD,hx]
   rfl
  ·cases hx
theorem iq.open {fuel:Nat} {v:Value} {x:DataW H×List MemPlace} (h:DataW.trod enc Tryz.prog W 0 (λ_=>true) true fuel 24 [v]=some x):∃ l,iq W v l:=by
 rcases open_slice1 Tryz.underlying24 (by kernel_rfl) h with⟨h1,_⟩ | ⟨a,len,cap,m,n,V,Dd,Pl,h1,_,h2,h3,h4,_,h5⟩
 ·simp only [List.cons.injEq,and_true] at h1;exact⟨[], .inl ⟨h1,rfl⟩⟩
 ·simp only [List.cons.injEq,and_true] at h1;subst h1;simp only [if_true] at h4;subst h4;have key:∀ i,i<m->∃ q:List Int,W.cell? (a.add i)=some (V i)/\ay W (V i) q:=λi hi=>by
   obtain⟨k1,k2⟩:=h5 i hi;obtain⟨q,hq⟩:=G6 Tryz.underlying23 Tryz.underlying3 (by kernel_rfl) k2;exact⟨q,k1,hq⟩
  obtain⟨q,hq⟩:=choose_lt key;obtain⟨b,off,sp⟩:=a;have hlen:((List.range len).map q).length=len:=by simp
  refine⟨(List.range len).map q, .inr ⟨b,off,sp,m,by rw [hlen],by rw [hlen];exact h2,h3,λhn=>?_⟩⟩;have h0:0<len:=by
   rcases Nat.eq_zero_or_pos len with h | h
   ·subst h;exact absurd rfl hn
   ·exact h
  have hc0:=(hq 0 (by omega)).1;have hsp:sp=none:=World.cell?_spot (a:=(⟨b,off,sp⟩:Addr).add 0) hc0;subst hsp;refine⟨rfl,World.block_lt_of_cell? _ _ hc0,λi y hy=>?_⟩;rw [List.getElem?_map] at hy;obtain⟨j,hj,rfl⟩:=Option.map_eq_some_iff.1 hy;obtain⟨hi,rfl⟩:=List.getElem?_eq_some_iff.1 hj;simp only [List.length_range] at hi;simp only [List.getElem_range];obtain⟨k1,k2⟩:=hq i (by omega);rw [addr_add b off] at k1;exact⟨_,k1,k2⟩
end
end
end Go.Proofs.YtlmdjifffmofeaaGreatDoor
