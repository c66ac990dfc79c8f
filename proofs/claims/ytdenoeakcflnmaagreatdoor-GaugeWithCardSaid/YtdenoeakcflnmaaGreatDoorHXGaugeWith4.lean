/- Texts of this claim. -/
import Derived.Test.YtdenoeakcflnmaaGreatDoorHXGaugeWith3

set_option maxRecDepth 100000
set_option maxHeartbeats 16000000
namespace Go.Proofs.YtdenoeakcflnmaaGreatDoor
section
open Go.RowKit Go.Shelf
attribute [local go_sem] Oper.semAt_some
theorem Wy (n p:Nat):(dU n λ_=>false).setIfInBounds p (.bool true)=((N.jR n p).map Value.bool).toArray:=by
 rw [yX];unfold dU N.jR;rw [List.map_map]
 rfl
theorem WU (st:Bool) (v:Value) (l:List N.Item) (cv:Value) (cs:List Int) (p:Nat) (w:World) (hv:bQ w v l) (hh:∀ x∈l,x.2=0\/x.2=1\/x.2=2) (hz:l.length<=16777216) (hc:aB w cv cs) (hcz:cs.length<=299) (hp:p<=cs.length) :
  Calls Tryz.prog 194 #[.agg #[.bool st,v],cv, .int .i64 p] w λe w'=>(∃ v',e = .returned v'/\iy w' v' (N.jw cs l (N.jR (cs.length+1) p)))/\Below w.heap.size w w':=by
 obtain⟨ao,cap,rfl⟩:=hv.slice;obtain⟨co,cc,rfl⟩:=hc.slice;obtain⟨V1,hV1⟩:∃ V1,V1=w.alloc (.cells #[.bool st, .slice ao l.length cap] 182):=⟨_,rfl⟩
 have s1:V1.heap.size=w.heap.size+1:=by rw [hV1];simp
 have hS1:Sep [Pc.blk w.heap.size 182 #[.bool st, .slice ao l.length cap],Pc.old w.heap.size w] V1:=by rw [hV1];exact(Sep.start w).bM _ _
 have hm:=Dy cs.length hcz V1;obtain⟨V2,hV2⟩:∃ V2,V2=V1.alloc (.cells (dU (cs.length+1) λ_=>false) 4):=⟨_,rfl⟩
 have hS2:=hS1.bM 4 (dU (cs.length+1) λ_=>false);rw [<- hV2,s1] at hS2;rw [<- hV2,s1] at hm;have hb:=hS2.blk 0 rfl;have x1:V2.cell? ⟨w.heap.size+1,p,none⟩=some (.bool false):=(hb.cell p).trans (uO _ (by omega));have x2:=hb.frozen p;have x3:=hb.lt;have hk:=hS2.blk 1 rfl;have y1:V2.cell? ⟨w.heap.size,1,none⟩=some (.slice ao l.length cap):=(hk.cell 1).trans rfl;have y2:=hk.lt;have hS3:=hS2.set 0 rfl p (.bool true);rw [Wy] at hS3;have HB3:=bx (show Below w.heap.size w (V2.setCell ⟨w.heap.size+1,p,none⟩ (.bool true)) from hS3.bel (by simp));have HO:=bx (show iy (V2.setCell ⟨w.heap.size+1,p,none⟩ (.bool true)) (.slice (some ⟨w.heap.size+1,0,none⟩) (cs.length+1) (cs.length+1)) (N.jR (cs.length+1) p) by
  have h:=Ju (hS3.blk 0 rfl) (by rw [N.xU];omega)
  rwa [N.xU] at h)
 have y3:(V2.setCell ⟨w.heap.size+1,p,none⟩ (.bool true)).cell? ⟨w.heap.size,1,none⟩=some (.slice ao l.length cap):=((hS3.blk 1 rfl).cell 1).trans rfl;have y4:=(hS3.blk 1 rfl).lt;obtain⟨V3,lX⟩:∃ V3,V3=V2.setCell ⟨w.heap.size+1,p,none⟩ (.bool true):=⟨_,rfl⟩
 rw [<- lX] at HB3 HO y3 y4;have HR:=bx (KJ cs hcz l hh hz (.slice ao l.length cap) (.slice co cs.length cc) _ (N.jR (cs.length+1) p) V3 (hv.below HB3.o) (hc.below HB3.o) HO.o (N.xU _ _));have fH:=bx hV1;have HM:=bx hm;have rX:=bx lX;clear hv hc hV1 hV2 hm hb hk hS1 hS2 hS3 s1 lX
 go_enter Tryz.func194,Tryz.ntmps194
 go_upto_region 1 with(fail)
 rw [<- fH.o];have hm:=HM.o
 go_upto_region 2 with(fail)
 clear hm;go_wp2_with fail;rw [<- rX.o];clear x1 x2 x3 y1 y2;go_wp2_with fail;refine HR.o.mono ?_;rintro e w4 ⟨⟨v',rfl,h4⟩,hb4⟩;have H4:=bx h4;have HB4:=bx (ku HB3.o hb4);clear h4 hb4;go_wp2_with fail;go_ret
 exact⟨⟨_,rfl,H4.o⟩,HB4.o⟩
theorem RH (st:Bool) (v:Value) (l:List N.Item) (cv:Value) (cs:List Int) (p:Int) (w:World) (hv:bQ w v l) (hz:l.length<=16777216) (hc:aB w cv cs) (hcz:cs.length<=299) :
  Calls Tryz.prog 156 #[.agg #[.bool st,v],cv, .int .i64 p] w λe w'=>e = .returned (.bool (kJ st l cs p))/\Below w.heap.size w w':=by
 obtain⟨W,hW⟩:∃ W,W=w.alloc (.cells #[.bool st,v] 182):=⟨_,rfl⟩
 have hbW:Below w.heap.size w W:=by rw [hW];exact Bj _ _
 have hbk:aj W w.heap.size 182 #[.bool st,v]:=by rw [hW];exact aj.new _ _ _
 have HP:=bx (FI st v l W (hv.below hbW) hz);have HV:=bx (hv.below hbW);have HC:=bx (hc.below hbW);have bf:=bx hbk;have aJ:=bx hbW;obtain⟨ao,cap,rfl⟩:=hc.slice;have c0:W.cell? ⟨w.heap.size,0,none⟩=some (.bool st):=(hbk.cell 0).trans rfl;have c1:W.cell? ⟨w.heap.size,1,none⟩=some v:=(hbk.cell 1).trans rfl;have HW:=bx hW;clear hv hc hbk hbW hW
 go_enter Tryz.func156,Tryz.ntmps156
 go_upto_region 1 with(fail)
 rw [<- HW.o]
 cases hr:fQ l with
 | false =>
  have HR:=bx (show kJ st l cs p=false by unfold kJ;rw [hr];rfl);have HRR:=bx hr;clear hr;go_wp2_with fail;refine HP.o.mono ?_;rintro e w1 ⟨rfl,hb1⟩;rw [HRR.o];have HB1:=bx hb1;clear hb1;go_wp2_with fail;go_ret
  exact⟨aI HR.o.symm,bt aJ.o HB1.o⟩
 | true =>
  have HRR:=bx hr;clear hr
  rcases Int.lt_or_le p 0 with h0 | h0
  ·have HR:=bx (show kJ st l cs p=false by unfold kJ;rw [decide_eq_false (by omega:¬ 0<=p),Bool.and_false];rfl);go_wp2_with fail;refine HP.o.mono ?_;rintro e w1 ⟨rfl,hb1⟩;rw [HRR.o];have HB1:=bx hb1;clear hb1;go_wp2_with fail;go_ret
   exact⟨aI HR.o.symm,bt aJ.o HB1.o⟩
  rcases Int.lt_or_le cs.length p with h1 | h1
  ·have HR:=bx (show kJ st l cs p=false by unfold kJ;rw [decide_eq_false (by omega:¬ p<=cs.length),Bool.and_false];rfl);go_wp2_with fail;refine HP.o.mono ?_;rintro e w1 ⟨rfl,hb1⟩;rw [HRR.o];have HB1:=bx hb1;clear hb1;go_wp2_with fail;go_ret
   exact⟨aI HR.o.symm,bt aJ.o HB1.o⟩
  obtain⟨q,rfl⟩:=Int.eq_ofNat_of_zero_le h0;have hq:q<=cs.length:=by omega
  go_wp2_with fail;refine HP.o.mono ?_;rintro e w1 ⟨rfl,hb1⟩;rw [HRR.o];have hbk1:=bf.o.below hb1 bf.o.lt;have d0:w1.cell? ⟨w.heap.size,0,none⟩=some (.bool st):=(hbk1.cell 0).trans rfl;have d1:w1.cell? ⟨w.heap.size,1,none⟩=some v:=(hbk1.cell 1).trans rfl;have hl1:=hbk1.lt;have HB1:=bx (bt aJ.o hb1);have fH:=bx (HV.o.below hb1);have dV:=bx (HC.o.below hb1);clear hb1 hbk1 c0 c1
  by_cases hs:st=true/\0<q
  ·obtain⟨hs1,hs2⟩:=hs;have HR:=bx (show kJ st l cs (q:Int)=false by unfold kJ;rw [hs1,decide_eq_true (by omega:(0:Int)<(q:Int))];simp);rw [hs1] at d0;clear hs1;go_wp2_with fail;go_ret
   exact⟨aI HR.o.symm,HB1.o⟩
  ·have Ja:=bx (JM HRR.o);have pF:=bx (DI HRR.o);have ab3:=xC HRR.o;obtain⟨X,hX⟩:∃ X,N.jw cs l (N.jR (cs.length+1) q)=X:=⟨_,rfl⟩
   have HX:=bx hX;have nY:=bx (show X.length=cs.length+1 by rw [<- hX];exact N.Dv (N.xU _ _));have yj:=bx (show ∀ i,i<=cs.length->X.getD i false=true->q<=i from λi hi h=>by
    rw [<- hX] at h;have hr:=N.Df (l:=l) (cs:=cs) pF.o hq l.length (Nat.le_refl _) i hi;rw [List.take_length] at hr;exact(hr.1 h).le)
   have HR:=bx (show kJ st l cs (q:Int)=X.any id by
    unfold kJ;rw [HRR.o,decide_eq_true h0,decide_eq_true h1,Int.toNat_natCast,hX]
    rcases Bool.eq_false_or_eq_true st with e | e
    ·have:q=0:=by
      rcases Nat.eq_zero_or_pos q with h | h
      ·exact h
      ·exact absurd ⟨e,h⟩ hs
     subst this;rw [e];simp
    ·rw [e];simp)
   have mF:=bx (WU st v l (.slice ao cs.length cap) cs q w1 fH.o Ja.o hz dV.o hcz hq);clear hX
   rcases Bool.eq_false_or_eq_true st with e | e
   ·have hq0:q=0:=by
     rcases Nat.eq_zero_or_pos q with h | h
     ·exact h
     ·exact absurd ⟨e,h⟩ hs
    rw [e] at d0 mF;subst hq0;clear e hs hq h0 h1;go_wp2_with fail;refine mF.o.mono ?_;rintro e w3 ⟨⟨xv,rfl,hi⟩,hb3⟩;rw [HX.o] at hi;have HI:=bx hi;have HB3:=bx (bt HB1.o hb3);obtain⟨xo,xc,rfl⟩:=hi.slice;rw [nY.o] at HI ⊢;clear hi hb3 d0 d1 hl1;go_wp2_with fail
    go_loopw [8] (λi wr=>∃ k:Nat,0<=k/\k<=cs.length+1/\i = .int .i64 k/\Box (∀ j,0<=j->j<k->X.getD j false=false)/\Box (Below w3.heap.size w3 wr)) (λi _=>cs.length+1-(intOf i).toNat)
    case atStart=>exact⟨0,Nat.le_refl _,by omega,rfl,⟨λj h1 h2=>by omega⟩,⟨Below.refl _ _⟩⟩
    case round =>
     obtain⟨k,hqk,hk,rfl,hno,hb⟩:=hrel
     by_cases hlt:k<=cs.length
     ·obtain⟨f,hf⟩:∃ f,X[k]?=some f:=⟨_,List.getElem?_eq_getElem (by rw [nY.o];omega)⟩
      obtain⟨g,off,cap2,hg1,hg2,hg3,hg4,hg5⟩:=(HI.o.below hb.o).get (by intro e;have:=nY.o;rw [e] at this;simp at this);rw [nY.o] at hg1 hg2;obtain⟨rfl,rfl⟩:xo=some ⟨g,off,none⟩/\xc=cap2:=by injection hg1 with h1 h2 h3;exact⟨h1,h3⟩
      have hcf:=hg5 k f hf;have au:=bx (show X.getD k false=f by rw [List.getD_eq_getElem?_getD,hf];rfl);have yT:=bx (show f=true->X.any id=true from λh=>List.any_eq_true.2 ⟨f,List.mem_of_getElem? hf,h⟩);have aU:=bx hb.o.size;unfold maxLen at hg3;clear hg1 hg4 hg5 hf
      cases f with
      | true =>
       have HT:=bx (yT.o rfl);go_wp2_with fail;go_ret
       exact⟨aI (HR.o.trans HT.o).symm,bt HB3.o hb.o⟩
      | false =>
       have iP:=bx (show ∀ j,0<=j->j<k+1->X.getD j false=false from λj h1 h2=>by
        rcases Nat.lt_or_ge j k with h | h
        ·exact hno.o j h1 h
        ·obtain rfl:j=k:=by omega
         exact au.o)
       go_wp2_with fail
       go_roundw
       case rel=>exact⟨k+1,by omega,by omega,by go_num,iP,hb⟩
       case measure=>simp [intOf];omega
     ·have HF:=bx (show X.any id=false by
       rw [Bool.eq_false_iff];intro h;obtain⟨b,hb1,hb2⟩:=List.any_eq_true.1 h;obtain⟨i,hi1,hi2⟩:=List.getElem_of_mem hb1;have hxl:=nY.o;have hg:X.getD i false=true:=by rw [List.getD_eq_getElem?_getD,List.getElem?_eq_getElem hi1,hi2];exact hb2
       have:=yj.o i (by omega) hg;rw [hno.o i this (by omega)] at hg;exact absurd hg Bool.false_ne_true)
      go_wp2_with fail;go_ret
      exact⟨aI (HR.o.trans HF.o).symm,bt HB3.o hb.o⟩
   ·rw [e] at d0 mF;clear e hs h0 h1;go_wp2_with fail;refine mF.o.mono ?_;rintro e w3 ⟨⟨xv,rfl,hi⟩,hb3⟩;rw [HX.o] at hi;have HI:=bx hi;have HB3:=bx (bt HB1.o hb3);obtain⟨xo,xc,rfl⟩:=hi.slice;rw [nY.o] at HI ⊢;clear hi hb3 d0 d1 hl1;go_wp2_with fail
    go_loopw [8] (λi wr=>∃ k:Nat,q<=k/\k<=cs.length+1/\i = .int .i64 k/\Box (∀ j,q<=j->j<k->X.getD j false=false)/\Box (Below w3.heap.size w3 wr)) (λi _=>cs.length+1-(intOf i).toNat)
    case atStart=>exact⟨q,Nat.le_refl _,by omega,rfl,⟨λj h1 h2=>by omega⟩,⟨Below.refl _ _⟩⟩
    case round =>
     obtain⟨k,hqk,hk,rfl,hno,hb⟩:=hrel
     by_cases hlt:k<=cs.length
     ·obtain⟨f,hf⟩:∃ f,X[k]?=some f:=⟨_,List.getElem?_eq_getElem (by rw [nY.o];omega)⟩
      obtain⟨g,off,cap2,hg1,hg2,hg3,hg4,hg5⟩:=(HI.o.below hb.o).get (by intro e;have:=nY.o;rw [e] at this;simp at this);rw [nY.o] at hg1 hg2;obtain⟨rfl,rfl⟩:xo=some ⟨g,off,none⟩/\xc=cap2:=by injection hg1 with h1 h2 h3;exact⟨h1,h3⟩
      have hcf:=hg5 k f hf;have au:=bx (show X.getD k false=f by rw [List.getD_eq_getElem?_getD,hf];rfl);have yT:=bx (show f=true->X.any id=true from λh=>List.any_eq_true.2 ⟨f,List.mem_of_getElem? hf,h⟩);have aU:=bx hb.o.size;unfold maxLen at hg3;clear hg1 hg4 hg5 hf
      cases f with
      | true =>
       have HT:=bx (yT.o rfl);go_wp2_with fail;go_ret
       exact⟨aI (HR.o.trans HT.o).symm,bt HB3.o hb.o⟩
      | false =>
       have iP:=bx (show ∀ j,q<=j->j<k+1->X.getD j false=false from λj h1 h2=>by
        rcases Nat.lt_or_ge j k with h | h
        ·exact hno.o j h1 h
        ·obtain rfl:j=k:=by omega
         exact au.o)
       go_wp2_with fail
       go_roundw
       case rel=>exact⟨k+1,by omega,by omega,by go_num,iP,hb⟩
       case measure=>simp [intOf];omega
     ·have HF:=bx (show X.any id=false by
       rw [Bool.eq_false_iff];intro h;obtain⟨b,hb1,hb2⟩:=List.any_eq_true.1 h;obtain⟨i,hi1,hi2⟩:=List.getElem_of_mem hb1;have hxl:=nY.o;have hg:X.getD i false=true:=by rw [List.getD_eq_getElem?_getD,List.getElem?_eq_getElem hi1,hi2];exact hb2
       have:=yj.o i (by omega) hg;rw [hno.o i this (by omega)] at hg;exact absurd hg Bool.false_ne_true)
      go_wp2_with fail;go_ret
      exact⟨aI (HR.o.trans HF.o).symm,bt HB3.o hb.o⟩
theorem SA {n:Nat} {l:List Int} {q:Nat} {c:Int} (h:l[q]?=some c):(D.cuts n (l.take (q+1)))=D.cuts n (l.take q)++[D.cut n c]:=by
 unfold D.cuts;rw [List.take_add_one,h,List.map_append]
 rfl
def jT (R:List D.Rule) (M:D.bH) (nn:Nat) (L:List Int) (p:Nat):Bool:=decide (p=L.length)||cutAt R M nn L p
def gZ (R:List D.Rule) (M:D.bH) (nn:Nat) (L:List Int) (k:Nat):List Int:=(0::((List.range k).map (·+1)).filter (jT R M nn L)).map (λn:Nat=>(n:Int))
theorem CJ (R:List D.Rule) (M:D.bH) (nn:Nat) (L:List Int) (k:Nat):gZ R M nn L (k+1)=gZ R M nn L k++if jT R M nn L (k+1)=true then [((k+1:Nat):Int)] else []:=by
 unfold gZ;rw [List.range_succ,List.map_append,List.filter_append,<- List.cons_append,List.map_append]
 congr 1
 cases h:jT R M nn L (k+1) <;> simp [h]
theorem Eu {R:List D.Rule} {M:D.bH} {nn:Nat} {L:List Int} {p:Nat} (hp:1<=p) (h:true=jT R M nn L p):gZ R M nn L (p+1-1)=gZ R M nn L (p-1)++[(p:Int)]:=by
 obtain⟨k,rfl⟩:∃ k,p=k+1:=⟨p-1,by omega⟩
 rw [show k+1+1-1=k+1 by omega,show k+1-1=k by omega,CJ,if_pos h.symm]
theorem C9 {R:List D.Rule} {M:D.bH} {nn:Nat} {L:List Int} {p:Nat} (hp:1<=p) (h:false=jT R M nn L p):gZ R M nn L (p+1-1)=gZ R M nn L (p-1):=by
 obtain⟨k,rfl⟩:∃ k,p=k+1:=⟨p-1,by omega⟩
 rw [show k+1+1-1=k+1 by omega,show k+1-1=k by omega,CJ,<- h];simp
theorem Ub (R:List D.Rule) (M:D.bH) (nn:Nat) (L:List Int):gZ R M nn L L.length=pz R M nn L:=by
 unfold pz
 rcases Nat.eq_zero_or_pos L.length with h | h
 ·rw [if_neg (by omega),h]
  rfl
 ·obtain⟨m,hm⟩:∃ m,L.length=m+1:=⟨L.length-1,by omega⟩
  rw [if_pos h,hm,CJ,if_pos (by unfold jT;simp [hm])]
  congr 1
  unfold gZ wU
  congr 2
  refine List.filter_congr λp hp=>?_
  obtain⟨i,hi,rfl⟩:=List.mem_map.1 hp;have:=List.mem_range.1 hi;unfold jT;rw [decide_eq_false (by omega),Bool.false_or]
theorem JJ (rv:Value) (R:List D.Rule) (mv:Value) (M:D.bH) (n:Int) (lv:Value) (L:List Int) (w:World) (hR:fA w rv R) (hf:∀ x∈R,nX x) (oI:R.length<=16777216) (hM:kQ w mv M) (kF:oN M) (hL:aB w lv L) (hLz:L.length<=299) :
  Calls Tryz.prog 102 #[rv,mv, .int .i64 n,lv] w (Vr R M n L w):=by
 have HR:=bx hR;have HM:=bx hM;have HL:=bx hL;have HF:=bx hf;have yh:=bx kF;obtain⟨ro,rc,rfl⟩:=hR.slice;obtain⟨nv,fv,rfl,hra,hia⟩:=hM;obtain⟨na,nc,rfl⟩:=hra.slice;obtain⟨fo,fc,rfl⟩:=hia.slice;obtain⟨lo,lc,rfl⟩:=hL.slice;obtain⟨w2,hw2⟩:∃ w2,w2=w.alloc (.cells #[.slice na M.1.length nc, .slice fo M.2.length fc] 29):=⟨_,rfl⟩
 have HW2:=bx hw2;have hb2:Below w.heap.size w w2:=by rw [hw2];exact aO _ _
 have HB2:=bx hb2;have dB:=bx (show aj w2 w.heap.size 29 #[.slice na M.1.length nc, .slice fo M.2.length fc] by rw [hw2];exact aj.new w _ _);have HIS:=bx (Q8 _ R _ M n w2 (hR.below hb2) hf oI (HM.o.below hb2) kF);have c0:w2.cell? ⟨w.heap.size,0,none⟩=some (.slice na M.1.length nc):=(dB.o.cell 0).trans rfl;have c1:w2.cell? ⟨w.heap.size,1,none⟩=some (.slice fo M.2.length fc):=(dB.o.cell 1).trans rfl;have l0:=dB.o.lt;clear hra hia hR hL hw2 hb2 hf kF
 rcases Bool.eq_false_or_eq_true (jd R M n) with hy | hy
 rotate_left
 ·have HA:=bx hy;rw [hy] at HIS;clear hy
  go_enter Tryz.func102,Tryz.ntmps102
  go_upto_region 1 with(fail)
  rw [<- HW2.o];go_wp2_with fail;refine HIS.o.mono ?_;rintro e w3 ⟨rfl,hb3⟩;have HB3:=bx (ku HB2.o hb3);clear hb3;go_wp2_with fail;go_ret2
  exact⟨HB3.o, .inr ⟨HA.o,rfl⟩⟩
 obtain⟨hrb,hmr,hai⟩:=QT hy;obtain⟨n1,n2,MJ,-⟩:=ED hrb;obtain⟨nn,rfl⟩:=Int.eq_ofNat_of_zero_le (show 0<=n by omega);have uw:=bx hmr;have UN:=bx (show goCode nn M=0 by unfold goCode;rw [hmr];rfl);have dP:=bx (Dn hmr);have HA:=bx hy;rw [hy] at HIS;clear hy hrb hmr hai
 go_enter Tryz.func102,Tryz.ntmps102
 go_upto_region 1 with(fail)
 rw [<- HW2.o];go_wp2_with fail;refine HIS.o.mono ?_;rintro e w3 ⟨rfl,hb3⟩;have HB3:=bx (ku HB2.o hb3);have hba:=dB.o.below hb3 dB.o.lt;have d0:w3.cell? ⟨w.heap.size,0,none⟩=some (.slice na M.1.length nc):=(hba.cell 0).trans rfl;have d1:w3.cell? ⟨w.heap.size,1,none⟩=some (.slice fo M.2.length fc):=(hba.cell 1).trans rfl;have m0:=hba.lt;have vN:=bx (RZ _ (.slice lo L.length lc) M nn L w3 (HM.o.below HB3.o) yh.o (HL.o.below HB3.o) (by omega));clear hb3 hba c0 c1 l0;go_wp2_with fail;refine vN.o.mono ?_;rintro e w4 ⟨hb4,xv,rfl,hfi⟩;rw [UN.o];rw [uw.o,if_pos rfl,Int.toNat_natCast] at hfi;obtain⟨X,hX⟩:∃ X,wM nn M L=X:=⟨_,rfl⟩
 have hfl:X.length=L.length+1:=by rw [<- hX];unfold wM fC;simp
 have zT:=bx (show ∀ i,i<=L.length->∃ f:Nat,X[i]?=some (f:Int)/\f<1099511627776/\(mG M (stM nn M L i)).toNat=f from λi hi=>by
  have hb:0<=mG M (stM nn M L i)/\mG M (stM nn M L i)<1099511627776:=by
   unfold mG
   cases hq:M.2[stM nn M L i]? with
   | none=>rw [List.getD_eq_getElem?_getD,hq];simp
   | some y=>rw [List.getD_eq_getElem?_getD,hq];exact dP.o y (List.mem_of_getElem? hq)
  obtain⟨f,hf⟩:=Int.eq_ofNat_of_zero_le hb.1;refine⟨f,?_,by omega,by rw [hf,Int.toNat_natCast]⟩;rw [<- hX,<- hf];unfold wM fC;rw [List.getElem?_map,List.getElem?_map,List.getElem?_range (by omega)]
  rfl)
 rw [hX] at hfi;have Il:=hfi;obtain⟨xo,xc,rfl⟩:=Il.slice;rw [hfl] at hfi ⊢;have qQ:=bx hfi;have gq:=bx hfl;have HB4:=bx (ku HB3.o hb4);have aQ:=bx ((Sep.start w4).iW w4.heap.size 1 3);have oD:=bx (λW (h:Below w4.heap.size w4 W)=>(HR.o.below HB4.o).below h);have zJ:=bx (HL.o.below HB4.o);clear hb4 hfi Il hfl hX d0 d1 m0;go_wp2_with fail
 go_loopw [13,12] (λi o wr=>∃ (q:Nat) (oo:Option Addr) (oc:Nat),q<=L.length/\i = .int .i64 q/\o = .slice oo q oc/\Box (Sep [Pc.row w4.heap.size 3 1 (.slice oo q oc) q ((D.cuts nn (L.take q)).map (Value.int .i64)),Pc.old w4.heap.size w4] wr)) (λi _ _=>L.length-(intOf i).toNat)
 case atStart=>exact⟨0,none,0,Nat.zero_le _,rfl,rfl,aQ⟩
 case round =>
  obtain⟨q,oo,oc,hq,rfl,rfl,hsi⟩:=hrel;have jl:=bx (hsi.o.bel (n:=w4.heap.size) (W0:=w4) (by simp));clear aQ
  by_cases hlt:q<L.length
  ·obtain⟨c,hc⟩:∃ c,L[q]?=some c:=⟨_,List.getElem?_eq_getElem hlt⟩
   obtain⟨g,off,cap2,hg1,hg2,hg3,hg4,hg5⟩:=(zJ.o.below jl.o).get (by rintro rfl;simp at hlt);obtain⟨rfl,rfl⟩:lo=some ⟨g,off,none⟩/\lc=cap2:=by injection hg1 with h1 h2 h3;exact⟨h1,h3⟩
   have hcx:=hg5 q c hc;have VJ:=bx (SA (n:=nn) hc);have hbi:=jl.o.size;unfold maxLen at hg3;clear hg1 hg5 hc;have fin:∀ x:Int,x=D.cut nn c->∀ v' w',Sep ([Pc.row w4.heap.size 3 1 (.slice oo q oc) q ((D.cuts nn (L.take q)).map (Value.int .i64)),Pc.old w4.heap.size w4].set 0 (Pc.row w4.heap.size 3 1 v' (q+1) ((D.cuts nn (L.take q)).map (Value.int .i64)++[.int .i64 x]))) w' ->
     Sep [Pc.row w4.heap.size 3 1 v' (q+1) ((D.cuts nn (L.take (q+1))).map (Value.int .i64)),Pc.old w4.heap.size w4] w':=λx hx v' w' h=>by
    rw [VJ.o,List.map_append,List.map_singleton,<- hx];exact h
   have FIN:=bx fin;clear fin
   rcases Int.lt_or_le c 0 with h0 | h0
   ·have HX:=bx (show (-1:Int)=D.cut nn c by unfold D.cut;rw [if_pos (.inl h0)]);go_wp2_with (at_builtin;refine ji rfl _ _ 22 rfl iT hsi.o 0 rfl rfl rfl rfl (by omega) (by omega) hbi ?_;rintro v' w6 hS6 ⟨go',gc',rfl,-,-⟩)
    have aW:=bx (FIN.o _ HX.o _ _ hS6);clear hS6
    go_roundw
    case rel=>exact⟨q+1,_,_,hlt,by go_num,rfl,aW⟩
    case measure=>simp [intOf];omega
   rcases Int.lt_or_le c nn with h1 | h1
   ·have HX:=bx (show c=D.cut nn c by unfold D.cut;rw [if_neg (by omega)]);go_wp2_with (at_builtin;refine ji rfl _ _ 22 rfl iT hsi.o 0 rfl rfl rfl rfl (by omega) (by omega) hbi ?_;rintro v' w6 hS6 ⟨go',gc',rfl,-,-⟩)
    have aW:=bx (FIN.o _ HX.o _ _ hS6);clear hS6
    go_roundw
    case rel=>exact⟨q+1,_,_,hlt,by go_num,rfl,aW⟩
    case measure=>simp [intOf];omega
   ·have HX:=bx (show (-1:Int)=D.cut nn c by unfold D.cut;rw [if_pos (.inr h1)]);go_wp2_with (at_builtin;refine ji rfl _ _ 22 rfl iT hsi.o 0 rfl rfl rfl rfl (by omega) (by omega) hbi ?_;rintro v' w6 hS6 ⟨go',gc',rfl,-,-⟩)
    have aW:=bx (FIN.o _ HX.o _ _ hS6);clear hS6
    go_roundw
    case rel=>exact⟨q+1,_,_,hlt,by go_num,rfl,aW⟩
    case measure=>simp [intOf];omega
  obtain rfl:q=L.length:=by omega
  have Hr:=bx (show aB wr (.slice oo L.length oc) (D.cuts nn L) by
   have:=aB.gK (hsi.o.row 0 rfl) (by unfold D.cuts;rw [List.length_map,List.length_take];omega);rw [List.take_length] at this;exact this)
  obtain⟨V4,yO⟩:∃ V4,V4=wr:=⟨_,rfl⟩
  rw [<- yO] at jl Hr ⊢;obtain⟨V5,tN⟩:∃ V5,V5=V4.alloc (.cells #[.int .i64 0] 3):=⟨_,rfl⟩
  have k5:Below V4.heap.size V4 V5:=by rw [tN];exact aO _ _
  have bU:=bx (show Sep [Pc.row V4.heap.size 3 1 (.slice (some ⟨V4.heap.size,0,none⟩) 1 1) 1 ((gZ R M nn L (1-1)).map (Value.int .i64)),Pc.old V4.heap.size V4] V5 from(Sep.start V4).got k5 ⟨rfl, .inr ⟨V4.heap.size,1,#[.int .i64 0],rfl,Nat.le_refl _,by rw [tN];exact aj.new _ _ _,Nat.le_refl _,by unfold maxLen;omega,rfl,rfl⟩⟩ (Nat.le_refl _));have HV5:=bx tN;have yJ:=bx (λW (h:Below V4.heap.size V4 W)=>oD.o W (ku jl.o h));have tX:=bx (λW (h:Below V4.heap.size V4 W)=>(qQ.o.below jl.o).below h);have bI:=bx (ku HB4.o jl.o);clear hsi yO tN k5 hlt hq;go_wp2_with fail;rw [<- HV5.o]
  go_loopw [16,15] (λi o wr=>∃ (p N:Nat) (oo:Option Addr) (oc:Nat),1<=p/\p<=L.length+1/\i = .int .i64 p/\o = .slice oo N oc/\N<=p/\Box (Sep [Pc.row V4.heap.size 3 1 (.slice oo N oc) N ((gZ R M nn L (p-1)).map (Value.int .i64)),Pc.old V4.heap.size V4] wr)) (λi _ _=>L.length+1-(intOf i).toNat)
  case atStart=>exact⟨1,1,_,_,Nat.le_refl _,by omega,rfl,rfl,Nat.le_refl _,bU⟩
  case round =>
   obtain⟨p,N,ao,ac,hp1,hp,rfl,rfl,hN,hsp⟩:=hrel;have aP:=bx (hsp.o.bel (n:=V4.heap.size) (W0:=V4) (by simp));obtain⟨W6,JL⟩:∃ W6,W6=wr:=⟨_,rfl⟩
   rw [<- JL] at hsp aP ⊢;clear JL;clear bU
   by_cases hlt:p<L.length+1
   rotate_left
   ·obtain rfl:p=L.length+1:=by omega
    have HO:=bx (show aB W6 (.slice ao N ac) (pz R M nn L) by
     have h:=hsp.o.row 0 rfl;rw [show L.length+1-1=L.length by omega,Ub] at h;exact aB.gK h (by have:=h.1;rw [List.length_map] at this;omega))
    have oK:=bx (ku bI.o aP.o);go_wp2_with fail;go_ret2
    exact⟨oK.o, .inl ⟨HA.o,_,rfl,HO.o⟩⟩
   obtain⟨f,hf,hfl,hfe⟩:=zT.o p (by omega);have yP:=bx (show cutAt R M nn L p=G.zB R (D.cuts nn L) f (p:Int) by unfold cutAt;rw [hfe]);obtain⟨g,off,cap2,hg1,hg2,hg3,hg4,hg5⟩:=(tX.o _ aP.o).get (by intro e;have:=gq.o;rw [e] at this;simp at this);rw [gq.o] at hg1 hg2;obtain⟨rfl,rfl⟩:xo=some ⟨g,off,none⟩/\xc=cap2:=by injection hg1 with h1 h2 h3;exact⟨h1,h3⟩
   have ay:=bx (show ∀ W,Below W6.heap.size W6 W->W.cell? ⟨g,off+p,none⟩=some (.int .i64 (f:Int)) from λW h=>(h.cell (p:=⟨g,off+p,none⟩) hg4).trans (hg5 p _ hf));have WJ:=bx hfe;have oG:=bx hp1;obtain⟨D5,hm0⟩:∃ b,((p:Int)==(L.length:Int))=b:=⟨_,rfl⟩
   have yI:=bx (show D5=true↔p=L.length by rw [<- hm0,beq_iff_eq];omega);unfold maxLen at hg3;clear hg1 hg4 hg5 hf hfe;have J8:=bx hlt;go_wp2_with fail;clear hlt;generalize decide (p<=L.length)=z57;clear hm0;have pJ:=bx (show ∀ W,Below W6.heap.size W6 W->Sep [Pc.row V4.heap.size 3 1 (.slice ao N ac) N ((gZ R M nn L (p-1)).map (Value.int .i64)),Pc.old V4.heap.size V4] W from λW h=>hsp.o.below h);clear hsp
   go_loopw [19,17,18] (λi c m wi=>∃ (q:Nat) (cb mb:Bool),q<=R.length/\i = .int .i64 q/\c = .bool cb/\m = .bool mb/\Box ((mb=true/\cb=jT R M nn L p)\/(mb=false/\cb=true/\p≠L.length/\∀ j,j<q->G.hit R (D.cuts nn L) f (p:Int) j=false))/\Box (Below W6.heap.size W6 wi)) (λi _ _ _=>R.length-(intOf i).toNat)
   case atStart =>
    refine⟨0,true,D5,Nat.zero_le _,rfl,rfl,rfl,⟨?_⟩,⟨Below.refl _ _⟩⟩
    cases hm:D5 with
    | true=>exact .inl ⟨rfl,by unfold jT;rw [decide_eq_true (yI.o.1 hm)];rfl⟩
    | false=>exact .inr ⟨rfl,rfl,λe=>(by have:=yI.o.2 e;rw [hm] at this;cases this),λj hj=>by omega⟩
   case round =>
    obtain⟨q,cb,mb,hq,rfl,rfl,rfl,hst,hbi⟩:=hrel;have adN:=J8.o
    rcases Bool.eq_false_or_eq_true mb with hmb | hmb
    ·have rP:=bx (show cb=jT R M nn L p by
      rcases hst.o with h | h
      ·exact h.2
      ·rw [hmb] at h;exact absurd h.1.symm Bool.false_ne_true)
     rw [hmb];clear hmb hst
     rcases Nat.lt_or_ge q R.length with hqr | hqr
     ·clear J8;have jA:=bx (pJ.o _ hbi.o);have uz:=bx (jA.o.bel (n:=V4.heap.size) (W0:=V4) (by simp));have hbs:=uz.o.size
      cases cb with
      | true =>
       have iL:=bx (Eu oG.o rP.o);go_wp2_with (at_builtin;refine ji rfl _ _ 22 rfl iT jA.o 0 rfl rfl rfl rfl (by omega) (by omega) hbs ?_;rintro v' w6 hS6 ⟨go',gc',rfl,-,-⟩)
       have aW:=bx (show Sep [Pc.row V4.heap.size 3 1 (.slice (some ⟨go',0,none⟩) (N+1) gc') (N+1) ((gZ R M nn L (p+1-1)).map (Value.int .i64)),Pc.old V4.heap.size V4] w6 by
        rw [iL.o,List.map_append];exact hS6)
       clear hS6;go_wp2_with fail
       go_roundw
       case rel=>exact⟨p+1,N+1,_,_,by omega,by omega,by go_num,rfl,by omega,aW⟩
       case measure=>simp [intOf];omega
      | false =>
       have iL:=bx (show Sep [Pc.row V4.heap.size 3 1 (.slice ao N ac) N ((gZ R M nn L (p+1-1)).map (Value.int .i64)),Pc.old V4.heap.size V4] wr by
        rw [C9 oG.o rP.o];exact jA.o)
       go_wp2_with fail
       go_roundw
       case rel=>exact⟨p+1,N,_,_,by omega,by omega,by go_num,rfl,by omega,iL⟩
       case measure=>simp [intOf];omega
     ·obtain rfl:q=R.length:=by omega
      have jA:=bx (pJ.o _ hbi.o);have uz:=bx (jA.o.bel (n:=V4.heap.size) (W0:=V4) (by simp));have hbs:=uz.o.size
      cases cb with
      | true =>
       have iL:=bx (Eu oG.o rP.o);go_wp2_with (at_builtin;refine ji rfl _ _ 22 rfl iT jA.o 0 rfl rfl rfl rfl (by omega) (by omega) hbs ?_;rintro v' w6 hS6 ⟨go',gc',rfl,-,-⟩)
       have aW:=bx (show Sep [Pc.row V4.heap.size 3 1 (.slice (some ⟨go',0,none⟩) (N+1) gc') (N+1) ((gZ R M nn L (p+1-1)).map (Value.int .i64)),Pc.old V4.heap.size V4] w6 by
        rw [iL.o,List.map_append];exact hS6)
       clear hS6;go_wp2_with fail
       go_roundw
       case rel=>exact⟨p+1,N+1,_,_,by omega,by omega,by go_num,rfl,by omega,aW⟩
       case measure=>simp [intOf];omega
      | false =>
       have iL:=bx (show Sep [Pc.row V4.heap.size 3 1 (.slice ao N ac) N ((gZ R M nn L (p+1-1)).map (Value.int .i64)),Pc.old V4.heap.size V4] wr by
        rw [C9 oG.o rP.o];exact jA.o)
       go_wp2_with fail
       go_roundw
       case rel=>exact⟨p+1,N,_,_,by omega,by omega,by go_num,rfl,by omega,iL⟩
       case measure=>simp [intOf];omega
    rw [hmb];have HST:=bx (show cb=true/\p≠L.length/\∀ j,j<q->G.hit R (D.cuts nn L) f (p:Int) j=false by
     rcases hst.o with h | h
     ·rw [hmb] at h;exact absurd h.1 Bool.false_ne_true
     ·exact h.2)
    clear hmb hst
    by_cases hqr:q<R.length
    rotate_left
    ·obtain rfl:q=R.length:=by omega
     have rP:=bx (show cb=jT R M nn L p by
      obtain⟨h1,h2,h3⟩:=HST.o;unfold jT;rw [h1,yP.o,G.Ut h3];simp)
     clear hqr;have jA:=bx (pJ.o _ hbi.o);have uz:=bx (jA.o.bel (n:=V4.heap.size) (W0:=V4) (by simp));have hbs:=uz.o.size
     cases cb with
     | true =>
      have iL:=bx (Eu oG.o rP.o);go_wp2_with (at_builtin;refine ji rfl _ _ 22 rfl iT jA.o 0 rfl rfl rfl rfl (by omega) (by omega) hbs ?_;rintro v' w6 hS6 ⟨go',gc',rfl,-,-⟩)
      have aW:=bx (show Sep [Pc.row V4.heap.size 3 1 (.slice (some ⟨go',0,none⟩) (N+1) gc') (N+1) ((gZ R M nn L (p+1-1)).map (Value.int .i64)),Pc.old V4.heap.size V4] w6 by
       rw [iL.o,List.map_append];exact hS6)
      clear hS6;go_wp2_with fail
      go_roundw
      case rel=>exact⟨p+1,N+1,_,_,by omega,by omega,by go_num,rfl,by omega,aW⟩
      case measure=>simp [intOf];omega
     | false =>
      have iL:=bx (show Sep [Pc.row V4.heap.size 3 1 (.slice ao N ac) N ((gZ R M nn L (p+1-1)).map (Value.int .i64)),Pc.old V4.heap.size V4] wr by
       rw [C9 oG.o rP.o];exact jA.o)
      go_wp2_with fail
      go_roundw
      case rel=>exact⟨p+1,N,_,_,by omega,by omega,by go_num,rfl,by omega,iL⟩
      case measure=>simp [intOf];omega
    have hcb:=HST.o.1;subst hcb;obtain⟨x,hx⟩:∃ x,R[q]?=some x:=⟨_,List.getElem?_eq_getElem hqr⟩
    have Kr:=bx (ku aP.o hbi.o);obtain⟨rg,roff,sN,k1,k2,k3,k4,k5⟩:=(yJ.o _ Kr.o).get (by rintro rfl;simp at hqr);obtain⟨rfl,rfl⟩:ro=some ⟨rg,roff,none⟩/\rc=sN:=by injection k1 with h1 h2 h3;exact⟨h1,h3⟩
    obtain⟨vl,vr,r0,r1,r2,r3,r4,hil,hir⟩:=k5 q x hx;obtain⟨ar,vX,rfl⟩:=hir.slice;have Sm:=bx (Hr.o.below Kr.o);have Bh:=bx (λ(W:World) (h:Below wr.heap.size wr W)=>QV x.2.1.1 x.2.1.2 (D.cuts nn L) (p:Int)▸RH x.2.1.1 (.slice ar x.2.1.2.length vX) x.2.1.2 (.slice oo L.length oc) (D.cuts nn L) p W (hir.below h) (HF.o x (List.mem_of_getElem? hx)).2 (Sm.o.below h) (by unfold D.cuts;rw [List.length_map];exact hLz));have HX:=bx hx;have hcf:=ay.o _ hbi.o;obtain⟨P,hP⟩:∃ P:Nat,P=2 ^ q:=⟨_,rfl⟩
    have hP0:0<P:=by rw [hP];exact Nat.two_pow_pos q
    have pI:=bx (λW=>JX q W (by omega));rw [<- hP] at pI;obtain⟨e0,e1⟩:=Pj f P;have ht:=Nb f q;rw [<- hP] at ht;have iP:=bx (show G.hit R (D.cuts nn L) f (p:Int) q=false->∀ j,j<q+1->G.hit R (D.cuts nn L) f (p:Int) j=false from λh j hj=>by
     rcases Nat.lt_or_ge j q with h1 | h1
     ·exact HST.o.2.2 j h1
     ·obtain rfl:j=q:=by omega
      exact h)
    have ou:=bx HST.o.2.1;have hgl:g<wr.heap.size:=World.block_lt_of_cell? _ _ hcf;unfold maxLen at k3;clear k1 k5 hx hil hir hP
    rcases Bool.eq_false_or_eq_true (f.testBit q) with hbit | hbit
    rotate_left
    ·have HN:=bx (iP.o (FP HX.o (.inl hbit)));have HDR:=bx (λm=>hbi.o.trans ((jW wr m).mono hbi.o.size));rw [hbit] at ht;clear hbit;go_wp2_with fail
     go_quiet ((go_at_call 155;exact rH (pI.o _)))
     go_wp2_with fail
     go_roundw
     case rel=>exact⟨q+1,true,false,hqr,by go_num,rfl,rfl,⟨.inr ⟨rfl,rfl,ou.o,HN.o⟩⟩,⟨HDR.o _⟩⟩
     case measure=>simp [intOf];omega
    rw [hbit] at ht;obtain⟨Inv,hI1,hI2⟩:∃ Inv:World->Prop,(∀ W,Inv W->Below wr.heap.size wr W)/\(∀ W,Below wr.heap.size wr W->Inv W):=⟨_,λ_ h=>h,λ_ h=>h⟩
    have dQ:=bx (show ∀ q:CW Inv,Below wr.heap.size wr q.w from λq=>hI1 _ q.h);have qZ:=bx (show ∀ (q:CW Inv) w',Below q.w.heap.size q.w w'->Inv w' from λq w' h=>hI2 _ ((dQ.o q).trans (h.mono (dQ.o q).size)));have q0:∀ q:CW Inv,q.w.cell? ⟨g,off+p,none⟩=some (.int .i64 (f:Int)):=λq=>((dQ.o q).cell (p:=⟨g,off+p,none⟩) hgl).trans hcf
    have q1:∀ c:CW Inv,c.w.cell? ⟨rg,roff+q*5+2,none⟩=some (.bool x.2.1.1):=λc=>((dQ.o c).cell (p:=⟨rg,roff+q*5+2,none⟩) k4).trans r2
    have q2:∀ c:CW Inv,c.w.cell? ⟨rg,roff+q*5+3,none⟩=some (.slice ar x.2.1.2.length vX):=λc=>((dQ.o c).cell (p:=⟨rg,roff+q*5+3,none⟩) k4).trans r3
    have K0:=bx (show ∀ c:CW Inv,Calls Tryz.prog 155 #[.int .i64 q] c.w λe w''=>e = .returned (.int .i64 (P:Int))/\∃ m:CW Inv,w''=m.w from λc=>(pI.o c.w).mono λe w'' h=>⟨h.1,c,h.2.symm⟩);have HDR:=bx (hI2 _ (iD wr 1));have R4:=bx (show ∀ W,Below wr.heap.size wr W->W.cell? ⟨rg,roff+q*5+4,none⟩=some (.bool x.2.2) from λW h=>(h.cell (p:=⟨rg,roff+q*5+4,none⟩) k4).trans r4);have K4:=bx k4
    rcases Bool.eq_false_or_eq_true (kC x.2.1.1 x.2.1.2 (D.cuts nn L) (p:Int)) with hah | hah
    ·have jQ:=bx (show x.2.2=jT R M nn L p by
      unfold jT;rw [decide_eq_false ou.o,yP.o,Bool.false_or,G.RQ HX.o (VY HX.o hbit hah) HST.o.2.2])
     have K1:=bx (λc:CW Inv=>CB (Bh.o c.w (dQ.o c)) (show Value.bool (kC x.2.1.1 x.2.1.2 (D.cuts nn L) (p:Int)) = .bool true by rw [hah]) (qZ.o c));clear hbit hah hI1 hI2 hcf r0 r1 r2 r3 r4 k4;go_wp2_with fail;refine uT Inv (by kernel_rfl) (by kernel_rfl) HDR.o (λhne=>?_)
     repeat (any_goals (first | go_big_quiet_step ((first | (go_at_call 155;exact K0.o _) | (go_at_call 156;exact K1.o _))) | quiet_step ((first | (go_at_call 155;exact K0.o _) | (go_at_call 156;exact K1.o _)))))
     refine wpQuiet_nil ?_;rintro w7 ⟨q7,rfl⟩;have bW:=bx (dQ.o q7);clear q0 q1 q2 hne;have r4:=R4.o _ bW.o;have k4:=Nat.lt_of_lt_of_le K4.o bW.o.size;go_wp2_with fail
     go_roundw
     case rel=>exact⟨q+1,_,true,hqr,by go_num,rfl,rfl,⟨.inl ⟨rfl,jQ.o⟩⟩,⟨ku hbi.o bW.o⟩⟩
     case measure=>simp [intOf];omega
    ·have HN:=bx (iP.o (FP HX.o (.inr hah)));have K1:=bx (λc:CW Inv=>CB (Bh.o c.w (dQ.o c)) (show Value.bool (kC x.2.1.1 x.2.1.2 (D.cuts nn L) (p:Int)) = .bool false by rw [hah]) (qZ.o c));clear hbit hah hI1 hI2 hcf r0 r1 r2 r3 r4 k4;go_wp2_with fail;refine uT Inv (by kernel_rfl) (by kernel_rfl) HDR.o (λhne=>?_)
     repeat (any_goals (first | go_big_quiet_step ((first | (go_at_call 155;exact K0.o _) | (go_at_call 156;exact K1.o _))) | quiet_step ((first | (go_at_call 155;exact K0.o _) | (go_at_call 156;exact K1.o _)))))
     refine wpQuiet_nil ?_;rintro w7 ⟨q7,rfl⟩;have bW:=bx (dQ.o q7);clear q0 q1 q2 hne;go_wp2_with fail
     go_roundw
     case rel=>exact⟨q+1,true,false,hqr,by go_num,rfl,rfl,⟨.inr ⟨rfl,rfl,ou.o,HN.o⟩⟩,⟨ku hbi.o bW.o⟩⟩
     case measure=>simp [intOf];omega
end
section
open Go.RowKit
attribute [local go_sem] Oper.semAt_some
theorem La (v:Value) (t:Tab) (w:World) (hv:TabAt w v t) (hs:dZ t) :
  Calls Tryz.prog 59 #[v] w λe w'=>e = .returned (.bool (jy t))/\Below w.heap.size w w':=by
 obtain⟨pi,pb,rv,nv,fv,rfl,h1,h2,h3,h4,h5⟩:=hv;obtain⟨V,hV⟩:∃ V,V=w.alloc (.cells #[.int .i64 t.n,pi,pb,rv,nv,fv] 31):=⟨_,rfl⟩
 have HB0:=bx (show Below w.heap.size w V by rw [hV];exact aO _ _);have HK:=bx (show aj V w.heap.size 31 #[.int .i64 t.n,pi,pb,rv,nv,fv] by rw [hV];exact aj.new _ _ _);have bD:=bx (λW (h:Below w.heap.size w W)=>show TabAt W (.agg #[.int .i64 t.n,pi,pb,rv,nv,fv]) t from⟨pi,pb,rv,nv,fv,rfl,h1.below h,h2.below h,h3.below h,h4.below h,h5.below h⟩);have ay:=bx (λW (h:Below V.heap.size V W)=>HK.o.c6 h);have HV:=bx hV;have lH:=bx (JJ rv t.r (.agg #[nv,fv]) t.m t.n (.slice none 0 0) [] V (h3.below HB0.o) hs.r1 hs.r2 ⟨nv,fv,rfl,h4.below HB0.o,h5.below HB0.o⟩ hs.m .nil (by simp));have fV:=bx (λW (h:Below w.heap.size w W)=>J7 (.agg #[pi,pb]) t.p W ⟨pi,pb,rfl,h1.below h,h2.below h⟩ hs.p1 hs.p2);have aX:=bx (show jy t=(jd t.r t.m t.n&&F.iw t.p) from rfl);obtain⟨n,hn⟩:∃ n,n=t.n:=⟨_,rfl⟩
 rw [<- hn] at HV HK bD ay lH aX ⊢;generalize jy t=res at aX ⊢;clear h1 h2 h3 h4 h5 hV hs hn;obtain⟨k0,k1,k2,k3,k4,k5,kk⟩:=ay.o V (Below.refl _ _)
 go_enter Tryz.func59,Tryz.ntmps59
 go_upto_region 1 with(fail)
 rw [<- HV.o];go_wp2_with fail;refine lH.o.mono ?_;rintro e w1 ⟨hb1,⟨ha,v1,rfl,-⟩ | ⟨ha,rfl⟩⟩
 ·have HB1:=bx (bt HB0.o hb1);have fV:=bx (fV.o w1 HB1.o);rw [ha,Bool.true_and] at aX;clear k0 k1 k2 k3 k4 k5 kk;obtain⟨k0,k1,k2,k3,k4,k5,kk⟩:=ay.o w1 hb1;clear hb1 ha;go_wp2_with fail;refine fV.o.mono ?_;rintro e w2 ⟨rfl,hb2⟩;have HB2:=bx (bt HB1.o hb2);clear hb2;go_wp2_with fail;go_ret
  exact⟨aI aX.o.symm,HB2.o⟩
 ·have HB1:=bx (bt HB0.o hb1);rw [ha,Bool.false_and] at aX;clear hb1 ha k0 k1 k2 k3 k4 k5 kk;go_wp2_with fail;go_ret
  exact⟨aI aX.o.symm,HB1.o⟩
end
end Go.Proofs.YtdenoeakcflnmaaGreatDoor
