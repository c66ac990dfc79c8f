/- Texts of this claim. -/
import Derived.Test.YtlmdjifffmofeaaGreatDoorH21
import Derived.Test.YtlmdjifffmofeaaGreatDoorHXTitleWords1

set_option maxRecDepth 100000
set_option maxHeartbeats 16000000
namespace Go.Proofs.YtlmdjifffmofeaaGreatDoor
section
open Go.RowKit
attribute [local go_sem] Oper.semAt_some
def fJ (n:Nat) (W0:World) (ov:Value) (l:List Int):List Pc:=[Pc.row n 3 1 ov l.length (l.map (Value.int .i64)),Pc.old n W0]
theorem kF {n:Nat} {W0 w:World} {ov:Value} {l:List Int} (h:Sep (fJ n W0 ov l) w):Below n W0 w:=Sep.bel (ps:=fJ n W0 ov l) h (by simp [fJ])
theorem wW {n:Nat} {W0 w:World} {ov:Value} {l:List Int} (h:Sep (fJ n W0 ov l) w):ay w ov l/\∀ g,ov.ownBlock=some g->n<=g/\g<w.heap.size :=
 ⟨ay.dL (h.row 0 rfl) rfl,(h.row 0 rfl).lt⟩
theorem pY {n:Nat} {W0 w:World} {ov:Value} {l m r:List Int} {k:Nat} (h:Sep ((fJ n W0 ov l).set 0 (Pc.row n 3 1 ov k (l.map (Value.int .i64)++m.map (Value.int .i64)))) w) (hk:k=l.length+m.length) (hr:r=l++m):Sep (fJ n W0 ov r) w:=by
 subst hr hk;rw [<- List.map_append,<- List.length_append] at h;exact h
theorem Xi (v aT:Value) (c:T.Cs) (xs:List Int) (a b:Nat) (w:World) (hv:bC w v c) (hs:T.Small c) (hc:T.cu 600 c=true) (hl:ay w aT xs) (hx:∀ x∈xs,U.right x=true) (hz:xs.length<=100000) (hab:a<=b) (hb:b<=xs.length) :
  Calls Tryz.prog 43 #[v,aT, .int .i64 (a:Int), .int .i64 (b:Int)] w λe w'=>(∃ v',e = .returned v'/\ay w' v' (T.word c xs a b)/\∀ g,v'.ownBlock=some g->w.heap.size<=g/\g<w'.heap.size)/\Below w.heap.size w w':=by
 obtain⟨lv,tv,ci,cb,gi,gb,rfl,h1,h2,h3,h4,h5,h6⟩:=hv;obtain⟨V,hV⟩:∃ V,V=w.alloc (.cells #[lv,tv,ci,cb,gi,gb] 28):=⟨_,rfl⟩
 have HB0:=bx (show Below w.heap.size w V by rw [hV];exact aS _ _);have HK:=bx (show ak V w.heap.size 28 #[lv,tv,ci,cb,gi,gb] by rw [hV];exact ak.new _ _ _);have bU:=bx (λW (h:Below w.heap.size w W)=>show bC W (.agg #[lv,tv,ci,cb,gi,gb]) c from⟨lv,tv,ci,cb,gi,gb,rfl,h1.below h,h2.below h,h3.below h,h4.below h,h5.below h,h6.below h⟩);have aB:=bx (λW (h:Below V.heap.size V W)=>HK.o.c6 h);have HV:=bx hV;have wZ:=bx (λk (hk:a+k<=xs.length)=>(T.QC hc hx a k hk).1);have bD:=bx (λW (h:Below w.heap.size w W) (i:Nat) (hi:i<xs.length)=>Gn _ aT c xs i W (bU.o W h) hs hc (hl.below h) hx hz hi);have gu:=bx (λ(i:Nat) (hi:i<xs.length)=>(T.A8 hc hx hi).1);have dJ:=bx (λW (h:Below w.heap.size w W)=>λ(x:Int)=>E8 tv c.ti x W (h2.below h) hs.ti hs.tiA);have D7:=bx (λ(x:Int) (hxr:U.right x=true)=>(T.GX (T.IX hc).2 hxr).1);have hcq:=hc;rw [wE] at hcq;simp only [Bool.and_eq_true] at hcq;have dB:=bx (λ(x:Int) (hxr:U.right x=true) W (h:Below w.heap.size w W)=>show Calls Tryz.prog 76 #[.agg #[ci,cb], .int .i64 x] W λe w'=>e = .returned (.bool (T.cased c x))/\Below W.heap.size W w' by
  obtain⟨rn,rfl,hrz⟩:=yw hxr;exact zJ (.agg #[ci,cb]) c.ca rn W ⟨_,_,rfl,h3.below h,h4.below h⟩ hcq.1.2 hrz)
 have HL:=bx (λW (h:Below w.heap.size w W)=>hl.below h);have jX:=bx hx;obtain⟨la,lc,rfl⟩:=hl.slice;obtain⟨N,hN⟩:∃ N,xs.length=N:=⟨_,rfl⟩
 rw [hN] at HL bD wZ gu hz hb ⊢;have HN:=bx hN;obtain⟨L,hL⟩:∃ L,b=a+L:=⟨b-a,by omega⟩
 have oV:=bx (show T.kR c xs a L=T.word c xs a b by rw [<- T.KA,hL,Nat.add_sub_cancel_left]);have jf:=bx hL;have hLb:L<=100000:=by omega
 have aU:=bx (show Sep (fJ V.heap.size V (.slice none 0 0) (T.kR c xs a 0)) V from(Sep.start V).fP V.heap.size 1 3);have kN:=bx HB0.o.size;clear h1 h2 h3 h4 h5 h6 hs hc hcq hV hl hx hN hab hL;obtain⟨k0,k1,k2,k3,k4,k5,kk⟩:=aB.o V (Below.refl _ _)
 go_enter Tryz.func43,Tryz.ntmps43
 go_upto_region 1 with(fail)
 rw [<- HV.o];clear k0 k1 k2 k3 k4 k5 kk;go_wp2_with fail
 go_loopw [9,10,11] (λov mt i wr=>∃ k:Nat,k<=L/\i = .int .i64 ((a:Int)+k)/\mt = .bool (T.lV c xs a k)/\Box (Sep (fJ V.heap.size V ov (T.kR c xs a k)) wr)) (λ_ _ i _=>b-(intOf i).toNat)
 case atStart=>exact⟨0,by omega,by go_num,rfl,aU⟩
 case round =>
  obtain⟨k,hk,rfl,rfl,hsep⟩:=hrel;have bG:=bx (kF hsep.o);have aJ:=bx (bt HB0.o bG.o);obtain⟨mt,hmt⟩:∃ mt,mt=T.lV c xs a k:=⟨_,rfl⟩
  rw [<- hmt];have BX:=bx hmt;clear hmt;obtain⟨acc,hacc⟩:∃ acc,acc=T.kR c xs a k:=⟨_,rfl⟩
  rw [<- hacc] at hsep;have yV:=bx hacc;have hal:acc.length<=3*k:=by rw [hacc];exact wZ.o k (by have:=jf.o;omega)
  obtain⟨AL,pJ⟩:∃ AL,acc.length=AL:=⟨_,rfl⟩
  have Gi:=bx pJ;rw [pJ] at hal;clear hacc pJ;obtain⟨p,hp⟩:∃ p:Nat,p=a+k:=⟨_,rfl⟩
  rw [show (a:Int)+k=(p:Int) by omega];have HP:=bx hp;have hbl:=jf.o
  by_cases hlt:k<L
  ·have xE:p<N:=by omega
   have hpb:p<b:=by omega
   have hdl:decide ((p:Int)<(b:Int))=true:=decide_eq_true (by omega);clear hbl;obtain⟨x,hx⟩:∃ x,xs[p]?=some x:=⟨_,List.getElem?_eq_getElem (by rw [HN.o];omega)⟩
   obtain⟨g,off,cap2,hg1,hg2,hg3,hg4,hg5⟩:=(HL.o V HB0.o).get (by rintro rfl;simp at hx);rw [HN.o] at hg1 hg2;obtain⟨rfl,rfl⟩:la=some ⟨g,off,none⟩/\lc=cap2:=by injection hg1 with h1 h2 h3;exact⟨h1,h3⟩
   have iT:=bx (λW (h:Below V.heap.size V W)=>show W.cell? ⟨g,off+p,none⟩=some (.int .i64 x) from(h.cell (p:=⟨g,off+p,none⟩) hg4).trans (hg5 p x hx));have fO:=bx (show xs.getD (a+k) 0=x by rw [<- hp,List.getD_eq_getElem?_getD,hx,Option.getD_some]);have qW:=bx (jX.o x (List.mem_of_getElem? hx));have um:=bx (T.Iw c xs a k);have nR:=bx (show T.kR c xs a (k+1)=acc++(if mt=true then T.small c xs p else if T.cased c x=true then T.becomes c.ti x else [x]) by simp only [T.kR];rw [fO.o,<- yV.o,<- BX.o,<- hp]);unfold maxLen at hg3;clear hx hg1 hg5;obtain⟨k0,k1,k2,k3,k4,k5,kk⟩:=aB.o wr bG.o;have kx:=iT.o wr bG.o
   cases mt with
   | true =>
    have fD:=bx (show T.lV c xs a (k+1)=true by rw [um.o,<- BX.o,Bool.true_or]);have HW1:=bx (show T.kR c xs a (k+1)=acc++T.small c xs p by rw [nR.o,if_pos rfl]);have uw:=bx (bD.o wr aJ.o p xE);have hsl:=gu.o p xE;clear kx hp;go_wp2_with fail;refine uw.o.mono ?_;rintro e w1 ⟨⟨v1,rfl,hv1,hf1⟩,hb1⟩;have bQ:=bx (hsep.o.below hb1);have nV:=bx (pG hv1);generalize T.small c xs p=sm at nV HW1 hsl hv1;obtain⟨SL,fB⟩:∃ SL,sm.length=SL:=⟨_,rfl⟩
    rw [fB] at nV hsl;have jl:=bx fB;have hbs:V.heap.size<=w1.heap.size:=by have:=(kF bQ.o).size;omega
    have fM:=bx (show acc.length+SL<=1000000000 by rw [Gi.o];omega);clear hb1 hv1 hf1 k0 k1 k2 k3 k4 k5 kk fB;go_wp2_with (at_builtin;refine lX rfl _ _ 23 rfl lQ (by decide) bQ.o 0 rfl rfl rfl nV.o (by rw [List.length_map,Nat.mul_one,jl.o]) (by intro z hz;obtain⟨q,-,rfl⟩:=List.mem_map.1 hz;rfl) fM.o (by omega) hbs ?_;rintro v7 w7 hS7)
    have gU:=bx (pY hS7 (by rw [jl.o]) HW1.o);clear hS7 hbs;go_wp2_with fail
    go_roundw
    case rel=>exact⟨k+1,by omega,by have h8:=HP.o;go_num,by rw [fD.o],gU⟩
    case measure=>simp [intOf];omega
   | false =>
    obtain⟨Inv,hI1,hI2⟩:∃ Inv:World->Prop,(∀ W,Inv W->Below wr.heap.size wr W)/\(∀ W,Below wr.heap.size wr W->Inv W):=⟨_,λ_ h=>h,λ_ h=>h⟩
    have aZ:=bx (show ∀ q:CW Inv,Below wr.heap.size wr q.w from λq=>hI1 _ q.h);have eH:=bx (show ∀ (q:CW Inv) w',Below q.w.heap.size q.w w'->Inv w' from λq w' h=>hI2 _ ((aZ.o q).trans (h.mono (aZ.o q).size)));have bf:=bx (λq:CW Inv=>bG.o.trans ((aZ.o q).mono bG.o.size));have fQ:=bx (λq:CW Inv=>HB0.o.trans ((bf.o q).mono HB0.o.size));have q2:∀ q:CW Inv,q.w.cell? ⟨w.heap.size,2,none⟩=some ci:=λq=>(aB.o _ (bf.o q)).2.2.1
    have q3:∀ q:CW Inv,q.w.cell? ⟨w.heap.size,3,none⟩=some cb:=λq=>(aB.o _ (bf.o q)).2.2.2.1
    have q6:∀ q:CW Inv,q.w.cell? ⟨g,off+p,none⟩=some (.int .i64 x):=λq=>iT.o _ (bf.o q)
    have HDR:=bx (hI2 _ (eu wr 1));have dB:=bx (dB.o x qW.o);clear kx hp hI1 hI2 k0 k1 k2 k3 k4 k5 kk
    cases hy:T.cased c x with
    | true =>
     rw [hy] at dB;have fD:=bx (show T.lV c xs a (k+1)=true by rw [um.o,<- BX.o,Bool.false_or,fO.o,hy]);have HW1:=bx (show T.kR c xs a (k+1)=acc++T.becomes c.ti x by rw [nR.o,if_neg (by simp),if_pos hy]);clear hy;have K1:=bx (λq:CW Inv=>ji (dB.o q.w (fQ.o q)) rfl (eH.o q));go_wp2_with fail;refine gK Inv (by kernel_rfl) (by kernel_rfl) HDR.o (λhne=>?_)
     repeat (any_goals (first | go_big_quiet_step ((go_at_call 76;exact K1.o _)) | quiet_step ((go_at_call 76;exact K1.o _))))
     refine wpQuiet_nil ?_;rintro w7 ⟨q7,rfl⟩;have aH:=bx (bf.o q7);have oC:=bx (fQ.o q7);have bH:=bx (hsep.o.below (aZ.o q7));generalize q7.w=w7 at aH oC bH ⊢;clear q2 q3 q6 hne;have GI:=bx (show Below w7.heap.size w7 w7.drew from eu w7 1);have aF:=bx (show Below w.heap.size w w7.drew from bt oC.o GI.o);have zx:=bx (show Below V.heap.size V w7.drew from bt aH.o GI.o);have au:=bx (show w7.drew.cell? ⟨w.heap.size,1,none⟩=some tv/\w7.drew.cell? ⟨g,off+p,none⟩=some (.int .i64 x) from⟨(aB.o _ zx.o).2.1,iT.o _ zx.o⟩);have cZ:=bx (bH.o.drewN 1);have cZ:=bx (show Sep (fJ V.heap.size V u9 acc) w7.drew from cZ.o);have jU:=bx (dJ.o w7.drew aF.o x);have LG:=D7.o x qW.o;go_wp2_with fail;refine dO 8 (λW=>W.cell? ⟨w.heap.size,1,none⟩=some tv/\W.cell? ⟨g,off+p,none⟩=some (.int .i64 x)) (by kernel_rfl) ?_;generalize w7.drew=WR at GI aF zx au cZ jU ⊢;refine kS 0 ?_ rfl au.o ?_ ?_;rotate_left
     ·rintro w ⟨q1,q2⟩;go_simp;try with_reducible rfl
     refine kS 1 ?_ rfl au.o ?_ ?_;rotate_left
     ·rintro w ⟨q1,q2⟩;go_simp;try with_reducible rfl
     refine kS 2 ?_ rfl au.o ?_ ?_;rotate_left
     ·rintro w ⟨q1,q2⟩;go_simp;try with_reducible rfl
     refine kS 3 ?_ rfl au.o ?_ ?_;rotate_left
     ·rintro w ⟨q1,q2⟩;go_simp;try with_reducible rfl
     refine kS 4 ?_ rfl au.o ?_ ?_;rotate_left
     ·rintro w ⟨q1,q2⟩;go_simp;try with_reducible rfl
     refine kS 5 ?_ rfl au.o ?_ ?_;rotate_left
     ·rintro w ⟨q1,q2⟩;go_simp;try with_reducible rfl
     refine kS 6 ?_ rfl au.o ?_ ?_;rotate_left
     ·rintro w ⟨q1,q2⟩;go_simp;try with_reducible rfl
     refine kP 7 rfl λKK aj=>?_
     go_simp;refine jU.o.mono ?_;rintro e w5 ⟨⟨v5,rfl,hv5,-⟩,hb5⟩;have aG:=bx (cZ.o.below hb5);have fZ:=bx (pG hv5);generalize T.becomes c.ti x=sm at fZ HW1 LG hv5;obtain⟨SL,fB⟩:∃ SL,sm.length=SL:=⟨_,rfl⟩
     rw [fB] at fZ LG;have jl:=bx fB;have hbs:V.heap.size<=w5.heap.size:=Nat.le_trans zx.o.size hb5.size;have fM:=bx (show acc.length+SL<=1000000000 by rw [Gi.o];omega);have aP:=bx (bt zx.o hb5);have Xu:=bx (show w5.cell? ⟨w.heap.size,1,none⟩=some tv/\w5.cell? ⟨g,off+p,none⟩=some (.int .i64 x) from⟨(aB.o _ aP.o).2.1,iT.o _ aP.o⟩);clear hb5 hv5 fB;refine aj.out _ _ (λ_=>Xu.o) ?_;clear aj KK;refine kP 8 rfl λKK aj=>?_
     refine oW rfl _ _ 23 rfl lQ (by decide) aG.o 0 rfl (by kernel_rfl) (by kernel_rfl) (m:=SL) (cs:=sm.map (Value.int .i64)) fZ.o (by rw [List.length_map,Nat.mul_one,jl.o]) (by intro z hz;obtain⟨q,-,rfl⟩:=List.mem_map.1 hz;rfl) fM.o (by omega) hbs ?_;rintro v6 w6 hS6;refine aj.out _ _ (λh=>by cases h) ?_;clear aj KK;refine kP 9 rfl λKK aj=>?_
     go_simp;refine aj.out _ _ (λh=>by cases h) ?_;clear aj KK;refine kD ?_ _;have jO:=bx (pY hS6 (by rw [jl.o]) HW1.o);clear hS6;go_wp2_with fail
     go_roundw
     case rel=>exact⟨k+1,by omega,by have h8:=HP.o;go_num,by rw [fD.o],jO⟩
     case measure=>have h8:=HP.o;simp [intOf];omega
    | false =>
     rw [hy] at dB;have fD:=bx (show T.lV c xs a (k+1)=false by rw [um.o,<- BX.o,Bool.false_or,fO.o,hy]);have HW1:=bx (show T.kR c xs a (k+1)=acc++[x] by rw [nR.o,if_neg (by simp),if_neg (by rw [hy];simp)]);clear hy;have K1:=bx (λq:CW Inv=>ji (dB.o q.w (fQ.o q)) rfl (eH.o q));go_wp2_with fail;refine gK Inv (by kernel_rfl) (by kernel_rfl) HDR.o (λhne=>?_)
     repeat (any_goals (first | go_big_quiet_step ((go_at_call 76;exact K1.o _)) | quiet_step ((go_at_call 76;exact K1.o _))))
     refine wpQuiet_nil ?_;rintro w7 ⟨q7,rfl⟩;have aH:=bx (bf.o q7);have oC:=bx (fQ.o q7);have bH:=bx (hsep.o.below (aZ.o q7));generalize q7.w=w7 at aH oC bH ⊢;clear q2 q3 q6 hne;have kx:=iT.o w7 aH.o;have fM:=bx (show acc.length<=1000000000 by rw [Gi.o];omega);have hbs:V.heap.size<=w7.heap.size:=aH.o.size;go_wp2_with (at_builtin;refine lI (u:=.int .i64 x) rfl _ _ 23 rfl mQ bH.o 0 rfl rfl rfl rfl fM.o (by omega) hbs ?_;rintro v8 w8 dW -)
     have jO:=bx (pY (m:=[x]) dW (by simp) HW1.o);clear dW hbs;go_wp2_with fail
     go_roundw
     case rel=>exact⟨k+1,by omega,by have h8:=HP.o;go_num,by rw [fD.o],jO⟩
     case measure=>have h8:=HP.o;simp [intOf];omega
  ·obtain rfl:L=k:=by omega
   have hpb:p=b:=by omega
   clear hbl;rw [hpb];clear hpb;rw [yV.o,oV.o] at hsep;obtain⟨hI,hF⟩:=wW hsep.o;have HI:=bx hI;have HF:=bx hF;clear hI hF hp;go_wp2_with fail;go_ret
   exact⟨⟨_,rfl,HI.o,λq hq=>⟨Nat.le_trans kN.o (HF.o q hq).1,(HF.o q hq).2⟩⟩,aJ.o⟩
theorem TS (v aT:Value) (c:T.Cs) (xs:List Int) (a:Int) (w:World) (hv:bC w v c) (hs:T.Small c) (hl:ay w aT xs) (hz:xs.length<=100000) :
  Calls Tryz.prog 15 #[v,aT, .int .i64 a] w λe w'=>e = .returned (.tuple #[.bool (T.jL c xs a), .int .i64 (T.jW c xs a)])/\Below w.heap.size w w':=by
 obtain⟨lv,tv,ci,cb,gi,gb,rfl,h1,h2,h3,h4,h5,h6⟩:=hv;obtain⟨V,hV⟩:∃ V,V=w.alloc (.cells #[lv,tv,ci,cb,gi,gb] 28):=⟨_,rfl⟩
 have HB0:=bx (show Below w.heap.size w V by rw [hV];exact aS _ _);have HK:=bx (show ak V w.heap.size 28 #[lv,tv,ci,cb,gi,gb] by rw [hV];exact ak.new _ _ _);have bU:=bx (λW (h:Below w.heap.size w W)=>show bC W (.agg #[lv,tv,ci,cb,gi,gb]) c from⟨lv,tv,ci,cb,gi,gb,rfl,h1.below h,h2.below h,h3.below h,h4.below h,h5.below h,h6.below h⟩);have aB:=bx (λW (h:Below V.heap.size V W)=>HK.o.c6 h);have HV:=bx hV;have HL:=bx (λW (h:Below w.heap.size w W)=>hl.below h);have mg:=bx (DC _ aT c xs V (bU.o V HB0.o) hs (hl.below HB0.o) hz);have eF:=bx (λ(hc:T.cu 600 c=true) (hx:∀ x∈xs,U.right x=true) W (h:Below w.heap.size w W) (n:Nat) (hn:n<xs.length)=>Gm _ aT c xs n W (bU.o W h) hc (hl.below h) hx hz hn);obtain⟨la,lc,rfl⟩:=hl.slice;obtain⟨N,hN⟩:∃ N,xs.length=N:=⟨_,rfl⟩
 rw [hN] at eF HL hz ⊢;have aN:=bx (show T.jW c xs a=if T.wrong c xs≠0 then T.wrong c xs else if 0<=a/\a<N then 0 else 12 by unfold T.jW;rw [hN]);have HN:=bx hN;rw [hN] at mg;clear h1 h2 h3 h4 h5 h6 hs hV hl;clear hN;obtain⟨k0,k1,k2,k3,k4,k5,kk⟩:=aB.o V (Below.refl _ _)
 go_enter Tryz.func15,Tryz.ntmps15
 go_upto_region 1 with(fail)
 rw [<- HV.o];go_wp2_with fail;refine mg.o.mono ?_;rintro e w1 ⟨rfl,hb1⟩;have HB1:=bx (bt HB0.o hb1);have dU:=bx hb1;clear k0 k1 k2 k3 k4 k5 kk;obtain⟨k0,k1,k2,k3,k4,k5,kk⟩:=aB.o w1 hb1;clear hb1
 by_cases hw:T.wrong c xs=0
 ·obtain⟨jy,oO,jq⟩:=T.pI hw;rw [hw] at aN;have xM:=bx (show T.jW c xs a=if 0<=a/\a<N then 0 else 12 by rw [aN.o,if_neg (by simp)]);rw [hw];have HX:=bx jq;have iG:=bx jy;clear hw jy oO jq
  by_cases h0:a<0
  ·have d0:decide (a<0)=true:=decide_eq_true h0;have HE:=bx (show T.jW c xs a=12 by rw [xM.o,if_neg (by omega)]);clear h0;go_wp2_with fail;go_ret2
   exact⟨gY (yU (by unfold T.jL;rw [HE.o];rfl)) (fF HE.o.symm),HB1.o⟩
  ·have d0:decide (a<0)=false:=decide_eq_false h0
   by_cases h1:a<N
   ·have d1:decide ((N:Int)<=a)=false:=decide_eq_false (by omega);have HE:=bx (show T.jW c xs a=0 by rw [xM.o,if_pos (by omega)]);have fG:=bx (show T.jL c xs a=T.final c xs a.toNat by unfold T.jL;rw [HE.o];simp);have hfi:=eF.o iG.o HX.o w1 HB1.o a.toNat (by omega)
    rw [Int.toNat_of_nonneg (by omega)] at hfi;have eF:=bx hfi;clear h0 h1 hfi;go_wp2_with fail;refine eF.o.mono ?_;rintro e w2 ⟨rfl,hb2⟩;have HB2:=bx (bt HB1.o hb2);clear hb2 k0 k1 k2 k3 k4 k5 kk;go_wp2_with fail;go_ret2
    exact⟨gY (yU fG.o.symm) (fF HE.o.symm),HB2.o⟩
   ·have d1:decide ((N:Int)<=a)=true:=decide_eq_true (by omega);have HE:=bx (show T.jW c xs a=12 by rw [xM.o,if_neg (by omega)]);clear h0 h1;go_wp2_with fail;go_ret2
    exact⟨gY (yU (by unfold T.jL;rw [HE.o];rfl)) (fF HE.o.symm),HB1.o⟩
 ·have HE:=bx (show T.jW c xs a=T.wrong c xs by rw [aN.o,if_pos hw]);have fG:=bx (show T.jL c xs a=false by unfold T.jL;rw [HE.o,decide_eq_false hw];rfl);generalize T.wrong c xs=r at hw HE ⊢;have e1:(r==0)=false:=by rw [beq_eq_false_iff_ne];exact hw
  have e2:(r != 0)=true:=by rw [bne_iff_ne];exact hw
  clear hw;go_wp2_with fail;go_ret2
  exact⟨gY (yU fG.o.symm) (fF HE.o.symm),HB1.o⟩
theorem ahg (v aT:Value) (c:T.Cs) (xs:List Int) (a b:Int) (w:World) (hv:bC w v c) (hs:T.Small c) (hl:ay w aT xs) (hz:xs.length<=100000) :
  Calls Tryz.prog 20 #[v,aT, .int .i64 a, .int .i64 b] w λe w'=>(∃ v',e = .returned (.tuple #[v', .int .i64 (T.kK c xs a b)])/\ay w' v' (T.lM c xs a b))/\Below w.heap.size w w':=by
 obtain⟨lv,tv,ci,cb,gi,gb,rfl,h1,h2,h3,h4,h5,h6⟩:=hv;obtain⟨V,hV⟩:∃ V,V=w.alloc (.cells #[lv,tv,ci,cb,gi,gb] 28):=⟨_,rfl⟩
 have HB0:=bx (show Below w.heap.size w V by rw [hV];exact aS _ _);have HK:=bx (show ak V w.heap.size 28 #[lv,tv,ci,cb,gi,gb] by rw [hV];exact ak.new _ _ _);have bU:=bx (λW (h:Below w.heap.size w W)=>show bC W (.agg #[lv,tv,ci,cb,gi,gb]) c from⟨lv,tv,ci,cb,gi,gb,rfl,h1.below h,h2.below h,h3.below h,h4.below h,h5.below h,h6.below h⟩);have aB:=bx (λW (h:Below V.heap.size V W)=>HK.o.c6 h);have HV:=bx hV;have HL:=bx (λW (h:Below w.heap.size w W)=>hl.below h);have mg:=bx (DC _ aT c xs V (bU.o V HB0.o) hs (hl.below HB0.o) hz);have eF:=bx (λ(hc:T.cu 600 c=true) (hx:∀ x∈xs,U.right x=true) W (h:Below w.heap.size w W) (m n:Nat) (hm:m<=n) (hn:n<=xs.length)=>Xi _ aT c xs m n W (bU.o W h) hs hc (hl.below h) hx hz hm hn);obtain⟨la,lc,rfl⟩:=hl.slice;obtain⟨N,hN⟩:∃ N,xs.length=N:=⟨_,rfl⟩
 rw [hN] at eF HL hz ⊢;have aN:=bx (show T.kK c xs a b=if T.wrong c xs≠0 then T.wrong c xs else if 0<=a/\a<=b/\b<=N then 0 else 12 by unfold T.kK;rw [hN]);have HN:=bx hN;rw [hN] at mg;clear h1 h2 h3 h4 h5 h6 hs hV hl;clear hN;obtain⟨k0,k1,k2,k3,k4,k5,kk⟩:=aB.o V (Below.refl _ _)
 go_enter Tryz.func20,Tryz.ntmps20
 go_upto_region 1 with(fail)
 rw [<- HV.o];go_wp2_with fail;refine mg.o.mono ?_;rintro e w1 ⟨rfl,hb1⟩;have HB1:=bx (bt HB0.o hb1);have dU:=bx hb1;clear k0 k1 k2 k3 k4 k5 kk;obtain⟨k0,k1,k2,k3,k4,k5,kk⟩:=aB.o w1 hb1;clear hb1
 by_cases hw:T.wrong c xs=0
 ·obtain⟨jy,oO,jq⟩:=T.pI hw;rw [hw] at aN;have xM:=bx (show T.kK c xs a b=if 0<=a/\a<=b/\b<=N then 0 else 12 by rw [aN.o,if_neg (by simp)]);rw [hw];have HX:=bx jq;have iG:=bx jy;clear hw jy oO jq
  by_cases h0:a<0
  ·have d0:decide (a<0)=true:=decide_eq_true h0;have HE:=bx (show T.kK c xs a b=12 by rw [xM.o,if_neg (by omega)]);clear h0;go_wp2_with fail;go_ret2
   exact⟨⟨_,gY rfl (fF HE.o.symm),by unfold T.lM;rw [HE.o,if_neg (by decide)];exact .nil⟩,HB1.o⟩
  ·have d0:decide (a<0)=false:=decide_eq_false h0
   by_cases h1:b<a
   ·have d1:decide (b<a)=true:=decide_eq_true h1;have HE:=bx (show T.kK c xs a b=12 by rw [xM.o,if_neg (by omega)]);clear h0 h1;go_wp2_with fail;go_ret2
    exact⟨⟨_,gY rfl (fF HE.o.symm),by unfold T.lM;rw [HE.o,if_neg (by decide)];exact .nil⟩,HB1.o⟩
   ·have d1:decide (b<a)=false:=decide_eq_false h1
    by_cases h2:(N:Int)<b
    ·have d2:decide ((N:Int)<b)=true:=decide_eq_true h2;have HE:=bx (show T.kK c xs a b=12 by rw [xM.o,if_neg (by omega)]);clear h0 h1 h2;go_wp2_with fail;go_ret2
     exact⟨⟨_,gY rfl (fF HE.o.symm),by unfold T.lM;rw [HE.o,if_neg (by decide)];exact .nil⟩,HB1.o⟩
    ·have d2:decide ((N:Int)<b)=false:=decide_eq_false h2;have HE:=bx (show T.kK c xs a b=0 by rw [xM.o,if_pos (by omega)]);have fG:=bx (show T.lM c xs a b=T.word c xs a.toNat b.toNat by unfold T.lM;rw [HE.o,if_pos rfl]);have hfi:=eF.o iG.o HX.o w1 HB1.o a.toNat b.toNat (by omega) (by omega)
     rw [Int.toNat_of_nonneg (by omega),Int.toNat_of_nonneg (by omega)] at hfi;have eF:=bx hfi;clear h0 h1 h2 hfi;go_wp2_with fail;refine eF.o.mono ?_;rintro e w2 ⟨⟨v2,rfl,hv2,-⟩,hb2⟩;have HB2:=bx (bt HB1.o hb2);have eY:=bx hv2;clear hb2 hv2 k0 k1 k2 k3 k4 k5 kk;go_wp2_with fail;go_ret2
     exact⟨⟨_,gY rfl (fF HE.o.symm),by rw [fG.o];exact eY.o⟩,HB2.o⟩
 ·have HE:=bx (show T.kK c xs a b=T.wrong c xs by rw [aN.o,if_pos hw]);have fG:=bx (show T.lM c xs a b=[] by unfold T.lM;rw [HE.o,if_neg hw]);generalize T.wrong c xs=r at hw HE ⊢;have e1:(r==0)=false:=by rw [beq_eq_false_iff_ne];exact hw
  have e2:(r != 0)=true:=by rw [bne_iff_ne];exact hw
  clear hw;go_wp2_with fail;go_ret2
  exact⟨⟨_,gY rfl (fF HE.o.symm),by rw [fG.o];exact .nil⟩,HB1.o⟩
theorem JX (v aT:Value) (c:T.Cs) (xs:List Int) (w:World) (hv:bC w v c) (hs:T.Small c) (hl:ay w aT xs) (hz:xs.length<=100000) :
  Calls Tryz.prog 17 #[v,aT] w λe w'=>(∃ v',e = .returned (.tuple #[v', .int .i64 (T.wrong c xs)])/\ay w' v' (T.gy c xs))/\Below w.heap.size w w':=by
 obtain⟨lv,tv,ci,cb,gi,gb,rfl,h1,h2,h3,h4,h5,h6⟩:=hv;obtain⟨V,hV⟩:∃ V,V=w.alloc (.cells #[lv,tv,ci,cb,gi,gb] 28):=⟨_,rfl⟩
 have HB0:=bx (show Below w.heap.size w V by rw [hV];exact aS _ _);have HK:=bx (show ak V w.heap.size 28 #[lv,tv,ci,cb,gi,gb] by rw [hV];exact ak.new _ _ _);have bU:=bx (λW (h:Below w.heap.size w W)=>show bC W (.agg #[lv,tv,ci,cb,gi,gb]) c from⟨lv,tv,ci,cb,gi,gb,rfl,h1.below h,h2.below h,h3.below h,h4.below h,h5.below h,h6.below h⟩);have aB:=bx (λW (h:Below V.heap.size V W)=>HK.o.c6 h);have HV:=bx hV;have HL:=bx (λW (h:Below w.heap.size w W)=>hl.below h);have mg:=bx (DC _ aT c xs V (bU.o V HB0.o) hs (hl.below HB0.o) hz);have bD:=bx (λ(hc:T.cu 600 c=true) (hx:∀ x∈xs,U.right x=true) W (h:Below w.heap.size w W) (n:Nat) (hn:n<xs.length)=>Gn _ aT c xs n W (bU.o W h) hs hc (hl.below h) hx hz hn);have gu:=bx (λ(hc:T.cu 600 c=true) (hx:∀ x∈xs,U.right x=true) (i:Nat) (hi:i<xs.length)=>(T.A8 hc hx hi).1);obtain⟨la,lc,rfl⟩:=hl.slice;obtain⟨N,hN⟩:∃ N,xs.length=N:=⟨_,rfl⟩
 rw [hN] at bD gu HL hz ⊢;have HN:=bx hN;rw [hN] at mg;clear h1 h2 h3 h4 h5 h6 hs hV hl;clear hN;obtain⟨k0,k1,k2,k3,k4,k5,kk⟩:=aB.o V (Below.refl _ _)
 go_enter Tryz.func17,Tryz.ntmps17
 go_upto_region 1 with(fail)
 rw [<- HV.o];go_wp2_with fail;refine mg.o.mono ?_;rintro e w1 ⟨rfl,hb1⟩;have HB1:=bx (bt HB0.o hb1);have dU:=bx hb1;clear k0 k1 k2 k3 k4 k5 kk;obtain⟨k0,k1,k2,k3,k4,k5,kk⟩:=aB.o w1 hb1;clear hb1
 by_cases hw:T.wrong c xs=0
 ·obtain⟨jy,oO,jq⟩:=T.pI hw;have sG:=bx (show T.gy c xs=T.lower c xs by unfold T.gy;rw [if_pos hw]);have yD:=bx hw;rw [hw];have bD:=bx (bD.o jy jq);have gu:=bx (gu.o jy jq);have aU:=bx (show Sep (fJ w1.heap.size w1 (.slice none 0 0) ((List.range 0).flatMap (T.small c xs))) w1 from(Sep.start w1).fP w1.heap.size 1 3);clear hw jy oO jq k0 k1 k2 k3 k4 k5 kk;go_wp2_with fail
  go_loopw [7,8] (λov i wr=>∃ k:Nat,k<=N/\i = .int .i64 k/\Box (((List.range k).flatMap (T.small c xs)).length<=3*k)/\Box (Sep (fJ w1.heap.size w1 ov ((List.range k).flatMap (T.small c xs))) wr)) (λ_ i _=>N-(intOf i).toNat)
  case atStart=>exact⟨0,by omega,rfl,⟨by simp⟩,aU⟩
  case round =>
   obtain⟨k,hk,rfl,hal,hsep⟩:=hrel;have bG:=bx (kF hsep.o);have DR:=bx (bt dU.o bG.o);have aJ:=bx (bt HB0.o DR.o)
   by_cases hlt:k<N
   ·obtain⟨acc,hacc⟩:∃ acc,acc=(List.range k).flatMap (T.small c xs):=⟨_,rfl⟩
    rw [<- hacc] at hsep hal;have HW1:=bx (show (List.range (k+1)).flatMap (T.small c xs)=acc++T.small c xs k by rw [T.Jh,hacc]);have uw:=bx (bD.o wr aJ.o k hlt);have hsl:=gu.o k hlt;clear hacc;obtain⟨k0,k1,k2,k3,k4,k5,kk⟩:=aB.o wr DR.o;go_wp2_with fail;refine uw.o.mono ?_;rintro e w2 ⟨⟨v2,rfl,hv2,-⟩,hb2⟩;have HS2:=bx (hsep.o.below hb2);have HC2:=bx (pG hv2);generalize T.small c xs k=sm at HC2 HW1 hsl hv2;obtain⟨SL,fB⟩:∃ SL,sm.length=SL:=⟨_,rfl⟩
    rw [fB] at HC2 hsl;have jl:=bx fB;have hbs:w1.heap.size<=w2.heap.size:=by have:=(kF HS2.o).size;omega
    have fM:=bx (show acc.length+SL<=1000000000 by have:=hal.o;omega);have jr:=bx (show (acc++sm).length<=3*(k+1) by rw [List.length_append,fB];have:=hal.o;omega);clear hb2 hv2 k0 k1 k2 k3 k4 k5 kk fB;go_wp2_with (at_builtin;refine lX rfl _ _ 23 rfl lQ (by decide) HS2.o 0 rfl rfl rfl HC2.o (by rw [List.length_map,Nat.mul_one,jl.o]) (by intro z hz;obtain⟨q,-,rfl⟩:=List.mem_map.1 hz;rfl) fM.o (by omega) hbs ?_;rintro v7 w7 hS7)
    have gU:=bx (pY hS7 (by rw [jl.o]) HW1.o);rw [<- HW1.o] at jr;clear hS7 hbs;go_wp2_with fail
    go_roundw
    case rel=>exact⟨k+1,by omega,by go_num,jr,gU⟩
    case measure=>simp [intOf];omega
   ·obtain rfl:k=N:=by omega
    have oV:=bx (show (List.range k).flatMap (T.small c xs)=T.gy c xs by rw [sG.o];unfold T.lower;rw [HN.o]);rw [oV.o] at hsep;have HI:=bx (wW hsep.o).1;go_wp2_with fail;go_ret2
    exact⟨⟨_,gY rfl (fF yD.o.symm),HI.o⟩,aJ.o⟩
 ·have fG:=bx (show T.gy c xs=[] by unfold T.gy;rw [if_neg hw]);obtain⟨r,hr⟩:∃ r,r=T.wrong c xs:=⟨_,rfl⟩
  have HR:=bx hr;rw [<- hr] at hw ⊢;clear hr;have e2:(r != 0)=true:=by rw [bne_iff_ne];exact hw
  clear hw;go_wp2_with fail;go_ret2
  exact⟨⟨_,gY rfl (fF HR.o),by rw [fG.o];exact .nil⟩,HB1.o⟩
end
section
open Go.RowKit Go.Shelf
attribute [local go_sem] Oper.semAt_some
theorem DW {P:Program} {f:FuncId} {args:Array Value} {w:World} {p:Prop} [Decidable p] (h:Calls P f args w λe w'=>e = .returned (.bool (decide p))/\Below w.heap.size w w') (hp:p):Calls P f args w λe w'=>e = .returned (.bool true)/\Below w.heap.size w w' :=
 h.mono λ_ _ ⟨h1,h2⟩=>⟨by rw [h1,decide_eq_true hp],h2⟩
def lu (l:List Int):List Int:=l.take 60
theorem ED (v:Value) (l:List Int) (w:World) (hv:ay w v l) :
  Calls Tryz.prog 13 #[v] w λe w'=>(∃ v',e = .returned v'/\ay w v' (lu l))/\w=w':=by
 obtain⟨ao,cap,rfl⟩:=hv.slice;obtain⟨hc1,hc2⟩:=vO hv;have HT:=bx (vT hv 60);clear hv;unfold lu
 rcases Nat.lt_or_ge 60 l.length with h | h
 ·go_enter Tryz.func13,Tryz.ntmps13
  go_wp2_with fail;go_ret
  refine⟨⟨_,rfl,?_⟩,rfl⟩;have:=HT.o;rw [show (l.take 60).length=60 by rw [List.length_take];omega] at this;show ay w (.slice ao (min (l.length:Int) 60).toNat cap) _
  rw [show (min (l.length:Int) 60).toNat=60 by omega];exact this
 ·go_enter Tryz.func13,Tryz.ntmps13
  go_wp2_with fail;go_ret
  refine⟨⟨_,rfl,?_⟩,rfl⟩;have:=HT.o;rw [List.take_of_length_le h] at this ⊢;show ay w (.slice ao (min (l.length:Int) 60).toNat cap) _
  rw [show (min (l.length:Int) 60).toNat=l.length by omega];exact this
end
section
open Go.RowKit
attribute [local go_sem] Oper.semAt_some
theorem Jp (c:T.Cs) (xs:List Int):(T.gy c xs).length<=3*xs.length:=by
 unfold T.gy
 split
 ·rename_i h
  exact(T.Fa (T.pI h).1 (T.pI h).2.2).1
 ·simp
theorem EM (c:T.Cs) (xs:List Int) (a b:Int):(T.lM c xs a b).length<=3*xs.length:=by
 unfold T.lM
 split
 ·rename_i h
  unfold T.kK at h
  split at h
  ·rename_i h1;exact absurd h h1
  ·rename_i h1
   split at h
   ·have h2:=(T.NM (T.pI (by simpa using h1)).1 (T.pI (by simpa using h1)).2.2 a.toNat b.toNat (by omega)).1;omega
   ·cases h
 ·simp
theorem ZU (A:Nat->Addr) (B:Nat) (v vl:Value) (c:T.Cs) (l:List Int) (a:Int) (w:World) (hv:bC w v c) (hl:ay w vl l) (hS:Sw A B w) :
  Calls Tryz.prog 3 #[v,vl, .int .i64 a] w λe w'=>e = .returned (.bool true)/\Below w.heap.size w w':=by
 have HS:=bx hS;have iF:=bx hv;obtain⟨lv,tv,ci,cb,gi,gb,rfl,h1,h2,h3,h4,h5,h6⟩:=hv;obtain⟨a1,c1,rfl,-⟩:=h1.slice;obtain⟨a2,c2,rfl,-⟩:=h2.slice;obtain⟨a3,c3,rfl⟩:=h3.slice;obtain⟨a4,c4,rfl⟩:=h4.slice;obtain⟨a5,c5,rfl⟩:=h5.slice;obtain⟨a6,c6,rfl⟩:=h6.slice;clear h1 h2 h3 h4 h5 h6;generalize c.lo.length=n1,c.ti.length=n2,c.ca.1.length=n3,c.ca.2.length=n4,c.ig.1.length=n5,c.ig.2.length=n6 at iF ⊢;have kM:=bx hl;obtain⟨la,lc,rfl⟩:=hl.slice;clear hl;obtain⟨V,hV⟩:∃ V,V=w.alloc (.cells #[.slice a1 n1 c1, .slice a2 n2 c2, .slice a3 n3 c3, .slice a4 n4 c4, .slice a5 n5 c5, .slice a6 n6 c6] 28):=⟨_,rfl⟩
 have HB0:=bx (show Below w.heap.size w V by rw [hV];exact aS _ _);have jv:=bx (show Sep [Pc.blk w.heap.size 28 #[.slice a1 n1 c1, .slice a2 n2 c2, .slice a3 n3 c3, .slice a4 n4 c4, .slice a5 n5 c5, .slice a6 n6 c6],Pc.old w.heap.size w] V by rw [hV];exact(Sep.start w).dh _ _);have bK:=bx (show V.heap.size=w.heap.size+1 by rw [hV];simp);have HV:=bx hV;clear hS hV
 go_enter Tryz.func3,Tryz.ntmps3
 go_wp2_with fail;rw [<- HV.o];refine(zG A B V (HS.o.below HB0.o)).mono ?_;rintro e w1 ⟨rfl,hb1⟩;have HB1:=bx (bT HB0.o hb1);have iE:=bx (jv.o.below hb1);have bQ:=bx (show w.heap.size<w1.heap.size by have:=bK.o;have:=hb1.size;omega);clear hb1 HV;have hk:=iE.o.blk 0 rfl;have e0:=(hk.cell 0).trans (show _=some (Value.slice a1 n1 c1) from rfl);have e1:=(hk.cell 1).trans (show _=some (Value.slice a2 n2 c2) from rfl);have e2:=(hk.cell 2).trans (show _=some (Value.slice a3 n3 c3) from rfl);have e3:=(hk.cell 3).trans (show _=some (Value.slice a4 n4 c4) from rfl);have e4:=(hk.cell 4).trans (show _=some (Value.slice a5 n5 c5) from rfl);have e5:=(hk.cell 5).trans (show _=some (Value.slice a6 n6 c6) from rfl);have el:=hk.lt;clear hk;have bW:=bx (Au _ c w w1 iF.o HB1.o);go_wp2_with fail;refine bW.o.mono ?_;rintro e w2 ⟨hb2,v',rfl,bV⟩;clear e0 e1 e2 e3 e4 e5 el;have HB2:=bx (bT HB1.o hb2);have gq:=bx (iE.o.below hb2);obtain⟨lv,tv,ci,cb,gi,gb,rfl,h1,h2,h3,h4,h5,h6⟩:=bV w2 (Turns.refl _ _) HB2.o;obtain⟨b1,d1,rfl,-⟩:=h1.slice;obtain⟨b2,d2,rfl,-⟩:=h2.slice;obtain⟨b3,d3,rfl⟩:=h3.slice;obtain⟨b4,d4,rfl⟩:=h4.slice;obtain⟨b5,d5,rfl⟩:=h5.slice;obtain⟨b6,d6,rfl⟩:=h6.slice;clear h1 h2 h3 h4 h5 h6 hb2;have bD:=bx (zM c);generalize xI c=C at bV bD ⊢;generalize C.lo.length=m1,C.ti.length=m2,C.ca.1.length=m3,C.ca.2.length=m4,C.ig.1.length=m5,C.ig.2.length=m6 at bV ⊢;have kE:=bx bV;clear bV bW;have hk:=gq.o.blk 0 rfl;have e0:=(hk.cell 0).trans (show _=some (Value.slice a1 n1 c1) from rfl);have f0:=hk.frozen 0;have e1:=(hk.cell 1).trans (show _=some (Value.slice a2 n2 c2) from rfl);have f1:=hk.frozen 1;have e2:=(hk.cell 2).trans (show _=some (Value.slice a3 n3 c3) from rfl);have f2:=hk.frozen 2;have e3:=(hk.cell 3).trans (show _=some (Value.slice a4 n4 c4) from rfl);have f3:=hk.frozen 3;have e4:=(hk.cell 4).trans (show _=some (Value.slice a5 n5 c5) from rfl);have f4:=hk.frozen 4;have e5:=(hk.cell 5).trans (show _=some (Value.slice a6 n6 c6) from rfl);have f5:=hk.frozen 5;have el:=hk.lt;clear hk;have aO:=bx (show Sep [Pc.blk w.heap.size 28 #[.slice b1 m1 d1, .slice b2 m2 d2, .slice b3 m3 d3, .slice b4 m4 d4, .slice b5 m5 d5, .slice b6 m6 d6],Pc.old w.heap.size w] ((((((w2.setCell ⟨w.heap.size,0,none⟩ (.slice b1 m1 d1)).setCell ⟨w.heap.size,1,none⟩ (.slice b2 m2 d2)).setCell ⟨w.heap.size,2,none⟩ (.slice b3 m3 d3)).setCell ⟨w.heap.size,3,none⟩ (.slice b4 m4 d4)).setCell ⟨w.heap.size,4,none⟩ (.slice b5 m5 d5)).setCell ⟨w.heap.size,5,none⟩ (.slice b6 m6 d6)) from((((((gq.o.set 0 rfl 0 (.slice b1 m1 d1)).set 0 rfl 1 (.slice b2 m2 d2)).set 0 rfl 2 (.slice b3 m3 d3)).set 0 rfl 3 (.slice b4 m4 d4)).set 0 rfl 4 (.slice b5 m5 d5)).set 0 rfl 5 (.slice b6 m6 d6)));have HT3:=bx (show Turns (λq=>q=w.heap.size) w2 ((((((w2.setCell ⟨w.heap.size,0,none⟩ (.slice b1 m1 d1)).setCell ⟨w.heap.size,1,none⟩ (.slice b2 m2 d2)).setCell ⟨w.heap.size,2,none⟩ (.slice b3 m3 d3)).setCell ⟨w.heap.size,3,none⟩ (.slice b4 m4 d4)).setCell ⟨w.heap.size,4,none⟩ (.slice b5 m5 d5)).setCell ⟨w.heap.size,5,none⟩ (.slice b6 m6 d6)) from((((((Turns.setCell (own:=λq=>q=w.heap.size) w2 (p:=⟨w.heap.size,0,none⟩) rfl (.slice b1 m1 d1)).trans (Turns.setCell (own:=λq=>q=w.heap.size) _ (p:=⟨w.heap.size,1,none⟩) rfl (.slice b2 m2 d2))).trans (Turns.setCell (own:=λq=>q=w.heap.size) _ (p:=⟨w.heap.size,2,none⟩) rfl (.slice b3 m3 d3))).trans (Turns.setCell (own:=λq=>q=w.heap.size) _ (p:=⟨w.heap.size,3,none⟩) rfl (.slice b4 m4 d4))).trans (Turns.setCell (own:=λq=>q=w.heap.size) _ (p:=⟨w.heap.size,4,none⟩) rfl (.slice b5 m5 d5))).trans (Turns.setCell (own:=λq=>q=w.heap.size) _ (p:=⟨w.heap.size,5,none⟩) rfl (.slice b6 m6 d6))))
 go_upto_region 3 with(fail)
 generalize ((((((w2.setCell ⟨w.heap.size,0,none⟩ (.slice b1 m1 d1)).setCell ⟨w.heap.size,1,none⟩ (.slice b2 m2 d2)).setCell ⟨w.heap.size,2,none⟩ (.slice b3 m3 d3)).setCell ⟨w.heap.size,3,none⟩ (.slice b4 m4 d4)).setCell ⟨w.heap.size,4,none⟩ (.slice b5 m5 d5)).setCell ⟨w.heap.size,5,none⟩ (.slice b6 m6 d6))=w3 at aO HT3 ⊢;clear e0 f0 e1 f1 e2 f2 e3 f3 e4 f4 e5 f5 el;have HB3:=bx (aO.o.bel (n:=w.heap.size) (W0:=w) (by simp));have fA:=bx (show bC w3 (.agg #[.slice b1 m1 d1, .slice b2 m2 d2, .slice b3 m3 d3, .slice b4 m4 d4, .slice b5 m5 d5, .slice b6 m6 d6]) C from kE.o w3 (HT3.o.mono (λk hk=>by have:=bQ.o;omega)) HB3.o);have aK:=bx (HS.o.below HB3.o);have aB:=bx (λW (h:Below w3.heap.size w3 W)=>show W.cell? ⟨w.heap.size,0,none⟩=some (.slice b1 m1 d1)/\W.cell? ⟨w.heap.size,1,none⟩=some (.slice b2 m2 d2)/\W.cell? ⟨w.heap.size,2,none⟩=some (.slice b3 m3 d3)/\W.cell? ⟨w.heap.size,3,none⟩=some (.slice b4 m4 d4)/\W.cell? ⟨w.heap.size,4,none⟩=some (.slice b5 m5 d5)/\W.cell? ⟨w.heap.size,5,none⟩=some (.slice b6 m6 d6)/\w.heap.size<W.heap.size from⟨(((aO.o.blk 0 rfl).below h (aO.o.blk 0 rfl).lt).cell 0).trans rfl,(((aO.o.blk 0 rfl).below h (aO.o.blk 0 rfl).lt).cell 1).trans rfl,(((aO.o.blk 0 rfl).below h (aO.o.blk 0 rfl).lt).cell 2).trans rfl,(((aO.o.blk 0 rfl).below h (aO.o.blk 0 rfl).lt).cell 3).trans rfl,(((aO.o.blk 0 rfl).below h (aO.o.blk 0 rfl).lt).cell 4).trans rfl,(((aO.o.blk 0 rfl).below h (aO.o.blk 0 rfl).lt).cell 5).trans rfl,((aO.o.blk 0 rfl).below h (aO.o.blk 0 rfl).lt).lt⟩);clear jv iE gq aO HT3 kE HB0 HB1 HB2 bK iF HS;have uS:=bx (ED _ l w3 (kM.o.below HB3.o));go_wp2_with fail;refine uS.o.mono ?_;rintro e w3' ⟨⟨v',rfl,hf⟩,rfl⟩;have iK:=bx (show (lu l).length<=60 by unfold lu;rw [List.length_take];omega);generalize lu l=xs at hf iK;obtain⟨fa,fc,rfl⟩:=hf.slice;have HF:=bx hf;clear hf uS kM;have iP:=bx (DY A B _ _ C xs a w3 fA.o bD.o HF.o (by have:=iK.o;omega) aK.o.e aK.o.le);obtain⟨e0,e1,e2,e3,e4,e5,el⟩:=aB.o w3 (Below.refl _ w3);go_wp2_with fail;refine iP.o.mono ?_;rintro e w4 ⟨rfl,hb4⟩;clear e0 e1 e2 e3 e4 e5 el;have HB4:=bx (bT (Below.refl _ w3) hb4);have HD4:=bx hb4;clear hb4 iP;have kL:=bx (TS _ _ C xs a w4 (fA.o.below HB4.o) bD.o (HF.o.below HB4.o) (by have:=iK.o;omega));obtain⟨e0,e1,e2,e3,e4,e5,el⟩:=aB.o w4 HB4.o;go_wp2_with fail;refine kL.o.mono ?_;rintro e w5 ⟨rfl,hb5⟩;clear e0 e1 e2 e3 e4 e5 el;have aP:=bx (bT HB4.o hb5);have HD5:=bx hb5;clear hb5 kL;have iL:=bx (Ij A B _ _ C xs w5 (fA.o.below aP.o) bD.o (HF.o.below aP.o) (by have:=iK.o;omega) (aK.o.below aP.o).e (aK.o.below aP.o).le);obtain⟨e0,e1,e2,e3,e4,e5,el⟩:=aB.o w5 aP.o;go_wp2_with fail;refine iL.o.mono ?_;rintro e w6 ⟨⟨v6,rfl,hv6⟩,hb6⟩;clear e0 e1 e2 e3 e4 e5 el;have cO:=bx (bT aP.o hb6);have HD6:=bx hb6;clear hb6 iL;have yT:=bx hv6;obtain⟨o6,q6,rfl⟩:=hv6.slice;clear hv6;have su:=bx (JX _ _ C xs w6 (fA.o.below cO.o) bD.o (HF.o.below cO.o) (by have:=iK.o;omega));obtain⟨e0,e1,e2,e3,e4,e5,el⟩:=aB.o w6 cO.o;go_wp2_with fail;refine su.o.mono ?_;rintro e w7 ⟨⟨v7,rfl,hv7⟩,hb7⟩;clear e0 e1 e2 e3 e4 e5 el;have aH:=bx (bT cO.o hb7);have HD7:=bx hb7;clear hb7 su;have oG:=bx hv7;obtain⟨o7,q7,rfl⟩:=hv7.slice;clear hv7;have jw:=bx ((yT.o.below HD7.o));have mV:=bx (DW (Dq _ _ (T.gy C xs) (T.gy C xs) w7 jw.o oG.o (by have:=Jp C xs;have:=iK.o;omega) (by have:=Jp C xs;have:=iK.o;omega)) rfl);generalize T.jL C xs a=fb
 cases fb
 all_goals
  go_wp2_with fail;refine mV.o.mono ?_;rintro e w8 ⟨rfl,hb8⟩;have aY:=bx (bT HB3.o (bT aH.o hb8));clear hb8;go_wp2_with fail;go_ret
  exact⟨rfl,aY.o⟩
theorem ahe (A:Nat->Addr) (B:Nat) (v vl:Value) (c:T.Cs) (l:List Int) (a b:Int) (w:World) (hv:bC w v c) (hl:ay w vl l) (hS:Sw A B w) :
  Calls Tryz.prog 4 #[v,vl, .int .i64 a, .int .i64 b] w λe w'=>e = .returned (.bool true)/\Below w.heap.size w w':=by
 have HS:=bx hS;have iF:=bx hv;obtain⟨lv,tv,ci,cb,gi,gb,rfl,h1,h2,h3,h4,h5,h6⟩:=hv;obtain⟨a1,c1,rfl,-⟩:=h1.slice;obtain⟨a2,c2,rfl,-⟩:=h2.slice;obtain⟨a3,c3,rfl⟩:=h3.slice;obtain⟨a4,c4,rfl⟩:=h4.slice;obtain⟨a5,c5,rfl⟩:=h5.slice;obtain⟨a6,c6,rfl⟩:=h6.slice;clear h1 h2 h3 h4 h5 h6;generalize c.lo.length=n1,c.ti.length=n2,c.ca.1.length=n3,c.ca.2.length=n4,c.ig.1.length=n5,c.ig.2.length=n6 at iF ⊢;have kM:=bx hl;obtain⟨la,lc,rfl⟩:=hl.slice;clear hl;obtain⟨V,hV⟩:∃ V,V=w.alloc (.cells #[.slice a1 n1 c1, .slice a2 n2 c2, .slice a3 n3 c3, .slice a4 n4 c4, .slice a5 n5 c5, .slice a6 n6 c6] 28):=⟨_,rfl⟩
 have HB0:=bx (show Below w.heap.size w V by rw [hV];exact aS _ _);have jv:=bx (show Sep [Pc.blk w.heap.size 28 #[.slice a1 n1 c1, .slice a2 n2 c2, .slice a3 n3 c3, .slice a4 n4 c4, .slice a5 n5 c5, .slice a6 n6 c6],Pc.old w.heap.size w] V by rw [hV];exact(Sep.start w).dh _ _);have bK:=bx (show V.heap.size=w.heap.size+1 by rw [hV];simp);have HV:=bx hV;clear hS hV
 go_enter Tryz.func4,Tryz.ntmps4
 go_wp2_with fail;rw [<- HV.o];refine(zG A B V (HS.o.below HB0.o)).mono ?_;rintro e w1 ⟨rfl,hb1⟩;have HB1:=bx (bT HB0.o hb1);have iE:=bx (jv.o.below hb1);have bQ:=bx (show w.heap.size<w1.heap.size by have:=bK.o;have:=hb1.size;omega);clear hb1 HV;have hk:=iE.o.blk 0 rfl;have e0:=(hk.cell 0).trans (show _=some (Value.slice a1 n1 c1) from rfl);have e1:=(hk.cell 1).trans (show _=some (Value.slice a2 n2 c2) from rfl);have e2:=(hk.cell 2).trans (show _=some (Value.slice a3 n3 c3) from rfl);have e3:=(hk.cell 3).trans (show _=some (Value.slice a4 n4 c4) from rfl);have e4:=(hk.cell 4).trans (show _=some (Value.slice a5 n5 c5) from rfl);have e5:=(hk.cell 5).trans (show _=some (Value.slice a6 n6 c6) from rfl);have el:=hk.lt;clear hk;have bW:=bx (Au _ c w w1 iF.o HB1.o);go_wp2_with fail;refine bW.o.mono ?_;rintro e w2 ⟨hb2,v',rfl,bV⟩;clear e0 e1 e2 e3 e4 e5 el;have HB2:=bx (bT HB1.o hb2);have gq:=bx (iE.o.below hb2);obtain⟨lv,tv,ci,cb,gi,gb,rfl,h1,h2,h3,h4,h5,h6⟩:=bV w2 (Turns.refl _ _) HB2.o;obtain⟨b1,d1,rfl,-⟩:=h1.slice;obtain⟨b2,d2,rfl,-⟩:=h2.slice;obtain⟨b3,d3,rfl⟩:=h3.slice;obtain⟨b4,d4,rfl⟩:=h4.slice;obtain⟨b5,d5,rfl⟩:=h5.slice;obtain⟨b6,d6,rfl⟩:=h6.slice;clear h1 h2 h3 h4 h5 h6 hb2;have bD:=bx (zM c);generalize xI c=C at bV bD ⊢;generalize C.lo.length=m1,C.ti.length=m2,C.ca.1.length=m3,C.ca.2.length=m4,C.ig.1.length=m5,C.ig.2.length=m6 at bV ⊢;have kE:=bx bV;clear bV bW;have hk:=gq.o.blk 0 rfl;have e0:=(hk.cell 0).trans (show _=some (Value.slice a1 n1 c1) from rfl);have f0:=hk.frozen 0;have e1:=(hk.cell 1).trans (show _=some (Value.slice a2 n2 c2) from rfl);have f1:=hk.frozen 1;have e2:=(hk.cell 2).trans (show _=some (Value.slice a3 n3 c3) from rfl);have f2:=hk.frozen 2;have e3:=(hk.cell 3).trans (show _=some (Value.slice a4 n4 c4) from rfl);have f3:=hk.frozen 3;have e4:=(hk.cell 4).trans (show _=some (Value.slice a5 n5 c5) from rfl);have f4:=hk.frozen 4;have e5:=(hk.cell 5).trans (show _=some (Value.slice a6 n6 c6) from rfl);have f5:=hk.frozen 5;have el:=hk.lt;clear hk;have aO:=bx (show Sep [Pc.blk w.heap.size 28 #[.slice b1 m1 d1, .slice b2 m2 d2, .slice b3 m3 d3, .slice b4 m4 d4, .slice b5 m5 d5, .slice b6 m6 d6],Pc.old w.heap.size w] ((((((w2.setCell ⟨w.heap.size,0,none⟩ (.slice b1 m1 d1)).setCell ⟨w.heap.size,1,none⟩ (.slice b2 m2 d2)).setCell ⟨w.heap.size,2,none⟩ (.slice b3 m3 d3)).setCell ⟨w.heap.size,3,none⟩ (.slice b4 m4 d4)).setCell ⟨w.heap.size,4,none⟩ (.slice b5 m5 d5)).setCell ⟨w.heap.size,5,none⟩ (.slice b6 m6 d6)) from((((((gq.o.set 0 rfl 0 (.slice b1 m1 d1)).set 0 rfl 1 (.slice b2 m2 d2)).set 0 rfl 2 (.slice b3 m3 d3)).set 0 rfl 3 (.slice b4 m4 d4)).set 0 rfl 4 (.slice b5 m5 d5)).set 0 rfl 5 (.slice b6 m6 d6)));have HT3:=bx (show Turns (λq=>q=w.heap.size) w2 ((((((w2.setCell ⟨w.heap.size,0,none⟩ (.slice b1 m1 d1)).setCell ⟨w.heap.size,1,none⟩ (.slice b2 m2 d2)).setCell ⟨w.heap.size,2,none⟩ (.slice b3 m3 d3)).setCell ⟨w.heap.size,3,none⟩ (.slice b4 m4 d4)).setCell ⟨w.heap.size,4,none⟩ (.slice b5 m5 d5)).setCell ⟨w.heap.size,5,none⟩ (.slice b6 m6 d6)) from((((((Turns.setCell (own:=λq=>q=w.heap.size) w2 (p:=⟨w.heap.size,0,none⟩) rfl (.slice b1 m1 d1)).trans (Turns.setCell (own:=λq=>q=w.heap.size) _ (p:=⟨w.heap.size,1,none⟩) rfl (.slice b2 m2 d2))).trans (Turns.setCell (own:=λq=>q=w.heap.size) _ (p:=⟨w.heap.size,2,none⟩) rfl (.slice b3 m3 d3))).trans (Turns.setCell (own:=λq=>q=w.heap.size) _ (p:=⟨w.heap.size,3,none⟩) rfl (.slice b4 m4 d4))).trans (Turns.setCell (own:=λq=>q=w.heap.size) _ (p:=⟨w.heap.size,4,none⟩) rfl (.slice b5 m5 d5))).trans (Turns.setCell (own:=λq=>q=w.heap.size) _ (p:=⟨w.heap.size,5,none⟩) rfl (.slice b6 m6 d6))))
 go_upto_region 3 with(fail)
 generalize ((((((w2.setCell ⟨w.heap.size,0,none⟩ (.slice b1 m1 d1)).setCell ⟨w.heap.size,1,none⟩ (.slice b2 m2 d2)).setCell ⟨w.heap.size,2,none⟩ (.slice b3 m3 d3)).setCell ⟨w.heap.size,3,none⟩ (.slice b4 m4 d4)).setCell ⟨w.heap.size,4,none⟩ (.slice b5 m5 d5)).setCell ⟨w.heap.size,5,none⟩ (.slice b6 m6 d6))=w3 at aO HT3 ⊢;clear e0 f0 e1 f1 e2 f2 e3 f3 e4 f4 e5 f5 el;have HB3:=bx (aO.o.bel (n:=w.heap.size) (W0:=w) (by simp));have fA:=bx (show bC w3 (.agg #[.slice b1 m1 d1, .slice b2 m2 d2, .slice b3 m3 d3, .slice b4 m4 d4, .slice b5 m5 d5, .slice b6 m6 d6]) C from kE.o w3 (HT3.o.mono (λk hk=>by have:=bQ.o;omega)) HB3.o);have aK:=bx (HS.o.below HB3.o);have aB:=bx (λW (h:Below w3.heap.size w3 W)=>show W.cell? ⟨w.heap.size,0,none⟩=some (.slice b1 m1 d1)/\W.cell? ⟨w.heap.size,1,none⟩=some (.slice b2 m2 d2)/\W.cell? ⟨w.heap.size,2,none⟩=some (.slice b3 m3 d3)/\W.cell? ⟨w.heap.size,3,none⟩=some (.slice b4 m4 d4)/\W.cell? ⟨w.heap.size,4,none⟩=some (.slice b5 m5 d5)/\W.cell? ⟨w.heap.size,5,none⟩=some (.slice b6 m6 d6)/\w.heap.size<W.heap.size from⟨(((aO.o.blk 0 rfl).below h (aO.o.blk 0 rfl).lt).cell 0).trans rfl,(((aO.o.blk 0 rfl).below h (aO.o.blk 0 rfl).lt).cell 1).trans rfl,(((aO.o.blk 0 rfl).below h (aO.o.blk 0 rfl).lt).cell 2).trans rfl,(((aO.o.blk 0 rfl).below h (aO.o.blk 0 rfl).lt).cell 3).trans rfl,(((aO.o.blk 0 rfl).below h (aO.o.blk 0 rfl).lt).cell 4).trans rfl,(((aO.o.blk 0 rfl).below h (aO.o.blk 0 rfl).lt).cell 5).trans rfl,((aO.o.blk 0 rfl).below h (aO.o.blk 0 rfl).lt).lt⟩);clear jv iE gq aO HT3 kE HB0 HB1 HB2 bK iF HS;have uS:=bx (ED _ l w3 (kM.o.below HB3.o));go_wp2_with fail;refine uS.o.mono ?_;rintro e w3' ⟨⟨v',rfl,hf⟩,rfl⟩;have iK:=bx (show (lu l).length<=60 by unfold lu;rw [List.length_take];omega);generalize lu l=xs at hf iK;obtain⟨fa,fc,rfl⟩:=hf.slice;have HF:=bx hf;clear hf uS kM;have iP:=bx (Gu A B _ _ C xs a b w3 fA.o bD.o HF.o (by have:=iK.o;omega) aK.o.e aK.o.le);obtain⟨e0,e1,e2,e3,e4,e5,el⟩:=aB.o w3 (Below.refl _ w3);go_wp2_with fail;refine iP.o.mono ?_;rintro e w4 ⟨⟨v6,rfl,hv6⟩,hb4⟩;clear e0 e1 e2 e3 e4 e5 el;have HB4:=bx (bT (Below.refl _ w3) hb4);have HD4:=bx hb4;clear hb4 iP;have yT:=bx hv6;obtain⟨o6,q6,rfl⟩:=hv6.slice;clear hv6;have kL:=bx (ahg _ _ C xs a b w4 (fA.o.below HB4.o) bD.o (HF.o.below HB4.o) (by have:=iK.o;omega));obtain⟨e0,e1,e2,e3,e4,e5,el⟩:=aB.o w4 HB4.o;go_wp2_with fail;refine kL.o.mono ?_;rintro e w5 ⟨⟨v7,rfl,hv7⟩,hb5⟩;clear e0 e1 e2 e3 e4 e5 el;have aP:=bx (bT HB4.o hb5);have HD5:=bx hb5;clear hb5 kL;have oG:=bx hv7;obtain⟨o7,q7,rfl⟩:=hv7.slice;clear hv7;have jw:=bx (yT.o.below HD5.o);have mV:=bx (DW (Dq _ _ (T.lM C xs a b) (T.lM C xs a b) w5 jw.o oG.o (by have:=EM C xs a b;have:=iK.o;omega) (by have:=EM C xs a b;have:=iK.o;omega)) rfl);go_wp2_with fail;refine mV.o.mono ?_;rintro e w8 ⟨rfl,hb8⟩;have aY:=bx (bT HB3.o (bT aP.o hb8));clear hb8;go_wp2_with fail;go_ret
 exact⟨rfl,aY.o⟩
end
end Go.Proofs.YtlmdjifffmofeaaGreatDoor
