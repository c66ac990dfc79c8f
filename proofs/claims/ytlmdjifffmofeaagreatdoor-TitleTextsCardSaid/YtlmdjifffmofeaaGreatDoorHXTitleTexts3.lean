/- Texts of this claim. -/
import Derived.Test.YtlmdjifffmofeaaGreatDoorH17
import Derived.Test.YtlmdjifffmofeaaGreatDoorHXTitleTexts2

set_option maxRecDepth 100000
set_option maxHeartbeats 16000000
namespace Go.Proofs.YtlmdjifffmofeaaGreatDoor
section
open Go.RowKit
attribute [local go_sem] Oper.semAt_some
def fJ (n:Nat) (W0:World) (ov:Value) (l:List Int):List Pc:=[Pc.row n 3 1 ov l.length (l.map (Value.int .i64)),Pc.old n W0]
theorem kF {n:Nat} {W0 w:World} {ov:Value} {l:List Int} (h:Sep (fJ n W0 ov l) w):Below n W0 w:=Sep.bel (ps:=fJ n W0 ov l) h (by simp [fJ])
theorem wW {n:Nat} {W0 w:World} {ov:Value} {l:List Int} (h:Sep (fJ n W0 ov l) w):ay w ov l/\∀ g,ov.ownBlock=some g->n<=g/\g<w.heap.size :=
 ⟨ay.dL (h.row 0 rfl) rfl,(h.row 0 rfl).lt⟩
theorem pY {n:Nat} {W0 w:World} {ov:Value} {l m r:List Int} {k:Nat} (h:Sep ((fJ n W0 ov l).set 0 (Pc.row n 3 1 ov k (l.map (Value.int .i64)++m.map (Value.int .i64)))) w) (hk:k=l.length+m.length) (hr:r=l++m):Sep (fJ n W0 ov r) w:=by
 subst hr hk;rw [<- List.map_append,<- List.length_append] at h;exact h
theorem Xi (v aT:Value) (c:T.Cs) (xs:List Int) (a b:Nat) (w:World) (hv:bC w v c) (hs:T.Small c) (hc:T.cu 600 c=true) (hl:ay w aT xs) (hx:∀ x∈xs,U.right x=true) (hz:xs.length<=100000) (hab:a<=b) (hb:b<=xs.length) :
  Calls Tryz.prog 43 #[v,aT, .int .i64 (a:Int), .int .i64 (b:Int)] w λe w'=>(∃ v',e = .returned v'/\ay w' v' (T.word c xs a b)/\∀ g,v'.ownBlock=some g->w.heap.size<=g/\g<w'.heap.size)/\Below w.heap.size w w':=by
 obtain⟨lv,tv,ci,cb,gi,gb,rfl,h1,h2,h3,h4,h5,h6⟩:=hv;obtain⟨V,hV⟩:∃ V,V=w.alloc (.cells #[lv,tv,ci,cb,gi,gb] 28):=⟨_,rfl⟩
 have HB0:=bx (show Below w.heap.size w V by rw [hV];exact aS _ _);have HK:=bx (show ak V w.heap.size 28 #[lv,tv,ci,cb,gi,gb] by rw [hV];exact ak.new _ _ _);have bU:=bx (λW (h:Below w.heap.size w W)=>show bC W (.agg #[lv,tv,ci,cb,gi,gb]) c from⟨lv,tv,ci,cb,gi,gb,rfl,h1.below h,h2.below h,h3.below h,h4.below h,h5.below h,h6.below h⟩);have aB:=bx (λW (h:Below V.heap.size V W)=>HK.o.c6 h);have HV:=bx hV;have wZ:=bx (λk (hk:a+k<=xs.length)=>(T.QC hc hx a k hk).1);have bD:=bx (λW (h:Below w.heap.size w W) (i:Nat) (hi:i<xs.length)=>Gn _ aT c xs i W (bU.o W h) hs hc (hl.below h) hx hz hi);have gu:=bx (λ(i:Nat) (hi:i<xs.length)=>(T.A8 hc hx hi).1);have dJ:=bx (λW (h:Below w.heap.size w W)=>λ(x:Int)=>E8 tv c.ti x W (h2.below h) hs.ti hs.tiA);have D7:=bx (λ(x:Int) (hxr:U.right x=true)=>(T.GX (T.IX hc).2 hxr).1);have hcq:=hc;rw [wE] at hcq;simp only [Bool.and_eq_true] at hcq;have dB:=bx (λ(x:Int) (hxr:U.right x=true) W (h:Below w.heap.size w W)=>show Calls Tryz.prog 76 #[.agg #[ci,cb], .int .i64 x] W λe w'=>e = .returned (.bool (T.cased c x))/\Below W.heap.size W w' by
  obtain⟨rn,rfl,hrz⟩:=yw hxr;exact zJ (.agg #[ci,cb]) c.ca rn W ⟨_,_,rfl,h3.below h,h4.below h⟩ hcq.1.2 hrz)
 have HL:=bx (λW (h:Below w.heap.size w W)=>hl.below h);have jX:=bx hx;obtain⟨la,lc,rfl⟩:=hl.slice;obtain⟨N,hN⟩:∃ N,xs.length=N:=⟨_,rfl⟩
 rw [hN] at HL bD wZ gu hz hb ⊢;have HN:=bx hN;obtain⟨L,hL⟩:∃ L,b=a+L:=⟨b-a,by omega⟩
 have oV:=bx (show T.kR c xs a L=T.word c xs a b by rw [<- T.KA,hL,Nat.add_sub_cancel_left]);have jf:=bx hL;have hLb:L<=100000:=by omega
 have aU:=bx (show Sep (fJ V.heap.size V (.slice none 0 0) (T.kR c xs a 0)) V from(Sep.start V).fP V.heap.size 1 3);have kN:=bx HB0.o.size;clear h1 h2 h3 h4 h5 h6 hs hc hcq hV hl hx hN hab hL;obtain⟨k0,k1,k2,k3,k4,k5,kk⟩:=aB.o V (Below.refl _ _)
 go_enter Tryz.func43,Tryz.ntmps43
 go_upto_region 1 with(fail)
 rw [<- HV.o];clear k0 k1 k2 k3 k4 k5 kk;go_wp2_with fail
 go_loopw [9,10,11] (λov mt i wr=>∃ k:Nat,k<=L/\i = .int .i64 ((a:Int)+k)/\mt = .bool (T.lV c xs a k)/\Box (Sep (fJ V.heap.size V ov (T.kR c xs a k)) wr)) (λ_ _ i _=>b-(intOf i).toNat)
 case atStart=>exact⟨0,by omega,by go_num,rfl,aU⟩
 case round =>
  obtain⟨k,hk,rfl,rfl,hsep⟩:=hrel;have bG:=bx (kF hsep.o);have aJ:=bx (bt HB0.o bG.o);obtain⟨mt,hmt⟩:∃ mt,mt=T.lV c xs a k:=⟨_,rfl⟩
  rw [<- hmt];have BX:=bx hmt;clear hmt;obtain⟨acc,hacc⟩:∃ acc,acc=T.kR c xs a k:=⟨_,rfl⟩
  rw [<- hacc] at hsep;have yV:=bx hacc;have hal:acc.length<=3*k:=by rw [hacc];exact wZ.o k (by have:=jf.o;omega)
  obtain⟨AL,pJ⟩:∃ AL,acc.length=AL:=⟨_,rfl⟩
  have Gi:=bx pJ;rw [pJ] at hal;clear hacc pJ;obtain⟨p,hp⟩:∃ p:Nat,p=a+k:=⟨_,rfl⟩
  rw [show (a:Int)+k=(p:Int) by omega];have HP:=bx hp;have hbl:=jf.o
  by_cases hlt:k<L
  ·have xE:p<N:=by omega
   have hpb:p<b:=by omega
   have hdl:decide ((p:Int)<(b:Int))=true:=decide_eq_true (by omega);clear hbl;obtain⟨x,hx⟩:∃ x,xs[p]?=some x:=⟨_,List.getElem?_eq_getElem (by rw [HN.o];omega)⟩
   obtain⟨g,off,cap2,hg1,hg2,hg3,hg4,hg5⟩:=(HL.o V HB0.o).get (by rintro rfl;simp at hx);rw [HN.o] at hg1 hg2;obtain⟨rfl,rfl⟩:la=some ⟨g,off,none⟩/\lc=cap2:=by injection hg1 with h1 h2 h3;exact⟨h1,h3⟩
   have iT:=bx (λW (h:Below V.heap.size V W)=>show W.cell? ⟨g,off+p,none⟩=some (.int .i64 x) from(h.cell (p:=⟨g,off+p,none⟩) hg4).trans (hg5 p x hx));have fO:=bx (show xs.getD (a+k) 0=x by rw [<- hp,List.getD_eq_getElem?_getD,hx,Option.getD_some]);have qW:=bx (jX.o x (List.mem_of_getElem? hx));have um:=bx (T.Iw c xs a k);have nR:=bx (show T.kR c xs a (k+1)=acc++(if mt=true then T.small c xs p else if T.cased c x=true then T.becomes c.ti x else [x]) by simp only [T.kR];rw [fO.o,<- yV.o,<- BX.o,<- hp]);unfold maxLen at hg3;clear hx hg1 hg5;obtain⟨k0,k1,k2,k3,k4,k5,kk⟩:=aB.o wr bG.o;have kx:=iT.o wr bG.o
   cases mt with
   | true =>
    have fD:=bx (show T.lV c xs a (k+1)=true by rw [um.o,<- BX.o,Bool.true_or]);have HW1:=bx (show T.kR c xs a (k+1)=acc++T.small c xs p by rw [nR.o,if_pos rfl]);have uw:=bx (bD.o wr aJ.o p xE);have hsl:=gu.o p xE;clear kx hp;go_wp2_with fail;refine uw.o.mono ?_;rintro e w1 ⟨⟨v1,rfl,hv1,hf1⟩,hb1⟩;have bQ:=bx (hsep.o.below hb1);have nV:=bx (pG hv1);generalize T.small c xs p=sm at nV HW1 hsl hv1;obtain⟨SL,fB⟩:∃ SL,sm.length=SL:=⟨_,rfl⟩
    rw [fB] at nV hsl;have jl:=bx fB;have hbs:V.heap.size<=w1.heap.size:=by have:=(kF bQ.o).size;omega
    have fM:=bx (show acc.length+SL<=1000000000 by rw [Gi.o];omega);clear hb1 hv1 hf1 k0 k1 k2 k3 k4 k5 kk fB;go_wp2_with (at_builtin;refine lX rfl _ _ 23 rfl lQ (by decide) bQ.o 0 rfl rfl rfl nV.o (by rw [List.length_map,Nat.mul_one,jl.o]) (by intro z hz;obtain⟨q,-,rfl⟩:=List.mem_map.1 hz;rfl) fM.o (by omega) hbs ?_;rintro v7 w7 hS7)
    have gU:=bx (pY hS7 (by rw [jl.o]) HW1.o);clear hS7 hbs;go_wp2_with fail
    go_roundw
    case rel=>exact⟨k+1,by omega,by have h8:=HP.o;go_num,by rw [fD.o],gU⟩
    case measure=>simp [intOf];omega
   | false =>
    obtain⟨Inv,hI1,hI2⟩:∃ Inv:World->Prop,(∀ W,Inv W->Below wr.heap.size wr W)/\(∀ W,Below wr.heap.size wr W->Inv W):=⟨_,λ_ h=>h,λ_ h=>h⟩
    have aZ:=bx (show ∀ q:CW Inv,Below wr.heap.size wr q.w from λq=>hI1 _ q.h);have eH:=bx (show ∀ (q:CW Inv) w',Below q.w.heap.size q.w w'->Inv w' from λq w' h=>hI2 _ ((aZ.o q).trans (h.mono (aZ.o q).size)));have bf:=bx (λq:CW Inv=>bG.o.trans ((aZ.o q).mono bG.o.size));have fQ:=bx (λq:CW Inv=>HB0.o.trans ((bf.o q).mono HB0.o.size));have q2:∀ q:CW Inv,q.w.cell? ⟨w.heap.size,2,none⟩=some ci:=λq=>(aB.o _ (bf.o q)).2.2.1
    have q3:∀ q:CW Inv,q.w.cell? ⟨w.heap.size,3,none⟩=some cb:=λq=>(aB.o _ (bf.o q)).2.2.2.1
    have q6:∀ q:CW Inv,q.w.cell? ⟨g,off+p,none⟩=some (.int .i64 x):=λq=>iT.o _ (bf.o q)
    have HDR:=bx (hI2 _ (eu wr 1));have dB:=bx (dB.o x qW.o);clear kx hp hI1 hI2 k0 k1 k2 k3 k4 k5 kk
    cases hy:T.cased c x with
    | true =>
     rw [hy] at dB;have fD:=bx (show T.lV c xs a (k+1)=true by rw [um.o,<- BX.o,Bool.false_or,fO.o,hy]);have HW1:=bx (show T.kR c xs a (k+1)=acc++T.becomes c.ti x by rw [nR.o,if_neg (by simp),if_pos hy]);clear hy;have K1:=bx (λq:CW Inv=>ji (dB.o q.w (fQ.o q)) rfl (eH.o q));go_wp2_with fail;refine gK Inv (by kernel_rfl) (by kernel_rfl) HDR.o (λhne=>?_)
     repeat (any_goals (first | go_big_quiet_step ((go_at_call 76;exact K1.o _)) | quiet_step ((go_at_call 76;exact K1.o _))))
     refine wpQuiet_nil ?_;rintro w7 ⟨q7,rfl⟩;have aH:=bx (bf.o q7);have oC:=bx (fQ.o q7);have bH:=bx (hsep.o.below (aZ.o q7));generalize q7.w=w7 at aH oC bH ⊢;clear q2 q3 q6 hne;have GI:=bx (show Below w7.heap.size w7 w7.drew from eu w7 1);have aF:=bx (show Below w.heap.size w w7.drew from bt oC.o GI.o);have zx:=bx (show Below V.heap.size V w7.drew from bt aH.o GI.o);have au:=bx (show w7.drew.cell? ⟨w.heap.size,1,none⟩=some tv/\w7.drew.cell? ⟨g,off+p,none⟩=some (.int .i64 x) from⟨(aB.o _ zx.o).2.1,iT.o _ zx.o⟩);have cZ:=bx (bH.o.drewN 1);have cZ:=bx (show Sep (fJ V.heap.size V u9 acc) w7.drew from cZ.o);have jU:=bx (dJ.o w7.drew aF.o x);have LG:=D7.o x qW.o;go_wp2_with fail;refine dO 8 (λW=>W.cell? ⟨w.heap.size,1,none⟩=some tv/\W.cell? ⟨g,off+p,none⟩=some (.int .i64 x)) (by kernel_rfl) ?_;generalize w7.drew=WR at GI aF zx au cZ jU ⊢;refine kS 0 ?_ rfl au.o ?_ ?_;rotate_left
     ·rintro w ⟨q1,q2⟩;go_simp;try with_reducible rfl
     refine kS 1 ?_ rfl au.o ?_ ?_;rotate_left
     ·rintro w ⟨q1,q2⟩;go_simp;try with_reducible rfl
     refine kS 2 ?_ rfl au.o ?_ ?_;rotate_left
     ·rintro w ⟨q1,q2⟩;go_simp;try with_reducible rfl
     refine kS 3 ?_ rfl au.o ?_ ?_;rotate_left
     ·rintro w ⟨q1,q2⟩;go_simp;try with_reducible rfl
     refine kS 4 ?_ rfl au.o ?_ ?_;rotate_left
     ·rintro w ⟨q1,q2⟩;go_simp;try with_reducible rfl
     refine kS 5 ?_ rfl au.o ?_ ?_;rotate_left
     ·rintro w ⟨q1,q2⟩;go_simp;try with_reducible rfl
     refine kS 6 ?_ rfl au.o ?_ ?_;rotate_left
     ·rintro w ⟨q1,q2⟩;go_simp;try with_reducible rfl
     refine kP 7 rfl λKK aj=>?_
     go_simp;refine jU.o.mono ?_;rintro e w5 ⟨⟨v5,rfl,hv5,-⟩,hb5⟩;have aG:=bx (cZ.o.below hb5);have fZ:=bx (pG hv5);generalize T.becomes c.ti x=sm at fZ HW1 LG hv5;obtain⟨SL,fB⟩:∃ SL,sm.length=SL:=⟨_,rfl⟩
     rw [fB] at fZ LG;have jl:=bx fB;have hbs:V.heap.size<=w5.heap.size:=Nat.le_trans zx.o.size hb5.size;have fM:=bx (show acc.length+SL<=1000000000 by rw [Gi.o];omega);have aP:=bx (bt zx.o hb5);have Xu:=bx (show w5.cell? ⟨w.heap.size,1,none⟩=some tv/\w5.cell? ⟨g,off+p,none⟩=some (.int .i64 x) from⟨(aB.o _ aP.o).2.1,iT.o _ aP.o⟩);clear hb5 hv5 fB;refine aj.out _ _ (λ_=>Xu.o) ?_;clear aj KK;refine kP 8 rfl λKK aj=>?_
     refine oW rfl _ _ 23 rfl lQ (by decide) aG.o 0 rfl (by kernel_rfl) (by kernel_rfl) (m:=SL) (cs:=sm.map (Value.int .i64)) fZ.o (by rw [List.length_map,Nat.mul_one,jl.o]) (by intro z hz;obtain⟨q,-,rfl⟩:=List.mem_map.1 hz;rfl) fM.o (by omega) hbs ?_;rintro v6 w6 hS6;refine aj.out _ _ (λh=>by cases h) ?_;clear aj KK;refine kP 9 rfl λKK aj=>?_
     go_simp;refine aj.out _ _ (λh=>by cases h) ?_;clear aj KK;refine kD ?_ _;have jO:=bx (pY hS6 (by rw [jl.o]) HW1.o);clear hS6;go_wp2_with fail
     go_roundw
     case rel=>exact⟨k+1,by omega,by have h8:=HP.o;go_num,by rw [fD.o],jO⟩
     case measure=>have h8:=HP.o;simp [intOf];omega
    | false =>
     rw [hy] at dB;have fD:=bx (show T.lV c xs a (k+1)=false by rw [um.o,<- BX.o,Bool.false_or,fO.o,hy]);have HW1:=bx (show T.kR c xs a (k+1)=acc++[x] by rw [nR.o,if_neg (by simp),if_neg (by rw [hy];simp)]);clear hy;have K1:=bx (λq:CW Inv=>ji (dB.o q.w (fQ.o q)) rfl (eH.o q));go_wp2_with fail;refine gK Inv (by kernel_rfl) (by kernel_rfl) HDR.o (λhne=>?_)
     repeat (any_goals (first | go_big_quiet_step ((go_at_call 76;exact K1.o _)) | quiet_step ((go_at_call 76;exact K1.o _))))
     refine wpQuiet_nil ?_;rintro w7 ⟨q7,rfl⟩;have aH:=bx (bf.o q7);have oC:=bx (fQ.o q7);have bH:=bx (hsep.o.below (aZ.o q7));generalize q7.w=w7 at aH oC bH ⊢;clear q2 q3 q6 hne;have kx:=iT.o w7 aH.o;have fM:=bx (show acc.length<=1000000000 by rw [Gi.o];omega);have hbs:V.heap.size<=w7.heap.size:=aH.o.size;go_wp2_with (at_builtin;refine lI (u:=.int .i64 x) rfl _ _ 23 rfl mQ bH.o 0 rfl rfl rfl rfl fM.o (by omega) hbs ?_;rintro v8 w8 dW -)
     have jO:=bx (pY (m:=[x]) dW (by simp) HW1.o);clear dW hbs;go_wp2_with fail
     go_roundw
     case rel=>exact⟨k+1,by omega,by have h8:=HP.o;go_num,by rw [fD.o],jO⟩
     case measure=>have h8:=HP.o;simp [intOf];omega
  ·obtain rfl:L=k:=by omega
   have hpb:p=b:=by omega
   clear hbl;rw [hpb];clear hpb;rw [yV.o,oV.o] at hsep;obtain⟨hI,hF⟩:=wW hsep.o;have HI:=bx hI;have HF:=bx hF;clear hI hF hp;go_wp2_with fail;go_ret
   exact⟨⟨_,rfl,HI.o,λq hq=>⟨Nat.le_trans kN.o (HF.o q hq).1,(HF.o q hq).2⟩⟩,aJ.o⟩
theorem JX (v aT:Value) (c:T.Cs) (xs:List Int) (w:World) (hv:bC w v c) (hs:T.Small c) (hl:ay w aT xs) (hz:xs.length<=100000) :
  Calls Tryz.prog 17 #[v,aT] w λe w'=>(∃ v',e = .returned (.tuple #[v', .int .i64 (T.wrong c xs)])/\ay w' v' (T.gy c xs))/\Below w.heap.size w w':=by
 obtain⟨lv,tv,ci,cb,gi,gb,rfl,h1,h2,h3,h4,h5,h6⟩:=hv;obtain⟨V,hV⟩:∃ V,V=w.alloc (.cells #[lv,tv,ci,cb,gi,gb] 28):=⟨_,rfl⟩
 have HB0:=bx (show Below w.heap.size w V by rw [hV];exact aS _ _);have HK:=bx (show ak V w.heap.size 28 #[lv,tv,ci,cb,gi,gb] by rw [hV];exact ak.new _ _ _);have bU:=bx (λW (h:Below w.heap.size w W)=>show bC W (.agg #[lv,tv,ci,cb,gi,gb]) c from⟨lv,tv,ci,cb,gi,gb,rfl,h1.below h,h2.below h,h3.below h,h4.below h,h5.below h,h6.below h⟩);have aB:=bx (λW (h:Below V.heap.size V W)=>HK.o.c6 h);have HV:=bx hV;have HL:=bx (λW (h:Below w.heap.size w W)=>hl.below h);have mg:=bx (DC _ aT c xs V (bU.o V HB0.o) hs (hl.below HB0.o) hz);have bD:=bx (λ(hc:T.cu 600 c=true) (hx:∀ x∈xs,U.right x=true) W (h:Below w.heap.size w W) (n:Nat) (hn:n<xs.length)=>Gn _ aT c xs n W (bU.o W h) hs hc (hl.below h) hx hz hn);have gu:=bx (λ(hc:T.cu 600 c=true) (hx:∀ x∈xs,U.right x=true) (i:Nat) (hi:i<xs.length)=>(T.A8 hc hx hi).1);obtain⟨la,lc,rfl⟩:=hl.slice;obtain⟨N,hN⟩:∃ N,xs.length=N:=⟨_,rfl⟩
 rw [hN] at bD gu HL hz ⊢;have HN:=bx hN;rw [hN] at mg;clear h1 h2 h3 h4 h5 h6 hs hV hl;clear hN;obtain⟨k0,k1,k2,k3,k4,k5,kk⟩:=aB.o V (Below.refl _ _)
 go_enter Tryz.func17,Tryz.ntmps17
 go_upto_region 1 with(fail)
 rw [<- HV.o];go_wp2_with fail;refine mg.o.mono ?_;rintro e w1 ⟨rfl,hb1⟩;have HB1:=bx (bt HB0.o hb1);have dU:=bx hb1;clear k0 k1 k2 k3 k4 k5 kk;obtain⟨k0,k1,k2,k3,k4,k5,kk⟩:=aB.o w1 hb1;clear hb1
 by_cases hw:T.wrong c xs=0
 ·obtain⟨jy,oO,jq⟩:=T.pI hw;have sG:=bx (show T.gy c xs=T.lower c xs by unfold T.gy;rw [if_pos hw]);have yD:=bx hw;rw [hw];have bD:=bx (bD.o jy jq);have gu:=bx (gu.o jy jq);have aU:=bx (show Sep (fJ w1.heap.size w1 (.slice none 0 0) ((List.range 0).flatMap (T.small c xs))) w1 from(Sep.start w1).fP w1.heap.size 1 3);clear hw jy oO jq k0 k1 k2 k3 k4 k5 kk;go_wp2_with fail
  go_loopw [7,8] (λov i wr=>∃ k:Nat,k<=N/\i = .int .i64 k/\Box (((List.range k).flatMap (T.small c xs)).length<=3*k)/\Box (Sep (fJ w1.heap.size w1 ov ((List.range k).flatMap (T.small c xs))) wr)) (λ_ i _=>N-(intOf i).toNat)
  case atStart=>exact⟨0,by omega,rfl,⟨by simp⟩,aU⟩
  case round =>
   obtain⟨k,hk,rfl,hal,hsep⟩:=hrel;have bG:=bx (kF hsep.o);have DR:=bx (bt dU.o bG.o);have aJ:=bx (bt HB0.o DR.o)
   by_cases hlt:k<N
   ·obtain⟨acc,hacc⟩:∃ acc,acc=(List.range k).flatMap (T.small c xs):=⟨_,rfl⟩
    rw [<- hacc] at hsep hal;have HW1:=bx (show (List.range (k+1)).flatMap (T.small c xs)=acc++T.small c xs k by rw [T.Jh,hacc]);have uw:=bx (bD.o wr aJ.o k hlt);have hsl:=gu.o k hlt;clear hacc;obtain⟨k0,k1,k2,k3,k4,k5,kk⟩:=aB.o wr DR.o;go_wp2_with fail;refine uw.o.mono ?_;rintro e w2 ⟨⟨v2,rfl,hv2,-⟩,hb2⟩;have HS2:=bx (hsep.o.below hb2);have HC2:=bx (pG hv2);generalize T.small c xs k=sm at HC2 HW1 hsl hv2;obtain⟨SL,fB⟩:∃ SL,sm.length=SL:=⟨_,rfl⟩
    rw [fB] at HC2 hsl;have jl:=bx fB;have hbs:w1.heap.size<=w2.heap.size:=by have:=(kF HS2.o).size;omega
    have fM:=bx (show acc.length+SL<=1000000000 by have:=hal.o;omega);have jr:=bx (show (acc++sm).length<=3*(k+1) by rw [List.length_append,fB];have:=hal.o;omega);clear hb2 hv2 k0 k1 k2 k3 k4 k5 kk fB;go_wp2_with (at_builtin;refine lX rfl _ _ 23 rfl lQ (by decide) HS2.o 0 rfl rfl rfl HC2.o (by rw [List.length_map,Nat.mul_one,jl.o]) (by intro z hz;obtain⟨q,-,rfl⟩:=List.mem_map.1 hz;rfl) fM.o (by omega) hbs ?_;rintro v7 w7 hS7)
    have gU:=bx (pY hS7 (by rw [jl.o]) HW1.o);rw [<- HW1.o] at jr;clear hS7 hbs;go_wp2_with fail
    go_roundw
    case rel=>exact⟨k+1,by omega,by go_num,jr,gU⟩
    case measure=>simp [intOf];omega
   ·obtain rfl:k=N:=by omega
    have oV:=bx (show (List.range k).flatMap (T.small c xs)=T.gy c xs by rw [sG.o];unfold T.lower;rw [HN.o]);rw [oV.o] at hsep;have HI:=bx (wW hsep.o).1;go_wp2_with fail;go_ret2
    exact⟨⟨_,gY rfl (fF yD.o.symm),HI.o⟩,aJ.o⟩
 ·have fG:=bx (show T.gy c xs=[] by unfold T.gy;rw [if_neg hw]);obtain⟨r,hr⟩:∃ r,r=T.wrong c xs:=⟨_,rfl⟩
  have HR:=bx hr;rw [<- hr] at hw ⊢;clear hr;have e2:(r != 0)=true:=by rw [bne_iff_ne];exact hw
  clear hw;go_wp2_with fail;go_ret2
  exact⟨⟨_,gY rfl (fF HR.o),by rw [fG.o];exact .nil⟩,HB1.o⟩
end
section
open Go.RowKit Go.Shelf
attribute [local go_sem] Oper.semAt_some
theorem wI {a b c:World} (h:Below a.heap.size a b) (k:Below b.heap.size b c):Below a.heap.size a c:=bt h k
def ku (M:D.dF):D.dF:=((M.1.take 302).map λr=>r.take 34,M.2.take 302)
theorem J8 (M:D.dF):qZ (ku M):=by
 unfold ku qZ;refine⟨by simp only [List.length_map,List.length_take];omega,by simp only [List.length_take];omega,λr hr=>?_⟩;obtain⟨r0,-,rfl⟩:=List.mem_map.1 hr;rw [List.length_take];omega
def rU (r:List Int):List Int:=r.take 34
end
section
open Go.RowKit
namespace N
def jQ (x:Item) (cs:List Int) (F:List Bool):Nat->Bool×Bool
 | 0=>(false,false)
 | i+1 =>
  let fo:=(jQ x cs F i).1||(F.getD i false&&decide (x.2≠0))
  if kU x.1 (cs.getD i (-1))=true then (if x.2=0 then (F.getD i false,false) else if x.2=1 then (fo,false) else ((jQ x cs F i).2,fo)) else (false,false)
def nP (x:Item) (cs:List Int) (F:List Bool) (i:Nat):Bool:=(jQ x cs F i).1||(F.getD i false&&decide (x.2≠0))
def yA (x:Item) (cs:List Int) (F:List Bool):List Bool:=(List.range (cs.length+1)).map (nP x cs F)
def uD (cs:List Int):List Item->List Bool->List Bool
 | [],F=>F
 | x::t,F=>uD cs t (yA x cs F)
theorem P9 (x:Item) (cs:List Int) (F:List Bool):(yA x cs F).length=cs.length+1:=by unfold yA;simp
theorem agi {x:Item} {cs:List Int} {F:List Bool} {i:Nat} (h:i<=cs.length):(yA x cs F).getD i false=nP x cs F i:=by
 unfold yA;rw [List.getD_eq_getElem?_getD,List.getElem?_map,List.getElem?_range (by omega)]
 rfl
theorem WQ {cs:List Int}:∀ {l:List Item} {F:List Bool},F.length=cs.length+1->(uD cs l F).length=cs.length+1
 | [],_,h=>h
 | x::t,F,_=>by
  show (uD cs t (yA x cs F)).length=_
  exact WQ (P9 x cs F)
theorem ZB (cs:List Int) (y:Item):∀ (l:List Item) (F:List Bool),uD cs (l++[y]) F=yA y cs (uD cs l F)
 | [],_=>rfl
 | _::t,_=>ZB cs y t _
theorem ae1 {l:List Item} {cs:List Int} {k i:Nat} (hi:i<cs.length):JH l cs k i↔kU (l.getD k (0,0)).1 (cs.getD i (-1))=true:=by
 unfold JH;rw [List.getD_eq_getElem?_getD (l:=cs),List.getElem?_eq_getElem hi]
 constructor
 ·rintro⟨c,hc,h⟩;injection hc with hc;rw [hc];exact h
 ·intro h;exact⟨_,rfl,h⟩
theorem ZJ {l:List Item} {cs:List Int} {k:Nat} {F:List Bool} (hh:iM l k=0\/iM l k=1\/iM l k=2) :
  ∀ i,i<=cs.length->((jQ (l.getD k (0,0)) cs F i).1=true↔∃ b,b<i/\F.getD b false=true/\full l cs k b i)/\((jQ (l.getD k (0,0)) cs F i).2=true↔iM l k=2/\∃ b,b<i/\F.getD b false=true/\L9 l cs k b i/\(i-b) % 2=1)
 | 0,_=>by
  refine⟨⟨λh=>by simp [jQ] at h,λ⟨b,h,_⟩=>by omega⟩,⟨λh=>by simp [jQ] at h,λ⟨_,b,h,_⟩=>by omega⟩⟩
 | i+1,hi=>by
  obtain⟨ih1,ih2⟩:=ZJ (cs:=cs) (F:=F) hh i (by omega);have hok:=ae1 (l:=l) (cs:=cs) (k:=k) (show i<cs.length by omega);have hfo:nP (l.getD k (0,0)) cs F i=true↔∃ b,b<=i/\F.getD b false=true/\full l cs k b i:=by
   unfold nP;rw [Bool.or_eq_true,ih1,Bool.and_eq_true,decide_eq_true_eq]
   constructor
   ·rintro(⟨b,h1,h2,h3⟩ | ⟨h1,h2⟩)
    ·exact⟨b,by omega,h2,h3⟩
    ·exact⟨i,Nat.le_refl _,h1,Nat.le_refl _,λj h3 h4=>by omega,λh=>absurd h h2,λ_=>by simp⟩
   ·rintro⟨b,h1,h2,h3⟩
    rcases Nat.eq_or_lt_of_le h1 with e | e
    ·subst e;refine .inr ⟨h2,λh0=>?_⟩;have:=h3.2.2.1 h0;omega
    ·exact .inl ⟨b,e,h2,h3⟩
  have hon:∀ b,b<=i->(L9 l cs k b (i+1)↔L9 l cs k b i/\JH l cs k i):=λb hb =>
   ⟨λh=>⟨λj h1 h2=>h j h1 (by omega),h i hb (by omega)⟩,λ⟨h,h'⟩ j h1 h2=>by
    rcases Nat.eq_or_lt_of_le (show j<=i by omega) with e | e
    ·rw [e];exact h'
    ·exact h j h1 e⟩
  have aoM:(l.getD k (0,0)).2=iM l k:=rfl;have e:jQ (l.getD k (0,0)) cs F (i+1)=if kU (l.getD k (0,0)).1 (cs.getD i (-1))=true then (if iM l k=0 then (F.getD i false,false) else if iM l k=1 then (nP (l.getD k (0,0)) cs F i,false) else ((jQ (l.getD k (0,0)) cs F i).2,nP (l.getD k (0,0)) cs F i)) else (false,false):=rfl
  rw [e]
  by_cases hc:kU (l.getD k (0,0)).1 (cs.getD i (-1))=true
  rotate_left
  ·rw [if_neg hc];have hno:¬ JH l cs k i:=λh=>hc (hok.1 h)
   refine⟨⟨λh=>absurd h Bool.false_ne_true,λ⟨b,h1,_,h3⟩=>absurd (h3.2.1 i (by omega) (by omega)) hno⟩,⟨λh=>absurd h Bool.false_ne_true,λ⟨_,b,h1,_,h3,_⟩=>absurd (h3 i (by omega) (by omega)) hno⟩⟩
  rw [if_pos hc];have hyes:=hok.2 hc
  rcases hh with h0 | h1 | h2
  ·rw [if_pos h0];refine⟨⟨λh=>⟨i,by omega,h,by omega,λj h3 h4=>?_,λ_=>rfl,λh=>by omega⟩,λ⟨b,h3,h4,h5⟩=>?_⟩,⟨λh=>absurd h Bool.false_ne_true,λ⟨h,_⟩=>by omega⟩⟩
   ·obtain rfl:j=i:=by omega
    exact hyes
   ·have:=h5.2.2.1 h0;obtain rfl:b=i:=by omega
    exact h4
  ·rw [if_neg (by omega),if_pos h1];refine⟨?_,⟨λh=>absurd h Bool.false_ne_true,λ⟨h,_⟩=>by omega⟩⟩;rw [hfo]
   constructor
   ·rintro⟨b,h3,h4,h5⟩;exact⟨b,by omega,h4,by omega,(hon b h3).2 ⟨h5.2.1,hyes⟩,λh=>by omega,λh=>by omega⟩
   ·rintro⟨b,h3,h4,h5⟩;exact⟨b,by omega,h4,by omega,((hon b (by omega)).1 h5.2.1).1,λh=>by omega,λh=>by omega⟩
  ·rw [if_neg (by omega),if_neg (by omega)];refine⟨?_,?_⟩
   ·rw [ih2]
    constructor
    ·rintro⟨-,b,h3,h4,h5,h6⟩;exact⟨b,by omega,h4,by omega,(hon b (by omega)).2 ⟨h5,hyes⟩,λh=>by omega,λ_=>by omega⟩
    ·rintro⟨b,h3,h4,h5⟩;have hp:=h5.2.2.2 h2;refine⟨h2,b,by omega,h4,((hon b (by omega)).1 h5.2.1).1,by omega⟩
   ·rw [hfo]
    constructor
    ·rintro⟨b,h3,h4,h5⟩;have hp:=h5.2.2.2 h2;exact⟨h2,b,by omega,h4,(hon b h3).2 ⟨h5.2.1,hyes⟩,by omega⟩
    ·rintro⟨-,b,h3,h4,h5,h6⟩;exact⟨b,by omega,h4,by omega,((hon b (by omega)).1 h5).1,λh=>by omega,λ_=>by omega⟩
theorem agX {l:List Item} {cs:List Int} {k:Nat} {F:List Bool} (hh:iM l k=0\/iM l k=1\/iM l k=2) {i:Nat} (hi:i<=cs.length) :
  nP (l.getD k (0,0)) cs F i=true↔∃ b,b<=i/\F.getD b false=true/\full l cs k b i:=by
 unfold nP;rw [Bool.or_eq_true,(ZJ (F:=F) hh i hi).1,Bool.and_eq_true,decide_eq_true_eq]
 constructor
 ·rintro(⟨b,h1,h2,h3⟩ | ⟨h1,h2⟩)
  ·exact⟨b,by omega,h2,h3⟩
  ·exact⟨i,Nat.le_refl _,h1,Nat.le_refl _,λj h3 h4=>by omega,λh=>absurd h h2,λ_=>by simp⟩
 ·rintro⟨b,h1,h2,h3⟩
  rcases Nat.eq_or_lt_of_le h1 with e | e
  ·subst e;refine .inr ⟨h2,λh0=>?_⟩;have:=h3.2.2.1 h0;omega
  ·exact .inl ⟨b,e,h2,h3⟩
def vF (n p:Nat):List Bool:=(List.range n).map λi=>i==p
theorem LZ (n p:Nat):(vF n p).length=n:=by unfold vF;simp
theorem ak4 {n p i:Nat} (h:i<n):(vF n p).getD i false=(i==p):=by
 unfold vF;rw [List.getD_eq_getElem?_getD,List.getElem?_map,List.getElem?_range h]
 rfl
theorem Ro {l:List Item} {cs:List Int} (hh:∀ i,iM l i=0\/iM l i=1\/iM l i=2) {p:Nat} (hp:p<=cs.length) :
  ∀ k,k<=l.length->∀ i,i<=cs.length->((uD cs (l.take k) (vF (cs.length+1) p)).getD i false=true↔Ends l cs k p i)
 | 0,_,i,hi=>by
  rw [List.take_zero,uD,ak4 (by omega),beq_iff_eq];exact Iff.rfl
 | k+1,hk,i,hi=>by
  have ih:=Ro (cs:=cs) hh hp k (by omega);have hx:l[k]?=some (l.getD k (0,0)):=by
   rw [List.getD_eq_getElem?_getD,List.getElem?_eq_getElem (by omega)]
   rfl
  have ht:l.take (k+1)=l.take k++[l.getD k (0,0)]:=by
   rw [List.take_add_one,hx]
   rfl
  rw [ht,ZB,agi hi,agX (hh k) hi]
  constructor
  ·rintro⟨b,h1,h2,h3⟩;exact⟨b,(ih b (by omega)).1 h2,h3⟩
  ·rintro⟨b,h1,h2⟩;exact⟨b,h2.1,(ih b (by have:=h2.1;omega)).2 h1,h2⟩
theorem Ends.top {l:List Item} {cs:List Int}:∀ {i f a:Nat},f<=cs.length->Ends l cs i f a->a<=cs.length
 | 0,f,a,hf,h=>by unfold Ends at h;omega
 | i+1,f,a,hf,h=>by
  obtain⟨b,h1,h2⟩:=h;have hb:=h1.top hf
  rcases Nat.eq_or_lt_of_le h2.1 with e | e
  ·omega
  ·obtain⟨c,hc,-⟩:=h2.2.1 (a-1) (by omega) (by omega);have:=(List.getElem?_eq_some_iff.1 hc).1;omega
end N
def wF (st:Bool) (l:List N.Item) (cs:List Int) (p:Int):Bool :=
 iO l&&decide (0<=p)&&decide (p<=cs.length)&&!(st&&decide (0<p))&&(N.uD cs l (N.vF (cs.length+1) p.toNat)).any id
theorem ajp (st:Bool) (l:List N.Item) (cs:List Int) (p:Int):wF st l cs p=nX st l cs p:=by
 unfold wF nX
 cases hr:iO l with
 | false=>rfl
 | true =>
  by_cases h0:0<=p/\p<=cs.length
  rotate_left
  ·by_cases h1:0<=p
   ·rw [decide_eq_false (show ¬ p<=cs.length by omega)];simp
   ·rw [decide_eq_false h1];simp
  obtain⟨n,rfl⟩:=Int.eq_ofNat_of_zero_le h0.1;have hn:n<=cs.length:=by omega
  congr 1
  rw [Int.toNat_natCast,Bool.eq_iff_iff,decide_eq_true_eq,List.any_eq_true];have hi:=N.Ro (l:=l) (cs:=cs) (Xt hr) hn l.length (Nat.le_refl _);have ho:=acy (l:=l) (cs:=cs) (Xt hr) n l.length (Nat.le_refl _);rw [List.take_length] at hi;have hlen:(N.uD cs l (N.vF (cs.length+1) n)).length=cs.length+1:=N.WQ (N.LZ _ _)
  constructor
  ·rintro⟨b,hb,hb2⟩;obtain⟨i,hi1,hi2⟩:=List.getElem_of_mem hb;have he:=(hi i (by omega)).1 (by rw [List.getD_eq_getElem?_getD,List.getElem?_eq_getElem hi1,hi2];exact hb2);have hm:=(ho (i:Int)).2 ⟨i,rfl,he⟩;exact List.length_pos_of_mem hm
  ·intro hpos;obtain⟨b,hb⟩:=List.exists_mem_of_length_pos hpos;obtain⟨i,rfl,he⟩:=(ho b).1 hb;have htop:=he.top hn;have hg:=(hi i htop).2 he;refine⟨_,List.getElem_mem (l:=N.uD cs l (N.vF (cs.length+1) n)) (n:=i) (by omega),?_⟩;rw [List.getD_eq_getElem?_getD,List.getElem?_eq_getElem (by omega)] at hg;exact hg
end
section
open Go.RowKit Go.Shelf
attribute [local go_sem] Oper.semAt_some
def lJ (n:Nat) (f:Nat->Bool):Array Value:=((List.range n).map λj=>Value.bool (f j)).toArray
theorem Je {n k:Nat} (f:Nat->Bool) (h:k<n):(lJ n f)[k]?=some (.bool (f k)):=by
 unfold lJ;rw [List.getElem?_toArray,List.getElem?_map,List.getElem?_range h]
 rfl
theorem F8 {n:Nat} {f g:Nat->Bool} (h:∀ j,j<n->f j=g j):lJ n f=lJ n g:=by
 unfold lJ;rw [List.map_congr_left (g:=λj=>Value.bool (g j))];intro j hj;rw [h j (List.mem_range.1 hj)]
theorem OO (n k:Nat) (f:Nat->Bool) (b:Bool):(lJ n f).setIfInBounds k (.bool b)=lJ n (λj=>if j=k then b else f j):=by
 unfold lJ;rw [List.setIfInBounds_toArray]
 congr 1
 apply List.ext_getElem?
 intro j;rw [List.getElem?_set,List.getElem?_map,List.getElem?_map]
 rcases Nat.lt_or_ge j n with hj | hj
 ·rw [List.getElem?_range hj]
  by_cases e:k=j
  ·subst e;simp;omega
  ·rw [if_neg e];simp [Ne.symm e]
 ·rw [List.getElem?_eq_none (by simpa using hj)]
  by_cases e:k=j
  ·subst e;simp;omega
  ·rw [if_neg e];rfl
theorem aeS (n:Nat):lJ n (λ_=>false)=Array.replicate n (.bool false):=by
 unfold lJ
 apply Array.ext'
 rw [Array.toList_replicate]
 apply List.ext_getElem?
 intro j;rw [List.getElem?_map]
 rcases Nat.lt_or_ge j n with hj | hj
 ·rw [List.getElem?_range hj];simp [hj]
 ·rw [List.getElem?_eq_none (by simpa using hj)];simp;omega
theorem Sm (L:Nat) (h:L<=299) (w:World):(Instr.makeSlice 273 (.int .i64 ((L:Int)+1)) (.int .i64 ((L:Int)+1))).run Tryz.prog w = .ok (.slice (some ⟨w.heap.size,0,none⟩) (L+1) (L+1)) (w.alloc (.cells (lJ (L+1) λ_=>false) 4)):=by
 have hi:(Tryz.prog.info? 4).map (λi=>(i.zero,i.size,i.bytes))=some (some (.bool false),1,1):=by kernel_rfl
 obtain⟨z,hz,hz2⟩:=Option.map_eq_some_iff.1 hi;simp only [Prod.mk.injEq] at hz2;have hz:=And.intro hz hz2;have:=run_makeSlice (P:=Tryz.prog) (w:=w) 273 4 z (.bool false) Tryz.underlying273 hz.1 hz.2.1 .i64 .i64 ((L:Int)+1) ((L:Int)+1) (by omega) (by omega) (by rw [hz.2.2.1];simp;omega) (by rw [hz.2.2.2];omega) (by omega);have e:madeCells (Value.bool false).cells (((L:Int)+1).toNat*z.size)=lJ (L+1) λ_=>false:=by
  rw [hz.2.2.1,aeS,show ((L:Int)+1).toNat=L+1 by omega,Nat.mul_one]
  apply Array.ext'
  rw [Array.toList_replicate];exact toList_madeCells_one (Value.bool false) (L+1)
 rw [this,e,show ((L:Int)+1).toNat=L+1 by omega]
def outA (x:N.Item) (cs:List Int) (F:List Bool) (k:Nat):Array Value:=lJ (cs.length+1) λj=>if j<k then N.nP x cs F j else if j=k then (N.jQ x cs F k).1 else false
def yF (x:N.Item) (cs:List Int) (F:List Bool) (k:Nat):Array Value:=lJ (cs.length+1) λj=>if j<=k then N.nP x cs F j else false
def qA (x:N.Item) (cs:List Int) (F:List Bool) (k:Nat):Array Value:=lJ (cs.length+1) λj=>if j<=k then (N.jQ x cs F j).2 else false
theorem anV (x:N.Item) (cs:List Int) (F:List Bool):outA x cs F 0=lJ (cs.length+1) λ_=>false:=F8 λj _=>by
 rcases Nat.eq_zero_or_pos j with e | e
 ·subst e;rfl
 ·simp;omega
theorem anL (x:N.Item) (cs:List Int) (F:List Bool):qA x cs F 0=lJ (cs.length+1) λ_=>false:=F8 λj _=>by
 rcases Nat.eq_zero_or_pos j with e | e
 ·subst e;rfl
 ·simp;omega
theorem ajr {x:N.Item} {cs:List Int} {F:List Bool} {k:Nat} (h:k<=cs.length):(outA x cs F k)[k]?=some (.bool (N.jQ x cs F k).1):=by
 unfold outA;rw [Je _ (by omega)];simp
theorem aiC {x:N.Item} {cs:List Int} {F:List Bool} {k:Nat} (h:k<=cs.length):(qA x cs F k)[k]?=some (.bool (N.jQ x cs F k).2):=by
 unfold qA;rw [Je _ (by omega)];simp
theorem ah4 {x:N.Item} {cs:List Int} {F:List Bool} {k:Nat} (h:k<=cs.length):(yF x cs F k)[k]?=some (.bool (N.nP x cs F k)):=by
 unfold yF;rw [Je _ (by omega)];simp
theorem ad2 {x:N.Item} {cs:List Int} {F:List Bool} {k:Nat} (h:k<cs.length):(yF x cs F k)[k+1]?=some (.bool false):=by
 unfold yF;rw [Je _ (by omega),if_neg (by omega)]
theorem adW {x:N.Item} {cs:List Int} {F:List Bool} {k:Nat} (h:k<cs.length):(qA x cs F k)[k+1]?=some (.bool false):=by
 unfold qA;rw [Je _ (by omega),if_neg (by omega)]
theorem af2 (x:N.Item) (cs:List Int) (F:List Bool) (k:Nat):(outA x cs F k).setIfInBounds k (.bool (N.nP x cs F k))=yF x cs F k:=by
 unfold outA yF;rw [OO];refine F8 λj _=>?_
 rcases Nat.lt_trichotomy j k with h | h | h
 ·simp [h,Nat.ne_of_lt h,Nat.le_of_lt h]
 ·subst h;simp
 ·rw [if_neg (by omega),if_neg (by omega),if_neg (by omega),if_neg (by omega)]
theorem aaj {x:N.Item} {cs:List Int} {F:List Bool} {k:Nat} (h:cs.length<=k\/(N.jQ x cs F (k+1)).1=false):yF x cs F k=outA x cs F (k+1):=by
 unfold outA yF;refine F8 λj hj=>?_
 rcases Nat.lt_trichotomy j (k+1) with h2 | h2 | h2
 ·rw [if_pos (by omega),if_pos h2]
 ·subst h2
  rcases h with h | h
  ·omega
  ·rw [if_neg (by omega),if_neg (by omega),if_pos rfl,h]
 ·rw [if_neg (by omega),if_neg (by omega),if_neg (by omega)]
theorem Tq (x:N.Item) (cs:List Int) (F:List Bool) (k:Nat):(yF x cs F k).setIfInBounds (k+1) (.bool (N.jQ x cs F (k+1)).1)=outA x cs F (k+1):=by
 unfold outA yF;rw [OO];refine F8 λj _=>?_
 rcases Nat.lt_trichotomy j (k+1) with h | h | h
 ·rw [if_neg (by omega),if_pos (by omega),if_pos h]
 ·subst h;simp
 ·rw [if_neg (by omega),if_neg (by omega),if_neg (by omega),if_neg (by omega)]
theorem PD {x:N.Item} {cs:List Int} {F:List Bool} {k:Nat} (h:cs.length<=k\/(N.jQ x cs F (k+1)).2=false):qA x cs F k=qA x cs F (k+1):=by
 unfold qA;refine F8 λj hj=>?_
 rcases Nat.lt_trichotomy j (k+1) with h2 | h2 | h2
 ·rw [if_pos (by omega),if_pos (by omega)]
 ·subst h2
  rcases h with h | h
  ·omega
  ·rw [if_neg (by omega),if_pos (Nat.le_refl _),h]
 ·rw [if_neg (by omega),if_neg (by omega)]
theorem agG (x:N.Item) (cs:List Int) (F:List Bool) (k:Nat):(qA x cs F k).setIfInBounds (k+1) (.bool (N.jQ x cs F (k+1)).2)=qA x cs F (k+1):=by
 unfold qA;rw [OO];refine F8 λj _=>?_
 rcases Nat.lt_trichotomy j (k+1) with h | h | h
 ·rw [if_neg (by omega),if_pos (by omega),if_pos (by omega)]
 ·subst h;simp
 ·rw [if_neg (by omega),if_neg (by omega),if_neg (by omega)]
theorem ae8 (x:N.Item) (cs:List Int) (F:List Bool):outA x cs F (cs.length+1)=((N.yA x cs F).map Value.bool).toArray:=by
 unfold outA N.yA lJ;rw [List.map_map]
 congr 1
 refine List.map_congr_left λj hj=>?_
 show Value.bool (if j<cs.length+1 then _ else _)=_
 rw [if_pos (List.mem_range.1 hj)]
 rfl
theorem ahj {x:N.Item} {cs:List Int} {F:List Bool} {k:Nat} {c:Int} (hc:cs[k]?=some c) :
  N.jQ x cs F (k+1)=if N.kU x.1 c=true then (if x.2=0 then (F.getD k false,false) else if x.2=1 then (N.nP x cs F k,false) else ((N.jQ x cs F k).2,N.nP x cs F k)) else (false,false):=by
 have e:cs.getD k (-1)=c:=by rw [List.getD_eq_getElem?_getD,hc];rfl
 show (if N.kU x.1 (cs.getD k (-1))=true then _ else _)=_
 rw [e]
 rfl
theorem acL {w:World} {g:Nat} {T:TypeId} {xs:List Bool} (h:ak w g T (xs.map Value.bool).toArray) (hz:xs.length<=1000000):qQ w (.slice (some ⟨g,0,none⟩) xs.length xs.length) xs:=by
 refine .inr ⟨g,0,none,xs.length,rfl,Nat.le_refl _,by unfold maxLen;omega,λ_=>⟨rfl,h.lt,λi x hx=>?_⟩⟩;rw [Nat.zero_add];refine(h.cell i).trans ?_;rw [List.getElem?_toArray,List.getElem?_map,hx]
 rfl
theorem aap (v:Value) (M:D.dF) (n:Int) (w:World) (hv:nT w v M) (hM:qZ M) :
  Calls Tryz.prog 183 #[v, .int .i64 n] w λe w'=>e = .returned (.bool (jB n M))/\Below w.heap.size w w':=by
 obtain⟨na,fa,rfl,hra,hia⟩:=hv;have qh:=bx hra;have F7:=bx hia;have ND:=bx hM;obtain⟨aa,ca,rfl⟩:=hra.slice;obtain⟨fo,fc,rfl⟩:=hia.slice;obtain⟨w2,hw2⟩:∃ w2,w2=w.alloc (.cells #[.slice aa M.1.length ca, .slice fo M.2.length fc] 44):=⟨_,rfl⟩
 have HW2:=bx hw2;have hbw:Below w.heap.size w w2:=by rw [hw2];exact aS _ _
 have aJ:=bx hbw;have gV:=bx (show ak w2 w.heap.size 44 #[.slice aa M.1.length ca, .slice fo M.2.length fc] by rw [hw2];exact ak.new w _ _);have c0:w2.cell? ⟨w.heap.size,0,none⟩=some (.slice aa M.1.length ca):=(gV.o.cell 0).trans rfl;have c1:w2.cell? ⟨w.heap.size,1,none⟩=some (.slice fo M.2.length fc):=(gV.o.cell 1).trans rfl;have l0:=gV.o.lt;clear hra hia hM hbw hw2
 by_cases hg:1<=n/\n<=32/\1<=M.1.length/\M.1.length<=300/\M.2.length=M.1.length
 ·obtain⟨g1,g2,g3,g4,g5⟩:=hg;obtain⟨nn,rfl⟩:=Int.eq_ofNat_of_zero_le (show 0<=n by omega);have Bf:=bx (show jB nn M=(List.range M.1.length).all (nK nn M) by
   unfold jB;rw [decide_eq_true g1,decide_eq_true g2,decide_eq_true g3,decide_eq_true g4,decide_eq_true g5];rfl)
  have jZ:=bx g5;rw [g5] at c1;clear g5
  go_enter Tryz.func183,Tryz.ntmps183
  go_upto_region 1 with(fail)
  rw [<- HW2.o];go_wp2_with fail;clear c0 c1 l0
  go_loopw [5] (λi wr=>∃ k:Nat,k<=M.1.length/\i = .int .i64 k/\Box ((List.range k).all (nK nn M)=true)/\Box (Below w2.heap.size w2 wr)) (λi _=>M.1.length-(intOf i).toNat)
  case atStart=>exact⟨0,by omega,rfl,⟨rfl⟩,⟨Below.refl _ _⟩⟩
  case round =>
   obtain⟨k,hk,rfl,ha,hbr⟩:=hrel;have hba:=gV.o.below hbr.o gV.o.lt;have aV:=bx (bt aJ.o hbr.o);have c0:wr.cell? ⟨w.heap.size,0,none⟩=some (.slice aa M.1.length ca):=(hba.cell 0).trans rfl;have c1:wr.cell? ⟨w.heap.size,1,none⟩=some (.slice fo M.1.length fc):=(hba.cell 1).trans (by rw [<- jZ.o];rfl);have l0:=hba.lt
   by_cases hlt:k<M.1.length
   ·obtain⟨x,hx⟩:∃ x,M.1[k]?=some x:=⟨_,List.getElem?_eq_getElem hlt⟩
    obtain⟨y,hy⟩:∃ y,M.2[k]?=some y:=⟨_,List.getElem?_eq_getElem (by rw [jZ.o];exact hlt)⟩
    obtain⟨pa,oa,ca',ha0,ha1,ha2,qE,jA⟩:=(qh.o.below aV.o).get (by intro e;rw [e] at hlt;simp at hlt);obtain⟨rfl,rfl⟩:aa=some ⟨pa,oa,none⟩/\ca=ca':=by injection ha0 with h1 h2 h3;exact⟨h1,h3⟩
    obtain⟨pb,ob,cb',hb0,hb1,hb2,hb3,hb4⟩:=(F7.o.below aV.o).get (by intro e;rw [e] at hy;simp at hy);obtain⟨rfl,rfl⟩:fo=some ⟨pb,ob,none⟩/\fc=cb':=by injection hb0 with h1 h2 h3;exact⟨h1,h3⟩
    obtain⟨xv,hxc,hxi⟩:=jA k x hx;have Z4:=hb4 k y hy;have Aq:=bx (show nK nn M k=(decide ((x.length:Int)=(nn:Int)+1)&&x.all (toR M.1.length)&&decide (0<=y)&&decide (y<1099511627776)) by
     unfold nK;rw [show M.1.getD k []=x by rw [List.getD,hx];rfl,show M.2.getD k 0=y by rw [List.getD,hy];rfl])
    have HXI:=bx hxi;obtain⟨xo,xc,rfl⟩:=hxi.slice;have ru:=bx hlt;have HAB:=bx (show pa<wr.heap.size from qE);have HXC:=bx hxc;have jf:=bx hba;have hxz:=ND.o.2.2 x (List.mem_of_getElem? hx);rw [jZ.o] at hb1;unfold maxLen at ha2 hb2;have hkc:k<ca:=by omega
    have hkd:k<fc:=by omega
    clear ha0 jA hb0 hb4 hx hy hxi hba
    by_cases hl1:(x.length:Int)=(nn:Int)+1
    ·have iQ:=bx hl1;have q1:((x.length:Int)==(nn:Int)+1)=true:=by rw [beq_iff_eq];exact hl1
     have EU:=bx (show x.length=nn+1 by omega);clear hl1
     rcases Int.lt_or_le y 0 with hy0 | hy0
     ·have HF:=bx (CZ ru.o (show nK nn M k=false by rw [Aq.o,decide_eq_false (show ¬ 0<=y by omega)];simp));go_wp2_with fail
      all_goals first | (exact absurd iQ.o (by assumption)) | (exfalso;omega) | skip
      go_ret
      exact⟨aI (by rw [HF.o]),aV.o⟩
     ·rcases Int.lt_or_le y 1099511627776 with hy1 | hy1
      ·have HRY:=bx (show nK nn M k=x.all (toR M.1.length) by rw [Aq.o,decide_eq_true iQ.o,decide_eq_true hy0,decide_eq_true hy1];simp);go_wp2_with fail
       all_goals first | (exact absurd iQ.o (by assumption)) | (exfalso;omega) | skip
       clear hxc Z4 c0 c1 l0 hy0 hy1
       go_loopw [6] (λc wi=>∃ j:Nat,j<=nn+1/\c = .int .i64 j/\Box ((x.take j).all (toR M.1.length)=true)/\Box (Below wr.heap.size wr wi)) (λc _=>nn+1-(intOf c).toNat)
       case atStart=>exact⟨0,by omega,rfl,⟨rfl⟩,⟨Below.refl _ _⟩⟩
       case round =>
        obtain⟨j,hj,rfl,haj,hbi⟩:=hrel;have hbl:=jf.o.below hbi.o jf.o.lt
        by_cases hjn:j<nn+1
        ·obtain⟨t,ht⟩:∃ t,x[j]?=some t:=⟨_,List.getElem?_eq_getElem (by rw [EU.o];exact hjn)⟩
         obtain⟨rb,roff,Cm,r1,r2,r3,r4,r5⟩:=(HXI.o.below hbi.o).get (by intro e;rw [e] at ht;simp at ht);obtain⟨rfl,rfl⟩:xo=some ⟨rb,roff,none⟩/\xc=Cm:=by injection r1 with h1 h2 h3;exact⟨h1,h3⟩
         have htc:=r5 j t ht;have hxr:=(hbi.o.cell (p:=⟨pa,oa+k,none⟩) HAB.o).trans HXC.o;have c0:=(hbl.cell 0).trans (show _=some (Value.slice (some ⟨pa,oa,none⟩) M.1.length ca) from rfl);have l0:=hbl.lt;have hjx:j<x.length:=by rw [EU.o];exact hjn
         have hjc:j<xc:=by omega
         have HT:=bx ht;have VT:=bx (λm=>hbi.o.trans ((jG wr m).mono hbi.o.size));unfold maxLen at r3;clear r1 r5 ht hbl
         cases htr:toR M.1.length t with
         | true =>
          have Ea:=bx (show (x.take (j+1)).all (toR M.1.length)=true by rw [List.take_add_one,HT.o,List.all_append,haj.o];simp [htr]);have ht0:0<=t/\t<M.1.length:=by unfold toR at htr;simpa using htr
          obtain⟨ht0,ht1⟩:=ht0;have d0:decide (t<0)=false:=decide_eq_false (by omega);have d1:decide ((M.1.length:Int)<=t)=false:=decide_eq_false (by omega);clear htr;go_wp2_with fail
          go_quiet (fail)
          go_wp2_with fail
          go_roundw
          case rel=>exact⟨j+1,hjn,by go_num,Ea,⟨VT.o _⟩⟩
          case measure=>simp [intOf];omega
         | false =>
          have Hl:=bx (CZ ru.o (show nK nn M k=false by
           rw [HRY.o,Bool.eq_false_iff];intro h;rw [List.all_eq_true] at h;rw [h t (List.mem_of_getElem? HT.o)] at htr
           cases htr))
          have nY:=bx (show ¬ (0<=t/\t<M.1.length) by unfold toR at htr;simpa using htr);clear htr
          rcases Int.lt_or_le t 0 with ht0 | ht0
          ·have d0:decide (t<0)=true:=decide_eq_true ht0;go_wp2_with fail
           go_quiet (fail)
           go_wp2_with fail;go_ret
           exact⟨aI (by rw [Hl.o]),aV.o.trans ((VT.o _).mono aV.o.size)⟩
          ·have d0:decide (t<0)=false:=decide_eq_false (by omega);have ht1:(M.1.length:Int)<=t:=by have:=nY.o;omega
           have d1:decide ((M.1.length:Int)<=t)=true:=decide_eq_true ht1;go_wp2_with fail
           go_quiet (fail)
           go_wp2_with fail;go_ret
           exact⟨aI (by rw [Hl.o]),aV.o.trans ((VT.o _).mono aV.o.size)⟩
        ·have nG:=bx (show (List.range (k+1)).all (nK nn M)=true by
          have h:=haj.o;rw [List.take_of_length_le (by rw [EU.o];omega)] at h;rw [List.range_succ,List.all_append,ha.o];simp only [List.all_cons,List.all_nil,Bool.and_true,Bool.true_and];rw [HRY.o,h])
         have dQ:=bx (bt hbr.o hbi.o);go_wp2_with fail
         go_roundw
         case rel=>exact⟨k+1,ru.o,by go_num,nG,dQ⟩
         case measure=>simp [intOf];omega
      ·have HF:=bx (CZ ru.o (show nK nn M k=false by rw [Aq.o,decide_eq_false (show ¬ y<1099511627776 by omega)];simp));go_wp2_with fail
       all_goals first | (exact absurd iQ.o (by assumption)) | (exfalso;omega) | skip
       go_ret
       exact⟨aI (by rw [HF.o]),aV.o⟩
    ·have HF:=bx (CZ ru.o (show nK nn M k=false by rw [Aq.o,decide_eq_false hl1];rfl));have q1:((x.length:Int)==(nn:Int)+1)=false:=beq_eq_false_iff_ne.2 hl1;have tq:=bx hl1;clear hl1;go_wp2_with fail
     all_goals first | (exact absurd (by assumption) tq.o) | skip
     go_ret
     exact⟨aI (by rw [HF.o]),aV.o⟩
   ·have HT:=bx (show jB nn M=true by rw [Bf.o,show M.1.length=k by omega];exact ha.o);go_wp2_with fail;go_ret
    exact⟨aI (by rw [HT.o]),aV.o⟩
 ·have HF:=bx (show jB n M=false by
   unfold jB;rw [Bool.eq_false_iff];intro h;simp only [Bool.and_eq_true,decide_eq_true_eq] at h;exact hg ⟨h.1.1.1.1.1,h.1.1.1.1.2,h.1.1.1.2,h.1.1.2,h.1.2⟩)
  have hg':n<1\/(1<=n/\32<n)\/(1<=n/\n<=32/\M.1.length<1)\/(1<=n/\n<=32/\1<=M.1.length/\300<M.1.length)\/(1<=n/\n<=32/\1<=M.1.length/\M.1.length<=300/\((M.2.length:Int) != (M.1.length:Int))=true):=by
   simp only [bne_iff_ne,ne_eq];omega
  clear hg
  rcases hg' with g1 | ⟨g1,g2⟩ | ⟨g1,g2,g3⟩ | ⟨g1,g2,g3,g4⟩ | ⟨g1,g2,g3,g4,g5⟩
  all_goals
   go_enter Tryz.func183,Tryz.ntmps183
   go_upto_region 1 with(fail)
   rw [<- HW2.o];go_wp2_with fail
   all_goals first | (exfalso;omega) | (exfalso;simp_all;done) | skip
   go_ret
   exact⟨aI (by rw [HF.o]),aJ.o⟩
theorem agv (v lv:Value) (M:D.dF) (n:Int) (l:List Int) (w:World) (hv:nT w v M) (hM:qZ M) (hl:ay w lv l) (hz:l.length<=16777216) :
  Calls Tryz.prog 184 #[v, .int .i64 n,lv] w (Zh n M l w):=by
 have dK:=bx (λW (h:Below w.heap.size w W)=>aap v M n W (hv.below h) hM);have HL:=bx hl;obtain⟨na,fa,rfl,hra,-⟩:=hv;obtain⟨aa,ca,rfl⟩:=hra.slice;obtain⟨lo,lc,rfl⟩:=hl.slice;have qh:=bx hra;obtain⟨w2,hw2⟩:∃ w2,w2=w.alloc (.cells #[.slice aa M.1.length ca,fa] 44):=⟨_,rfl⟩
 have HW2:=bx hw2;have HS2:=bx (show Sep [Pc.blk w.heap.size 44 #[.slice aa M.1.length ca,fa],Pc.old w.heap.size w] w2 by rw [hw2];exact(Sep.start w).dh _ _);have hb2:Below w.heap.size w w2:=HS2.o.bel (by simp);have HB2:=bx hb2;have hba:=HS2.o.blk 0 rfl;have c0:w2.cell? ⟨w.heap.size,0,none⟩=some (.slice aa M.1.length ca):=(hba.cell 0).trans rfl;have c1:w2.cell? ⟨w.heap.size,1,none⟩=some fa:=(hba.cell 1).trans rfl;have l0:=hba.lt;clear hra hl hM hw2 hb2 hba
 cases hr:jB n M with
 | false =>
  have HR:=bx hr;have HC:=bx (show goCode n M=100 by unfold goCode;rw [hr];rfl);clear hr
  go_enter Tryz.func184,Tryz.ntmps184
  go_upto_region 1 with(fail)
  rw [<- HW2.o];go_wp2_with fail;refine(dK.o _ HB2.o).mono ?_;rintro e w3 ⟨rfl,hb3⟩;rw [HR.o];have HB3:=bx (bt HB2.o hb3);clear hb3;go_wp2_with fail;go_ret2
  refine⟨HB3.o,_,by rw [HC.o];rfl,?_⟩;rw [HR.o];exact World.ownsRow_nil _ _ _ _
 | true =>
  have HR:=bx hr;obtain⟨h1,h2,h3,h4,h5⟩:=Bq hr;obtain⟨nn,rfl⟩:=Int.eq_ofNat_of_zero_le (show 0<=n by omega);have HC:=bx (show goCode nn M=0 by unfold goCode;rw [hr];rfl);have ru:=bx (λi=>Qs hr l i);have qB:=bx (λ{a:Nat} (ha:a<M.1.length)=>Nz hr ha);have mW:=bx (show (jD nn M l).take 1=[0] by unfold jD;rw [List.range_succ_eq_map];rfl);clear hr h5
  go_enter Tryz.func184,Tryz.ntmps184
  go_upto_region 1 with(fail)
  rw [<- HW2.o];go_wp2_with fail;refine(dK.o _ HB2.o).mono ?_;rintro e w3 ⟨rfl,hb3⟩;rw [HR.o];have aK:=bx (show Sep [Pc.row w.heap.size 3 1 (.slice (some ⟨w3.heap.size,0,none⟩) 1 1) (0+1) (((jD nn M l).take (0+1)).map gB),Pc.blk w.heap.size 44 #[.slice aa M.1.length ca,fa],Pc.old w.heap.size w] (w3.alloc (.cells #[.int .i64 0] 3)) by
   rw [mW.o];exact(HS2.o.below hb3).lit (base:=w.heap.size) (e:=3) (cs:=#[.int .i64 0]) (n:=1) (Nat.le_trans HB2.o.size hb3.size) rfl (by omega))
  clear hb3 c0 c1 l0;go_wp2_with fail
  go_loopw [8,9,10] (λo at' i wr=>∃ k:Nat,k<=l.length/\i = .int .i64 k/\at' = .int .i64 (stM nn M l k)/\Box (Sep [Pc.row w.heap.size 3 1 o (k+1) (((jD nn M l).take (k+1)).map gB),Pc.blk w.heap.size 44 #[.slice aa M.1.length ca,fa],Pc.old w.heap.size w] wr)) (λ_ _ i _=>l.length-(intOf i).toNat)
  case atStart=>exact⟨0,by omega,rfl,rfl,aK⟩
  case round =>
   obtain⟨k,hk,rfl,rfl,hsep⟩:=hrel;have aV:=bx (show Below w.heap.size w wr from hsep.o.bel (by simp))
   by_cases hlt:k<l.length
   ·obtain⟨c,hc⟩:∃ c,l[k]?=some c:=⟨_,List.getElem?_eq_getElem hlt⟩
    obtain⟨lb,vU,EO,k1,k2,k3,k4,k5⟩:=(HL.o.below aV.o).get (by rintro rfl;simp at hlt);obtain⟨rfl,rfl⟩:lo=some ⟨lb,vU,none⟩/\lc=EO:=by injection k1 with h1 h2 h3;exact⟨h1,h3⟩
    have hlc:=k5 k c hc;have hat:=ru.o k;have RX:=bx (ru.o (k+1));obtain⟨r,hr1,hr2,hr3,-⟩:=qB.o hat
    obtain⟨x,hx1,hx2,hx3⟩:=hr3 (nM nn c) (JM nn c);have HST:=bx (show stM nn M l (k+1)=x.toNat by
     rw [Zk hc];unfold stepM;rw [show M.1.getD (stM nn M l k) []=r by rw [List.getD,hr1];rfl,show r.getD (nM nn c) 0=x by rw [List.getD,hx1];rfl])
    have gI:=bx (YE (n:=nn) (M:=M) hlt);have hcl:=JM nn c;obtain⟨pa,oa,ca',ha0,ha1,ha2,qE,jA⟩:=(qh.o.below aV.o).get (by intro e;rw [e] at hr1;simp at hr1);obtain⟨rfl,rfl⟩:aa=some ⟨pa,oa,none⟩/\ca=ca':=by injection ha0 with h1 h2 h3;exact⟨h1,h3⟩
    obtain⟨xv,hxc,hxi⟩:=jA _ r hr1;obtain⟨rb,roff,Cm,r1,r2,r3,r4,r5⟩:=hxi.get (by rintro rfl;simp at hr2);rw [hr2] at r1 r2;subst r1;have hxx:=r5 _ x hx1;have hba:=hsep.o.blk 1 rfl;obtain⟨oo,oc,rfl,ho1,ho2⟩:=dN (hsep.o.row 0 rfl);have c0:wr.cell? ⟨w.heap.size,0,none⟩=some (.slice (some ⟨pa,oa,none⟩) M.1.length ca):=(hba.cell 0).trans rfl;have l0:=hba.lt;have hbs:w.heap.size<=wr.heap.size:=aV.o.size;have HX:=bx (show (Value.int .i64 x)=gB (stM nn M l (k+1)) by unfold gB;rw [HST.o];exact fF (by omega));unfold maxLen at k3 ha2 r3;have hcA:c<0\/(nn:Int)<=c->nM nn c=nn:=λh=>by unfold nM;rw [if_neg (by omega)]
    have hcB:0<=c->c<nn->c=(nM nn c:Int):=λh h'=>by unfold nM;rw [if_pos ⟨h,h'⟩];omega
    generalize hso:stM nn M l k=so at *;generalize hco:nM nn c=co at *;have hs1:so<ca:=by omega
    have hc1:co<nn+1:=by omega
    have hc2:co<Cm:=by omega
    clear k1 k5 ha0 jA hxi r5 hba hr1 hr3 hx1 hc hso hco
    rcases Int.lt_or_le c 0 with hc0 | hc0
    ·obtain rfl:=(hcA (.inl hc0)).symm;clear hcA hcB;go_wp2_with (at_builtin;refine lI rfl _ _ 23 rfl mQ hsep.o 0 rfl rfl rfl rfl (by omega) (by omega) hbs ?_;rintro v' w4 hS4 -)
     rw [HX.o] at hS4;have dn:=bx (show Sep [Pc.row w.heap.size 3 1 v' (k+1+1) (((jD nn M l).take (k+1+1)).map gB),Pc.blk w.heap.size 44 #[.slice (some ⟨pa,oa,none⟩) M.1.length ca,fa],Pc.old w.heap.size w] w4 by
      rw [gI.o,List.map_append];exact hS4)
     clear hS4;go_wp2_with fail
     go_roundw
     case rel=>exact⟨k+1,hlt,by go_num,HX.o,dn⟩
     case measure=>simp [intOf];omega
    ·rcases Int.lt_or_le c nn with hcn | hcn
     ·have hce:=hcB hc0 hcn;clear hcA hcB;subst hce;go_wp2_with (at_builtin;refine lI rfl _ _ 23 rfl mQ hsep.o 0 rfl rfl rfl rfl (by omega) (by omega) hbs ?_;rintro v' w4 hS4 -)
      rw [HX.o] at hS4;have dn:=bx (show Sep [Pc.row w.heap.size 3 1 v' (k+1+1) (((jD nn M l).take (k+1+1)).map gB),Pc.blk w.heap.size 44 #[.slice (some ⟨pa,oa,none⟩) M.1.length ca,fa],Pc.old w.heap.size w] w4 by
       rw [gI.o,List.map_append];exact hS4)
      clear hS4;go_wp2_with fail
      go_roundw
      case rel=>exact⟨k+1,hlt,by go_num,HX.o,dn⟩
      case measure=>simp [intOf];omega
     ·obtain rfl:=(hcA (.inr hcn)).symm;clear hcA hcB;go_wp2_with (at_builtin;refine lI rfl _ _ 23 rfl mQ hsep.o 0 rfl rfl rfl rfl (by omega) (by omega) hbs ?_;rintro v' w4 hS4 -)
      rw [HX.o] at hS4;have dn:=bx (show Sep [Pc.row w.heap.size 3 1 v' (k+1+1) (((jD nn M l).take (k+1+1)).map gB),Pc.blk w.heap.size 44 #[.slice (some ⟨pa,oa,none⟩) M.1.length ca,fa],Pc.old w.heap.size w] w4 by
       rw [gI.o,List.map_append];exact hS4)
      clear hS4;go_wp2_with fail
      go_roundw
      case rel=>exact⟨k+1,hlt,by go_num,HX.o,dn⟩
      case measure=>simp [intOf];omega
   ·obtain rfl:k=l.length:=by omega
    have xU:=bx (show (jD nn M l).take (l.length+1)=jD nn M l by rw [<- Xy nn M l,List.take_length]);go_wp2_with fail;go_ret2
    refine⟨aV.o,_,by rw [HC.o];rfl,?_⟩;have:=hsep.o.row 0 rfl;rw [xU.o] at this;rw [HR.o];exact this
theorem afQ (v lv:Value) (M:D.dF) (n:Int) (l:List Int) (w:World) (hv:nT w v M) (hM:qZ M) (hl:ay w lv l) (hz:l.length<=16777216) :
  Calls Tryz.prog 143 #[v, .int .i64 n,lv] w (akr n M l w):=by
 have uQ:=bx hv;obtain⟨na,fa,rfl,hra,hia⟩:=hv;have F7:=bx hia;obtain⟨aa,ca,rfl⟩:=hra.slice;obtain⟨fo,fc,rfl⟩:=hia.slice;obtain⟨w2,hw2⟩:∃ w2,w2=w.alloc (.cells #[.slice aa M.1.length ca, .slice fo M.2.length fc] 44):=⟨_,rfl⟩
 have HW2:=bx hw2;have HS2:=bx (show Sep [Pc.blk w.heap.size 44 #[.slice aa M.1.length ca, .slice fo M.2.length fc],Pc.old w.heap.size w] w2 by rw [hw2];exact(Sep.start w).dh _ _);have hb2:Below w.heap.size w w2:=HS2.o.bel (by simp);have HB2:=bx hb2;have sN:=bx (agv _ lv M n l w2 (uQ.o.below hb2) hM (hl.below hb2) hz);have hba:=HS2.o.blk 0 rfl;have c0:w2.cell? ⟨w.heap.size,0,none⟩=some (.slice aa M.1.length ca):=(hba.cell 0).trans rfl;have c1:w2.cell? ⟨w.heap.size,1,none⟩=some (.slice fo M.2.length fc):=(hba.cell 1).trans rfl;have l0:=hba.lt;clear hra hia hl hM hw2 hb2 hba
 cases hr:jB n M with
 | false =>
  have HR:=bx hr;have HC:=bx (show goCode n M=100 by unfold goCode;rw [hr];rfl);clear hr
  go_enter Tryz.func143,Tryz.ntmps143
  go_upto_region 1 with(fail)
  rw [<- HW2.o];go_wp2_with fail;refine sN.o.mono ?_;rintro e w3 ⟨hb3,rv,rfl,hown⟩;rw [HC.o];rw [HR.o] at hown;obtain⟨go,gc,rfl,-,-⟩:=dN hown;have HB3:=bx (bt HB2.o hb3);clear hb3 hown;simp only [Bool.false_eq_true,if_false];go_wp2_with fail
  go_loopw [10,11] (λo i wr=>o = .slice none 0 0/\i = .int .i64 0/\Box (Below w.heap.size w wr)) (λ_ _ _=>0)
  case atStart=>exact⟨rfl,rfl,HB3⟩
  case round =>
   obtain⟨rfl,rfl,hbr⟩:=hrel;go_wp2_with fail;go_ret2
   refine⟨hbr.o,_,by rw [HC.o];rfl,?_⟩;rw [HR.o];exact ay.nil
 | true =>
  have HR:=bx hr;obtain⟨h1,h2,h3,h4,h5⟩:=Bq hr;obtain⟨nn,rfl⟩:=Int.eq_ofNat_of_zero_le (show 0<=n by omega);have HC:=bx (show goCode nn M=0 by unfold goCode;rw [hr];rfl);have ru:=bx (λi=>Qs hr l i);have qB:=bx (λ{a:Nat} (ha:a<M.1.length)=>Nz hr ha);have jZ:=bx h5;obtain⟨G,hG⟩:∃ G,jD nn M l=G:=⟨_,rfl⟩
  have xZ:=bx (show G.length=l.length+1 by rw [<- hG,Xy]);have HGG:=bx (show ∀ i,i<l.length+1->∃ a,G[i]?=some a/\a<M.1.length from λi hi=>⟨_,by rw [<- hG];exact ace (by omega),ru.o i⟩);have YF:=bx hG;clear hr h5 hG
  go_enter Tryz.func143,Tryz.ntmps143
  go_upto_region 1 with(fail)
  rw [<- HW2.o];go_wp2_with fail;refine sN.o.mono ?_;rintro e w3 ⟨hb3,rv,rfl,hown⟩;rw [HC.o];rw [HR.o,if_pos rfl,if_pos rfl,Int.toNat_natCast,YF.o] at hown;have HGI:=bx (Jj hown xZ.o.symm);obtain⟨go,gc,rfl,-,-⟩:=dN hown;have aK:=bx (show Sep [Pc.row w.heap.size 2 1 (.slice none 0 0) 0 (((G.take 0).map (vw M)).map (Value.int .i64)),Pc.row w.heap.size 3 1 (.slice go (l.length+1) gc) (l.length+1) (G.map gB),Pc.blk w.heap.size 44 #[.slice aa M.1.length ca, .slice fo M.2.length fc],Pc.old w.heap.size w] w3 from
   (HS2.o.got hb3 hown HB2.o.size).fP _ _ _)
  clear hb3 c0 c1 l0 hown;go_wp2_with fail
  go_loopw [10,11] (λo i wr=>∃ k:Nat,k<=l.length+1/\i = .int .i64 k/\Box (Sep [Pc.row w.heap.size 2 1 o k (((G.take k).map (vw M)).map (Value.int .i64)),Pc.row w.heap.size 3 1 (.slice go (l.length+1) gc) (l.length+1) (G.map gB),Pc.blk w.heap.size 44 #[.slice aa M.1.length ca, .slice fo M.2.length fc],Pc.old w.heap.size w] wr)) (λ_ i _=>l.length+1-(intOf i).toNat)
  case atStart=>exact⟨0,by omega,rfl,aK⟩
  case round =>
   obtain⟨k,hk,rfl,hsep⟩:=hrel;have aV:=bx (show Below w.heap.size w wr from hsep.o.bel (by simp))
   by_cases hlt:k<l.length+1
   ·obtain⟨a,ha,hal⟩:=HGG.o k hlt;obtain⟨lb,vU,EO,k1,k2,k3,k4,k5⟩:=(Jj (hsep.o.row 1 rfl) xZ.o.symm).get (by intro e;have:=congrArg List.length e;rw [Aa,xZ.o] at this;simp at this);rw [Aa,xZ.o] at k1 k2;obtain⟨rfl,rfl⟩:go=some ⟨lb,vU,none⟩/\gc=EO:=by injection k1 with h1 h2 h3;exact⟨h1,h3⟩
    have hac:=k5 k _ (Un ha);obtain⟨-,-,-,-,f,hf,-⟩:=qB.o hal;obtain⟨pb,ob,cb',hb0,hb1,hb2,hb3,hb4⟩:=(F7.o.below aV.o).get (by intro e;rw [e] at hf;simp at hf);obtain⟨rfl,rfl⟩:fo=some ⟨pb,ob,none⟩/\fc=cb':=by injection hb0 with h1 h2 h3;exact⟨h1,h3⟩
    have hfc:=hb4 a f hf;have gI:=bx (show ((G.take (k+1)).map (vw M)).map (Value.int .i64)=((G.take k).map (vw M)).map (Value.int .i64)++[Value.int .i64 f] by
     rw [take_snoc' _ _ _ ha,List.map_append,List.map_append];simp only [List.map_cons,List.map_nil];unfold vw;rw [show M.2.getD a 0=f by rw [List.getD,hf];rfl])
    have hba:=hsep.o.blk 2 rfl;have l0:=hba.lt;have dI:=bx (show ∀ W,Below wr.heap.size wr W->W.cell? ⟨w.heap.size,1,none⟩=some (.slice (some ⟨pb,ob,none⟩) M.2.length fc)/\W.cell? ⟨lb,vU+k,none⟩=some (.int .i64 (a:Int))/\W.cell? ⟨pb,ob+a,none⟩=some (.int .i64 f) from λW h =>
     ⟨((hba.below h hba.lt).cell 1).trans rfl,(h.cell (p:=⟨lb,vU+k,none⟩) k4).trans hac,(h.cell (p:=⟨pb,ob+a,none⟩) hb3).trans hfc⟩)
    have aF:=bx (show Below wr.heap.size wr wr.drew from⟨rfl,rfl,rfl,Nat.le_refl _,λ_ _=>rfl⟩);have cZ:=bx hsep.o.drew;have hbs:w.heap.size<=wr.drew.heap.size:=aV.o.size;have hal2:a<M.2.length:=by rw [jZ.o];exact hal
    have hkk:k<=1000000000:=by omega
    unfold maxLen at k3 hb2;have hkc:k<gc:=by omega
    have aoE:a<fc:=by omega
    obtain⟨oo,oc,rfl,ho1,ho2⟩:=dN (hsep.o.row 0 rfl);clear k1 k5 hb0 hb4 ha hf hba hal hac hfc hsep;go_wp2_with fail;refine dO 10 (λW=>W.cell? ⟨w.heap.size,1,none⟩=some (.slice (some ⟨pb,ob,none⟩) M.2.length fc)/\W.cell? ⟨lb,vU+k,none⟩=some (.int .i64 (a:Int))/\W.cell? ⟨pb,ob+a,none⟩=some (.int .i64 f)) (by kernel_rfl) ?_;have aC:=bx (dI.o _ aF.o);have fG:=bx (λo=>dI.o _ (aF.o.alloc aF.o.size o));generalize wr.drew=WR at *;refine kS 0 ?_ rfl aC.o ?_ ?_;rotate_left
    ·rintro w ⟨q1,q2,q3⟩;go_simp;try with_reducible rfl
    refine kS 1 ?_ rfl aC.o ?_ ?_;rotate_left
    ·rintro w ⟨q1,q2,q3⟩;go_simp;try with_reducible rfl
    refine kS 2 ?_ rfl aC.o ?_ ?_;rotate_left
    ·rintro w ⟨q1,q2,q3⟩;go_simp;try with_reducible rfl
    refine kS 3 ?_ rfl aC.o ?_ ?_;rotate_left
    ·rintro w ⟨q1,q2,q3⟩;go_simp;try with_reducible rfl
    refine kS 4 ?_ rfl aC.o ?_ ?_;rotate_left
    ·rintro w ⟨q1,q2,q3⟩;go_simp;try with_reducible rfl
    refine kS 5 ?_ rfl aC.o ?_ ?_;rotate_left
    ·rintro w ⟨q1,q2,q3⟩;go_simp;try with_reducible rfl
    refine kS 6 ?_ rfl aC.o ?_ ?_;rotate_left
    ·rintro w ⟨q1,q2,q3⟩;go_simp;try with_reducible rfl
    refine kS 7 ?_ rfl aC.o ?_ ?_;rotate_left
    ·rintro w ⟨q1,q2,q3⟩;go_simp;try with_reducible rfl
    refine kS 8 ?_ rfl aC.o ?_ ?_;rotate_left
    ·rintro w ⟨q1,q2,q3⟩;go_simp;try with_reducible rfl
    refine kP 9 rfl λKK aj=>?_
    go_simp;refine aj.out _ _ (λ_=>fG.o _) ?_;clear aj KK;refine kP 10 rfl λKK aj=>?_
    refine BZ rfl _ _ 42 rfl PX cZ.o 0 rfl (by kernel_rfl) (by kernel_rfl) rfl hkk (by omega) hbs ?_;rintro v' w4 hS4 -;refine aj.out _ _ (λh=>by cases h) ?_;clear aj KK;refine kP 11 rfl λKK aj=>?_
    go_simp;refine aj.out _ _ (λh=>by cases h) ?_;clear aj KK;refine kD ?_ _;rw [<- gI.o] at hS4;have dn:=bx hS4;clear hS4;go_wp2_with fail
    go_roundw
    case rel=>exact⟨k+1,hlt,by go_num,dn⟩
    case measure=>simp [intOf];omega
   ·obtain rfl:k=l.length+1:=by omega
    have xU:=bx (show G.take (l.length+1)=G by rw [<- xZ.o,List.take_length]);go_wp2_with fail;go_ret2
    refine⟨aV.o,_,by rw [HC.o];rfl,?_⟩;have:=akm (hsep.o.row 0 rfl) (by rw [List.length_map,xU.o,xZ.o]);rw [xU.o] at this;rw [HR.o,if_pos rfl];unfold J7;rw [Int.toNat_natCast,YF.o];exact this
end
end Go.Proofs.YtlmdjifffmofeaaGreatDoor
