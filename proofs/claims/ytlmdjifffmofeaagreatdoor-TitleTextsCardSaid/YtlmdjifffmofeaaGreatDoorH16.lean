/- Texts of this claim. -/
import Derived.Laws.MakeOwn
import Derived.Laws.CopyRow
import Derived.Laws.IdiomCopy
import Derived.Test.YtlmdjifffmofeaaGreatDoorH15

set_option maxRecDepth 100000
set_option maxHeartbeats 16000000
namespace Go.Proofs.YtlmdjifffmofeaaGreatDoor
section
open Go.RowKit
attribute [local go_sem] Oper.semAt_some
def T.smalls (c:T.Cs) (l:List Int) (i k:Nat):List Int:=(List.range k).flatMap λj=>T.small c l (i+j)
theorem T.ac4 (c:T.Cs) (l:List Int) (i k:Nat):T.smalls c l i (k+1)=T.smalls c l i k++T.small c l (i+k):=by
 unfold T.smalls;rw [List.range_succ,List.flatMap_append,List.flatMap_cons,List.flatMap_nil,List.append_nil]
theorem T.acd (c:T.Cs) (l:List Int):∀ (n i:Nat),T.uM c l n i true=T.smalls c l i n
 | 0,i=>rfl
 | n+1,i=>by
  simp only [T.uM];rw [T.acd c l n (i+1)];unfold T.smalls;rw [List.range_succ_eq_map,List.flatMap_cons,List.flatMap_map,Nat.add_zero]
  congr 2
  funext j
  rw [show i+1+j=i+(j+1) by omega]
theorem T.ag7 {c:T.Cs} {l:List Int} {p b:Nat} {x:Int} (hx:l.getD p 0=x) (hc:T.cased c x=true) (h:p<b):T.word c l p b=T.becomes c.ti x++T.smalls c l (p+1) (b-(p+1)):=by
 unfold T.word;rw [show b-p=b-(p+1)+1 by omega];simp only [T.uM];rw [hx,if_pos hc,T.acd]
theorem T.adK {m:Nat} {c:T.Cs} (h:T.cu m c=true) {l:List Int} (hl:∀ x∈l,U.right x=true) (i:Nat):∀ k,i+k<=l.length->T.Fine k (T.smalls c l i k)
 | 0,_=>T.Fine.nil
 | k+1,hk=>by
  rw [T.ac4];exact(T.adK h hl i k (by omega)).append (T.A8 h hl (by omega))
theorem adI (n g km a b:Nat) (lv tv ci cb gi gb lval ov:Value) (acc:List Int) (c:T.Cs) (hs:T.Small c) (hc:T.cu 600 c=true) (ps:List Pc) (xs:List Int) (hx:∀ x∈xs,U.right x=true) (hz:xs.length<=100000) (hab:a<=b) (hb:b<=xs.length) (hacc:acc.length<=800000000)
  (hR:∀ W,Sep ps W->bC W (.agg #[lv,tv,ci,cb,gi,gb]) c/\ay W lval xs) (hN:∀ W,Sep ps W->n<=W.heap.size) (w:World) (hS:Sep (outW n g km lv tv ci cb gi gb lval ov acc c ps) w) :
  Calls Tryz.prog 42 #[.pointer (some ⟨g,0,none⟩), .int .i64 (a:Int), .int .i64 (b:Int)] w λe w'=>(∃ v,e = .returned v)/\∃ jg,Sep (outW n g km lv tv ci cb gi gb lval jg (acc++T.word c xs a b) c ps) w':=by
 have HR:=bx hR;have nJ:=bx hN;have bD:=bx (λ(i:Nat) (hi:i<xs.length) jg acc' (h1:acc'.length<=900000000) W (h:Sep (outW n g km lv tv ci cb gi gb lval jg acc' c ps) W)=>Za n g km i lv tv ci cb gi gb lval jg acc' c hs hc ps xs hx hz hi h1 hR W (hN W h.tail.tail.tail) h);have PL:=bx (λ(x:Int) (hxr:U.right x=true) jg acc' W (h:Sep (outW n g km lv tv ci cb gi gb lval jg acc' c ps) W)=>WI g km lv tv ci cb gi gb lval jg c x W (h.blk 1 rfl) (hR W h.tail.tail.tail).1 hs hc hxr (h.at' 2 (p:=Pc.known km c) rfl));have iD:=bx (λ(x:Int) (hxr:U.right x=true) W (h:Sep ps W)=>ajC _ c x W (hR W h).1 hs hc hxr);have D7:=bx (λ(x:Int) (hxr:U.right x=true)=>(T.GX (T.IX hc).2 hxr).1);have gu:=bx (λi k (h:i+k<=xs.length)=>(T.adK hc hx i k h).1);have jX:=bx hx;have HS:=bx hS;obtain⟨lo,lc,rfl⟩:=(hR w hS.tail.tail.tail).2.slice;obtain⟨N,hN⟩:∃ N,xs.length=N:=⟨_,rfl⟩
 have HN:=bx hN;rw [hN] at hz hb bD gu HR PL HS ⊢;obtain⟨L,hL⟩:∃ L,b=a+L:=⟨b-a,by omega⟩
 have jf:=bx hL;have hLb:L<=100000:=by omega
 have yD:=bx (show ∀ k,k<=L->T.lV c xs a k=false->T.word c xs a b=T.part xs a k++T.word c xs (a+k) b from λk hk hm=>T.O7 (by omega) (by omega) hm);have nS:=bx (show ∀ k,k<=L->(T.part xs a k).length<=k from λk _=>by unfold T.part;exact List.length_take_le _ _);clear hS hR hs hc hx hN hL hab
 go_enter Tryz.func42,Tryz.ntmps42
 go_wp2_with fail
 go_loopw [6] (λi wr=>∃ k:Nat,k<=L/\i = .int .i64 ((a:Int)+k)/\Box (T.lV c xs a k=false)/\∃ jg,Box (Sep (outW n g km lv tv ci cb gi gb (.slice lo N lc) jg (acc++T.part xs a k) c ps) wr)) (λi _=>b-(intOf i).toNat)
 case atStart=>exact⟨0,by omega,by go_num,⟨rfl⟩,ov,⟨by rw [show acc++T.part xs a 0=acc by unfold T.part;simp];exact HS.o⟩⟩
 case round =>
  obtain⟨k,hk,rfl,hno,jg,hsep⟩:=hrel;obtain⟨rC,hak⟩:∃ rC,rC=acc++T.part xs a k:=⟨_,rfl⟩
  rw [<- hak] at hsep;have Xq:=bx hak;have hal:rC.length<=800000000+k:=by rw [hak,List.length_append];have:=nS.o k hk;omega
  clear hak;obtain⟨p,hp⟩:∃ p:Nat,p=a+k:=⟨_,rfl⟩
  rw [show (a:Int)+k=(p:Int) by omega];have HP:=bx hp;have hbl:=jf.o
  by_cases hlt:k<L
  ·have xE:p<N:=by omega
   have hpb:p<b:=by omega
   have hdl:decide ((p:Int)<(b:Int))=true:=decide_eq_true (by omega);clear hbl hp;obtain⟨x,hxp⟩:∃ x,xs[p]?=some x:=⟨_,List.getElem?_eq_getElem (by rw [HN.o];exact xE)⟩
   obtain⟨lg,off,cap2,hg1,hg2,hg3,hg4,hg5⟩:=(HR.o wr hsep.o.tail.tail.tail).2.get (by rintro rfl;simp at hxp);rw [HN.o] at hg1 hg2;obtain⟨rfl,rfl⟩:lo=some ⟨lg,off,none⟩/\lc=cap2:=by injection hg1 with h1 h2 h3;exact⟨h1,h3⟩
   have qW:=bx (jX.o x (List.mem_of_getElem? hxp));have fO:=bx (show xs.getD p 0=x by rw [List.getD_eq_getElem?_getD,hxp,Option.getD_some]);have dI:=bx (λ(W:World) (h:Sep (wX g km #[lv,tv,ci,cb,gi,gb, .map (some km), .slice (some ⟨lg,off,none⟩) N lc,jg] c ps) W)=>show W.cell? ⟨g,0,none⟩=some lv/\W.cell? ⟨g,1,none⟩=some tv/\W.cell? ⟨g,2,none⟩=some ci/\W.cell? ⟨g,3,none⟩=some cb/\W.cell? ⟨g,4,none⟩=some gi/\W.cell? ⟨g,5,none⟩=some gb/\W.cell? ⟨g,7,none⟩=some (.slice (some ⟨lg,off,none⟩) N lc)/\W.cell? ⟨lg,off+p,none⟩=some (.int .i64 x)/\W.cell? ⟨g,8,none⟩=some jg/\g<W.heap.size from by
    have hb:=h.blk 0 rfl;obtain⟨b2,o2,c2,e1,e2,e3,e4,e5⟩:=(HR.o W h.tail.tail).2.get (by rintro rfl;simp at hxp);injection e1 with e1 e6 e7;injection e1 with e1;injection e1 with e1 e8 e9;subst e1 e8;exact⟨(hb.cell 0).trans rfl,(hb.cell 1).trans rfl,(hb.cell 2).trans rfl,(hb.cell 3).trans rfl,(hb.cell 4).trans rfl,(hb.cell 5).trans rfl,(hb.cell 7).trans rfl,e5 p x hxp,(hb.cell 8).trans rfl,hb.lt⟩)
   have mF:=bx (show T.part xs a (k+1)=T.part xs a k++[x] by rw [T.YG (by rw [HN.o,<- HP.o];exact xE),<- HP.o,fO.o]);have um:=bx (show T.lV c xs a (k+1)=T.cased c x by rw [T.Iw,hno.o,Bool.false_or,<- HP.o,fO.o]);unfold maxLen at hg3;clear hxp hg1 hg5;obtain⟨Inv,hI1,hI2⟩:∃ Inv:World->Prop,(∀ W,Inv W->Sep (outW n g km lv tv ci cb gi gb (.slice (some ⟨lg,off,none⟩) N lc) jg rC c ps) W)/\(∀ W,Sep (outW n g km lv tv ci cb gi gb (.slice (some ⟨lg,off,none⟩) N lc) jg rC c ps) W->Inv W):=⟨_,λ_ h=>h,λ_ h=>h⟩
   have aZ:=bx (show ∀ q:CW Inv,Sep (outW n g km lv tv ci cb gi gb (.slice (some ⟨lg,off,none⟩) N lc) jg rC c ps) q.w from λq=>hI1 _ q.h);have q7:∀ q:CW Inv,q.w.cell? ⟨g,7,none⟩=some (.slice (some ⟨lg,off,none⟩) N lc):=λq=>(dI.o _ (aZ.o q).tail).2.2.2.2.2.2.1
   have q8:∀ q:CW Inv,q.w.cell? ⟨lg,off+p,none⟩=some (.int .i64 x):=λq=>(dI.o _ (aZ.o q).tail).2.2.2.2.2.2.2.1
   have HDR:=bx (hI2 _ (hsep.o.drewN 1));have HDR:=bx (show Inv wr.drew from HDR.o);have FY:=bx (show ∀ q:CW Inv,Calls Tryz.prog 80 #[.pointer (some ⟨g,0,none⟩), .int .i64 x] q.w λe w''=>e = .returned (.agg #[.bool (T.cased c x), .bool (T.aX c x)])/\∃ m:CW Inv,w''=m.w from λq=>(PL.o x qW.o jg rC q.w (aZ.o q)).mono λ_ w' ⟨he,ht,hk⟩=>⟨he,⟨w',hI2 _ (Py (aZ.o q) ht hk)⟩,rfl⟩);have hfld:∀ (p q:Bool) W,(Instr.field 140 (.agg #[.bool p, .bool q]) 0).run Tryz.prog W = .ok (.bool p) W:=λp q W=>by kernel_rfl
   clear hI1 hI2
   cases hy:T.cased c x with
   | false =>
    rw [hy] at FY;have fD:=bx (um.o.trans hy);clear hy;go_wp2_with fail;refine gK Inv (by kernel_rfl) (by kernel_rfl) HDR.o (λhne=>?_)
    repeat (any_goals (first | go_big_quiet_step ((go_at_call 80;exact FY.o _)) | quiet_step ((go_at_call 80;exact FY.o _))))
    refine wpQuiet_nil ?_;rintro w7 ⟨q9,rfl⟩;have bH:=bx (aZ.o q9);generalize q9.w=w7 at bH ⊢;clear q7 q8 hne;have fM:=bx (show rC.length<=1000000000 by omega);have cZ:=bx (show Sep (outW n g km lv tv ci cb gi gb (.slice (some ⟨lg,off,none⟩) N lc) jg rC c ps) w7.drew from bH.o.drewN 1);have au:=bx (dI.o w7.drew cZ.o.tail);have gJ:=bx (nJ.o w7.drew cZ.o.tail.tail.tail);go_wp2_with fail;refine dO 16 (λW'=>W'.cell? ⟨g,0,none⟩=some lv/\W'.cell? ⟨g,1,none⟩=some tv/\W'.cell? ⟨g,2,none⟩=some ci/\W'.cell? ⟨g,3,none⟩=some cb/\W'.cell? ⟨g,4,none⟩=some gi/\W'.cell? ⟨g,5,none⟩=some gb/\W'.cell? ⟨g,7,none⟩=some (.slice (some ⟨lg,off,none⟩) N lc)/\W'.cell? ⟨lg,off+p,none⟩=some (.int .i64 x)/\W'.cell? ⟨g,8,none⟩=some jg/\g<W'.heap.size) (by kernel_rfl) ?_;generalize w7.drew=WR at cZ au gJ ⊢;refine kS 0 ?_ rfl au.o ?_ ?_;rotate_left
    ·rintro w ⟨q1,q2,q3,q4,q5,q6,q7,q8,q9,q10⟩;go_simp;try with_reducible rfl
    refine kS 1 ?_ rfl au.o ?_ ?_;rotate_left
    ·rintro w ⟨q1,q2,q3,q4,q5,q6,q7,q8,q9,q10⟩;go_simp;try with_reducible rfl
    refine kS 2 ?_ rfl au.o ?_ ?_;rotate_left
    ·rintro w ⟨q1,q2,q3,q4,q5,q6,q7,q8,q9,q10⟩;go_simp;try with_reducible rfl
    refine kS 3 ?_ rfl au.o ?_ ?_;rotate_left
    ·rintro w ⟨q1,q2,q3,q4,q5,q6,q7,q8,q9,q10⟩;go_simp;try with_reducible rfl
    refine kS 4 ?_ rfl au.o ?_ ?_;rotate_left
    ·rintro w ⟨q1,q2,q3,q4,q5,q6,q7,q8,q9,q10⟩;go_simp;try with_reducible rfl
    refine kS 5 ?_ rfl au.o ?_ ?_;rotate_left
    ·rintro w ⟨q1,q2,q3,q4,q5,q6,q7,q8,q9,q10⟩;go_simp;try with_reducible rfl
    refine kS 6 ?_ rfl au.o ?_ ?_;rotate_left
    ·rintro w ⟨q1,q2,q3,q4,q5,q6,q7,q8,q9,q10⟩;go_simp;try with_reducible rfl
    refine kS 7 ?_ rfl au.o ?_ ?_;rotate_left
    ·rintro w ⟨q1,q2,q3,q4,q5,q6,q7,q8,q9,q10⟩;go_simp;try with_reducible rfl
    refine kS 8 ?_ rfl au.o ?_ ?_;rotate_left
    ·rintro w ⟨q1,q2,q3,q4,q5,q6,q7,q8,q9,q10⟩;go_simp;try with_reducible rfl
    refine kS 9 ?_ rfl au.o ?_ ?_;rotate_left
    ·rintro w ⟨q1,q2,q3,q4,q5,q6,q7,q8,q9,q10⟩;go_simp;try with_reducible rfl
    refine kS 10 ?_ rfl au.o ?_ ?_;rotate_left
    ·rintro w ⟨q1,q2,q3,q4,q5,q6,q7,q8,q9,q10⟩;go_simp;try with_reducible rfl
    refine kS 11 ?_ rfl au.o ?_ ?_;rotate_left
    ·rintro w ⟨q1,q2,q3,q4,q5,q6,q7,q8,q9,q10⟩;go_simp;try with_reducible rfl
    refine kP 12 rfl λKK aj=>?_
    go_simp;refine aj.out _ _ (λ_=>dI.o _ (cZ.o.tail.alloc _)) ?_;clear aj KK;refine kP 13 rfl λKK aj=>?_
    refine BZ (u:=.int .i64 x) rfl _ _ 23 rfl mQ cZ.o 0 rfl (by kernel_rfl) (by kernel_rfl) rfl fM.o (by omega) gJ.o ?_;rintro v6 w6 hS6 ⟨go6,gc6,rfl,-,-⟩;have dA:=bx hS6;have HF6:=bx (dI.o w6 hS6.tail);have p8:w6.cell? ⟨g,8,none⟩=some jg:=((hS6.blk 1 rfl).cell 8).trans rfl;have f8:=(hS6.blk 1 rfl).frozen 8;have l8:=(hS6.blk 1 rfl).lt;clear hS6;refine aj.out _ _ (λ_=>HF6.o) ?_;clear aj KK;refine kP 14 rfl λKK aj=>?_
    go_simp;refine aj.out _ _ (λ_=>HF6.o) ?_;clear aj KK;refine kP 15 rfl λKK aj=>?_
    go_simp;refine aj.out _ _ (λ_=>HF6.o) ?_;clear aj KK;refine kP 16 rfl λKK aj=>?_
    go_simp;refine aj.out _ _ (λh=>by cases h) ?_;clear aj KK;refine kD ?_ _;have dS:=bx (NC (r:=acc++T.part xs a (k+1)) (sm:=[x]) dA.o (by simp) (by rw [mF.o,Xq.o,List.append_assoc]));go_wp2_with fail
    go_roundw
    case rel=>exact⟨k+1,by omega,by have h8:=HP.o;go_num,fD,_,dS⟩
    case measure=>have h8:=HP.o;simp [intOf];omega
   | true =>
    rw [hy] at FY;have oV:=bx (show acc++T.word c xs a b=rC++(T.becomes c.ti x++T.smalls c xs (p+1) (b-(p+1))) by rw [yD.o k hk hno.o,<- HP.o,T.ag7 fO.o hy hpb,<- List.append_assoc,<- Xq.o]);have hpe:((p:Int)==(b:Int))=false:=by rw [beq_eq_false_iff_ne];omega
    have hbx:=D7.o x qW.o;clear hy;go_wp2_with fail;refine gK Inv (by kernel_rfl) (by kernel_rfl) HDR.o (λhne=>?_)
    repeat (any_goals (first | go_big_quiet_step ((go_at_call 80;exact FY.o _)) | quiet_step ((go_at_call 80;exact FY.o _))))
    refine wpQuiet_nil ?_;rintro w7 ⟨q9,rfl⟩;have bH:=bx (aZ.o q9);generalize q9.w=w7 at bH ⊢;clear q7 q8 hne;have cZ:=bx (show Sep (outW n g km lv tv ci cb gi gb (.slice (some ⟨lg,off,none⟩) N lc) jg rC c ps) w7.drew from bH.o.drewN 1);have au:=bx (dI.o w7.drew cZ.o.tail);go_wp2_with fail;refine dO 17 (λW'=>W'.cell? ⟨g,0,none⟩=some lv/\W'.cell? ⟨g,1,none⟩=some tv/\W'.cell? ⟨g,2,none⟩=some ci/\W'.cell? ⟨g,3,none⟩=some cb/\W'.cell? ⟨g,4,none⟩=some gi/\W'.cell? ⟨g,5,none⟩=some gb/\W'.cell? ⟨g,7,none⟩=some (.slice (some ⟨lg,off,none⟩) N lc)/\W'.cell? ⟨lg,off+p,none⟩=some (.int .i64 x)/\W'.cell? ⟨g,8,none⟩=some jg/\g<W'.heap.size) (by kernel_rfl) ?_;generalize w7.drew=WR at cZ au ⊢;refine kS 0 ?_ rfl au.o ?_ ?_;rotate_left
    ·rintro w ⟨q1,q2,q3,q4,q5,q6,q7,q8,q9,q10⟩;go_simp;try with_reducible rfl
    refine kS 1 ?_ rfl au.o ?_ ?_;rotate_left
    ·rintro w ⟨q1,q2,q3,q4,q5,q6,q7,q8,q9,q10⟩;go_simp;try with_reducible rfl
    refine kS 2 ?_ rfl au.o ?_ ?_;rotate_left
    ·rintro w ⟨q1,q2,q3,q4,q5,q6,q7,q8,q9,q10⟩;go_simp;try with_reducible rfl
    refine kS 3 ?_ rfl au.o ?_ ?_;rotate_left
    ·rintro w ⟨q1,q2,q3,q4,q5,q6,q7,q8,q9,q10⟩;go_simp;try with_reducible rfl
    refine kS 4 ?_ rfl au.o ?_ ?_;rotate_left
    ·rintro w ⟨q1,q2,q3,q4,q5,q6,q7,q8,q9,q10⟩;go_simp;try with_reducible rfl
    refine kS 5 ?_ rfl au.o ?_ ?_;rotate_left
    ·rintro w ⟨q1,q2,q3,q4,q5,q6,q7,q8,q9,q10⟩;go_simp;try with_reducible rfl
    refine kS 6 ?_ rfl au.o ?_ ?_;rotate_left
    ·rintro w ⟨q1,q2,q3,q4,q5,q6,q7,q8,q9,q10⟩;go_simp;try with_reducible rfl
    refine kS 7 ?_ rfl au.o ?_ ?_;rotate_left
    ·rintro w ⟨q1,q2,q3,q4,q5,q6,q7,q8,q9,q10⟩;go_simp;try with_reducible rfl
    refine kS 8 ?_ rfl au.o ?_ ?_;rotate_left
    ·rintro w ⟨q1,q2,q3,q4,q5,q6,q7,q8,q9,q10⟩;go_simp;try with_reducible rfl
    refine kS 9 ?_ rfl au.o ?_ ?_;rotate_left
    ·rintro w ⟨q1,q2,q3,q4,q5,q6,q7,q8,q9,q10⟩;go_simp;try with_reducible rfl
    refine kS 10 ?_ rfl au.o ?_ ?_;rotate_left
    ·rintro w ⟨q1,q2,q3,q4,q5,q6,q7,q8,q9,q10⟩;go_simp;try with_reducible rfl
    refine kS 11 ?_ rfl au.o ?_ ?_;rotate_left
    ·rintro w ⟨q1,q2,q3,q4,q5,q6,q7,q8,q9,q10⟩;go_simp;try with_reducible rfl
    refine kP 12 rfl λKK aj=>?_
    go_simp;refine(iD.o x qW.o WR cZ.o.tail.tail.tail).mono ?_;rintro e w5 ⟨⟨v5,rfl,hv5,-⟩,hb5⟩;have aG:=bx (cZ.o.below hb5);have fZ:=bx (pG hv5);have jI:=bx (dI.o w5 aG.o.tail);have HN5:=bx (nJ.o w5 aG.o.tail.tail.tail);generalize T.becomes c.ti x=sm at fZ oV hbx hv5;obtain⟨SL,fB⟩:∃ SL,sm.length=SL:=⟨_,rfl⟩
    rw [fB] at fZ hbx;have jl:=bx fB;clear hv5 hb5 fB;refine aj.out _ _ (λ_=>jI.o) ?_;clear aj KK;refine kP 13 rfl λKK aj=>?_
    go_simp;refine aj.out _ _ (λ_=>jI.o) ?_;clear aj KK;refine kS 14 ?_ rfl jI.o ?_ ?_;rotate_left
    ·rintro w ⟨q1,q2,q3,q4,q5,q6,q7,q8,q9,q10⟩;go_simp;try with_reducible rfl
    refine kS 15 ?_ rfl jI.o ?_ ?_;rotate_left
    ·rintro w ⟨q1,q2,q3,q4,q5,q6,q7,q8,q9,q10⟩;go_simp;try with_reducible rfl
    refine kP 16 rfl λKK aj=>?_
    go_simp;refine aj.out _ _ (λ_=>jI.o) ?_;clear aj KK;refine kP 17 rfl λKK aj=>?_
    go_simp;refine aj.out _ _ (λh=>by cases h) ?_;clear aj KK;refine kD ?_ _;have fM:=bx (show rC.length+SL<=1000000000 by omega);have lC:=bx (show w5.cell? ⟨g,8,none⟩=some jg/\g<w5.heap.size from⟨jI.o.2.2.2.2.2.2.2.2.1,jI.o.2.2.2.2.2.2.2.2.2⟩);obtain⟨p0,p2⟩:=lC.o;have p1:=HN5.o;obtain⟨M,hM⟩:∃ M,M=b-(p+1):=⟨_,rfl⟩
    rw [<- hM] at oV;have VU:=bx (show b=p+1+M by omega);have hMz:M<=100000:=by omega
    clear hM hpe;go_wp2_with (at_builtin;refine lX rfl _ _ 23 rfl lQ (by decide) aG.o 0 rfl rfl rfl fZ.o (by rw [List.length_map,Nat.mul_one,jl.o]) (by intro z hz;obtain⟨q,-,rfl⟩:=List.mem_map.1 hz;rfl) fM.o (by omega) p1 ?_;rintro v7 w8 dW;obtain⟨Fj,FN,rfl,-,-⟩:=dN (dW.row 0 rfl);have dS:=bx dW;have p8:w8.cell? ⟨g,8,none⟩=some jg:=((dW.blk 1 rfl).cell 8).trans rfl;have f8:=(dW.blk 1 rfl).frozen 8;have l8:=(dW.blk 1 rfl).lt;clear dW p0 p1 p2)
    have fE:=bx (NC (r:=rC++sm) dS.o (by rw [jl.o]) rfl);have jr:=bx (show (rC++sm).length<=850000000 by rw [List.length_append];have:=jl.o;omega);rw [<- List.append_assoc] at oV;generalize rC++sm=Io at fE jr oV;generalize w8.setCell ⟨g,8,none⟩ (.slice Fj (rC.length+SL) FN)=w9 at fE ⊢;generalize (Value.slice Fj (rC.length+SL) FN)=ov9 at fE ⊢;clear p8 f8 l8;go_wp2_with fail;clear aZ FY HDR dI bH aG cZ au fZ jI HN5 lC dS mF um fO qW fM
    go_loopw [6] (λi wq=>∃ k2:Nat,k2<=M/\i = .int .i64 ((p:Int)+1+k2)/\∃ KX,Box (Sep (outW n g km lv tv ci cb gi gb (.slice (some ⟨lg,off,none⟩) N lc) KX (Io++T.smalls c xs (p+1) k2) c ps) wq)) (λi _=>b-(intOf i).toNat)
    case atStart=>exact⟨0,by omega,by go_num,ov9,⟨by rw [show Io++T.smalls c xs (p+1) 0=Io by unfold T.smalls;simp];exact fE.o⟩⟩
    case round =>
     rename_i wq _ _
     obtain⟨k2,hk2,rfl,KX,adL⟩:=hrel;obtain⟨q,hq⟩:∃ q:Nat,q=p+1+k2:=⟨_,rfl⟩
     rw [show (p:Int)+1+k2=(q:Int) by omega];have HQ:=bx hq;have hbm:=VU.o
     by_cases hlt2:k2<M
     ·have hqN:q<N:=by omega
      have Rw:q<b:=by omega
      have hdq:decide ((q:Int)<(b:Int))=true:=decide_eq_true (by omega);have BR:=bx (bD.o q hqN KX (Io++T.smalls c xs (p+1) k2) (by rw [List.length_append];have:=jr.o;have:=gu.o (p+1) k2 (by omega);omega) _ adL.o);have yB:=bx (show Io++T.smalls c xs (p+1) k2++T.small c xs q=Io++T.smalls c xs (p+1) (k2+1) by rw [T.ac4,List.append_assoc,<- hq]);clear hbm hq;go_wp2_with fail;refine BR.o.mono ?_;rintro e w3 ⟨⟨v3,rfl⟩,ov3,hs3⟩;rw [yB.o] at hs3;have aK:=bx hs3;clear hs3;go_wp2_with fail
      go_roundw
      case rel=>exact⟨k2+1,by omega,by have h8:=HQ.o;go_num,ov3,aK⟩
      case measure=>have h8:=HQ.o;simp [intOf];omega
     ·have Rw:q=b:=by omega
      obtain rfl:M=k2:=by omega
      have HE:=bx adL.o;rw [<- oV.o] at HE;clear hbm hq;rw [Rw];clear Rw;go_wp2_with fail
      go_end0
      exact⟨⟨_,rfl⟩,_,HE.o⟩
  ·obtain rfl:L=k:=by omega
   have hpb:p=b:=by omega
   have LM:=bx (show acc++T.word c xs a b=rC by
    rw [yD.o L (Nat.le_refl _) hno.o,<- HP.o,hpb,Xq.o];unfold T.word;rw [Nat.sub_self];simp [T.uM])
   have HE:=bx hsep.o;rw [<- LM.o] at HE;clear hbl hp;rw [hpb];clear hpb;go_wp2_with fail
   go_quiet (fail)
   have HE9:=bx (HE.o.drewN nq);go_wp2_with fail;exact bodyPost_ret (results_none rfl _ _ _) rfl ⟨⟨_,rfl⟩,_,HE9.o⟩
end
section
open Go.RowKit Go.Shelf
attribute [local go_sem] Oper.semAt_some
theorem al3 (t:Int) (w:World):Calls Tryz.prog 69 #[.int .i64 t] w λe w'=>e = .returned (.bool (!U.right t))/\w=w':=by
 have HR:=bx (λW=>OL t W)
 go_enter Tryz.func69,Tryz.ntmps69
 go_wp2_with fail;refine(HR.o _).mono ?_;rintro e w1 ⟨rfl,rfl⟩;go_wp2_with fail;go_ret
 exact⟨rfl,rfl⟩
theorem amn (v:Value) (xs:List Int) (w:World) (hv:ay w v xs) (hz:xs.length<=16777216) :
  Calls Tryz.prog 125 #[v, .func (.func 69) #[] #[]] w λe w'=>(∃ i:Int,e = .returned (.int .i64 i)/\decide (0<=i)=xs.any (λt=>!U.right t))/\w=w':=by
 have jw:=bx hv;obtain⟨ao,cap,rfl⟩:=hv.slice;have HO:=bx (λt=>al3 t w);clear hv
 go_enter Tryz.func125,Tryz.ntmps125
 go_wp2_with fail
 go_loop [8] (λi=>∃ k:Nat,k<=xs.length/\i = .int .i64 k/\Box ((xs.take k).any (λt=>!U.right t)=false)) (λi=>xs.length-(intOf i).toNat)
 case atStart=>exact⟨0,by omega,rfl,⟨rfl⟩⟩
 case round =>
  obtain⟨k,hk,rfl,ha⟩:=hrel
  by_cases hlt':k<xs.length
  ·obtain⟨x,hx⟩:∃ x,xs[k]?=some x:=⟨_,List.getElem?_eq_getElem hlt'⟩
   obtain⟨g,off,cap2,hg1,hg2,hg3,hg4,hg5⟩:=jw.o.get (by rintro rfl;simp at hlt');obtain⟨rfl,rfl⟩:ao=some ⟨g,off,none⟩/\cap=cap2:=by injection hg1 with h1 h2 h3;exact⟨h1,h3⟩
   have hcx:=hg5 k x hx;have HX:=bx hx;unfold maxLen at hg3;clear hx hg1 hg5
   cases hi:(λt=>!U.right t) x with
   | false =>
    have HT:=bx (show (xs.take (k+1)).any (λt=>!U.right t)=false by rw [List.take_add_one,HX.o,List.any_append,ha.o,Option.toList_some,List.any_cons,List.any_nil,Bool.or_false,Bool.false_or];exact hi);have HI:=bx hi;clear hi;go_wp2_with fail;refine(HO.o x).mono ?_;rintro e w1 ⟨rfl,rfl⟩;rw [HI.o];go_wp2_with fail
    go_round
    case rel=>exact⟨k+1,hlt',by go_num,HT⟩
    case measure=>simp [intOf];omega
   | true =>
    have HT:=bx (show xs.any (λt=>!U.right t)=true by rw [List.any_eq_true];exact⟨x,List.mem_of_getElem? HX.o,hi⟩);have HI:=bx hi;clear hi;go_wp2_with fail;refine(HO.o x).mono ?_;rintro e w1 ⟨rfl,rfl⟩;rw [HI.o];go_wp2_with fail;go_ret
    exact⟨⟨k,rfl,by rw [HT.o];simp⟩,rfl⟩
  ·have HT:=bx (show xs.any (λt=>!U.right t)=false by have:=ha.o;rwa [List.take_of_length_le (by omega)] at this);go_wp2_with fail;go_ret
   exact⟨⟨-1,rfl,by rw [HT.o];rfl⟩,rfl⟩
theorem Yc (v:Value) (xs:List Int) (w:World) (hv:ay w v xs) (hz:xs.length<=16777216) :
  Calls Tryz.prog 71 #[v, .func (.func 69) #[] #[]] w λe w'=>e = .returned (.bool (xs.any (λt=>!U.right t)))/\w=w':=by
 have HI:=bx (amn v xs w hv hz);clear hv
 go_enter Tryz.func71,Tryz.ntmps71
 go_wp2_with fail;refine HI.o.mono ?_;rintro e w1 ⟨⟨i,rfl,hi⟩,rfl⟩;have HX:=bx hi;clear hi;go_wp2_with fail;go_ret
 exact⟨aI (by simpa using HX.o),rfl⟩
theorem akH (x:Int) (w:World):Calls Tryz.prog 167 #[.int .i64 x] w λe w'=>e = .returned (.bool false)/\w=w':=by
 go_enter Tryz.func167,Tryz.ntmps167
 go_wp2
 go_ret
 exact⟨aI (by simp),rfl⟩
theorem ZW (x y:Int) (w:World):Calls Tryz.prog 126 #[.int .i64 x, .int .i64 y] w λe w'=>e = .returned (.bool (decide (x<y)))/\w=w':=by
 have H:=bx (λz W=>akH z W)
 go_enter Tryz.func126,Tryz.ntmps126
 go_wp2_with fail;refine(H.o _ _).mono ?_;rintro e w1 ⟨rfl,rfl⟩;go_wp2_with fail;go_ret
 exact⟨rfl,rfl⟩
def T.vk (l:List Int):Bool:=(List.range l.length).all λj=>decide (j=0)||decide (l.getD (j-1) 0<=l.getD j 0)
theorem T.ale {l:List Int} (h:∀ j,1<=j->j<l.length->l.getD (j-1) 0<=l.getD j 0):T.vk l=true:=by
 unfold T.vk;rw [List.all_eq_true];intro j hj;rw [List.mem_range] at hj
 rcases Nat.eq_zero_or_pos j with rfl | h0
 ·rfl
 ·rw [Bool.or_eq_true];exact .inr (decide_eq_true (h j h0 hj))
theorem T.akb {l:List Int} {j:Nat} (h1:1<=j) (hj:j<l.length) (h:l.getD j 0<l.getD (j-1) 0):T.vk l=false:=by
 rw [Bool.eq_false_iff];intro h2;unfold T.vk at h2;have:=List.all_eq_true.1 h2 j (List.mem_range.2 hj);rw [Bool.or_eq_true,decide_eq_true_eq,decide_eq_true_eq] at this;omega
theorem abJ (v:Value) (xs:List Int) (w:World) (hv:ay w v xs) (hz:xs.length<=16777216) :
  Calls Tryz.prog 72 #[v] w λe w'=>e = .returned (.bool (T.vk xs))/\Below w.heap.size w w':=by
 have HV:=bx (λW (h:Below w.heap.size w W)=>hv.below h);obtain⟨ao,cap,rfl⟩:=hv.slice;obtain⟨N,hN⟩:∃ N,xs.length=N:=⟨_,rfl⟩
 have HN:=bx hN;rw [hN] at hz HV ⊢;clear hv hN
 go_enter Tryz.func72,Tryz.ntmps72
 go_wp2_with fail
 go_loopw [3] (λi wr=>∃ z:Int,i = .int .i64 z/\-1<=z/\z<=(N:Int)-1/\Box (∀ j:Nat,z<j->1<=j->j<N->xs.getD (j-1) 0<=xs.getD j 0)/\Box (Below w.heap.size w wr)) (λi _=>(intOf i).toNat)
 case atStart=>exact⟨_,rfl,by omega,by omega,⟨λj h1 h2 h3=>by omega⟩,⟨Below.refl _ _⟩⟩
 case round =>
  obtain⟨z,rfl,hz1,hz2,hok,hb⟩:=hrel
  by_cases hlt:0<z
  ·obtain⟨p,hp⟩:∃ p:Nat,z=(p:Int)+1:=⟨(z-1).toNat,by omega⟩
   subst hp;have xE:p+1<N:=by omega
   obtain⟨x,hx⟩:∃ x,xs[p+1]?=some x:=⟨_,List.getElem?_eq_getElem (by rw [HN.o];exact xE)⟩
   obtain⟨y,hy⟩:∃ y,xs[p]?=some y:=⟨_,List.getElem?_eq_getElem (by rw [HN.o];omega)⟩
   obtain⟨g,off,cap2,hg1,hg2,hg3,hg4,hg5⟩:=(HV.o wr hb.o).get (by rintro rfl;simp at hx);rw [HN.o] at hg1 hg2;obtain⟨rfl,rfl⟩:ao=some ⟨g,off,none⟩/\cap=cap2:=by injection hg1 with h1 h2 h3;exact⟨h1,h3⟩
   have cx:=hg5 (p+1) x hx;have cy:=hg5 p y hy;have HX:=bx (show xs.getD (p+1) 0=x by rw [List.getD_eq_getElem?_getD,hx,Option.getD_some]);have HY:=bx (show xs.getD p 0=y by rw [List.getD_eq_getElem?_getD,hy,Option.getD_some]);unfold maxLen at hg3;clear hx hy hg1 hg5
   cases hc:decide (x<y) with
   | true =>
    have HF:=bx (show T.vk xs=false from T.akb (j:=p+1) (by omega) (by rw [HN.o];exact xE) (by rw [Nat.add_sub_cancel,HX.o,HY.o];exact of_decide_eq_true hc));have HL:=bx (λW=>hc▸ZW x y W);clear hc;go_wp2_with fail
    go_quiet ((go_at_call 126;exact fV (HL.o _)))
    have HB:=bx (hb.o.trans ((below_drewN (Below.refl wr.heap.size wr) nq).mono hb.o.size));go_wp2_with fail;go_ret
    exact⟨aI (by rw [HF.o]),HB.o⟩
   | false =>
    have nC:=bx (show ∀ j:Nat,(p:Int)<j->1<=j->j<N->xs.getD (j-1) 0<=xs.getD j 0 from λj h1 h2 h3=>by
     rcases Nat.lt_or_ge (p+1) j with h | h
     ·exact hok.o j (by omega) h2 h3
     ·obtain rfl:j=p+1:=by omega
      rw [Nat.add_sub_cancel,HX.o,HY.o];have:=of_decide_eq_false hc;omega)
    have HL:=bx (λW=>hc▸ZW x y W);clear hc;go_wp2_with fail
    go_quiet ((go_at_call 126;exact fV (HL.o _)))
    have HB:=bx (hb.o.trans ((below_drewN (Below.refl wr.heap.size wr) nq).mono hb.o.size));go_wp2_with fail
    go_roundw
    case rel=>exact⟨p,by go_num,by omega,by omega,nC,HB⟩
    case measure=>simp [intOf]
  ·have HT:=bx (show T.vk xs=true from T.ale (λj h1 h2=>hok.o j (by omega) h1 (by rw [<- HN.o];exact h2)));have hd:decide (0<z)=false:=decide_eq_false hlt;clear hlt;go_wp2_with fail;go_ret
   exact⟨aI (by rw [HT.o]),hb.o⟩
def T.Zg (g:Nat):Int:=if g=0 then 140 else if g=1 then 121 else if g=2 then 10 else 12
def T.ET (e:Int):Nat:=if e=140 then 0 else if e=121 then 1 else if e=10 then 2 else 3
def XT:List Nat:=[0,1,2,3]
theorem Nv (A:Nat->Addr) (B:Nat) (g:Nat) (hg:g∈XT) (w:World) (hE:E A B w) :
  Calls Tryz.prog 36 #[kH A g] w λe w'=>e = .returned (.int .i64 (T.Zg g))/\w=w':=by
 have h0:=hE.var 0 (by decide);have h1:=hE.var 1 (by decide);have h2:=hE.var 2 (by decide);have h3:=hE.var 3 (by decide);have HI:=bx (λk (hk:k∈Lc)=>Qh hE g k (by revert g;decide) hk);clear hE;unfold kH
 rcases List.mem_cons.1 hg with rfl | hg
 ·go_enter Tryz.func36,Tryz.ntmps36
  go_wp2_with fail;refine(HI.o 0 (by decide)).mono ?_;rintro e w1 ⟨rfl,rfl⟩;go_wp2_with fail;go_ret
  exact⟨rfl,rfl⟩
 rcases List.mem_cons.1 hg with rfl | hg
 ·go_enter Tryz.func36,Tryz.ntmps36
  go_wp2_with fail;refine(HI.o 0 (by decide)).mono ?_;rintro e w1 ⟨rfl,rfl⟩;go_wp2_with fail;refine(HI.o 1 (by decide)).mono ?_;rintro e w1 ⟨rfl,rfl⟩;go_wp2_with fail;go_ret
  exact⟨rfl,rfl⟩
 rcases List.mem_cons.1 hg with rfl | hg
 ·go_enter Tryz.func36,Tryz.ntmps36
  go_wp2_with fail;refine(HI.o 0 (by decide)).mono ?_;rintro e w1 ⟨rfl,rfl⟩;go_wp2_with fail;refine(HI.o 1 (by decide)).mono ?_;rintro e w1 ⟨rfl,rfl⟩;go_wp2_with fail;refine(HI.o 2 (by decide)).mono ?_;rintro e w1 ⟨rfl,rfl⟩;go_wp2_with fail;go_ret
  exact⟨rfl,rfl⟩
 obtain rfl:g=3:=by simpa using hg
 go_enter Tryz.func36,Tryz.ntmps36
 go_wp2_with fail;refine(HI.o 0 (by decide)).mono ?_;rintro e w1 ⟨rfl,rfl⟩;go_wp2_with fail;refine(HI.o 1 (by decide)).mono ?_;rintro e w1 ⟨rfl,rfl⟩;go_wp2_with fail;refine(HI.o 2 (by decide)).mono ?_;rintro e w1 ⟨rfl,rfl⟩;go_wp2_with fail;refine(HI.o 3 (by decide)).mono ?_;rintro e w1 ⟨rfl,rfl⟩;go_wp2_with fail;go_ret
 exact⟨rfl,rfl⟩
def T.fU (c:T.Cs) (xs pl:List Int):Int:=if T.wrong c xs≠0 then T.wrong c xs else if T.vk pl=false then 12 else 0
theorem U5 {l:List Int}:l.any (λt=>!U.right t)=!l.all U.right:=by
 rw [<- JY (p:=λt=>!U.right t) (q:=U.right) (λx=>rfl),Bool.not_not]
theorem PY (A:Nat->Addr) (B:Nat) (v aT pv:Value) (c:T.Cs) (xs pl:List Int) (w:World) (hv:bC w v c) (hs:T.Small c) (hl:ay w aT xs) (hz:xs.length<=100000) (hp:ay w pv pl) (hpz:pl.length<=100000) (hE:E A B w) (hB:B<=w.heap.size) (hne:T.fU c xs pl≠0) :
  Calls Tryz.prog 35 #[v,aT,pv] w λe w'=>e = .returned (.tuple #[.pointer none,kH A (T.ET (T.fU c xs pl))])/\Below w.heap.size w w':=by
 obtain⟨lv,tv,ci,cb,gi,gb,rfl,h1,h2,h3,h4,h5,h6⟩:=hv;obtain⟨V,hV⟩:∃ V,V=w.alloc (.cells #[lv,tv,ci,cb,gi,gb] 28):=⟨_,rfl⟩
 have HB0:=bx (show Below w.heap.size w V by rw [hV];exact aS _ _);have HK:=bx (show ak V w.heap.size 28 #[lv,tv,ci,cb,gi,gb] by rw [hV];exact ak.new _ _ _);have bU:=bx (λW (h:Below w.heap.size w W)=>show bC W (.agg #[lv,tv,ci,cb,gi,gb]) c from⟨lv,tv,ci,cb,gi,gb,rfl,h1.below h,h2.below h,h3.below h,h4.below h,h5.below h,h6.below h⟩);have aB:=bx (λW (h:Below V.heap.size V W)=>HK.o.c6 h);have HV:=bx hV;have dK:=bx (Qn _ c V (bU.o V HB0.o) hs);have oH:=bx (λW (h:Below w.heap.size w W)=>Yc aT xs W (hl.below h) (by omega));have HIS:=bx (λW (h:Below w.heap.size w W)=>abJ pv pl W (hp.below h) (by omega));have iZ:=bx (λW (h:Below w.heap.size w W)=>show E A B W from hE.below (h.mono hB));have qC:=bx hl;obtain⟨la,lc,rfl⟩:=hl.slice;obtain⟨N,hN⟩:∃ N,xs.length=N:=⟨_,rfl⟩
 rw [hN] at oH hz qC ⊢;have HN:=bx hN;have HZ:=bx hz;clear h1 h2 h3 h4 h5 h6 hs hV hl hN hp hE;obtain⟨k0,k1,k2,k3,k4,k5,kk⟩:=aB.o V (Below.refl _ _)
 by_cases hcb:T.cu 600 c=false
 ·have HQ:=bx hcb;have HE:=bx (show T.fU c xs pl=140 by unfold T.fU T.wrong;rw [if_pos hcb];rfl);clear hcb hne
  go_enter Tryz.func35,Tryz.ntmps35
  go_upto_region 1 with(fail)
  rw [<- HV.o];have g0:=(iZ.o V HB0.o).var 0 (by decide);go_wp2_with fail;refine sS 0 rfl ?_;go_wp2_with fail;refine dK.o.mono ?_;rintro e w1 ⟨rfl,hb1⟩;rw [HQ.o];have HB1:=bx (bt HB0.o hb1);have dU:=bx hb1;clear hb1 g0 k0 k1 k2 k3 k4 k5 kk;have g0:=(iZ.o w1 HB1.o).var 0 (by decide);go_wp2_with fail
  go_step3
  refine⟨rfl,?_⟩;go_wp2_with fail;rw [Exit.noGoto_ret];go_ret2
  exact⟨by rw [HE.o];rfl,HB1.o⟩
 ·rw [Bool.not_eq_false] at hcb;have HQ:=bx hcb
  by_cases h2:2000<N
  ·have yj:T.wrong c xs=121:=by unfold T.wrong;rw [hcb,if_neg (by simp),HN.o,if_pos h2]
   have HE:=bx (show T.fU c xs pl=121 by unfold T.fU;rw [yj];rfl);clear yj;have e1:decide ((2000:Int)<(N:Int))=true:=decide_eq_true (by omega);clear hcb hne h2
   go_enter Tryz.func35,Tryz.ntmps35
   go_upto_region 1 with(fail)
   rw [<- HV.o];have g0:=(iZ.o V HB0.o).var 0 (by decide);go_wp2_with fail;refine sS 0 rfl ?_;go_wp2_with fail;refine dK.o.mono ?_;rintro e w1 ⟨rfl,hb1⟩;rw [HQ.o];have HB1:=bx (bt HB0.o hb1);have dU:=bx hb1;clear hb1 g0 k0 k1 k2 k3 k4 k5 kk;have g1:=(iZ.o w1 HB1.o).var 1 (by decide);go_wp2_with fail
   go_step3
   refine⟨rfl,?_⟩;go_wp2_with fail;rw [Exit.noGoto_ret];go_ret2
   exact⟨by rw [HE.o];rfl,HB1.o⟩
  ·have e1:decide ((2000:Int)<(N:Int))=false:=decide_eq_false (by omega)
   by_cases h3:xs.all U.right=false
   ·have yj:T.wrong c xs=10:=by unfold T.wrong;rw [hcb,if_neg (by simp),HN.o,if_neg h2,if_pos h3]
    have HE:=bx (show T.fU c xs pl=10 by unfold T.fU;rw [yj];rfl);clear yj;have HA:=bx (show xs.any (λt=>!U.right t)=true by rw [U5,h3];rfl);clear hcb hne h2 h3
    go_enter Tryz.func35,Tryz.ntmps35
    go_upto_region 1 with(fail)
    rw [<- HV.o];have g0:=(iZ.o V HB0.o).var 0 (by decide);go_wp2_with fail;refine sS 0 rfl ?_;go_wp2_with fail;refine dK.o.mono ?_;rintro e w1 ⟨rfl,hb1⟩;rw [HQ.o];have HB1:=bx (bt HB0.o hb1);have dU:=bx hb1;clear hb1 g0 k0 k1 k2 k3 k4 k5 kk;have g1:=(iZ.o w1 HB1.o).var 1 (by decide);have g2:=(iZ.o w1 HB1.o).var 2 (by decide);go_wp2_with fail;refine(oH.o w1 HB1.o).mono ?_;rintro e w2 ⟨rfl,rfl⟩;rw [HA.o];go_wp2_with fail
    go_step3
    refine⟨rfl,?_⟩;go_wp2_with fail;rw [Exit.noGoto_ret];go_ret2
    exact⟨by rw [HE.o];rfl,HB1.o⟩
   ·rw [Bool.not_eq_false] at h3;have yD:=bx (show T.wrong c xs=0 by unfold T.wrong;rw [hcb,if_neg (by simp),HN.o,if_neg h2,if_neg (by rw [h3];simp)]);have HU:=bx (show T.vk pl=false by
     rw [Bool.eq_false_iff];intro h;refine hne ?_;unfold T.fU;rw [yD.o,if_neg (by simp),if_neg (by rw [h];simp)])
    have HE:=bx (show T.fU c xs pl=12 by unfold T.fU;rw [yD.o,if_neg (by simp),if_pos HU.o]);have HA:=bx (show xs.any (λt=>!U.right t)=false by rw [U5,h3];rfl);clear hcb hne h2 h3
    go_enter Tryz.func35,Tryz.ntmps35
    go_upto_region 1 with(fail)
    rw [<- HV.o];have g0:=(iZ.o V HB0.o).var 0 (by decide);go_wp2_with fail;refine sS 0 rfl ?_;go_wp2_with fail;refine dK.o.mono ?_;rintro e w1 ⟨rfl,hb1⟩;rw [HQ.o];have HB1:=bx (bt HB0.o hb1);have dU:=bx hb1;clear hb1 g0 k0 k1 k2 k3 k4 k5 kk;have g1:=(iZ.o w1 HB1.o).var 1 (by decide);have g2:=(iZ.o w1 HB1.o).var 2 (by decide);have g3:=(iZ.o w1 HB1.o).var 3 (by decide);go_wp2_with fail;refine(oH.o w1 HB1.o).mono ?_;rintro e w2 ⟨rfl,rfl⟩;rw [HA.o];go_wp2_with fail;refine(HIS.o w1 HB1.o).mono ?_;rintro e w3 ⟨rfl,hb3⟩;rw [HU.o];have HB3:=bx (bt HB1.o hb3);clear hb3 g1 g2 g3;go_wp2_with fail
    go_step3
    refine⟨rfl,?_⟩;go_wp2_with fail;rw [Exit.noGoto_ret];go_ret2
    exact⟨by rw [HE.o];rfl,HB3.o⟩
theorem OU (A:Nat->Addr) (B:Nat) (v aT pv:Value) (c:T.Cs) (xs pl:List Int) (w:World) (hv:bC w v c) (hs:T.Small c) (hl:ay w aT xs) (hz:xs.length<=100000) (hp:ay w pv pl) (hpz:pl.length<=100000) (hE:E A B w) (hB:B<=w.heap.size) (hne:T.fU c xs pl=0) :
  Calls Tryz.prog 35 #[v,aT,pv] w λe w'=>∃ lv tv ci cb gi gb g km,v = .agg #[lv,tv,ci,cb,gi,gb]/\e = .returned (.tuple #[.pointer (some ⟨g,0,none⟩), .nilIface])/\Sep (outW w.heap.size g km lv tv ci cb gi gb aT (.slice none 0 0) [] c [Pc.old w.heap.size w]) w':=by
 obtain⟨lv,tv,ci,cb,gi,gb,rfl,h1,h2,h3,h4,h5,h6⟩:=hv;obtain⟨V,hV⟩:∃ V,V=w.alloc (.cells #[lv,tv,ci,cb,gi,gb] 28):=⟨_,rfl⟩
 have HB0:=bx (show Below w.heap.size w V by rw [hV];exact aS _ _);have HK:=bx (show ak V w.heap.size 28 #[lv,tv,ci,cb,gi,gb] by rw [hV];exact ak.new _ _ _);have bU:=bx (λW (h:Below w.heap.size w W)=>show bC W (.agg #[lv,tv,ci,cb,gi,gb]) c from⟨lv,tv,ci,cb,gi,gb,rfl,h1.below h,h2.below h,h3.below h,h4.below h,h5.below h,h6.below h⟩);have aB:=bx (λW (h:Below V.heap.size V W)=>HK.o.c6 h);have HV:=bx hV;have dK:=bx (Qn _ c V (bU.o V HB0.o) hs);have oH:=bx (λW (h:Below w.heap.size w W)=>Yc aT xs W (hl.below h) (by omega));have HIS:=bx (λW (h:Below w.heap.size w W)=>abJ pv pl W (hp.below h) (by omega));have iZ:=bx (λW (h:Below w.heap.size w W)=>show E A B W from hE.below (h.mono hB));have qC:=bx hl;obtain⟨la,lc,rfl⟩:=hl.slice;obtain⟨N,hN⟩:∃ N,xs.length=N:=⟨_,rfl⟩
 rw [hN] at oH hz qC ⊢;have HN:=bx hN;have HZ:=bx hz;clear h1 h2 h3 h4 h5 h6 hs hV hl hN hp hE;obtain⟨k0,k1,k2,k3,k4,k5,kk⟩:=aB.o V (Below.refl _ _);have hwz:T.wrong c xs=0:=by
  unfold T.fU at hne
  split at hne
  ·rename_i h;exact absurd hne h
  ·rename_i h;simpa using h
 have HU:=bx (show T.vk pl=true by
  unfold T.fU at hne;rw [if_neg (by rw [hwz];simp)] at hne
  split at hne
  ·cases hne
  ·rename_i h;simpa using h)
 obtain⟨jy,oO,jq⟩:=T.pI hwz;have HQ:=bx jy;have HA:=bx (show xs.any (λt=>!U.right t)=false by rw [U5,List.all_eq_true.2 jq];rfl);rw [HN.o] at oO;have e1:decide ((2000:Int)<(N:Int))=false:=decide_eq_false (by omega);have hmm:=@run_makeMap Tryz.prog;clear hwz hne jy oO jq
 go_enter Tryz.func35,Tryz.ntmps35
 go_upto_region 1 with(fail)
 rw [<- HV.o];have g0:=(iZ.o V HB0.o).var 0 (by decide);go_wp2_with fail;refine sS 0 rfl ?_;go_wp2_with fail;refine dK.o.mono ?_;rintro e w1 ⟨rfl,hb1⟩;rw [HQ.o];have HB1:=bx (bt HB0.o hb1);have dU:=bx hb1;clear hb1 g0 k0 k1 k2 k3 k4 k5 kk;have g1:=(iZ.o w1 HB1.o).var 1 (by decide);have g2:=(iZ.o w1 HB1.o).var 2 (by decide);have g3:=(iZ.o w1 HB1.o).var 3 (by decide);go_wp2_with fail;refine(oH.o w1 HB1.o).mono ?_;rintro e w2 ⟨rfl,rfl⟩;rw [HA.o];go_wp2_with fail;refine(HIS.o w1 HB1.o).mono ?_;rintro e w3 ⟨rfl,hb3⟩;rw [HU.o];have HB3:=bx (bt HB1.o hb3);obtain⟨k0,k1,k2,k3,k4,k5,kk⟩:=aB.o w3 (bt dU.o hb3);clear hb3 g1 g2 g3;go_wp2_with fail;rw [yN];have hk:lU (w3.alloc (.map #[] 0)) w3.heap.size c:=⟨#[],0,World.alloc_heap_new w3 _,λx hx=>by simp at hx,λq v hq=>by simp [Am,Instr.findNow] at hq⟩
 have hs1:Sep (Pc.known w3.heap.size c::[Pc.old w.heap.size w]) (w3.alloc (.map #[] 0)):=((Sep.start w).below HB3.o).add (aS w3 (.map #[] 0)) (p:=Pc.known w3.heap.size c) hk (λk hk=>by rw [show k=w3.heap.size from hk];exact Nat.le_refl _);have hs2:=(hs1.dh 79 #[lv,tv,ci,cb,gi,gb, .map (some w3.heap.size), .slice la N lc, .slice none 0 0]).fP w.heap.size 1 3;rw [show (w3.alloc (.map #[] 0)).heap.size=w3.heap.size+1 from by simp] at hs2;have HS2:=bx hs2;clear hs1 hs2 hk;go_ret2
 exact⟨lv,tv,ci,cb,gi,gb,w3.heap.size+1,w3.heap.size,rfl,rfl,HS2.o⟩
end
section
open Go.RowKit Go.Extern.Stop Go.Stop Go.Extern
attribute [local go_sem] Oper.semAt_some
def Ah (w:World):Prop:=w.cell? ⟨7,0,none⟩=some (.iface 244 (.agg #[.pointer (some ⟨10,68,none⟩)]))
theorem ahp (w:World) (g:Nat) (cs:Array Value):Turns (λk=>k=g) w (w.setRow g cs) :=
 ⟨rfl,rfl,rfl,by simp [World.setRow],λk _ ho=>setRow_other w g k cs (λe=>ho e)⟩
theorem as_hit (l n:Int) (tb:Nat) (o1 o2:Value) (w:World) (hg:Ah w) (ht:ak w tb 259 #[o1,o2]) :
  Calls Tryz.prog 174 #[.iface 259 (.agg #[.int .i64 l, .int .i64 n]), .iface 261 (.pointer (some ⟨tb,0,none⟩))] w λe w'=>e = .returned (.bool true)/\ak w' tb 259 #[.int .i64 l, .int .i64 n]/\Turns (λk=>k=tb) w w':=by
 have h6:=@run_callFunc_extern Tryz.prog 195 _ (λargs=>ReflectliteValue.unpack (args.getD 0 (.tuple #[]))) Tryz.func195 (by kernel_rfl) (by kernel_rfl) (by kernel_rfl) (by kernel_rfl);have h7:=@run_callFunc_extern Tryz.prog 196 _ (ReflectliteValue.methodAny (ReflectliteValue.valueError "reflectlite.Value.Type" 0) (λt _ _ _=>ReflectliteType.toType t)) Tryz.func196 (by kernel_rfl) (by kernel_rfl) (by kernel_rfl) (by kernel_rfl);have h8:=@run_callFunc_extern Tryz.prog 197 _ (ReflectliteValue.method (ReflectliteValue.valueError "reflectlite.Value.IsNil" 0) ReflectliteValue.isNil) Tryz.func197 (by kernel_rfl) (by kernel_rfl) (by kernel_rfl) (by kernel_rfl);have h27:=@run_callFunc_extern Tryz.prog 266 _ (ReflectliteType.abiMethod λt=>do pure (.int .u8 (<- Rtype.kind t))) Tryz.func266 (by kernel_rfl) (by kernel_rfl) (by kernel_rfl) (by kernel_rfl);have h37:=@run_callFunc_extern Tryz.prog 274 _ (ReflectliteType.method ReflectliteType.elem) Tryz.func274 (by kernel_rfl) (by kernel_rfl) (by kernel_rfl) (by kernel_rfl);have h38:=@run_callFunc_extern Tryz.prog 275 _ (ReflectliteType.relation "Implements" ReflectliteType.implements_) Tryz.func275 (by kernel_rfl) (by kernel_rfl) (by kernel_rfl) (by kernel_rfl);have h10:=@run_callFunc_extern Tryz.prog 127 _ ReflectliteType.typeOf Tryz.func127 (by kernel_rfl) (by kernel_rfl) (by kernel_rfl) (by kernel_rfl);have h35:=@run_callFunc_extern Tryz.prog 272 _ (ReflectliteType.relation "AssignableTo" ReflectliteType.assignableTo) Tryz.func272 (by kernel_rfl) (by kernel_rfl) (by kernel_rfl) (by kernel_rfl);have h11:=@run_callFunc_extern Tryz.prog 211 _ (ReflectliteValue.method (ReflectliteValue.valueError "reflectlite.Value.Elem" 0) ReflectliteValue.elem) Tryz.func211 (by kernel_rfl) (by kernel_rfl) (by kernel_rfl) (by kernel_rfl);have h12:=@run_callFunc_extern Tryz.prog 212 _ ReflectliteValue.set Tryz.func212 (by kernel_rfl) (by kernel_rfl) (by kernel_rfl) (by kernel_rfl);have tO:=As.anp;have mA:=As.methodAssignableTo;have aW:=As.afE;have vW:=As.aiU;have f6:=As.akK;have f7:=As.agu;have mK:=As.methodKind;have mE:=As.methodElem;have mI:=As.methodImplements;have kP:=As.ajf;have kW:=As.aiB;have eP:=As.aib;have iW:=As.ajO;obtain⟨W1,hW1⟩:∃ W1,W1=w.alloc (.cells #[.pointer (some ⟨tb,0,none⟩)] 261):=⟨_,rfl⟩
 obtain⟨W2,hW2⟩:∃ W2,W2=W1.alloc (.cells #[.pointer (some ⟨10,261,none⟩), .pointer (some ⟨w.heap.size,0,none⟩), .int .u64 150] 289):=⟨_,rfl⟩
 obtain⟨W3,hW3⟩:∃ W3,W3=W2.alloc (.cells #[.pointer (some ⟨10,261,none⟩), .pointer (some ⟨w.heap.size,0,none⟩), .int .u64 150] 289):=⟨_,rfl⟩
 obtain⟨W4,Qy⟩:∃ W4,W4=W3.alloc (.cells #[.int .i64 l, .int .i64 n] 259):=⟨_,rfl⟩
 have b1:Below w.heap.size w W1:=by rw [hW1];exact aS _ _
 have b2:Below W1.heap.size W1 W2:=by rw [hW2];exact aS _ _
 have b3:Below W2.heap.size W2 W3:=by rw [hW3];exact aS _ _
 have b4:Below W3.heap.size W3 W4:=by rw [Qy];exact aS _ _
 have k1:ak W1 w.heap.size 261 #[.pointer (some ⟨tb,0,none⟩)]:=by rw [hW1];exact ak.new _ _ _
 have k4:ak W4 W3.heap.size 259 #[.int .i64 l, .int .i64 n]:=by rw [Qy];exact ak.new _ _ _
 have t1:=ht.below b1 ht.lt;have t2:=t1.below b2 t1.lt;have t3:=t2.below b3 t2.lt;have t4:=t3.below b4 t3.lt;have hg0:7<w.heap.size:=World.block_lt_of_cell? w _ hg;have n8:=As.akv ⟨w.heap.size,0,none⟩ ⟨tb,0,none⟩ W2 (((k1.below b2 k1.lt).cell 0).trans rfl);have hg2:W2.cell? ⟨7,0,none⟩=some (.iface 244 (.agg #[.pointer (some ⟨10,68,none⟩)])):=(b2.cell (p:=⟨7,0,none⟩) (Nat.lt_of_lt_of_le hg0 b1.size)).trans ((b1.cell (p:=⟨7,0,none⟩) hg0).trans hg);have el:=As.elemV ⟨w.heap.size,0,none⟩ ⟨tb,0,none⟩ W3 ((((k1.below b2 k1.lt).below b3 (k1.below b2 k1.lt).lt).cell 0).trans rfl);have st:=As.setW tb W3.heap.size (.int .i64 l) (.int .i64 n) o1 o2 W4 k4 t4 rfl rfl;have BH:=bx (show Turns (λk=>k=tb) w (W4.setRow tb #[.int .i64 l, .int .i64 n]) from
  (Turns.of_below (b1.trans ((b2.trans ((bt b3 b4).mono b2.size)).mono b1.size))).trans (ahp W4 tb _))
 have dV:=bx (t4.setRow #[.int .i64 l, .int .i64 n]);rw [Qy,hW3,hW2,hW1] at BH dV st;rw [hW3,hW2,hW1] at el;rw [hW2,hW1] at hg2 n8;clear b1 b2 b3 b4 k1 k4 t1 t2 t3 t4 hW1 hW2 hW3 Qy hg hg0 ht;simp only [World.size_alloc] at st
 go_enter Tryz.func174,Tryz.ntmps174
 go_wp2
 refine wp_loop_rounds 1 ?_;rw [rounds_succ]
 go_wp2
 go_ret
 exact⟨rfl,dV.o,BH.o⟩
theorem anl (l n:Int) (w:World) (hg:Ah w) :
  Calls Tryz.prog 139 #[.iface 259 (.agg #[.int .i64 l, .int .i64 n])] w λe w'=>e = .returned (.tuple #[.int .i64 l, .int .i64 n])/\Below w.heap.size w w':=by
 obtain⟨V,hV⟩:∃ V,V=w.alloc (.cells #[.int .i64 0, .int .i64 0] 259):=⟨_,rfl⟩
 have HB:=bx (show Below w.heap.size w V by rw [hV];exact aS _ _);have HK:=bx (show ak V w.heap.size 259 #[.int .i64 0, .int .i64 0] by rw [hV];exact ak.new _ _ _);have HV:=bx hV;have HA:=bx (as_hit l n w.heap.size (.int .i64 0) (.int .i64 0) V ((HB.o.cell (p:=⟨7,0,none⟩) (World.block_lt_of_cell? w _ hg)).trans hg) HK.o);clear hV hg
 go_enter Tryz.func139,Tryz.ntmps139
 go_upto_region 2 with(fail)
 rw [<- HV.o];go_wp2_with fail;refine HA.o.mono ?_;rintro e w1 ⟨rfl,hk1,ht1⟩;have HB1:=bx (HB.o.trans (ht1.below HB.o.size (λk hk=>by omega)));have x0:w1.cell? ⟨w.heap.size,0,none⟩=some (.int .i64 l):=(hk1.cell 0).trans rfl;have x1:w1.cell? ⟨w.heap.size,1,none⟩=some (.int .i64 n):=(hk1.cell 1).trans rfl;clear hk1 ht1;go_wp2_with fail
 go_quiet (fail)
 have HB2:=bx (HB1.o.trans ((below_drewN (Below.refl w1.heap.size w1) nq).mono HB1.o.size));go_wp2_with fail;go_ret2
 exact⟨rfl,HB2.o⟩
theorem aij (l n:Int) (w:World) (hg:Ah w) :
  Calls Tryz.prog 92 #[.iface 259 (.agg #[.int .i64 l, .int .i64 n])] w λe w'=>e = .returned (.int .i64 n)/\Below w.heap.size w w':=by
 have HT:=bx (anl l n w hg);clear hg
 go_enter Tryz.func92,Tryz.ntmps92
 go_wp2_with fail;refine HT.o.mono ?_;rintro e w1 ⟨rfl,hb1⟩;have HB:=bx hb1;clear hb1;go_wp2_with fail;go_ret
 exact⟨rfl,HB.o⟩
theorem aaG (l n:Int) (hn:n≠0) (w:World) :
  Calls Tryz.prog 137 #[.int .i64 l, .int .i64 n] w λe w'=>e = .returned (.iface 259 (.agg #[.int .i64 l, .int .i64 n]))/\w=w':=by
 have h1:(n != 0)=true:=by rw [bne_iff_ne];exact hn
 clear hn
 go_enter Tryz.func137,Tryz.ntmps137
 go_wp2
 go_ret
 exact⟨rfl,rfl⟩
end
section
open Go.RowKit Go.Shelf
attribute [local go_sem] Oper.semAt_some
theorem alZ (p:Option Addr) (v:Value) (w:World) (hv:∃ a n c,v = .slice a n c) :
  Calls Tryz.prog 180 #[.pointer p,v] w λe w'=>e = .returned (.func (.func 205) #[] #[.pointer (some ⟨w.heap.size+1,0,none⟩), .pointer (some ⟨w.heap.size,0,none⟩)]) /\
   (w.alloc (.cells #[.pointer p] 262)).alloc (.cells #[v] 23)=w':=by
 obtain⟨a,n,c,rfl⟩:=hv
 go_enter Tryz.func180,Tryz.ntmps180
 go_wp2
 go_ret
 exact⟨rfl,rfl⟩
structure I9 (cb sb xb sg so sc fg fo fc n kc:Nat) (ko:Option Addr) (nv rv:Value) (S F:List Int) (W:World):Prop where
 c:ak W cb 264 #[nv, .slice (some ⟨fg,fo,none⟩) F.length fc,rv, .slice ko n kc]
 s:ak W sb 23 #[.slice (some ⟨sg,so,none⟩) S.length sc]
 x:ak W xb 262 #[.pointer (some ⟨cb,0,none⟩)]
 ss:∀ i v,S[i]?=some v->W.cell? ⟨sg,so+i,none⟩=some (.int .i64 v)
 ff:∀ i v,F[i]?=some v->W.cell? ⟨fg,fo+i,none⟩=some (.int .i64 v)
theorem I9.same {cb sb xb sg so sc fg fo fc n kc:Nat} {ko:Option Addr} {nv rv:Value} {S F:List Int} {W W':World} (h:I9 cb sb xb sg so sc fg fo fc n kc ko nv rv S F W) {K:Nat->Prop} (hk:K cb/\K sb/\K xb/\K sg/\K fg) (hb:∀ k,K k->W'.heap[k]?=W.heap[k]?):I9 cb sb xb sg so sc fg fo fc n kc ko nv rv S F W' :=
 ⟨(hb _ hk.1).trans h.c,(hb _ hk.2.1).trans h.s,(hb _ hk.2.2.1).trans h.x,λi v hi=>(World.cell?_of_block (hb sg hk.2.2.2.1)).trans (h.ss i v hi),λi v hi=>(World.cell?_of_block (hb fg hk.2.2.2.2)).trans (h.ff i v hi)⟩
def wu (n k:Nat):List Nat:=(List.range (min (k-1) (n-1))).map (·+1)
theorem ahW {n k:Nat} (h1:0<k) (h2:k<n):wu n (k+1)=wu n k++[k]:=by
 unfold wu;rw [show min (k+1-1) (n-1)=min (k-1) (n-1)+1 by omega,List.range_succ,List.map_append];simp;omega
theorem aax {n k:Nat} (h:k=0\/n<=k):wu n (k+1)=wu n k:=by
 unfold wu
 congr 2
 omega
theorem akc (n k:Nat):(wu n k).length=min (k-1) (n-1):=by simp [wu]
def AO (S F:List Int) (p:Nat):Int:=F.getD (S.getD p 0).toNat 0
theorem akC (m:Nat) (K:Nat->Prop) (cb sb xb sg so sc fg fo fc n kc:Nat) (ko:Option Addr) (nv rv:Value) (S F:List Int) (hS:S.length=n+1) (hsc:S.length<=sc/\sc<=9223372036854775807) (hfc:F.length<=fc/\fc<=9223372036854775807) (hn:n<=1000000)
  (Jl:∀ x∈S,0<=x/\x<F.length) (hK:K cb/\K sb/\K xb/\K sg/\K fg) (l:Nat) (W1:World) (hP:I9 cb sb xb sg so sc fg fo fc n kc ko nv rv S F W1) :
  Qk (m+1) Tryz.prog 205 #[.pointer (some ⟨sb,0,none⟩), .pointer (some ⟨xb,0,none⟩)] (λx:Nat=>#[.int .i64 x, .int .i64 (AO S F x)]) (λ_=>False) K (λpre x=>x=pre.length+1/\x<n)
   (λxs _=>xs=wu n (n+1)) l W1:=by
 intro J Jx hJ hJx hY h0;have HY:=bx hY;have HJ:=bx hJ;have gu:=bx Jl;have HK:=bx hK;have HS:=bx hS;have c0:W1.cell? ⟨sb,0,none⟩=some (.slice (some ⟨sg,so,none⟩) S.length sc):=(hP.s.cell 0).trans rfl;clear hY hJ Jl hK;refine callsIn_of_wp Tryz.func205 rfl trivial ?_;simp only [Tryz.ntmps205,List.size_toArray,List.length_cons,List.length_nil,Nat.reduceAdd,Nat.reduceSub,Array.replicate_succ,Array.replicate_zero,List.push_toArray,List.append_toArray,List.nil_append,List.cons_append]
 gi_wp2
 refine wpIn_wide.2 (wp_scope_straight ((wpIn_wide (n:=m+1)).1 ?_))
 gi_wp2
 refine wpIn_label ?_
 gi_wp2
 clear c0
 gi_loopw [8] (λi wr=>∃ k:Nat,k<=n+1/\i = .int .i64 k/\Box (I9 cb sb xb sg so sc fg fo fc n kc ko nv rv S F wr)/\Box (J (wu n k) wr)) (λi _=>n+1-(intOf i).toNat)
 case atStart=>exact⟨0,Nat.zero_le _,rfl,⟨hP⟩,⟨h0⟩⟩
 case round =>
  obtain⟨k,hk,rfl,hp,hj⟩:=hrel;clear hP h0
  by_cases hlt:k<n+1
  ·obtain⟨s,hs⟩:∃ s,S[k]?=some s:=⟨_,List.getElem?_eq_getElem (by omega)⟩
   obtain⟨s0,s1⟩:=gu.o s (List.mem_of_getElem? hs);obtain⟨q,rfl⟩:=Int.eq_ofNat_of_zero_le s0;have hqF:q<F.length:=by omega
   obtain⟨f,hf⟩:∃ f,F[q]?=some f:=⟨_,List.getElem?_eq_getElem hqF⟩
   have d0:=hp.o.ss k _ hs;have d1:=hp.o.ff q f hf;have d2:wr.cell? ⟨xb,0,none⟩=some (.pointer (some ⟨cb,0,none⟩)):=(hp.o.x.cell 0).trans rfl;have d3:wr.cell? ⟨cb,3,none⟩=some (.slice ko n kc):=(hp.o.c.cell 3).trans rfl;have d4:wr.cell? ⟨cb,1,none⟩=some (.slice (some ⟨fg,fo,none⟩) F.length fc):=(hp.o.c.cell 1).trans rfl;have hcl:=hp.o.c.lt;have wZ:=bx (show AO S F k=f by
    unfold AO;rw [show S.getD k 0=(q:Int) by rw [List.getD_eq_getElem?_getD,hs];rfl,Int.toNat_natCast,List.getD_eq_getElem?_getD,hf]
    rfl)
   obtain⟨sc1,sc2⟩:=hsc;obtain⟨fc1,BI⟩:=hfc;clear hs hf s0 s1
   rcases (show k=0\/(0<k/\k=n)\/(0<k/\k<n) by omega) with h | ⟨hk0,h⟩ | ⟨h,h'⟩
   ·have HM:=bx (aax (n:=n) (k:=k) (.inl h));have d0':wr.cell? ⟨sg,so,none⟩=some (.int .i64 (q:Int)):=by rw [h,Nat.add_zero] at d0;exact d0
    clear d0;subst h;simp only [show ((0:Nat):Int)=0 from rfl]
    gi_wp2
    go_roundw
    case rel=>exact⟨1,by omega,by go_num,hp,⟨by rw [show (1:Nat)=0+1 from rfl,HM.o];exact hj.o⟩⟩
    case measure=>simp [intOf] <;> omega
   ·have HM:=bx (aax (n:=n) (k:=k) (.inr (by omega)));have t0:((k:Int)==0)=false:=by rw [beq_eq_false_iff_ne];omega
    have t1:((k:Int)==(n:Int))=true:=by rw [beq_iff_eq];omega
    clear h hk0
    gi_wp2
    go_roundw
    case rel=>exact⟨k+1,by omega,by go_num,hp,⟨by rw [HM.o];exact hj.o⟩⟩
    case measure=>simp [intOf];omega
   ·have HM:=bx (ahW h h');have t0:((k:Int)==0)=false:=by rw [beq_eq_false_iff_ne];omega
    have t1:((k:Int)==(n:Int))=false:=by rw [beq_eq_false_iff_ne];omega
    have hy:=HY.o (wu n k) k wr hj.o ⟨by rw [akc];omega,h'⟩;rw [wZ.o] at hy;obtain⟨fn,tmps,assign,body,hy,uO⟩:=hy;have Cb:=bx uO;clear uO h h'
    gi_wp2
    refine Cb.o.mono ?_;rintro e W3 (⟨rfl,hj3,hk3⟩ | ⟨rfl,hx3⟩)
    ·have HP3:=bx (hp.o.same HK.o (λk hk=>hk3.block k hk));have AQ:=bx hj3;clear hj3 hk3
     gi_wp2
     go_roundw
     case rel=>exact⟨k+1,by omega,by go_num,HP3,⟨by rw [HM.o];exact AQ.o⟩⟩
     case measure=>simp [intOf];omega
    ·gi_wp2
     rw [Exit.noGoto_normal]
     go_end0
     exact⟨⟨_,rfl⟩, .inr ⟨_,hx3⟩⟩
  ·obtain rfl:k=n+1:=by omega
   gi_wp2
   rw [Exit.noGoto_normal]
   go_end0
   exact⟨⟨_,rfl⟩, .inl ⟨_,rfl,hj.o⟩⟩
end
section
open Go.RowKit
def sD (n:Nat) (L:List Int) (k:Nat):Array Value:=((D.cuts n (L.take k)++L.drop k).map (Value.int .i64)).toArray
theorem aeD (n:Nat) (L:List Int):sD n L 0=(L.map (Value.int .i64)).toArray:=by simp [sD,D.cuts]
theorem alq (n:Nat) (L:List Int):sD n L L.length=((D.cuts n L).map (Value.int .i64)).toArray:=by simp [sD]
theorem XH {n:Nat} {L:List Int} {k:Nat} {c:Int} (h:L[k]?=some c):(sD n L k)[k]?=some (.int .i64 c):=by
 have hk:=(List.getElem?_eq_some_iff.1 h).1;unfold sD;rw [List.getElem?_toArray,List.getElem?_map,List.getElem?_append_right (by unfold D.cuts;rw [List.length_map,List.length_take];omega)];rw [show k-(D.cuts n (L.take k)).length=0 by unfold D.cuts;rw [List.length_map,List.length_take];omega,List.getElem?_drop,Nat.add_zero,h]
 rfl
theorem RG {n:Nat} {L:List Int} {k:Nat} {c:Int} (h:L[k]?=some c):(sD n L k).setIfInBounds k (.int .i64 (D.cut n c))=sD n L (k+1):=by
 have hk:=(List.getElem?_eq_some_iff.1 h).1;have hd:L.drop k=c::L.drop (k+1):=by
  rw [List.drop_eq_getElem_cons hk]
  congr 1
  exact(List.getElem?_eq_some_iff.1 h).2
 have ht:D.cuts n (L.take (k+1))=D.cuts n (L.take k)++[D.cut n c]:=by
  unfold D.cuts;rw [List.take_add_one,h,List.map_append]
  rfl
 have hl:(D.cuts n (L.take k)).length=k:=by unfold D.cuts;rw [List.length_map,List.length_take];omega
 unfold sD;rw [ht,hd,List.setIfInBounds_toArray,List.map_append,List.map_cons,List.map_append,List.map_append,List.append_assoc]
 congr 1
 rw [List.set_append_right _ _ (by rw [List.length_map,hl];exact Nat.le_refl _),List.length_map,hl,Nat.sub_self]
 rfl
theorem al1 {n:Nat} {L:List Int} {k:Nat} {c:Int} (h:L[k]?=some c) (hc:D.cut n c=c):sD n L k=sD n L (k+1):=by
 rw [<- RG h,hc];have hg:=XH (n:=n) h
 apply Array.ext'
 rw [Array.toList_setIfInBounds]
 apply List.ext_getElem?
 intro j;rw [List.getElem?_set]
 split
 ·rename_i e
  subst e;rw [Array.getElem?_toList,hg]
  split
  ·rfl
  ·rename_i hn
   exact absurd (by have:=(Array.getElem?_eq_some_iff.1 hg).1;simpa using this) hn
 ·rfl
theorem alx {w:World} {g:Nat} {T:TypeId} {xs:List Int} (h:ak w g T (xs.map (Value.int .i64)).toArray) (hz:xs.length<=1000000):ay w (.slice (some ⟨g,0,none⟩) xs.length xs.length) xs :=
 .inr ⟨g,0,none,xs.length,rfl,Nat.le_refl _,by unfold maxLen;omega,λ_=>⟨rfl,h.lt,λi x hx=>by
  rw [Nat.zero_add];refine(h.cell i).trans ?_;rw [List.getElem?_toArray,List.getElem?_map,hx]
  rfl⟩⟩
theorem ajA {n g:Nat} {w W:World} (h:Below n w W) (hg:n<=g) (cs:Array Value):Below n w (W.setRow g cs) :=
 h.trans ⟨rfl,rfl,rfl,by simp [World.setRow],λk hk=>setRow_other W g k cs (by omega)⟩
theorem ak1 (L:Nat) (h:L<=1000000) (w:World):(Instr.makeSlice 23 (.int .i64 (L:Int)) (.int .i64 (L:Int))).run Tryz.prog w = .ok (.slice (some ⟨w.heap.size,0,none⟩) L L) (w.alloc (.cells (Array.replicate L (.int .i64 0)) 3)):=by
 have hi:(Tryz.prog.info? 3).map (λi=>(i.zero,i.size,i.bytes))=some (some (.int .i64 0),1,8):=by kernel_rfl
 obtain⟨z,hz,hz2⟩:=Option.map_eq_some_iff.1 hi;simp only [Prod.mk.injEq] at hz2;have hz:=And.intro hz hz2;have:=run_makeSlice (P:=Tryz.prog) (w:=w) 23 3 z (.int .i64 0) Tryz.underlying23 hz.1 hz.2.1 .i64 .i64 L L (by omega) (by omega) (by rw [hz.2.2.1];simp;omega) (by rw [hz.2.2.2];omega) (by omega);have e:madeCells (Value.int .i64 0).cells ((L:Int).toNat*z.size)=Array.replicate L (.int .i64 0):=by
  rw [hz.2.2.1,Int.toNat_natCast,Nat.mul_one]
  apply Array.ext'
  rw [Array.toList_replicate];exact toList_madeCells_one (Value.int .i64 0) L
 rw [this,e,Int.toNat_natCast]
theorem an4 (v:Value) (L:List Int) (w:World) (hv:ay w v L) (_hz:L.length<=1000000):∃ W2 q,(∀ ty,(Builtin.copy_ #[23,23] ty #[.slice (some ⟨w.heap.size,0,none⟩) L.length L.length,v]).run Tryz.prog (w.alloc (.cells (Array.replicate L.length (.int .i64 0)) 3)) = .ok (goInt q) W2)/\ak W2 w.heap.size 3 (L.map (Value.int .i64)).toArray/\Below w.heap.size w W2:=by
 have hs:(Tryz.prog.info? 3).map (·.size)=some 1:=by kernel_rfl
 have hb0:=aS w (.cells (Array.replicate L.length (.int .i64 0)) 3);have hk0:=ak.new w 3 (Array.replicate L.length (.int .i64 0));have hv1:=hv.below hb0
 rcases hv1 with⟨rfl,rfl⟩ | ⟨b,off,sp,cap,rfl,h2,h3,h4⟩
 ·exact⟨_,0,λty=>run_copy_none _ _ _ ty _ _ _ _ _ _ _ Tryz.underlying23 hs (by simp),hk0,hb0⟩
 ·by_cases hn:L=[]
  ·subst hn;exact⟨_,0,λty=>run_copy_none _ _ _ ty _ _ _ _ _ _ _ Tryz.underlying23 hs (by simp),hk0,hb0⟩
  ·obtain⟨rfl,h5,h6⟩:=h4 hn;have hsz:(Array.replicate L.length (Value.int .i64 0)).size=L.length:=Array.size_replicate;refine⟨_,_,λty=>run_copy_row (P:=Tryz.prog) _ _ _ ty _ w.heap.size 0 L.length L.length ⟨b,off,none⟩ L.length cap (Array.replicate L.length (.int .i64 0)) 3 (L.map (Value.int .i64)) Tryz.underlying23 hs hk0 (by simp) (λj u hu=>?_) (by rw [List.length_map,hsz];omega) (λu hu=>?_),?_,ajA hb0 (Nat.le_refl _) _⟩
   ·rw [List.getElem?_map] at hu
    cases hx:L[j]? with
    | none=>rw [hx] at hu;cases hu
    | some x =>
     rw [hx] at hu
     cases hu;rw [show (⟨b,off,none⟩:Addr).add j=⟨b,off+j,none⟩ by unfold Addr.add;by_cases h0:j=0 <;> simp [h0]];exact h6 j x hx
   ·obtain⟨y,-,rfl⟩:=List.mem_map.1 hu
    rfl
   ·have e:((Array.replicate L.length (Value.int .i64 0)).toList.take 0++L.map (Value.int .i64)++(Array.replicate L.length (Value.int .i64 0)).toList.drop (0+(L.map (Value.int .i64)).length))=L.map (Value.int .i64):=by simp
    rw [e];exact setRow_heap _ w.heap.size _ _ 3 (0,0) hk0
theorem ak9 (v:Value) (L:List Int) (nn:Nat) (w:World) (hv:ay w v L) (hz:L.length<=1000000) :
  Calls Tryz.prog 178 #[v, .int .i64 nn] w λe w'=>e = .returned (.slice (some ⟨w.heap.size,0,none⟩) L.length L.length)/\ak w' w.heap.size 3 ((D.cuts nn L).map (Value.int .i64)).toArray/\Below w.heap.size w w':=by
 have hmk:=ak1 L.length hz w;obtain⟨W2,q,hcp,hk2,hb2⟩:=an4 v L w hv hz;have lN:=bx hk2;have HB2:=bx hb2;obtain⟨ao,cap,rfl⟩:=hv.slice;clear hv hk2 hb2
 go_enter Tryz.func178,Tryz.ntmps178
 go_wp2_with fail;clear hmk hcp
 go_loopw [16] (λi wr=>∃ k:Nat,k<=L.length/\i = .int .i64 k/\Box (ak wr w.heap.size 3 (sD nn L k))/\Box (Below w.heap.size w wr)) (λi _=>L.length-(intOf i).toNat)
 case atStart=>exact⟨0,Nat.zero_le _,rfl,⟨by rw [aeD];exact lN.o⟩,HB2⟩
 case round =>
  obtain⟨k,hk,rfl,hbk,hb⟩:=hrel;clear lN
  by_cases hlt:k<L.length
  ·obtain⟨c,hc⟩:∃ c,L[k]?=some c:=⟨_,List.getElem?_eq_getElem hlt⟩
   have hcc:=(hbk.o.cell k).trans (XH hc);have hfz:=hbk.o.frozen k;have HC:=bx hc;clear hc
   rcases Int.lt_or_le c 0 with h0 | h0
   ·have HN:=bx (show (sD nn L k).setIfInBounds k (.int .i64 (-1))=sD nn L (k+1) by rw [<- RG HC.o];unfold D.cut;rw [if_pos (.inl h0)]);go_wp2_with fail
    go_roundw
    case rel=>exact⟨k+1,hlt,by go_num,⟨by rw [<- HN.o];exact hbk.o.bP k _⟩,⟨hb.o.setCell (Nat.le_refl _) _⟩⟩
    case measure=>simp [intOf];omega
   rcases Int.lt_or_le c nn with h1 | h1
   ·have HN:=bx (al1 (n:=nn) HC.o (by unfold D.cut;rw [if_neg (by omega)]));go_wp2_with fail
    go_roundw
    case rel=>exact⟨k+1,hlt,by go_num,⟨by rw [<- HN.o];exact hbk.o⟩,hb⟩
    case measure=>simp [intOf];omega
   ·have HN:=bx (show (sD nn L k).setIfInBounds k (.int .i64 (-1))=sD nn L (k+1) by rw [<- RG HC.o];unfold D.cut;rw [if_pos (.inr h1)]);go_wp2_with fail
    go_roundw
    case rel=>exact⟨k+1,hlt,by go_num,⟨by rw [<- HN.o];exact hbk.o.bP k _⟩,⟨hb.o.setCell (Nat.le_refl _) _⟩⟩
    case measure=>simp [intOf];omega
  ·have HI:=bx (show ak wr w.heap.size 3 ((D.cuts nn L).map (Value.int .i64)).toArray by
    have h1:k=L.length:=by omega
    have h2:=hbk.o
    rwa [h1,alq] at h2)
   go_wp2_with fail;go_ret
   exact⟨rfl,HI.o,hb.o⟩
end
section
open Go.RowKit Go.Shelf
attribute [local go_sem] Oper.semAt_some
theorem OC (W:World) (xs:List Int) (T:TypeId) (n:Nat) (hn:n=xs.length) (hz:n<=1000000) (cs:Array Value) (hc:cs=(xs.map (Value.int .i64)).toArray):ay (W.alloc (.cells cs T)) (.slice (some ⟨W.heap.size,0,none⟩) n n) xs:=by
 subst hn hc;refine .inr ⟨W.heap.size,0,none,xs.length,rfl,Nat.le_refl _,by unfold maxLen;omega,λ_=>⟨rfl,by simp,λi x hx=>?_⟩⟩;rw [Nat.zero_add,cell_of_row _ _ _ _ _ _ (heap_alloc_new W _)];simp [hx]
end
end Go.Proofs.YtlmdjifffmofeaaGreatDoor
