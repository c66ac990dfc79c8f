/- Texts of this claim. -/
import Derived.Test.YtdponihkpomheaaGreatDoorH15

set_option maxRecDepth 100000
set_option maxHeartbeats 16000000
namespace Go.Proofs.YtdponihkpomheaaGreatDoor
open Go.RowKit
attribute [local go_sem] Oper.semAt_some
open Tryz
theorem axE (p:Option Addr) (a st:Int) (w:World) :
  Calls prog 331 #[.pointer p, ah a, ah st] w λe w'=>e = .returned (.func (.func 337) #[] #[aA (w.heap.size+1), aA (w.heap.size+1+1), aA (w.heap.size)]) /\
   ((w.alloc (.cells #[.pointer p] 225)).alloc (.cells #[ah a] 3)).alloc (.cells #[ah st] 3)=w':=by
 go_in
 go_wp2
 go_ret
 exact⟨rfl,rfl⟩
theorem T.ahL {c:T.Cs}:∀ {xs rest:List Int},(∀ y∈xs,T.cased c y=false)->(rest=[]\/∃ ys y,xs=ys++[y]/\T.fP c y=false)->T.meets c (xs++rest)=false
 | [],rest,_,h=>by
  rcases h with rfl | ⟨ys,y,h,-⟩
  ·rfl
  simp at h
 | x::t,rest,hc,h=>by
  rw [jd];unfold T.meets;rw [hc x (jZ ..),Bool.false_or]
  cases hi:T.fP c x with
  | false=>rfl
  | true =>
   rw [Bool.true_and];refine T.ahL (λy hy=>hc y (mZ _ hy)) ?_
   rcases h with h | ⟨ys,y,h1,h2⟩
   ·exact .inl h
   cases ys with
   | nil =>
    simp only [iJ,jm] at h1;rw [h1.1,h2] at hi
    cases hi
   | cons z zs =>
    simp only [jd,jm] at h1;exact .inr ⟨zs,y,h1.2,h2⟩
theorem T.ab2 {c:T.Cs} {x:Int} {rest:List Int} (hx:T.cased c x=true):∀ {pre:List Int},(∀ y∈pre,T.fP c y=true)->T.meets c (pre++x::rest)=true
 | [],_=>by rw [iJ];unfold T.meets;rw [hx,Bool.true_or]
 | y::t,h=>by
  rw [jd];unfold T.meets;rw [h y (jZ ..),Bool.true_and,T.ab2 hx (λz hz=>h z (mZ _ hz)),Bool.or_true]
def H9 (ba bs bw g km:Nat) (a st:Int) (cs:Array Value) (c:T.Cs) (ps:List Pc):List Pc :=
 Pc.blk ba 3 #[ah a]::Pc.blk bs 3 #[ah st]::Pc.blk bw 225 #[aA g]::Pc.blk g 232 cs::Pc.known km c::ps
def Z4 (ps:List Pc) (k:Nat):Prop:=∃ p∈ps,p.fp k
theorem Sep.kept {ps:List Pc} {W W':World} {own:Nat->Prop} (h:Sep ps W) (ht:Turns own W W') (ho:∀ k,own k->¬ Z4 ps k):Sep ps W':=h.keep ht (λp hp k hk hok=>ho k hok ⟨p,hp,hk⟩)
structure Way (xs seq:List Int) (a st:Int) (pos:Nat->Int) (ms:Int->Nat):Prop where
 a0:0<=a
 a1:a<=100000
 s0:-1<=st
 s1:st<=1
 p0:pos 0=a+st
 ps:∀ k,pos (k+1)=pos k+st
 ms:∀ k,k<=seq.length->ms (pos k)=seq.length-k
 in_:∀ k x,seq[k]?=some x->∃ p:Nat,pos k=p/\xs[p]?=some x
 o:pos seq.length<0\/(0<=pos seq.length/\(xs.length:Int)<=pos seq.length)
def acs (ba bs bw g km:Nat) (a st:Int) (cs:Array Value) (c:T.Cs) (ps:List Pc) (seq pre:List Int) (x:Int) (W:World):Prop:=(∃ rest,seq=pre++x::rest)/\(∀ y∈pre,T.fP c y=true)/\Sep (H9 ba bs bw g km a st cs c ps) W
def aay (ba bs bw g km:Nat) (a st:Int) (cs:Array Value) (c:T.Cs) (ps:List Pc) (seq xs:List Int) (W:World):Prop:=Sep (H9 ba bs bw g km a st cs c ps) W/\∃ rest,seq=xs++rest/\(rest=[]\/∃ ys y,xs=ys++[y]/\T.fP c y=false)
theorem axJ (n:Nat) (ba bs bw g km:Nat) (a st:Int) (lv tv ci cb gi gb lval ov:Value) (c:T.Cs) (hs:T.Small c) (hc:T.lI 600 c=true) (ps:List Pc) (xs seq:List Int) (hx:∀ x∈xs,U.right x=true) (hz:xs.length<=100000)
  (hR:∀ W,Sep ps W->o8 W (.agg #[lv,tv,ci,cb,gi,gb]) c/\aN W lval xs) (pos:Nat->Int) (ms:Int->Nat) (hw:Way xs seq a st pos ms) (l:Nat) (W1:World)
  (hS:Sep (H9 ba bs bw g km a st #[lv,tv,ci,cb,gi,gb, .map (some km),lval,ov] c ps) W1) :
  aeL (n+1) prog 337 #[aA ba, aA bs, aA bw] (λx:Int=>#[.agg #[.bool (T.cased c x), .bool (T.fP c x)]]) (λk=>k=km) (Z4 (H9 ba bs bw g km a st #[lv,tv,ci,cb,gi,gb, .map (some km),lval,ov] c ps))
   (acs ba bs bw g km a st #[lv,tv,ci,cb,gi,gb, .map (some km),lval,ov] c ps seq) (aay ba bs bw g km a st #[lv,tv,ci,cb,gi,gb, .map (some km),lval,ov] c ps seq) l W1:=by
 intro J Jx hJ hJx hY h0;obtain⟨PP,FW⟩:∃ PP,PP=H9 ba bs bw g km a st #[lv,tv,ci,cb,gi,gb, .map (some km),lval,ov] c ps:=⟨_,rfl⟩
 have Hg:=bx FW;rw [<- FW] at hY;have HYY:=bx (λpre x (W0 W:World) (hj:J pre W0) (ht:Turns (λk=>k=km) W0 W) (h1:∃ rest,seq=pre++x::rest) (h2:∀ y∈pre,T.fP c y=true) (h3:Sep PP W)=>hY pre x W0 W hj ht ⟨h1,h2,by rw [<- FW];exact h3⟩);clear hY;have HJ:=bx hJ;have HR:=bx hR;have HW:=bx hw;have BG:=bx hx;have Hz:=bx hs;have CV:=bx hc;have dK:=bx (λxs' W (h:Sep PP W) (rest:List Int) (h1:seq=xs'++rest) (h2:rest=[]\/∃ ys y,xs'=ys++[y]/\T.fP c y=false)=>show aay ba bs bw g km a st #[lv,tv,ci,cb,gi,gb, .map (some km),lval,ov] c ps seq xs' W from⟨by rw [<- FW];exact h,rest,h1,h2⟩);rw [<- FW] at hS;have bQ:=bx hS;obtain⟨L,hL⟩:∃ L,seq.length=L:=⟨_,rfl⟩
 have qj:=bx hL;obtain⟨N,hN⟩:∃ N,xs.length=N:=⟨_,rfl⟩
 have HN:=bx hN;have HG:=bx (λW (h:Sep PP W)=>show aC W ba 3 #[ah a]/\aC W bs 3 #[ah st]/\aC W bw 225 #[aA g]/\aC W g 232 #[lv,tv,ci,cb,gi,gb, .map (some km),lval,ov]/\nS W km c/\Sep ps W from by
  rw [FW] at h;exact⟨h.blk 0 rfl,h.blk 1 rfl,h.blk 2 rfl,h.blk 3 rfl,h.at' 4 rfl,h.tail.tail.tail.tail.tail⟩)
 have BK:=bx (λW W' (h:Sep PP W) (ht:Turns (λk=>k=km) W W') (hk:nS W' km c)=>show Sep PP W' from by
  rw [FW] at h ⊢;exact h.upd (own:=λk=>k=km) 4 rfl ht (λ_ h _=>h) (p':=Pc.known km c) hk (λ_ h=>.inl h))
 obtain⟨q1,q2,q3,q4,q5,q6⟩:=HG.o W1 bQ.o;have wc0:W1.cell? ⟨ba,0,none⟩=some (ah a):=(q1.cell 0).trans rfl;have wc1:W1.cell? ⟨bs,0,none⟩=some (ah st):=(q2.cell 0).trans rfl;have ha0:=hw.a0;have ha1:=hw.a1;have hs0:=hw.s0;have hs1:=hw.s1;have QX:=bx hw.p0;rw [hN] at hz;have h0:=bx h0;clear hJ hR hw hx hs hc hS FW hJx q1 q2 q3 q4 q5 q6 hL hN;refine callsIn_of_wp func337 rfl trivial ?_;simp only [ntmps337,qH,dY,iG,Nat.reduceAdd,Nat.reduceSub,rE,qW,ou,qQ,iJ,jd]
 gi_wp2
 refine wpIn_wide.2 (wp_scope_straight ((wpIn_wide (n:=n+1)).1 ?_))
 gi_wp2
 refine wpIn_label ?_
 gi_wp2
 clear wc0 wc1
 gi_loopw [5] (λi wr=>∃ k:Nat,k<=L/\(∃ z:Int,i = ah z/\Box (z=pos k))/\Box (∀ y∈seq.take k,T.fP c y=true)/\Box (Sep PP wr)/\Box (J (seq.take k) wr)) (λi _=>ms (intOf i))
 ·exact⟨0,nK _,⟨_,rfl,⟨by rw [QX.o]⟩⟩,⟨by simp⟩,bQ,h0⟩
 obtain⟨k,hk,⟨z,rfl,hzp⟩,hig,hsep,hj⟩:=hrel;obtain⟨q1,q2,q3,q4,q5,q6⟩:=HG.o wr hsep.o;have B2:=bx q2;have B3:=bx q3;have B4:=bx q4;have zZ:=bx q5;have wH:=bx q6;obtain⟨lo,lc,hlv⟩:=(HR.o wr q6).2.slice;rw [HN.o] at hlv;subst hlv;have c0:wr.cell? ⟨bs,0,none⟩=some (ah st):=(q2.cell 0).trans rfl;have c1:wr.cell? ⟨bw,0,none⟩=some (aA g):=(q3.cell 0).trans rfl;have c2:wr.cell? ⟨g,7,none⟩=some (.slice lo N lc):=(q4.cell 7).trans rfl;clear q1 q2 q3 q4 q5 q6 h0
 by_cases hlt:k<L
 ·obtain⟨x,hx⟩:=bV seq k (by rw [qj.o];exact hlt);obtain⟨p,hp,hpx⟩:=HW.o.in_ k x hx;have Jp:p<N:=by rw [<- HN.o];exact(dO hpx).1
  have MB:=bx hp;obtain rfl:z=(p:Int):=by rw [hzp.o,hp]
  obtain⟨lg,off,cap2,hg1,hg2,hg3,hg4,hg5⟩:=((HR.o wr wH.o).2).get (by rintro rfl;simp at hpx);rw [HN.o] at hg1 hg2;obtain⟨rfl,rfl⟩:=dQ hg1;have hcx:=hg5 p x hpx;have Uz:=bx hcx;have Bf:=bx (BG.o x (dB hpx));have nH:=bx (show seq.take (k+1)=seq.take k++[x] by rw [jw,hx];rfl);have jC:=bx (show seq=seq.take k++x::seq.drop (k+1) by
   have e:=zS (l:=seq) (i:=k) (by rw [qj.o];exact hlt);rw [(dO hx).2] at e;rw [<- e];exact(oN k seq).symm)
  have e0:decide ((0:Int)<=(p:Int))=true:=bD (by omega);have e1:decide ((p:Int)<(N:Int))=true:=bD (by omega);have Yo:p<=100000:=by omega
  unfold maxLen at hg3;clear hx hpx hp hg1 hg5
  gi_wp2
  refine wpIn_wide.2 ?_;have O9:=bx (aib (λk=>k=km) wr 1);have dP:=bx (hsep.o.drewN 1);have dH:=bx (show wr.drew.cell? ⟨bw,0,none⟩=some (aA g)/\wr.drew.cell? ⟨g,7,none⟩=some (.slice (some ⟨lg,off,none⟩) N lc)/\wr.drew.cell? ⟨lg,off+p,none⟩=some (ah x) from⟨c1,c2,hcx⟩);refine jl 10 (λW'=>ay W' bw 0=some (aA g)/\ay W' g 7=some (.slice (some ⟨lg,off,none⟩) N lc)/\ay W' lg (off+p)=some (ah x)) (by kernel_rfl) ?_;have O9:=bx (show Turns (λk=>k=km) wr wr.drew from O9.o);have dP:=bx (show Sep PP wr.drew from dP.o);have aX:=bx (show ak wr wr.drew from jg wr 1);clear c0 c1 c2 hcx;generalize wr.drew=WR at O9 dP dH aX ⊢;refine jB [0,1,2,3,4,5,6,7,8,9] ?_
  iterate 10 (refine jA ?_ rfl dH.o ?_ ?_;rotate_left;·rintro w ⟨q1,q2,q3⟩;go_simp;try with_reducible rfl)
  refine jr ?_;refine Qg (rs:=[10,11]) (by kernel_rfl) (by simp) (rD.cons rfl (λKK au=>?_) (rD.cons rfl (λKK au=>?_) rD.nil))
  ·go_simp;obtain⟨q1,q2,q3,q4,q5,q6⟩:=HG.o WR dP.o;refine(YJ g km lv tv ci cb gi gb _ ov c x WR q4 (HR.o WR q6).1 Hz.o CV.o Bf.o q5).mono ?_;rintro e w4 ⟨rfl,FT,hk4⟩;have dJ:=bx (BK.o WR w4 dP.o FT hk4);have HT4:=bx (O9.o.trans FT);clear FT hk4 q1 q2 q3 q4 q5 q6;refine au.out _ _ (λh=>by cases h) ?_;clear au KK;refine kP 11 rfl λKK au=>?_
   go_simp;refine au.out _ _ (λh=>by cases h) ?_;clear au KK;refine kP 12 rfl λKK au=>?_
   go_simp;refine au.out _ _ (λh=>by cases h) ?_;clear au KK;refine kD ?_ _;have vN:=bx (aC.new w4 329 #[.bool (T.cased c x), .bool (T.fP c x)]);have Df:=bx (HT4.o.trans (Turns.alloc w4 (.cells #[.bool (T.cased c x), .bool (T.fP c x)] 329)));have wK:=bx (dJ.o.alloc (.cells #[.bool (T.cased c x), .bool (T.fP c x)] 329));have hq:=HT4.o.size;generalize w4.alloc (.cells #[.bool (T.cased c x), .bool (T.fP c x)] 329)=wx at vN Df wK ⊢;generalize w4.heap.size=q at vN hq ⊢;have y0:wx.cell? ⟨q,0,none⟩=some (.bool (T.cased c x)):=(vN.o.cell 0).trans rfl;have y1:wx.cell? ⟨q,1,none⟩=some (.bool (T.fP c x)):=(vN.o.cell 1).trans rfl;have yl:=vN.o.lt;have hy0:=HYY.o (seq.take k) x wr wx hj.o Df.o ⟨_,jC.o⟩ hig.o wK.o;obtain⟨fn,tmps,assign,body,hy,lT⟩:=hy0;have rV:=bx lT;clear lT
   gi_wp2
   refine rV.o.mono ?_;rintro e W3 (⟨rfl,hj3,ht3⟩ | ⟨rfl,hx3⟩)
   ·have aS:=bx (Sep.kept wK.o ht3 (λk hk hkk=>hk (.inl hkk)));have iL:=bx (ht3.blk vN.o (λhn=>hn (.inr ⟨hq,vN.o.lt⟩)));have sK:=bx hj3;obtain⟨q1,q2,q3,q4,q5,q6⟩:=HG.o W3 aS.o;have c0:W3.cell? ⟨bs,0,none⟩=some (ah st):=(q2.cell 0).trans rfl;have z1:W3.cell? ⟨q,1,none⟩=some (.bool (T.fP c x)):=(iL.o.cell 1).trans rfl;clear hj3 ht3 y0 y1 hy yl q1 q2 q3 q4 q5 q6;have BP:=bx (dK.o (seq.take k++[x]) W3 aS.o (seq.drop (k+1)) (by rw [pz];exact jC.o))
    cases hi:T.fP c x with
    | true =>
     rw [hi] at z1;have HI:=bx hi;clear hi
     gi_wp2
     go_roundw
     ·exact⟨k+1,hlt,⟨_,rfl,⟨by rw [HW.o.ps,MB.o]⟩⟩,⟨λy hy=>by
      rw [nH.o] at hy
      rcases lM.1 hy with hy | hy
      ·exact hig.o y hy
      rw [fU] at hy;rw [hy];exact HI.o⟩,aS,by rw [nH.o];exact sK⟩
     have h1:=HW.o.ms k (by rw [qj.o];omega);have h2:=HW.o.ms (k+1) (by rw [qj.o];omega);rw [HW.o.ps,MB.o] at h2;rw [MB.o] at h1;rw [qj.o] at h1 h2;simp only [intOf];omega
    | false =>
     rw [hi] at z1;have CQ:=bx (BP.o (.inr ⟨_,_,rfl,hi⟩));clear hi
     gi_wp2
     rw [Exit.noGoto_normal]
     go_end0
     exact⟨⟨_,rfl⟩, .inl ⟨_,CQ.o,sK.o⟩⟩
   gi_wp2
   rw [Exit.noGoto_normal]
   go_end0
   exact⟨⟨_,rfl⟩, .inr ⟨_,hx3⟩⟩
  go_simp;obtain⟨q1,q2,q3,q4,q5,q6⟩:=HG.o WR dP.o;have CU:=bx q5.lt;have hb3:=q3.lt;have hb4:=q4.lt;have hb5:lg<WR.heap.size:=fC hg4 aX.o.size;have HAB:=bx (dA WR (.cells #[.bool false, .bool false] 329));have uH:=bx (dP.o.alloc (.cells #[.bool false, .bool false] 329));have Vw:=bx (aC.new WR 329 #[.bool false, .bool false]);have yG:=bx (show (WR.alloc (.cells #[.bool false, .bool false] 329)).cell? ⟨bw,0,none⟩=some (aA g)/\(WR.alloc (.cells #[.bool false, .bool false] 329)).cell? ⟨g,7,none⟩=some (.slice (some ⟨lg,off,none⟩) N lc)/\(WR.alloc (.cells #[.bool false, .bool false] 329)).cell? ⟨lg,off+p,none⟩=some (ah x) from
   ⟨(HAB.o.cell (p:=⟨bw,0,none⟩) hb3).trans dH.o.1,(HAB.o.cell (p:=⟨g,7,none⟩) hb4).trans dH.o.2.1,(HAB.o.cell (p:=⟨lg,off+p,none⟩) hb5).trans dH.o.2.2⟩)
  have J6:=bx (Turns.alloc (own:=λk=>wr.heap.size<=k\/k=km) WR (.cells #[.bool false, .bool false] 329));clear q1 q2 q3 q4 q5 q6 hb3 hb4 hb5;refine au.out _ _ (λ_=>yG.o) ?_;clear au KK;generalize WR.alloc (.cells #[.bool false, .bool false] 329)=WA at HAB uH Vw yG J6 ⊢;refine kP 10 rfl λKK au=>?_
  go_simp;obtain⟨q1,q2,q3,q4,q5,q6⟩:=HG.o WA uH.o;refine(YJ g km lv tv ci cb gi gb _ ov c x WA q4 (HR.o WA q6).1 Hz.o CV.o Bf.o q5).mono ?_;rintro e w4 ⟨rfl,FT,hk4⟩;have dJ:=bx (BK.o WA w4 uH.o FT hk4);have HT4:=bx FT;have Js:=bx (FT.blk Vw.o (by have:=CU.o;omega));clear FT hk4 q1 q2 q3 q4 q5 q6;have z0:w4.cell? ⟨WR.heap.size,0,none⟩=some (.bool false):=(Js.o.cell 0).trans rfl;have z1:w4.cell? ⟨WR.heap.size,1,none⟩=some (.bool false):=(Js.o.cell 1).trans rfl;have f0:=Js.o.frozen 0;have f1:=Js.o.frozen 1;have zl:=Js.o.lt;refine au.out _ _ (λh=>by cases h) ?_;clear au KK;refine kP 12 rfl λKK au=>?_
  go_simp;refine au.out _ _ (λh=>by cases h) ?_;clear au KK;refine kD ?_ _;have hq:wr.heap.size<=WR.heap.size:=aX.o.size;have Nc:=bx ((Turns.setCell (own:=λk=>k=WR.heap.size) w4 (p:=⟨WR.heap.size,0,none⟩) rfl (.bool (T.cased c x))).trans (Turns.setCell (own:=λk=>k=WR.heap.size) _ (p:=⟨WR.heap.size,1,none⟩) rfl (.bool (T.fP c x))));have vN:=bx ((Js.o.bJ 0 (.bool (T.cased c x))).bJ 1 (.bool (T.fP c x)));have Df:=bx (Xo (own:=λk=>k=km) aX.o ((J6.o.trans (HT4.o.mono (λk h=>.inr h))).trans (Nc.o.mono (λk h=>.inl (by rw [h];exact hq)))));have wK:=bx (dJ.o.keep Nc.o (λp hp k hk e=>by have:=dP.o.lt hp hk;omega));generalize (w4.setCell ⟨WR.heap.size,0,none⟩ (.bool (T.cased c x))).setCell ⟨WR.heap.size,1,none⟩ (.bool (T.fP c x))=wx at vN Df wK ⊢;clear z0 z1 f0 f1 zl Js Nc J6 Vw HAB yG dH uH dJ HT4 O9 dP aX CU;generalize WR.heap.size=q at vN hq ⊢;have vN:=bx (show aC wx q 329 #[.bool (T.cased c x), .bool (T.fP c x)] from vN.o);have y0:wx.cell? ⟨q,0,none⟩=some (.bool (T.cased c x)):=(vN.o.cell 0).trans rfl;have y1:wx.cell? ⟨q,1,none⟩=some (.bool (T.fP c x)):=(vN.o.cell 1).trans rfl;have yl:=vN.o.lt;have hy0:=HYY.o (seq.take k) x wr wx hj.o Df.o ⟨_,jC.o⟩ hig.o wK.o;obtain⟨fn,tmps,assign,body,hy,lT⟩:=hy0;have rV:=bx lT;clear lT
  gi_wp2
  refine rV.o.mono ?_;rintro e W3 (⟨rfl,hj3,ht3⟩ | ⟨rfl,hx3⟩)
  ·have aS:=bx (Sep.kept wK.o ht3 (λk hk hkk=>hk (.inl hkk)));have iL:=bx (ht3.blk vN.o (λhn=>hn (.inr ⟨hq,vN.o.lt⟩)));have sK:=bx hj3;obtain⟨q1,q2,q3,q4,q5,q6⟩:=HG.o W3 aS.o;have c0:W3.cell? ⟨bs,0,none⟩=some (ah st):=(q2.cell 0).trans rfl;have z1:W3.cell? ⟨q,1,none⟩=some (.bool (T.fP c x)):=(iL.o.cell 1).trans rfl;clear hj3 ht3 y0 y1 hy yl q1 q2 q3 q4 q5 q6;have BP:=bx (dK.o (seq.take k++[x]) W3 aS.o (seq.drop (k+1)) (by rw [pz];exact jC.o))
   cases hi:T.fP c x with
   | true =>
    rw [hi] at z1;have HI:=bx hi;clear hi
    gi_wp2
    go_roundw
    ·exact⟨k+1,hlt,⟨_,rfl,⟨by rw [HW.o.ps,MB.o]⟩⟩,⟨λy hy=>by
     rw [nH.o] at hy
     rcases lM.1 hy with hy | hy
     ·exact hig.o y hy
     rw [fU] at hy;rw [hy];exact HI.o⟩,aS,by rw [nH.o];exact sK⟩
    have h1:=HW.o.ms k (by rw [qj.o];omega);have h2:=HW.o.ms (k+1) (by rw [qj.o];omega);rw [HW.o.ps,MB.o] at h2;rw [MB.o] at h1;rw [qj.o] at h1 h2;simp only [intOf];omega
   | false =>
    rw [hi] at z1;have CQ:=bx (BP.o (.inr ⟨_,_,rfl,hi⟩));clear hi
    gi_wp2
    rw [Exit.noGoto_normal]
    go_end0
    exact⟨⟨_,rfl⟩, .inl ⟨_,CQ.o,sK.o⟩⟩
  gi_wp2
  rw [Exit.noGoto_normal]
  go_end0
  exact⟨⟨_,rfl⟩, .inr ⟨_,hx3⟩⟩
 obtain rfl:k=L:=by omega
 have Jk:=bx (show seq=seq.take k++[] by rw [oG,gq (by rw [qj.o];exact bK _)]);have uZ:=bx (dK.o (seq.take k) wr hsep.o [] Jk.o (.inl rfl));have hout:=HW.o.o;rw [qj.o,<- hzp.o,HN.o] at hout
 rcases hout with hout | ⟨ho1,ho2⟩
 ·have e0:decide ((0:Int)<=z)=false:=dh (by omega);clear hout
  gi_wp2
  rw [Exit.noGoto_normal]
  go_end0
  exact⟨⟨_,rfl⟩, .inl ⟨_,uZ.o,hj.o⟩⟩
 have e0:decide ((0:Int)<=z)=true:=bD (by omega);have e1:decide (z<(N:Int))=false:=dh (by omega);clear ho1 ho2
 gi_wp2
 rw [Exit.noGoto_normal]
 go_end0
 exact⟨⟨_,rfl⟩, .inl ⟨_,uZ.o,hj.o⟩⟩
theorem Vo {own own':Nat->Prop} {A B:World} (h:Turns own A B) (hm:∀ k,own k->k<A.heap.size->own' k):Turns own' A B:=⟨h.os,h.tape,h.output,h.size,λi hi ho=>h.block i hi (λe=>ho (hm i e hi))⟩
theorem ajm (g km:Nat) (a st:Int) (lv tv ci cb gi gb lval ov:Value) (c:T.Cs) (hs:T.Small c) (hc:T.lI 600 c=true) (ps:List Pc) (xs seq:List Int) (hx:∀ x∈xs,U.right x=true) (hz:xs.length<=100000)
  (hR:∀ W,Sep ps W->o8 W (.agg #[lv,tv,ci,cb,gi,gb]) c/\aN W lval xs) (pos:Nat->Int) (ms:Int->Nat) (hw:Way xs seq a st pos ms) (w:World)
  (hS:Sep (Pc.blk g 232 #[lv,tv,ci,cb,gi,gb, .map (some km),lval,ov]::Pc.known km c::ps) w) :
  Calls prog 318 #[aA g, ah a, ah st] w λe w'=>e = .returned (.bool (T.meets c seq))/\Turns (λk=>k=km) w w'/\nS w' km c:=by
 have hkl:km<w.heap.size:=(hS.at' 1 (p:=Pc.known km c) rfl:nS w km c).lt;have HS:=bx hS;clear hS;refine(callsIn_wide (n:=9)).1 (callsIn_of_wp_marks func318 rfl trivial (wpIn_wide.2 ?_));simp only [ntmps318,qH,dY,iG,Nat.reduceAdd,Nat.reduceSub,rE,qW,ou,qQ,iJ,jd];go_wp2_with (go_at_call 331;refine aP (axE _ _ _ _) ?_)
 have HSL:=bx (show Sep (H9 (w.heap.size+1+1) (w.heap.size+1+1+1) (w.heap.size+1) g km a st #[lv,tv,ci,cb,gi,gb, .map (some km),lval,ov] c ps) ((((w.alloc (.cells #[.bool false] 4)).alloc (.cells #[aA g] 225)).alloc (.cells #[ah a] 3)).alloc (.cells #[ah st] 3)) by
  have h:=(((HS.o.alloc (.cells #[.bool false] 4)).eu 225 #[aA g]).eu 3 #[ah a]).eu 3 #[ah st];simp only [World.size_alloc] at h;exact Sep.perm (List.Perm.swap _ _ _) h)
 obtain⟨hb0,hb1,hb2,hb3,hbL,hsz⟩:=four w #[.bool false] #[aA g] #[ah a] #[ah st] 4 225 3 3;generalize (((w.alloc (.cells #[.bool false] 4)).alloc (.cells #[aA g] 225)).alloc (.cells #[ah a] 3)).alloc (.cells #[ah st] 3)=wL at HSL hb0 hb1 hb2 hb3 hbL hsz ⊢;have qC:=bx (Turns.of_below (own:=λk=>w.heap.size<=k\/k=km) hbL);have HB0:=bx hb0;clear hb0 hb1 hb2 hb3 hbL;have hst:∀ (pre:List Int) (W W':World),((∀ y∈pre,T.cased c y=false)/\aC W w.heap.size 4 #[.bool false]/\Turns (λk=>w.heap.size<=k\/k=km) w W)->Turns (λk=>k=km\/k=wL.heap.size+1) W W' ->
   ((∀ y∈pre,T.cased c y=false)/\aC W' w.heap.size 4 #[.bool false]/\Turns (λk=>w.heap.size<=k\/k=km) w W'):=by
  rintro pre W W' ⟨h1,h2,h3⟩ ht;exact⟨h1,ht.blk h2 (by omega),h3.trans (ht.mono (λk hk=>by omega))⟩
 refine(wpIn_wide (n:=9)).1 (akh (α:=Int) (gf:=337) (lb:=#[aA (w.heap.size+1+1), aA (w.heap.size+1+1+1), aA (w.heap.size+1)]) rfl (enters_of func337 (by kernel_rfl) rfl)
  (encs:=λx:Int=>#[.agg #[.bool (T.cased c x), .bool (T.fP c x)]]) (own:=λk=>k=km) (keep:=Z4 (H9 (w.heap.size+1+1) (w.heap.size+1+1+1) (w.heap.size+1) g km a st #[lv,tv,ci,cb,gi,gb, .map (some km),lval,ov] c ps))
  (ok:=acs (w.heap.size+1+1) (w.heap.size+1+1+1) (w.heap.size+1) g km a st #[lv,tv,ci,cb,gi,gb, .map (some km),lval,ov] c ps seq) (S:=aay (w.heap.size+1+1) (w.heap.size+1+1+1) (w.heap.size+1) g km a st #[lv,tv,ci,cb,gi,gb, .map (some km),lval,ov] c ps seq)
  (λk hk=>by
   rcases hk with rfl | ⟨p,hp,hk⟩
   ·omega
   exact HSL.o.lt hp hk)
  (λW1 ht=>axJ 7 (w.heap.size+1+1) (w.heap.size+1+1+1) (w.heap.size+1) g km a st lv tv ci cb gi gb lval ov c hs hc ps xs seq hx hz hR pos ms hw _ W1 (HSL.o.keep ht (λ_ _ _ _ h=>h)))
  (λ_=>rfl)
  (λpre W=>(∀ y∈pre,T.cased c y=false)/\aC W w.heap.size 4 #[.bool false]/\Turns (λk=>w.heap.size<=k\/k=km) w W)
  (λd _ W=>d = .ret/\T.meets c seq=true/\aC W w.heap.size 4 #[.bool true]/\Turns (λk=>w.heap.size<=k\/k=km) w W/\nS W km c) ?hI ?hIx ?hokS ⟨by simp,HB0.o,qC.o⟩
  (λx a1 W=>∃ q,a1={ tmps:=#[aA g, ah a, ah st,undef,undef,undef, aA (w.heap.size), aA q, aA g, ah a, ah st, .func (.func 337) #[] #[aA (w.heap.size+1+1), aA (w.heap.size+1+1+1), aA (w.heap.size+1)], .agg #[.bool (T.cased c x), .bool (T.fP c x)],undef,undef],defers:=[] }/\aC W q 329 #[.bool (T.cased c x), .bool (T.fP c x)]/\wL.heap.size+2<=q)
  ?hAx ?assign ?body ?done ?stop ?hS)
 case hI=>exact hst
 case hIx =>
  rintro d pre W W' ⟨h1,h2,h3,h4,h5⟩ ht;exact⟨h1,h2,ht.blk h3 (by omega),h4.trans (ht.mono (λk hk=>by omega)),h5.turns ht (by omega)⟩
 case hokS =>
  rintro pre x W W' ⟨h1,h2,h3⟩ ht;exact⟨h1,h2,h3.keep ht (λp hp k hk e=>by have:=HSL.o.lt hp hk;omega)⟩
 case hS =>
  rintro ys W W' ⟨h1,h2⟩ ht;exact⟨h1.keep ht (λp hp k hk e=>by have:=HSL.o.lt hp hk;omega),h2⟩
 case hAx =>
  rintro x a1 W W' ⟨q,h1,h2,h3⟩ ht;exact⟨q,h1,ht.blk h2 (by omega),h3⟩
 case assign =>
  intro x W K hle hK
  gi_wp2
  exact hK _ _ (Turns.alloc _ _) ⟨W.heap.size,rfl,aC.new _ _ _,hle⟩
 case body =>
  rintro pre x a1 W0 W N hW0 hi ht hN ⟨⟨rest,h1⟩,h2,h3⟩ ⟨q,rfl,hq,hqz⟩;obtain⟨i1,i2,i3⟩:=hst pre W0 W hi ht;have hts:=ht.size;have H1:=bx h1;have H2:=bx h2;have H3:=bx h3;have I1:=bx i1;have I2:=bx i2;have I3:=bx i3;have c0:ay W q 0=some (.bool (T.cased c x)):=(hq.cell 0).trans rfl;have r0:ay W w.heap.size 0=some (.bool false):=(i2.cell 0).trans rfl;have f0:=i2.frozen 0;have rl:=i2.lt;clear h1 h2 h3 i1 i2 i3 hi ht hq
  cases hcx:T.cased c x with
  | true =>
   rw [hcx] at c0;have HM:=bx (show T.meets c seq=true by rw [H1.o];exact T.ab2 hcx H2.o);clear hcx
   gi_wp2
   have hT:=Turns.setCell (own:=λk=>k=w.heap.size) W (p:=⟨w.heap.size,0,none⟩) rfl (.bool true);exact⟨Holds.zX hT (λk hk=>by omega) (λk hk=>by omega),rfl,HM.o,I2.o.bJ 0 _,I3.o.trans (hT.mono (λk hk=>by omega)),(H3.o.at' 4 (p:=Pc.known km c) rfl:nS W km c).turns hT (by omega)⟩
  | false =>
   rw [hcx] at c0;have HX:=bx hcx;clear hcx
   gi_wp2
   exact⟨Turns.refl _ _,λy hy=>by
    rcases lM.1 hy with hy | hy
    ·exact I1.o y hy
    rw [fU] at hy;rw [hy];exact HX.o,I2.o,I3.o⟩
 case stop =>
  rintro d pre W hW ⟨rfl,h1,h2,h3,h4⟩ hD;have HD:=bx hD;have H1:=bx h1;have H2:=bx h2;have H3:=bx h3;have H4:=bx h4;clear h1 h2 h3 h4 hD;refine wpIn_wide.2 ?_;go_wp2_with fail;refine⟨by simp, .inl ⟨_,_,rfl,run_takeDeferred HD.o,?_⟩⟩;have hT:Turns (λk=>k=wL.heap.size) W (W.putObj wL.heap.size (.deferred none)):=Turns.putObj (own:=λk=>k=wL.heap.size) W rfl (.deferred none);exact⟨_,QH results318 _ _ w.heap.size _ rfl (((hT.blk H2.o (by omega)).cell 0).trans rfl) (isAgg4 _),by rw [H1.o];rfl,Vo (H3.o.trans (hT.mono (λk hk=>by omega))) (λk hk hl=>by omega),H4.o.turns hT (by omega)⟩
 case done =>
  rintro ys W hW ⟨h1,rest,h2,h3⟩ ⟨i1,i2,i3⟩ hD;have HD:=bx hD;have HM:=bx (show T.meets c seq=false by rw [h2];exact T.ahL i1 h3);have HK:=bx (h1.at' 4 (p:=Pc.known km c) rfl:nS W km c);have I2:=bx i2;have I3:=bx i3;have r0:ay W w.heap.size 0=some (.bool false):=(i2.cell 0).trans rfl;have f0:=i2.frozen 0;have rl:=i2.lt;clear h1 h2 h3 i1 i2 i3 hD;go_wp2_with fail;have hS:=Turns.setCell (own:=λk=>k=w.heap.size) W (p:=⟨w.heap.size,0,none⟩) rfl (.bool false);refine⟨by simp, .inl ⟨_,_,rfl,run_takeDeferred ((hS.block _ (by omega) (by omega)).trans HD.o),?_⟩⟩;have hT:Turns (λk=>k=wL.heap.size) (W.setCell ⟨w.heap.size,0,none⟩ (.bool false)) _:=Turns.putObj (own:=λk=>k=wL.heap.size) _ rfl (.deferred none);exact⟨_,QH results318 _ _ w.heap.size (.bool false) rfl (((hT.blk (I2.o.bJ 0 _) (by omega)).cell 0).trans rfl) (isAgg4 _),by rw [HM.o],
   Vo ((I3.o.trans (hS.mono (λk hk=>by omega))).trans (hT.mono (λk hk=>by omega))) (λk hk hl=>by omega),(HK.o.turns hS (by omega)).turns hT (by omega)⟩
def Jw (g km:Nat) (cs:Array Value) (c:T.Cs) (ps:List Pc):List Pc:=Pc.blk g 232 cs::Pc.known km c::ps
theorem arD {g km:Nat} {cs:Array Value} {c:T.Cs} {ps:List Pc} {W W':World} (h:Sep (Jw g km cs c ps) W) (ht:Turns (λk=>k=km) W W') (hk:nS W' km c):Sep (Jw g km cs c ps) W' :=
 Sep.upd (ps:=Jw g km cs c ps) (own:=λk=>k=km) 1 h rfl ht (λ_ h _=>h) (p':=Pc.known km c) hk (λ_ h=>.inl h)
theorem axA {xs:List Int} {a:Nat} (ha:a<=xs.length) (hz:xs.length<=100000):Way xs (xs.take a).reverse a (-1) (λk=>(a:Int)-1-k) (λz=>(z+1).toNat) where
 a0:=by omega
 a1:=by omega
 s0:=by omega
 s1:=by omega
 p0:=by simp;omega
 ps k:=by simp;omega
 ms k hk:=by
  rw [PG,dw,sH ha] at *;omega
 in_ k x hx:=by
  have hk:=(dO hx).1;rw [PG,dw,sH ha] at hk;refine⟨a-1-k,by omega,?_⟩;rw [List.getElem?_reverse (by rw [dw,sH ha];exact hk),dw,sH ha,List.getElem?_take_of_lt (by omega)] at hx;exact hx
 o:=by
  rw [PG,dw,sH ha]
  left
  omega
theorem akL {xs:List Int} {a:Nat} (ha:a<xs.length) (hz:xs.length<=100000):Way xs (xs.drop (a+1)) a 1 (λk=>(a:Int)+1+k) (λz=>((xs.length:Int)-z).toNat) where
 a0:=by omega
 a1:=by omega
 s0:=by omega
 s1:=by omega
 p0:=by simp
 ps k:=by simp;omega
 ms k hk:=by
  rw [gy] at *;omega
 in_ k x hx:=by
  have hk:=(dO hx).1;refine⟨a+1+k,by omega,?_⟩;rw [xY] at hx;exact hx
 o:=by
  rw [gy]
  right
  omega
theorem atz (g km a:Nat) (lv tv ci cb gi gb lval ov:Value) (c:T.Cs) (hs:T.Small c) (hc:T.lI 600 c=true) (ps:List Pc) (xs:List Int) (hx:∀ x∈xs,U.right x=true) (hz:xs.length<=100000) (ha:a<xs.length)
  (hR:∀ W,Sep ps W->o8 W (.agg #[lv,tv,ci,cb,gi,gb]) c/\aN W lval xs) (w:World) (hS:Sep (Jw g km #[lv,tv,ci,cb,gi,gb, .map (some km),lval,ov] c ps) w) :
  Calls prog 292 #[aA g, ah (a:Int)] w λe w'=>e = .returned (.bool (T.final c xs a))/\Turns (λk=>k=km) w w'/\nS w' km c:=by
 have HA:=bx (λW h=>ajm g km a (-1) lv tv ci cb gi gb lval ov c hs hc ps xs _ hx hz hR _ _ (axA (G9 ha) hz) W h);have HB:=bx (λW h=>ajm g km a 1 lv tv ci cb gi gb lval ov c hs hc ps xs _ hx hz hR _ _ (akL ha hz) W h);have HF:=bx (show T.final c xs a=(T.meets c (xs.take a).reverse&&!T.meets c (xs.drop (a+1))) from rfl);have HS:=bx hS;clear hS hR;generalize T.meets c (xs.take a).reverse=p at HA HF;generalize T.meets c (xs.drop (a+1))=q at HB HF;generalize T.final c xs a=fin at HF ⊢
 cases p with
 | true =>
  go_in
  go_wp2_with fail;refine(HA.o _ HS.o).mono ?_;rintro e w1 ⟨rfl,ht1,hk1⟩;have eG:=bx (arD HS.o ht1 hk1);have HT1:=bx ht1;clear ht1 hk1;go_wp2_with fail;refine(HB.o _ eG.o).mono ?_;rintro e w2 ⟨rfl,ht2,hk2⟩;have HT2:=bx (HT1.o.trans ht2);have oh:=bx hk2;clear ht2 hk2
  go_wp2
  go_ret
  exact⟨aY (by rw [HF.o];rfl),HT2.o,oh.o⟩
 | false =>
  go_in
  go_wp2_with fail;refine(HA.o _ HS.o).mono ?_;rintro e w1 ⟨rfl,ht1,hk1⟩;have HT1:=bx ht1;have gU:=bx hk1;clear ht1 hk1
  go_wp2
  go_ret
  exact⟨aY (by rw [HF.o];rfl),HT1.o,gU.o⟩
def outW (n g km:Nat) (lv tv ci cb gi gb lval ov:Value) (acc:List Int) (c:T.Cs) (ps:List Pc):List Pc:=Pc.row n 3 1 ov acc.length (acc.map (Value.int .i64))::Jw g km #[lv,tv,ci,cb,gi,gb, .map (some km),lval,ov] c ps
theorem WW {n g km:Nat} {lv tv ci cb gi gb lval ov:Value} {acc:List Int} {c:T.Cs} {ps:List Pc} {W W':World} (h:Sep (outW n g km lv tv ci cb gi gb lval ov acc c ps) W) (ht:Turns (λk=>k=km) W W') (hk:nS W' km c):Sep (outW n g km lv tv ci cb gi gb lval ov acc c ps) W' :=
 Sep.upd (ps:=outW n g km lv tv ci cb gi gb lval ov acc c ps) (own:=λk=>k=km) 2 h rfl ht (λ_ h _=>h) (p':=Pc.known km c) hk (λ_ h=>.inl h)
theorem Oy {n g km k:Nat} {lv tv ci cb gi gb lval ov jy:Value} {acc sm r:List Int} {c:T.Cs} {ps:List Pc} {W:World} (h:Sep ((outW n g km lv tv ci cb gi gb lval ov acc c ps).set 0 (Pc.row n 3 1 jy k (acc.map (Value.int .i64)++sm.map (Value.int .i64)))) W) (hk:k=acc.length+sm.length) (hr:r=acc++sm) :
  Sep (outW n g km lv tv ci cb gi gb lval jy r c ps) (W.setCell ⟨g,8,none⟩ jy):=by
 subst hr hk;rw [<- gX,<- bC] at h;exact h.set 1 rfl 8 jy
theorem aqA (n g km a:Nat) (lv tv ci cb gi gb lval ov:Value) (acc:List Int) (c:T.Cs) (hs:T.Small c) (hc:T.lI 600 c=true) (ps:List Pc) (xs:List Int) (hx:∀ x∈xs,U.right x=true) (hz:xs.length<=100000) (ha:a<xs.length) (hacc:acc.length<=900000000)
  (hR:∀ W,Sep ps W->o8 W (.agg #[lv,tv,ci,cb,gi,gb]) c/\aN W lval xs) (w:World) (hn:n<=w.heap.size) (hS:Sep (outW n g km lv tv ci cb gi gb lval ov acc c ps) w) :
  Calls prog 245 #[aA g, ah (a:Int)] w λe w'=>(∃ v,e = .returned v)/\∃ jy,Sep (outW n g km lv tv ci cb gi gb lval jy (acc++T.small c xs a) c ps) w':=by
 have HR:=bx (λW (h:Sep (outW n g km lv tv ci cb gi gb lval ov acc c ps) W)=>hR W h.tail.tail.tail);have oq:=bx (λW (h:Sep (outW n g km lv tv ci cb gi gb lval ov acc c ps) W)=>atz g km a lv tv ci cb gi gb lval ov c hs hc ps xs hx hz ha hR W h.tail);have um:=bx (λ(x:Int) (hxr:U.right x=true) W (h:Sep (outW n g km lv tv ci cb gi gb lval ov acc c ps) W)=>axy _ c x W (HR.o W h).1 hs hc hxr);have ZE:=bx (λ(x:Int) (hxr:U.right x=true)=>(T.RU (T.SV hc).1 hxr).1);have HS:=bx hS;obtain⟨lo,lc,hlv⟩:=(HR.o w hS).2.slice;obtain⟨N,hN⟩:∃ N,xs.length=N:=⟨_,rfl⟩
 have HN:=bx hN;rw [hN] at hz ha hlv;obtain⟨x,hxa⟩:=bV xs a (by rw [HN.o];exact ha);obtain⟨lg,off,cap2,hg1,hg2,hg3,hg4,hg5⟩:=(HR.o w hS).2.get (by rintro rfl;simp at hxa);rw [HN.o] at hg1 hg2;have qG:=bx (show lval = .slice (some ⟨lg,off,none⟩) N lc by rw [hg1] at hlv ⊢;injection hlv with e1 e2 e3;rw [e3]);obtain rfl:lc=cap2:=by rw [hg1] at hlv;injection hlv with e1 e2 e3;exact e3.symm
 have Fj:=bx (show xs.getD a 0=x by rw [fO,hxa,jE]);have Bf:=bx (hx x (dB hxa));have CQ:=bx (show T.small c xs a=if (x==931&&T.final c xs a)=true then [962] else T.becomes c.lo x by unfold T.small;rw [Fj.o]);have iE:=bx (λ(W:World) (h:Sep (outW n g km lv tv ci cb gi gb lval ov acc c ps) W)=>show ay W g 0=some lv/\ay W g 1=some tv/\ay W g 2=some ci/\ay W g 3=some cb/\ay W g 4=some gi/\ay W g 5=some gb/\ay W g 7=some (.slice (some ⟨lg,off,none⟩) N lc)/\ay W lg (off+a)=some (ah x)/\g<W.heap.size from by
  have hb:=h.blk 1 rfl;obtain⟨b2,o2,c2,e1,e2,e3,e4,e5⟩:=(HR.o W h).2.get (by rintro rfl;simp at hxa);rw [qG.o] at e1;injection e1 with e1 e6 e7;injection e1 with e1;injection e1 with e1 e8 e9;subst e1 e8;exact⟨(hb.cell 0).trans rfl,(hb.cell 1).trans rfl,(hb.cell 2).trans rfl,(hb.cell 3).trans rfl,(hb.cell 4).trans rfl,(hb.cell 5).trans rfl,(hb.cell 7).trans (by rw [qG.o];rfl),e5 a x hxa,hb.lt⟩)
 have kK:=bx (λ(W:World) (h:Sep (outW n g km lv tv ci cb gi gb lval ov acc c ps) W)=>show ay W g 8=some ov/\g<W.heap.size from⟨((h.blk 1 rfl).cell 8).trans rfl,(h.blk 1 rfl).lt⟩);have jo:=ZE.o x Bf.o;have ng:=bx (um.o x Bf.o);unfold maxLen at hg3;clear hS hR hs hc hx hN hxa hg1 hg5 hlv;obtain⟨c0,c1,c2,c3,c4,c5,c7,cx,cl⟩:=iE.o w HS.o
 by_cases h9:x=931
 ·have e9:(x==931)=true:=by rw [lN];exact h9
  have Du:=bx (show T.small c xs a=if T.final c xs a=true then [962] else T.becomes c.lo x by rw [CQ.o,e9,Bool.true_and]);generalize T.final c xs a=fb at oq Du;clear h9
  cases fb with
  | true =>
   have nG:=bx (show T.small c xs a=[962] by rw [Du.o,aG rfl])
   go_in
   go_wp2_with fail;refine(oq.o _ HS.o).mono ?_;rintro e w1 ⟨rfl,ht1,hk1⟩;have eG:=bx (WW HS.o ht1 hk1);obtain⟨p0,p2⟩:=kK.o _ eG.o;have p1:n<=w1.heap.size:=bP hn ht1.size;have qP:=bx (show acc.length<=1000000000 by omega);clear ht1 hk1 c0 c1 c2 c3 c4 c5 c7 cx cl;go_wp2_with (at_builtin;refine vM (u:=ah 962) rfl _ _ 22 rfl yO eG.o 0 rfl rfl rfl rfl qP.o (by omega) p1 ?_;rintro v7 w7 hS7 ⟨JM,JB,rfl,-,-⟩;have cO:=bx hS7;have p8:w7.cell? ⟨g,8,none⟩=some ov:=((hS7.blk 1 rfl).cell 8).trans rfl;have f8:=(hS7.blk 1 rfl).frozen 8;have l8:=(hS7.blk 1 rfl).lt;clear hS7 p0 p1 p2)
   have fM:=bx (Oy (r:=acc++T.small c xs a) (sm:=[962]) cO.o (by simp) (by rw [nG.o]));exact bodyPost_ret (results_none rfl _ _ _) rfl ⟨⟨_,rfl⟩,_,fM.o⟩
  | false =>
   have nG:=bx (show T.small c xs a=T.becomes c.lo x by rw [Du.o,aF (by simp)])
   go_in
   go_wp2_with fail;refine(oq.o _ HS.o).mono ?_;rintro e w1 ⟨rfl,ht1,hk1⟩;have eG:=bx (WW HS.o ht1 hk1);have AP:=bx (show n<=w1.heap.size from bP hn ht1.size);clear ht1 hk1 c0 c1 c2 c3 c4 c5 c7 cx cl;go_wp2_with fail;have dP:=bx (eG.o.drewN 1);have dP:=bx (show Sep (outW n g km lv tv ci cb gi gb lval ov acc c ps) w1.drew from dP.o);have dH:=bx (iE.o w1.drew dP.o);refine jl 17 (λW'=>ay W' g 0=some lv/\ay W' g 1=some tv/\ay W' g 2=some ci/\ay W' g 3=some cb/\ay W' g 4=some gi/\ay W' g 5=some gb/\ay W' g 7=some (.slice (some ⟨lg,off,none⟩) N lc)/\ay W' lg (off+a)=some (ah x)/\g<W'.heap.size) (by kernel_rfl) ?_;have lD:=bx (show n<=w1.drew.heap.size from AP.o);generalize w1.drew=WR at dP dH lD ⊢;refine jB [0,1,2,3,4,5,6,7,8,9,10,11] ?_
   iterate 12 (refine jA ?_ rfl dH.o ?_ ?_;rotate_left;·rintro w ⟨q1,q2,q3,q4,q5,q6,q7,q8,q9⟩;go_simp;try with_reducible rfl)
   refine jr ?_;refine kP 12 rfl λKK au=>?_
   go_simp;refine(ng.o WR dP.o).mono ?_;rintro e w5 ⟨⟨v5,rfl,hv5,hf5⟩,hb5⟩;have bG:=bx (dP.o.below hb5);have xw:=bx (MW hv5);have lS:=bx (iE.o w5 bG.o);have Qy:=bx (show n<=w5.heap.size from bP lD.o hb5.size);generalize T.becomes c.lo x=sm at xw nG jo;obtain⟨SL,tK⟩:∃ SL,sm.length=SL:=⟨_,rfl⟩
   rw [tK] at xw jo;have EM:=bx tK;clear hv5 hf5 hb5 tK;refine au.out _ _ (λ_=>lS.o) ?_;clear au KK;refine kP 13 rfl λKK au=>?_
   go_simp;refine au.out _ _ (λ_=>lS.o) ?_;clear au KK;refine kS 14 ?_ rfl lS.o ?_ ?_;rotate_left
   ·rintro w ⟨q1,q2,q3,q4,q5,q6,q7,q8,q9⟩;go_simp;try with_reducible rfl
   refine kS 15 ?_ rfl lS.o ?_ ?_;rotate_left
   ·rintro w ⟨q1,q2,q3,q4,q5,q6,q7,q8,q9⟩;go_simp;try with_reducible rfl
   refine kP 16 rfl λKK au=>?_
   go_simp;refine au.out _ _ (λ_=>lS.o) ?_;clear au KK;refine kP 17 rfl λKK au=>?_
   go_simp;refine au.out _ _ (λh=>by cases h) ?_;clear au KK;refine kD ?_ _;have qP:=bx (show acc.length+SL<=1000000000 by omega);obtain⟨p0,p2⟩:=kK.o _ bG.o;have p1:=Qy.o;go_wp2_with (at_builtin;refine Dv rfl _ _ 22 rfl Gz (by decide) bG.o 0 rfl rfl rfl xw.o (by rw [aV,Nat.mul_one,EM.o]) (by intro z hz;obtain⟨q,-,rfl⟩:=jM.1 hz;rfl) qP.o (by omega) p1 ?_;rintro v7 w7 hS7;obtain⟨JM,JB,rfl,-,-⟩:=gI (hS7.row 0 rfl);have cO:=bx hS7;have p8:w7.cell? ⟨g,8,none⟩=some ov:=((hS7.blk 1 rfl).cell 8).trans rfl;have f8:=(hS7.blk 1 rfl).frozen 8;have l8:=(hS7.blk 1 rfl).lt;clear hS7 p0 p1 p2)
   have fM:=bx (Oy (r:=acc++T.small c xs a) cO.o (by rw [EM.o]) (by rw [nG.o]))
   go_end0
   exact⟨⟨_,rfl⟩,_,fM.o⟩
 have e9:(x==931)=false:=by rw [fG];exact h9
 have nG:=bx (show T.small c xs a=T.becomes c.lo x by rw [CQ.o,e9,Bool.false_and,aF (by simp)]);clear h9
 go_in
 go_wp2_with fail;clear c0 c1 c2 c3 c4 c5 c7 cx cl;have dP:=bx (HS.o.drewN 1);have dP:=bx (show Sep (outW n g km lv tv ci cb gi gb lval ov acc c ps) w.drew from dP.o);have dH:=bx (iE.o w.drew dP.o);refine jl 17 (λW'=>ay W' g 0=some lv/\ay W' g 1=some tv/\ay W' g 2=some ci/\ay W' g 3=some cb/\ay W' g 4=some gi/\ay W' g 5=some gb/\ay W' g 7=some (.slice (some ⟨lg,off,none⟩) N lc)/\ay W' lg (off+a)=some (ah x)/\g<W'.heap.size) (by kernel_rfl) ?_;have lD:=bx (show n<=w.drew.heap.size from hn);generalize w.drew=WR at dP dH lD ⊢;refine jB [0,1,2,3,4,5,6,7,8,9,10,11] ?_
 iterate 12 (refine jA ?_ rfl dH.o ?_ ?_;rotate_left;·rintro w ⟨q1,q2,q3,q4,q5,q6,q7,q8,q9⟩;go_simp;try with_reducible rfl)
 refine jr ?_;refine kP 12 rfl λKK au=>?_
 go_simp;refine(ng.o WR dP.o).mono ?_;rintro e w5 ⟨⟨v5,rfl,hv5,hf5⟩,hb5⟩;have bG:=bx (dP.o.below hb5);have xw:=bx (MW hv5);have lS:=bx (iE.o w5 bG.o);have Qy:=bx (show n<=w5.heap.size from bP lD.o hb5.size);generalize T.becomes c.lo x=sm at xw nG jo;obtain⟨SL,tK⟩:∃ SL,sm.length=SL:=⟨_,rfl⟩
 rw [tK] at xw jo;have EM:=bx tK;clear hv5 hf5 hb5 tK;refine au.out _ _ (λ_=>lS.o) ?_;clear au KK;refine kP 13 rfl λKK au=>?_
 go_simp;refine au.out _ _ (λ_=>lS.o) ?_;clear au KK;refine kS 14 ?_ rfl lS.o ?_ ?_;rotate_left
 ·rintro w ⟨q1,q2,q3,q4,q5,q6,q7,q8,q9⟩;go_simp;try with_reducible rfl
 refine kS 15 ?_ rfl lS.o ?_ ?_;rotate_left
 ·rintro w ⟨q1,q2,q3,q4,q5,q6,q7,q8,q9⟩;go_simp;try with_reducible rfl
 refine kP 16 rfl λKK au=>?_
 go_simp;refine au.out _ _ (λ_=>lS.o) ?_;clear au KK;refine kP 17 rfl λKK au=>?_
 go_simp;refine au.out _ _ (λh=>by cases h) ?_;clear au KK;refine kD ?_ _;have qP:=bx (show acc.length+SL<=1000000000 by omega);obtain⟨p0,p2⟩:=kK.o _ bG.o;have p1:=Qy.o;go_wp2_with (at_builtin;refine Dv rfl _ _ 22 rfl Gz (by decide) bG.o 0 rfl rfl rfl xw.o (by rw [aV,Nat.mul_one,EM.o]) (by intro z hz;obtain⟨q,-,rfl⟩:=jM.1 hz;rfl) qP.o (by omega) p1 ?_;rintro v7 w7 hS7;obtain⟨JM,JB,rfl,-,-⟩:=gI (hS7.row 0 rfl);have cO:=bx hS7;have p8:w7.cell? ⟨g,8,none⟩=some ov:=((hS7.blk 1 rfl).cell 8).trans rfl;have f8:=(hS7.blk 1 rfl).frozen 8;have l8:=(hS7.blk 1 rfl).lt;clear hS7 p0 p1 p2)
 have fM:=bx (Oy (r:=acc++T.small c xs a) cO.o (by rw [EM.o]) (by rw [nG.o]))
 go_end0
 exact⟨⟨_,rfl⟩,_,fM.o⟩
def T.smalls (c:T.Cs) (l:List Int) (i k:Nat):List Int:=(List.range k).flatMap λj=>T.small c l (i+j)
theorem T.agJ (c:T.Cs) (l:List Int) (i k:Nat):T.smalls c l i (k+1)=T.smalls c l i k++T.small c l (i+k):=by
 unfold T.smalls;rw [List.range_succ,oz,pq,List.flatMap_nil,oG]
theorem T.af2 (c:T.Cs) (l:List Int):∀ (n i:Nat),T.yI c l n i true=T.smalls c l i n
 | 0,i=>rfl
 | n+1,i=>by
  simp only [T.yI];rw [T.af2 c l n (i+1)];unfold T.smalls;rw [List.range_succ_eq_map,pq,List.flatMap_map,Nat.add_zero]
  congr 2
  funext j
  rw [show i+1+j=i+(j+1) by omega]
theorem T.axe {c:T.Cs} {l:List Int} {p b:Nat} {x:Int} (hx:l.getD p 0=x) (hc:T.cased c x=true) (h:p<b):T.word c l p b=T.becomes c.ti x++T.smalls c l (p+1) (b-(p+1)):=by
 unfold T.word;rw [show b-p=b-(p+1)+1 by omega];simp only [T.yI];rw [hx,aG hc,T.af2]
theorem T.ad4 {m:Nat} {c:T.Cs} (h:T.lI m c=true) {l:List Int} (hl:∀ x∈l,U.right x=true) (i:Nat):∀ k,i+k<=l.length->T.Fine k (T.smalls c l i k)
 | 0,_=>T.Fine.nil
 | k+1,hk=>by
  rw [T.agJ];exact(T.ad4 h hl i k (by omega)).append (T.adR h hl (by omega))
theorem aks (n g km a b:Nat) (lv tv ci cb gi gb lval ov:Value) (acc:List Int) (c:T.Cs) (hs:T.Small c) (hc:T.lI 600 c=true) (ps:List Pc) (xs:List Int) (hx:∀ x∈xs,U.right x=true) (hz:xs.length<=100000) (hab:a<=b) (hb:b<=xs.length) (hacc:acc.length<=800000000)
  (hR:∀ W,Sep ps W->o8 W (.agg #[lv,tv,ci,cb,gi,gb]) c/\aN W lval xs) (hN:∀ W,Sep ps W->n<=W.heap.size) (w:World) (hS:Sep (outW n g km lv tv ci cb gi gb lval ov acc c ps) w) :
  Calls prog 168 #[aA g, ah (a:Int), ah (b:Int)] w λe w'=>(∃ v,e = .returned v)/\∃ jy,Sep (outW n g km lv tv ci cb gi gb lval jy (acc++T.word c xs a b) c ps) w':=by
 have HR:=bx hR;have ku:=bx hN;have nG:=bx (λ(i:Nat) (hi:i<xs.length) jy acc' (h1:acc'.length<=900000000) W (h:Sep (outW n g km lv tv ci cb gi gb lval jy acc' c ps) W)=>aqA n g km i lv tv ci cb gi gb lval jy acc' c hs hc ps xs hx hz hi h1 hR W (hN W h.tail.tail.tail) h);have HKI:=bx (λ(x:Int) (hxr:U.right x=true) jy acc' W (h:Sep (outW n g km lv tv ci cb gi gb lval jy acc' c ps) W)=>YJ g km lv tv ci cb gi gb lval jy c x W (h.blk 1 rfl) (hR W h.tail.tail.tail).1 hs hc hxr (h.at' 2 (p:=Pc.known km c) rfl));have wU:=bx (λ(x:Int) (hxr:U.right x=true) W (h:Sep ps W)=>aoc _ c x W (hR W h).1 hs hc hxr);have ZE:=bx (λ(x:Int) (hxr:U.right x=true)=>(T.RU (T.SV hc).2 hxr).1);have Du:=bx (λi k (h:i+k<=xs.length)=>(T.ad4 hc hx i k h).1);have BG:=bx hx;have HS:=bx hS;obtain⟨lo,lc,rfl⟩:=(hR w hS.tail.tail.tail).2.slice;obtain⟨N,hN⟩:∃ N,xs.length=N:=⟨_,rfl⟩
 have HN:=bx hN;rw [hN] at hz hb nG Du HR HKI HS ⊢;obtain⟨L,hL⟩:∃ L,b=a+L:=⟨b-a,by omega⟩
 have cu:=bx hL;have hLb:L<=100000:=by omega
 have HWZ:=bx (show ∀ k,k<=L->T.Ae c xs a k=false->T.word c xs a b=T.part xs a k++T.word c xs (a+k) b from λk hk hm=>T.asa (by omega) (by omega) hm);have jq:=bx (show ∀ k,k<=L->(T.part xs a k).length<=k from λk _=>by unfold T.part;exact List.length_take_le _ _);clear hS hR hs hc hx hN hL hab
 go_in
 go_wp2_with fail
 go_loopw [6] (λi wr=>∃ k:Nat,k<=L/\i = ah ((a:Int)+k)/\Box (T.Ae c xs a k=false)/\∃ jy,Box (Sep (outW n g km lv tv ci cb gi gb (.slice lo N lc) jy (acc++T.part xs a k) c ps) wr)) (λi _=>b-(intOf i).toNat)
 ·exact⟨0,by omega,by go_num,⟨rfl⟩,ov,⟨by rw [show acc++T.part xs a 0=acc by unfold T.part;simp];exact HS.o⟩⟩
 obtain⟨k,hk,rfl,hno,jy,hsep⟩:=hrel;obtain⟨tN,hak⟩:∃ tN,tN=acc++T.part xs a k:=⟨_,rfl⟩
 rw [<- hak] at hsep;have HAK:=bx hak;have hal:tN.length<=800000000+k:=by rw [hak,bC];have:=jq.o k hk;omega
 clear hak;obtain⟨p,hp⟩:∃ p:Nat,p=a+k:=⟨_,rfl⟩
 rw [show (a:Int)+k=(p:Int) by omega];have HP:=bx hp;have hbl:=cu.o
 by_cases hlt:k<L
 ·have Jp:p<N:=by omega
  have hpb:p<b:=by omega
  have hdl:decide ((p:Int)<(b:Int))=true:=bD (by omega);clear hbl hp;obtain⟨x,hxp⟩:=bV xs p (by rw [HN.o];exact Jp);obtain⟨lg,off,cap2,hg1,hg2,hg3,hg4,hg5⟩:=(HR.o wr hsep.o.tail.tail.tail).2.get (by rintro rfl;simp at hxp);rw [HN.o] at hg1 hg2;obtain⟨rfl,rfl⟩:=dQ hg1;have Bf:=bx (BG.o x (dB hxp));have Fj:=bx (show xs.getD p 0=x by rw [fO,hxp,jE]);have iE:=bx (λ(W:World) (h:Sep (Jw g km #[lv,tv,ci,cb,gi,gb, .map (some km), .slice (some ⟨lg,off,none⟩) N lc,jy] c ps) W)=>show ay W g 0=some lv/\ay W g 1=some tv/\ay W g 2=some ci/\ay W g 3=some cb/\ay W g 4=some gi/\ay W g 5=some gb/\ay W g 7=some (.slice (some ⟨lg,off,none⟩) N lc)/\ay W lg (off+p)=some (ah x)/\ay W g 8=some jy/\g<W.heap.size from by
   have hb:=h.blk 0 rfl;obtain⟨b2,o2,c2,e1,e2,e3,e4,e5⟩:=(HR.o W h.tail.tail).2.get (by rintro rfl;simp at hxp);injection e1 with e1 e6 e7;injection e1 with e1;injection e1 with e1 e8 e9;subst e1 e8;exact⟨(hb.cell 0).trans rfl,(hb.cell 1).trans rfl,(hb.cell 2).trans rfl,(hb.cell 3).trans rfl,(hb.cell 4).trans rfl,(hb.cell 5).trans rfl,(hb.cell 7).trans rfl,e5 p x hxp,(hb.cell 8).trans rfl,hb.lt⟩)
  have yt:=bx (show T.part xs a (k+1)=T.part xs a k++[x] by rw [T.air (by rw [HN.o,<- HP.o];exact Jp),<- HP.o,Fj.o]);have qX:=bx (show T.Ae c xs a (k+1)=T.cased c x by rw [T.U8,hno.o,Bool.false_or,<- HP.o,Fj.o]);unfold maxLen at hg3;clear hxp hg1 hg5;obtain⟨Inv,hI1,hI2⟩:∃ Inv:World->Prop,(∀ W,Inv W->Sep (outW n g km lv tv ci cb gi gb (.slice (some ⟨lg,off,none⟩) N lc) jy tN c ps) W)/\(∀ W,Sep (outW n g km lv tv ci cb gi gb (.slice (some ⟨lg,off,none⟩) N lc) jy tN c ps) W->Inv W):=⟨_,λ_ h=>h,λ_ h=>h⟩
  have iT:=bx (show ∀ q:CW Inv,Sep (outW n g km lv tv ci cb gi gb (.slice (some ⟨lg,off,none⟩) N lc) jy tN c ps) q.w from λq=>hI1 _ q.h);have q7:∀ q:CW Inv,q.w.cell? ⟨g,7,none⟩=some (.slice (some ⟨lg,off,none⟩) N lc):=λq=>(iE.o _ (iT.o q).tail).2.2.2.2.2.2.1
  have q8:∀ q:CW Inv,q.w.cell? ⟨lg,off+p,none⟩=some (ah x):=λq=>(iE.o _ (iT.o q).tail).2.2.2.2.2.2.2.1
  have HDR:=bx (hI2 _ (hsep.o.drewN 1));have HDR:=bx (show Inv wr.drew from HDR.o);have IC:=bx (show ∀ q:CW Inv,Calls prog 243 #[aA g, ah x] q.w λe w''=>e = .returned (.agg #[.bool (T.cased c x), .bool (T.fP c x)])/\∃ m:CW Inv,w''=m.w from λq=>(HKI.o x Bf.o jy tN q.w (iT.o q)).mono λ_ w' ⟨he,ht,hk⟩=>⟨he,⟨w',hI2 _ (WW (iT.o q) ht hk)⟩,rfl⟩);have hfld:∀ (p q:Bool) W,(Instr.field 329 (.agg #[.bool p, .bool q]) 0).run prog W = .ok (.bool p) W:=λp q W=>by kernel_rfl
  clear hI1 hI2
  cases hy:T.cased c x with
  | false =>
   rw [hy] at IC;have pF:=bx (qX.o.trans hy);clear hy;go_wp2_with fail;refine Aq Inv (by kernel_rfl) (by kernel_rfl) HDR.o (λhne=>?_)
   repeat (any_goals (first | go_big_quiet_step ((go_at_call 243;exact IC.o _)) | quiet_step ((go_at_call 243;exact IC.o _))))
   refine wpQuiet_nil ?_;rintro w7 ⟨q9,rfl⟩;have cO:=bx (iT.o q9);generalize q9.w=w7 at cO ⊢;clear q7 q8 hne;have qP:=bx (show tN.length<=1000000000 by omega);have dP:=bx (show Sep (outW n g km lv tv ci cb gi gb (.slice (some ⟨lg,off,none⟩) N lc) jy tN c ps) w7.drew from cO.o.drewN 1);have dH:=bx (iE.o w7.drew dP.o.tail);have lD:=bx (ku.o w7.drew dP.o.tail.tail.tail);go_wp2_with fail;refine jl 16 (λW'=>ay W' g 0=some lv/\ay W' g 1=some tv/\ay W' g 2=some ci/\ay W' g 3=some cb/\ay W' g 4=some gi/\ay W' g 5=some gb/\ay W' g 7=some (.slice (some ⟨lg,off,none⟩) N lc)/\ay W' lg (off+p)=some (ah x)/\ay W' g 8=some jy/\g<W'.heap.size) (by kernel_rfl) ?_;generalize w7.drew=WR at dP dH lD ⊢;refine jB [0,1,2,3,4,5,6,7,8,9,10,11] ?_
   iterate 12 (refine jA ?_ rfl dH.o ?_ ?_;rotate_left;·rintro w ⟨q1,q2,q3,q4,q5,q6,q7,q8,q9,q10⟩;go_simp;try with_reducible rfl)
   refine jr ?_;refine kP 12 rfl λKK au=>?_
   go_simp;refine au.out _ _ (λ_=>iE.o _ (dP.o.tail.alloc _)) ?_;clear au KK;refine kP 13 rfl λKK au=>?_
   refine KU (u:=ah x) rfl _ _ 22 rfl yO dP.o 0 rfl (by kernel_rfl) (by kernel_rfl) rfl qP.o (by omega) lD.o ?_;rintro v6 w6 hS6 ⟨go6,gc6,rfl,-,-⟩;have dV:=bx hS6;have HF6:=bx (iE.o w6 hS6.tail);have p8:w6.cell? ⟨g,8,none⟩=some jy:=((hS6.blk 1 rfl).cell 8).trans rfl;have f8:=(hS6.blk 1 rfl).frozen 8;have l8:=(hS6.blk 1 rfl).lt;clear hS6;refine au.out _ _ (λ_=>HF6.o) ?_;clear au KK;refine kP 14 rfl λKK au=>?_
   go_simp;refine au.out _ _ (λ_=>HF6.o) ?_;clear au KK;refine kP 15 rfl λKK au=>?_
   go_simp;refine au.out _ _ (λ_=>HF6.o) ?_;clear au KK;refine kP 16 rfl λKK au=>?_
   go_simp;refine au.out _ _ (λh=>by cases h) ?_;clear au KK;refine kD ?_ _;have fM:=bx (Oy (r:=acc++T.part xs a (k+1)) (sm:=[x]) dV.o (by simp) (by rw [yt.o,HAK.o,pz]))
   go_wp2
   go_roundw
   ·exact⟨k+1,by omega,by have h8:=HP.o;go_num,pF,_,fM⟩
   have h8:=HP.o;simp [intOf];omega
  | true =>
   rw [hy] at IC;have yJ:=bx (show acc++T.word c xs a b=tN++(T.becomes c.ti x++T.smalls c xs (p+1) (b-(p+1))) by rw [HWZ.o k hk hno.o,<- HP.o,T.axe Fj.o hy hpb,<- pz,<- HAK.o]);have hpe:((p:Int)==(b:Int))=false:=by rw [fG];omega
   have hbx:=ZE.o x Bf.o;clear hy;go_wp2_with fail;refine Aq Inv (by kernel_rfl) (by kernel_rfl) HDR.o (λhne=>?_)
   repeat (any_goals (first | go_big_quiet_step ((go_at_call 243;exact IC.o _)) | quiet_step ((go_at_call 243;exact IC.o _))))
   refine wpQuiet_nil ?_;rintro w7 ⟨q9,rfl⟩;have cO:=bx (iT.o q9);generalize q9.w=w7 at cO ⊢;clear q7 q8 hne;have dP:=bx (show Sep (outW n g km lv tv ci cb gi gb (.slice (some ⟨lg,off,none⟩) N lc) jy tN c ps) w7.drew from cO.o.drewN 1);have dH:=bx (iE.o w7.drew dP.o.tail);go_wp2_with fail;refine jl 17 (λW'=>ay W' g 0=some lv/\ay W' g 1=some tv/\ay W' g 2=some ci/\ay W' g 3=some cb/\ay W' g 4=some gi/\ay W' g 5=some gb/\ay W' g 7=some (.slice (some ⟨lg,off,none⟩) N lc)/\ay W' lg (off+p)=some (ah x)/\ay W' g 8=some jy/\g<W'.heap.size) (by kernel_rfl) ?_;generalize w7.drew=WR at dP dH ⊢;refine jB [0,1,2,3,4,5,6,7,8,9,10,11] ?_
   iterate 12 (refine jA ?_ rfl dH.o ?_ ?_;rotate_left;·rintro w ⟨q1,q2,q3,q4,q5,q6,q7,q8,q9,q10⟩;go_simp;try with_reducible rfl)
   refine jr ?_;refine kP 12 rfl λKK au=>?_
   go_simp;refine(wU.o x Bf.o WR dP.o.tail.tail.tail).mono ?_;rintro e w5 ⟨⟨v5,rfl,hv5,-⟩,hb5⟩;have bG:=bx (dP.o.below hb5);have xw:=bx (MW hv5);have lS:=bx (iE.o w5 bG.o.tail);have HN5:=bx (ku.o w5 bG.o.tail.tail.tail);generalize T.becomes c.ti x=sm at xw yJ hbx hv5;obtain⟨SL,tK⟩:∃ SL,sm.length=SL:=⟨_,rfl⟩
   rw [tK] at xw hbx;have EM:=bx tK;clear hv5 hb5 tK;refine au.out _ _ (λ_=>lS.o) ?_;clear au KK;refine kP 13 rfl λKK au=>?_
   go_simp;refine au.out _ _ (λ_=>lS.o) ?_;clear au KK;refine kS 14 ?_ rfl lS.o ?_ ?_;rotate_left
   ·rintro w ⟨q1,q2,q3,q4,q5,q6,q7,q8,q9,q10⟩;go_simp;try with_reducible rfl
   refine kS 15 ?_ rfl lS.o ?_ ?_;rotate_left
   ·rintro w ⟨q1,q2,q3,q4,q5,q6,q7,q8,q9,q10⟩;go_simp;try with_reducible rfl
   refine kP 16 rfl λKK au=>?_
   go_simp;refine au.out _ _ (λ_=>lS.o) ?_;clear au KK;refine kP 17 rfl λKK au=>?_
   go_simp;refine au.out _ _ (λh=>by cases h) ?_;clear au KK;refine kD ?_ _;have qP:=bx (show tN.length+SL<=1000000000 by omega);have kK:=bx (show w5.cell? ⟨g,8,none⟩=some jy/\g<w5.heap.size from⟨lS.o.2.2.2.2.2.2.2.2.1,lS.o.2.2.2.2.2.2.2.2.2⟩);obtain⟨p0,p2⟩:=kK.o;have p1:=HN5.o;obtain⟨M,hM⟩:∃ M,M=b-(p+1):=⟨_,rfl⟩
   rw [<- hM] at yJ;have JX:=bx (show b=p+1+M by omega);have hMz:M<=100000:=by omega
   clear hM hpe;go_wp2_with (at_builtin;refine Dv rfl _ _ 22 rfl Gz (by decide) bG.o 0 rfl rfl rfl xw.o (by rw [aV,Nat.mul_one,EM.o]) (by intro z hz;obtain⟨q,-,rfl⟩:=jM.1 hz;rfl) qP.o (by omega) p1 ?_;rintro v7 w8 fZ;obtain⟨JM,JB,rfl,-,-⟩:=gI (fZ.row 0 rfl);have fM:=bx fZ;have p8:w8.cell? ⟨g,8,none⟩=some jy:=((fZ.blk 1 rfl).cell 8).trans rfl;have f8:=(fZ.blk 1 rfl).frozen 8;have l8:=(fZ.blk 1 rfl).lt;clear fZ p0 p1 p2)
   have gV:=bx (Oy (r:=tN++sm) fM.o (by rw [EM.o]) rfl);have qB:=bx (show (tN++sm).length<=850000000 by rw [bC];have:=EM.o;omega);rw [<- pz] at yJ;generalize tN++sm=Ls at gV qB yJ;generalize w8.setCell ⟨g,8,none⟩ (.slice JM (tN.length+SL) JB)=w9 at gV ⊢;generalize (Value.slice JM (tN.length+SL) JB)=ov9 at gV ⊢;clear p8 f8 l8;go_wp2_with fail;clear iT IC HDR iE cO bG dP dH xw lS HN5 kK fM yt qX Fj Bf qP
   go_loopw [6] (λi wq=>∃ k2:Nat,k2<=M/\i = ah ((p:Int)+1+k2)/\∃ Wj,Box (Sep (outW n g km lv tv ci cb gi gb (.slice (some ⟨lg,off,none⟩) N lc) Wj (Ls++T.smalls c xs (p+1) k2) c ps) wq)) (λi _=>b-(intOf i).toNat)
   ·exact⟨0,by omega,by go_num,ov9,⟨by rw [show Ls++T.smalls c xs (p+1) 0=Ls by unfold T.smalls;simp];exact gV.o⟩⟩
   rename_i wq _ _
   obtain⟨k2,hk2,rfl,Wj,ag8⟩:=hrel;obtain⟨q,hq⟩:∃ q:Nat,q=p+1+k2:=⟨_,rfl⟩
   rw [show (p:Int)+1+k2=(q:Int) by omega];have HQ:=bx hq;have hbm:=JX.o
   by_cases hlt2:k2<M
   ·have hqN:q<N:=by omega
    have XD:q<b:=by omega
    have hdq:decide ((q:Int)<(b:Int))=true:=bD (by omega);have HCQ:=bx (nG.o q hqN Wj (Ls++T.smalls c xs (p+1) k2) (by rw [bC];have:=qB.o;have:=Du.o (p+1) k2 (by omega);omega) _ ag8.o);have dK:=bx (show Ls++T.smalls c xs (p+1) k2++T.small c xs q=Ls++T.smalls c xs (p+1) (k2+1) by rw [T.agJ,pz,<- hq]);clear hbm hq;go_wp2_with fail;refine HCQ.o.mono ?_;rintro e w3 ⟨⟨v3,rfl⟩,ov3,hs3⟩;rw [dK.o] at hs3;have aS:=bx hs3;clear hs3
    go_wp2
    go_roundw
    ·exact⟨k2+1,by omega,by have h8:=HQ.o;go_num,ov3,aS⟩
    have h8:=HQ.o;simp [intOf];omega
   have XD:q=b:=by omega
   obtain rfl:M=k2:=by omega
   have HE:=bx ag8.o;rw [<- yJ.o] at HE;clear hbm hq;rw [XD];clear XD
   go_wp2
   go_end0
   exact⟨⟨_,rfl⟩,_,HE.o⟩
 obtain rfl:L=k:=by omega
 have hpb:p=b:=by omega
 have V8:=bx (show acc++T.word c xs a b=tN by
  rw [HWZ.o L aU hno.o,<- HP.o,hpb,HAK.o];unfold T.word;rw [Nat.sub_self];simp [T.yI])
 have HE:=bx hsep.o;rw [<- V8.o] at HE;clear hbl hp;rw [hpb];clear hpb;go_wp2_with fail
 go_quiet (fail)
 have HE9:=bx (HE.o.drewN nq);go_wp2_with fail;exact bodyPost_ret (results_none rfl _ _ _) rfl ⟨⟨_,rfl⟩,_,HE9.o⟩
end Go.Proofs.YtdponihkpomheaaGreatDoor
