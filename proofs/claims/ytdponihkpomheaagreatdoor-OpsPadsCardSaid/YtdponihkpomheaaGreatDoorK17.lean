/- Texts of this claim. -/
import Derived.Test.YtdponihkpomheaaGreatDoorK16

set_option maxRecDepth 100000
set_option maxHeartbeats 16000000
namespace Go.Proofs.YtdponihkpomheaaGreatDoor
open Go.RowKit
attribute[local go_sem] Oper.semAt_some
open Tryz
theorem apw(p:Option Addr)(a st:Int)(w:World):
  Calls prog 331 #[.pointer p,Z9 a,Z9 st] w λe w'=>e=.returned (.func (.func 337) #[] #[Zn (w.heap.size+1),Zn (w.heap.size+1+1),Zn (w.heap.size)])/\
   ((w.alloc (.cells #[.pointer p] 225)).alloc (.cells #[Z9 a] 3)).alloc (.cells #[Z9 st] 3)=w':=by
 go_in
 go_wp2
 go_ret
 simp
theorem T.abc{c:T.Cs}:∀{xs rest:List Int},(∀y∈xs,T.cased c y=false)->(rest=[]\/∃Vi y,xs=Vi++[y]/\T.al c y=false)->T.meets c (xs++rest)=false
 |[],rest,_,h=>by
  rcases h with rfl|⟨Vi,y,h,-⟩
  ·rfl
  simp at h
 |x::t,rest,ZL,h=>by
  rw[SI];unfold T.meets;rw[ZL x (Pw ..),Bool.false_or]
  cases hi:T.al c x with
  |false=>rfl
  |true=>
   rw[Bool.true_and];refine T.abc (λy ZJ=>ZL y (Oj _ ZJ)) ?_
   rcases h with h|⟨Vi,y,Z7,Z5⟩
   ·grind
   cases Vi with
   |nil=>
    grind
   |cons z zs=>
    grind
theorem T.fU{c:T.Cs}{x:Int}{rest:List Int}(Z4:T.cased c x=true):∀{ZC:List Int},(∀y∈ZC,T.al c y=true)->T.meets c (ZC++x::rest)=true
 |[],_=>by grind[T.meets]
 |y::t,h=>by
  rw[SI];unfold T.meets;rw[h y (Pw ..),Bool.true_and,T.fU Z4 (λz ZY=>h z (Oj _ ZY)),Bool.or_true]
def AN(XD bs Mb g Zf:Nat)(a st:Int)(cs:Array Value)(c:T.Cs)(ps:List Pc):List Pc:=
 Pc.blk XD 3 #[Z9 a]::Pc.blk bs 3 #[Z9 st]::Pc.blk Mb 225 #[Zn g]::Pc.blk g 232 cs::Pc.known Zf c::ps
def lJ(ps:List Pc)(k:Nat):Prop:=∃p∈ps,p.fp k
theorem Sep.kept{ps:List Pc}{W W':World}{own:Nat->Prop}(h:Sep ps W)(ZM:Turns own W W')(YT:∀k,own k->¬lJ ps k):Sep ps W':=h.keep ZM (λp hp k Z3 YB=>YT k YB ⟨p,hp,Z3⟩)
structure Way(xs seq:List Int)(a st:Int)(pos:Nat->Int)(ms:Int->Nat):Prop where
 a0:0<=a
 a1:a<=100000
 s0:-1<=st
 s1:st<=1
 p0:pos 0=a+st
 ps:∀k,pos (k+1)=pos k+st
 ms:∀k,k<=seq.length->ms (pos k)=seq.length-k
 in_:∀k x,seq[k]?=some x->∃p:Nat,pos k=p/\xs[p]?=some x
 o:pos seq.length<0\/(0<=pos seq.length/\(xs.length:Int)<=pos seq.length)
def aat(XD bs Mb g Zf:Nat)(a st:Int)(cs:Array Value)(c:T.Cs)(ps:List Pc)(seq ZC:List Int)(x:Int)(W:World):Prop:=(∃rest,seq=ZC++x::rest)/\(∀y∈ZC,T.al c y=true)/\Sep (AN XD bs Mb g Zf a st cs c ps) W
def m3(XD bs Mb g Zf:Nat)(a st:Int)(cs:Array Value)(c:T.Cs)(ps:List Pc)(seq xs:List Int)(W:World):Prop:=Sep (AN XD bs Mb g Zf a st cs c ps) W/\∃rest,seq=xs++rest/\(rest=[]\/∃Vi y,xs=Vi++[y]/\T.al c y=false)
theorem akw(n:Nat)(XD bs Mb g Zf:Nat)(a st:Int)(Zc YI ci YQ Yw Yy UJ Yd:Value)(c:T.Cs)(Z0:T.Small c)(ZL:T.az 600 c=true)(ps:List Pc)(xs seq:List Int)(Z4:∀x∈xs,U.right x=true)(ZY:xs.length<=100000)(WS:∀W,Sep ps W->Sq W (.agg #[Zc,YI,ci,YQ,Yw,Yy]) c/\Y6 W UJ xs)(pos:Nat->Int)(ms:Int->Nat)(hw:Way xs seq a st pos ms)(l:Nat)(YH:World)(hS:Sep (AN XD bs Mb g Zf a st #[Zc,YI,ci,YQ,Yw,Yy,.map (some Zf),UJ,Yd] c ps) YH):
  hg (n+1) prog 337 #[Zn XD,Zn bs,Zn Mb] (λx:Int=>#[.agg #[.bool (T.cased c x),.bool (T.al c x)]]) (λk=>k=Zf) (lJ (AN XD bs Mb g Zf a st #[Zc,YI,ci,YQ,Yw,Yy,.map (some Zf),UJ,Yd] c ps))
   (aat XD bs Mb g Zf a st #[Zc,YI,ci,YQ,Yw,Yy,.map (some Zf),UJ,Yd] c ps seq) (m3 XD bs Mb g Zf a st #[Zc,YI,ci,YQ,Yw,Yy,.map (some Zf),UJ,Yd] c ps seq) l YH:=by
 intro J PL Pj Gb VX ZI;obtain⟨PP,zl⟩:∃PP,PP=AN XD bs Mb g Zf a st #[Zc,YI,ci,YQ,Yw,Yy,.map (some Zf),UJ,Yd] c ps:=⟨_,rfl⟩
 have GG:=bx zl;rw[<-zl]at VX;have ai2:=bx (λZC x(W0 W:World)(YO:J ZC W0)(ZM:Turns (λk=>k=Zf) W0 W)(Z7:∃rest,seq=ZC++x::rest)(Z5:∀y∈ZC,T.al c y=true)(ZS:Sep PP W)=>VX ZC x W0 W YO ZM ⟨Z7,Z5,by grind⟩);clear VX;have TE:=bx Pj;have ZK:=bx WS;have TW:=bx hw;have OA:=bx Z4;have NN:=bx Z0;have Lq:=bx ZL;have Xb:=bx (λtk W(h:Sep PP W)(rest:List Int)(Z7:seq=tk++rest)(Z5:rest=[]\/∃Vi y,tk=Vi++[y]/\T.al c y=false)=>show m3 XD bs Mb g Zf a st #[Zc,YI,ci,YQ,Yw,Yy,.map (some Zf),UJ,Yd] c ps seq tk W from⟨by grind,rest,Z7,Z5⟩);rw[<-zl]at hS;have XI:=bx hS;obtain⟨L,WE⟩:∃L,seq.length=L:=⟨_,rfl⟩
 have RE:=bx WE;obtain⟨N,Zp⟩:∃N,xs.length=N:=⟨_,rfl⟩
 have ZE:=bx Zp;have Wh:=bx (λW(h:Sep PP W)=>show Zv W XD 3 #[Z9 a]/\Zv W bs 3 #[Z9 st]/\Zv W Mb 225 #[Zn g]/\Zv W g 232 #[Zc,YI,ci,YQ,Yw,Yy,.map (some Zf),UJ,Yd]/\O4 W Zf c/\Sep ps W from by
  rw[zl]at h;exact⟨h.blk 0 rfl,h.blk 1 rfl,h.blk 2 rfl,h.blk 3 rfl,h.at' 4 rfl,h.tail.tail.tail.tail.tail⟩)
 have PT:=bx (λW W'(h:Sep PP W)(ZM:Turns (λk=>k=Zf) W W')(Z3:O4 W' Zf c)=>show Sep PP W' from by
  rw[zl]at h⊢;exact h.upd (own:=λk=>k=Zf) 4 rfl ZM (λ_ h _=>h) (p':=Pc.known Zf c) Z3 (λ_ h=>.inl h))
 obtain⟨q1,q2,q3,q4,q5,q6⟩:=Wh.o YH XI.o;have ayc:=q1.q0;have ayd:=q2.q0;have UV:=hw.a0;have N9:=hw.a1;have jV:=hw.s0;have V6:=hw.s1;have AB:=bx hw.p0;rw[Zp]at ZY;have ZI:=bx ZI;clear Pj WS hw Z4 Z0 ZL hS zl Gb q1 q2 q3 q4 q5 q6 WE Zp;refine callsIn_of_wp func337 rfl trivial ?_;simp only[ntmps337,My,U3,SK,Nat.reduceAdd,Nat.reduceSub,Mu,Mg,Og,Mo,RQ,SI]
 gi_wp2
 refine wpIn_wide.2 (wp_scope_straight ((wpIn_wide (n:=n+1)).1 ?_))
 gi_wp2
 refine wpIn_label ?_
 gi_wp2
 clear ayc ayd
 gi_loopw [5] (λi wr=>∃k:Nat,k<=L/\(∃z:Int,i=Z9 z/\Box (z=pos k))/\Box (∀y∈seq.take k,T.al c y=true)/\Box (Sep PP wr)/\Box (J (seq.take k) wr)) (λi _=>ms (intOf i))
 ·exact⟨0,OQ _,⟨_,rfl,⟨by rw[AB.o]⟩⟩,⟨by simp⟩,XI,ZI⟩
 obtain⟨k,Z3,⟨z,rfl,ahj⟩,EG,YC,YO⟩:=hrel;obtain⟨q1,q2,q3,q4,q5,q6⟩:=Wh.o wr YC.o;have ayh:=bx q2;have ayi:=bx q3;have ayj:=bx q4;have GV:=bx q5;have Qx:=bx q6;obtain⟨lo,lc,WJ⟩:=(ZK.o wr q6).2.slice;rw[ZE.o]at WJ;subst WJ;have YV:=q2.q0;have c1:=q3.q0;have c2:=q4.q7;clear q1 q2 q3 q4 q5 q6 ZI
 by_cases Zu:k<L
 ·obtain⟨x,Z4⟩:=Yg seq k (by rw[RE.o];omega);obtain⟨p,hp,I9⟩:=TW.o.in_ k x Z4;have DU:p<N:=by rw[<-ZE.o];grind
  have oV:=bx hp;obtain rfl:z=(p:Int):=by rw[ahj.o,hp]
  obtain⟨Vx,off,XV,Y5,XL,Yi,XB,YX⟩:=((ZK.o wr Qx.o).2).get (by grind);rw[ZE.o]at Y5 XL;obtain⟨rfl,rfl⟩:=XN Y5;have UT:=YX p x I9;have yV:=bx UT;have Lr:=bx (OA.o x (Xh I9));have U1:=bx (show seq.take (k+1)=seq.take k++[x] by rw[Uo,Z4];rfl);have UK:=bx (show seq=seq.take k++x::seq.drop (k+1) by
   have e:=H9 (l:=seq) (i:=k) (by grind);rw[(R7 Z4).2]at e;rw[<-e];simp)
  have Wz:decide ((0:Int)<=(p:Int))=true:=Yh (by omega);have Zq:decide ((p:Int)<(N:Int))=true:=Yh (by omega);have j4:p<=100000:=by omega
  unfold maxLen at Yi;clear Z4 I9 hp Y5 YX
  gi_wp2
  refine wpIn_wide.2 ?_;have Ae:=bx (aeu (λk=>k=Zf) wr 1);have Xm:=bx (YC.o.drewN 1);have YF:=bx (show wr.drew.cell? ⟨Mb,0,none⟩=some (Zn g)/\wr.drew.cell? ⟨g,7,none⟩=some (.slice (some ⟨Vx,off,none⟩) N lc)/\wr.drew.cell? ⟨Vx,off+p,none⟩=some (Z9 x)from⟨c1,c2,UT⟩);refine Vv 10 (λW'=>ZQ W' Mb 0=some (Zn g)/\ZQ W' g 7=some (.slice (some ⟨Vx,off,none⟩) N lc)/\ZQ W' Vx (off+p)=some (Z9 x)) (by rfl) ?_;have Ae:=bx (show Turns (λk=>k=Zf) wr wr.drew from Ae.o);have Xm:=bx (show Sep PP wr.drew from Xm.o);have Y9:=bx (show Z6 wr wr.drew from VQ wr 1);clear YV c1 c2 UT;generalize wr.drew=Yl at Ae Xm YF Y9⊢;refine Vp [0,1,2,3,4,5,6,7,8,9] ?_
  iterate 10 (refine Vq ?_ rfl YF.o ?_ ?_;rotate_left;·rintro w ⟨q1,q2,q3⟩;go_simp;try with_reducible rfl)
  refine Vr ?_;refine qC (rs:=[10,11]) (by kernel_rfl) (by simp) (Lm.cons rfl (λY7 ZX=>?_) (Lm.cons rfl (λY7 ZX=>?_) Lm.nil))
  focus
   go_simp;obtain⟨q1,q2,q3,q4,q5,q6⟩:=Wh.o Yl Xm.o;refine(mq g Zf Zc YI ci YQ Yw Yy _ Yd c x Yl q4 (ZK.o Yl q6).1 NN.o Lq.o Lr.o q5).mono ?_;rintro e YL ⟨rfl,Ca,Ht⟩;have Wp:=bx (PT.o Yl YL Xm.o Ca Ht);have Gi:=bx (Ae.o.trans Ca);clear Ca Ht q1 q2 q3 q4 q5 q6;refine ZX.out _ _ (λh=>by cases h) ?_;clear ZX Y7;refine Y1 11 rfl λY7 ZX=>?_
   go_simp;refine ZX.out _ _ (λh=>by cases h) ?_;clear ZX Y7;refine Y1 12 rfl λY7 ZX=>?_
   go_simp;refine ZX.out _ _ (λh=>by cases h) ?_;clear ZX Y7;refine kD ?_ _;have HK:=bx (Zv.new YL 329 #[.bool (T.cased c x),.bool (T.al c x)]);have PV:=bx (Gi.o.trans (Turns.alloc YL (.cells #[.bool (T.cased c x),.bool (T.al c x)] 329)));have Jt:=bx (Wp.o.alloc (.cells #[.bool (T.cased c x),.bool (T.al c x)] 329));have Zs:=Gi.o.size;generalize YL.alloc (.cells #[.bool (T.cased c x),.bool (T.al c x)] 329)=NL at HK PV Jt⊢;generalize YL.heap.size=q at HK Zs⊢
  rotate_left
  focus
   go_simp;obtain⟨q1,q2,q3,q4,q5,q6⟩:=Wh.o Yl Xm.o;have Gp:=bx q5.lt;have Zb:=q3.lt;have Yf:=q4.lt;have X0:=Vh XB Y9.o.size;have LQ:=bx (Xl Yl (.cells #[.bool false,.bool false] 329));have Lc:=bx (Xm.o.alloc (.cells #[.bool false,.bool false] 329));have ox:=bx (Zv.new Yl 329 #[.bool false,.bool false]);have NT:=bx (show(Yl.alloc (.cells #[.bool false,.bool false] 329)).cell? ⟨Mb,0,none⟩=some (Zn g)/\(Yl.alloc (.cells #[.bool false,.bool false] 329)).cell? ⟨g,7,none⟩=some (.slice (some ⟨Vx,off,none⟩) N lc)/\(Yl.alloc (.cells #[.bool false,.bool false] 329)).cell? ⟨Vx,off+p,none⟩=some (Z9 x)from
    ⟨(LQ.o.cell (p:=⟨Mb,0,none⟩) Zb).trans YF.o.1,(LQ.o.cell (p:=⟨g,7,none⟩) Yf).trans YF.o.2.1,(LQ.o.cell (p:=⟨Vx,off+p,none⟩) X0).trans YF.o.2.2⟩)
   have NW:=bx (Turns.alloc (own:=λk=>wr.heap.size<=k\/k=Zf) Yl (.cells #[.bool false,.bool false] 329));clear q1 q2 q3 q4 q5 q6 Zb Yf X0;refine ZX.out _ _ (λ_=>NT.o) ?_;clear ZX Y7;generalize Yl.alloc (.cells #[.bool false,.bool false] 329)=WA at LQ Lc ox NT NW⊢;refine Y1 10 rfl λY7 ZX=>?_
   go_simp;obtain⟨q1,q2,q3,q4,q5,q6⟩:=Wh.o WA Lc.o;refine(mq g Zf Zc YI ci YQ Yw Yy _ Yd c x WA q4 (ZK.o WA q6).1 NN.o Lq.o Lr.o q5).mono ?_;rintro e YL ⟨rfl,Ca,Ht⟩;have Wp:=bx (PT.o WA YL Lc.o Ca Ht);have Gi:=bx Ca;have Ba:=bx (Ca.blk ox.o (by have:=Gp.o;omega));clear Ca Ht q1 q2 q3 q4 q5 q6;have z0:=Ba.o.q0;have UB:=Ba.o.q1;have f0:=Ba.o.frozen 0;have f1:=Ba.o.frozen 1;have ayg:=Ba.o.lt;refine ZX.out _ _ (λh=>by cases h) ?_;clear ZX Y7;refine Y1 12 rfl λY7 ZX=>?_
   go_simp;refine ZX.out _ _ (λh=>by cases h) ?_;clear ZX Y7;refine kD ?_ _;have Zs:=Y9.o.size;have ve:=bx ((Turns.setCell (own:=λk=>k=Yl.heap.size) YL (p:=⟨Yl.heap.size,0,none⟩) rfl (.bool (T.cased c x))).trans (Turns.setCell (own:=λk=>k=Yl.heap.size) _ (p:=⟨Yl.heap.size,1,none⟩) rfl (.bool (T.al c x))));have HK:=bx ((Ba.o.ai 0 (.bool (T.cased c x))).ai 1 (.bool (T.al c x)));have PV:=bx (mo (own:=λk=>k=Zf) Y9.o ((NW.o.trans (Gi.o.mono (λk h=>.inr h))).trans (ve.o.mono (λk h=>.inl (by omega)))));have Jt:=bx (Wp.o.keep ve.o (λp hp k Z3 e=>by have:=Xm.o.lt hp Z3;omega));generalize(YL.setCell ⟨Yl.heap.size,0,none⟩ (.bool (T.cased c x))).setCell ⟨Yl.heap.size,1,none⟩ (.bool (T.al c x))=NL at HK PV Jt⊢;clear z0 UB f0 f1 ayg Ba ve NW ox LQ NT YF Lc Wp Gi Ae Xm Y9 Gp;generalize Yl.heap.size=q at HK Zs⊢;have HK:=bx (show Zv NL q 329 #[.bool (T.cased c x),.bool (T.al c x)]from HK.o)
  rotate_left
  all_goals
   have RN:=HK.o.q0;have Vy:=HK.o.q1;have xn:=HK.o.lt;have Nz:=ai2.o (seq.take k) x wr NL YO.o PV.o ⟨_,UK.o⟩ EG.o Jt.o;obtain⟨fn,tmps,assign,body,ZJ,MT⟩:=Nz;have Kz:=bx MT;clear MT
   gi_wp2
   refine Kz.o.mono ?_;rintro e XE (⟨rfl,Oq,Uq⟩|⟨rfl,L7⟩)
   ·have WT:=bx (Sep.kept Jt.o Uq (λk Z3 SP=>Z3 (.inl SP)));have P0:=bx (Uq.blk HK.o (λZP=>ZP (.inr ⟨Zs,HK.o.lt⟩)));have HO:=bx Oq;obtain⟨q1,q2,q3,q4,q5,q6⟩:=Wh.o XE WT.o;have YV:=q2.q0;have UB:=P0.o.q1;clear Oq Uq RN Vy ZJ xn q1 q2 q3 q4 q5 q6;have Ls:=bx (Xb.o (seq.take k++[x]) XE WT.o (seq.drop (k+1)) (by rw[M8];exact UK.o))
    cases hi:T.al c x with
    |true=>
     rw[hi]at UB;have YE:=bx hi;clear hi
     gi_wp2
     go_roundw
     ·exact⟨k+1,Zu,⟨_,rfl,⟨by rw[TW.o.ps,oV.o]⟩⟩,⟨λy ZJ=>by
      rw[U1.o]at ZJ
      rcases Nb.1 ZJ with ZJ|ZJ
      ·exact EG.o y ZJ
      rw[Pe]at ZJ;rw[ZJ];exact YE.o⟩,WT,by rw[U1.o];exact HO⟩
     have Z7:=TW.o.ms k (by rw[RE.o];omega);have Z5:=TW.o.ms (k+1) (by rw[RE.o];omega);rw[TW.o.ps,oV.o]at Z5;rw[oV.o]at Z7;rw[RE.o]at Z7 Z5;grind[intOf]
    |false=>
     rw[hi]at UB;have H0:=bx (Ls.o (.inr ⟨_,_,rfl,hi⟩));clear hi
     gi_wp2
     rw[Exit.noGoto_normal]
     go_end0
     exact⟨⟨_,rfl⟩,.inl ⟨_,H0.o,HO.o⟩⟩
   gi_wp2
   rw[Exit.noGoto_normal]
   go_end0
   grind
 obtain rfl:k=L:=by omega
 have Fc:=bx (show seq=seq.take k++[] by rw[L3,SU (by rw[RE.o];exact Wq _)]);have MW:=bx (Xb.o (seq.take k) wr YC.o [] Fc.o (.inl rfl));have pG:=TW.o.o;rw[RE.o,<-ahj.o,ZE.o]at pG
 rcases pG with pG|⟨J8,MF⟩
 ·have Wz:decide ((0:Int)<=z)=false:=Yp (by omega);clear pG
  gi_wp2
  rw[Exit.noGoto_normal]
  go_end0
  exact⟨⟨_,rfl⟩,.inl ⟨_,MW.o,YO.o⟩⟩
 have Wz:decide ((0:Int)<=z)=true:=Yh (by omega);have Zq:decide (z<(N:Int))=false:=Yp (by omega);clear J8 MF
 gi_wp2
 rw[Exit.noGoto_normal]
 go_end0
 exact⟨⟨_,rfl⟩,.inl ⟨_,MW.o,YO.o⟩⟩
theorem mC{own own':Nat->Prop}{A B:World}(h:Turns own A B)(hm:∀k,own k->k<A.heap.size->own' k):Turns own' A B:=⟨h.os,h.tape,h.output,h.size,λi hi YT=>h.block i hi (λe=>YT (hm i e hi))⟩
theorem adD(g Zf:Nat)(a st:Int)(Zc YI ci YQ Yw Yy UJ Yd:Value)(c:T.Cs)(Z0:T.Small c)(ZL:T.az 600 c=true)(ps:List Pc)(xs seq:List Int)(Z4:∀x∈xs,U.right x=true)(ZY:xs.length<=100000)(WS:∀W,Sep ps W->Sq W (.agg #[Zc,YI,ci,YQ,Yw,Yy]) c/\Y6 W UJ xs)(pos:Nat->Int)(ms:Int->Nat)(hw:Way xs seq a st pos ms)(w:World)(hS:Sep (Pc.blk g 232 #[Zc,YI,ci,YQ,Yw,Yy,.map (some Zf),UJ,Yd]::Pc.known Zf c::ps) w):
  Calls prog 318 #[Zn g,Z9 a,Z9 st] w λe w'=>e=.returned (.bool (T.meets c seq))/\Turns (λk=>k=Zf) w w'/\O4 w' Zf c:=by
 have PI:Zf<w.heap.size:=(hS.at' 1 (p:=Pc.known Zf c) rfl:O4 w Zf c).lt;have Xe:=bx hS;clear hS;refine(callsIn_wide (n:=9)).1 (callsIn_of_wp_marks func318 rfl trivial (wpIn_wide.2 ?_));simp only[ntmps318,My,U3,SK,Nat.reduceAdd,Nat.reduceSub,Mu,Mg,Og,Mo,RQ,SI];go_wp2_with (go_at_call 331;refine YW (apw _ _ _ _) ?_)
 have Wg:=bx (show Sep (AN (w.heap.size+1+1) (w.heap.size+1+1+1) (w.heap.size+1) g Zf a st #[Zc,YI,ci,YQ,Yw,Yy,.map (some Zf),UJ,Yd] c ps) ((((w.alloc (.cells #[.bool false] 4)).alloc (.cells #[Zn g] 225)).alloc (.cells #[Z9 a] 3)).alloc (.cells #[Z9 st] 3)) by
  have h:=(((Xe.o.alloc (.cells #[.bool false] 4)).ak 225 #[Zn g]).ak 3 #[Z9 a]).ak 3 #[Z9 st];simp only[World.size_alloc]at h;exact Sep.perm (List.Perm.swap _ _ _) h)
 obtain⟨Yn,ZZ,Zz,Zb,Us,W1⟩:=four w #[.bool false] #[Zn g] #[Z9 a] #[Z9 st] 4 225 3 3;generalize(((w.alloc (.cells #[.bool false] 4)).alloc (.cells #[Zn g] 225)).alloc (.cells #[Z9 a] 3)).alloc (.cells #[Z9 st] 3)=Xs at Wg Yn ZZ Zz Zb Us W1⊢;have QQ:=bx (Turns.of_below (own:=λk=>w.heap.size<=k\/k=Zf) Us);have ZR:=bx Yn;clear Yn ZZ Zz Zb Us;have P3:∀(ZC:List Int)(W W':World),((∀y∈ZC,T.cased c y=false)/\Zv W w.heap.size 4 #[.bool false]/\Turns (λk=>w.heap.size<=k\/k=Zf) w W)->Turns (λk=>k=Zf\/k=Xs.heap.size+1) W W'->
   ((∀y∈ZC,T.cased c y=false)/\Zv W' w.heap.size 4 #[.bool false]/\Turns (λk=>w.heap.size<=k\/k=Zf) w W'):=by
  rintro ZC W W' ⟨Z7,Z5,ZS⟩ ZM;exact⟨Z7,ZM.blk Z5 (by omega),ZS.trans (ZM.mono (λk Z3=>by omega))⟩
 refine(wpIn_wide (n:=9)).1 (ajo (α:=Int) (gf:=337) (lb:=#[Zn (w.heap.size+1+1),Zn (w.heap.size+1+1+1),Zn (w.heap.size+1)]) rfl (enters_of func337 (by kernel_rfl) rfl)
  (encs:=λx:Int=>#[.agg #[.bool (T.cased c x),.bool (T.al c x)]]) (own:=λk=>k=Zf) (keep:=lJ (AN (w.heap.size+1+1) (w.heap.size+1+1+1) (w.heap.size+1) g Zf a st #[Zc,YI,ci,YQ,Yw,Yy,.map (some Zf),UJ,Yd] c ps))
  (ok:=aat (w.heap.size+1+1) (w.heap.size+1+1+1) (w.heap.size+1) g Zf a st #[Zc,YI,ci,YQ,Yw,Yy,.map (some Zf),UJ,Yd] c ps seq) (S:=m3 (w.heap.size+1+1) (w.heap.size+1+1+1) (w.heap.size+1) g Zf a st #[Zc,YI,ci,YQ,Yw,Yy,.map (some Zf),UJ,Yd] c ps seq)
  (λk Z3=>by
   rcases Z3 with rfl|⟨p,hp,Z3⟩
   ·omega
   exact Wg.o.lt hp Z3)
  (λYH ZM=>akw 7 (w.heap.size+1+1) (w.heap.size+1+1+1) (w.heap.size+1) g Zf a st Zc YI ci YQ Yw Yy UJ Yd c Z0 ZL ps xs seq Z4 ZY WS pos ms hw _ YH (Wg.o.keep ZM (λ_ _ _ _ h=>h)))
  (λ_=>rfl)
  (λZC W=>(∀y∈ZC,T.cased c y=false)/\Zv W w.heap.size 4 #[.bool false]/\Turns (λk=>w.heap.size<=k\/k=Zf) w W)
  (λd _ W=>d=.ret/\T.meets c seq=true/\Zv W w.heap.size 4 #[.bool true]/\Turns (λk=>w.heap.size<=k\/k=Zf) w W/\O4 W Zf c) ?UW ?Kk ?pH ⟨by simp,ZR.o,QQ.o⟩
  (λx a1 W=>∃q,a1={tmps:=#[Zn g,Z9 a,Z9 st,undef,undef,undef,Zn (w.heap.size),Zn q,Zn g,Z9 a,Z9 st,.func (.func 337) #[] #[Zn (w.heap.size+1+1),Zn (w.heap.size+1+1+1),Zn (w.heap.size+1)],.agg #[.bool (T.cased c x),.bool (T.al c x)],undef,undef],defers:=[]}/\Zv W q 329 #[.bool (T.cased c x),.bool (T.al c x)]/\Xs.heap.size+2<=q)
  ?Gc ?assign ?body ?done ?stop ?hS)
 case UW=>exact P3
 case Kk=>
  rintro d ZC W W' ⟨Z7,Z5,ZS,ZG,Zi⟩ ZM;exact⟨Z7,Z5,ZM.blk ZS (by omega),ZG.trans (ZM.mono (λk Z3=>by omega)),Zi.turns ZM (by omega)⟩
 case pH=>
  rintro ZC x W W' ⟨Z7,Z5,ZS⟩ ZM;exact⟨Z7,Z5,ZS.keep ZM (λp hp k Z3 e=>by have:=Wg.o.lt hp Z3;omega)⟩
 case hS=>
  rintro Vi W W' ⟨Z7,Z5⟩ ZM;exact⟨Z7.keep ZM (λp hp k Z3 e=>by have:=Wg.o.lt hp Z3;omega),Z5⟩
 case Gc=>
  rintro x a1 W W' ⟨q,Z7,Z5,ZS⟩ ZM;exact⟨q,Z7,ZM.blk Z5 (by omega),ZS⟩
 case assign=>
  intro x W K LG Xc
  gi_wp2
  exact Xc _ _ (Turns.alloc _ _) ⟨W.heap.size,rfl,Zv.new _ _ _,LG⟩
 case body=>
  rintro ZC x a1 W0 W N um hi ZM Zp ⟨⟨rest,Z7⟩,Z5,ZS⟩ ⟨q,rfl,Zs,j0⟩;obtain⟨i1,i2,i3⟩:=P3 ZC W0 W hi ZM;have FS:=ZM.size;have H1:=bx Z7;have U5:=bx Z5;have Q3:=bx ZS;have HG:=bx i1;have Ee:=bx i2;have zo:=bx i3;have YV:ZQ W q 0=some (.bool (T.cased c x)):=(Zs.cell 0).trans rfl;have S2:ZQ W w.heap.size 0=some (.bool false):=(i2.cell 0).trans rfl;have f0:=i2.frozen 0;have rl:=i2.lt;clear Z7 Z5 ZS i1 i2 i3 hi ZM Zs
  cases UT:T.cased c x with
  |true=>
   rw[UT]at YV;have W3:=bx (show T.meets c seq=true by rw[H1.o];exact T.fU UT U5.o);clear UT
   gi_wp2
   have Yo:=Turns.setCell (own:=λk=>k=w.heap.size) W (p:=⟨w.heap.size,0,none⟩) rfl (.bool true);exact⟨Holds.cA Yo (λk Z3=>by omega) (λk Z3=>by omega),rfl,W3.o,Ee.o.ai 0 _,zo.o.trans (Yo.mono (λk Z3=>by omega)),(Q3.o.at' 4 (p:=Pc.known Zf c) rfl:O4 W Zf c).turns Yo (by omega)⟩
  |false=>
   rw[UT]at YV;have YD:=bx UT;clear UT
   gi_wp2
   exact⟨Turns.refl _ _,λy ZJ=>by
    rcases Nb.1 ZJ with ZJ|ZJ
    ·exact HG.o y ZJ
    rw[Pe]at ZJ;rw[ZJ];exact YD.o,Ee.o,zo.o⟩
 case stop=>
  rintro d ZC W Yj ⟨rfl,Z7,Z5,ZS,ZG⟩ XU;have Xf:=bx XU;have H1:=bx Z7;have U5:=bx Z5;have Q3:=bx ZS;have Nq:=bx ZG;clear Z7 Z5 ZS ZG XU;refine wpIn_wide.2 ?_;go_wp2_with fail;refine⟨by simp,.inl ⟨_,_,rfl,run_takeDeferred Xf.o,?_⟩⟩;have Yo:Turns (λk=>k=Xs.heap.size) W (W.putObj Xs.heap.size (.deferred none)):=Turns.putObj (own:=λk=>k=Xs.heap.size) W rfl (.deferred none);exact⟨_,r6 results318 _ _ w.heap.size _ rfl (((Yo.blk U5.o (by omega)).cell 0).trans rfl) (isAgg4 _),by rw[H1.o];rfl,mC (Q3.o.trans (Yo.mono (λk Z3=>by omega))) (λk Z3 hl=>by omega),Nq.o.turns Yo (by omega)⟩
 case done=>
  rintro Vi W Yj ⟨Z7,rest,Z5,ZS⟩ ⟨i1,i2,i3⟩ XU;have Xf:=bx XU;have W3:=bx (show T.meets c seq=false by rw[Z5];exact T.abc i1 ZS);have Ze:=bx (Z7.at' 4 (p:=Pc.known Zf c) rfl:O4 W Zf c);have Ee:=bx i2;have zo:=bx i3;have S2:ZQ W w.heap.size 0=some (.bool false):=(i2.cell 0).trans rfl;have f0:=i2.frozen 0;have rl:=i2.lt;clear Z7 Z5 ZS i1 i2 i3 XU;go_wp2_with fail;have hS:=Turns.setCell (own:=λk=>k=w.heap.size) W (p:=⟨w.heap.size,0,none⟩) rfl (.bool false);refine⟨by simp,.inl ⟨_,_,rfl,run_takeDeferred ((hS.block _ (by omega) (by omega)).trans Xf.o),?_⟩⟩;have Yo:Turns (λk=>k=Xs.heap.size) (W.setCell ⟨w.heap.size,0,none⟩ (.bool false)) _:=Turns.putObj (own:=λk=>k=Xs.heap.size) _ rfl (.deferred none);exact⟨_,r6 results318 _ _ w.heap.size (.bool false) rfl (((Yo.blk (Ee.o.ai 0 _) (by omega)).cell 0).trans rfl) (isAgg4 _),by rw[W3.o],
   mC ((zo.o.trans (hS.mono (λk Z3=>by omega))).trans (Yo.mono (λk Z3=>by omega))) (λk Z3 hl=>by omega),(Ze.o.turns hS (by omega)).turns Yo (by omega)⟩
def Dy(g Zf:Nat)(cs:Array Value)(c:T.Cs)(ps:List Pc):List Pc:=Pc.blk g 232 cs::Pc.known Zf c::ps
theorem alx{g Zf:Nat}{cs:Array Value}{c:T.Cs}{ps:List Pc}{W W':World}(h:Sep (Dy g Zf cs c ps) W)(ZM:Turns (λk=>k=Zf) W W')(Z3:O4 W' Zf c):Sep (Dy g Zf cs c ps) W' :=
 Sep.upd (ps:=Dy g Zf cs c ps) (own:=λk=>k=Zf) 1 h rfl ZM (λ_ h _=>h) (p':=Pc.known Zf c) Z3 (λ_ h=>.inl h)
theorem anO{xs:List Int}{a:Nat}(_:a<=xs.length)(_:xs.length<=100000):Way xs (xs.take a).reverse a (-1) (λk=>(a:Int)-1-k) (λz=>(z+1).toNat) where
 a0:=by omega
 a1:=by omega
 s0:=by omega
 s1:=by omega
 p0:=by omega
 ps k:=by omega
 ms k Z3:=by
  grind
 in_ k x Z4:=by
  grind
 o:=by
  grind
theorem aoI{xs:List Int}{a:Nat}(_:a<xs.length)(_:xs.length<=100000):Way xs (xs.drop (a+1)) a 1 (λk=>(a:Int)+1+k) (λz=>((xs.length:Int)-z).toNat) where
 a0:=by omega
 a1:=by omega
 s0:=by omega
 s1:=by omega
 p0:=by simp
 ps k:=by rfl
 ms k Z3:=by
  grind
 in_ k x Z4:=by
  grind
 o:=by
  grind
theorem aqE(g Zf a:Nat)(Zc YI ci YQ Yw Yy UJ Yd:Value)(c:T.Cs)(Z0:T.Small c)(ZL:T.az 600 c=true)(ps:List Pc)(xs:List Int)(Z4:∀x∈xs,U.right x=true)(ZY:xs.length<=100000)(YZ:a<xs.length)(WS:∀W,Sep ps W->Sq W (.agg #[Zc,YI,ci,YQ,Yw,Yy]) c/\Y6 W UJ xs)(w:World)(hS:Sep (Dy g Zf #[Zc,YI,ci,YQ,Yw,Yy,.map (some Zf),UJ,Yd] c ps) w):
  Calls prog 292 #[Zn g,Z9 (a:Int)] w λe w'=>e=.returned (.bool (T.final c xs a))/\Turns (λk=>k=Zf) w w'/\O4 w' Zf c:=by
 have WO:=bx (λW h=>adD g Zf a (-1) Zc YI ci YQ Yw Yy UJ Yd c Z0 ZL ps xs _ Z4 ZY WS _ _ (anO (Bn YZ) ZY) W h);have V3:=bx (λW h=>adD g Zf a 1 Zc YI ci YQ Yw Yy UJ Yd c Z0 ZL ps xs _ Z4 ZY WS _ _ (aoI YZ ZY) W h);have Yt:=bx (show T.final c xs a=(T.meets c (xs.take a).reverse&&!T.meets c (xs.drop (a+1)))from rfl);have Xe:=bx hS;clear hS WS;generalize T.meets c (xs.take a).reverse=p at WO Yt;generalize T.meets c (xs.drop (a+1))=q at V3 Yt;generalize T.final c xs a=fin at Yt⊢
 cases p with
 |true=>
  go_in
  go_wp2_with fail;refine(WO.o _ Xe.o).mono ?_;rintro e ZV ⟨rfl,Sg,TT⟩;have V0:=bx (alx Xe.o Sg TT);have NI:=bx Sg;clear Sg TT;go_wp2_with fail;refine(V3.o _ V0.o).mono ?_;rintro e ZB ⟨rfl,Nd,Nj⟩;have Gj:=bx (NI.o.trans Nd);have Oi:=bx Nj;clear Nd Nj
  go_wp2
  go_ret
  exact⟨YG (by rw[Yt.o];rfl),Gj.o,Oi.o⟩
 |false=>
  go_in
  go_wp2_with fail;refine(WO.o _ Xe.o).mono ?_;rintro e ZV ⟨rfl,Sg,TT⟩;have NI:=bx Sg;have T6:=bx TT;clear Sg TT
  go_wp2
  go_ret
  exact⟨YG (by rw[Yt.o];rfl),NI.o,T6.o⟩
def Sp(n g Zf:Nat)(Zc YI ci YQ Yw Yy UJ Yd:Value)(Yc:List Int)(c:T.Cs)(ps:List Pc):List Pc:=Pc.row n 3 1 Yd Yc.length (Yc.map (Value.int .i64))::Dy g Zf #[Zc,YI,ci,YQ,Yw,Yy,.map (some Zf),UJ,Yd] c ps
theorem nR{n g Zf:Nat}{Zc YI ci YQ Yw Yy UJ Yd:Value}{Yc:List Int}{c:T.Cs}{ps:List Pc}{W W':World}(h:Sep (Sp n g Zf Zc YI ci YQ Yw Yy UJ Yd Yc c ps) W)(ZM:Turns (λk=>k=Zf) W W')(Z3:O4 W' Zf c):Sep (Sp n g Zf Zc YI ci YQ Yw Yy UJ Yd Yc c ps) W' :=
 Sep.upd (ps:=Sp n g Zf Zc YI ci YQ Yw Yy UJ Yd Yc c ps) (own:=λk=>k=Zf) 2 h rfl ZM (λ_ h _=>h) (p':=Pc.known Zf c) Z3 (λ_ h=>.inl h)
theorem wO{n g Zf k:Nat}{Zc YI ci YQ Yw Yy UJ Yd S8:Value}{Yc sm r:List Int}{c:T.Cs}{ps:List Pc}{W:World}(h:Sep ((Sp n g Zf Zc YI ci YQ Yw Yy UJ Yd Yc c ps).set 0 (Pc.row n 3 1 S8 k (Yc.map (Value.int .i64)++sm.map (Value.int .i64)))) W)(Z3:k=Yc.length+sm.length)(ZT:r=Yc++sm):
  Sep (Sp n g Zf Zc YI ci YQ Yw Yy UJ S8 r c ps) (W.setCell ⟨g,8,none⟩ S8):=by
 subst ZT Z3;rw[<-T9,<-WR]at h;exact h.set 1 rfl 8 S8
theorem abH(n g Zf a:Nat)(Zc YI ci YQ Yw Yy UJ Yd:Value)(Yc:List Int)(c:T.Cs)(Z0:T.Small c)(ZL:T.az 600 c=true)(ps:List Pc)(xs:List Int)(Z4:∀x∈xs,U.right x=true)(ZY:xs.length<=100000)(YZ:a<xs.length)(_:Yc.length<=900000000)(WS:∀W,Sep ps W->Sq W (.agg #[Zc,YI,ci,YQ,Yw,Yy]) c/\Y6 W UJ xs)(w:World)(ZP:n<=w.heap.size)(hS:Sep (Sp n g Zf Zc YI ci YQ Yw Yy UJ Yd Yc c ps) w):
  Calls prog 245 #[Zn g,Z9 (a:Int)] w λe w'=>(∃v,e=.returned v)/\∃S8,Sep (Sp n g Zf Zc YI ci YQ Yw Yy UJ S8 (Yc++T.small c xs a) c ps) w':=by
 have ZK:=bx (λW(h:Sep (Sp n g Zf Zc YI ci YQ Yw Yy UJ Yd Yc c ps) W)=>WS W h.tail.tail.tail);have Tn:=bx (λW(h:Sep (Sp n g Zf Zc YI ci YQ Yw Yy UJ Yd Yc c ps) W)=>aqE g Zf a Zc YI ci YQ Yw Yy UJ Yd c Z0 ZL ps xs Z4 ZY YZ WS W h.tail);have O9:=bx (λ(x:Int)(On:U.right x=true) W (h:Sep (Sp n g Zf Zc YI ci YQ Yw Yy UJ Yd Yc c ps) W)=>ajw _ c x W (ZK.o W h).1 Z0 ZL On);have uI:=bx (λ(x:Int)(On:U.right x=true)=>(T.dK (T.dR ZL).1 On).1);have Xe:=bx hS;obtain⟨lo,lc,WJ⟩:=(ZK.o w hS).2.slice;obtain⟨N,Zp⟩:∃N,xs.length=N:=⟨_,rfl⟩
 have ZE:=bx Zp;rw[Zp]at ZY YZ WJ;obtain⟨x,CX⟩:=Yg xs a (by omega);obtain⟨Vx,off,XV,Y5,XL,Yi,XB,YX⟩:=(ZK.o w hS).2.get (by grind);rw[ZE.o]at Y5 XL;have O6:=bx (show UJ=.slice (some ⟨Vx,off,none⟩) N lc by grind);obtain rfl:lc=XV:=by grind
 have M7:=bx (show xs.getD a 0=x by grind);have Lr:=bx (Z4 x (Xh CX));have H0:=bx (show T.small c xs a=if(x==931&&T.final c xs a)=true then[962]else T.becomes c.lo x by grind[T.small]);have Uw:=bx (λ(W:World)(h:Sep (Sp n g Zf Zc YI ci YQ Yw Yy UJ Yd Yc c ps) W)=>show ZQ W g 0=some Zc/\ZQ W g 1=some YI/\ZQ W g 2=some ci/\ZQ W g 3=some YQ/\ZQ W g 4=some Yw/\ZQ W g 5=some Yy/\ZQ W g 7=some (.slice (some ⟨Vx,off,none⟩) N lc)/\ZQ W Vx (off+a)=some (Z9 x)/\g<W.heap.size from by
  have Z8:=h.blk 1 rfl;obtain⟨Xd,RZ,c2,Zq,YP,Yb,WW,VK⟩:=(ZK.o W h).2.get (by grind);rw[O6.o]at Zq;injection Zq with Zq BQ p6;injection Zq with Zq;injection Zq with Zq Iu HB;subst Zq Iu;exact⟨Z8.q0,Z8.q1,Z8.q2,Z8.q3,Z8.q4,Z8.q5,(Z8.cell 7).trans (by rw[O6.o];rfl),VK a x CX,Z8.lt⟩)
 have TJ:=bx (λ(W:World)(h:Sep (Sp n g Zf Zc YI ci YQ Yw Yy UJ Yd Yc c ps) W)=>show ZQ W g 8=some Yd/\g<W.heap.size from⟨(h.blk 1 rfl).q8,(h.blk 1 rfl).lt⟩);have TY:=uI.o x Lr.o;have OF:=bx (O9.o x Lr.o);unfold maxLen at Yi;clear hS WS Z0 ZL Z4 Zp CX Y5 YX WJ;obtain⟨YV,c1,c2,c3,VG,Wv,Nn,Ua,YJ⟩:=Uw.o w Xe.o
 by_cases WK:x=931
 ·have HB:(x==931)=true:=by grind
  have NP:=bx (show T.small c xs a=if T.final c xs a=true then[962]else T.becomes c.lo x by rw[H0.o,HB,Bool.true_and]);generalize T.final c xs a=fb at Tn NP;clear WK
  cases fb with
  |true=>
   have R1:=bx (show T.small c xs a=[962] by rw[NP.o,Y0 rfl])
   go_in
   go_wp2_with fail;refine(Tn.o _ Xe.o).mono ?_;rintro e ZV ⟨rfl,Sg,TT⟩;have V0:=bx (nR Xe.o Sg TT);obtain⟨p0,p2⟩:=TJ.o _ V0.o;have p1:=XJ ZP Sg.size;have Q7:=bx (show Yc.length<=1000000000 by omega);clear Sg TT YV c1 c2 c3 VG Wv Nn Ua YJ;go_wp2_with (at_builtin;refine PC (u:=Z9 962) rfl _ _ 22 rfl OJ V0.o 0 rfl rfl rfl rfl Q7.o (by omega) p1 ?_;rintro O3 Xi Wl ⟨AV,Ac,rfl,-,-⟩;have Wb:=bx Wl;have Tm:=(Wl.blk 1 rfl).q8;have f8:=(Wl.blk 1 rfl).frozen 8;have L6:=(Wl.blk 1 rfl).lt;clear Wl p0 p1 p2)
   have TS:=bx (wO (r:=Yc++T.small c xs a) (sm:=[962]) Wb.o (by simp) (by rw[R1.o]));exact bodyPost_ret (results_none rfl _ _ _) rfl ⟨⟨_,rfl⟩,_,TS.o⟩
  |false=>
   have R1:=bx (show T.small c xs a=T.becomes c.lo x by rw[NP.o,Y4 (by simp)])
   go_in
   go_wp2_with fail;refine(Tn.o _ Xe.o).mono ?_;rintro e ZV ⟨rfl,Sg,TT⟩;have V0:=bx (nR Xe.o Sg TT);have Te:=bx (XJ ZP Sg.size);clear Sg TT YV c1 c2 c3 VG Wv Nn Ua YJ;go_wp2_with fail;have Xm:=bx (V0.o.drewN 1);have Xm:=bx (show Sep (Sp n g Zf Zc YI ci YQ Yw Yy UJ Yd Yc c ps) ZV.drew from Xm.o);have YF:=bx (Uw.o ZV.drew Xm.o);refine Vv 17 (λW'=>ZQ W' g 0=some Zc/\ZQ W' g 1=some YI/\ZQ W' g 2=some ci/\ZQ W' g 3=some YQ/\ZQ W' g 4=some Yw/\ZQ W' g 5=some Yy/\ZQ W' g 7=some (.slice (some ⟨Vx,off,none⟩) N lc)/\ZQ W' Vx (off+a)=some (Z9 x)/\g<W'.heap.size) (by rfl) ?_;have QO:=bx (show n<=ZV.drew.heap.size from Te.o);generalize ZV.drew=Yl at Xm YF QO⊢;refine Vp [0,1,2,3,4,5,6,7,8,9,10,11] ?_
   iterate 12 (refine Vq ?_ rfl YF.o ?_ ?_;rotate_left;·rintro w ⟨q1,q2,q3,q4,q5,q6,q7,q8,q9⟩;go_simp;try with_reducible rfl)
   refine Vr ?_;refine Y1 12 rfl λY7 ZX=>?_
   go_simp;refine(OF.o Yl Xm.o).mono ?_;rintro e YK ⟨⟨v5,rfl,QH,Hv⟩,X0⟩;have XO:=bx (Xm.o.below X0);have Pn:=bx (Fo QH);have UM:=bx (Uw.o YK XO.o);have o2:=bx (XJ QO.o X0.size);generalize T.becomes c.lo x=sm at Pn R1 TY;obtain⟨TO,Rs⟩:∃TO,sm.length=TO:=⟨_,rfl⟩
   rw[Rs]at Pn TY;have NX:=bx Rs;clear QH Hv X0 Rs;refine ZX.out _ _ (λ_=>UM.o) ?_;clear ZX Y7;refine Y1 13 rfl λY7 ZX=>?_
   go_simp;refine ZX.out _ _ (λ_=>UM.o) ?_;clear ZX Y7;refine kS 14 ?_ rfl UM.o ?_ ?_;rotate_left
   ·rintro w ⟨q1,q2,q3,q4,q5,q6,q7,q8,q9⟩;go_simp;try with_reducible rfl
   refine kS 15 ?_ rfl UM.o ?_ ?_;rotate_left
   ·rintro w ⟨q1,q2,q3,q4,q5,q6,q7,q8,q9⟩;go_simp;try with_reducible rfl
   refine Y1 16 rfl λY7 ZX=>?_
   go_simp;refine ZX.out _ _ (λ_=>UM.o) ?_;clear ZX Y7;refine Y1 17 rfl λY7 ZX=>?_
   go_simp;refine ZX.out _ _ (λh=>by cases h) ?_;clear ZX Y7;refine kD ?_ _;have Q7:=bx (show Yc.length+TO<=1000000000 by omega);obtain⟨p0,p2⟩:=TJ.o _ XO.o;have p1:=o2.o;go_wp2_with (at_builtin;refine IE rfl _ _ 22 rfl Iw (by decide) XO.o 0 rfl rfl rfl Pn.o (by rw[X4,Nat.mul_one,NX.o]) (by intro z ZY;obtain⟨q,-,rfl⟩:=SL.1 ZY;rfl) Q7.o (by omega) p1 ?_;rintro O3 Xi Wl;obtain⟨AV,Ac,rfl,-,-⟩:=UG (Wl.row 0 rfl);have Wb:=bx Wl;have Tm:=(Wl.blk 1 rfl).q8;have f8:=(Wl.blk 1 rfl).frozen 8;have L6:=(Wl.blk 1 rfl).lt;clear Wl p0 p1 p2)
   have TS:=bx (wO (r:=Yc++T.small c xs a) Wb.o (by rw[NX.o]) (by rw[R1.o]))
   go_end0
   exact⟨⟨_,rfl⟩,_,TS.o⟩
 have HB:(x==931)=false:=by grind
 have R1:=bx (show T.small c xs a=T.becomes c.lo x by rw[H0.o,HB,Bool.false_and,Y4 (by simp)]);clear WK
 go_in
 go_wp2_with fail;clear YV c1 c2 c3 VG Wv Nn Ua YJ;have Xm:=bx (Xe.o.drewN 1);have Xm:=bx (show Sep (Sp n g Zf Zc YI ci YQ Yw Yy UJ Yd Yc c ps) w.drew from Xm.o);have YF:=bx (Uw.o w.drew Xm.o);refine Vv 17 (λW'=>ZQ W' g 0=some Zc/\ZQ W' g 1=some YI/\ZQ W' g 2=some ci/\ZQ W' g 3=some YQ/\ZQ W' g 4=some Yw/\ZQ W' g 5=some Yy/\ZQ W' g 7=some (.slice (some ⟨Vx,off,none⟩) N lc)/\ZQ W' Vx (off+a)=some (Z9 x)/\g<W'.heap.size) (by rfl) ?_;have QO:=bx (show n<=w.drew.heap.size from ZP);generalize w.drew=Yl at Xm YF QO⊢;refine Vp [0,1,2,3,4,5,6,7,8,9,10,11] ?_
 iterate 12 (refine Vq ?_ rfl YF.o ?_ ?_;rotate_left;·rintro w ⟨q1,q2,q3,q4,q5,q6,q7,q8,q9⟩;go_simp;try with_reducible rfl)
 refine Vr ?_;refine Y1 12 rfl λY7 ZX=>?_
 go_simp;refine(OF.o Yl Xm.o).mono ?_;rintro e YK ⟨⟨v5,rfl,QH,Hv⟩,X0⟩;have XO:=bx (Xm.o.below X0);have Pn:=bx (Fo QH);have UM:=bx (Uw.o YK XO.o);have o2:=bx (XJ QO.o X0.size);generalize T.becomes c.lo x=sm at Pn R1 TY;obtain⟨TO,Rs⟩:∃TO,sm.length=TO:=⟨_,rfl⟩
 rw[Rs]at Pn TY;have NX:=bx Rs;clear QH Hv X0 Rs;refine ZX.out _ _ (λ_=>UM.o) ?_;clear ZX Y7;refine Y1 13 rfl λY7 ZX=>?_
 go_simp;refine ZX.out _ _ (λ_=>UM.o) ?_;clear ZX Y7;refine kS 14 ?_ rfl UM.o ?_ ?_;rotate_left
 ·rintro w ⟨q1,q2,q3,q4,q5,q6,q7,q8,q9⟩;go_simp;try with_reducible rfl
 refine kS 15 ?_ rfl UM.o ?_ ?_;rotate_left
 ·rintro w ⟨q1,q2,q3,q4,q5,q6,q7,q8,q9⟩;go_simp;try with_reducible rfl
 refine Y1 16 rfl λY7 ZX=>?_
 go_simp;refine ZX.out _ _ (λ_=>UM.o) ?_;clear ZX Y7;refine Y1 17 rfl λY7 ZX=>?_
 go_simp;refine ZX.out _ _ (λh=>by cases h) ?_;clear ZX Y7;refine kD ?_ _;have Q7:=bx (show Yc.length+TO<=1000000000 by omega);obtain⟨p0,p2⟩:=TJ.o _ XO.o;have p1:=o2.o;go_wp2_with (at_builtin;refine IE rfl _ _ 22 rfl Iw (by decide) XO.o 0 rfl rfl rfl Pn.o (by rw[X4,Nat.mul_one,NX.o]) (by intro z ZY;obtain⟨q,-,rfl⟩:=SL.1 ZY;rfl) Q7.o (by omega) p1 ?_;rintro O3 Xi Wl;obtain⟨AV,Ac,rfl,-,-⟩:=UG (Wl.row 0 rfl);have Wb:=bx Wl;have Tm:=(Wl.blk 1 rfl).q8;have f8:=(Wl.blk 1 rfl).frozen 8;have L6:=(Wl.blk 1 rfl).lt;clear Wl p0 p1 p2)
 have TS:=bx (wO (r:=Yc++T.small c xs a) Wb.o (by rw[NX.o]) (by rw[R1.o]))
 go_end0
 exact⟨⟨_,rfl⟩,_,TS.o⟩
def T.smalls(c:T.Cs)(l:List Int)(i k:Nat):List Int:=(List.range k).flatMap λj=>T.small c l (i+j)
theorem T.gg(c:T.Cs)(l:List Int)(i k:Nat):T.smalls c l i (k+1)=T.smalls c l i k++T.small c l (i+k):=by
 simp[T.smalls,List.range_succ,List.flatMap_nil]
theorem T.abY(c:T.Cs)(l:List Int):∀(n i:Nat),T.b9 c l n i true=T.smalls c l i n
 |0,i=>rfl
 |n+1,i=>by
  simp only[T.b9];rw[T.abY c l n (i+1)];unfold T.smalls;rw[List.range_succ_eq_map,I3,List.flatMap_map,Nat.add_zero]
  grind
theorem T.amC{c:T.Cs}{l:List Int}{p b:Nat}{x:Int}(Z4:l.getD p 0=x)(ZL:T.cased c x=true)(_:p<b):T.word c l p b=T.becomes c.ti x++T.smalls c l (p+1) (b-(p+1)):=by
 unfold T.word;rw[show b-p=b-(p+1)+1 by omega];simp only[T.b9];rw[Z4,Y0 ZL,T.abY]
theorem T.gi{m:Nat}{c:T.Cs}(h:T.az m c=true){l:List Int}(hl:∀x∈l,U.right x=true)(i:Nat):∀k,i+k<=l.length->T.Fine k (T.smalls c l i k)
 |0,_=>T.Fine.nil
 |k+1,Z3=>by
  rw[T.gg];exact(T.gi h hl i k (by omega)).append (T.dz h hl (by omega))
theorem ave(n g Zf a b:Nat)(Zc YI ci YQ Yw Yy UJ Yd:Value)(Yc:List Int)(c:T.Cs)(Z0:T.Small c)(ZL:T.az 600 c=true)(ps:List Pc)(xs:List Int)(Z4:∀x∈xs,U.right x=true)(ZY:xs.length<=100000)(QK:a<=b)(Z8:b<=xs.length)(_:Yc.length<=800000000)(WS:∀W,Sep ps W->Sq W (.agg #[Zc,YI,ci,YQ,Yw,Yy]) c/\Y6 W UJ xs)(Zp:∀W,Sep ps W->n<=W.heap.size)(w:World)(hS:Sep (Sp n g Zf Zc YI ci YQ Yw Yy UJ Yd Yc c ps) w):
  Calls prog 168 #[Zn g,Z9 (a:Int),Z9 (b:Int)] w λe w'=>(∃v,e=.returned v)/\∃S8,Sep (Sp n g Zf Zc YI ci YQ Yw Yy UJ S8 (Yc++T.word c xs a b) c ps) w':=by
 have ZK:=bx WS;have SG:=bx Zp;have R1:=bx (λ(i:Nat)(hi:i<xs.length) S8 acc' (Z7:acc'.length<=900000000) W (h:Sep (Sp n g Zf Zc YI ci YQ Yw Yy UJ S8 acc' c ps) W)=>abH n g Zf i Zc YI ci YQ Yw Yy UJ S8 acc' c Z0 ZL ps xs Z4 ZY hi Z7 WS W (Zp W h.tail.tail.tail) h);have rq:=bx (λ(x:Int)(On:U.right x=true) S8 acc' W (h:Sep (Sp n g Zf Zc YI ci YQ Yw Yy UJ S8 acc' c ps) W)=>mq g Zf Zc YI ci YQ Yw Yy UJ S8 c x W (h.blk 1 rfl) (WS W h.tail.tail.tail).1 Z0 ZL On (h.at' 2 (p:=Pc.known Zf c) rfl));have Pr:=bx (λ(x:Int)(On:U.right x=true) W (h:Sep ps W)=>aoH _ c x W (WS W h).1 Z0 ZL On);have uI:=bx (λ(x:Int)(On:U.right x=true)=>(T.dK (T.dR ZL).2 On).1);have NP:=bx (λi k(h:i+k<=xs.length)=>(T.gi ZL Z4 i k h).1);have OA:=bx Z4;have Xe:=bx hS;obtain⟨lo,lc,rfl⟩:=(WS w hS.tail.tail.tail).2.slice;obtain⟨N,Zp⟩:∃N,xs.length=N:=⟨_,rfl⟩
 have ZE:=bx Zp;rw[Zp]at ZY Z8 R1 NP ZK rq Xe⊢;obtain⟨L,WE⟩:∃L,b=a+L:=⟨b-a,by omega⟩
 have XW:=bx WE;have afU:L<=100000:=by omega
 have Ag:=bx (show∀k,k<=L->T.bE c xs a k=false->T.word c xs a b=T.part xs a k++T.word c xs (a+k) b from λk Z3 hm=>T.arB (by omega) (by omega) hm);have VB:=bx (show∀k,k<=L->(T.part xs a k).length<=k from λk _=>by grind[T.part]);clear hS WS Z0 ZL Z4 Zp WE QK
 go_in
 go_wp2_with fail
 go_loopw[6] (λi wr=>∃k:Nat,k<=L/\i=Z9 ((a:Int)+k)/\Box (T.bE c xs a k=false)/\∃S8,Box (Sep (Sp n g Zf Zc YI ci YQ Yw Yy (.slice lo N lc) S8 (Yc++T.part xs a k) c ps) wr)) (λi _=>b-(intOf i).toNat)
 ·exact⟨0,by omega,by go_num,⟨rfl⟩,Yd,⟨by rw[show Yc++T.part xs a 0=Yc by simp[T.part]];exact Xe.o⟩⟩
 obtain⟨k,Z3,rfl,XF,S8,YC⟩:=hrel;obtain⟨LU,pX⟩:∃LU,LU=Yc++T.part xs a k:=⟨_,rfl⟩
 rw[<-pX]at YC;have ot:=bx pX;have UU:LU.length<=800000000+k:=by rw[pX,WR];have:=VB.o k Z3;omega
 clear pX;obtain⟨p,hp⟩:∃p:Nat,p=a+k:=⟨_,rfl⟩
 rw[show(a:Int)+k=(p:Int) by omega];have WI:=bx hp;have Ur:=XW.o
 by_cases Zu:k<L
 ·have DU:p<N:=by omega
  have NC:p<b:=by omega
  have xO:decide ((p:Int)<(b:Int))=true:=Yh (by omega);clear Ur hp;obtain⟨x,xA⟩:=Yg xs p (by rw[ZE.o];exact DU);obtain⟨Vx,off,XV,Y5,XL,Yi,XB,YX⟩:=(ZK.o wr YC.o.tail.tail.tail).2.get (by grind);rw[ZE.o]at Y5 XL;obtain⟨rfl,rfl⟩:=XN Y5;have Lr:=bx (OA.o x (Xh xA));have M7:=bx (show xs.getD p 0=x by grind);have Uw:=bx (λ(W:World)(h:Sep (Dy g Zf #[Zc,YI,ci,YQ,Yw,Yy,.map (some Zf),.slice (some ⟨Vx,off,none⟩) N lc,S8] c ps) W)=>show ZQ W g 0=some Zc/\ZQ W g 1=some YI/\ZQ W g 2=some ci/\ZQ W g 3=some YQ/\ZQ W g 4=some Yw/\ZQ W g 5=some Yy/\ZQ W g 7=some (.slice (some ⟨Vx,off,none⟩) N lc)/\ZQ W Vx (off+p)=some (Z9 x)/\ZQ W g 8=some S8/\g<W.heap.size from by
   have Z8:=h.blk 0 rfl;obtain⟨Xd,RZ,c2,Zq,YP,Yb,WW,VK⟩:=(ZK.o W h.tail.tail).2.get (by grind);injection Zq with Zq BQ p6;injection Zq with Zq;injection Zq with Zq Iu HB;subst Zq Iu;exact⟨Z8.q0,Z8.q1,Z8.q2,Z8.q3,Z8.q4,Z8.q5,Z8.q7,VK p x xA,Z8.q8,Z8.lt⟩)
  have NZ:=bx (show T.part xs a (k+1)=T.part xs a k++[x] by rw[T.aes (by rw[ZE.o,<-WI.o];exact DU),<-WI.o,M7.o]);have TR:=bx (show T.bE c xs a (k+1)=T.cased c x by rw[T.eh,XF.o,Bool.false_or,<-WI.o,M7.o]);unfold maxLen at Yi;clear xA Y5 YX;obtain⟨Inv,Rk,Tr⟩:∃Inv:World->Prop,(∀W,Inv W->Sep (Sp n g Zf Zc YI ci YQ Yw Yy (.slice (some ⟨Vx,off,none⟩) N lc) S8 LU c ps) W)/\(∀W,Sep (Sp n g Zf Zc YI ci YQ Yw Yy (.slice (some ⟨Vx,off,none⟩) N lc) S8 LU c ps) W->Inv W):=⟨_,λ_ h=>h,λ_ h=>h⟩
  have Wa:=bx (show∀q:CW Inv,Sep (Sp n g Zf Zc YI ci YQ Yw Yy (.slice (some ⟨Vx,off,none⟩) N lc) S8 LU c ps) q.w from λq=>Rk _ q.h);have q7:∀q:CW Inv,q.w.cell? ⟨g,7,none⟩=some (.slice (some ⟨Vx,off,none⟩) N lc):=λq=>(Uw.o _ (Wa.o q).tail).2.2.2.2.2.2.1
  have q8:∀q:CW Inv,q.w.cell? ⟨Vx,off+p,none⟩=some (Z9 x):=λq=>(Uw.o _ (Wa.o q).tail).2.2.2.2.2.2.2.1
  have W6:=bx (Tr _ (YC.o.drewN 1));have W6:=bx (show Inv wr.drew from W6.o);have AJ:=bx (show∀q:CW Inv,Calls prog 243 #[Zn g,Z9 x] q.w λe Ep=>e=.returned (.agg #[.bool (T.cased c x),.bool (T.al c x)])/\∃m:CW Inv,Ep=m.w from λq=>(rq.o x Lr.o S8 LU q.w (Wa.o q)).mono λ_ w' ⟨he,ZM,Z3⟩=>⟨he,⟨w',Tr _ (nR (Wa.o q) ZM Z3)⟩,rfl⟩);have aAa:∀(p q:Bool) W,(Instr.field 329 (.agg #[.bool p,.bool q]) 0).run prog W=.ok (.bool p) W:=λp q W=>by rfl
  clear Rk Tr
  cases ZJ:T.cased c x with
  |false=>
   rw[ZJ]at AJ;have RB:=bx (TR.o.trans ZJ);clear ZJ;go_wp2_with fail;refine OL Inv (by rfl) (by kernel_rfl) W6.o (λXq=>?_)
   repeat (any_goals (first|go_big_quiet_step ((go_at_call 243;exact AJ.o _))|quiet_step ((go_at_call 243;exact AJ.o _))))
   refine wpQuiet_nil ?_;rintro Xi ⟨q9,rfl⟩;have Wb:=bx (Wa.o q9);generalize q9.w=Xi at Wb⊢;clear q7 q8 Xq;have Q7:=bx (show LU.length<=1000000000 by omega);have Xm:=bx (show Sep (Sp n g Zf Zc YI ci YQ Yw Yy (.slice (some ⟨Vx,off,none⟩) N lc) S8 LU c ps) Xi.drew from Wb.o.drewN 1);have YF:=bx (Uw.o Xi.drew Xm.o.tail);have QO:=bx (SG.o Xi.drew Xm.o.tail.tail.tail);go_wp2_with fail;refine Vv 16 (λW'=>ZQ W' g 0=some Zc/\ZQ W' g 1=some YI/\ZQ W' g 2=some ci/\ZQ W' g 3=some YQ/\ZQ W' g 4=some Yw/\ZQ W' g 5=some Yy/\ZQ W' g 7=some (.slice (some ⟨Vx,off,none⟩) N lc)/\ZQ W' Vx (off+p)=some (Z9 x)/\ZQ W' g 8=some S8/\g<W'.heap.size) (by rfl) ?_;generalize Xi.drew=Yl at Xm YF QO⊢;refine Vp [0,1,2,3,4,5,6,7,8,9,10,11] ?_
   iterate 12 (refine Vq ?_ rfl YF.o ?_ ?_;rotate_left;·rintro w ⟨q1,q2,q3,q4,q5,q6,q7,q8,q9,q10⟩;go_simp;try with_reducible rfl)
   refine Vr ?_;refine Y1 12 rfl λY7 ZX=>?_
   go_simp;refine ZX.out _ _ (λ_=>Uw.o _ (Xm.o.tail.alloc _)) ?_;clear ZX Y7;refine Y1 13 rfl λY7 ZX=>?_
   refine H6 (u:=Z9 x) rfl _ _ 22 rfl OJ Xm.o 0 rfl (by rfl) (by rfl) rfl Q7.o (by omega) QO.o ?_;rintro v6 XA WC ⟨azL,azJ,rfl,-,-⟩;have WQ:=bx WC;have Tj:=bx (Uw.o XA WC.tail);have Tm:=(WC.blk 1 rfl).q8;have f8:=(WC.blk 1 rfl).frozen 8;have L6:=(WC.blk 1 rfl).lt;clear WC;refine ZX.out _ _ (λ_=>Tj.o) ?_;clear ZX Y7;refine Y1 14 rfl λY7 ZX=>?_
   go_simp;refine ZX.out _ _ (λ_=>Tj.o) ?_;clear ZX Y7;refine Y1 15 rfl λY7 ZX=>?_
   go_simp;refine ZX.out _ _ (λ_=>Tj.o) ?_;clear ZX Y7;refine Y1 16 rfl λY7 ZX=>?_
   go_simp;refine ZX.out _ _ (λh=>by cases h) ?_;clear ZX Y7;refine kD ?_ _;have TS:=bx (wO (r:=Yc++T.part xs a (k+1)) (sm:=[x]) WQ.o (by simp) (by rw[NZ.o,ot.o,M8]))
   go_wp2
   go_roundw
   ·exact⟨k+1,by omega,by have Vz:=WI.o;go_num,RB,_,TS⟩
   grind[intOf]
  |true=>
   rw[ZJ]at AJ;have Q9:=bx (show Yc++T.word c xs a b=LU++(T.becomes c.ti x++T.smalls c xs (p+1) (b-(p+1))) by rw[Ag.o k Z3 XF.o,<-WI.o,T.amC M7.o ZJ NC,<-M8,<-ot.o]);have zO:((p:Int)==(b:Int))=false:=by grind
   have SR:=uI.o x Lr.o;clear ZJ;go_wp2_with fail;refine OL Inv (by rfl) (by kernel_rfl) W6.o (λXq=>?_)
   repeat (any_goals (first|go_big_quiet_step ((go_at_call 243;exact AJ.o _))|quiet_step ((go_at_call 243;exact AJ.o _))))
   refine wpQuiet_nil ?_;rintro Xi ⟨q9,rfl⟩;have Wb:=bx (Wa.o q9);generalize q9.w=Xi at Wb⊢;clear q7 q8 Xq;have Xm:=bx (show Sep (Sp n g Zf Zc YI ci YQ Yw Yy (.slice (some ⟨Vx,off,none⟩) N lc) S8 LU c ps) Xi.drew from Wb.o.drewN 1);have YF:=bx (Uw.o Xi.drew Xm.o.tail);go_wp2_with fail;refine Vv 17 (λW'=>ZQ W' g 0=some Zc/\ZQ W' g 1=some YI/\ZQ W' g 2=some ci/\ZQ W' g 3=some YQ/\ZQ W' g 4=some Yw/\ZQ W' g 5=some Yy/\ZQ W' g 7=some (.slice (some ⟨Vx,off,none⟩) N lc)/\ZQ W' Vx (off+p)=some (Z9 x)/\ZQ W' g 8=some S8/\g<W'.heap.size) (by rfl) ?_;generalize Xi.drew=Yl at Xm YF⊢;refine Vp [0,1,2,3,4,5,6,7,8,9,10,11] ?_
   iterate 12 (refine Vq ?_ rfl YF.o ?_ ?_;rotate_left;·rintro w ⟨q1,q2,q3,q4,q5,q6,q7,q8,q9,q10⟩;go_simp;try with_reducible rfl)
   refine Vr ?_;refine Y1 12 rfl λY7 ZX=>?_
   go_simp;refine(Pr.o x Lr.o Yl Xm.o.tail.tail.tail).mono ?_;rintro e YK ⟨⟨v5,rfl,QH,-⟩,X0⟩;have XO:=bx (Xm.o.below X0);have Pn:=bx (Fo QH);have UM:=bx (Uw.o YK XO.o.tail);have iV:=bx (SG.o YK XO.o.tail.tail.tail);generalize T.becomes c.ti x=sm at Pn Q9 SR QH;obtain⟨TO,Rs⟩:∃TO,sm.length=TO:=⟨_,rfl⟩
   rw[Rs]at Pn SR;have NX:=bx Rs;clear QH X0 Rs;refine ZX.out _ _ (λ_=>UM.o) ?_;clear ZX Y7;refine Y1 13 rfl λY7 ZX=>?_
   go_simp;refine ZX.out _ _ (λ_=>UM.o) ?_;clear ZX Y7;refine kS 14 ?_ rfl UM.o ?_ ?_;rotate_left
   ·rintro w ⟨q1,q2,q3,q4,q5,q6,q7,q8,q9,q10⟩;go_simp;try with_reducible rfl
   refine kS 15 ?_ rfl UM.o ?_ ?_;rotate_left
   ·rintro w ⟨q1,q2,q3,q4,q5,q6,q7,q8,q9,q10⟩;go_simp;try with_reducible rfl
   refine Y1 16 rfl λY7 ZX=>?_
   go_simp;refine ZX.out _ _ (λ_=>UM.o) ?_;clear ZX Y7;refine Y1 17 rfl λY7 ZX=>?_
   go_simp;refine ZX.out _ _ (λh=>by cases h) ?_;clear ZX Y7;refine kD ?_ _;have Q7:=bx (show LU.length+TO<=1000000000 by omega);have TJ:=bx (show YK.cell? ⟨g,8,none⟩=some S8/\g<YK.heap.size from⟨UM.o.2.2.2.2.2.2.2.2.1,UM.o.2.2.2.2.2.2.2.2.2⟩);obtain⟨p0,p2⟩:=TJ.o;have p1:=iV.o;obtain⟨M,Xv⟩:∃M,M=b-(p+1):=⟨_,rfl⟩
   rw[<-Xv]at Q9;have yH:=bx (show b=p+1+M by omega);have azU:M<=100000:=by omega
   clear Xv zO;go_wp2_with (at_builtin;refine IE rfl _ _ 22 rfl Iw (by decide) XO.o 0 rfl rfl rfl Pn.o (by rw[X4,Nat.mul_one,NX.o]) (by intro z ZY;obtain⟨q,-,rfl⟩:=SL.1 ZY;rfl) Q7.o (by omega) p1 ?_;rintro O3 Va T4;obtain⟨AV,Ac,rfl,-,-⟩:=UG (T4.row 0 rfl);have TS:=bx T4;have Tm:=(T4.blk 1 rfl).q8;have f8:=(T4.blk 1 rfl).frozen 8;have L6:=(T4.blk 1 rfl).lt;clear T4 p0 p1 p2)
   have TP:=bx (wO (r:=LU++sm) TS.o (by rw[NX.o]) rfl);have SH:=bx (show(LU++sm).length<=850000000 by rw[WR];have:=NX.o;omega);rw[<-M8]at Q9;generalize LU++sm=zc at TP SH Q9;generalize Va.setCell ⟨g,8,none⟩ (.slice AV (LU.length+TO) Ac)=PM at TP⊢;generalize(Value.slice AV (LU.length+TO) Ac)=ov9 at TP⊢;clear Tm f8 L6;go_wp2_with fail;clear Wa AJ W6 Uw Wb XO Xm YF Pn UM iV TJ TS NZ TR M7 Lr Q7
   go_loopw[6] (λi Xz=>∃Zr:Nat,Zr<=M/\i=Z9 ((p:Int)+1+Zr)/\∃vP,Box (Sep (Sp n g Zf Zc YI ci YQ Yw Yy (.slice (some ⟨Vx,off,none⟩) N lc) vP (zc++T.smalls c xs (p+1) Zr) c ps) Xz)) (λi _=>b-(intOf i).toNat)
   ·exact⟨0,by omega,by go_num,ov9,⟨by rw[show zc++T.smalls c xs (p+1) 0=zc by simp[T.smalls]];exact TP.o⟩⟩
   rename_i Xz _ _
   obtain⟨Zr,Nj,rfl,vP,adB⟩:=hrel;obtain⟨q,Zs⟩:∃q:Nat,q=p+1+Zr:=⟨_,rfl⟩
   rw[show(p:Int)+1+Zr=(q:Int) by omega];have Xy:=bx Zs;have F5:=yH.o
   by_cases aw5:Zr<M
   ·have axg:q<N:=by omega
    have j1:q<b:=by omega
    have az8:decide ((q:Int)<(b:Int))=true:=Yh (by omega);have AG:=bx (R1.o q axg vP (zc++T.smalls c xs (p+1) Zr) (by rw[WR];have:=SH.o;have:=NP.o (p+1) Zr (by omega);omega) _ adB.o);have Xb:=bx (show zc++T.smalls c xs (p+1) Zr++T.small c xs q=zc++T.smalls c xs (p+1) (Zr+1) by rw[T.gg,M8,<-Zs]);clear F5 Zs;go_wp2_with fail;refine AG.o.mono ?_;rintro e Zh ⟨⟨v3,rfl⟩,axU,ED⟩;rw[Xb.o]at ED;have WT:=bx ED;clear ED
    go_wp2
    go_roundw
    ·exact⟨Zr+1,by omega,by have Vz:=Xy.o;go_num,axU,WT⟩
    grind[intOf]
   have j1:q=b:=by omega
   obtain rfl:M=Zr:=by omega
   have Xn:=bx adB.o;rw[<-Q9.o]at Xn;clear F5 Zs;rw[j1];clear j1
   go_wp2
   go_end0
   exact⟨⟨_,rfl⟩,_,Xn.o⟩
 obtain rfl:L=k:=by omega
 have NC:p=b:=by omega
 have oR:=bx (show Yc++T.word c xs a b=LU by
  rw[Ag.o L Ys XF.o,<-WI.o,NC,ot.o];simp[T.word,Nat.sub_self,T.b9])
 have Xn:=bx YC.o;rw[<-oR.o]at Xn;clear Ur hp;rw[NC];clear NC;go_wp2_with fail
 go_quiet (fail)
 have aim:=bx (Xn.o.drewN nq);go_wp2_with fail;exact bodyPost_ret (results_none rfl _ _ _) rfl ⟨⟨_,rfl⟩,_,aim.o⟩
section
open Go.Shelf
theorem asr(t:Int)(w:World):Calls prog 241 #[Z9 t] w λe w'=>e=.returned (.bool (!U.right t))/\w=w':=by
 have ZK:=bx (λW=>qx t W)
 go_in
 go_wp2_with fail;refine YW (ZK.o _) ?_
 go_wp2
 go_ret
 simp
theorem aun(v:Value)(xs:List Int)(w:World)(Z2:Y6 w v xs)(_:xs.length<=16777216):
  Calls prog 279 #[v,.func (.func 241) #[] #[]] w λe w'=>(∃i:Int,e=.returned (Z9 i)/\decide (0<=i)=xs.any (λt=>!U.right t))/\w=w':=by
 have Qv:=bx Z2;obtain⟨XH,ZU,rfl⟩:=Z2.slice;have X9:=bx (λt=>asr t w);clear Z2
 go_in
 go_wp2_with fail
 go_loop[8] (λi=>∃k:Nat,k<=xs.length/\i=Z9 k/\Box ((xs.take k).any (λt=>!U.right t)=false)) (λi=>xs.length-(intOf i).toNat)
 ·exact⟨0,by omega,rfl,⟨rfl⟩⟩
 obtain⟨k,Z3,rfl,YZ⟩:=hrel
 by_cases Uf:k<xs.length
 ·obtain⟨x,Z4⟩:∃x,xs[k]?=some x:=⟨_,SA Uf⟩
  obtain⟨g,off,XV,Y5,XL,Yi,XB,YX⟩:=Qv.o.get (by grind);obtain⟨rfl,rfl⟩:=XN Y5;have UT:=YX k x Z4;have YD:=bx Z4;unfold maxLen at Yi;clear Z4 Y5 YX
  cases hi:(λt=>!U.right t) x with
  |false=>
   have Y8:=bx (show(xs.take (k+1)).any (λt=>!U.right t)=false by rw[Uo,YD.o,List.any_append,YZ.o,Option.toList_some,List.any_cons,List.any_nil,Bool.or_false,Bool.false_or];exact hi);have YE:=bx hi;clear hi;go_wp2_with fail;refine YW (X9.o x) ?_;rw[YE.o];go_wp2_with fail
   go_round
   ·exact⟨k+1,Uf,by go_num,Y8⟩
   grind[intOf]
  |true=>
   have Y8:=bx (show xs.any (λt=>!U.right t)=true by rw[NS];exact⟨x,Xh YD.o,hi⟩);have YE:=bx hi;clear hi;go_wp2_with fail;refine YW (X9.o x) ?_;rw[YE.o]
   go_wp2
   go_ret
   exact⟨⟨k,rfl,by rw[Y8.o];simp⟩,rfl⟩
 have Y8:=bx (show xs.any (λt=>!U.right t)=false by have:=YZ.o;grind)
 go_wp2
 go_ret
 exact⟨⟨-1,rfl,by rw[Y8.o];rfl⟩,rfl⟩
theorem adx(v:Value)(xs:List Int)(w:World)(Z2:Y6 w v xs)(ZY:xs.length<=16777216):
  Calls prog 215 #[v,.func (.func 241) #[] #[]] w λe w'=>e=.returned (.bool (xs.any (λt=>!U.right t)))/\w=w':=by
 have YE:=bx (aun v xs w Z2 ZY);clear Z2
 go_in
 go_wp2_with fail;refine YE.o.mono ?_;rintro e ZV ⟨⟨i,rfl,hi⟩,rfl⟩;have YD:=bx hi;clear hi
 go_wp2
 go_ret
 exact⟨YG (by simpa using YD.o),rfl⟩
theorem aln(x:Int)(w:World):Calls prog 314 #[Z9 x] w λe w'=>e=.returned (.bool false)/\w=w':=by
 go_in
 go_wp2
 go_ret
 simp
theorem ad3(x y:Int)(w:World):Calls prog 288 #[Z9 x,Z9 y] w λe w'=>e=.returned (.bool (decide (x<y)))/\w=w':=by
 have H:=bx (λz W=>aln z W)
 go_in
 go_wp2_with fail;refine YW (H.o _ _) ?_
 go_wp2
 go_ret
 simp
def T.cV(l:List Int):Bool:=(List.range l.length).all λj=>decide (j=0)||decide (l.getD (j-1) 0<=l.getD j 0)
theorem T.amP{l:List Int}(_:∀j,1<=j->j<l.length->l.getD (j-1) 0<=l.getD j 0):T.cV l=true:=by
 grind[T.cV]
theorem T.avr{l:List Int}{j:Nat}(_:1<=j)(_:j<l.length)(_:l.getD j 0<l.getD (j-1) 0):T.cV l=false:=by
 grind[T.cV]
theorem hr(v:Value)(xs:List Int)(w:World)(Z2:Y6 w v xs)(ZY:xs.length<=16777216):
  Calls prog 242 #[v] w λe w'=>e=.returned (.bool (T.cV xs))/\Z6 w w':=by
 have ZN:=bx (λW(h:Z6 w W)=>Z2.below h);obtain⟨XH,ZU,rfl⟩:=Z2.slice;obtain⟨N,Zp⟩:∃N,xs.length=N:=⟨_,rfl⟩
 have ZE:=bx Zp;rw[Zp]at ZY ZN⊢;clear Z2 Zp
 go_in
 go_wp2_with fail
 go_loopw[3] (λi wr=>∃z:Int,i=Z9 z/\-1<=z/\z<=(N:Int)-1/\Box (∀j:Nat,z<j->1<=j->j<N->xs.getD (j-1) 0<=xs.getD j 0)/\Box (Z6 w wr)) (λi _=>(intOf i).toNat)
 ·exact⟨_,rfl,by omega,by omega,⟨λj Z7 Z5 ZS=>by omega⟩,⟨Below.refl _ _⟩⟩
 obtain⟨z,rfl,Up,Vf,YB,Z8⟩:=hrel
 by_cases Zu:0<z
 ·obtain⟨p,hp⟩:∃p:Nat,z=(p:Int)+1:=⟨(z-1).toNat,by omega⟩
  subst hp;have DU:p+1<N:=by omega
  obtain⟨x,Z4⟩:=Yg xs (p+1) (by rw[ZE.o];exact DU);obtain⟨y,ZJ⟩:=Yg xs p (by grind);obtain⟨g,off,XV,Y5,XL,Yi,XB,YX⟩:=(ZN.o wr Z8.o).get (by grind);rw[ZE.o]at Y5 XL;obtain⟨rfl,rfl⟩:=XN Y5;have Ua:=YX (p+1) x Z4;have afD:=YX p y ZJ;have YD:=bx (show xs.getD (p+1) 0=x by grind);have Wn:=bx (show xs.getD p 0=y by grind);unfold maxLen at Yi;clear Z4 ZJ Y5 YX
  cases ZL:decide (x<y)with
  |true=>
   have Yt:=bx (T.avr (j:=p+1) (by omega) (by rw[ZE.o];exact DU) (by rw[Nat.add_sub_cancel,YD.o,Wn.o];grind));have W4:=bx (λW=>ZL▸ad3 x y W);clear ZL;go_wp2_with fail
   go_quiet ((go_at_call 288;exact MQ (W4.o _)))
   have V3:=bx (Z8.o.trans ((below_drewN (Below.refl wr.heap.size wr) nq).mono Z8.o.size))
   go_wp2
   go_ret
   exact⟨YG (by rw[Yt.o]),V3.o⟩
  |false=>
   have PS:=bx (show∀j:Nat,(p:Int)<j->1<=j->j<N->xs.getD (j-1) 0<=xs.getD j 0 from λj Z7 Z5 ZS=>by
    rcases SM (p+1) j with h|h
    ·exact YB.o j (by omega) Z5 ZS
    obtain rfl:j=p+1:=by omega
    rw[Nat.add_sub_cancel,YD.o,Wn.o];grind)
   have W4:=bx (λW=>ZL▸ad3 x y W);clear ZL;go_wp2_with fail
   go_quiet ((go_at_call 288;exact MQ (W4.o _)))
   have V3:=bx (Z8.o.trans ((below_drewN (Below.refl wr.heap.size wr) nq).mono Z8.o.size))
   go_wp2
   go_roundw
   ·exact⟨p,by go_num,by omega,by omega,PS,V3⟩
   simp[intOf]
 have Y8:=bx (T.amP (λj Z7 Z5=>YB.o j (by omega) Z7 (by rw[<-ZE.o];exact Z5)));have Zm:=Yp Zu;clear Zu
 go_wp2
 go_ret
 exact⟨YG (by rw[Y8.o]),Z8.o⟩
