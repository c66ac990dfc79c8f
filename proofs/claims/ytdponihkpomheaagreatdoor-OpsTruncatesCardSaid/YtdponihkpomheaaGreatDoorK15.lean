/- Texts of this claim. -/
import Derived.Test.YtdponihkpomheaaGreatDoorK14

set_option maxRecDepth 100000
set_option maxHeartbeats 8000000
namespace Go.Proofs.YtdponihkpomheaaGreatDoor
open Go.RowKit
attribute[local go_sem] Oper.semAt_some
open Tryz
def F.aR(b:List Int):Bool:=decide (b.length=256)&&b.all λv=>decide (0<=v)&&decide (v<=31)
theorem F.eL(t:F.Trie):F.aE t=(decide (t.1.length=4352)&&t.1.all (λn=>decide (0<=n)&&decide (n<t.2.length))&&t.2.all F.aR):=rfl
theorem Js{α:Type}{p:α->Bool}{l:List α}{k:Nat}{x:α}(_:l[k]?=some x)(_:p x=false):l.all p=false:=by
 grind
theorem B1{α:Type}{p:α->Bool}{l:List α}(h:∀(j:Nat)(x:α),j<l.length->l[j]?=some x->p x=true):l.all p=true:=by
 rw[QG];intro x Z4;obtain⟨i,hi,e⟩:=List.getElem_of_mem Z4;exact h i x hi (by grind)
theorem upto_succ{α:Type}{p:α->Prop}{l:List α}{k:Nat}{x:α}(_:∀(j:Nat)(y:α),j<k->l[j]?=some y->p y)(_:l[k]?=some x)(_:p x):∀(j:Nat)(y:α),j<k+1->l[j]?=some y->p y:=λj y _ _=>by
 grind
theorem rU(v:Value)(t:F.Trie)(w:World)(Z2:Fr w v t)(Z7:t.1.length<=100000)(Z5:t.2.length<=100000):
  Calls prog 131 #[v] w λe w'=>e=.returned (.bool (F.aE t))/\Z6 w w':=by
 rw[F.eL];obtain⟨xs,WB⟩:=t;obtain⟨ZD,bv,rfl,PJ,Sh⟩:=Z2;simp only at PJ Sh Z7 Z5⊢;obtain⟨U0,UQ,rfl⟩:=PJ.slice;obtain⟨XD,Wm,rfl⟩:=Sh.slice;obtain⟨N,Zp⟩:∃N,xs.length=N:=⟨_,rfl⟩
 obtain⟨M,Xv⟩:∃M,WB.length=M:=⟨_,rfl⟩
 rw[Zp]at PJ Z7⊢;rw[Xv]at Sh Z5⊢;have ZE:=bx Zp;have W3:=bx Xv;obtain⟨V,ZO⟩:∃V,V=w.alloc (.cells #[.slice U0 N UQ,.slice XD M Wm] 25):=⟨_,rfl⟩
 have Wj:=bx (aB ZO);have Ze:=bx (aK ZO);have YE:=bx (PJ.below Wj.o);have V3:=bx (Sh.below Wj.o);have ZN:=bx ZO;clear PJ Sh Zp Xv ZO;have ZF:=bx (λW(h:Z6 V W)=>Ze.o.d2 h)
 go_in
 go_upto_region 1 with(fail)
 rw[<-ZN.o];obtain⟨Q,VI⟩:∃Q,w.heap.size=Q:=⟨_,rfl⟩
 rw[VI]at ZF⊢;have Xy:=bx VI;clear ZN VI
 by_cases rD:N=4352
 rotate_left
 ·have Wz:=Yp rD;have Zq:((N:Int) != 4352)=true:=by grind
  obtain⟨YV,c1,YJ⟩:=ZF.o V YU;have Xn:=bx Wz;clear rD Wz
  go_wp2
  go_ret
  exact⟨YG (by grind),Wj.o⟩
 have Wz:=Yh rD;have Zq:((N:Int) != 4352)=false:=by grind
 have Xn:=bx Wz;clear rD Wz;obtain⟨YV,c1,YJ⟩:=ZF.o V YU;go_wp2_with fail;clear YV c1 YJ Zq
 go_loopw[3] (λi wr=>∃k:Nat,k<=N/\i=Z9 k/\Box (∀(j:Nat)(y:Int),j<k->xs[j]?=some y->(decide (0<=y)&&decide (y<(M:Int)))=true)/\Box (Z6 V wr)) (λi _=>N-(intOf i).toNat)
 ·exact⟨0,by omega,rfl,⟨λj y h=>by omega⟩,⟨Below.refl _ _⟩⟩
 obtain⟨k,Z3,rfl,YB,Z8⟩:=hrel;obtain⟨YV,c1,YJ⟩:=ZF.o wr Z8.o;have W6:=bx (λm=>Z8.o.trans ((Po wr m).mono Z8.o.size));have YA:=bx (λm=>Wj.o.trans ((W6.o m).mono Wj.o.size))
 by_cases Zu:k<N
 ·obtain⟨y,ZJ⟩:=Yg xs k (by rw[ZE.o];omega);obtain⟨g,off,XV,Y5,XL,Yi,XB,YX⟩:=(YE.o.below Z8.o).get (by grind);rw[ZE.o]at Y5 XL;obtain⟨rfl,rfl⟩:=XN Y5;have Q0:=YX k y ZJ;have Wn:=bx ZJ;unfold maxLen at Yi;clear ZJ Y5 YX
  by_cases T8:0<=y
  ·have Zq:decide (y<0)=false:=Yp (by omega)
   by_cases Nk:y<(M:Int)
   ·have YP:decide ((M:Int)<=y)=false:=Yp (by omega);have Te:=bx (upto_succ YB.o Wn.o (show(decide (0<=y)&&decide (y<(M:Int)))=true by grind));clear T8 Nk;go_wp2_with fail
    go_quiet (fail)
    go_wp2
    go_roundw
    ·exact⟨k+1,by omega,by go_num,Te,⟨W6.o _⟩⟩
    grind[intOf]
   have YP:decide ((M:Int)<=y)=true:=Yh (by omega);have Yt:=bx (show xs.all (λn=>decide (0<=n)&&decide (n<(M:Int)))=false from Js Wn.o (by grind));clear T8 Nk;go_wp2_with fail
   go_quiet (fail)
   go_wp2
   go_ret
   exact⟨YG (by rw[Xn.o,Yt.o];rfl),YA.o _⟩
  have Zq:decide (y<0)=true:=Yh (by omega);have Yt:=bx (show xs.all (λn=>decide (0<=n)&&decide (n<(M:Int)))=false from Js Wn.o (by grind));clear T8;go_wp2_with fail
  go_quiet (fail)
  go_wp2
  go_ret
  exact⟨YG (by rw[Xn.o,Yt.o];rfl),YA.o _⟩
 obtain rfl:k=N:=by omega
 have WO:=bx (B1 (λj x YO Z4=>YB.o j x (by rw[<-ZE.o];exact YO) Z4));go_wp2_with fail
 go_loopw[4] (λi NL=>∃m:Nat,m<=M/\i=Z9 m/\Box (∀(j:Nat)(y:List Int),j<m->WB[j]?=some y->F.aR y=true)/\Box (Z6 V NL)) (λi _=>M-(intOf i).toNat)
 ·exact⟨0,by omega,rfl,⟨λj y h=>by omega⟩,Z8⟩
 obtain⟨m,hm,rfl,MX,SR⟩:=hrel;obtain⟨ws,rfl⟩:∃W,W=wr:=⟨_,rfl⟩
 obtain⟨YV,c1,YJ⟩:=ZF.o ws SR.o;have YA:=bx (bt Wj.o SR.o)
 by_cases Nh:m<M
 ·obtain⟨r,ZT⟩:=Yg WB m (by rw[W3.o];omega);obtain⟨g,off,XV,Y5,XL,Yi,XB,YX⟩:=(V3.o.below SR.o).get (by grind);rw[W3.o]at Y5 XL;obtain⟨rfl,rfl⟩:=XN Y5;obtain⟨x,Q0,TG⟩:=YX m r ZT;obtain⟨Xo,Pm,rfl⟩:=TG.slice;have YD:=bx TG;have ZK:=bx ZT;obtain⟨L,WE⟩:∃L,r.length=L:=⟨_,rfl⟩
  rw[WE]at Q0 YD;have W4:=bx WE;unfold maxLen at Yi;clear ZT Y5 YX TG WE
  by_cases Dk:L=256
  ·have Zq:((L:Int) != 256)=false:=by grind
   have UI:=bx Dk;obtain⟨g2,OP,Ji,Zx,Zr,Zk,Zl,Zg⟩:=YD.o.get (by rintro rfl;have Z7:=W4.o;grind);rw[W4.o]at Zx Zr;obtain⟨rfl,rfl⟩:=XN Zx;have JY:=bx Zg;unfold maxLen at Zk;have ay8:256<=L:=by omega
   clear Dk Zx Zg;go_wp2_with fail
   go_loopw[5] (λi NL=>∃q:Nat,q<=256/\i=Z9 q/\Box (∀(j:Nat)(y:Int),j<q->r[j]?=some y->(decide (0<=y)&&decide (y<=31))=true)/\NL=ws) (λi _=>256-(intOf i).toNat)
   ·exact⟨0,by omega,rfl,⟨λj y h=>by omega⟩,rfl⟩
   obtain⟨q,Zs,rfl,tI,rfl⟩:=hrel
   by_cases Fa:q<256
   ·obtain⟨y,ZJ⟩:=Yg r q (by rw[W4.o,UI.o];exact Fa);have kw:=JY.o q y ZJ;have Wn:=bx ZJ;clear ZJ
    by_cases T8:0<=y
    ·have YP:decide (y<0)=false:=Yp (by omega)
     by_cases Nk:y<=31
     ·have Yb:decide (31<y)=false:=Yp (by omega);have Te:=bx (upto_succ tI.o Wn.o (show(decide (0<=y)&&decide (y<=31))=true by grind));clear T8 Nk
      go_wp2
      go_roundw
      ·exact⟨q+1,by omega,by go_num,Te,trivial⟩
      grind[intOf]
     have Yb:decide (31<y)=true:=Yh (by omega);have Yt:=bx (show WB.all F.aR=false from Js ZK.o (by unfold F.aR;rw[Js Wn.o (by grind),Bool.and_false]));clear T8 Nk
     go_wp2
     go_ret
     exact⟨YG (by rw[Yt.o,Bool.and_false]),YA.o⟩
    have YP:decide (y<0)=true:=Yh (by omega);have Yt:=bx (show WB.all F.aR=false from Js ZK.o (by unfold F.aR;rw[Js Wn.o (by rw[Yp T8,Bool.false_and]),Bool.and_false]));clear T8
    go_wp2
    go_ret
    exact⟨YG (by rw[Yt.o,Bool.and_false]),YA.o⟩
   obtain rfl:q=256:=by omega
   have PS:=bx (upto_succ MX.o ZK.o (show F.aR r=true by
    unfold F.aR;rw[Yh (by rw[W4.o,UI.o]),Bool.true_and];exact B1 (λj x YO Z4=>tI.o j x (by rw[W4.o,UI.o]at YO;exact YO) Z4)))
   go_wp2
   go_roundw
   ·exact⟨m+1,by omega,by go_num,PS,SR⟩
   simp[intOf];omega
  have Zq:((L:Int) != 256)=true:=by rw[En];omega
  have Yt:=bx (show WB.all F.aR=false from Js ZK.o (by unfold F.aR;rw[Yp (by rw[W4.o];exact Dk),Bool.false_and]));clear Dk
  go_wp2
  go_ret
  exact⟨YG (by rw[Yt.o,Bool.and_false]),YA.o⟩
 obtain rfl:m=M:=by omega
 have LQ:=bx (B1 (λj x YO Z4=>MX.o j x (by rw[<-W3.o];exact YO) Z4))
 go_wp2
 go_ret
 exact⟨YG (by rw[Xn.o,WO.o,LQ.o];rfl),YA.o⟩
theorem anx(v:Value)(xs:List Int)(w:World)(Z2:Y6 w v xs)(ZY:xs.length<=100000):
  Calls prog 196 #[v] w λe w'=>e=.returned (.bool (T.toB xs))/\w=w':=by
 have ZN:=bx Z2;obtain⟨a,ZU,rfl⟩:=Z2.slice;obtain⟨N,Zp⟩:∃N,xs.length=N:=⟨_,rfl⟩
 rw[Zp]at ZN ZY⊢;have ZE:=bx Zp;clear Z2 Zp
 go_in
 go_wp2_with fail
 go_loopw[3] (λi wr=>∃k:Nat,k<=N/\i=Z9 k/\Box (∀(j:Nat)(y:Int),j<k->xs[j]?=some y->U.right y=true)/\wr=w) (λi _=>N-(intOf i).toNat)
 ·exact⟨0,by omega,rfl,⟨λj y _=>by omega⟩,rfl⟩
 obtain⟨k,Z3,rfl,YB,rfl⟩:=hrel
 by_cases Zu:k<N
 ·obtain⟨y,ZJ⟩:=Yg xs k (by rw[ZE.o];omega);obtain⟨g,off,XV,Y5,XL,Yi,XB,YX⟩:=ZN.o.get (by grind);rw[ZE.o]at Y5 XL;obtain⟨rfl,rfl⟩:=XN Y5;have Q0:=YX k y ZJ;have Wn:=bx ZJ;have Xx:=bx (λW=>AY y W);unfold maxLen at Yi;clear ZJ Y5 YX
  cases ZT:U.right y with
  |true=>
   rw[ZT]at Xx;have Te:=bx (upto_succ YB.o Wn.o ZT);clear ZT;go_wp2_with fail;refine YW (Xx.o _) ?_
   go_wp2
   go_roundw
   ·exact⟨k+1,by omega,by go_num,Te,trivial⟩
   grind[intOf]
  |false=>
   rw[ZT]at Xx;have Yt:=bx (show T.toB xs=false by unfold T.toB;rw[Js Wn.o ZT,Bool.and_false]);clear ZT;go_wp2_with fail;refine YW (Xx.o _) ?_
   go_wp2
   go_ret
   exact⟨YG Yt.o.symm,rfl⟩
 obtain rfl:k=N:=by omega
 have WO:=bx (B1 (λj x YO Z4=>YB.o j x (by rw[<-ZE.o];exact YO) Z4))
 go_wp2
 go_ret
 exact⟨YG (by unfold T.toB;rw[WO.o,Bool.and_true,ZE.o,Lx];grind),rfl⟩
def T.bL(l:List F.Map)(i:Nat):Bool:=U.right (l.getD i (0,[])).1&&(decide (i=0)||decide ((l.getD (i-1) (0,[])).1<(l.getD i (0,[])).1))&&T.toB (l.getD i (0,[])).2
theorem T.afp:∀(l:List F.Map)(last:Int),T.c5 last l=true↔∀(i:Nat)(x:F.Map),l[i]?=some x->U.right x.1=true/\T.toB x.2=true/\(i=0->last<x.1)/\∀(j:Nat)(y:F.Map),i=j+1->l[j]?=some y->y.1<x.1
 |[],_=>by simp[T.c5]
 |x::t,last=>by
  unfold T.c5;simp only[Vm,SS,T.afp t x.1]
  constructor
  ·rintro⟨⟨⟨Z7,Z5⟩,ZS⟩,ZG⟩ i y ZJ
   grind
  intro h;obtain⟨Zx,Zr,Zk,-⟩:=h 0 x rfl;refine⟨⟨⟨Zx,Zk rfl⟩,Zr⟩,λi y ZJ=>?_⟩;obtain⟨q1,q2,q3,q4⟩:=h (i+1) y (by grind);grind
theorem T.ev(l:List F.Map):T.c5 (-1) l=(List.range l.length).all (T.bL l):=by
 rw[Lx,T.afp,QG];have ZH:∀(i:Nat)(x:F.Map),l[i]?=some x->l.getD i (0,[])=x:=λi x h=>by grind
 constructor
 ·intro h i hi;have hi:=Ly.1 hi;obtain⟨Zx,Zr,Zk,Zl⟩:=h i l[i] (SA hi);unfold T.bL;rw[ZH i _ (SA hi),Zx,Zr,Bool.true_and,Bool.and_true,Bool.or_eq_true,SS,SS]
  grind
 intro h i x Z4;have hi:=(R7 Z4).1;have:=h i (Ly.2 hi);grind[T.bL,U.right]
theorem NR.get{w:World}{v:Value}{l:List F.Map}(h:NR w v l)(_:l≠[]):
  ∃b off ZU,v=.slice (some ⟨b,off,none⟩) l.length ZU/\l.length<=ZU/\ZU<=maxLen/\b<w.heap.size/\∀i x,l[i]?=some x->w.cell? ⟨b,off+i*2,none⟩=some (Z9 x.1)/\∃u,w.cell? ⟨b,off+i*2+1,none⟩=some u/\Y6 w u x.2:=by
 obtain⟨L,rfl,Z7,Z5⟩:=h;obtain⟨b,off,ZU,Zx,Zr,Zk,Zl,Zg⟩:=Z7.get (by simp_all);rw[X4,X4]at Zx Zr;rw[X4];refine⟨b,off,ZU,Zx,Zr,Zk,Zl,λi x Z4=>?_⟩;rw[RX]at Z4;obtain⟨y,ZJ,rfl⟩:=NU.1 Z4;have hm:((L.map Tl).map UR)[i]?=some (UR (Tl y)):=by grind
 exact⟨Zg i _ hm 0 _ rfl,y.2,Zg i _ hm 1 _ rfl,Z5 y (Xh ZJ)⟩
theorem NR.slice{w:World}{v:Value}{l:List F.Map}(h:NR w v l):∃a ZU,v=.slice a l.length ZU/\l.length<=ZU/\ZU<=9223372036854775807:=by
 obtain⟨L,rfl,Z7,Z5⟩:=h;obtain⟨a,ZU,Zx,Zr,Zk⟩:=Z7.slice;grind
theorem acN(v:Value)(l:List F.Map)(w:World)(Z2:NR w v l)(ZY:l.length<=100000)(G4:∀x∈l,x.2.length<=100000):
  Calls prog 132 #[v] w λe w'=>e=.returned (.bool (T.a8 600 l))/\Z6 w w':=by
 have ZN:=bx Z2;obtain⟨a,ZU,rfl,W2,VM⟩:=Z2.slice;obtain⟨N,Zp⟩:∃N,l.length=N:=⟨_,rfl⟩
 rw[Zp]at ZN ZY W2⊢;have ZE:=bx Zp;have A0:=bx G4;clear Z2 Zp G4
 go_in
 go_wp2_with fail
 go_loopw[3] (λi wr=>∃k:Nat,k<=N/\i=Z9 k/\Box (∀j,j<k->T.bL l j=true)/\Box (Z6 w wr)) (λi _=>N-(intOf i).toNat)
 ·exact⟨0,by omega,rfl,⟨λj h=>by omega⟩,⟨Below.refl _ _⟩⟩
 obtain⟨k,Z3,rfl,YB,Z8⟩:=hrel;have W6:=bx (λm=>Z8.o.trans ((Po wr m).mono Z8.o.size))
 by_cases Zu:k<N
 ·obtain⟨x,Z4⟩:=Yg l k (by rw[ZE.o];omega);obtain⟨g,off,XV,Y5,XL,Yi,XB,YX⟩:=(ZN.o.below Z8.o).get (by grind);rw[ZE.o]at Y5 XL;obtain⟨rfl,rfl⟩:=XN Y5;obtain⟨Ws,u,XX,hu⟩:=YX k x Z4;have Uz:l.getD k (0,[])=x:=by grind
  have S5:=bx (show T.bL l k=(U.right x.1&&(decide (k=0)||decide ((l.getD (k-1) (0,[])).1<x.1))&&T.toB x.2) by grind[T.bL]);have B7:=bx (λ(h:T.bL l k=false)=>show T.a8 600 l=false by
   unfold T.a8;rw[T.ev,Js (k:=k) (x:=k) (by grind) h,Bool.false_and])
  have Xx:=bx (λW=>AY x.1 W);have RR:=bx (λm=>anx u x.2 (wr.drewN m) (hu.below (Po wr m)) (A0.o x (Xh Z4)));unfold maxLen at Yi;have M9:=bx YX;have aym:=bx Z4;clear Z4 Y5 YX Uz hu
  cases ZT:U.right x.1 with
  |false=>
   rw[ZT]at Xx S5;have Yt:=bx (B7.o (by rw[S5.o];rfl));clear ZT;go_wp2_with fail
   go_quiet ((go_at_call 191;exact MQ (Xx.o _)))
   go_wp2
   go_ret
   exact⟨YG Yt.o.symm,W6.o _⟩
  |true=>
   rw[ZT]at Xx S5;clear ZT
   rcases Bx k with ZI|ZI
   ·have Wz:decide (0<k)=false:=Yp (by omega);have wm:=bx (show(decide (k=0)||decide ((l.getD (k-1) (0,[])).1<x.1))=true by grind);clear ZI
    cases hto:T.toB x.2 with
    |true=>
     rw[hto]at RR S5;have Te:=bx (show∀j,j<k+1->T.bL l j=true from λj YO=>by
      rcases SM j k with Z7|Z7
      ·grind
      obtain rfl:j=k:=by omega
      rw[S5.o,wm.o];rfl)
     clear hto;go_wp2_with fail
     go_quiet ((first|(go_at_call 191;exact MQ (Xx.o _))|(go_at_call 196;exact MQ (RR.o _))))
     go_wp2
     go_roundw
     ·exact⟨k+1,Zu,by go_num,Te,⟨W6.o _⟩⟩
     grind[intOf]
    |false=>
     rw[hto]at RR S5;have Yt:=bx (B7.o (by rw[S5.o,Bool.and_false]));clear hto;go_wp2_with fail
     go_quiet ((first|(go_at_call 191;exact MQ (Xx.o _))|(go_at_call 196;exact MQ (RR.o _))))
     go_wp2
     go_ret
     exact⟨YG Yt.o.symm,W6.o _⟩
   obtain⟨y,ZJ⟩:=Yg l (k-1) (by rw[ZE.o];omega);obtain⟨RN,-⟩:=M9.o (k-1) y ZJ;have w9:l.getD (k-1) (0,[])=y:=by grind
   have Wz:decide (0<k)=true:=Yh (by omega);have i0:(0:Int)<=(k:Int)-1:=by omega
   have i1:(k:Int)-1<(N:Int):=by omega
   have i2:((k:Int)-1).toNat=k-1:=by omega
   by_cases T8:y.1<x.1
   ·have Zq:decide (x.1<=y.1)=false:=Yp (by omega);have wm:=bx (show(decide (k=0)||decide ((l.getD (k-1) (0,[])).1<x.1))=true by grind);clear ZI T8 w9 ZJ
    cases hto:T.toB x.2 with
    |true=>
     rw[hto]at RR S5;have Te:=bx (show∀j,j<k+1->T.bL l j=true from λj YO=>by
      rcases SM j k with Z7|Z7
      ·exact YB.o j Z7
      obtain rfl:j=k:=by omega
      rw[S5.o,wm.o];rfl)
     clear hto;go_wp2_with fail
     go_quiet ((first|(go_at_call 191;exact MQ (Xx.o _))|(go_at_call 196;exact MQ (RR.o _))))
     go_wp2
     go_roundw
     ·exact⟨k+1,Zu,by go_num,Te,⟨W6.o _⟩⟩
     grind[intOf]
    |false=>
     rw[hto]at RR S5;have Yt:=bx (B7.o (by rw[S5.o,Bool.and_false]));clear hto;go_wp2_with fail
     go_quiet ((first|(go_at_call 191;exact MQ (Xx.o _))|(go_at_call 196;exact MQ (RR.o _))))
     go_wp2
     go_ret
     exact⟨YG Yt.o.symm,W6.o _⟩
   have Zq:decide (x.1<=y.1)=true:=Yh (by omega);have Yt:=bx (B7.o (by rw[S5.o,w9,Yp T8,Yp (by omega)];rfl));clear ZI T8 w9 ZJ;go_wp2_with fail
   go_quiet ((first|(go_at_call 191;exact MQ (Xx.o _))|(go_at_call 196;exact MQ (RR.o _))))
   go_wp2
   go_ret
   exact⟨YG Yt.o.symm,W6.o _⟩
 obtain rfl:k=N:=by omega
 have WO:=bx (show T.a8 600 l=decide (k<=600) by
  unfold T.a8;rw[T.ev,ZE.o,show(List.range k).all (T.bL l)=true by rw[QG];exact λj YO=>YB.o j (Ly.1 YO),Bool.true_and])
 go_wp2
 go_ret
 exact⟨YG (by rw[WO.o,Lx];grind),Z8.o⟩
section
open Go.Shelf
def yo(x:F.Map):F.Map:=(x.1,x.2.take 5)
def Em(l:List F.Map):List F.Map:=(l.take 40).map yo
def yJ(W:World)(L:List QP):Prop:=∀y∈L,Y6 W y.2 y.1.2
theorem aqy(L:List QP)(y:QP):(((L++[y]).map Tl).map UR).flatten=((L.map Tl).map UR).flatten++UR (Tl y):=by
 simp
theorem asp{W:World}{base n:Nat}{v:Value}{L:List QP}(h:W.ownsRow base 272 2 v n ((L.map Tl).map UR).flatten)(_:n=L.length)(ZO:yJ W L):NR W v (L.map (·.1)):=
 ⟨L,rfl,OD.au h (by grind) (λ_ ZL=>by obtain⟨y,-,rfl⟩:=SL.1 ZL;rfl),ZO⟩
theorem hG(v:Value)(l:List F.Map)(YR w:World)(Z2:NR YR v l)(Yn:Z6 YR w):
  Calls prog 113 #[v] w λe w'=>Z6 w w'/\∃Zy,e=.returned Zy/\∃L:List QP,L.map (·.1)=Em l/\yJ YR L/\w'.ownsRow w.heap.size 272 2 Zy L.length ((L.map Tl).map UR).flatten:=by
 have ZK:=bx Z2;have ZR:=bx Yn;obtain⟨XH,ZU,rfl,uh,Jg⟩:=Z2.slice;obtain⟨m,hm⟩:∃m,m=min l.length 40:=⟨_,rfl⟩
 have W3:=bx hm;have Pg:m<=l.length:=by omega
 have Oo:m<=40:=by omega
 have XI:=bx (show∃L:List QP,L.length=0/\L.map (·.1)=(l.take 0).map yo/\yJ YR L/\Sep [Pc.row w.heap.size 272 2 Z1 0 ((L.map Tl).map UR).flatten,Pc.old w.heap.size w] w from
  ⟨[],rfl,rfl,λy ZJ=>absurd ZJ RH,(Sep.start w).aH _ _ _⟩)
 clear Z2 hm Yn
 go_in
 go_wp2_with fail
 go_loopw[3,4] (λo i wr=>∃k:Nat,k<=m/\i=Z9 k/\Box (∃L:List QP,L.length=k/\L.map (·.1)=(l.take k).map yo/\yJ YR L/\Sep [Pc.row w.heap.size 272 2 o k ((L.map Tl).map UR).flatten,Pc.old w.heap.size w] wr)) (λ_ i _=>m-(intOf i).toNat)
 ·grind
 obtain⟨k,Z3,rfl,Ki⟩:=hrel;obtain⟨L,K9,Kj,Dh,YC⟩:=Ki.o;have X3:=bx (show Z6 w wr from YC.bel (by simp));have H7:=bx (bt ZR.o X3.o);have Xg:=bx K9;have UI:=bx Kj;have Ro:=bx Dh;have Gy:=bx YC;obtain⟨UP,Wr,rfl,J8,MF⟩:=UG (YC.row 0 rfl);clear Ki K9 Kj Dh YC
 by_cases Zu:k<m
 ·obtain⟨x,Z4⟩:=Yg l k (by omega);obtain⟨SX,off,XV,Y5,XL,Yi,XB,YX⟩:=ZK.o.get (by grind);obtain⟨rfl,rfl⟩:=XN Y5;obtain⟨Vl,u,W2,hu⟩:=YX k x Z4;obtain⟨pt,I1,rfl⟩:=hu.slice;obtain⟨aAu,jO⟩:=wP hu;have iJ:=bx (uL hu 5);obtain⟨q,Zs⟩:∃q,(x.2.take 5).length=q:=⟨_,rfl⟩
  have Xy:=bx (show q=min 5 x.2.length by grind);rw[Zs]at iJ;have U1:=bx (rb l k x Z4);have aft:k<40:=by omega
  have PI:k<l.length:=by omega
  have zT:k<ZU:=by omega
  unfold maxLen at Yi;have Uw:=bx (show∀W,Z6 wr W->ZQ W SX (off+k*2)=some (Z9 x.1)/\ZQ W SX (off+k*2+1)=some (.slice pt x.2.length I1)from λW h=>
   ⟨((bt H7.o h).cell (p:=⟨SX,off+k*2,none⟩) XB).trans Vl,((bt H7.o h).cell (p:=⟨SX,off+k*2+1,none⟩) XB).trans W2⟩)
  have Y9:=bx (show Z6 wr wr.drew from⟨rfl,rfl,rfl,Wq _,λ_ _=>rfl⟩);have Xm:=bx Gy.o.drew;have v8:w.heap.size<=wr.drew.heap.size:=X3.o.size;clear Y5 YX Vl W2 Z4 XL hu Zs;go_wp2_with fail;have r7:(min (x.2.length:Int) 5).toNat=q:=by have:=Xy.o;omega
  have adj:(min (x.2.length:Int) 5)<=(I1:Int):=by omega
  have ad6:(0:Int)<=min (x.2.length:Int) 5:=by omega
  refine Vv 21 (λW=>ZQ W SX (off+k*2)=some (Z9 x.1)/\ZQ W SX (off+k*2+1)=some (.slice pt x.2.length I1)) (by rfl) ?_;have Ud:=bx (Uw.o _ Y9.o);have NT:=bx (λo=>Uw.o _ (Y9.o.alloc Y9.o.size o));generalize wr.drew=Yl at *;refine Vp [0,1,2,3,4,5,6,7,8,9,10,11,12,13,14,15,16,17,18,19] ?_
  iterate 20 (refine Vq ?_ rfl Ud.o ?_ ?_;rotate_left;·rintro w ⟨q1,q2⟩;go_simp;try with_reducible rfl)
  refine Vr ?_;refine Y1 20 rfl λY7 ZX=>?_
  go_simp;refine ZX.out _ _ (λ_=>NT.o _) ?_;clear ZX Y7;refine Y1 21 rfl λY7 ZX=>?_
  refine ac1 (cs:=UR (x.1,.slice pt q I1)) rfl _ _ 34 rfl Ci (by decide) Xm.o 0 rfl (by rfl) (by rfl) rfl (by intro u hu;simp only[UR,T7,RH,or_false]at hu;rcases hu with rfl|rfl <;> rfl) (by omega) (by omega) v8 ?_;rintro Zy PM ON -;refine ZX.out _ _ (λh=>by cases h) ?_;clear ZX Y7;refine Y1 22 rfl λY7 ZX=>?_
  go_simp;refine ZX.out _ _ (λh=>by cases h) ?_;clear ZX Y7;refine kD ?_ _;have ZE:=bx (show∃L:List QP,L.length=k+1/\L.map (·.1)=(l.take (k+1)).map yo/\yJ YR L/\Sep [Pc.row w.heap.size 272 2 Zy (k+1) ((L.map Tl).map UR).flatten,Pc.old w.heap.size w] PM by
   refine⟨L++[(yo x,.slice pt q I1)],?_,?_,?_,?_⟩
   ·rw[WR,Xg.o];rfl
   ·rw[T9,UI.o,U1.o,T9];rfl
   ·intro y ZJ
    rcases Nb.1 ZJ with h|h
    ·exact Ro.o y h
    rw[Pe.1 h];exact iJ.o
   rw[aqy];exact ON)
  clear ON
  go_wp2
  go_roundw
  ·exact⟨k+1,Zu,by go_num,ZE⟩
  grind[intOf]
 have F1:k=m:=by omega
 have xh:=bx F1;have Zm:l.length<=k\/(k<l.length/\40<=k):=by have:=W3.o;omega
 clear F1
 rcases Zm with Zm|⟨Zm,EJ⟩
 all_goals
  go_wp2
  go_ret
  have Jf:(l.take k).map yo=Em l:=by
   grind[Em]
  exact⟨X3.o,_,rfl,L,by rw[UI.o,Jf],Ro.o,by rw[Xg.o];exact Gy.o.row 0 rfl⟩
theorem Cg{W W':World}{base s n:Nat}{e:TypeId}{v:Value}{xs:List Value}(h:W.ownsRow base e s v n xs)(ZM:Turns (λq=>q<base) W W'):W'.ownsRow base e s v n xs:=ZM.row h (λk Z3 _=>absurd (h.lt k Z3).1 (by omega))
def RL(c:T.Cs):T.Cs:=⟨Em c.lo,Em c.ti,P1 c.ca,P1 c.ig⟩
theorem gT{W w:World}{base n:Nat}{v:Value}{L:List QP}{l:List F.Map}(h:W.ownsRow base 272 2 v n ((L.map Tl).map UR).flatten)(ZP:n=L.length)(ZO:yJ w L)(Z8:Z6 w W)(hl:L.map (·.1)=l):NR W v l:=
 hl▸asp h ZP (λy ZJ=>(ZO y ZJ).below Z8)
theorem wX{W w:World}{base n:Nat}{T:TypeId}{v:Value}{WM:List Value}{L:List (List Int)}(h:W.ownsRow base T 1 v n WM)(ZP:n=WM.length)(ZO:HQ w WM L)(Z8:Z6 w W):TF W v L:=
 ar1 h (by rw[ZP,ZO.1]) (λi r ZT=>by
  obtain⟨x,Z4,hi⟩:=ZO.2 i r ZT;exact⟨x,Z4,hi.below Z8⟩)
theorem alS(v:Value)(c:T.Cs)(YR w:World)(Z2:Sq YR v c)(Yn:Z6 YR w):
  Calls prog 52 #[v] w λe w'=>Z6 w w'/\∃Zy,e=.returned Zy/\∀W',Turns (λq=>q<w.heap.size) w' W'->Z6 YR W'->Sq W' Zy (RL c):=by
 obtain⟨Zc,YI,ci,YQ,Yw,Yy,rfl,Z7,Z5,ZS,ZG,Zi,Yu⟩:=Z2;obtain⟨V,ZO⟩:∃V,V=(w.alloc (.cells #[Zc,YI,ci,YQ,Yw,Yy] 36)).alloc (.cells #[Z1,Z1,Z1,Z1,Z1,Z1] 36):=⟨_,rfl⟩
 have XI:=bx (show Sep [Pc.blk (w.heap.size+1) 36 #[Z1,Z1,Z1,Z1,Z1,Z1],Pc.blk w.heap.size 36 #[Zc,YI,ci,YQ,Yw,Yy],Pc.old w.heap.size w] V by
  rw[ZO];have h:=((Sep.start w).ak 36 #[Zc,YI,ci,YQ,Yw,Yy]).ak 36 #[Z1,Z1,Z1,Z1,Z1,Z1]
  simp_all)
 have ZR:=bx Yn;have Wj:=bx (show Z6 w V from XI.o.bel (by simp));have T6:=bx (XI.o.blk 1 rfl);have UH:=bx (λW(h:Z6 w W)=>hG Zc c.lo YR W Z7 (bt ZR.o h));have UA:=bx (λW(h:Z6 w W)=>hG YI c.ti YR W Z5 (bt ZR.o h));have Un:=bx (λW(h:Z6 w W)=>qO YQ ci c.ca YR W ZS ZG (bt ZR.o h));have Fw:=bx (λW(h:Z6 w W)=>qO Yy Yw c.ig YR W Zi Yu (bt ZR.o h));have Uw:=bx (show∀W,Z6 V W->ZQ W w.heap.size 0=some Zc/\ZQ W w.heap.size 1=some YI/\ZQ W w.heap.size 2=some ci/\ZQ W w.heap.size 3=some YQ/\ZQ W w.heap.size 4=some Yw/\ZQ W w.heap.size 5=some Yy from λW h=>⟨(T6.o.below h T6.o.lt).q0,(T6.o.below h T6.o.lt).q1,(T6.o.below h T6.o.lt).q2,(T6.o.below h T6.o.lt).q3,(T6.o.below h T6.o.lt).q4,(T6.o.below h T6.o.lt).q5⟩);have Y9:=bx (show Z6 V V.drew from⟨rfl,rfl,rfl,Wq _,λ_ _=>rfl⟩);have Xm:=bx XI.o.drew;have ZN:=bx ZO;have KJ:=bx (show V.heap.size=w.heap.size+1+1 by rw[ZO];simp);clear Z7 Z5 ZS ZG Zi Yu ZO Yn
 go_in
 go_upto_region 1 with(fail)
 rw[<-ZN.o];refine Vv 13 (λW=>ZQ W w.heap.size 0=some Zc/\ZQ W w.heap.size 1=some YI/\ZQ W w.heap.size 2=some ci/\ZQ W w.heap.size 3=some YQ/\ZQ W w.heap.size 4=some Yw/\ZQ W w.heap.size 5=some Yy) (by rfl) ?_;have Ud:=bx (Uw.o _ Y9.o);have YA:=bx (bt Wj.o Y9.o);have QO:=bx (YA.o.size);generalize V.drew=Yl at *;refine Vp [0,1,3,4,6,7,9,10] ?_
 iterate 8 (refine Vq ?_ rfl Ud.o ?_ ?_;rotate_left;·rintro w ⟨q1,q2,q3,q4,q5,q6⟩;go_simp;try with_reducible rfl)
 refine Vr ?_;refine Y1 2 rfl λY7 ZX=>?_
 go_simp;go_wp2_with (go_at_call 113;refine(UH.o _ YA.o).mono ?_;rintro e ZV ⟨ZZ,v1,rfl,Kq,K9,P7,J8⟩)
 have ZW:=bx (bt Y9.o ZZ);have TY:=Zw YA ZZ;have V0:=bx (Xm.o.got (base:=w.heap.size) ZZ J8 QO.o);have PN:=bx (TY.o.size);obtain⟨ahF,ahH,rfl,-,-⟩:=UG J8;have Xg:=bx K9;have VD:=bx P7;clear ZZ P7 J8 YA QO K9;have YA:=TY;have QO:=PN;clear TY PN;refine ZX.out _ _ (λ_=>Uw.o _ ZW.o) ?_;clear ZX Y7;refine Y1 5 rfl λY7 ZX=>?_
 go_simp;go_wp2_with (go_at_call 113;refine(UA.o _ YA.o).mono ?_;rintro e ZB ⟨Zz,v2,rfl,Np,Kj,TA,MF⟩)
 have Zt:=bx (bt ZW.o Zz);have TY:=Zw YA Zz;have V1:=bx (V0.o.got (base:=w.heap.size) Zz MF QO.o);have PN:=bx (TY.o.size);obtain⟨DF,GA,rfl,-,-⟩:=UG MF;have UI:=bx Kj;have Uv:=bx TA;clear Zz TA MF YA QO Kj;have YA:=TY;have QO:=PN;clear TY PN;refine ZX.out _ _ (λ_=>Uw.o _ Zt.o) ?_;clear ZX Y7;refine Y1 8 rfl λY7 ZX=>?_
 go_simp;go_wp2_with (go_at_call 111;refine(Un.o _ YA.o).mono ?_;rintro e Zh ⟨Zb,f3,v3,Bm,rfl,L9,LW,zQ⟩)
 have YY:=bx (bt Zt.o Zb);have TY:=Zw YA Zb;have WT:=bx (V1.o.got (base:=w.heap.size) Zb zQ QO.o);have PN:=bx (TY.o.size);obtain⟨vk,vF,rfl,-,-⟩:=UG zQ;obtain⟨uu,vT,rfl⟩:=L9.slice;have Ef:=bx L9;have OM:=bx LW;clear Zb LW zQ YA QO L9;have YA:=TY;have QO:=PN;clear TY PN;refine ZX.out _ _ (λ_=>Uw.o _ YY.o) ?_;clear ZX Y7;refine Y1 11 rfl λY7 ZX=>?_
 go_simp;go_wp2_with (go_at_call 111;refine(Fw.o _ YA.o).mono ?_;rintro e YL ⟨Yf,f4,v4,s8,rfl,tU,E0,n5⟩)
 have Ye:=bx (bt YY.o Yf);have TY:=Zw YA Yf;have Wp:=bx (WT.o.got (base:=w.heap.size) Yf n5 QO.o);have PN:=bx (TY.o.size);obtain⟨ahG,ahI,rfl,-,-⟩:=UG n5;obtain⟨afJ,afK,rfl⟩:=tU.slice;have ait:=bx tU;have KK:=bx E0;clear Yf E0 n5 YA QO tU;have YA:=TY;have QO:=PN;clear TY PN;refine ZX.out _ _ (λ_=>Uw.o _ Ye.o) ?_;clear ZX Y7;refine Y1 12 rfl λY7 ZX=>?_
 go_simp;refine ZX.out _ _ (λ_=>Uw.o _ Ye.o) ?_;clear ZX Y7;have Wh:=bx (Wp.o.blk 4 rfl);have RN:=(Wh.o.cell 0).trans (show _=some (Value.slice none 0 0)from rfl);have Wz:=Wh.o.frozen 0;have Vy:=(Wh.o.cell 1).trans (show _=some (Value.slice none 0 0)from rfl);have Zq:=Wh.o.frozen 1;have TX:=(Wh.o.cell 2).trans (show _=some (Value.slice none 0 0)from rfl);have YP:=Wh.o.frozen 2;have Qa:=(Wh.o.cell 3).trans (show _=some (Value.slice none 0 0)from rfl);have Yb:=Wh.o.frozen 3;have Lh:=(Wh.o.cell 4).trans (show _=some (Value.slice none 0 0)from rfl);have WW:=Wh.o.frozen 4;have KM:=(Wh.o.cell 5).trans (show _=some (Value.slice none 0 0)from rfl);have VK:=Wh.o.frozen 5;have xn:=Wh.o.lt;have XO:=bx ((((((Wp.o.set 4 rfl 0 (.slice ahF Kq.length ahH)).set 4 rfl 1 (.slice DF Np.length GA)).set 4 rfl 2 (.slice uu (P1 c.ca).1.length vT)).set 4 rfl 3 (.slice vk Bm.length vF)).set 4 rfl 4 (.slice afJ (P1 c.ig).1.length afK)).set 4 rfl 5 (.slice ahG s8.length ahI));refine Y1 13 rfl λY7 ZX=>?_
 go_simp;refine ZX.out _ _ (λh=>by cases h) ?_;clear ZX Y7;refine kD ?_ _;go_wp2_with fail;have Hd:=XO.o.bel (n:=w.heap.size) (W0:=w) (by simp);refine bodyPost_ret (v:=.agg #[.slice ahF Kq.length ahH,.slice DF Np.length GA,.slice uu (P1 c.ca).1.length vT,.slice vk Bm.length vF,.slice afJ (P1 c.ig).1.length afK,.slice ahG s8.length ahI]) (results_cell_row results52 _ _ (w.heap.size+1) 36 _ (0,0) _ rfl (XO.o.blk 4 rfl) underlying36 rfl sO) rfl ⟨Hd,_,rfl,λW' ZM Vt=>⟨_,_,_,_,_,_,rfl,?_,?_,?_,?_,?_,?_⟩⟩
 ·exact gT (Cg (XO.o.row 3 rfl) ZM) rfl VD.o Vt Xg.o
 ·exact gT (Cg (XO.o.row 2 rfl) ZM) rfl Uv.o Vt UI.o
 ·exact Ef.o.below Vt
 ·exact wX (Cg (XO.o.row 1 rfl) ZM) rfl OM.o Vt
 ·exact ait.o.below Vt
 exact wX (Cg (XO.o.row 0 rfl) ZM) rfl KK.o Vt
def VH(t:Tab):Tab:=⟨t.n,P1 t.p,(Bd t.r).take 12,Ea t.m⟩
theorem aue{W w:World}{base n:Nat}{v:Value}{L:List (D.Rule×Value×Value)}{l:List D.Rule}(h:W.ownsRow base 254 5 v n (L.flatMap H3))(ZP:n=L.length)(ZO:yP w L)(Z8:Z6 w W)(hl:L.map (·.1)=l):TQ W v l:=
 hl▸aaU h ZP (λy ZJ=>⟨(ZO y ZJ).1.below Z8,(ZO y ZJ).2.below Z8⟩)
theorem ih(v:Value)(t:Tab)(YR w:World)(Z2:TabAt YR v t)(Yn:Z6 YR w):
  Calls prog 50 #[v] w λe w'=>Z6 w w'/\∃Zy,e=.returned Zy/\∀W',Turns (λq=>q<w.heap.size) w' W'->Z6 YR W'->TabAt W' Zy (VH t):=by
 obtain⟨pi,YM,Y2,Zo,Za,rfl,Z7,Z5,ZS,ZG,Zi⟩:=Z2;obtain⟨V,ZO⟩:∃V,V=(w.alloc (.cells #[Z9 t.n,pi,YM,Y2,Zo,Za] 31)).alloc (.cells #[Z9 0,Z1,Z1,Z1,Z1,Z1] 31):=⟨_,rfl⟩
 have XI:=bx (show Sep [Pc.blk (w.heap.size+1) 31 #[Z9 0,Z1,Z1,Z1,Z1,Z1],Pc.blk w.heap.size 31 #[Z9 t.n,pi,YM,Y2,Zo,Za],Pc.old w.heap.size w] V by
  rw[ZO];have h:=((Sep.start w).ak 31 #[Z9 t.n,pi,YM,Y2,Zo,Za]).ak 31 #[Z9 0,Z1,Z1,Z1,Z1,Z1]
  simp_all)
 have ZR:=bx Yn;have Wj:=bx (show Z6 w V from XI.o.bel (by simp));have T6:=bx (XI.o.blk 1 rfl);have UH:=bx (λW(h:Z6 w W)=>ava Y2 t.r YR W ZS (bt ZR.o h));have UA:=bx (λW(h:Z6 w W)=>qO YM pi t.p YR W Z7 Z5 (bt ZR.o h));have Un:=bx (λW(h:Z6 w W)=>ajE (.agg #[Zo,Za]) t.m YR W ⟨Zo,Za,rfl,ZG,Zi⟩ (bt ZR.o h));have Uw:=bx (show∀W,Z6 V W->ZQ W w.heap.size 0=some (Z9 t.n)/\ZQ W w.heap.size 1=some (pi)/\ZQ W w.heap.size 2=some (YM)/\ZQ W w.heap.size 3=some (Y2)/\ZQ W w.heap.size 4=some (Zo)/\ZQ W w.heap.size 5=some (Za)/\w.heap.size<W.heap.size from λW h=>⟨(T6.o.below h T6.o.lt).q0,(T6.o.below h T6.o.lt).q1,(T6.o.below h T6.o.lt).q2,(T6.o.below h T6.o.lt).q3,(T6.o.below h T6.o.lt).q4,(T6.o.below h T6.o.lt).q5,(T6.o.below h T6.o.lt).lt⟩);have ZN:=bx ZO;have KJ:=bx (show V.heap.size=w.heap.size+1+1 by rw[ZO];simp);clear Z7 Z5 ZS ZG Zi ZO Yn
 go_in
 go_upto_region 1 with(fail)
 rw[<-ZN.o];obtain⟨YV,c1,c2,c3,VG,Wv,YJ⟩:=Uw.o V YU;go_wp2_with fail;refine(UH.o _ Wj.o).mono ?_;rintro e ZV ⟨ZZ,v1,rfl,Kq,K9,P7,J8⟩;clear YV c1 c2 c3 VG Wv YJ;obtain⟨ro,rc,rfl,QY,Pf⟩:=UG J8;have ZW:=bx ZZ;have td:=Zw Wj ZZ;have V0:=bx (XI.o.got (base:=w.heap.size) ZZ J8 Wj.o.size);have Xg:=bx K9;have VD:=bx P7;clear ZZ K9 P7 J8;obtain⟨FN,Pg⟩:∃m,Kq.length=m:=⟨_,rfl⟩
 rw[Pg]at V0 QY⊢;have RB:=bx Pg;have oP:=bx (show Kq.length=(Bd t.r).length by rw[<-Xg.o,X4]);clear Pg;have Y9:=bx (show Z6 V ZV.drew from ZW.o.trans (show Below V.heap.size ZV ZV.drew from⟨rfl,rfl,rfl,Wq _,λ_ _=>rfl⟩));have Xm:=bx V0.o.drew
 go_upto_region 2 with(fail)
 obtain⟨CS,Oo⟩:∃m,(min (FN:Int) 12).toNat=m:=⟨_,rfl⟩
 have adj:(min (FN:Int) 12)<=(rc:Int):=by omega
 have ad6:(0:Int)<=min (FN:Int) 12:=by omega
 have Kv:=bx (show CS=min FN 12 by omega);refine Vv 14 (λW=>ZQ W w.heap.size 0=some (Z9 t.n)/\ZQ W w.heap.size 1=some (pi)/\ZQ W w.heap.size 2=some (YM)/\ZQ W w.heap.size 3=some (Y2)/\ZQ W w.heap.size 4=some (Zo)/\ZQ W w.heap.size 5=some Za) (by rfl) ?_;have Pd:=bx (show∀W,Z6 V W->ZQ W w.heap.size 0=some (Z9 t.n)/\ZQ W w.heap.size 1=some (pi)/\ZQ W w.heap.size 2=some (YM)/\ZQ W w.heap.size 3=some (Y2)/\ZQ W w.heap.size 4=some (Zo)/\ZQ W w.heap.size 5=some (Za)from λW h=>by
  obtain⟨q0,q1,q2,q3,q4,q5,-⟩:=Uw.o W h;grind)
 have Ud:=bx (Pd.o _ Y9.o);have YA:=bx (bt Wj.o Y9.o);have QO:=bx (YA.o.size);generalize ZV.drew=Yl at *;refine Vp [0,1,2,3,5,6,7,8,9,10,11] ?_
 iterate 11 (refine Vq ?_ rfl Ud.o ?_ ?_;rotate_left;·rintro w ⟨q1,q2,q3,q4,q5,q6⟩;go_simp;try with_reducible rfl)
 refine Vr ?_;refine Y1 4 rfl λY7 ZX=>?_
 go_simp;go_wp2_with (go_at_call 111;refine(UA.o _ YA.o).mono ?_;rintro e ZB ⟨Zz,f2,v2,Np,rfl,QZ,TA,MF⟩)
 have Zt:=bx (bt Y9.o Zz);have TY:=Zw YA Zz;have V1:=bx (Xm.o.got (base:=w.heap.size) Zz MF QO.o);have PN:=bx (TY.o.size);obtain⟨DF,GA,rfl,-,-⟩:=UG MF;obtain⟨xT,Al,rfl⟩:=QZ.slice;have Oy:=bx QZ;have Uv:=bx TA;clear Zz TA MF YA QO QZ;have YA:=TY;have QO:=PN;clear TY PN;refine ZX.out _ _ (λ_=>Pd.o _ Zt.o) ?_;clear ZX Y7;refine Y1 12 rfl λY7 ZX=>?_
 go_simp;go_wp2_with (go_at_call 112;refine(Un.o _ YA.o).mono ?_;rintro e Zh ⟨Zb,v3,f3,Bm,rfl,LW,zQ,L9⟩)
 have YY:=bx (bt Zt.o Zb);have TY:=Zw YA Zb;have WT:=bx (V1.o.got (base:=w.heap.size) Zb zQ QO.o);have PN:=bx (TY.o.size);obtain⟨vk,vF,rfl,-,-⟩:=UG zQ;obtain⟨uu,vT,rfl⟩:=L9.slice;have Ef:=bx L9;have OM:=bx LW;clear Zb LW zQ YA QO L9;have YA:=TY;have QO:=PN;clear TY PN;refine ZX.out _ _ (λ_=>Pd.o _ YY.o) ?_;clear ZX Y7;refine Y1 13 rfl λY7 ZX=>?_
 go_simp;refine ZX.out _ _ (λ_=>Pd.o _ YY.o) ?_;clear ZX Y7;have Wh:=bx (WT.o.blk 3 rfl);have RN:=(Wh.o.cell 0).trans (show _=some (Value.int .i64 0)from rfl);have Wz:=Wh.o.frozen 0;have Vy:=(Wh.o.cell 1).trans (show _=some (Value.slice none 0 0)from rfl);have Zq:=Wh.o.frozen 1;have TX:=(Wh.o.cell 2).trans (show _=some (Value.slice none 0 0)from rfl);have YP:=Wh.o.frozen 2;have Qa:=(Wh.o.cell 3).trans (show _=some (Value.slice none 0 0)from rfl);have Yb:=Wh.o.frozen 3;have Lh:=(Wh.o.cell 4).trans (show _=some (Value.slice none 0 0)from rfl);have WW:=Wh.o.frozen 4;have KM:=(Wh.o.cell 5).trans (show _=some (Value.slice none 0 0)from rfl);have VK:=Wh.o.frozen 5;have xn:=Wh.o.lt;have XO:=bx ((((((WT.o.set 3 rfl 0 (Z9 t.n)).set 3 rfl 1 (.slice xT (P1 t.p).1.length Al)).set 3 rfl 2 (.slice DF Np.length GA)).set 3 rfl 3 (.slice ro CS rc)).set 3 rfl 4 (.slice vk Bm.length vF)).set 3 rfl 5 (.slice uu (Ea t.m).2.length vT));refine Y1 14 rfl λY7 ZX=>?_
 go_simp;refine ZX.out _ _ (λh=>by cases h) ?_;clear ZX Y7;refine kD ?_ _;go_wp2_with fail;have Hd:=XO.o.bel (n:=w.heap.size) (W0:=w) (by simp);refine bodyPost_ret (v:=.agg #[Z9 t.n,.slice xT (P1 t.p).1.length Al,.slice DF Np.length GA,.slice ro CS rc,.slice vk Bm.length vF,.slice uu (Ea t.m).2.length vT]) (results_cell_row results50 _ _ (w.heap.size+1) 31 _ (0,0) _ rfl (XO.o.blk 3 rfl) underlying31 rfl acR) rfl ⟨Hd,_,rfl,λW' ZM Vt=>⟨_,_,_,_,_,rfl,?_,?_,?_,?_,?_⟩⟩
 ·exact Oy.o.below Vt
 ·exact wX (Cg (XO.o.row 1 rfl) ZM) rfl Uv.o Vt
 ·have ZT:=aue (Cg (XO.o.row 2 rfl) ZM) RB.o.symm VD.o Vt Xg.o;rw[<-RB.o,oP.o]at ZT;have Z3:=ZT.take 12 (cap':=rc) (by rw[SW];have:=oP.o;have:=RB.o;omega) Ys;rw[show((Bd t.r).take 12).length=CS by rw[SW,Kv.o,<-RB.o,oP.o];omega]at Z3;exact Z3
 ·exact wX (Cg (XO.o.row 0 rfl) ZM) rfl OM.o Vt
 exact Ef.o.below Vt
end
structure T.Small(c:T.Cs):Prop where
 lo:c.lo.length<=100000
 loA:∀x∈c.lo,x.2.length<=100000
 ti:c.ti.length<=100000
 tiA:∀x∈c.ti,x.2.length<=100000
 c1:c.ca.1.length<=100000
 c2:c.ca.2.length<=100000
 g1:c.ig.1.length<=100000
 g2:c.ig.2.length<=100000
 c3:∀r∈c.ca.2,r.length<=16777216
 g3:∀r∈c.ig.2,r.length<=16777216
theorem yu(m:Nat)(c:T.Cs):T.az m c=(T.a8 m c.lo&&T.a8 m c.ti&&F.aE c.ca&&F.aE c.ig):=rfl
theorem sL(v:Value)(c:T.Cs)(w:World)(Z2:Sq w v c)(Z0:T.Small c):
  Calls prog 68 #[v] w λe w'=>e=.returned (.bool (T.az 600 c))/\Z6 w w':=by
 rw[yu];obtain⟨Zc,YI,ci,YQ,Yw,Yy,rfl,Z7,Z5,ZS,ZG,Zi,Yu⟩:=Z2;have RB:=bx (λW(h:Z6 w W)=>acN Zc c.lo W (Z7.below h) Z0.lo Z0.loA);have Kv:=bx (λW(h:Z6 w W)=>acN YI c.ti W (Z5.below h) Z0.ti Z0.tiA);have NI:=bx (λW(h:Z6 w W)=>rU (.agg #[ci,YQ]) c.ca W ⟨_,_,rfl,ZS.below h,ZG.below h⟩ Z0.c1 Z0.c2);have Gj:=bx (λW(h:Z6 w W)=>rU (.agg #[Yw,Yy]) c.ig W ⟨_,_,rfl,Zi.below h,Yu.below h⟩ Z0.g1 Z0.g2);generalize T.a8 600 c.lo=Wx at RB⊢;generalize T.a8 600 c.ti=Xd at Kv⊢;generalize F.aE c.ca=Wk at NI⊢;generalize F.aE c.ig=UY at Gj⊢;obtain⟨V,ZO⟩:∃V,V=w.alloc (.cells #[Zc,YI,ci,YQ,Yw,Yy] 36):=⟨_,rfl⟩
 have ZR:=bx (aB ZO);have Ze:=bx (aK ZO);have ZF:=bx (λW(h:Z6 V W)=>Ze.o.d6 h);have ZN:=bx ZO;clear Z7 Z5 ZS ZG Zi Yu Z0 ZO
 go_in
 go_upto_region 1 with(fail)
 rw[<-ZN.o];obtain⟨Q,VI⟩:∃Q,w.heap.size=Q:=⟨_,rfl⟩
 rw[VI]at ZF⊢;clear VI ZN;have Ox:=bx (Below.refl V.heap.size V);obtain⟨Zd,Zx,Zr,Zk,Zl,Zg,R3⟩:=ZF.o V Ox.o;go_wp2_with fail;refine X7 (RB.o V (bt ZR.o Ox.o)) Ox.o λRM QL=>?_
 clear Zd Zx Zr Zk Zl Zg R3;obtain⟨Zd,Zx,Zr,Zk,Zl,Zg,R3⟩:=ZF.o RM QL.o
 cases Wx with
 |false=>
  go_wp2
  go_ret
  exact⟨YG (by simp),bt ZR.o QL.o⟩
 |true=>
  go_wp2_with fail;refine X7 (Kv.o RM (bt ZR.o QL.o)) QL.o λWe R9=>?_
  clear Zd Zx Zr Zk Zl Zg R3;obtain⟨Zd,Zx,Zr,Zk,Zl,Zg,R3⟩:=ZF.o We R9.o
  cases Xd with
  |false=>
   go_wp2
   go_ret
   exact⟨YG (by simp),bt ZR.o R9.o⟩
  |true=>
   go_wp2_with fail;refine X7 (NI.o We (bt ZR.o R9.o)) R9.o λKn La=>?_
   clear Zd Zx Zr Zk Zl Zg R3;obtain⟨Zd,Zx,Zr,Zk,Zl,Zg,R3⟩:=ZF.o Kn La.o
   cases Wk with
   |false=>
    go_wp2
    go_ret
    exact⟨YG (by simp),bt ZR.o La.o⟩
   |true=>
    go_wp2_with fail;refine X7 (Gj.o Kn (bt ZR.o La.o)) La.o λUZ Fl=>?_
    clear Zd Zx Zr Zk Zl Zg R3;obtain⟨Zd,Zx,Zr,Zk,Zl,Zg,R3⟩:=ZF.o UZ Fl.o
    go_wp2
    go_ret
    exact⟨YG (by simp),bt ZR.o Fl.o⟩
theorem am5(t:Int)(w:World):Calls prog 280 #[Z9 t] w λe w'=>e=.returned (.bool (decide (t<0)||decide (31<t)))/\w=w':=by
 go_in
 go_wp2_with fail
 all_goals go_returns
 all_goals simp
theorem amI(t:Int)(TD:Nat)(U7:Option Addr)(L V5:Nat)(w:World)(ZL:w.cell? ⟨TD,1,none⟩=some (.slice U7 L V5)/\TD<w.heap.size):
  Calls prog 214 #[Z9 t,Zn TD] w λe w'=>e=.returned (.bool (decide (t<0)||decide ((L:Int)<=t)))/\w=w':=by
 obtain⟨ZL,Zu⟩:=ZL
 go_in
 rcases PX t 0 with h|h
 ·go_wp2
  go_ret
  simp_all
 have Wz:decide (t<0)=false:=Yp (by omega);clear h
 go_wp2
 go_ret
 exact⟨YG (by grind),rfl⟩
theorem mx(t:Int)(w:World):Calls prog 219 #[Z9 t] w λe w'=>e=.returned (.bool (!U.right t))/\w=w':=by
 have ZK:=bx (λW=>qx t W)
 go_in
 go_wp2_with fail;refine YW (ZK.o _) ?_
 go_wp2
 go_ret
 simp
theorem ap1(v:Value)(xs:List Int)(w:World)(Z2:Y6 w v xs)(_:xs.length<=16777216):
  Calls prog 279 #[v,.func (.func 280) #[] #[]] w λe w'=>(∃i:Int,e=.returned (Z9 i)/\decide (0<=i)=xs.any (λt=>decide (t<0)||decide (31<t)))/\w=w':=by
 have Qv:=bx Z2;obtain⟨XH,ZU,rfl⟩:=Z2.slice;have X9:=bx (λt=>am5 t w);clear Z2
 go_in
 go_wp2_with fail
 go_loop[8] (λi=>∃k:Nat,k<=xs.length/\i=Z9 k/\Box ((xs.take k).any (λt=>decide (t<0)||decide (31<t))=false)) (λi=>xs.length-(intOf i).toNat)
 ·exact⟨0,by omega,rfl,⟨rfl⟩⟩
 obtain⟨k,Z3,rfl,YZ⟩:=hrel
 by_cases Uf:k<xs.length
 ·obtain⟨x,Z4⟩:∃x,xs[k]?=some x:=⟨_,SA Uf⟩
  obtain⟨g,off,XV,Y5,XL,Yi,XB,YX⟩:=Qv.o.get (by grind);obtain⟨rfl,rfl⟩:=XN Y5;have UT:=YX k x Z4;have YD:=bx Z4;unfold maxLen at Yi;clear Z4 Y5 YX
  cases hi:(λt=>decide (t<0)||decide (31<t)) x with
  |false=>
   have Y8:=bx (show(xs.take (k+1)).any (λt=>decide (t<0)||decide (31<t))=false by rw[Uo,YD.o,List.any_append,YZ.o,Option.toList_some,List.any_cons,List.any_nil,Bool.or_false,Bool.false_or];exact hi);have YE:=bx hi;clear hi;go_wp2_with fail;refine YW (X9.o x) ?_;rw[YE.o];go_wp2_with fail
   go_round
   ·exact⟨k+1,Uf,by go_num,Y8⟩
   grind[intOf]
  |true=>
   have Y8:=bx (show xs.any (λt=>decide (t<0)||decide (31<t))=true by rw[NS];exact⟨x,Xh YD.o,hi⟩);have YE:=bx hi;clear hi;go_wp2_with fail;refine YW (X9.o x) ?_;rw[YE.o]
   go_wp2
   go_ret
   exact⟨⟨k,rfl,by rw[Y8.o];simp⟩,rfl⟩
 have Y8:=bx (show xs.any (λt=>decide (t<0)||decide (31<t))=false by have:=YZ.o;grind)
 go_wp2
 go_ret
 exact⟨⟨-1,rfl,by rw[Y8.o];rfl⟩,rfl⟩
theorem apR(v:Value)(xs:List Int)(w:World)(Z2:Y6 w v xs)(ZY:xs.length<=16777216):
  Calls prog 215 #[v,.func (.func 280) #[] #[]] w λe w'=>e=.returned (.bool (xs.any (λt=>decide (t<0)||decide (31<t))))/\w=w':=by
 have YE:=bx (ap1 v xs w Z2 ZY);clear Z2
 go_in
 go_wp2_with fail;refine YE.o.mono ?_;rintro e ZV ⟨⟨i,rfl,hi⟩,rfl⟩;have YD:=bx hi;clear hi
 go_wp2
 go_ret
 exact⟨YG (by simpa using YD.o),rfl⟩
theorem ary(v:Value)(xs:List Int)(TD:Nat)(U7:Option Addr)(L V5:Nat)(w:World)(Z2:Y6 w v xs)(_:xs.length<=16777216)(ZL:w.cell? ⟨TD,1,none⟩=some (.slice U7 L V5)/\TD<w.heap.size):
  Calls prog 279 #[v,.func (.func 214) #[] #[Zn TD]] w λe w'=>(∃i:Int,e=.returned (Z9 i)/\decide (0<=i)=xs.any (λt=>decide (t<0)||decide ((L:Int)<=t)))/\w=w':=by
 have Qv:=bx Z2;obtain⟨XH,ZU,rfl⟩:=Z2.slice;have X9:=bx (λt=>amI t TD U7 L V5 w ZL);clear Z2 ZL
 go_in
 go_wp2_with fail
 go_loop[8] (λi=>∃k:Nat,k<=xs.length/\i=Z9 k/\Box ((xs.take k).any (λt=>decide (t<0)||decide ((L:Int)<=t))=false)) (λi=>xs.length-(intOf i).toNat)
 ·exact⟨0,by omega,rfl,⟨rfl⟩⟩
 obtain⟨k,Z3,rfl,YZ⟩:=hrel
 by_cases Uf:k<xs.length
 ·obtain⟨x,Z4⟩:∃x,xs[k]?=some x:=⟨_,SA Uf⟩
  obtain⟨g,off,XV,Y5,XL,Yi,XB,YX⟩:=Qv.o.get (by grind);obtain⟨rfl,rfl⟩:=XN Y5;have UT:=YX k x Z4;have YD:=bx Z4;unfold maxLen at Yi;clear Z4 Y5 YX
  cases hi:(λt=>decide (t<0)||decide ((L:Int)<=t)) x with
  |false=>
   have Y8:=bx (show(xs.take (k+1)).any (λt=>decide (t<0)||decide ((L:Int)<=t))=false by rw[Uo,YD.o,List.any_append,YZ.o,Option.toList_some,List.any_cons,List.any_nil,Bool.or_false,Bool.false_or];exact hi);have YE:=bx hi;clear hi;go_wp2_with fail;refine YW (X9.o x) ?_;rw[YE.o];go_wp2_with fail
   go_round
   ·exact⟨k+1,Uf,by go_num,Y8⟩
   grind[intOf]
  |true=>
   have Y8:=bx (show xs.any (λt=>decide (t<0)||decide ((L:Int)<=t))=true by rw[NS];exact⟨x,Xh YD.o,hi⟩);have YE:=bx hi;clear hi;go_wp2_with fail;refine YW (X9.o x) ?_;rw[YE.o]
   go_wp2
   go_ret
   exact⟨⟨k,rfl,by rw[Y8.o];simp⟩,rfl⟩
 have Y8:=bx (show xs.any (λt=>decide (t<0)||decide ((L:Int)<=t))=false by have:=YZ.o;grind)
 go_wp2
 go_ret
 exact⟨⟨-1,rfl,by rw[Y8.o];rfl⟩,rfl⟩
theorem akH(v:Value)(xs:List Int)(TD:Nat)(U7:Option Addr)(L V5:Nat)(w:World)(Z2:Y6 w v xs)(ZY:xs.length<=16777216)(ZL:w.cell? ⟨TD,1,none⟩=some (.slice U7 L V5)/\TD<w.heap.size):
  Calls prog 215 #[v,.func (.func 214) #[] #[Zn TD]] w λe w'=>e=.returned (.bool (xs.any (λt=>decide (t<0)||decide ((L:Int)<=t))))/\w=w':=by
 have YE:=bx (ary v xs TD U7 L V5 w Z2 ZY ZL);clear Z2 ZL
 go_in
 go_wp2_with fail;refine YE.o.mono ?_;rintro e ZV ⟨⟨i,rfl,hi⟩,rfl⟩;have YD:=bx hi;clear hi
 go_wp2
 go_ret
 exact⟨YG (by simpa using YD.o),rfl⟩
theorem am3(v:Value)(xs:List Int)(w:World)(Z2:Y6 w v xs)(_:xs.length<=16777216):
  Calls prog 279 #[v,.func (.func 219) #[] #[]] w λe w'=>(∃i:Int,e=.returned (Z9 i)/\decide (0<=i)=xs.any (λt=>!U.right t))/\w=w':=by
 have Qv:=bx Z2;obtain⟨XH,ZU,rfl⟩:=Z2.slice;have X9:=bx (λt=>mx t w);clear Z2
 go_in
 go_wp2_with fail
 go_loop[8] (λi=>∃k:Nat,k<=xs.length/\i=Z9 k/\Box ((xs.take k).any (λt=>!U.right t)=false)) (λi=>xs.length-(intOf i).toNat)
 ·exact⟨0,by omega,rfl,⟨rfl⟩⟩
 obtain⟨k,Z3,rfl,YZ⟩:=hrel
 by_cases Uf:k<xs.length
 ·obtain⟨x,Z4⟩:∃x,xs[k]?=some x:=⟨_,SA Uf⟩
  obtain⟨g,off,XV,Y5,XL,Yi,XB,YX⟩:=Qv.o.get (by grind);obtain⟨rfl,rfl⟩:=XN Y5;have UT:=YX k x Z4;have YD:=bx Z4;unfold maxLen at Yi;clear Z4 Y5 YX
  cases hi:(λt=>!U.right t) x with
  |false=>
   have Y8:=bx (show(xs.take (k+1)).any (λt=>!U.right t)=false by rw[Uo,YD.o,List.any_append,YZ.o,Option.toList_some,List.any_cons,List.any_nil,Bool.or_false,Bool.false_or];exact hi);have YE:=bx hi;clear hi;go_wp2_with fail;refine YW (X9.o x) ?_;rw[YE.o];go_wp2_with fail
   go_round
   ·exact⟨k+1,Uf,by go_num,Y8⟩
   grind[intOf]
  |true=>
   have Y8:=bx (show xs.any (λt=>!U.right t)=true by rw[NS];exact⟨x,Xh YD.o,hi⟩);have YE:=bx hi;clear hi;go_wp2_with fail;refine YW (X9.o x) ?_;rw[YE.o]
   go_wp2
   go_ret
   exact⟨⟨k,rfl,by rw[Y8.o];simp⟩,rfl⟩
 have Y8:=bx (show xs.any (λt=>!U.right t)=false by have:=YZ.o;grind)
 go_wp2
 go_ret
 exact⟨⟨-1,rfl,by rw[Y8.o];rfl⟩,rfl⟩
theorem auj(v:Value)(xs:List Int)(w:World)(Z2:Y6 w v xs)(ZY:xs.length<=16777216):
  Calls prog 215 #[v,.func (.func 219) #[] #[]] w λe w'=>e=.returned (.bool (xs.any (λt=>!U.right t)))/\w=w':=by
 have YE:=bx (am3 v xs w Z2 ZY);clear Z2
 go_in
 go_wp2_with fail;refine YE.o.mono ?_;rintro e ZV ⟨⟨i,rfl,hi⟩,rfl⟩;have YD:=bx hi;clear hi
 go_wp2
 go_ret
 exact⟨YG (by simpa using YD.o),rfl⟩
theorem w8{α:Type}{p q:α->Bool}(_:∀x,p x=!q x)(l:List α):(!l.any p)=l.all q:=by
 grind
theorem aps(v:Value)(xs:List Int)(w:World)(Z2:Y6 w v xs)(ZY:xs.length<=16777216):
  Calls prog 217 #[v] w λe w'=>e=.returned (.bool (F.aR xs))/\w=w':=by
 have Yq:=bx (apR v xs w Z2 ZY);have WO:=bx (w8 (p:=λt:Int=>decide (t<0)||decide (31<t)) (q:=λv=>decide (0<=v)&&decide (v<=31)) (λ_=>by grind) xs);obtain⟨a,ZU,rfl⟩:=Z2.slice;obtain⟨N,Zp⟩:∃N,xs.length=N:=⟨_,rfl⟩
 rw[Zp]at Yq⊢;have ZE:=bx Zp;generalize xs.any (λt:Int=>decide (t<0)||decide (31<t))=b at Yq WO;clear Z2 Zp
 by_cases h:N=256
 ·have Zq:((N:Int)==256)=true:=by grind
  have V3:=bx (show F.aR xs=!b by unfold F.aR;rw[WO.o,ZE.o,Yh h,Bool.true_and]);clear h
  go_in
  go_wp2_with fail;refine YW Yq.o ?_
  go_wp2
  go_ret
  exact⟨YG (by rw[V3.o]),rfl⟩
 have Zq:((N:Int)==256)=false:=by grind
 have V3:=bx (show F.aR xs=false by unfold F.aR;rw[ZE.o,Yp h,Bool.false_and]);clear h
 go_in
 go_wp2
 go_ret
 exact⟨YG V3.o.symm,rfl⟩
theorem asx(v:Value)(xs:List Int)(w:World)(Z2:Y6 w v xs)(ZY:xs.length<=16777216):
  Calls prog 216 #[v] w λe w'=>e=.returned (.bool (!F.aR xs))/\w=w':=by
 have Yq:=bx (aps v xs w Z2 ZY);clear Z2
 go_in
 go_wp2_with fail;refine YW Yq.o ?_
 go_wp2
 go_ret
 simp
theorem aoX(v:Value)(WB:List (List Int))(w:World)(Z2:TF w v WB)(_:WB.length<=16777216)(J6:∀r∈WB,r.length<=16777216):
  Calls prog 218 #[v,.func (.func 216) #[] #[]] w λe w'=>(∃i:Int,e=.returned (Z9 i)/\decide (0<=i)=WB.any (λr=>!F.aR r))/\w=w':=by
 have Qv:=bx Z2;obtain⟨XH,ZU,rfl⟩:=Z2.slice;have X9:=bx (λu r(h:Y6 w u r)(ZT:r∈WB)=>asx u r w h (J6 r ZT));clear Z2 J6
 go_in
 go_wp2_with fail
 go_loop[8] (λi=>∃k:Nat,k<=WB.length/\i=Z9 k/\Box ((WB.take k).any (λr=>!F.aR r)=false)) (λi=>WB.length-(intOf i).toNat)
 ·exact⟨0,by omega,rfl,⟨rfl⟩⟩
 obtain⟨k,Z3,rfl,YZ⟩:=hrel
 by_cases Uf:k<WB.length
 ·obtain⟨x,Z4⟩:∃x,WB[k]?=some x:=⟨_,SA Uf⟩
  obtain⟨g,off,XV,Y5,XL,Yi,XB,YX⟩:=Qv.o.get (by grind);obtain⟨rfl,rfl⟩:=XN Y5;obtain⟨u,UT,uT⟩:=YX k x Z4;have YD:=bx Z4;have LY:=bx (X9.o u x uT (Xh Z4));unfold maxLen at Yi;clear Z4 Y5 YX uT
  cases hi:F.aR x with
  |true=>
   have Y8:=bx (show(WB.take (k+1)).any (λr=>!F.aR r)=false by rw[Uo,YD.o,List.any_append,YZ.o,Option.toList_some,List.any_cons,hi];rfl);have YE:=bx hi;clear hi;go_wp2_with fail;refine YW LY.o ?_;rw[YE.o];go_wp2_with fail
   go_round
   ·exact⟨k+1,Uf,by go_num,Y8⟩
   grind[intOf]
  |false=>
   have Y8:=bx (show WB.any (λr=>!F.aR r)=true by rw[NS];exact⟨x,Xh YD.o,by grind⟩);have YE:=bx hi;clear hi;go_wp2_with fail;refine YW LY.o ?_;rw[YE.o]
   go_wp2
   go_ret
   exact⟨⟨k,rfl,by rw[Y8.o];simp⟩,rfl⟩
 have Y8:=bx (show WB.any (λr=>!F.aR r)=false by have:=YZ.o;grind)
 go_wp2
 go_ret
 exact⟨⟨-1,rfl,by rw[Y8.o];rfl⟩,rfl⟩
theorem ajY(v:Value)(WB:List (List Int))(w:World)(Z2:TF w v WB)(ZY:WB.length<=16777216)(J6:∀r∈WB,r.length<=16777216):
  Calls prog 128 #[v,.func (.func 216) #[] #[]] w λe w'=>e=.returned (.bool (WB.any (λr=>!F.aR r)))/\w=w':=by
 have YE:=bx (aoX v WB w Z2 ZY J6);clear Z2 J6
 go_in
 go_wp2_with fail;refine YE.o.mono ?_;rintro e ZV ⟨⟨i,rfl,hi⟩,rfl⟩;have YD:=bx hi;clear hi
 go_wp2
 go_ret
 exact⟨YG (by simpa using YD.o),rfl⟩
theorem uA(v:Value)(t:F.Trie)(w:World)(Z2:Fr w v t)(Z7:t.1.length<=100000)(Z5:t.2.length<=100000)(J6:∀r∈t.2,r.length<=16777216):
  Calls prog 125 #[v] w λe w'=>e=.returned (.bool (F.aE t))/\Z6 w w':=by
 rw[F.eL];obtain⟨xs,WB⟩:=t;obtain⟨ZD,bv,rfl,PJ,Sh⟩:=Z2;simp only at PJ Sh Z7 Z5 J6⊢;obtain⟨U0,UQ,rfl⟩:=PJ.slice;obtain⟨XD,Wm,rfl⟩:=Sh.slice;obtain⟨N,Zp⟩:∃N,xs.length=N:=⟨_,rfl⟩
 obtain⟨M,Xv⟩:∃M,WB.length=M:=⟨_,rfl⟩
 obtain⟨V,ZO⟩:∃V,V=w.alloc (.cells #[.slice U0 N UQ,.slice XD M Wm] 25):=⟨_,rfl⟩
 have Wj:=bx (aB ZO);have SP:Zv V w.heap.size 25 #[.slice U0 N UQ,.slice XD M Wm]:=by rw[ZO];exact Zv.new _ _ _
 rw[Zp]at PJ⊢;rw[Xv]at Sh⊢;have YV:=SP.q0;have c1:=SP.q1;have YJ:=SP.lt;have Gm:=bx (akH (.slice U0 N UQ) xs w.heap.size XD M Wm V (PJ.below Wj.o) (by omega) ⟨c1,YJ⟩);have Wt:=bx (ajY (.slice XD M Wm) WB V (Sh.below Wj.o) (by omega) J6);have ah9:=bx (w8 (p:=λt:Int=>decide (t<0)||decide ((M:Int)<=t)) (q:=λn=>decide (0<=n)&&decide (n<(M:Int))) (λ_=>by grind) xs);have aia:=bx (w8 (p:=λr=>!F.aR r) (q:=F.aR) (λ_=>rfl) WB);rw[<-ah9.o,<-aia.o];generalize xs.any (λt:Int=>decide (t<0)||decide ((M:Int)<=t))=p1 at Gm⊢;generalize WB.any (λr=>!F.aR r)=p2 at Wt⊢;have ZN:=bx ZO;clear PJ Sh Zp Xv ZO SP J6
 by_cases h:N=4352
 ·have Zq:((N:Int)==4352)=true:=by grind
  rw[Yh h,Bool.true_and];clear h
  go_in
  go_upto_region 1 with(fail)
  rw[<-ZN.o];go_wp2_with fail;refine YW Gm.o ?_
  cases p1 with
  |true=>
   go_wp2
   go_ret
   exact⟨rfl,Wj.o⟩
  |false=>
   go_wp2_with fail;refine YW Wt.o ?_
   go_wp2
   go_ret
   exact⟨YG (by simp),Wj.o⟩
 have Zq:((N:Int)==4352)=false:=by grind
 rw[Yp h,Bool.false_and,Bool.false_and];clear h
 go_in
 go_upto_region 1 with(fail)
 rw[<-ZN.o]
 go_wp2
 go_ret
 exact⟨rfl,Wj.o⟩
