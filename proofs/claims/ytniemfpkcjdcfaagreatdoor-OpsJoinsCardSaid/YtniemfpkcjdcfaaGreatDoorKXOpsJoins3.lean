/- Texts of this claim. -/
import Derived.Test.YtniemfpkcjdcfaaGreatDoorK18
import Derived.Test.YtniemfpkcjdcfaaGreatDoorKXOpsJoins1

set_option maxRecDepth 100000
set_option maxHeartbeats 16000000
namespace Go.Proofs.YtniemfpkcjdcfaaGreatDoor
open Go.RowKit
attribute[local go_sem] Oper.semAt_some
open Tryz
theorem oA(v:Value)(t:F.Trie)(r:Nat)(w:World)(Z2:Fr w v t)(ZM:F.aE t=true)(ZT:r<=1114111):
  Calls prog 160 #[v,Z9 (r:Int)] w λe w'=>e=.returned (.bool (F.says t (r:Int) != 0))/\Z6 w w':=by
 obtain⟨ZD,bv,rfl,hi,Z8⟩:=Z2;obtain⟨V,ZO⟩:∃V,V=w.alloc (.cells #[ZD,bv] 25):=⟨_,rfl⟩
 have ZR:=bx (aB ZO);have Z3:Zv V w.heap.size 25 #[ZD,bv]:=by rw[ZO];exact Zv.new _ _ _
 obtain⟨g,off,ZU,n,g2,OP,XV,g3,J2,Ji,rfl,a2,a3,a4,a5,P8,rfl,Xd,Wk,UY,TN,c2,c3,VG,Wv⟩:=yq (hi.below ZR.o) (Z8.below ZR.o) ZM r ZT;have ZN:=bx ZO;generalize F.says t (r:Int)=y at Wv⊢;generalize t.2.length=M at *;have xx:=(Z3.cell 0).trans (show _=some (Value.slice (some ⟨g,off,none⟩) 4352 ZU)from rfl);have FN:=(Z3.cell 1).trans (show _=some (Value.slice (some ⟨g2,OP,none⟩) M XV)from rfl);have pz:=Z3.lt;obtain⟨d,Zm⟩:∃d,r/256=d:=⟨_,rfl⟩
 obtain⟨q,Zs⟩:∃q,r%256=q:=⟨_,rfl⟩
 have MI:d<4352:=by omega
 have NB:q<256:=by omega
 have xq:(r:Int).tdiv 256=(d:Int):=by rw[<-Zm];rfl
 have xp:(r:Int).tmod 256=(q:Int):=by rw[<-Zs];rfl
 rw[Zm]at a5;rw[Zs]at Wv;clear Z3 Zm Zs hi Z8 ZM ZO
 go_in
 go_upto_region 1 with(fail)
 rw[<-ZN.o];have W6:=bx (λm=>ZR.o.trans ((Po V m).mono ZR.o.size))
 go_quiet (fail)
 go_wp2
 go_ret
 exact⟨rfl,W6.o _⟩
theorem aag(v:Value)(l:List F.Map)(r:Int)(w:World)(Z2:NR w v l)(ZY:l.length<=100000)(G4:∀x∈l,x.2.length<=100000):
  Calls prog 161 #[v,Z9 r] w λe w'=>(∃Zy,e=.returned Zy/\Y6 w' Zy (T.becomes l r)/\∀g,Zy.ownBlock=some g->w.heap.size<=g/\g<w'.heap.size)/\Z6 w w':=by
 have ZN:=bx Z2;obtain⟨a,ZU,rfl,W2,VM⟩:=Z2.slice;obtain⟨N,Zp⟩:∃N,l.length=N:=⟨_,rfl⟩
 rw[Zp]at ZN ZY W2⊢;have ZE:=bx Zp;have A0:=bx G4;have XI:=bx ((Sep.start w).aH w.heap.size 1 3);clear Z2 Zp G4
 go_in
 go_wp2_with fail
 go_loopw[5] (λi wr=>∃k:Nat,k<=N/\i=Z9 k/\Box (∀(j:Nat)(y:F.Map),j<k->l[j]?=some y->y.1≠r)/\wr=w) (λi _=>N-(intOf i).toNat)
 ·exact⟨0,by omega,rfl,⟨λj y _=>by omega⟩,rfl⟩
 obtain⟨k,Z3,rfl,XF,rfl⟩:=hrel
 by_cases Zu:k<N
 ·obtain⟨x,Z4⟩:=Yg l k (by rw[ZE.o];exact Zu);obtain⟨g,off,XV,Y5,XL,Yi,XB,YX⟩:=ZN.o.get (by rintro rfl;simp at Z4);rw[ZE.o]at Y5 XL;obtain⟨rfl,rfl⟩:=XN Y5;obtain⟨Ws,u,XX,hu⟩:=YX k x Z4;obtain⟨By,I1,rfl⟩:=hu.slice;have YD:=bx Z4;have Me:=bx (Fo hu);have AQ:=bx (A0.o x (Xh Z4));unfold maxLen at Yi;clear Z4 Y5 YX hu
  by_cases he:x.1=r
  ·have Zq:(x.1==r)=true:=by rw[Lz];exact he
   have TZ:=bx (aa2 YD.o he XF.o);have Ak:=AQ.o;clear he;go_wp2_with (at_builtin;refine IE rfl _ _ 22 rfl Iw (by decide) XI.o 0 rfl rfl rfl Me.o (by rw[X4,Nat.mul_one]) (by intro z ZY;obtain⟨q,-,rfl⟩:=SL.1 ZY;rfl) (by omega) (by omega) Ys ?_;rintro O3 Xi Wl)
   have V7:=Wl.row 0 rfl;have YE:=bx (show Y6 Xi O3 (T.becomes l r) by
    rw[TZ.o];rw[Nat.zero_add,RQ]at V7;exact Y6.au V7 rfl)
   have Yt:=bx (λg ZH=>V7.lt g ZH);have XM:=bx (Wl.bel (n:=wr.heap.size) (W0:=wr) (by simp));clear Wl V7 Ak
   go_wp2
   go_ret
   exact⟨⟨_,rfl,YE.o,Yt.o⟩,XM.o⟩
  have Zq:(x.1==r)=false:=by rw[Sz];exact he
  have Te:=bx (upto_succ XF.o YD.o he);clear he
  go_wp2
  go_roundw
  ·exact⟨k+1,by omega,by go_num,Te,trivial⟩
  simp[intOf];omega
 obtain rfl:k=N:=by omega
 have TZ:=bx (am (l:=l) (r:=r) (λj y YO ZJ=>XF.o j y (by rw[<-ZE.o];exact YO) ZJ));have YE:=bx (rS wr r 3);have V3:=bx (Xl wr (.cells #[Z9 r] 3))
 go_wp2
 go_ret
 exact⟨⟨_,rfl,by rw[TZ.o];exact YE.o,λg ZH=>by simp[Value.ownBlock]at ZH;subst ZH;exact⟨Wq _,by simp⟩⟩,V3.o⟩
theorem hD(v Ul:Value)(c:T.Cs)(xs:List Int)(w:World)(Z2:Sq w v c)(ZL:T.az 600 c=true)(hl:Y6 w Ul xs)(Z4:∀x∈xs,U.right x=true)(ZY:xs.length<=100000):
  Calls prog 270 #[v,Ul] w λe w'=>e=.returned (.bool (xs.all (T.al c)))/\Z6 w w':=by
 have VO:=bx (λW(h:Z6 w W)=>Z2.below h);obtain⟨Zc,YI,ci,YQ,Yw,Yy,rfl,Z7,Z5,ZS,ZG,Zi,Yu⟩:=Z2;obtain⟨V,ZO⟩:∃V,V=w.alloc (.cells #[Zc,YI,ci,YQ,Yw,Yy] 36):=⟨_,rfl⟩
 have ZR:=bx (aB ZO);have Ze:=bx (aK ZO);have ZF:=bx (λW(h:Z6 V W)=>Ze.o.d6 h);have ZN:=bx ZO;rw[yu]at ZL;simp only[Vm]at ZL;have Pv:=bx (λ(x:Int)(On:U.right x=true) W (h:Z6 w W)=>show Calls prog 160 #[.agg #[Yw,Yy],Z9 x] W λe w'=>e=.returned (.bool (T.al c x))/\Z6 W w' by
  obtain⟨Ev,rfl,MD⟩:=DV On;exact oA (.agg #[Yw,Yy]) c.ig Ev W ⟨_,_,rfl,Zi.below h,Yu.below h⟩ ZL.2 MD)
 have W4:=bx (λW(h:Z6 w W)=>hl.below h);have OA:=bx Z4;obtain⟨Yr,lc,rfl⟩:=hl.slice;obtain⟨N,Zp⟩:∃N,xs.length=N:=⟨_,rfl⟩
 rw[Zp]at W4 ZY⊢;have ZE:=bx Zp;clear Z7 Z5 ZS ZG Zi Yu ZL ZO hl Z4 Zp
 go_in
 go_upto_region 1 with(fail)
 rw[<-ZN.o];go_wp2_with fail
 go_loopw[5] (λi wr=>∃k:Nat,k<=N/\i=Z9 k/\Box (∀(j:Nat)(y:Int),j<k->xs[j]?=some y->T.al c y=true)/\Box (Z6 V wr)) (λi _=>N-(intOf i).toNat)
 ·exact⟨0,by omega,rfl,⟨λj y h=>by omega⟩,⟨Below.refl _ _⟩⟩
 obtain⟨k,Z3,rfl,YB,Z8⟩:=hrel;have YA:=bx (bt ZR.o Z8.o)
 by_cases Zu:k<N
 ·obtain⟨x,Z4⟩:=Yg xs k (by rw[ZE.o];exact Zu);obtain⟨g,off,XV,Y5,XL,Yi,XB,YX⟩:=(W4.o wr YA.o).get (by rintro rfl;simp at Z4);rw[ZE.o]at Y5 XL;obtain⟨rfl,rfl⟩:=XN Y5;have Q0:=YX k x Z4;have YD:=bx Z4;have Pv:=bx (Pv.o x (OA.o x (Xh Z4)));unfold maxLen at Yi;obtain⟨Inv,Rk,Tr⟩:∃Inv:World->Prop,(∀W,Inv W->Z6 wr W)/\(∀W,Z6 wr W->Inv W):=⟨_,λ_ h=>h,λ_ h=>h⟩
  have Wa:=bx (show∀q:CW Inv,Z6 wr q.w from λq=>Rk _ q.h);have PT:=bx (show∀(q:CW Inv) w',Below q.w.heap.size q.w w'->Inv w' from λq w' h=>Tr _ ((Wa.o q).trans (h.mono (Wa.o q).size)));have Tp:=bx (λq:CW Inv=>Z8.o.trans ((Wa.o q).mono Z8.o.size));have Ml:=bx (λq:CW Inv=>ZR.o.trans ((Tp.o q).mono ZR.o.size));have q4:∀q:CW Inv,q.w.cell? ⟨w.heap.size,4,none⟩=some Yw:=λq=>(ZF.o _ (Tp.o q)).2.2.2.2.1
  have q5:∀q:CW Inv,q.w.cell? ⟨w.heap.size,5,none⟩=some Yy:=λq=>(ZF.o _ (Tp.o q)).2.2.2.2.2.1
  have q6:∀q:CW Inv,q.w.cell? ⟨g,off+k,none⟩=some (Z9 x):=λq=>((Wa.o q).cell (p:=⟨g,off+k,none⟩) XB).trans Q0
  have W6:=bx (Tr _ (VQ wr 1));clear Z4 Y5 YX Rk Tr Q0
  cases ZJ:T.al c x with
  |true=>
   rw[ZJ]at Pv;have Wn:=bx ZJ;clear ZJ;have U4:=bx (λq:CW Inv=>Li (Pv.o q.w (Ml.o q)) rfl (PT.o q));go_wp2_with fail;refine OL Inv (by kernel_rfl) (by kernel_rfl) W6.o (λXq=>?_)
   repeat (any_goals (first|go_big_quiet_step ((go_at_call 160;exact U4.o _))|quiet_step ((go_at_call 160;exact U4.o _))))
   refine wpQuiet_nil ?_;rintro Xi ⟨q7,rfl⟩;have XM:=bx (Tp.o q7);clear q4 q5 q6 Xq
   go_wp2
   go_roundw
   ·exact⟨k+1,by omega,by go_num,⟨upto_succ YB.o YD.o Wn.o⟩,XM⟩
   simp[intOf];omega
  |false=>
   rw[ZJ]at Pv;have Wn:=bx ZJ;clear ZJ;have U4:=bx (λq:CW Inv=>Li (Pv.o q.w (Ml.o q)) rfl (PT.o q));go_wp2_with fail;refine OL Inv (by kernel_rfl) (by kernel_rfl) W6.o (λXq=>?_)
   repeat (any_goals (first|go_big_quiet_step ((go_at_call 160;exact U4.o _))|quiet_step ((go_at_call 160;exact U4.o _))))
   refine wpQuiet_nil ?_;rintro Xi ⟨q7,rfl⟩;have XM:=bx (Tp.o q7);clear q4 q5 q6 Xq
   go_wp2
   go_ret
   exact⟨YG (by rw[Js YD.o Wn.o]),bt ZR.o XM.o⟩
 obtain rfl:k=N:=by omega
 have WO:=bx (show xs.all (T.al c)=true from B1 (λj x YO Z4=>YB.o j x (by rw[<-ZE.o];exact YO) Z4))
 go_wp2
 go_ret
 exact⟨YG (by rw[WO.o]),YA.o⟩
theorem anY(v Ul:Value)(c:T.Cs)(xs:List Int)(w:World)(Z2:Sq w v c)(Z0:T.Small c)(hl:Y6 w Ul xs)(ZY:xs.length<=100000):
  Calls prog 163 #[v,Ul] w λe w'=>e=.returned (Z9 (T.wrong c xs))/\Z6 w w':=by
 have VO:=bx (λW(h:Z6 w W)=>Z2.below h);obtain⟨Zc,YI,ci,YQ,Yw,Yy,rfl,Z7,Z5,ZS,ZG,Zi,Yu⟩:=Z2;obtain⟨V,ZO⟩:∃V,V=w.alloc (.cells #[Zc,YI,ci,YQ,Yw,Yy] 36):=⟨_,rfl⟩
 have ZR:=bx (aB ZO);have Ze:=bx (aK ZO);have ZF:=bx (λW(h:Z6 V W)=>Ze.o.d6 h);have ZN:=bx ZO;have Vc:=bx (λW(h:Z6 w W)=>sL _ c W (VO.o W h) Z0);have W4:=bx (λW(h:Z6 w W)=>hl.below h);obtain⟨Yr,lc,rfl⟩:=hl.slice;obtain⟨N,Zp⟩:∃N,xs.length=N:=⟨_,rfl⟩
 rw[Zp]at W4 ZY⊢;have ZE:=bx Zp;clear Z7 Z5 ZS ZG Zi Yu Z0 ZO hl Zp;obtain⟨Zd,Zx,Zr,Zk,Zl,Zg,R3⟩:=ZF.o V YU
 go_in
 go_upto_region 1 with(fail)
 rw[<-ZN.o]
 cases Vo:T.az 600 c with
 |false=>
  rw[Vo]at Vc;have TW:=bx (show T.wrong c xs=140 by unfold T.wrong;rw[Y0 Vo]);clear Vo;go_wp2_with fail;refine X7 (Vc.o _ ZR.o) ZR.o λZV ZW=>?_
  go_wp2
  go_ret
  exact⟨by rw[TW.o];rfl,ZW.o⟩
 |true=>
  rw[Vo]at Vc;have Lq:=bx Vo;clear Vo
  by_cases AK:2000<N
  ·have Zq:decide ((2000:Int)<(N:Int))=true:=Yh (by omega);have TW:=bx (show T.wrong c xs=121 by unfold T.wrong;rw[Lq.o,Y4 (by simp),Y0 (by rw[ZE.o];exact AK)]);clear AK;go_wp2_with fail;refine X7 (Vc.o _ ZR.o) ZR.o λZV ZW=>?_
   go_wp2
   go_ret
   exact⟨by rw[TW.o];rfl,ZW.o⟩
  have Zq:decide ((2000:Int)<(N:Int))=false:=Yp (by omega);have iE:=bx (show T.wrong c xs=if xs.all U.right=false then 10 else 0 by unfold T.wrong;rw[Lq.o,Y4 (by simp),Y4 (by rw[ZE.o];exact AK)]);clear AK;go_wp2_with fail;refine X7 (Vc.o _ ZR.o) ZR.o λZV ZW=>?_
  clear Zd Zx Zr Zk Zl Zg R3;go_wp2_with fail
  go_loopw[5] (λi wr=>∃k:Nat,k<=N/\i=Z9 k/\Box (∀(j:Nat)(y:Int),j<k->xs[j]?=some y->U.right y=true)/\wr=ZV) (λi _=>N-(intOf i).toNat)
  ·exact⟨0,by omega,rfl,⟨λj y h=>by omega⟩,rfl⟩
  obtain⟨k,Z3,rfl,YB,rfl⟩:=hrel
  by_cases Zu:k<N
  ·obtain⟨y,ZJ⟩:=Yg xs k (by rw[ZE.o];exact Zu);obtain⟨g,off,XV,Y5,XL,Yi,XB,YX⟩:=(W4.o _ ZW.o).get (by rintro rfl;simp at ZJ);rw[ZE.o]at Y5 XL;obtain⟨rfl,rfl⟩:=XN Y5;have Q0:=YX k y ZJ;have Wn:=bx ZJ;have Xx:=bx (λW=>AY y W);unfold maxLen at Yi;clear ZJ Y5 YX
   cases ZT:U.right y with
   |true=>
    rw[ZT]at Xx;have Te:=bx (upto_succ YB.o Wn.o ZT);clear ZT;go_wp2_with fail;refine YW (Xx.o _) ?_
    go_wp2
    go_roundw
    ·exact⟨k+1,by omega,by go_num,Te,trivial⟩
    simp[intOf];omega
   |false=>
    rw[ZT]at Xx;have Yt:=bx (show xs.all U.right=false from Js Wn.o ZT);clear ZT;go_wp2_with fail;refine YW (Xx.o _) ?_
    go_wp2
    go_ret
    exact⟨by rw[iE.o,Y0 Yt.o];rfl,ZW.o⟩
  obtain rfl:k=N:=by omega
  have WO:=bx (show xs.all U.right=true from B1 (λj x YO Z4=>YB.o j x (by rw[<-ZE.o];exact YO) Z4))
  go_wp2
  go_ret
  exact⟨by rw[iE.o,Y4 (by rw[WO.o];simp)];rfl,ZW.o⟩
theorem adt(a:Option Addr)(N ZU i j:Nat)(xs:List Int)(LJ:i<=j)(YO:j<=N)(Zp:xs.length=N)(_:N<=100000){YR:World}(ZI:Y6 YR (.slice a N ZU) xs):
  ∃Y,(∀W,(Instr.slice 22 (.slice a N ZU) (some (Z9 (i:Int))) (some (Z9 (j:Int))) none).run prog W=.ok Y W)/\∀W,Y6 W (.slice a N ZU) xs->Y6 W Y ((xs.take j).drop i):=by
 subst Zp
 rcases ZI with⟨Z7,Z5⟩|⟨b,off,sp,XV,Z7,Z5,ZS,ZG⟩
 ·injection Z7 with Zq YP Yb;subst Zq Yb Z5;obtain rfl:j=0:=by simpa using YO
  obtain rfl:i=0:=by omega
  exact⟨Z1,λW=>by go_simp,λW _=>by simpa using Y6.nil⟩
 injection Z7 with Zq YP Yb;subst Zq Yb
 by_cases ZP:xs=[]
 ·subst ZP;obtain rfl:j=0:=by simpa using YO
  obtain rfl:i=0:=by omega
  refine⟨.slice (some ⟨b,off,sp⟩) 0 ZU,λW=>?_,λW _=>?_⟩
  ·unfold maxLen at ZS
   by_cases ZL:ZU=0
   ·subst ZL;go_simp
   go_simp
  exact .inr ⟨b,off,sp,ZU,by simp,by simp,ZS,λh=>absurd (by simp) h⟩
 obtain⟨rfl,Zi,Yu⟩:=ZG ZP;have Z3:j<=ZU:=by omega
 by_cases ZL:ZU=i
 ·obtain rfl:j=i:=by omega
  obtain rfl:ZU=j:=ZL;refine⟨.slice (some ⟨b,off,none⟩) (ZU-ZU) (ZU-ZU),λW=>?_,λW Yj=>Yj.part ZU ZU _ LJ YO (by omega) (by omega) _ (λh=>by omega)⟩;unfold maxLen at ZS;go_simp
 refine⟨.slice (some ((⟨b,off,none⟩:Addr).add i)) (j-i) (ZU-i),λW=>?_,λW Yj=>Yj.part i j _ LJ YO (by omega) (by omega) _ (λ_=>rfl)⟩;unfold maxLen at ZS;go_simp
theorem ami(v Ul:Value)(c:T.Cs)(xs:List Int)(a:Nat)(w:World)(Z2:Sq w v c)(ZL:T.az 600 c=true)(hl:Y6 w Ul xs)(Z4:∀x∈xs,U.right x=true)(ZY:xs.length<=100000)(YZ:a<xs.length):
  Calls prog 226 #[v,Ul,Z9 (a:Int)] w λe w'=>e=.returned (.bool (T.final c xs a))/\Z6 w w':=by
 have VO:=bx (λW(h:Z6 w W)=>Z2.below h);obtain⟨Zc,YI,ci,YQ,Yw,Yy,rfl,Z7,Z5,ZS,ZG,Zi,Yu⟩:=Z2;obtain⟨V,ZO⟩:∃V,V=w.alloc (.cells #[Zc,YI,ci,YQ,Yw,Yy] 36):=⟨_,rfl⟩
 have ZR:=bx (aB ZO);have Ze:=bx (aK ZO);have ZF:=bx (λW(h:Z6 V W)=>Ze.o.d6 h);have ZN:=bx ZO;have Lq:=bx ZL;rw[yu]at ZL;simp only[Vm]at ZL;have Pv:=bx (λ(x:Int)(On:U.right x=true) W (h:Z6 w W)=>show Calls prog 160 #[.agg #[ci,YQ],Z9 x] W λe w'=>e=.returned (.bool (T.cased c x))/\Z6 W w' by
  obtain⟨Ev,rfl,MD⟩:=DV On;exact oA (.agg #[ci,YQ]) c.ca Ev W ⟨_,_,rfl,ZS.below h,ZG.below h⟩ ZL.1.2 MD)
 have W4:=bx (λW(h:Z6 w W)=>hl.below h);have OA:=bx Z4;obtain⟨Yr,lc,rfl⟩:=hl.slice;obtain⟨N,Zp⟩:∃N,xs.length=N:=⟨_,rfl⟩
 rw[Zp]at W4 ZY YZ⊢;have ZE:=bx Zp;clear Z7 Z5 ZS ZG Zi Yu ZL ZO hl Z4 Zp
 go_in
 go_upto_region 1 with(fail)
 rw[<-ZN.o];go_wp2_with fail
 go_loopw[7,8] (λb i wr=>∃k:Nat,k<=a/\i=Z9 k/\b=.bool (T.cI c xs a k)/\Box (Z6 V wr)) (λ_ i _=>a-(intOf i).toNat)
 ·exact⟨0,by omega,rfl,rfl,⟨Below.refl _ _⟩⟩
 obtain⟨k,Z3,rfl,rfl,Z8⟩:=hrel;have YA:=bx (bt ZR.o Z8.o);obtain⟨x9,Ma⟩:∃x9,x9=T.cI c xs a k:=⟨_,rfl⟩
 rw[<-Ma];have GP:=bx Ma;clear Ma
 by_cases Zu:k<a
 ·have Cv:=bx (T.auX c xs a k);obtain⟨x,Z4⟩:=Yg xs k (by rw[ZE.o];omega);obtain⟨g,off,XV,Y5,XL,Yi,XB,YX⟩:=(W4.o wr YA.o).get (by rintro rfl;simp at Z4);rw[ZE.o]at Y5 XL;obtain⟨rfl,rfl⟩:=XN Y5;have Q0:=YX _ x Z4;have M7:=bx (show xs.getD k 0=x by rw[Rl,Z4,OT]);have Pv:=bx (Pv.o x (OA.o x (Xh Z4)));obtain⟨Y,Xa,VX⟩:=adt (some ⟨g,off,none⟩) N lc (k+1) a xs (by omega) (by omega) ZE.o ZY (W4.o wr YA.o);obtain⟨ig,EG⟩:∃ig,ig=((xs.take a).drop (k+1)).all (T.al c):=⟨_,rfl⟩
  have qB:=bx EG.symm;have oD:=bx (λW(h:Z6 w W)=>show Calls prog 270 #[.agg #[Zc,YI,ci,YQ,Yw,Yy],Y] W λe w'=>e=.returned (.bool ig)/\Z6 W w' by
   have WK:=VX W (W4.o W h);rw[EG];refine hD _ Y c _ W (VO.o W h) Lq.o (by first|exact WK|simpa using WK) (λz ZY=>OA.o z ?_) (by have:=ZE.o;simp;omega)
   first|exact List.mem_of_mem_take (List.mem_of_mem_drop ZY)|exact List.mem_of_mem_drop (List.mem_of_mem_take ZY))
  unfold maxLen at Yi;obtain⟨Inv,Rk,Tr⟩:∃Inv:World->Prop,(∀W,Inv W->Z6 wr W)/\(∀W,Z6 wr W->Inv W):=⟨_,λ_ h=>h,λ_ h=>h⟩
  have Wa:=bx (show∀q:CW Inv,Z6 wr q.w from λq=>Rk _ q.h);have PT:=bx (show∀(q:CW Inv) w',Below q.w.heap.size q.w w'->Inv w' from λq w' h=>Tr _ ((Wa.o q).trans (h.mono (Wa.o q).size)));have Tp:=bx (λq:CW Inv=>Z8.o.trans ((Wa.o q).mono Z8.o.size));have Ml:=bx (λq:CW Inv=>ZR.o.trans ((Tp.o q).mono ZR.o.size));have q0:∀q:CW Inv,q.w.cell? ⟨w.heap.size,0,none⟩=some Zc:=λq=>(ZF.o _ (Tp.o q)).1
  have q1:∀q:CW Inv,q.w.cell? ⟨w.heap.size,1,none⟩=some YI:=λq=>(ZF.o _ (Tp.o q)).2.1
  have q2:∀q:CW Inv,q.w.cell? ⟨w.heap.size,2,none⟩=some ci:=λq=>(ZF.o _ (Tp.o q)).2.2.1
  have q3:∀q:CW Inv,q.w.cell? ⟨w.heap.size,3,none⟩=some YQ:=λq=>(ZF.o _ (Tp.o q)).2.2.2.1
  have q4:∀q:CW Inv,q.w.cell? ⟨w.heap.size,4,none⟩=some Yw:=λq=>(ZF.o _ (Tp.o q)).2.2.2.2.1
  have q5:∀q:CW Inv,q.w.cell? ⟨w.heap.size,5,none⟩=some Yy:=λq=>(ZF.o _ (Tp.o q)).2.2.2.2.2.1
  have Ih:∀q:CW Inv,w.heap.size<q.w.heap.size:=λq=>(ZF.o _ (Tp.o q)).2.2.2.2.2.2
  have q6:∀q:CW Inv,q.w.cell? ⟨g,off+(k),none⟩=some (Z9 x):=λq=>((Wa.o q).cell (p:=⟨g,off+(k),none⟩) XB).trans Q0
  have W6:=bx (Tr _ (VQ wr 1));clear Z4 Y5 YX Rk Tr Q0 VX EG;rw[show((k+1:Nat):Int)=(k:Int)+1 by omega]at Xa
  cases x9 with
  |true=>
   have Te:=bx (show T.cI c xs a (k+1)=true by rw[Cv.o,<-GP.o,Bool.true_or]);clear Xa;go_wp2_with fail;refine OL Inv (by kernel_rfl) (by kernel_rfl) W6.o (λXq=>?_)
   repeat (any_goals (first|go_big_quiet_step (fail)|quiet_step (fail)))
   refine wpQuiet_nil ?_;rintro Xi ⟨q7,rfl⟩;have XM:=bx (Tp.o q7);clear q0 q1 q2 q3 q4 q5 Ih q6 Xq
   go_wp2
   go_roundw
   ·exact⟨k+1,by omega,by go_num,by rw[Te.o],XM⟩
   simp[intOf];omega
  |false=>
   cases ZJ:T.cased c x with
   |false=>
    rw[ZJ]at Pv;have Te:=bx (show T.cI c xs a (k+1)=false by rw[Cv.o,<-GP.o,M7.o,ZJ,Bool.false_or,Bool.false_and]);clear ZJ Xa;have U4:=bx (λq:CW Inv=>Li (Pv.o q.w (Ml.o q)) rfl (PT.o q));go_wp2_with fail;refine OL Inv (by kernel_rfl) (by kernel_rfl) W6.o (λXq=>?_)
    repeat (any_goals (first|go_big_quiet_step ((go_at_call 160;exact U4.o _))|quiet_step ((go_at_call 160;exact U4.o _))))
    refine wpQuiet_nil ?_;rintro Xi ⟨q7,rfl⟩;have XM:=bx (Tp.o q7);clear q0 q1 q2 q3 q4 q5 Ih q6 Xq
    go_wp2
    go_roundw
    ·exact⟨k+1,by omega,by go_num,by rw[Te.o],XM⟩
    simp[intOf];omega
   |true=>
    rw[ZJ]at Pv;have Te:=bx (show T.cI c xs a (k+1)=ig by rw[Cv.o,<-GP.o,M7.o,ZJ,qB.o,Bool.false_or,Bool.true_and]);clear ZJ;have U4:=bx (λq:CW Inv=>Li (Pv.o q.w (Ml.o q)) rfl (PT.o q));have LO:=bx (λq:CW Inv=>Li (oD.o q.w (Ml.o q)) rfl (PT.o q));go_wp2_with fail;refine OL Inv (by kernel_rfl) (by kernel_rfl) W6.o (λXq=>?_)
    iterate 9 (first|go_big_quiet_step ((go_at_call 160;exact U4.o _))|quiet_step ((go_at_call 160;exact U4.o _)))
    clear U4
    repeat (any_goals (first|go_big_quiet_step ((go_at_call 270;exact LO.o _))|quiet_step ((go_at_call 270;exact LO.o _))))
    refine wpQuiet_nil ?_;rintro Xi ⟨q7,rfl⟩;have XM:=bx (Tp.o q7);clear q0 q1 q2 q3 q4 q5 Ih q6 Xq
    go_wp2
    go_roundw
    ·exact⟨k+1,by omega,by go_num,by rw[Te.o],XM⟩
    simp[intOf];omega
 obtain rfl:a=k:=by omega
 have xk:=bx (show x9=T.cQ c (xs.take a) by rw[GP.o,T.arE c xs a (by rw[ZE.o];omega)]);obtain⟨YK,zG⟩:∃YK:World,YK=wr:=⟨_,rfl⟩
 have X0:=bx (show Below V.heap.size V YK by rw[zG];exact Z8.o);rw[<-zG];clear Z8 GP YA Zu Z3 zG;go_wp2_with fail
 go_loopw[9,10] (λb i wr=>∃k:Nat,k<=N-(a+1)/\i=Z9 ((a:Int)+1+k)/\b=.bool (T.cH c xs a k)/\Box (Z6 V wr)) (λ_ i _=>N-(intOf i).toNat)
 ·exact⟨0,by omega,by go_num,rfl,X0⟩
 obtain⟨k,Z3,rfl,rfl,Z8⟩:=hrel;have YA:=bx (bt ZR.o Z8.o);obtain⟨qj,Gz⟩:∃qj,qj=T.cH c xs a k:=⟨_,rfl⟩
 rw[<-Gz];have vm:=bx Gz;clear Gz;obtain⟨p,hp⟩:∃p:Nat,p=a+1+k:=⟨_,rfl⟩
 rw[show(a:Int)+1+k=(p:Int) by omega];have WI:=bx hp;have Pi:a+1<=p:=by omega
 by_cases Zu:p<N
 ·have Cv:=bx (T.amS c xs a k);rw[<-hp]at Cv;have Ae:=bx (show(xs.take p).drop (a+1)=(xs.drop (a+1)).take k by rw[List.drop_take,hp,Nat.add_sub_cancel_left]);have BL:k+1<=N-(a+1):=by omega
  clear hp Z3;obtain⟨x,Z4⟩:=Yg xs p (by rw[ZE.o];omega);obtain⟨g,off,XV,Y5,XL,Yi,XB,YX⟩:=(W4.o wr YA.o).get (by rintro rfl;simp at Z4);rw[ZE.o]at Y5 XL;obtain⟨rfl,rfl⟩:=XN Y5;have Q0:=YX _ x Z4;have M7:=bx (show xs.getD p 0=x by rw[Rl,Z4,OT]);have Pv:=bx (Pv.o x (OA.o x (Xh Z4)));obtain⟨Y,Xa,VX⟩:=adt (some ⟨g,off,none⟩) N lc (a+1) p xs (by omega) (by omega) ZE.o ZY (W4.o wr YA.o);obtain⟨ig,EG⟩:∃ig,ig=((xs.take p).drop (a+1)).all (T.al c):=⟨_,rfl⟩
  have qB:=bx EG.symm;have oD:=bx (λW(h:Z6 w W)=>show Calls prog 270 #[.agg #[Zc,YI,ci,YQ,Yw,Yy],Y] W λe w'=>e=.returned (.bool ig)/\Z6 W w' by
   have WK:=VX W (W4.o W h);rw[EG];refine hD _ Y c _ W (VO.o W h) Lq.o (by first|exact WK|simpa using WK) (λz ZY=>OA.o z ?_) (by have:=ZE.o;simp;omega)
   first|exact List.mem_of_mem_take (List.mem_of_mem_drop ZY)|exact List.mem_of_mem_drop (List.mem_of_mem_take ZY))
  unfold maxLen at Yi;obtain⟨Inv,Rk,Tr⟩:∃Inv:World->Prop,(∀W,Inv W->Z6 wr W)/\(∀W,Z6 wr W->Inv W):=⟨_,λ_ h=>h,λ_ h=>h⟩
  have Wa:=bx (show∀q:CW Inv,Z6 wr q.w from λq=>Rk _ q.h);have PT:=bx (show∀(q:CW Inv) w',Below q.w.heap.size q.w w'->Inv w' from λq w' h=>Tr _ ((Wa.o q).trans (h.mono (Wa.o q).size)));have Tp:=bx (λq:CW Inv=>Z8.o.trans ((Wa.o q).mono Z8.o.size));have Ml:=bx (λq:CW Inv=>ZR.o.trans ((Tp.o q).mono ZR.o.size));have q0:∀q:CW Inv,q.w.cell? ⟨w.heap.size,0,none⟩=some Zc:=λq=>(ZF.o _ (Tp.o q)).1
  have q1:∀q:CW Inv,q.w.cell? ⟨w.heap.size,1,none⟩=some YI:=λq=>(ZF.o _ (Tp.o q)).2.1
  have q2:∀q:CW Inv,q.w.cell? ⟨w.heap.size,2,none⟩=some ci:=λq=>(ZF.o _ (Tp.o q)).2.2.1
  have q3:∀q:CW Inv,q.w.cell? ⟨w.heap.size,3,none⟩=some YQ:=λq=>(ZF.o _ (Tp.o q)).2.2.2.1
  have q4:∀q:CW Inv,q.w.cell? ⟨w.heap.size,4,none⟩=some Yw:=λq=>(ZF.o _ (Tp.o q)).2.2.2.2.1
  have q5:∀q:CW Inv,q.w.cell? ⟨w.heap.size,5,none⟩=some Yy:=λq=>(ZF.o _ (Tp.o q)).2.2.2.2.2.1
  have Ih:∀q:CW Inv,w.heap.size<q.w.heap.size:=λq=>(ZF.o _ (Tp.o q)).2.2.2.2.2.2
  have q6:∀q:CW Inv,q.w.cell? ⟨g,off+(p),none⟩=some (Z9 x):=λq=>((Wa.o q).cell (p:=⟨g,off+(p),none⟩) XB).trans Q0
  have W6:=bx (Tr _ (VQ wr 1));clear Z4 Y5 YX Rk Tr Q0 VX EG;rw[show((a+1:Nat):Int)=(a:Int)+1 by omega]at Xa;rw[Ae.o]at qB
  cases qj with
  |true=>
   have Te:=bx (show T.cH c xs a (k+1)=true by rw[Cv.o,<-vm.o,Bool.true_or]);clear Xa;go_wp2_with fail;refine OL Inv (by kernel_rfl) (by kernel_rfl) W6.o (λXq=>?_)
   repeat (any_goals (first|go_big_quiet_step (fail)|quiet_step (fail)))
   refine wpQuiet_nil ?_;rintro Xi ⟨q7,rfl⟩;have XM:=bx (Tp.o q7);clear q0 q1 q2 q3 q4 q5 Ih q6 Xq
   go_wp2
   go_roundw
   ·exact⟨k+1,BL,by have Vz:=WI.o;go_num,by rw[Te.o],XM⟩
   have Vz:=WI.o;simp[intOf];omega
  |false=>
   cases ZJ:T.cased c x with
   |false=>
    rw[ZJ]at Pv;have Te:=bx (show T.cH c xs a (k+1)=false by rw[Cv.o,<-vm.o,M7.o,ZJ,Bool.false_or,Bool.false_and]);clear ZJ Xa;have U4:=bx (λq:CW Inv=>Li (Pv.o q.w (Ml.o q)) rfl (PT.o q));go_wp2_with fail;refine OL Inv (by kernel_rfl) (by kernel_rfl) W6.o (λXq=>?_)
    repeat (any_goals (first|go_big_quiet_step ((go_at_call 160;exact U4.o _))|quiet_step ((go_at_call 160;exact U4.o _))))
    refine wpQuiet_nil ?_;rintro Xi ⟨q7,rfl⟩;have XM:=bx (Tp.o q7);clear q0 q1 q2 q3 q4 q5 Ih q6 Xq
    go_wp2
    go_roundw
    ·exact⟨k+1,BL,by have Vz:=WI.o;go_num,by rw[Te.o],XM⟩
    have Vz:=WI.o;simp[intOf];omega
   |true=>
    rw[ZJ]at Pv;have Te:=bx (show T.cH c xs a (k+1)=ig by rw[Cv.o,<-vm.o,M7.o,ZJ,qB.o,Bool.false_or,Bool.true_and]);clear ZJ;have U4:=bx (λq:CW Inv=>Li (Pv.o q.w (Ml.o q)) rfl (PT.o q));have LO:=bx (λq:CW Inv=>Li (oD.o q.w (Ml.o q)) rfl (PT.o q));go_wp2_with fail;refine OL Inv (by kernel_rfl) (by kernel_rfl) W6.o (λXq=>?_)
    iterate 9 (first|go_big_quiet_step ((go_at_call 160;exact U4.o _))|quiet_step ((go_at_call 160;exact U4.o _)))
    clear U4
    repeat (any_goals (first|go_big_quiet_step ((go_at_call 270;exact LO.o _))|quiet_step ((go_at_call 270;exact LO.o _))))
    refine wpQuiet_nil ?_;rintro Xi ⟨q7,rfl⟩;have XM:=bx (Tp.o q7);clear q0 q1 q2 q3 q4 q5 Ih q6 Xq
    go_wp2
    go_roundw
    ·exact⟨k+1,BL,by have Vz:=WI.o;go_num,by rw[Te.o],XM⟩
    have Vz:=WI.o;simp[intOf];omega
 have Y9:=bx (show qj=T.dI c (xs.drop (a+1)) by rw[vm.o,<-T.avL,ZE.o,show k=N-(a+1) by omega]);have HB:decide ((p:Int)<(N:Int))=false:=Yp (by omega);clear hp;have Yt:=bx (show T.final c xs a=(x9&&!qj) by rw[T.aty,xk.o,Y9.o]);have TZ:=bx (bt ZR.o Z8.o);clear vm Y9 xk
 cases x9 with
 |true=>
  go_wp2
  go_ret
  exact⟨YG (by rw[Yt.o];rfl),TZ.o⟩
 |false=>
  go_wp2
  go_ret
  exact⟨YG (by rw[Yt.o];rfl),TZ.o⟩
theorem acK(v Ul:Value)(c:T.Cs)(xs:List Int)(a:Nat)(w:World)(Z2:Sq w v c)(Z0:T.Small c)(ZL:T.az 600 c=true)(hl:Y6 w Ul xs)(Z4:∀x∈xs,U.right x=true)(ZY:xs.length<=100000)(YZ:a<xs.length):
  Calls prog 159 #[v,Ul,Z9 (a:Int)] w λe w'=>(∃Zy,e=.returned Zy/\Y6 w' Zy (T.small c xs a)/\∀g,Zy.ownBlock=some g->w.heap.size<=g/\g<w'.heap.size)/\Z6 w w':=by
 have VO:=bx (λW(h:Z6 w W)=>Z2.below h);obtain⟨Zc,YI,ci,YQ,Yw,Yy,rfl,Z7,Z5,ZS,ZG,Zi,Yu⟩:=Z2;obtain⟨V,ZO⟩:∃V,V=w.alloc (.cells #[Zc,YI,ci,YQ,Yw,Yy] 36):=⟨_,rfl⟩
 have ZR:=bx (aB ZO);have Ze:=bx (aK ZO);have ZF:=bx (λW(h:Z6 V W)=>Ze.o.d6 h);have ZN:=bx ZO;have Tn:=bx (λW(h:Z6 w W)=>ami _ Ul c xs a W (VO.o W h) ZL (hl.below h) Z4 ZY YZ);have TZ:=bx (λW(h:Z6 w W)=>λ(x:Int)=>aag Zc c.lo x W (Z7.below h) Z0.lo Z0.loA);have W4:=bx (λW(h:Z6 w W)=>hl.below h);obtain⟨Yr,lc,rfl⟩:=hl.slice;obtain⟨N,Zp⟩:∃N,xs.length=N:=⟨_,rfl⟩
 rw[Zp]at W4 Tn ZY YZ⊢;have ZE:=bx Zp;obtain⟨x,Z4⟩:=Yg xs a (by rw[ZE.o];omega);obtain⟨g,off,XV,Y5,XL,Yi,XB,YX⟩:=(W4.o V ZR.o).get (by rintro rfl;simp at Z4);rw[ZE.o]at Y5 XL;obtain⟨rfl,rfl⟩:=XN Y5;have Wt:=bx (λW(h:Z6 V W)=>show ZQ W g (off+a)=some (Z9 x)from(h.cell (p:=⟨g,off+a,none⟩) XB).trans (YX a x Z4));have TZ:=bx (λW(h:Z6 w W)=>TZ.o W h x);have M7:=bx (show xs.getD a 0=x by rw[Rl,Z4,OT]);have H0:=bx (show T.small c xs a=if(x==931&&T.final c xs a)=true then[962]else T.becomes c.lo x by unfold T.small;rw[M7.o]);unfold maxLen at Yi;clear Z7 Z5 ZS ZG Zi Yu Z0 ZL ZO hl Zp Z4 Y5 YX;obtain⟨Zd,Zx,Zr,Zk,Zl,Zg,YS⟩:=ZF.o V YU;have Ij:=Wt.o V YU
 go_in
 go_upto_region 1 with(fail)
 rw[<-ZN.o]
 by_cases WK:x=931
 ·have HB:(x==931)=true:=by rw[Lz];exact WK
  have NP:=bx (show T.small c xs a=if T.final c xs a=true then[962]else T.becomes c.lo x by rw[H0.o,HB,Bool.true_and]);generalize T.final c xs a=fb at Tn NP;clear WK
  cases fb with
  |true=>
   have Xe:=bx (show T.small c xs a=[962] by rw[NP.o,Y0 rfl]);go_wp2_with fail;refine X7 (Tn.o _ ZR.o) ZR.o λZV ZW=>?_
   have YE:=bx (rS ZV 962 3);have Zt:=bx (ZW.o.trans ((Xl ZV (.cells #[Z9 962] 3)).mono ZW.o.size));have Wy:=bx ZW.o.size;clear Zd Zx Zr Zk Zl Zg YS Ij
   go_wp2
   go_ret
   exact⟨⟨_,rfl,by rw[Xe.o];exact YE.o,λq Zs=>by simp[Value.ownBlock]at Zs;subst Zs;exact⟨Wy.o,by simp⟩⟩,Zt.o⟩
  |false=>
   have Xe:=bx (show T.small c xs a=T.becomes c.lo x by rw[NP.o,Y4 (by simp)]);go_wp2_with fail;refine Y3 (Tn.o _ ZR.o) λZV ZZ=>?_
   have ZW:=Zw ZR ZZ;have ahr:=Wt.o ZV ZZ;clear Zd Zx Zr Zk Zl Zg YS Ij;obtain⟨Zd,Zx,Zr,Zk,Zl,Zg,YS⟩:=ZF.o ZV ZZ;have Ij:=ahr;clear ZZ ahr Zx Zr Zk Zl Zg;have W6:=bx (show Z6 ZV ZV.drew from VQ ZV 1);have Y9:=bx (show Z6 w ZV.drew from bt ZW.o W6.o);have YF:=bx (show ZV.drew.cell? ⟨w.heap.size,0,none⟩=some Zc/\ZV.drew.cell? ⟨g,off+a,none⟩=some (Z9 x)from⟨Zd,Ij⟩);have JW:=bx (TZ.o ZV.drew Y9.o);go_wp2_with fail;refine Vv 6 (λW=>ZQ W w.heap.size 0=some Zc/\ZQ W g (off+a)=some (Z9 x)) (by kernel_rfl) ?_;generalize ZV.drew=Yl at W6 Y9 YF JW⊢;clear Zd Ij YS;refine Vp [0,1,2,3,4,5] ?_
   iterate 6 (refine Vq ?_ rfl YF.o ?_ ?_;rotate_left;·rintro w ⟨q1,q2⟩;go_simp;try with_reducible rfl)
   refine Vr ?_;refine Y1 6 rfl λY7 ZX=>?_
   go_simp;refine JW.o.mono ?_;rintro e Xi ⟨⟨O3,rfl,FR,vq⟩,Rh⟩;have XM:=Zw Y9 Rh;have zd:=bx FR;have B9:=bx vq;have Wy:=bx Y9.o.size;clear FR vq Rh;refine ZX.out _ _ (λh=>by cases h) ?_;clear ZX Y7;refine Y1 7 rfl λY7 ZX=>?_
   go_simp;refine ZX.out _ _ (λh=>by cases h) ?_;clear ZX Y7;refine kD ?_ _
   go_wp2
   go_ret
   exact⟨⟨_,rfl,by rw[Xe.o];exact zd.o,λq Zs=>⟨XJ Wy.o (B9.o q Zs).1,(B9.o q Zs).2⟩⟩,XM.o⟩
 have HB:(x==931)=false:=by rw[Sz];exact WK
 have Xe:=bx (show T.small c xs a=T.becomes c.lo x by rw[H0.o,HB,Bool.false_and,Y4 (by simp)]);clear WK Zx Zr Zk Zl Zg;have W6:=bx (show Z6 V V.drew from VQ V 1);have Y9:=bx (show Z6 w V.drew from bt ZR.o W6.o);have YF:=bx (show V.drew.cell? ⟨w.heap.size,0,none⟩=some Zc/\V.drew.cell? ⟨g,off+a,none⟩=some (Z9 x)from⟨Zd,Ij⟩);have JW:=bx (TZ.o V.drew Y9.o);go_wp2_with fail;refine Vv 6 (λW=>ZQ W w.heap.size 0=some Zc/\ZQ W g (off+a)=some (Z9 x)) (by kernel_rfl) ?_;generalize V.drew=Yl at W6 Y9 YF JW⊢;clear Zd Ij YS;refine Vp [0,1,2,3,4,5] ?_
 iterate 6 (refine Vq ?_ rfl YF.o ?_ ?_;rotate_left;·rintro w ⟨q1,q2⟩;go_simp;try with_reducible rfl)
 refine Vr ?_;refine Y1 6 rfl λY7 ZX=>?_
 go_simp;refine JW.o.mono ?_;rintro e Xi ⟨⟨O3,rfl,FR,vq⟩,Rh⟩;have XM:=Zw Y9 Rh;have zd:=bx FR;have B9:=bx vq;have Wy:=bx Y9.o.size;clear FR vq Rh;refine ZX.out _ _ (λh=>by cases h) ?_;clear ZX Y7;refine Y1 7 rfl λY7 ZX=>?_
 go_simp;refine ZX.out _ _ (λh=>by cases h) ?_;clear ZX Y7;refine kD ?_ _
 go_wp2
 go_ret
 exact⟨⟨_,rfl,by rw[Xe.o];exact zd.o,λq Zs=>⟨XJ Wy.o (B9.o q Zs).1,(B9.o q Zs).2⟩⟩,XM.o⟩
theorem awe(v Ul:Value)(c:T.Cs)(xs:List Int)(a b:Nat)(w:World)(Z2:Sq w v c)(Z0:T.Small c)(ZL:T.az 600 c=true)(hl:Y6 w Ul xs)(Z4:∀x∈xs,U.right x=true)(ZY:xs.length<=100000)(QK:a<=b)(Z8:b<=xs.length):
  Calls prog 87 #[v,Ul,Z9 (a:Int),Z9 (b:Int)] w λe w'=>(∃Zy,e=.returned Zy/\Y6 w' Zy (T.word c xs a b)/\∀g,Zy.ownBlock=some g->w.heap.size<=g/\g<w'.heap.size)/\Z6 w w':=by
 have VO:=bx (λW(h:Z6 w W)=>Z2.below h);obtain⟨Zc,YI,ci,YQ,Yw,Yy,rfl,Z7,Z5,ZS,ZG,Zi,Yu⟩:=Z2;obtain⟨V,ZO⟩:∃V,V=w.alloc (.cells #[Zc,YI,ci,YQ,Yw,Yy] 36):=⟨_,rfl⟩
 have ZR:=bx (aB ZO);have Ze:=bx (aK ZO);have ZF:=bx (λW(h:Z6 V W)=>Ze.o.d6 h);have ZN:=bx ZO;have MW:=bx (λk(Z3:a+k<=xs.length)=>(T.eP ZL Z4 a k Z3).1);have R1:=bx (λW(h:Z6 w W)(i:Nat)(hi:i<xs.length)=>acK _ Ul c xs i W (VO.o W h) Z0 ZL (hl.below h) Z4 ZY hi);have NP:=bx (λ(i:Nat)(hi:i<xs.length)=>(T.dz ZL Z4 hi).1);have TZ:=bx (λW(h:Z6 w W)=>λ(x:Int)=>aag YI c.ti x W (Z5.below h) Z0.ti Z0.tiA);have uI:=bx (λ(x:Int)(On:U.right x=true)=>(T.dK (T.dR ZL).2 On).1);have pS:=ZL;rw[yu]at pS;simp only[Vm]at pS;have Pv:=bx (λ(x:Int)(On:U.right x=true) W (h:Z6 w W)=>show Calls prog 160 #[.agg #[ci,YQ],Z9 x] W λe w'=>e=.returned (.bool (T.cased c x))/\Z6 W w' by
  obtain⟨Ev,rfl,MD⟩:=DV On;exact oA (.agg #[ci,YQ]) c.ca Ev W ⟨_,_,rfl,ZS.below h,ZG.below h⟩ pS.1.2 MD)
 have W4:=bx (λW(h:Z6 w W)=>hl.below h);have OA:=bx Z4;obtain⟨Yr,lc,rfl⟩:=hl.slice;obtain⟨N,Zp⟩:∃N,xs.length=N:=⟨_,rfl⟩
 rw[Zp]at W4 R1 MW NP ZY Z8⊢;have ZE:=bx Zp;obtain⟨L,WE⟩:∃L,b=a+L:=⟨b-a,by omega⟩
 have Q9:=bx (show T.bA c xs a L=T.word c xs a b by rw[<-T.fB,WE,Nat.add_sub_cancel_left]);have XW:=bx WE;have afU:L<=100000:=by omega
 have XI:=bx (show Sep (RO V.heap.size V Z1 (T.bA c xs a 0)) V from(Sep.start V).aH V.heap.size 1 3);have KJ:=bx ZR.o.size;clear Z7 Z5 ZS ZG Zi Yu Z0 ZL pS ZO hl Z4 Zp QK WE;obtain⟨Zd,Zx,Zr,Zk,Zl,Zg,YS⟩:=ZF.o V YU
 go_in
 go_upto_region 1 with(fail)
 rw[<-ZN.o];clear Zd Zx Zr Zk Zl Zg YS;go_wp2_with fail
 go_loopw[9,10,11] (λYd mt i wr=>∃k:Nat,k<=L/\i=Z9 ((a:Int)+k)/\mt=.bool (T.bE c xs a k)/\Box (Sep (RO V.heap.size V Yd (T.bA c xs a k)) wr)) (λ_ _ i _=>b-(intOf i).toNat)
 ·exact⟨0,by omega,by go_num,rfl,XI⟩
 obtain⟨k,Z3,rfl,rfl,YC⟩:=hrel;have Wj:=bx (G5 YC.o);have YA:=bx (bt ZR.o Wj.o);obtain⟨mt,j8⟩:∃mt,mt=T.bE c xs a k:=⟨_,rfl⟩
 rw[<-j8];have AW:=bx j8;clear j8;obtain⟨Yc,EK⟩:∃Yc,Yc=T.bA c xs a k:=⟨_,rfl⟩
 rw[<-EK]at YC;have JF:=bx EK;have UU:Yc.length<=3*k:=by rw[EK];exact MW.o k (by have:=XW.o;omega)
 obtain⟨jt,KE⟩:∃jt,Yc.length=jt:=⟨_,rfl⟩
 have nK:=bx KE;rw[KE]at UU;clear EK KE;obtain⟨p,hp⟩:∃p:Nat,p=a+k:=⟨_,rfl⟩
 rw[show(a:Int)+k=(p:Int) by omega];have WI:=bx hp;have Ur:=XW.o
 by_cases Zu:k<L
 ·have DU:p<N:=by omega
  have NC:p<b:=by omega
  have xO:decide ((p:Int)<(b:Int))=true:=Yh (by omega);clear Ur;obtain⟨x,Z4⟩:=Yg xs p (by rw[ZE.o];omega);obtain⟨g,off,XV,Y5,XL,Yi,XB,YX⟩:=(W4.o V ZR.o).get (by rintro rfl;simp at Z4);rw[ZE.o]at Y5 XL;obtain⟨rfl,rfl⟩:=XN Y5;have Wt:=bx (λW(h:Z6 V W)=>show ZQ W g (off+p)=some (Z9 x)from(h.cell (p:=⟨g,off+p,none⟩) XB).trans (YX p x Z4));have M7:=bx (show xs.getD (a+k) 0=x by rw[<-hp,Rl,Z4,OT]);have Lr:=bx (OA.o x (Xh Z4));have TR:=bx (T.eh c xs a k);have Nu:=bx (show T.bA c xs a (k+1)=Yc++(if mt=true then T.small c xs p else if T.cased c x=true then T.becomes c.ti x else[x]) by simp only[T.bA];rw[M7.o,<-JF.o,<-AW.o,<-hp]);unfold maxLen at Yi;clear Z4 Y5 YX;obtain⟨Zd,Zx,Zr,Zk,Zl,Zg,YS⟩:=ZF.o wr Wj.o;have Ij:=Wt.o wr Wj.o
  cases mt with
  |true=>
   have RB:=bx (show T.bE c xs a (k+1)=true by rw[TR.o,<-AW.o,Bool.true_or]);have QL:=bx (show T.bA c xs a (k+1)=Yc++T.small c xs p by rw[Nu.o,Y0 rfl]);have lp:=bx (R1.o wr YA.o p DU);have Xa:=NP.o p DU;clear Ij hp;go_wp2_with fail;refine lp.o.mono ?_;rintro e ZV ⟨⟨v1,rfl,WV,MH⟩,ZZ⟩;have V0:=bx (YC.o.below ZZ);have UH:=bx (Fo WV);generalize T.small c xs p=sm at UH QL Xa WV;obtain⟨TO,Rs⟩:∃TO,sm.length=TO:=⟨_,rfl⟩
   rw[Rs]at UH Xa;have NX:=bx Rs;have WP:V.heap.size<=ZV.heap.size:=by have:=(G5 V0.o).size;omega
   have Q7:=bx (show Yc.length+TO<=1000000000 by rw[nK.o];omega);clear ZZ WV MH Zd Zx Zr Zk Zl Zg YS Rs;go_wp2_with (at_builtin;refine IE rfl _ _ 22 rfl Iw (by decide) V0.o 0 rfl rfl rfl UH.o (by rw[X4,Nat.mul_one,NX.o]) (by intro z ZY;obtain⟨q,-,rfl⟩:=SL.1 ZY;rfl) Q7.o (by omega) WP ?_;rintro O3 Xi Wl)
   have S6:=bx (DQ Wl (by rw[NX.o]) QL.o);clear Wl WP
   go_wp2
   go_roundw
   ·exact⟨k+1,by omega,by have Vz:=WI.o;go_num,by rw[RB.o],S6⟩
   simp[intOf];omega
  |false=>
   obtain⟨Inv,Rk,Tr⟩:∃Inv:World->Prop,(∀W,Inv W->Z6 wr W)/\(∀W,Z6 wr W->Inv W):=⟨_,λ_ h=>h,λ_ h=>h⟩
   have Wa:=bx (show∀q:CW Inv,Z6 wr q.w from λq=>Rk _ q.h);have PT:=bx (show∀(q:CW Inv) w',Below q.w.heap.size q.w w'->Inv w' from λq w' h=>Tr _ ((Wa.o q).trans (h.mono (Wa.o q).size)));have Tp:=bx (λq:CW Inv=>Wj.o.trans ((Wa.o q).mono Wj.o.size));have Ml:=bx (λq:CW Inv=>ZR.o.trans ((Tp.o q).mono ZR.o.size));have q2:∀q:CW Inv,q.w.cell? ⟨w.heap.size,2,none⟩=some ci:=λq=>(ZF.o _ (Tp.o q)).2.2.1
   have q3:∀q:CW Inv,q.w.cell? ⟨w.heap.size,3,none⟩=some YQ:=λq=>(ZF.o _ (Tp.o q)).2.2.2.1
   have q6:∀q:CW Inv,q.w.cell? ⟨g,off+p,none⟩=some (Z9 x):=λq=>Wt.o _ (Tp.o q)
   have W6:=bx (Tr _ (VQ wr 1));have Pv:=bx (Pv.o x Lr.o);clear Ij hp Rk Tr Zd Zx Zr Zk Zl Zg YS
   cases ZJ:T.cased c x with
   |true=>
    rw[ZJ]at Pv;have RB:=bx (show T.bE c xs a (k+1)=true by rw[TR.o,<-AW.o,Bool.false_or,M7.o,ZJ]);have QL:=bx (show T.bA c xs a (k+1)=Yc++T.becomes c.ti x by rw[Nu.o,Y4 (by simp),Y0 ZJ]);clear ZJ;have U4:=bx (λq:CW Inv=>Li (Pv.o q.w (Ml.o q)) rfl (PT.o q));go_wp2_with fail;refine OL Inv (by kernel_rfl) (by kernel_rfl) W6.o (λXq=>?_)
    repeat (any_goals (first|go_big_quiet_step ((go_at_call 160;exact U4.o _))|quiet_step ((go_at_call 160;exact U4.o _))))
    refine wpQuiet_nil ?_;rintro Xi ⟨q7,rfl⟩;have XM:=bx (Tp.o q7);have IG:=bx (Ml.o q7);have Wb:=bx (YC.o.below (Wa.o q7));generalize q7.w=Xi at XM IG Wb⊢;clear q2 q3 q6 Xq;have nB:=bx (show Z6 Xi Xi.drew from VQ Xi 1);have Y9:=bx (show Z6 w Xi.drew from bt IG.o nB.o);have vg:=bx (show Z6 V Xi.drew from bt XM.o nB.o);have YF:=bx (show Xi.drew.cell? ⟨w.heap.size,1,none⟩=some YI/\Xi.drew.cell? ⟨g,off+p,none⟩=some (Z9 x)from⟨(ZF.o _ vg.o).2.1,Wt.o _ vg.o⟩);have Xm:=bx (Wb.o.drewN 1);have Xm:=bx (show Sep (RO V.heap.size V u9 Yc) Xi.drew from Xm.o);have JW:=bx (TZ.o Xi.drew Y9.o x);have aez:=uI.o x Lr.o;go_wp2_with fail;refine Vv 8 (λW=>ZQ W w.heap.size 1=some YI/\ZQ W g (off+p)=some (Z9 x)) (by kernel_rfl) ?_;generalize Xi.drew=Yl at nB Y9 vg YF Xm JW⊢;refine Vp [0,1,2,3,4,5,6] ?_
    iterate 7 (refine Vq ?_ rfl YF.o ?_ ?_;rotate_left;·rintro w ⟨q1,q2⟩;go_simp;try with_reducible rfl)
    refine Vr ?_;refine Y1 7 rfl λY7 ZX=>?_
    go_simp;refine JW.o.mono ?_;rintro e YK ⟨⟨v5,rfl,QH,-⟩,X0⟩;have XO:=bx (Xm.o.below X0);have Pn:=bx (Fo QH);generalize T.becomes c.ti x=sm at Pn QL aez QH;obtain⟨TO,Rs⟩:∃TO,sm.length=TO:=⟨_,rfl⟩
    rw[Rs]at Pn aez;have NX:=bx Rs;have WP:V.heap.size<=YK.heap.size:=XJ vg.o.size X0.size;have Q7:=bx (show Yc.length+TO<=1000000000 by rw[nK.o];omega);have X6:=Zw vg X0;have aiq:=bx (show YK.cell? ⟨w.heap.size,1,none⟩=some YI/\YK.cell? ⟨g,off+p,none⟩=some (Z9 x)from⟨(ZF.o _ X6.o).2.1,Wt.o _ X6.o⟩);clear X0 QH Rs;refine ZX.out _ _ (λ_=>aiq.o) ?_;clear ZX Y7;refine Y1 8 rfl λY7 ZX=>?_
    refine Fi rfl _ _ 22 rfl Iw (by decide) XO.o 0 rfl (by kernel_rfl) (by kernel_rfl) (m:=TO) (cs:=sm.map (Value.int .i64)) Pn.o (by rw[X4,Nat.mul_one,NX.o]) (by intro z ZY;obtain⟨q,-,rfl⟩:=SL.1 ZY;rfl) Q7.o (by omega) WP ?_;rintro v6 XA WC;refine ZX.out _ _ (λh=>by cases h) ?_;clear ZX Y7;refine Y1 9 rfl λY7 ZX=>?_
    go_simp;refine ZX.out _ _ (λh=>by cases h) ?_;clear ZX Y7;refine kD ?_ _;have Qx:=bx (DQ WC (by rw[NX.o]) QL.o);clear WC
    go_wp2
    go_roundw
    ·exact⟨k+1,by omega,by have Vz:=WI.o;go_num,by rw[RB.o],Qx⟩
    have Vz:=WI.o;simp[intOf];omega
   |false=>
    rw[ZJ]at Pv;have RB:=bx (show T.bE c xs a (k+1)=false by rw[TR.o,<-AW.o,Bool.false_or,M7.o,ZJ]);have QL:=bx (show T.bA c xs a (k+1)=Yc++[x] by rw[Nu.o,Y4 (by simp),Y4 (by rw[ZJ];simp)]);clear ZJ;have U4:=bx (λq:CW Inv=>Li (Pv.o q.w (Ml.o q)) rfl (PT.o q));go_wp2_with fail;refine OL Inv (by kernel_rfl) (by kernel_rfl) W6.o (λXq=>?_)
    repeat (any_goals (first|go_big_quiet_step ((go_at_call 160;exact U4.o _))|quiet_step ((go_at_call 160;exact U4.o _))))
    refine wpQuiet_nil ?_;rintro Xi ⟨q7,rfl⟩;have XM:=bx (Tp.o q7);have IG:=bx (Ml.o q7);have Wb:=bx (YC.o.below (Wa.o q7));generalize q7.w=Xi at XM IG Wb⊢;clear q2 q3 q6 Xq;have Ij:=Wt.o Xi XM.o;have Q7:=bx (show Yc.length<=1000000000 by rw[nK.o];omega);have WP:V.heap.size<=Xi.heap.size:=XM.o.size;go_wp2_with (at_builtin;refine PC (u:=Z9 x) rfl _ _ 22 rfl OJ Wb.o 0 rfl rfl rfl rfl Q7.o (by omega) WP ?_;rintro xo Va T4 -)
    have Qx:=bx (DQ (m:=[x]) T4 (by simp) QL.o);clear T4 WP
    go_wp2
    go_roundw
    ·exact⟨k+1,by omega,by have Vz:=WI.o;go_num,by rw[RB.o],Qx⟩
    have Vz:=WI.o;simp[intOf];omega
 obtain rfl:L=k:=by omega
 have NC:p=b:=by omega
 clear Ur;rw[NC];clear NC;rw[JF.o,Q9.o]at YC;obtain⟨UW,hF⟩:=DD YC.o;have YE:=bx UW;have Yt:=bx hF;clear UW hF hp
 go_wp2
 go_ret
 exact⟨⟨_,rfl,YE.o,λq Zs=>⟨XJ KJ.o (Yt.o q Zs).1,(Yt.o q Zs).2⟩⟩,YA.o⟩
def T.bX(c:T.Cs)(xs:List Int):List Int:=if T.wrong c xs=0 then T.lower c xs else[]
theorem amt(v Ul:Value)(c:T.Cs)(xs:List Int)(w:World)(Z2:Sq w v c)(Z0:T.Small c)(hl:Y6 w Ul xs)(ZY:xs.length<=100000):
  Calls prog 90 #[v,Ul] w λe w'=>(∃Zy,e=.returned (.tuple #[Zy,Z9 (T.wrong c xs)])/\Y6 w' Zy (T.bX c xs))/\Z6 w w':=by
 have VO:=bx (λW(h:Z6 w W)=>Z2.below h);obtain⟨Zc,YI,ci,YQ,Yw,Yy,rfl,Z7,Z5,ZS,ZG,Zi,Yu⟩:=Z2;obtain⟨V,ZO⟩:∃V,V=w.alloc (.cells #[Zc,YI,ci,YQ,Yw,Yy] 36):=⟨_,rfl⟩
 have ZR:=bx (aB ZO);have Ze:=bx (aK ZO);have ZF:=bx (λW(h:Z6 V W)=>Ze.o.d6 h);have ZN:=bx ZO;have W4:=bx (λW(h:Z6 w W)=>hl.below h);have DR:=bx (anY _ Ul c xs V (VO.o V ZR.o) Z0 (hl.below ZR.o) ZY);have R1:=bx (λ(ZL:T.az 600 c=true)(Z4:∀x∈xs,U.right x=true) W (h:Z6 w W) (n:Nat) (ZP:n<xs.length)=>acK _ Ul c xs n W (VO.o W h) Z0 ZL (hl.below h) Z4 ZY ZP);have NP:=bx (λ(ZL:T.az 600 c=true)(Z4:∀x∈xs,U.right x=true)(i:Nat)(hi:i<xs.length)=>(T.dz ZL Z4 hi).1);obtain⟨Yr,lc,rfl⟩:=hl.slice;obtain⟨N,Zp⟩:∃N,xs.length=N:=⟨_,rfl⟩
 rw[Zp]at R1 NP W4 ZY⊢;have ZE:=bx Zp;rw[Zp]at DR;clear Z7 Z5 ZS ZG Zi Yu Z0 ZO hl;clear Zp;obtain⟨Zd,Zx,Zr,Zk,Zl,Zg,YS⟩:=ZF.o V YU
 go_in
 go_upto_region 1 with(fail)
 rw[<-ZN.o];go_wp2_with fail;refine Y3 DR.o λZV ZZ=>?_
 have ZW:=Zw ZR ZZ;have VD:=bx ZZ;clear Zd Zx Zr Zk Zl Zg YS;obtain⟨Zd,Zx,Zr,Zk,Zl,Zg,YS⟩:=ZF.o ZV ZZ;clear ZZ
 by_cases hw:T.wrong c xs=0
 ·obtain⟨E8,yz,DZ⟩:=T.e6 hw;have RP:=bx (show T.bX c xs=T.lower c xs by unfold T.bX;rw[Y0 hw]);have Ag:=bx hw;rw[hw];have R1:=bx (R1.o E8 DZ);have NP:=bx (NP.o E8 DZ);have XI:=bx (show Sep (RO ZV.heap.size ZV Z1 ((List.range 0).flatMap (T.small c xs))) ZV from(Sep.start ZV).aH ZV.heap.size 1 3);clear hw E8 yz DZ Zd Zx Zr Zk Zl Zg YS;go_wp2_with fail
  go_loopw[7,8] (λYd i wr=>∃k:Nat,k<=N/\i=Z9 k/\Box (((List.range k).flatMap (T.small c xs)).length<=3*k)/\Box (Sep (RO ZV.heap.size ZV Yd ((List.range k).flatMap (T.small c xs))) wr)) (λ_ i _=>N-(intOf i).toNat)
  ·exact⟨0,by omega,rfl,⟨by simp⟩,XI⟩
  obtain⟨k,Z3,rfl,UU,YC⟩:=hrel;have Wj:=bx (G5 YC.o);have hd:=bx (bt VD.o Wj.o);have YA:=bx (bt ZR.o hd.o)
  by_cases Zu:k<N
  ·obtain⟨Yc,EK⟩:∃Yc,Yc=(List.range k).flatMap (T.small c xs):=⟨_,rfl⟩
   rw[<-EK]at YC UU;have QL:=bx (show(List.range (k+1)).flatMap (T.small c xs)=Yc++T.small c xs k by rw[T.ep,EK]);have lp:=bx (R1.o wr YA.o k Zu);have Xa:=NP.o k Zu;clear EK;obtain⟨Zd,Zx,Zr,Zk,Zl,Zg,YS⟩:=ZF.o wr hd.o;go_wp2_with fail;refine lp.o.mono ?_;rintro e ZB ⟨⟨v2,rfl,SN,-⟩,Zz⟩;have V1:=bx (YC.o.below Zz);have UA:=bx (Fo SN);generalize T.small c xs k=sm at UA QL Xa SN;obtain⟨TO,Rs⟩:∃TO,sm.length=TO:=⟨_,rfl⟩
   rw[Rs]at UA Xa;have NX:=bx Rs;have WP:ZV.heap.size<=ZB.heap.size:=by have:=(G5 V1.o).size;omega
   have Q7:=bx (show Yc.length+TO<=1000000000 by have:=UU.o;omega);have SH:=bx (show(Yc++sm).length<=3*(k+1) by rw[WR,Rs];have:=UU.o;omega);clear Zz SN Zd Zx Zr Zk Zl Zg YS Rs;go_wp2_with (at_builtin;refine IE rfl _ _ 22 rfl Iw (by decide) V1.o 0 rfl rfl rfl UA.o (by rw[X4,Nat.mul_one,NX.o]) (by intro z ZY;obtain⟨q,-,rfl⟩:=SL.1 ZY;rfl) Q7.o (by omega) WP ?_;rintro O3 Xi Wl)
   have S6:=bx (DQ Wl (by rw[NX.o]) QL.o);rw[<-QL.o]at SH;clear Wl WP
   go_wp2
   go_roundw
   ·exact⟨k+1,by omega,by go_num,SH,S6⟩
   simp[intOf];omega
  obtain rfl:k=N:=by omega
  have Q9:=bx (show(List.range k).flatMap (T.small c xs)=T.bX c xs by rw[RP.o];unfold T.lower;rw[ZE.o]);rw[Q9.o]at YC;have YE:=bx (DD YC.o).1
  go_wp2
  go_ret2
  exact⟨⟨_,OB rfl (PZ Ag.o.symm),YE.o⟩,YA.o⟩
 have NT:=bx (show T.bX c xs=[] by unfold T.bX;rw[Y4 hw]);obtain⟨r,ZT⟩:∃r,r=T.wrong c xs:=⟨_,rfl⟩
 have ZK:=bx ZT;rw[<-ZT]at hw⊢;clear ZT;have YP:(r != 0)=true:=by rw[En];exact hw
 clear hw
 go_wp2
 go_ret2
 exact⟨⟨_,OB rfl (PZ ZK.o),by rw[NT.o];exact .nil⟩,ZW.o⟩
section
open Go.Shelf
def T.ado(g:Nat):Int:=if g=0 then 140 else if g=1 then 121 else if g=4 then 10 else 12
def T.en(e:Int):Nat:=if e=140 then 0 else if e=121 then 1 else if e=10 then 4 else 5
def acx:List Nat:=[0,1,4,5]
theorem aaO(A:Nat->Addr)(B:Nat)(g:Nat)(ZH:g∈acx)(w:World)(YN:E A B w):
  Calls prog 80 #[PE A g] w λe w'=>e=.returned (Z9 (T.ado g))/\w=w':=by
 have ZI:=YN.var 0 (by decide);have Z7:=YN.var 1 (by decide);have Z5:=YN.var 4 (by decide);have ZS:=YN.var 5 (by decide);have YE:=bx (λk(Z3:k∈yC)=>w2 YN g k (by revert g;decide) Z3);clear YN;unfold PE
 rcases T7.1 ZH with rfl|ZH
 ·go_in
  go_wp2_with fail;refine YW (YE.o 0 (by decide)) ?_
  go_wp2
  go_ret
  exact⟨rfl,rfl⟩
 rcases T7.1 ZH with rfl|ZH
 ·go_in
  go_wp2_with fail;refine YW (YE.o 0 (by decide)) ?_;go_wp2_with fail;refine YW (YE.o 1 (by decide)) ?_
  go_wp2
  go_ret
  exact⟨rfl,rfl⟩
 rcases T7.1 ZH with rfl|ZH
 ·go_in
  go_wp2_with fail;refine YW (YE.o 0 (by decide)) ?_;go_wp2_with fail;refine YW (YE.o 1 (by decide)) ?_;go_wp2_with fail;refine YW (YE.o 4 (by decide)) ?_
  go_wp2
  go_ret
  exact⟨rfl,rfl⟩
 obtain rfl:g=5:=by simpa using ZH
 go_in
 go_wp2_with fail;refine YW (YE.o 0 (by decide)) ?_;go_wp2_with fail;refine YW (YE.o 1 (by decide)) ?_;go_wp2_with fail;refine YW (YE.o 4 (by decide)) ?_;go_wp2_with fail;refine YW (YE.o 5 (by decide)) ?_
 go_wp2
 go_ret
 exact⟨rfl,rfl⟩
theorem awh(A:Nat->Addr)(B:Nat)(v Ul pv:Value)(c:T.Cs)(xs pl:List Int)(w:World)(Z2:Sq w v c)(Z0:T.Small c)(hl:Y6 w Ul xs)(ZY:xs.length<=100000)(hp:Y6 w pv pl)(_:pl.length<=100000)(YN:E A B w)(hB:B<=w.heap.size)(Xq:T.aN c xs pl≠0):
  Calls prog 79 #[v,Ul,pv] w λe w'=>e=.returned (.tuple #[.pointer none,PE A (T.en (T.aN c xs pl))])/\Z6 w w':=by
 have VO:=bx (λW(h:Z6 w W)=>Z2.below h);obtain⟨Zc,YI,ci,YQ,Yw,Yy,rfl,Z7,Z5,ZS,ZG,Zi,Yu⟩:=Z2;obtain⟨V,ZO⟩:∃V,V=w.alloc (.cells #[Zc,YI,ci,YQ,Yw,Yy] 36):=⟨_,rfl⟩
 have ZR:=bx (aB ZO);have Ze:=bx (aK ZO);have ZF:=bx (λW(h:Z6 V W)=>Ze.o.d6 h);have ZN:=bx ZO;have Vc:=bx (uC _ c V (VO.o V ZR.o) Z0);have Pq:=bx (λW(h:Z6 w W)=>adx Ul xs W (hl.below h) (by omega));have S0:=bx (λW(h:Z6 w W)=>hr pv pl W (hp.below h) (by omega));have US:=bx (λW(h:Z6 w W)=>show E A B W from YN.below (h.mono hB));have O6:=bx hl;obtain⟨Yr,lc,rfl⟩:=hl.slice;obtain⟨N,Zp⟩:∃N,xs.length=N:=⟨_,rfl⟩
 rw[Zp]at Pq ZY O6⊢;have ZE:=bx Zp;have LP:=bx ZY;clear Z7 Z5 ZS ZG Zi Yu Z0 ZO hl Zp hp YN;obtain⟨Zd,Zx,Zr,Zk,Zl,Zg,YS⟩:=ZF.o V YU
 by_cases Vo:T.az 600 c=false
 ·have Xy:=bx Vo;have Xn:=bx (show T.aN c xs pl=140 by unfold T.aN T.wrong;rw[Y0 Vo];rfl);clear Vo Xq
  go_in
  go_upto_region 1 with(fail)
  rw[<-ZN.o];have g0:=(US.o V ZR.o).var 0 (by decide);go_wp2_with fail;refine Nr 0 rfl ?_;go_wp2_with fail;refine Y3 Vc.o λZV ZZ=>?_
  rw[Xy.o];have ZW:=Zw ZR ZZ;have VD:=bx ZZ;clear ZZ g0 Zd Zx Zr Zk Zl Zg YS;have g0:=(US.o ZV ZW.o).var 0 (by decide);go_wp2_with fail
  go_step3
  refine⟨rfl,?_⟩;go_wp2_with fail;rw[Exit.noGoto_ret];go_ret2;exact⟨by rw[Xn.o];rfl,ZW.o⟩
 rw[Bool.not_eq_false]at Vo;have Xy:=bx Vo
 by_cases Z5:2000<N
 ·have HJ:T.wrong c xs=121:=by unfold T.wrong;rw[Vo,Y4 (by simp),ZE.o,Y0 Z5]
  have Xn:=bx (show T.aN c xs pl=121 by unfold T.aN;rw[HJ];rfl);clear HJ;have Zq:decide ((2000:Int)<(N:Int))=true:=Yh (by omega);clear Vo Xq Z5
  go_in
  go_upto_region 1 with(fail)
  rw[<-ZN.o];have g0:=(US.o V ZR.o).var 0 (by decide);go_wp2_with fail;refine Nr 0 rfl ?_;go_wp2_with fail;refine Y3 Vc.o λZV ZZ=>?_
  rw[Xy.o];have ZW:=Zw ZR ZZ;have VD:=bx ZZ;clear ZZ g0 Zd Zx Zr Zk Zl Zg YS;have g1:=(US.o ZV ZW.o).var 1 (by decide);go_wp2_with fail
  go_step3
  refine⟨rfl,?_⟩;go_wp2_with fail;rw[Exit.noGoto_ret];go_ret2;exact⟨by rw[Xn.o];rfl,ZW.o⟩
 have Zq:decide ((2000:Int)<(N:Int))=false:=Yp (by omega)
 by_cases ZS:xs.all U.right=false
 ·have HJ:T.wrong c xs=10:=by unfold T.wrong;rw[Vo,Y4 (by simp),ZE.o,Y4 Z5,Y0 ZS]
  have Xn:=bx (show T.aN c xs pl=10 by unfold T.aN;rw[HJ];rfl);clear HJ;have WO:=bx (show xs.any (λt=>!U.right t)=true by rw[h9,ZS];rfl);clear Vo Xq Z5 ZS
  go_in
  go_upto_region 1 with(fail)
  rw[<-ZN.o];have g0:=(US.o V ZR.o).var 0 (by decide);go_wp2_with fail;refine Nr 0 rfl ?_;go_wp2_with fail;refine Y3 Vc.o λZV ZZ=>?_
  rw[Xy.o];have ZW:=Zw ZR ZZ;have VD:=bx ZZ;clear ZZ g0 Zd Zx Zr Zk Zl Zg YS;have g1:=(US.o ZV ZW.o).var 1 (by decide);have g2:=(US.o ZV ZW.o).var 4 (by decide);go_wp2_with fail;refine YW (Pq.o ZV ZW.o) ?_;rw[WO.o];go_wp2_with fail
  go_step3
  refine⟨rfl,?_⟩;go_wp2_with fail;rw[Exit.noGoto_ret];go_ret2;exact⟨by rw[Xn.o];rfl,ZW.o⟩
 rw[Bool.not_eq_false]at ZS;have Ag:=bx (show T.wrong c xs=0 by unfold T.wrong;rw[Vo,Y4 (by simp),ZE.o,Y4 Z5,Y4 (by rw[ZS];simp)]);have Me:=bx (show T.cV pl=false by
  rw[Bool.eq_false_iff];intro h;refine Xq ?_;unfold T.aN;rw[Ag.o,Y4 (by simp),Y4 (by rw[h];simp)])
 have Xn:=bx (show T.aN c xs pl=12 by unfold T.aN;rw[Ag.o,Y4 (by simp),Y0 Me.o]);have WO:=bx (show xs.any (λt=>!U.right t)=false by rw[h9,ZS];rfl);clear Vo Xq Z5 ZS
 go_in
 go_upto_region 1 with(fail)
 rw[<-ZN.o];have g0:=(US.o V ZR.o).var 0 (by decide);go_wp2_with fail;refine Nr 0 rfl ?_;go_wp2_with fail;refine Y3 Vc.o λZV ZZ=>?_
 rw[Xy.o];have ZW:=Zw ZR ZZ;have VD:=bx ZZ;clear ZZ g0 Zd Zx Zr Zk Zl Zg YS;have g1:=(US.o ZV ZW.o).var 1 (by decide);have g2:=(US.o ZV ZW.o).var 4 (by decide);have g3:=(US.o ZV ZW.o).var 5 (by decide);go_wp2_with fail;refine YW (Pq.o ZV ZW.o) ?_;rw[WO.o];go_wp2_with fail;refine Y3 (S0.o ZV ZW.o) λ_ Zb=>?_
 rw[Me.o];have YY:=Zw ZW Zb;clear Zb g1 g2 g3;go_wp2_with fail
 go_step3
 refine⟨rfl,?_⟩;go_wp2_with fail;rw[Exit.noGoto_ret];go_ret2;exact⟨by rw[Xn.o];rfl,YY.o⟩
theorem T.akn(c:T.Cs)(xs:List Int):T.wrong c xs=140\/T.wrong c xs=121\/T.wrong c xs=10\/T.wrong c xs=0:=by
 unfold T.wrong
 split
 ·exact .inl rfl
 split
 ·exact .inr (.inl rfl)
 split
 ·exact .inr (.inr (.inl rfl))
 exact .inr (.inr (.inr rfl))
theorem T.as1(c:T.Cs)(xs pl:List Int):T.aN c xs pl=140\/T.aN c xs pl=121\/T.aN c xs pl=10\/T.aN c xs pl=12\/T.aN c xs pl=0:=by
 unfold T.aN
 split
 ·rename_i h
  rcases T.akn c xs with Z7|Z7|Z7|Z7
  ·exact .inl Z7
  ·exact .inr (.inl Z7)
  ·exact .inr (.inr (.inl Z7))
  exact absurd Z7 h
 split
 ·exact .inr (.inr (.inr (.inl rfl)))
 exact .inr (.inr (.inr (.inr rfl)))
theorem T.auT{c:T.Cs}{xs pl:List Int}(h:T.aN c xs pl≠0):T.en (T.aN c xs pl)∈acx/\T.ado (T.en (T.aN c xs pl))=T.aN c xs pl:=by
 rcases T.as1 c xs pl with Z7|Z7|Z7|Z7|Z7
 ·rw[Z7];decide
 ·rw[Z7];decide
 ·rw[Z7];decide
 ·rw[Z7];decide
 exact absurd Z7 h
theorem T.arc(c:T.Cs)(xs:List Int):T.aN c xs []=T.wrong c xs:=by
 unfold T.aN
 split
 ·rfl
 rename_i h
 rw[Y4 (by decide)];exact(Decidable.of_not_not h).symm
theorem ar2(A:Nat->Addr)(B:Nat)(v Ul:Value)(c:T.Cs)(xs:List Int)(w:World)(Z2:Sq w v c)(Z0:T.Small c)(hl:Y6 w Ul xs)(ZY:xs.length<=100000)(YN:E A B w)(hB:B<=w.heap.size):
  Calls prog 89 #[v,Ul] w λe w'=>(∃Zy,e=.returned (.tuple #[Zy,Z9 (T.wrong c xs)])/\Y6 w' Zy (T.bX c xs))/\Z6 w w':=by
 have VO:=bx (λW(h:Z6 w W)=>Z2.below h);obtain⟨Zc,YI,ci,YQ,Yw,Yy,rfl,Z7,Z5,ZS,ZG,Zi,Yu⟩:=Z2;obtain⟨V,ZO⟩:∃V,V=w.alloc (.cells #[Zc,YI,ci,YQ,Yw,Yy] 36):=⟨_,rfl⟩
 have ZR:=bx (aB ZO);have Ze:=bx (aK ZO);have ZF:=bx (λW(h:Z6 V W)=>Ze.o.d6 h);have ZN:=bx ZO;have Qu:=bx (λW(h:Z6 w W)=>show E A B W from YN.below (h.mono hB));have O6:=bx (λW(h:Z6 w W)=>hl.below h);obtain⟨Yr,lc,rfl⟩:=hl.slice;obtain⟨N,Zp⟩:∃N,xs.length=N:=⟨_,rfl⟩
 have ZE:=bx Zp;obtain⟨We,TA⟩:∃We,We=V:=⟨_,rfl⟩
 have Wj:=bx (show Below V.heap.size V We by rw[TA];exact Below.refl _ _);have Zt:=bx (bt ZR.o Wj.o);have VB:=bx (show Y6 We Z1 []from .nil);have iI:=bx TA;clear TA;have US:=bx (Qu.o We Zt.o);have IG:=bx (XJ hB Zt.o.size);have RE:=bx (O6.o We Zt.o);have UA:=bx (VO.o We Zt.o);have SE:=bx (λW(h:Sep [Pc.old We.heap.size We] W)=>show Sq W (.agg #[Zc,YI,ci,YQ,Yw,Yy]) c/\Y6 W (.slice Yr xs.length lc) xs from⟨UA.o.below (h.bel (n:=We.heap.size) (W0:=We) (by simp)),RE.o.below (h.bel (n:=We.heap.size) (W0:=We) (by simp))⟩);have Uk:=bx (λ(h:T.aN c xs []≠0)=>awh A B _ _ _ c xs [] We UA.o Z0 RE.o ZY VB.o (by simp) US.o IG.o h);have VJ:=bx (λ(h:T.aN c xs []=0)=>afa A B _ _ _ c xs [] We UA.o Z0 RE.o ZY VB.o (by simp) US.o IG.o h);have LP:=bx ZY;have NN:=bx Z0;have pd:=bx (λW(h:Z6 We W)=>show E A B W from US.o.below (h.mono IG.o));rw[Zp]at RE Uk VJ SE ZY⊢;have SG:=bx (show N<=100000 from ZY);clear Z7 Z5 ZS ZG Zi Yu Z0 ZO hl YN hB;have oa:=bx (T.arc c xs);clear Zp;obtain⟨Zd,Zx,Zr,Zk,Zl,Zg,YS⟩:=ZF.o V YU
 by_cases ZI:T.aN c xs []=0
 ·have X9:=bx (VJ.o ZI);rw[oa.o]at ZI;have Xn:=bx ZI;rw[iI.o]at X9 SE;clear ZI
  go_in
  go_upto_region 1 with(fail)
  rw[<-ZN.o];go_wp2_with fail;refine X9.o.mono ?_;rintro e ZV ⟨Ul,jz,lj,Dn,k6,k7,g,Zf,FA,rfl,V6⟩;obtain⟨rfl,rfl,rfl,rfl,rfl,rfl⟩:Zc=Ul/\YI=jz/\ci=lj/\YQ=Dn/\Yw=k6/\Yy=k7:=by simpa using FA
  obtain⟨E8,yz,DZ⟩:=T.e6 Xn.o;have R1:=bx (λ(k:Nat)(Z3:k<N) Yd Yc (Z7:Yc.length<=900000000) W (h:Sep (Sp V.heap.size g Zf Zc YI ci YQ Yw Yy (.slice Yr N lc) Yd Yc c [Pc.old V.heap.size V]) W)=>abH V.heap.size g Zf k Zc YI ci YQ Yw Yy (.slice Yr N lc) Yd Yc c NN.o E8 [Pc.old V.heap.size V] xs DZ LP.o (by rw[ZE.o];exact Z3) Z7 SE.o W (h.bel (n:=V.heap.size) (W0:=V) (by simp[Sp,Dy])).size h);have aiH:=bx (λk(Z3:k<=N)=>show((List.range k).flatMap (T.small c xs)).length<=3*k from by
   have key:∀k,k<=N->T.Fine k ((List.range k).flatMap (T.small c xs)):=by
    intro k
    induction k with
    |zero=>intro _;exact T.Fine.nil
    |succ k XZ=>
     intro Z3;rw[T.ep];exact(XZ (by omega)).append (T.dz E8 DZ (by rw[ZE.o];omega))
   exact(key k Z3).1)
  have RP:=bx (show T.bX c xs=(List.range N).flatMap (T.small c xs) by unfold T.bX T.lower;rw[Y0 Xn.o,ZE.o]);have V0:=bx (show Sep (Sp V.heap.size g Zf Zc YI ci YQ Yw Yy (.slice Yr N lc) (Z1) ((List.range 0).flatMap (T.small c xs)) c [Pc.old V.heap.size V]) ZV from V6);clear V6 FA E8 yz DZ Zd Zx Zr Zk Zl Zg YS;go_wp2_with fail
  go_loopw[8,21] (λ_ i wr=>∃k:Nat,k<=N/\i=Z9 k/\∃Yd,Box (Sep (Sp V.heap.size g Zf Zc YI ci YQ Yw Yy (.slice Yr N lc) Yd ((List.range k).flatMap (T.small c xs)) c [Pc.old V.heap.size V]) wr)) (λ_ i _=>N-(intOf i).toNat)
  ·exact⟨0,by omega,rfl,_,V0⟩
  obtain⟨k,Z3,rfl,Yd,YC⟩:=hrel
  by_cases Zu:k<N
  ·have Yq:=bx (R1.o k Zu Yd _ (by have:=aiH.o k Z3;omega) wr YC.o);have NN:=bx (T.ep c xs k);go_wp2_with fail;refine Yq.o.mono ?_;rintro e ZB ⟨⟨v2,rfl⟩,vP,OU⟩;rw[<-NN.o]at OU;have V1:=bx OU;clear OU
   go_wp2
   go_roundw
   ·exact⟨k+1,by omega,by go_num,vP,V1⟩
   simp[intOf];omega
  obtain rfl:k=N:=by omega
  have OU:=YC.o;rw[<-RP.o]at OU;have YY:=bx (ZR.o.trans ((OU.bel (n:=V.heap.size) (W0:=V) (by simp[Sp,Dy])).mono ZR.o.size));have YE:=bx (Y6.au (OU.row 0 rfl) rfl);have Tm:wr.cell? ⟨g,8,none⟩=some Yd:=((OU.blk 1 rfl).cell 8).trans rfl;have L6:=(OU.blk 1 rfl).lt;clear OU
  go_wp2
  go_ret2
  exact⟨⟨_,OB rfl (PZ Xn.o.symm),YE.o⟩,YY.o⟩
 have X9:=bx (Uk.o ZI);obtain⟨Zq,YP⟩:=T.auT ZI;rw[oa.o]at ZI;have Xn:=bx ZI;generalize T.en (T.aN c xs [])=Gd at X9 Zq YP;have HN:=bx (λW(h:Z6 We W)=>aaO A B Gd Zq W (pd.o W h));rw[oa.o]at YP;rw[iI.o]at X9 HN Zt;have CJ:=bx YP;have NT:=bx (show T.bX c xs=[] by unfold T.bX;rw[Y4 Xn.o]);clear ZI Zq YP
 go_in
 go_upto_region 1 with(fail)
 rw[<-ZN.o];go_wp2_with fail;refine Y3 X9.o λZV ZZ=>?_
 have YY:=Zw Zt ZZ;have HN:=bx (HN.o ZV ZZ);clear ZZ Zd Zx Zr Zk Zl Zg YS;unfold PE;go_wp2_with fail;unfold PE at HN;refine YW HN.o ?_
 go_wp2
 go_ret2
 exact⟨⟨_,OB rfl (PZ CJ.o),by rw[NT.o];exact .nil⟩,YY.o⟩
