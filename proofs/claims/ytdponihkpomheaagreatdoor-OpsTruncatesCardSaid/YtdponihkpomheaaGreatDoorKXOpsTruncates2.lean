/- Texts of this claim. -/
import Derived.Test.YtdponihkpomheaaGreatDoorK27
import Derived.Test.YtdponihkpomheaaGreatDoorKXOpsTruncates1

set_option maxRecDepth 100000
set_option maxHeartbeats 16000000
namespace Go.Proofs.YtdponihkpomheaaGreatDoor
open Go.RowKit
attribute[local go_sem] Oper.semAt_some
open Go.Proofs.Tryz
namespace C
open Go.Proofs.YtdponihkpomheaaGreatDoor
def marks(g:Ga)(ls:List (List Int)):List Int:=(List.range (ls.length+1)).map (aj g ls)
theorem dc(g:Ga)(ls:List (List Int)):(marks g ls).length=ls.length+1:=by unfold marks;rw[X4,Bz]
def cr(g:Ga)(s:List UInt8):List Int:=if aG g s=0 then marks g (ab g.t s)else[]
end C
theorem sR(v:Value)(g:C.Ga)(w:World)(Z2:Qy w v g)(Z0:Sr g.t)(hw:Pp g.w):
  Calls prog 120 #[v] w λe w'=>e=.returned (.bool (C.aA g))/\Z6 w w':=by
 obtain⟨Yk,ZP⟩:∃n,n=g.t.n:=⟨_,rfl⟩
 obtain⟨wd,XS⟩:∃b,b=g.w.wide:=⟨_,rfl⟩
 obtain⟨gk,V8⟩:∃k,k=g.k:=⟨_,rfl⟩
 obtain⟨pi,YM,Y2,Zo,Za,ZD,bv,rfl,Z7,Z5⟩:=Z2;rw[<-ZP]at Z7;rw[<-XS]at Z5;rw[<-ZP,<-XS,<-V8];obtain⟨V,ZO⟩:∃V,V=w.alloc (.cells #[Z9 Yk,pi,YM,Y2,Zo,Za,ZD,bv,.bool wd,Z9 gk] 57):=⟨_,rfl⟩
 have ZR:=bx (aB ZO);have Ze:=bx (aK ZO);have ZF:=bx (λW(h:Z6 V W)=>Ze.o.d10 h);have ZN:=bx ZO;have Su:=bx (vI _ g.t V (Z7.below ZR.o) Z0);have EW:=bx (λW(h:Z6 w W)=>lx _ g.w W (Z5.below h) hw);have Xt:=bx (show C.aA g=(Td g.t&&C.aS g.w&&decide (0<=gk)&&decide (gk<=2)) by rw[V8];rfl);generalize C.aA g=res at Xt⊢;generalize Td g.t=tb at Su Xt;generalize C.aS g.w=Mh at EW Xt;clear Z7 Z5 ZO Z0 hw ZP XS V8;obtain⟨Zd,Zx,Zr,Zk,Zl,Zg,XK,W9,W8,W7,YS⟩:=ZF.o V YU
 go_in
 go_upto_region 1 with(fail)
 rw[<-ZN.o];go_wp2_with fail;refine Y3 Su.o λZV ZZ=>?_
 have ZW:=Zw ZR ZZ;have UH:=bx ZZ;clear Zd Zx Zr Zk Zl Zg XK W9 W8 W7 YS ZZ
 cases tb with
 |false=>
  go_wp2
  go_ret
  exact⟨YG (by rw[Xt.o];rfl),ZW.o⟩
 |true=>
  obtain⟨Zd,Zx,Zr,Zk,Zl,Zg,XK,W9,W8,W7,YS⟩:=ZF.o ZV UH.o;go_wp2_with fail;refine Y3 (EW.o ZV ZW.o) λZB Zz=>?_
  have Zt:=Zw ZW Zz;have UA:=Zw UH Zz;clear Zd Zx Zr Zk Zl Zg XK W9 W8 W7 YS Zz
  cases Mh with
  |false=>
   go_wp2
   go_ret
   exact⟨YG (by rw[Xt.o];rfl),Zt.o⟩
  |true=>
   obtain⟨Zd,Zx,Zr,Zk,Zl,Zg,XK,W9,W8,W7,YS⟩:=ZF.o ZB UA.o
   by_cases Wz:0<=gk
   ·by_cases Zq:gk<=2
    ·have d0:=Yh Wz;have d1:=Yh Zq;have ZK:=bx (show res=true by rw[Xt.o,d0,d1];rfl);clear Wz Zq
     go_wp2
     go_ret
     exact⟨YG ZK.o.symm,Zt.o⟩
    have d0:=Yh Wz;have d1:=Yp Zq;have ZK:=bx (show res=false by rw[Xt.o,d0,d1];rfl);clear Wz Zq
    go_wp2
    go_ret
    exact⟨YG ZK.o.symm,Zt.o⟩
   have d0:=Yp Wz;have ZK:=bx (show res=false by rw[Xt.o,d0];rfl);clear Wz
   go_wp2
   go_ret
   exact⟨YG ZK.o.symm,Zt.o⟩
theorem lu(v:Value)(c:C.Wd)(r:Nat)(w:World)(Z2:WideAt w v c)(ZM:F.aE c.p=true)(ZT:r<=1114111):
  Calls prog 230 #[v,Z9 (r:Int)] w λe w'=>e=.returned (Z9 (C.aI c (r:Int)))/\Z6 w w':=by
 have St:=bx (show C.aI c (r:Int)=if F.says c.p (r:Int)=3\/F.says c.p (r:Int)=4\/(F.says c.p (r:Int)=1/\c.wide=true)then 2 else if F.says c.p (r:Int)=6 then 0 else 1 from rfl);obtain⟨ZD,bv,rfl,hi,Z8⟩:=Z2;obtain⟨wd,XS⟩:∃b,b=c.wide:=⟨_,rfl⟩
 rw[<-XS]at St⊢;obtain⟨V,ZO⟩:∃V,V=w.alloc (.cells #[ZD,bv,.bool wd] 33):=⟨_,rfl⟩
 have ZR:=bx (aB ZO);have Z3:Zv V w.heap.size 33 #[ZD,bv,.bool wd]:=by rw[ZO];exact Zv.new _ _ _
 obtain⟨g,off,ZU,n,g2,OP,XV,g3,J2,Ji,rfl,a2,a3,a4,a5,P8,rfl,Xd,Wk,UY,TN,c2,c3,VG,Wv⟩:=yq (hi.below ZR.o) (Z8.below ZR.o) ZM r ZT;have ZN:=bx ZO;generalize F.says c.p (r:Int)=y at Wv St;generalize C.aI c (r:Int)=res at St⊢;generalize c.p.2.length=M at *;have xx:=(Z3.cell 0).trans (show _=some (Value.slice (some ⟨g,off,none⟩) 4352 ZU)from rfl);have FN:=(Z3.cell 1).trans (show _=some (Value.slice (some ⟨g2,OP,none⟩) M XV)from rfl);have CS:=(Z3.cell 2).trans (show _=some (Value.bool wd)from rfl);have pz:=Z3.lt;obtain⟨d,Zm⟩:∃d,r/256=d:=⟨_,rfl⟩
 obtain⟨q,Zs⟩:∃q,r%256=q:=⟨_,rfl⟩
 have MI:d<4352:=by omega
 have NB:q<256:=by omega
 have xq:(r:Int).tdiv 256=(d:Int):=by rw[<-Zm];rfl
 have xp:(r:Int).tmod 256=(q:Int):=by rw[<-Zs];rfl
 rw[Zm]at a5;rw[Zs]at Wv;have zZ:y=3\/y=4\/(y=1/\wd=true)\/(y=1/\wd=false)\/y=6\/(y≠3/\y≠4/\y≠1/\y≠6):=by
  cases wd <;> simp <;> omega
 have W6:=bx (λm=>ZR.o.trans ((Po V m).mono ZR.o.size));clear Z3 Zm Zs hi Z8 ZM ZO XS
 go_in
 go_upto_region 1 with(fail)
 rw[<-ZN.o]
 rcases zZ with rfl|rfl|⟨rfl,rfl⟩|⟨rfl,rfl⟩|rfl|⟨FL,Ey,Ii,Hl⟩
 ·go_quiet (fail)
  go_wp2
  go_ret
  exact⟨SJ (by rw[St.o];simp),W6.o _⟩
 ·go_quiet (fail)
  go_wp2
  go_ret
  exact⟨SJ (by rw[St.o];simp),W6.o _⟩
 ·go_quiet (fail)
  go_wp2
  go_ret
  exact⟨SJ (by rw[St.o];simp),W6.o _⟩
 ·go_quiet (fail)
  go_wp2
  go_ret
  exact⟨SJ (by rw[St.o];simp),W6.o _⟩
 ·go_quiet (fail)
  go_wp2
  go_ret
  exact⟨SJ (by rw[St.o];simp),W6.o _⟩
 have Yb:(y==3)=false:=by rw[Sz];exact FL
 have WW:(y==4)=false:=by rw[Sz];exact Ey
 have Zq:(y==1)=false:=by rw[Sz];exact Ii
 have BQ:(y==6)=false:=by rw[Sz];exact Hl
 rw[Y4 (by omega),Y4 Hl]at St;clear FL Ey Ii Hl
 go_quiet (fail)
 go_wp2
 go_ret
 exact⟨SJ (by rw[St.o]),W6.o _⟩
theorem sF(v:Value)(c:C.Wd)(s:ByteArray)(xs:List Int)(w:World)(Z2:WideAt w v c)(ZM:F.aE c.p=true)(Z4:U.scalars s.data.toList=some xs)(_:s.size<=4000):
  Calls prog 141 #[v,.string s] w λe w'=>e=.returned (Z9 (C.aq c xs))/\Z6 w w':=by
 have NN:=bx (λW=>yw s W (by omega));have oQ:=bx Z4;have OA:=bx ((U.bI _ _).1 Z4).2;have Ik:xs.length<=4000:=by
  have Z7:=((U.bI _ _).1 Z4).1;have ZS:xs.length<=(U.textOf xs).length:=yT xs;rw[Z7,<-size_eq]at ZS;omega
 have Rz:=bx (show C.aq c xs=if(C.emoji xs&&decide (0<C.most c xs))=true then 2 else C.most c xs from rfl);obtain⟨ZD,bv,rfl,hi,Z8⟩:=Z2;have Q9:=bx (λW(h:Z6 w W) r (ZT:r<=1114111)=>lu (.agg #[ZD,bv,.bool c.wide]) c r W ⟨ZD,bv,rfl,hi.below h,Z8.below h⟩ ZM ZT);obtain⟨V,ZO⟩:∃V,V=w.alloc (.cells #[ZD,bv,.bool c.wide] 33):=⟨_,rfl⟩
 have ZR:=bx (aB ZO);have Ze:=bx (aK ZO);obtain⟨wd,XS⟩:∃b,b=c.wide:=⟨_,rfl⟩
 rw[<-XS]at Ze ZO Q9⊢;have ZN:=bx ZO;have ZF:=bx (λW(h:Z6 V W)=>Ze.o.d3 h);obtain⟨N,Zp⟩:∃N,xs.length=N:=⟨_,rfl⟩
 rw[Zp]at Ik;have ZE:=bx Zp;clear ZO XS hi Z8 ZM Z4 Zp
 go_in
 go_upto_region 1 with(fail)
 rw[<-ZN.o];go_wp2_with fail;refine(NN.o V).mono ?_;rintro e ZV ⟨ZZ,QY⟩;rw[oQ.o]at QY;obtain⟨v1,rfl,V7⟩:=QY;have Xg:=bx (Y6.au V7 rfl);have VD:=bx ZZ;obtain⟨Yr,lc,rfl⟩:=Xg.o.slice;rw[ZE.o]at Xg⊢;clear ZZ V7;go_wp2_with fail
 go_loopw[7,8,9] (λn em i wr=>∃k:Nat,k<=N/\n=Z9 (C.most c (xs.take k))/\em=.bool (C.emoji (xs.take k))/\i=Z9 k/\Box (Z6 ZV wr)) (λ_ _ i _=>N-(intOf i).toNat)
 ·exact⟨0,by omega,rfl,rfl,rfl,⟨Below.refl _ _⟩⟩
 obtain⟨k,Z3,rfl,rfl,rfl,Xk⟩:=hrel;have X3:=bx (bt VD.o Xk.o);have YA:=bx (bt ZR.o X3.o)
 by_cases Zu:k<N
 ·obtain⟨z,P2⟩:=Yg xs k (by rw[ZE.o];exact Zu);obtain⟨r,rfl,MD⟩:=DV (OA.o z (Xh P2));obtain⟨Vx,LS,G0,Zq,YP,Yb,WW,VK⟩:=Xg.o.get (by rintro rfl;simp at P2);rw[ZE.o]at Zq YP;obtain⟨rfl,rfl⟩:=XN Zq;have Ua:=VK k _ P2;have TR:=bx (nS (c:=c) P2);have Mq:=bx (nI P2);have U2:=bx (λW(h:Z6 ZV W)=>show ZQ W w.heap.size 0=some (ZD)/\ZQ W w.heap.size 1=some (bv)/\ZQ W w.heap.size 2=some (.bool wd)/\w.heap.size<W.heap.size/\ZQ W Vx (LS+k)=some (Z9 (r:Nat))from by
   obtain⟨Zd,Zx,Zr,YS⟩:=ZF.o W (bt VD.o h);exact⟨Zd,Zx,Zr,YS,(h.cell (p:=⟨Vx,LS+k,none⟩) WW).trans Ua⟩)
  have Q9:=bx (λW(h:Z6 ZV W) r ZT=>Q9.o W (ZR.o.trans ((bt VD.o h).mono ZR.o.size)) r ZT);have Y9:=bx (show Z6 ZV wr.drew from Xk.o.trans ((VQ wr 1).mono Xk.o.size));have YF:=bx (U2.o wr.drew Y9.o);obtain⟨FM,FY⟩:∃m,C.most c (xs.take k)=m:=⟨_,rfl⟩
  obtain⟨em,F2⟩:∃m,C.emoji (xs.take k)=m:=⟨_,rfl⟩
  rw[FY]at TR;rw[F2]at Mq;rw[FY,F2];unfold maxLen at Yb;clear P2 Zq WW VK FY F2;go_wp2_with fail;refine Vv 8 (λW'=>ZQ W' w.heap.size 0=some (ZD)/\ZQ W' w.heap.size 1=some (bv)/\ZQ W' w.heap.size 2=some (.bool wd)/\w.heap.size<W'.heap.size/\ZQ W' Vx (LS+k)=some (Z9 (r:Nat))) (by kernel_rfl) ?_;generalize wr.drew=Yl at Y9 YF⊢;refine Vp [0,1,2,3,4,5] ?_
  iterate 6 (refine Vq ?_ rfl YF.o ?_ ?_;rotate_left;·rintro w ⟨q1,q2,q3,q4,q5⟩;go_simp;try with_reducible rfl)
  refine Vr ?_;refine Y1 6 rfl λY7 ZX=>?_
  go_simp;refine X7 (Q9.o Yl Y9.o r MD) Y9.o λYK X6=>?_
  have UM:=bx (U2.o YK X6.o);refine ZX.out _ _ (λ_=>UM.o) ?_;clear ZX Y7;refine kS 7 ?_ rfl UM.o ?_ ?_;rotate_left
  ·rintro w ⟨q1,q2,q3,q4,q5⟩;go_simp;try with_reducible rfl
  refine Y1 8 rfl λY7 ZX=>?_
  go_simp;refine ZX.out _ _ (λh=>by cases h) ?_;clear ZX Y7;refine kD ?_ _;have Pn:=bx UM.o;obtain⟨Zd,Zx,Zr,YS,Ij⟩:=Pn.o
  by_cases ZI:0<k
  ·have d0:decide ((0:Int)<(k:Int))=true:=Yh (by omega);have d1:decide (0<k)=true:=Yh ZI;have UW:(0:Int)<(k:Int):=by omega
   cases Cj:((r:Int)==65039)with
   |true=>
    have Pu:=bx (show C.emoji (xs.take (k+1))=true by rw[Mq.o,Cj,Yh ZI];simp)
    go_wp2
    go_roundw
    ·exact⟨k+1,by omega,by rw[TR.o],by rw[Pu.o],by go_num,X6⟩
    simp[intOf];omega
   |false=>
    have Pu:=bx (show C.emoji (xs.take (k+1))=em by rw[Mq.o,Cj];simp)
    go_wp2
    go_roundw
    ·exact⟨k+1,by omega,by rw[TR.o],by rw[Pu.o],by go_num,X6⟩
    simp[intOf];omega
  have d0:decide ((0:Int)<(k:Int))=false:=Yp (by omega);have d1:decide (0<k)=false:=Yp ZI;have UW:¬(0:Int)<(k:Int):=by omega
  have Pu:=bx (show C.emoji (xs.take (k+1))=em by rw[Mq.o,Yp ZI];simp)
  go_wp2
  go_roundw
  ·exact⟨k+1,by omega,by rw[TR.o],by rw[Pu.o],by go_num,X6⟩
  simp[intOf];omega
 obtain rfl:k=N:=by omega
 rw[SU (by rw[ZE.o];exact Wq _)];generalize C.emoji xs=em at Rz⊢;generalize C.most c xs=FM at Rz⊢
 cases em with
 |false=>
  go_wp2
  go_ret
  exact⟨SJ (by rw[Rz.o];simp),YA.o⟩
 |true=>
  by_cases h:0<FM
  ·have d0:=Yh h;have ZK:=bx (show C.aq c xs=2 by rw[Rz.o,d0];rfl);clear h
   go_wp2
   go_ret
   exact⟨SJ ZK.o.symm,YA.o⟩
  have d0:=Yp h;have ZK:=bx (show C.aq c xs=FM by rw[Rz.o,d0];rfl);clear h
  go_wp2
  go_ret
  exact⟨SJ ZK.o.symm,YA.o⟩
namespace C
open Go.Proofs.YtdponihkpomheaaGreatDoor
theorem dj(g:Ga)(ls:List (List Int)){i:Nat}(_:i<=ls.length):(marks g ls)[i]?=some (aj g ls i):=by
 unfold marks;rw[RX,jB (by omega)]
 rfl
theorem dL(g:Ga)(ls:List (List Int)){k:Nat}(h:k<=ls.length):(marks g ls).take (k+1)=(marks g ls).take k++[aj g ls k]:=by
 rw[Uo,dj g ls h]
 rfl
end C
theorem ajv(v:Value)(t:Tab)(s:ByteArray)(a:Int)(w:World)(Z2:TabAt w v t)(Z0:Sr t)(ZY:s.size<=299):
  Calls prog 205 #[v,.string s,Z9 a] w λe w'=>e=.returned (.tuple #[.bool (C.isA t s.data.toList a),Z9 (Vn t s.data.toList)])/\Z6 w w':=by
 have VE:=bx (λW(h:Z6 w W)=>Z2.below h);obtain⟨pi,YM,Y2,Zo,Za,rfl,Z7,Z5,ZS,ZG,Zi⟩:=Z2;obtain⟨V,ZO⟩:∃V,V=w.alloc (.cells #[Z9 t.n,pi,YM,Y2,Zo,Za] 31):=⟨_,rfl⟩
 have ZR:=bx (aB ZO);have Ze:=bx (aK ZO);have ZF:=bx (λW(h:Z6 V W)=>Ze.o.d6 h);have ZN:=bx ZO;have VB:=bx (oh _ t s V (VE.o V ZR.o) Z0 ZY);have S0:=bx (show C.isA t s.data.toList a=((C.aQ t s.data.toList).map (λn:Nat=>(n:Int))).any (·==a) by unfold C.isA;rw[List.any_map];rfl);have TK:=qT t s.data.toList;rw[<-size_eq,<-X4 (f:=λn:Nat=>(n:Int))]at TK;generalize(C.aQ t s.data.toList).map (λn:Nat=>(n:Int))=ps at VB S0 TK;generalize Vn t s.data.toList=te at VB⊢;generalize C.isA t s.data.toList a=res at S0⊢;obtain⟨Q,VI⟩:∃Q,ps.length=Q:=⟨_,rfl⟩
 rw[VI]at TK;have Xy:=bx VI;obtain⟨Yk,ZP⟩:∃n,n=t.n:=⟨_,rfl⟩
 rw[<-ZP]at ZN Ze VE ZF VB⊢;clear Z7 Z5 ZS ZG Zi ZO Z0 ZP VI;obtain⟨Zd,Zx,Zr,Zk,Zl,Zg,YS⟩:=ZF.o V YU
 go_in
 go_upto_region 1 with(fail)
 rw[<-ZN.o];go_wp2_with fail;refine VB.o.mono ?_;rintro e ZV ⟨⟨v1,rfl,WV⟩,ZZ⟩;have Xg:=bx WV;obtain⟨ca,Rm,rfl⟩:=WV.slice;rw[Xy.o]at Xg⊢;have ZW:=Zw ZR ZZ;clear ZZ WV Zd Zx Zr Zk Zl Zg YS;go_wp2_with fail
 go_loop[10] (λi=>∃k:Nat,k<=Q/\i=Z9 k/\Box ((ps.take k).any (·==a)=false)) (λi=>Q-(intOf i).toNat)
 ·exact⟨0,by omega,rfl,⟨rfl⟩⟩
 obtain⟨k,Z3,rfl,XF⟩:=hrel
 by_cases Zu:k<Q
 ·obtain⟨x,Z4⟩:=Yg ps k (by rw[Xy.o];exact Zu);obtain⟨VF,Um,AC,Zq,YP,Yb,WW,VK⟩:=Xg.o.get (by rintro rfl;simp at Z4);rw[Xy.o]at Zq YP;obtain⟨rfl,rfl⟩:=XN Zq;have c1:=VK k x Z4;have YD:=bx Z4;unfold maxLen at Yb;clear Z4 Zq VK
  cases CX:(x==a)with
  |true=>
   have Y8:=bx (show res=true by rw[S0.o,NS];exact⟨x,Xh YD.o,CX⟩)
   go_wp2
   go_ret2
   exact⟨OB (rz Y8.o.symm) rfl,ZW.o⟩
  |false=>
   have Y8:=bx (show(ps.take (k+1)).any (·==a)=false by rw[Uo,YD.o,List.any_append,XF.o,Option.toList_some,List.any_cons,CX];rfl);go_wp2_with fail
   go_round
   ·exact⟨k+1,by omega,by go_num,Y8⟩
   simp[intOf];omega
 have Y8:=bx (show res=false by rw[S0.o];have:=XF.o;rwa[SU (by rw[Xy.o];omega)]at this)
 go_wp2
 go_ret2
 exact⟨OB (rz Y8.o.symm) rfl,ZW.o⟩
namespace C
end C
theorem auM(A:Nat->Addr)(B:Nat)(v:Value)(k:C.Kt)(i:Int)(s e:ByteArray)(n:Int)(w:World)(Z2:WZ w v k)(Z0:VT k)(_:3*s.size+3*e.size<=800)(_:e.size<=60)(hS:Sw A B w)(Z8:C.ad k=false):
  Calls prog 15 #[v,Z9 i,.string s,Z9 n,.string e] w λX1 w'=>X1=.returned (.tuple #[.string (bs (C.aY k i s.data.toList n e.data.toList)),Z9 (C.aO k i s.data.toList n e.data.toList)])/\Z6 w w':=by
 obtain⟨R2,V,rfl,VS,ZN,ZR,ZF,Yx,Xb⟩:=PO Z2 hS;have WU:=bx (ZR.o.trans ((Xl V (.cells #[.string e] 9)).mono ZR.o.size));have Uk:=bx (λ(Z8:C.ad k=false)=>D5 A B _ (.slice (some ⟨V.heap.size,0,none⟩) 1 1) k s [e.data.toList] _ (Yx.o _ WU.o) Z0 (Xb.o _ WU.o) Z8 (JC V e 9));have X9:=bx (Uk.o Z8);have ZK:=bx (show C.aY k i s.data.toList n e.data.toList=[]/\C.aO k i s.data.toList n e.data.toList=160 by
  have h:C.aO k i s.data.toList n e.data.toList=160:=by unfold C.aO;rw[C.bO Z8];rfl
  exact⟨by unfold C.aY;rw[h];rfl,h⟩)
 clear Uk Z8 Z0 hS Yx;have ZA:=ZF.o V YU
 go_in
 go_upto_region 1 with(fail)
 rw[<-ZN.o];go_wp2_with (refine X8 rfl _ rfl _ rfl ZA VS ?_)
 refine X7 X9.o WU.o λZV ZW=>?_
 clear ZA;go_wp2_with fail;refine X7 (JM (160) ZV (Xb.o ZV ZW.o).t) ZW.o λ_ UD=>?_
 go_wp2
 go_ret2
 exact⟨by rw[ZK.o.1,ZK.o.2] <;> rfl,UD.o⟩
theorem awa(A:Nat->Addr)(B:Nat)(v:Value)(k:C.Kt)(i:Int)(s e:ByteArray)(n:Int)(w:World)(Z2:WZ w v k)(Z0:VT k)(ZY:3*s.size+3*e.size<=800)(Xj:e.size<=60)(hS:Sw A B w)(Z8:C.ad k=true)(W2:i<0\/2<i):
  Calls prog 15 #[v,Z9 i,.string s,Z9 n,.string e] w λX1 w'=>X1=.returned (.tuple #[.string (bs (C.aY k i s.data.toList n e.data.toList)),Z9 (C.aO k i s.data.toList n e.data.toList)])/\Z6 w w':=by
 obtain⟨R2,V,rfl,VS,ZN,ZR,ZF,Yx,Xb⟩:=PO Z2 hS;have WU:=bx (ZR.o.trans ((Xl V (.cells #[.string e] 9)).mono ZR.o.size));have VJ:=bx (λ(Z8:C.ad k=true)(ZY:s.size<=600)(hp:e.size<=60)=>Mj A B _ (.slice (some ⟨V.heap.size,0,none⟩) 1 1) k s [e.data.toList] _ (Yx.o _ WU.o) Z0 (Xb.o _ WU.o) Z8 (JC V e 9) ZY (by simp) (λ_ Zs=>by rw[Pe.1 Zs,<-size_eq];exact hp));have X9:=bx (VJ.o Z8 (by omega) Xj);have EF:C.ar k s.data.toList e.data.toList=0:=C.a6 Z8 (by rw[<-size_eq];omega) (by rw[<-size_eq];omega);have ZK:=bx (show C.aY k i s.data.toList n e.data.toList=[]/\C.aO k i s.data.toList n e.data.toList=150 by
  have h:C.aO k i s.data.toList n e.data.toList=150:=by unfold C.aO;rw[Y0 EF,Y0 W2]
  exact⟨by unfold C.aY;rw[h];rfl,h⟩)
 clear VJ Z8 Z0 hS ZY Xj Yx EF
 rcases W2 with W2|W2
 focus
  have d1:=Yh W2
 rotate_left
 focus
  have d1:decide (i<0)=false:=Yp (by omega);have d2:=Yh W2
 rotate_left
 all_goals
  have ZA:=ZF.o V YU
  go_in
  go_upto_region 1 with(fail)
  rw[<-ZN.o];go_wp2_with (refine X8 rfl _ rfl _ rfl ZA VS ?_)
  refine X9.o.mono ?_;rintro X1 ZV ⟨⟨g,rfl,Vk,-⟩,ZZ⟩;have ZW:=Zw WU ZZ;have RC:=bx Vk;clear ZZ Vk ZA;go_wp2_with fail;refine X7 (JM (150) ZV (Xb.o ZV ZW.o).t) ZW.o λ_ UD=>?_
  go_wp2
  go_ret2
  exact⟨by rw[ZK.o.1,ZK.o.2] <;> rfl,UD.o⟩
theorem atD(A:Nat->Addr)(B:Nat)(v:Value)(k:C.Kt)(i:Int)(s e:ByteArray)(n:Int)(w:World)(Z2:WZ w v k)(Z0:VT k)(ZY:3*s.size+3*e.size<=800)(Xj:e.size<=60)(hS:Sw A B w)(Z8:C.ad k=true)(W2:¬(i<0\/2<i))(VM:n<0):
  Calls prog 15 #[v,Z9 i,.string s,Z9 n,.string e] w λX1 w'=>X1=.returned (.tuple #[.string (bs (C.aY k i s.data.toList n e.data.toList)),Z9 (C.aO k i s.data.toList n e.data.toList)])/\Z6 w w':=by
 obtain⟨R2,V,rfl,VS,ZN,ZR,ZF,Yx,Xb⟩:=PO Z2 hS;have WU:=bx (ZR.o.trans ((Xl V (.cells #[.string e] 9)).mono ZR.o.size));have VJ:=bx (λ(Z8:C.ad k=true)(ZY:s.size<=600)(hp:e.size<=60)=>Mj A B _ (.slice (some ⟨V.heap.size,0,none⟩) 1 1) k s [e.data.toList] _ (Yx.o _ WU.o) Z0 (Xb.o _ WU.o) Z8 (JC V e 9) ZY (by simp) (λ_ Zs=>by rw[Pe.1 Zs,<-size_eq];exact hp));have X9:=bx (VJ.o Z8 (by omega) Xj);have EF:C.ar k s.data.toList e.data.toList=0:=C.a6 Z8 (by rw[<-size_eq];omega) (by rw[<-size_eq];omega);have d1:decide (i<0)=false:=Yp (by omega);have d2:decide (2<i)=false:=Yp (by omega);have d3:=Yh VM;have ZK:=bx (show C.aY k i s.data.toList n e.data.toList=[]/\C.aO k i s.data.toList n e.data.toList=161 by
  have h:C.aO k i s.data.toList n e.data.toList=161:=by unfold C.aO;rw[Y0 EF,Y4 W2,Y0 VM]
  exact⟨by unfold C.aY;rw[h];rfl,h⟩)
 clear VJ Z8 Z0 hS ZY Xj Yx EF W2 VM;have ZA:=ZF.o V YU
 go_in
 go_upto_region 1 with(fail)
 rw[<-ZN.o];go_wp2_with (refine X8 rfl _ rfl _ rfl ZA VS ?_)
 refine X9.o.mono ?_;rintro X1 ZV ⟨⟨g,rfl,Vk,-⟩,ZZ⟩;have ZW:=Zw WU ZZ;have RC:=bx Vk;clear ZZ Vk ZA;go_wp2_with fail;refine X7 (JM (161) ZV (Xb.o ZV ZW.o).t) ZW.o λ_ UD=>?_
 go_wp2
 go_ret2
 exact⟨by rw[ZK.o.1,ZK.o.2] <;> rfl,UD.o⟩
theorem akk(A:Nat->Addr)(B:Nat)(v:Value)(k:C.Kt)(i:Int)(s e:ByteArray)(n:Int)(w:World)(Z2:WZ w v k)(Z0:VT k)(ZY:3*s.size+3*e.size<=800)(Xj:e.size<=60)(hS:Sw A B w):
  Calls prog 15 #[v,Z9 i,.string s,Z9 n,.string e] w λX1 w'=>X1=.returned (.tuple #[.string (bs (C.aY k i s.data.toList n e.data.toList)),Z9 (C.aO k i s.data.toList n e.data.toList)])/\Z6 w w':=by
 cases Z8:C.ad k with
 |false=>exact auM A B v k i s e n w Z2 Z0 ZY Xj hS Z8
 |true=>
  by_cases W2:i<0\/2<i
  ·exact awa A B v k i s e n w Z2 Z0 ZY Xj hS Z8 W2
  by_cases VM:n<0
  ·exact atD A B v k i s e n w Z2 Z0 ZY Xj hS Z8 W2 VM
  exact ad7 A B v k i s e n w Z2 Z0 ZY Xj hS Z8 W2 VM
namespace C
theorem fk{l:List (List UInt8)}{i:Nat}{x:List UInt8}(Z4:l[i]?=some x):(l.take (i+1)).flatten=(l.take i).flatten++x:=by
 rw[Uo,Z4,JZ];simp
end C
theorem Fh(l:List (List UInt8))(k:Nat):(l.take k).flatten.length<=l.flatten.length:=by
 have h:=congrArg (λx=>x.flatten.length) (I0 k l);simp only[JZ,WR]at h;omega
theorem qw(v:Value)(l:List (List UInt8))(w:World)(hl:XC w v l)(ZY:l.length<=100000)(hm:l.flatten.length<=100000):
  Calls prog 61 #[v] w λX1 w'=>X1=.returned (.string (bs l.flatten))/\Z6 w w':=by
 have RD:=bx (λk=>XJ (Fh l k) hm);obtain⟨Yr,lc,rfl,-⟩:=hl.slice;obtain⟨N,Zp⟩:∃N,l.length=N:=⟨_,rfl⟩
 have ZE:=bx Zp;rw[Zp]at hl ZY⊢;obtain⟨VF,Um,PH,Tg⟩:=AH hl Zp;have RP:=bx PH;have M4:=bx Tg;clear hl Zp PH Tg hm
 go_in
 go_wp2_with fail
 go_loopw[3,4] (λYd ZD wr=>∃k:Nat,k<=N/\Yd=.string (bs (l.take k).flatten)/\ZD=Z9 k/\w=wr) (λ_ ZD _=>N-(intOf ZD).toNat)
 ·exact⟨0,by omega,rfl,rfl,rfl⟩
 obtain⟨k,Z3,rfl,rfl,rfl⟩:=hrel
 by_cases Zu:k<N
 ·obtain⟨x,Z4⟩:=Yg l k (by rw[ZE.o];exact Zu);obtain⟨V9,Ua⟩:=M4.o k x Z4;have Ns:=bx (C.fk Z4);obtain⟨rfl,NB,Py⟩:=RP.o (by omega);unfold maxLen at Py;have Pi:=NY (l.take k).flatten x;rw[<-Ns.o]at Pi;have J7:(bs (l.take k).flatten).size+(bs x).size<=1000000:=by
   have Z7:=RD.o (k+1);rw[Ns.o,WR]at Z7;rw[Wu,Wu];omega
  clear Z4
  go_wp2
  go_roundw
  ·exact⟨k+1,by omega,rfl,by go_num,trivial⟩
  simp[intOf];omega
 obtain rfl:k=N:=by omega
 have zW:l.take k=l:=SU (by rw[ZE.o];omega);rw[zW]
 go_wp2
 go_ret
 exact⟨rfl,Below.refl _ _⟩
theorem sb(a:Option Addr)(N ZU j:Nat)(xs:List (List UInt8))(YO:j<=N)(Zp:xs.length=N)(_:N<=100000){YR:World}(ZI:XC YR (.slice a N ZU) xs):
  ∃Y,(∀W,(Instr.slice 49 (.slice a N ZU) none (some (Z9 (j:Int))) none).run prog W=.ok Y W)/\∀W,XC W (.slice a N ZU) xs->XC W Y (xs.take j):=by
 have GZ:(xs.map Vu).length=N:=by rw[X4];exact Zp
 rcases ZI with⟨Z7,Z5⟩|⟨b,off,sp,XV,Z7,Z5,ZS,ZG⟩
 ·injection Z7 with Zq YP Yb;subst Zq YP Yb;obtain rfl:j=0:=by omega
  exact⟨Z1,λW=>by go_simp,λW _=>by simpa using(show XC W Z1 []from .inl ⟨rfl,rfl⟩)⟩
 injection Z7 with Zq YP Yb;subst Zq Yb;rw[GZ]at Z5;have Z3:j<=ZU:=by omega
 refine⟨.slice (some ⟨b,off,sp⟩) j ZU,λW=>?_,λW Yj=>?_⟩
 ·unfold maxLen at ZS;clear Zp GZ ZG
  by_cases ZL:ZU=0
  ·subst ZL;obtain rfl:j=0:=by omega
   go_simp
  go_simp
 by_cases ZP:xs=[]
 ·subst ZP;obtain rfl:j=0:=by simp at Zp;omega
  exact .inr ⟨b,off,sp,ZU,by simp,by simp,ZS,λh=>absurd (by simp) h⟩
 obtain⟨rfl,Zi,Yu⟩:=ZG (by simpa using ZP);subst Zp;have h:=U8.part (show U8 W (.slice (some ⟨b,off,none⟩) (xs.map Vu).length ZU) (xs.map Vu) by rw[X4];exact Yj) 0 j ZU (OQ _) (by rw[X4];exact YO) (by omega) ZS ⟨b,off,none⟩ (λ_=>by simp[Addr.add]);rw[List.drop_zero,Nat.sub_zero,<-List.map_take]at h;exact h
theorem lZ(v:Value)(g:C.Ga)(s:ByteArray)(xs:List Int)(w:World)(Z2:Qy w v g)(ZM:F.aE g.w.p=true)(Z4:U.scalars s.data.toList=some xs)(ZY:s.size<=4000):
  Calls prog 270 #[v,.string s] w λe w'=>e=.returned (Z9 (C.meas g xs))/\Z6 w w':=by
 have Vb:=bx (λW(h:Z6 w W)=>Z2.below h);obtain⟨Yk,ZP⟩:∃n,n=g.t.n:=⟨_,rfl⟩
 obtain⟨wd,XS⟩:∃b,b=g.w.wide:=⟨_,rfl⟩
 obtain⟨gk,V8⟩:∃k,k=g.k:=⟨_,rfl⟩
 have DH:=bx V8;obtain⟨pi,YM,Y2,Zo,Za,ZD,bv,rfl,Z7,Z5⟩:=Z2;rw[<-ZP]at Z7;rw[<-XS]at Z5;rw[<-ZP,<-XS,<-V8]at Vb;rw[<-ZP,<-XS,<-V8];obtain⟨V,ZO⟩:∃V,V=w.alloc (.cells #[Z9 Yk,pi,YM,Y2,Zo,Za,ZD,bv,.bool wd,Z9 gk] 57):=⟨_,rfl⟩
 have ZR:=bx (aB ZO);have Ze:=bx (aK ZO);have ZF:=bx (λW(h:Z6 V W)=>Ze.o.c10 h);have ZN:=bx ZO;have NW:=bx (λW(h:Z6 w W)=>Z7.below h);have D6:=bx (λW(h:Z6 w W)=>Z5.below h);clear ZP XS V8 Z7 Z5 ZO;have Rz:=bx (λW(h:Z6 w W)=>sF _ g.w s xs W (D6.o W h) ZM Z4 ZY);have Wy:=bx (show(s.size:Int)=((U.textOf xs).length:Int) by rw[((U.bI _ _).1 Z4).1,<-size_eq]);have Uu:=bx (show C.meas g xs=if gk=0 then((U.textOf xs).length:Int)else if gk=1 then 1 else C.aq g.w xs by rw[DH.o];rfl);generalize C.meas g xs=res at Uu⊢;clear ZM Z4 ZY;obtain⟨Zd,Zx,Zr,Zk,Zl,Zg,XK,W9,W8,W7,YS⟩:=ZF.o V YU
 go_in
 go_upto_region 1 with(fail)
 rw[<-ZN.o]
 by_cases ZI:gk=0
 ·subst ZI;have ZK:=bx (show res=(s.size:Int) by rw[Uu.o,Y0 rfl,Wy.o])
  go_wp2
  go_ret
  exact⟨by rw[ZK.o];rfl,ZR.o⟩
 by_cases Z7:gk=1
 ·subst Z7;have ZK:=bx (show res=1 by rw[Uu.o,Y4 (by decide),Y0 rfl]);clear ZI
  go_wp2
  go_ret
  exact⟨by rw[ZK.o];rfl,ZR.o⟩
 have ZK:=bx (show res=C.aq g.w xs by rw[Uu.o,Y4 ZI,Y4 Z7]);have OZ:(gk==0)=false:=beq_false_of_ne ZI;have Wx:(gk==1)=false:=beq_false_of_ne Z7;generalize C.aq g.w xs=CQ at Rz ZK;clear ZI Z7 Uu;go_wp2_with fail;refine X7 (Rz.o V ZR.o) ZR.o λ_ ZW=>?_
 go_wp2
 go_ret
 exact⟨by rw[ZK.o];rfl,ZW.o⟩
theorem b6{g:C.Ga}{s:List UInt8}(h:C.aA g=false):C.aG g s=150:=by
 unfold C.aG;rw[Y0 h]
theorem mQ{g:C.Ga}(h:C.aA g=true):F.aE g.w.p=true:=by
 have:=(C.dS h).2.1;unfold C.aS at this;rw[Vm]at this;exact this.1
theorem wl{g:C.Ga}{s:List UInt8}(h:C.aA g=false):C.cr g s=[]:=by
 unfold C.cr;rw[b6 h,Y4 (by decide)]
theorem nL{t:Tab}{s:ByteArray}(_:s.size<=299):∀y∈C.ab t s.data.toList,(U.textOf y).length<=4000:=by
 intro y ZJ;have ZT:=(QR t s.data.toList).2;unfold C.ab at ZJ;obtain⟨i,hi,rfl⟩:=SL.1 ZJ;have QZ:i+1<(Wc t s.data.toList).length:=by
  have:=Ly.1 hi;omega
 have ZS:=C.eB (xs:=Xw s.data.toList) ZT QZ;have ZG:=C.cJ (xs:=Xw s.data.toList) (ns:=Wc t s.data.toList) QZ;rw[<-C.cg]at ZG;have Zi:=C.ba s.data.toList;rw[<-size_eq]at Zi;unfold C.piece at ZS;omega
theorem vO{g:C.Ga}{s:List UInt8}(h:C.aG g s=0):C.cr g s=C.marks g (C.ab g.t s):=by
 unfold C.cr;rw[Y0 h]
theorem lQ(v:Value)(g:C.Ga)(s:ByteArray)(w:World)(Z2:Qy w v g)(Z0:Sr g.t)(hw:Pp g.w)(ZY:s.size<=299):
  Calls prog 203 #[v,.string s] w λe w'=>(∃Zy,e=.returned (.tuple #[Zy,Z9 (C.aG g s.data.toList)])/\Y6 w' Zy (C.cr g s.data.toList))/\Z6 w w':=by
 have Vb:=bx (λW(h:Z6 w W)=>Z2.below h);obtain⟨Yk,ZP⟩:∃n,n=g.t.n:=⟨_,rfl⟩
 obtain⟨wd,XS⟩:∃b,b=g.w.wide:=⟨_,rfl⟩
 obtain⟨gk,V8⟩:∃k,k=g.k:=⟨_,rfl⟩
 have DH:=bx V8;obtain⟨pi,YM,Y2,Zo,Za,ZD,bv,rfl,Z7,Z5⟩:=Z2;rw[<-ZP]at Z7;rw[<-XS]at Z5;rw[<-ZP,<-XS,<-V8]at Vb;rw[<-ZP,<-XS,<-V8];obtain⟨V,ZO⟩:∃V,V=w.alloc (.cells #[Z9 Yk,pi,YM,Y2,Zo,Za,ZD,bv,.bool wd,Z9 gk] 57):=⟨_,rfl⟩
 have ZR:=bx (aB ZO);have Ze:=bx (aK ZO);have ZF:=bx (λW(h:Z6 V W)=>Ze.o.c10 h);have ZN:=bx ZO;have NW:=bx (λW(h:Z6 w W)=>Z7.below h);have D6:=bx (λW(h:Z6 w W)=>Z5.below h);clear ZP XS V8 Z7 Z5 ZO;have Xx:=bx (sR _ g V (Vb.o V ZR.o) Z0 hw)
 cases WG:C.aA g with
 |false=>
  rw[b6 WG,wl WG];rw[WG]at Xx;clear Z0 hw ZY WG;obtain⟨Zd,Zx,Zr,Zk,Zl,Zg,XK,W9,W8,W7,YS⟩:=ZF.o V YU
  go_in
  go_upto_region 1 with(fail)
  rw[<-ZN.o];go_wp2_with fail;refine X7 Xx.o ZR.o λZV ZW=>?_
  clear Zd Zx Zr Zk Zl Zg XK W9 W8 W7 YS
  go_wp2
  go_ret2
  exact⟨⟨_,rfl,.nil⟩,ZW.o⟩
 |true=>
  have Rg:=C.bd (s:=s.data.toList) WG (by rw[<-size_eq];omega);have R4:=C.bY (s:=s.data.toList) WG (by rw[<-size_eq];omega);rw[vO Rg,Rg];have TJ:=bx (λW(h:Z6 w W)=>oE _ g.t s W (NW.o W h) Z0 ZY);have VO:=bx (C.e4 Rg);rw[R4,VO.o]at TJ;have GL:=bx (mQ WG);have Ap:=bx (λy ZJ=>Ah (t:=g.t) (s:=s) (by omega) y ZJ);have vn:=bx (nL (t:=g.t) ZY);obtain⟨ls,Ka⟩:∃ls,ls=C.ab g.t s.data.toList:=⟨_,rfl⟩
  rw[<-Ka]at TJ Ap vn⊢;have RE:=bx (show ls.length<=299 by
   rw[Ka,C.cD];have Z7:=(QR g.t s.data.toList).2.len;have Z5:=OO s.data.toList;rw[<-size_eq]at Z5;omega)
  have PD:=bx (show∀k,k<=ls.length->0<=C.aj g ls k/\C.aj g ls k<=8000000 from λk Z3=>⟨C.di g ls k,sK (by have:=RE.o;omega) (λy ZJ=>(Ap.o y ZJ).2.2) k Z3⟩);have w4:=bx (λ(y:List Int)(ZJ:y∈ls) W (h:Z6 w W)=>lZ _ g (bs (U.textOf y)) y W (Vb.o W h) GL.o (by rw[Ky];exact(Ap.o y ZJ).1) (by rw[Wu];exact vn.o y ZJ));have Xx:=bx (show Calls prog 120 #[.agg #[Z9 Yk,pi,YM,Y2,Zo,Za,ZD,bv,.bool wd,Z9 gk]] V λe w'=>e=.returned (.bool true)/\Z6 V w' from WG▸Xx.o);obtain⟨Q,VI⟩:∃Q,ls.length=Q:=⟨_,rfl⟩
  have Xy:=bx VI;have Cx:Q<=299:=by rw[<-VI];exact RE.o
  clear Z0 hw ZY WG Rg R4 Ka VI NW;obtain⟨Zd,Zx,Zr,Zk,Zl,Zg,XK,W9,W8,W7,YS⟩:=ZF.o V YU
  go_in
  go_upto_region 1 with(fail)
  rw[<-ZN.o];go_wp2_with fail;refine Y3 Xx.o λZV ZZ=>?_
  have ZW:=Zw ZR ZZ;have UH:=bx ZZ;clear ZZ Zd Zx Zr Zk Zl Zg XK W9 W8 W7 YS;obtain⟨Zd,Zx,Zr,Zk,Zl,Zg,XK,W9,W8,W7,YS⟩:=ZF.o ZV UH.o;go_wp2_with fail;refine(TJ.o ZV ZW.o).mono ?_;rintro e ZB ⟨⟨v2,rfl,SN⟩,Zz⟩;have Zt:=Zw ZW Zz;have UA:=Zw UH Zz;have Uv:=bx SN;obtain⟨Yr,lc,rfl,-⟩:=SN.slice;rw[X4,Xy.o]at Uv⊢;clear Zz SN Zd Zx Zr Zk Zl Zg XK W9 W8 W7 YS;go_wp2_with fail;have XI:=bx (show Sep (RO ZB.heap.size ZB (.slice (some ⟨ZB.heap.size,0,none⟩) 1 1) ((C.marks g ls).take (0+1))) (ZB.alloc (.cells #[Z9 0] 3)) by
   rw[show(C.marks g ls).take (0+1)=[0] by rw[C.dL g ls (OQ _)];rfl];exact(Sep.start ZB).got (base:=ZB.heap.size) (Xl ZB _) (World.ownsRow_lit (base:=ZB.heap.size) (e:=3) (size:=1) ZB #[Z9 0] 1 Ys (by unfold maxLen;omega) rfl) Ys)
  go_loopw[8,9] (λYd i wr=>∃k:Nat,k<=Q/\i=Z9 k/\Box (Sep (RO ZB.heap.size ZB Yd ((C.marks g ls).take (k+1))) wr)) (λ_ i _=>Q-(intOf i).toNat)
  ·exact⟨0,by omega,rfl,XI⟩
  obtain⟨k,Z3,rfl,YC⟩:=hrel;have XW:=bx (G5 YC.o);have YA:=bx (bt Zt.o XW.o)
  by_cases Zu:k<Q
  ·obtain⟨y,ZJ⟩:=Yg ls k (by rw[Xy.o];exact Zu);obtain⟨Vx,lo,G0,Zq,YP,Yb,WW,VK⟩:=Uv.o.get (by intro h;have:=congrArg List.length h;rw[X4,Xy.o,SK]at this;omega);rw[X4,Xy.o]at Zq YP;obtain⟨rfl,rfl⟩:=XN Zq;have Ck:=VK k (U.textOf y) (by rw[RX,ZJ];rfl);have Nh:((C.marks g ls).take (k+1)).length=k+1:=by rw[SW,C.dc,Xy.o];omega
   obtain⟨Tv,UP,qZ,S3,RZ,Lw,FI,FH⟩:=(DD YC.o).1.get (by intro h;rw[h]at Nh;simp at Nh);rw[Nh]at S3 RZ;subst S3;have Ai:=FH k (C.aj g ls k) (by rw[List.getElem?_take_of_lt (by omega),C.dj g ls (by rw[Xy.o];omega)]);have U1:=bx (C.dL g ls (k:=k+1) (by rw[Xy.o];omega));have Xb:=bx (C.dQ g ls ZJ);have Wy:=bx (PD.o (k+1) (by rw[Xy.o];omega));have An:=bx (λW h=>w4.o y (Xh ZJ) W h);obtain⟨Gg,EN⟩:∃S,S=C.aj g ls k:=⟨_,rfl⟩
   obtain⟨HE,Pz⟩:∃S,S=C.aj g ls (k+1):=⟨_,rfl⟩
   rw[<-EN]at Ai Xb;rw[<-Pz]at Xb Wy U1;have V0:=bx Pz;have F7:IntKind.i64.wrap (Gg+C.meas g y)=HE:=by
    have Z7:=Xb.o;have Z5:=Wy.o;rw[QN];omega
   generalize C.meas g y=M0 at An F7;have MR:=bx Nh;generalize(C.marks g ls).take (k+1)=Yc at YC U1 MR;have U2:=bx (λW(h:Z6 wr W)=>show ZQ W w.heap.size 0=some (Z9 Yk)/\ZQ W w.heap.size 1=some (pi)/\ZQ W w.heap.size 2=some (YM)/\ZQ W w.heap.size 3=some (Y2)/\ZQ W w.heap.size 4=some (Zo)/\ZQ W w.heap.size 5=some (Za)/\ZQ W w.heap.size 6=some (ZD)/\ZQ W w.heap.size 7=some (bv)/\ZQ W w.heap.size 8=some (.bool wd)/\ZQ W w.heap.size 9=some (Z9 gk)/\w.heap.size<W.heap.size/\ZQ W Vx (lo+k)=some (.string (bs (U.textOf y)))/\ZQ W Tv (UP+k)=some (Z9 Gg)from by
    obtain⟨Zd,Zx,Zr,Zk,Zl,Zg,XK,W9,W8,W7,YS⟩:=ZF.o W (UA.o.trans ((bt XW.o h).mono UA.o.size));exact⟨Zd,Zx,Zr,Zk,Zl,Zg,XK,W9,W8,W7,YS,((bt XW.o h).cell (p:=⟨Vx,lo+k,none⟩) WW).trans Ck,(h.cell (p:=⟨Tv,UP+k,none⟩) FI).trans Ai⟩)
   have Xm:=bx (show Sep (RO ZB.heap.size ZB (.slice (some ⟨Tv,UP,none⟩) (k+1) qZ) Yc) wr.drew from YC.o.drewN 1);have Y9:=bx (show Z6 wr wr.drew from VQ wr 1);have TY:=bx (bt YA.o Y9.o);have YF:=bx (U2.o wr.drew Y9.o);have WP:ZB.heap.size<=wr.drew.heap.size:=XJ XW.o.size Y9.o.size;have Iu:decide ((k:Int)<(Q:Int))=true:=Yh (by omega);have wQ:(k:Int)<(k:Int)+1:=by omega
   have Kb:Yc.length<=1000000000:=by rw[MR.o];omega
   unfold maxLen at Yb Lw;clear ZJ Zq WW VK Ck FI FH Ai Nh EN Pz;go_wp2_with fail;refine Vv 13 (λW'=>ZQ W' w.heap.size 0=some (Z9 Yk)/\ZQ W' w.heap.size 1=some (pi)/\ZQ W' w.heap.size 2=some (YM)/\ZQ W' w.heap.size 3=some (Y2)/\ZQ W' w.heap.size 4=some (Zo)/\ZQ W' w.heap.size 5=some (Za)/\ZQ W' w.heap.size 6=some (ZD)/\ZQ W' w.heap.size 7=some (bv)/\ZQ W' w.heap.size 8=some (.bool wd)/\ZQ W' w.heap.size 9=some (Z9 gk)/\w.heap.size<W'.heap.size/\ZQ W' Vx (lo+k)=some (.string (bs (U.textOf y)))/\ZQ W' Tv (UP+k)=some (Z9 Gg)) (by kernel_rfl) ?_;generalize wr.drew=Yl at Xm Y9 YF TY WP⊢;refine Vp [0,1,2,3,4,5,6,7,8,9] ?_
   iterate 10 (refine Vq ?_ rfl YF.o ?_ ?_;rotate_left;·rintro w ⟨q1,q2,q3,q4,q5,q6,q7,q8,q9,q10,So,Sn,Sb⟩;go_simp;try with_reducible rfl)
   refine Vr ?_;refine Y1 10 rfl λY7 ZX=>?_
   go_simp;refine Y3 (An.o Yl TY.o) λYK X0=>?_
   have X6:=Zw Y9 X0;have UM:=bx (U2.o YK X6.o);have XO:=bx (Xm.o.below X0);have lH:ZB.heap.size<=YK.heap.size:=XJ WP X0.size;clear X0;refine ZX.out _ _ (λ_=>UM.o) ?_;clear ZX Y7;refine kS 11 ?_ rfl UM.o ?_ ?_;rotate_left
   ·rintro w ⟨q1,q2,q3,q4,q5,q6,q7,q8,q9,q10,So,Sn,Sb⟩;go_simp;try with_reducible rfl
   refine Y1 12 rfl λY7 ZX=>?_
   go_simp;refine ZX.out _ _ (λ_=>U2.o _ (X6.o.trans ((Xl YK _).mono X6.o.size))) ?_;clear ZX Y7;refine Y1 13 rfl λY7 ZX=>?_
   refine H6 (u:=Z9 HE) rfl _ _ 22 rfl OJ XO.o 0 rfl rfl (by kernel_rfl) rfl Kb (by omega) lH ?_;rintro v6 XA WC -;have WQ:=bx (DQ (m:=[HE]) WC (by simp) U1.o);clear WC;refine ZX.out _ _ (λh=>by cases h) ?_;clear ZX Y7;refine Y1 14 rfl λY7 ZX=>?_
   go_simp;refine ZX.out _ _ (λh=>by cases h) ?_;clear ZX Y7;refine kD ?_ _;clear F7
   go_wp2
   go_roundw
   ·exact⟨k+1,by omega,by go_num,WQ⟩
   simp[intOf];omega
  obtain rfl:k=Q:=by omega
  have WF:=YC.o;rw[SU (by rw[C.dc,Xy.o];exact Wq _)]at WF;have YE:=bx (DD WF).1;clear WF;have Iu:decide ((k:Int)<(k:Int))=false:=Yp (by omega)
  go_wp2
  go_ret2
  exact⟨⟨_,rfl,YE.o⟩,YA.o⟩
theorem qn(v:Value)(g:C.Ga)(s:ByteArray)(w:World)(Z2:Qy w v g)(Z0:Sr g.t)(hw:Pp g.w)(ZY:s.size<=299):
  Calls prog 117 #[v,.string s] w λe w'=>e=.returned (.tuple #[Z9 (C.ah g s.data.toList),Z9 (C.aG g s.data.toList)])/\Z6 w w':=by
 have Vb:=bx (λW(h:Z6 w W)=>Z2.below h);obtain⟨Yk,ZP⟩:∃n,n=g.t.n:=⟨_,rfl⟩
 obtain⟨wd,XS⟩:∃b,b=g.w.wide:=⟨_,rfl⟩
 obtain⟨gk,V8⟩:∃k,k=g.k:=⟨_,rfl⟩
 have DH:=bx V8;obtain⟨pi,YM,Y2,Zo,Za,ZD,bv,rfl,Z7,Z5⟩:=Z2;rw[<-ZP]at Z7;rw[<-XS]at Z5;rw[<-ZP,<-XS,<-V8]at Vb;rw[<-ZP,<-XS,<-V8];obtain⟨V,ZO⟩:∃V,V=w.alloc (.cells #[Z9 Yk,pi,YM,Y2,Zo,Za,ZD,bv,.bool wd,Z9 gk] 57):=⟨_,rfl⟩
 have ZR:=bx (aB ZO);have Ze:=bx (aK ZO);have ZF:=bx (λW(h:Z6 V W)=>Ze.o.c10 h);have ZN:=bx ZO;have NW:=bx (λW(h:Z6 w W)=>Z7.below h);have D6:=bx (λW(h:Z6 w W)=>Z5.below h);clear ZP XS V8 Z7 Z5 ZO;have S5:=bx (lQ _ g s V (Vb.o V ZR.o) Z0 hw ZY)
 cases WG:C.aA g with
 |false=>
  have ZK:=bx (show C.ah g s.data.toList=0 by unfold C.ah;rw[b6 WG,Y4 (by decide)]);rw[b6 WG,wl WG]at S5;rw[b6 WG,ZK.o];clear Z0 hw ZY WG;obtain⟨Zd,Zx,Zr,Zk,Zl,Zg,XK,W9,W8,W7,YS⟩:=ZF.o V YU
  go_in
  go_upto_region 1 with(fail)
  rw[<-ZN.o];go_wp2_with fail;refine S5.o.mono ?_;rintro e ZV ⟨⟨v1,rfl,WV⟩,ZZ⟩;have ZW:=Zw ZR ZZ;clear ZZ WV Zd Zx Zr Zk Zl Zg XK W9 W8 W7 YS
  go_wp2
  go_ret2
  exact⟨rfl,ZW.o⟩
 |true=>
  have Rg:=C.bd (s:=s.data.toList) WG (by rw[<-size_eq];omega);have ZK:=bx (show C.ah g s.data.toList=C.aj g (C.ab g.t s.data.toList) (C.ab g.t s.data.toList).length by unfold C.ah;rw[Y0 Rg]);rw[Rg,vO Rg]at S5;rw[Rg,ZK.o];have MR:=bx (show(C.marks g (C.ab g.t s.data.toList)).length=(C.ab g.t s.data.toList).length+1 from C.dc _ _);have DE:=bx (C.dj g (C.ab g.t s.data.toList) (i:=(C.ab g.t s.data.toList).length) Ys);have RE:=bx (show(C.ab g.t s.data.toList).length<=299 by
   rw[C.cD];have Z7:=(QR g.t s.data.toList).2.len;have Z5:=OO s.data.toList;rw[<-size_eq]at Z5;omega)
  generalize C.marks g (C.ab g.t s.data.toList)=ms at S5 MR DE;generalize C.aj g (C.ab g.t s.data.toList) (C.ab g.t s.data.toList).length=res at DE⊢;generalize(C.ab g.t s.data.toList).length=Q at MR DE RE;have VI:=RE.o;clear Z0 hw ZY WG Rg ZK;obtain⟨Zd,Zx,Zr,Zk,Zl,Zg,XK,W9,W8,W7,YS⟩:=ZF.o V YU
  go_in
  go_upto_region 1 with(fail)
  rw[<-ZN.o];go_wp2_with fail;refine S5.o.mono ?_;rintro e ZV ⟨⟨v1,rfl,WV⟩,ZZ⟩;have ZW:=Zw ZR ZZ;obtain⟨Vx,lo,G0,Zq,YP,Yb,WW,VK⟩:=WV.get (by intro h;have Z5:=MR.o;rw[h]at Z5;simp at Z5);rw[MR.o]at Zq YP;subst Zq;have c1:=VK Q res DE.o;have Z7:IntKind.i64.wrap ((Q:Int)+1-1)=(Q:Int):=by rw[QN];omega
  unfold maxLen at Yb;clear ZZ WV VK Zd Zx Zr Zk Zl Zg XK W9 W8 W7 YS
  go_wp2
  go_ret2
  exact⟨rfl,ZW.o⟩
theorem lK{ops:Array Oper}{rest:List Oper}{o:Oper}{a:Act}{w:World}{Q:Exit->Act->World->Prop}(Uz:o.guard=none)(x y:Operand)(YT:o.op=.store 57 x y)(g:Nat){cells:Array Value}(Z4:a.eval x=Zn g)(ZJ:a.eval y=.agg cells){t:TypeId}{cs:Array Value}(ZH:Zv w g t cs)(ZP:cs.size=10)(hm:cells.size=10)(Z7:cells.all (·.oneCell')=true)(h:wpList prog ops Q rest (a.put o.dst undef) (w.setRow g cells)):wpList prog ops Q (o::rest) a w:=
 wpList_store_row Uz _ x y YT g cells Z4 ZJ t cs ZH (by rw[hm];exact wI) (by rw[ZP,hm]) Z7 h
theorem qJ(v:Value)(k:C.Kt)(i:Int)(w:World)(Z2:WZ w v k):
  Calls prog 60 #[v,Z9 i] w λe w'=>(∃Zy,e=.returned Zy/\Qy w' Zy (C.kg k i))/\Z6 w w':=by
 obtain⟨ca,XQ,XP,X5,XR,X2,Xr,wp,Xz,Ym,Xp,wf,ZD,bv,wd,lo,ti,c1,c2,g1,g2,rfl,hp⟩:=Z2;obtain⟨RM,P7⟩:∃V,V=w.alloc (.cells #[Z9 ca,XQ,XP,X5,XR,X2,Z9 Xr,wp,Xz,Ym,Xp,wf,ZD,bv,.bool wd,lo,ti,c1,c2,g1,g2] 38):=⟨_,rfl⟩
 have ZZ:Z6 w RM:=by rw[P7];exact Xl _ _
 have TT:Zv RM w.heap.size 38 #[Z9 ca,XQ,XP,X5,XR,X2,Z9 Xr,wp,Xz,Ym,Xp,wf,ZD,bv,.bool wd,lo,ti,c1,c2,g1,g2]:=by rw[P7];exact Zv.new _ _ _
 have W1:RM.heap.size=w.heap.size+1:=by rw[P7];simp
 obtain⟨V,ZO⟩:∃V,V=RM.alloc (.cells #[Z9 0,Z1,Z1,Z1,Z1,Z1,Z1,Z1,.bool false,Z9 0] 57):=⟨_,rfl⟩
 have Zz:Z6 RM V:=by rw[ZO];exact Xl _ _
 have ZR:=bx (bt ZZ Zz);have tV:Zv V (w.heap.size+1) 57 #[Z9 0,Z1,Z1,Z1,Z1,Z1,Z1,Z1,.bool false,Z9 0]:=by rw[ZO,<-W1];exact Zv.new _ _ _
 have Ze:=bx tV;have SP:=TT.below Zz TT.lt;have Bh:=bx (hp.dy i);obtain⟨S3,RZ,Lw,FI,FH,tv,tu⟩:XQ.oneCell'=true/\XP.oneCell'=true/\X5.oneCell'=true/\XR.oneCell'=true/\X2.oneCell'=true/\ZD.oneCell'=true/\bv.oneCell'=true:=by
  obtain⟨XX,UB,V2,z2,V4,z3,UO,z4,T1,z5,S1,Oe,RY,Od,he⟩:=(hp.dy i).slices;injection he with he;simp only[Array.mk.injEq,QE]at he;obtain⟨-,rfl,rfl,rfl,rfl,rfl,rfl,rfl,-⟩:=he;exact⟨rfl,rfl,rfl,rfl,rfl,rfl,rfl⟩
 have ZN:=bx (show(w.alloc (.cells #[Z9 ca,XQ,XP,X5,XR,X2,Z9 Xr,wp,Xz,Ym,Xp,wf,ZD,bv,.bool wd,lo,ti,c1,c2,g1,g2] 38)).alloc (.cells #[Z9 0,Z1,Z1,Z1,Z1,Z1,Z1,Z1,.bool false,Z9 0] 57)=V by rw[ZO,P7]);have Wy:=bx W1;obtain⟨Zd,Zx,Zr,Zk,Zl,Zg,XK,W9,W8,W7,Rf,Re,Rc,Rb,Ra,QX,QW,QV,QU,QT,QS,YS⟩:=SP.c21 YU;clear hp ZZ TT W1 ZO Zz P7 SP XK W9 W8 W7 Rf Re QX QW QV QU QT QS
 go_in
 go_upto_region 1 with(fail)
 rw[ZN.o];go_wp2_with (refine lK rfl _ _ rfl (w.heap.size+1) (cells:=#[Z9 ca,XQ,XP,X5,XR,X2,ZD,bv,.bool wd,Z9 i]) rfl rfl tV rfl (by rfl) (by simp only[List.all_toArray,List.all_cons,List.all_nil,S3,RZ,Lw,FI,FH,tv,tu,Bool.and_true,Bool.true_and];rfl) ?_)
 have F6:=ZR.o.trans ((Turns.setRow (W:=V) (own:=λq=>q=w.heap.size+1) (g:=w.heap.size+1) rfl #[Z9 ca,XQ,XP,X5,XR,X2,ZD,bv,.bool wd,Z9 i]).below ZR.o.size (λq _=>by omega));exact bodyPost_ret (results_cell_row results60 _ _ (w.heap.size+1) 57 _ (0,0) _ rfl (Ze.o.setRow #[Z9 ca,XQ,XP,X5,XR,X2,ZD,bv,.bool wd,Z9 i]) underlying57 rfl wI) rfl ⟨⟨_,rfl,Bh.o.below F6⟩,F6⟩
theorem vB(v:Value)(k:C.Kt)(i:Int)(s:ByteArray)(w:World)(Z2:WZ w v k)(Z0:VT k)(ZY:s.size<=299):
  Calls prog 57 #[v,Z9 i,.string s] w λe w'=>e=.returned (Z9 (C.ah (C.kg k i) s.data.toList))/\Z6 w w':=by
 obtain⟨ca,XQ,XP,X5,XR,X2,Xr,wp,Xz,Ym,Xp,wf,ZD,bv,wd,lo,ti,c1,c2,g1,g2,rfl,Z3⟩:=Z2;have WL:=bx (λW(h:Z6 w W)=>Z3.below h);obtain⟨V,ZO⟩:∃V,V=w.alloc (.cells #[Z9 ca,XQ,XP,X5,XR,X2,Z9 Xr,wp,Xz,Ym,Xp,wf,ZD,bv,.bool wd,lo,ti,c1,c2,g1,g2] 38):=⟨_,rfl⟩
 have ZR:=bx (aB ZO);have Ze:=bx (aK ZO);have ZF:=bx (λW(h:Z6 V W)=>Ze.o.below h Ze.o.lt);have ZN:=bx ZO;clear Z3 ZO;have Yx:=bx (λW(h:Z6 w W)=>show WZ W (.agg #[Z9 ca,XQ,XP,X5,XR,X2,Z9 Xr,wp,Xz,Ym,Xp,wf,ZD,bv,.bool wd,lo,ti,c1,c2,g1,g2]) k from⟨_,_,_,_,_,_,_,_,_,_,_,_,_,_,_,_,_,_,_,_,_,rfl,WL.o W h⟩);have Sk:=bx (qJ _ k i V (Yx.o V ZR.o));have Ts:=bx (λv W(Z2:Qy W v (C.kg k i))=>qn v (C.kg k i) s W Z2 Z0.c Z0.d ZY);generalize C.ah (C.kg k i) s.data.toList=m at Ts⊢;generalize C.aG (C.kg k i) s.data.toList=Wz at Ts;clear Z0 ZY WL Yx;have ZA:=ZF.o V YU
 go_in
 go_upto_region 1 with(fail)
 rw[<-ZN.o];go_wp2_with (refine X8 rfl _ rfl _ rfl ZA rfl ?_)
 refine Sk.o.mono ?_;rintro X1 ZV ⟨⟨v1,rfl,WV⟩,ZZ⟩;have ZW:=Zw ZR ZZ;have G9:=bx (Ts.o v1 ZV WV);obtain⟨XX,UB,V2,z2,V4,z3,UO,z4,T1,z5,S1,Oe,RY,Od,rfl⟩:=WV.slices;clear WV Ts ZZ ZA;go_wp2_with fail;refine X7 G9.o ZW.o λ_ Zt=>?_
 go_wp2
 go_ret
 exact⟨rfl,Zt.o⟩
theorem aaK{t:Tab}{s:List UInt8}(he:Vn t s=0){k p:Nat}(hp:(C.aQ t s)[k]?=some p):p<=(M.fix s).length/\(M.fix s).take p=C.headA t s k:=by
 have ZT:=(QR t s).2;unfold C.aQ at hp;rw[Y0 he]at hp;have Zu:k<(Wc t s).length:=by
  have:=(R7 hp).1
  rwa[C.c8]at this
 have Ja:(C.places (Xw s) (Wc t s)).getD k 0=p:=by rw[Rl,hp,OT]
 have ZS:=C.cJ (xs:=Xw s) (ns:=Wc t s) Zu;rw[Ja,<-C.cg]at ZS;refine⟨ZS,?_⟩;have ZG:=C.ft (xs:=Xw s) ZT _ Zu;rw[Ja,<-C.cg]at ZG;rw[<-ZG];unfold C.headA C.ae;rw[Y0 he]
theorem apA(v:Value)(g:C.Ga)(h t:List UInt8)(Zj:Int)(w:World)(Z2:Qy w v g)(Z0:Sr g.t)(hw:Pp g.w)(WG:C.aA g=true)(ZY:h.length+t.length<=299):
  Calls prog 122 #[v,.string (bs h),.string (bs t),Z9 Zj] w λe w'=>e=.returned (.bool (C.aW g h t Zj))/\Z6 w w':=by
 have Vb:=bx (λW(h:Z6 w W)=>Z2.below h);obtain⟨Yk,ZP⟩:∃n,n=g.t.n:=⟨_,rfl⟩
 obtain⟨wd,XS⟩:∃b,b=g.w.wide:=⟨_,rfl⟩
 obtain⟨gk,V8⟩:∃k,k=g.k:=⟨_,rfl⟩
 have DH:=bx V8;obtain⟨pi,YM,Y2,Zo,Za,ZD,bv,rfl,Z7,Z5⟩:=Z2;rw[<-ZP]at Z7;rw[<-XS]at Z5;rw[<-ZP,<-XS,<-V8]at Vb;rw[<-ZP,<-XS,<-V8];obtain⟨V,ZO⟩:∃V,V=w.alloc (.cells #[Z9 Yk,pi,YM,Y2,Zo,Za,ZD,bv,.bool wd,Z9 gk] 57):=⟨_,rfl⟩
 have ZR:=bx (aB ZO);have Ze:=bx (aK ZO);have ZF:=bx (λW(h:Z6 V W)=>Ze.o.c10 h);have ZN:=bx ZO;have NW:=bx (λW(h:Z6 w W)=>Z7.below h);have D6:=bx (λW(h:Z6 w W)=>Z5.below h);clear ZP XS V8 Z7 Z5 ZO;have aic:=bx (NY h t);have S5:=bx (qn _ g (bs (h++t)) V (Vb.o V ZR.o) Z0 hw (by rw[Wu,WR];exact ZY));have S0:=bx (λW(Z8:Z6 w W)=>ajv _ g.t (bs (h++t)) (h.length:Int) W (NW.o W Z8) Z0 (by rw[Wu,WR];exact ZY));have Rg:=C.bd (s:=h++t) WG (by rw[WR];omega);have R4:=C.bY (s:=h++t) WG (by rw[WR];omega);rw[Ky]at S5 S0;rw[Rg]at S5;rw[R4]at S0;have UL:=bx (show C.aW g h t Zj=(C.isA g.t (h++t) h.length&&decide (C.ah g (h++t)<=Zj))from rfl);have BC:=Wu h;have Tg:(bs h).size+(bs t).size<=299:=by rw[Wu,Wu];exact ZY
 generalize C.aW g h t Zj=res at UL⊢;generalize C.isA g.t (h++t) h.length=U0 at S0 UL;generalize C.ah g (h++t)=N4 at S5 UL;clear Z0 hw WG ZY Rg R4;obtain⟨Zd,Zx,Zr,Zk,Zl,Zg,XK,W9,W8,W7,YS⟩:=ZF.o V YU
 go_in
 go_upto_region 1 with(fail)
 rw[<-ZN.o];have Pi:=aic.o;go_wp2_with fail
 try rw[Pi]
 refine Y3 S5.o λZV ZZ=>?_
 have ZW:=Zw ZR ZZ;have UH:=bx ZZ;clear ZZ Zd Zx Zr Zk Zl Zg XK W9 W8 W7 YS;obtain⟨Zd,Zx,Zr,Zk,Zl,Zg,XK,W9,W8,W7,YS⟩:=ZF.o ZV UH.o;go_wp2_with fail
 try rw[Pi]
 try rw[BC]
 refine X7 (S0.o ZV ZW.o) ZW.o λ_ Zt=>?_
 clear Pi BC Tg Zd Zx Zr Zk Zl Zg XK W9 W8 W7 YS
 by_cases hm:N4<=Zj
 ·have Zm:=Yh hm;have ZK:=bx (show res=U0 by rw[UL.o,Zm,Bool.and_true]);clear hm
  go_wp2
  go_ret
  exact⟨YG ZK.o.symm,Zt.o⟩
 have Zm:=Yp hm;have ZK:=bx (show res=false by rw[UL.o,Zm,Bool.and_false]);clear hm
 go_wp2
 go_ret
 exact⟨YG ZK.o.symm,Zt.o⟩
theorem ao7{g:C.Ga}{s e:List UInt8}{n:Int}{k:Nat}:C.wn g s e n (k+1)=if C.aW g (C.headA g.t s k) (M.fix e) n=true then some k else C.wn g s e n k:=by
 cases Z8:C.aW g (C.headA g.t s k) (M.fix e) n with
 |true=>rw[Y0 rfl,C.ac4 Z8]
 |false=>rw[Y4 Bool.false_ne_true,C.aem Z8]
theorem avb{g:C.Ga}{s e:List UInt8}{n:Int}(h:C.b0 g s e=0):C.aX g s e n=C.wn g s e n ((C.ae g.t s).length+1):=by
 unfold C.aX;rw[Y0 h]
 rfl
theorem asv{t:Tab}{s:List UInt8}(he:Vn t s=0){k p:Nat}(hp:(C.aQ t s)[k]?=some p):(C.headA t s k).length<=(M.fix s).length:=by
 obtain⟨Z7,Z5⟩:=aaK he hp;rw[<-Z5,SW];omega
theorem apL(v:Value)(g:C.Ga)(s e:ByteArray)(Zj:Int)(w:World)(Z2:Qy w v g)(Z0:Sr g.t)(hw:Pp g.w)(ZY:3*s.size+3*e.size<=299)(Xj:e.size<=60):
  Calls prog 59 #[v,.string s,.string e,Z9 Zj] w λx w'=>x=.returned (.tuple #[Z9 (((C.aX g s.data.toList e.data.toList Zj).getD 0:Nat):Int),.bool (C.aX g s.data.toList e.data.toList Zj).isSome,Z9 (C.b0 g s.data.toList e.data.toList)])/\Z6 w w':=by
 have Vb:=bx (λW(h:Z6 w W)=>Z2.below h);obtain⟨Yk,ZP⟩:∃n,n=g.t.n:=⟨_,rfl⟩
 obtain⟨wd,XS⟩:∃b,b=g.w.wide:=⟨_,rfl⟩
 obtain⟨gk,V8⟩:∃k,k=g.k:=⟨_,rfl⟩
 have DH:=bx V8;obtain⟨pi,YM,Y2,Zo,Za,ZD,bv,rfl,Z7,Z5⟩:=Z2;rw[<-ZP]at Z7;rw[<-XS]at Z5;rw[<-ZP,<-XS,<-V8]at Vb;rw[<-ZP,<-XS,<-V8];obtain⟨V,ZO⟩:∃V,V=w.alloc (.cells #[Z9 Yk,pi,YM,Y2,Zo,Za,ZD,bv,.bool wd,Z9 gk] 57):=⟨_,rfl⟩
 have ZR:=bx (aB ZO);have Ze:=bx (aK ZO);have ZF:=bx (λW(h:Z6 V W)=>Ze.o.c10 h);have ZN:=bx ZO;have NW:=bx (λW(h:Z6 w W)=>Z7.below h);have D6:=bx (λW(h:Z6 w W)=>Z5.below h);clear ZP XS V8 Z7 Z5 ZO;have Xx:=bx (sR _ g V (Vb.o V ZR.o) Z0 hw)
 cases WG:C.aA g with
 |false=>
  have ZI:=C.abZ (s:=s.data.toList) (e:=e.data.toList) WG;have ZK:=bx (show C.aX g s.data.toList e.data.toList Zj=none by unfold C.aX;rw[ZI,Y4 (by decide)]);rw[ZI,ZK.o];rw[WG]at Xx;clear Z0 hw ZY Xj WG ZI;obtain⟨Zd,Zx,Zr,Zk,Zl,Zg,XK,W9,W8,W7,YS⟩:=ZF.o V YU
  go_in
  go_upto_region 1 with(fail)
  rw[<-ZN.o];go_wp2_with fail;refine X7 Xx.o ZR.o λZV ZW=>?_
  clear Zd Zx Zr Zk Zl Zg XK W9 W8 W7 YS;go_wp2_with fail
  go_ret3
  exact⟨rfl,ZW.o⟩
 |true=>
  have jL:=C.gn (s:=s.data.toList) (e:=e.data.toList) WG (by rw[<-size_eq];omega) (by rw[<-size_eq];omega);have R4:=C.bY (s:=s.data.toList) WG (by rw[<-size_eq];omega);rw[jL,avb jL];have Xx:=bx (show Calls prog 120 #[.agg #[Z9 Yk,pi,YM,Y2,Zo,Za,ZD,bv,.bool wd,Z9 gk]] V λe w'=>e=.returned (.bool true)/\Z6 V w' from WG▸Xx.o);have VB:=bx (λW(h:Z6 w W)=>oh _ g.t s W (NW.o W h) Z0 (by omega));rw[R4]at VB;have UK:=bx (λW=>show Calls prog 58 #[.string s] W λe w'=>e=.returned (.string (bs (M.fix s.data.toList)))/\Z6 W w' from Ju s W (by omega));have Vc:=bx (λW=>show Calls prog 58 #[.string e] W λR8 w'=>R8=.returned (.string (bs (M.fix e.data.toList)))/\Z6 W w' from Ju e W (by omega));have MH:=C.ba s.data.toList;have Da:=C.ba e.data.toList;rw[<-size_eq]at MH Da;have rJ:=bx (λ(k p:Nat) hp=>aaK R4 (k:=k) (p:=p) hp);have NO:=bx (λ(k p:Nat)(hp:(C.aQ g.t s.data.toList)[k]?=some p) W (h:Z6 w W)=>apA _ g (C.headA g.t s.data.toList k) (M.fix e.data.toList) Zj W (Vb.o W h) Z0 hw WG (by have:=asv R4 hp;omega));have Nu:=bx (λk=>ao7 (g:=g) (s:=s.data.toList) (e:=e.data.toList) (n:=Zj) (k:=k));have Ox:=bx (show C.wn g s.data.toList e.data.toList Zj 0=none from rfl);have PW:=bx (show(C.aQ g.t s.data.toList).length=(C.ae g.t s.data.toList).length+1 by
   unfold C.aQ C.ae;rw[Y0 R4,Y0 R4,C.c8,C.pieces_len];have:=(QR g.t s.data.toList).2.ne;omega)
  have TK:=qT g.t s.data.toList;rw[<-size_eq]at TK;generalize C.wn g s.data.toList e.data.toList Zj=wn at Nu Ox⊢;generalize C.headA g.t s.data.toList=Zm at rJ NO Nu;generalize M.fix s.data.toList=RW at UK rJ;generalize M.fix e.data.toList=TC at Vc NO Nu;generalize C.aQ g.t s.data.toList=ps at VB rJ NO PW TK;generalize(C.ae g.t s.data.toList).length=Q at PW⊢;have Cx:Q<=299:=by have:=PW.o;omega
  have axn:s.size<=299:=by omega
  have ane:decide ((600:Int)<(s.size:Int))=false:=Yp (by omega);have aws:decide ((60:Int)<(e.size:Int))=false:=Yp (by omega);clear Z0 hw ZY Xj WG jL R4 MH Da TK NW Vb axn;obtain⟨Zd,Zx,Zr,Zk,Zl,Zg,XK,W9,W8,W7,YS⟩:=ZF.o V YU
  go_in
  go_upto_region 1 with(fail)
  rw[<-ZN.o];go_wp2_with fail;refine Y3 Xx.o λZV ZZ=>?_
  have ZW:=Zw ZR ZZ;have UH:=bx ZZ;clear ZZ Zd Zx Zr Zk Zl Zg XK W9 W8 W7 YS;obtain⟨Zd,Zx,Zr,Zk,Zl,Zg,XK,W9,W8,W7,YS⟩:=ZF.o ZV UH.o;go_wp2_with fail;refine(VB.o ZV ZW.o).mono ?_;rintro e ZB ⟨⟨v2,rfl,SN⟩,Zz⟩;have Zt:=Zw ZW Zz;have UA:=Zw UH Zz;obtain⟨Vx,lo,G0,Zq,YP,Yb,WW,VK⟩:=SN.get (by intro h;have Z5:=PW.o;have ZS:=congrArg List.length h;rw[X4,Z5,SK]at ZS;omega);rw[X4,PW.o]at Zq YP;subst Zq;have jm:=bx (show Vx<ZB.heap.size/\∀(k p:Nat),ps[k]?=some p->ZB.cell? ⟨Vx,lo+k,none⟩=some (Z9 (p:Nat))from⟨WW,λk p hp=>VK k (p:Int) (by rw[RX,hp];rfl)⟩);unfold maxLen at Yb;clear Zz SN WW VK ane aws Zd Zx Zr Zk Zl Zg XK W9 W8 W7 YS;go_wp2_with fail;refine Y3 (UK.o ZB) λZh Zb=>?_
  have YY:=Zw Zt Zb;have Un:=Zw UA Zb;have zq:=bx Zb;clear Zb;have TT:IntKind.i64.wrap ((Q:Int)+1-1)=(Q:Int):=by rw[QN];omega
  go_wp2_with fail;clear TT
  go_loopw[14] (λi wr=>∃k:Nat,k<=Q+1/\i=Z9 ((k:Int)-1)/\Box (Z6 Zh wr)/\Box (wn (Q+1)=wn k)) (λi _=>(intOf i+1).toNat)
  ·exact⟨Q+1,by omega,by go_num,⟨Below.refl _ _⟩,⟨rfl⟩⟩
  obtain⟨k,Z3,rfl,Ur,FP⟩:=hrel;have YA:=bx (bt YY.o Ur.o)
  cases k with
  |zero=>
   have ZK:=bx (show wn (Q+1)=none by rw[FP.o,Ox.o]);have Iu:decide ((0:Int)<=((0:Nat):Int)-1)=false:=by decide
   go_wp2_with fail
   go_ret3
   exact⟨by rw[ZK.o];rfl,YA.o⟩
  |succ k=>
   obtain⟨p,hp⟩:=Yg ps k (by rw[PW.o];omega);obtain⟨Hr,Ja⟩:=rJ.o k p hp;have Ck:=jm.o.2 k p hp;have DK:=bx (λW h=>NO.o k p hp W h);have Ry:=bx (Nu.o k);have Xa:=Cq (P:=prog) (T:=9) underlying9 RW p p rfl Hr;rw[Ja]at Xa;generalize C.aW g (Zm k) TC Zj=Yy at DK Ry;generalize Zm k=ud at DK Xa;have Wg:=bx Xa;rw[show(((k+1:Nat):Int)-1)=(k:Int) by omega];have Iu:decide ((0:Int)<=(k:Int))=true:=Yh (by omega);have U2:=bx (λW(h:Z6 wr W)=>show ZQ W w.heap.size 0=some (Z9 Yk)/\ZQ W w.heap.size 1=some (pi)/\ZQ W w.heap.size 2=some (YM)/\ZQ W w.heap.size 3=some (Y2)/\ZQ W w.heap.size 4=some (Zo)/\ZQ W w.heap.size 5=some (Za)/\ZQ W w.heap.size 6=some (ZD)/\ZQ W w.heap.size 7=some (bv)/\ZQ W w.heap.size 8=some (.bool wd)/\ZQ W w.heap.size 9=some (Z9 gk)/\w.heap.size<W.heap.size/\ZQ W Vx (lo+k)=some (Z9 (p:Nat))from by
    have Z8:=bt Ur.o h;obtain⟨Zd,Zx,Zr,Zk,Zl,Zg,XK,W9,W8,W7,YS⟩:=ZF.o W (bt Un.o Z8);exact⟨Zd,Zx,Zr,Zk,Zl,Zg,XK,W9,W8,W7,YS,((bt zq.o Z8).cell (p:=⟨Vx,lo+k,none⟩) jm.o.1).trans Ck⟩)
   have Y9:=bx (show Z6 wr wr.drew from VQ wr 1);have YF:=bx (U2.o wr.drew Y9.o);have TY:=bx (λW(h:Z6 wr W)=>bt YA.o h);have wQ:(k:Int)<(Q:Int)+1:=by omega
   have VS:k<=Q:=by omega
   clear hp Hr Ja Ck Xa Z3;go_wp2_with fail;have Xa:=Wg.o;refine Vv 10 (λW'=>ZQ W' w.heap.size 0=some (Z9 Yk)/\ZQ W' w.heap.size 1=some (pi)/\ZQ W' w.heap.size 2=some (YM)/\ZQ W' w.heap.size 3=some (Y2)/\ZQ W' w.heap.size 4=some (Zo)/\ZQ W' w.heap.size 5=some (Za)/\ZQ W' w.heap.size 6=some (ZD)/\ZQ W' w.heap.size 7=some (bv)/\ZQ W' w.heap.size 8=some (.bool wd)/\ZQ W' w.heap.size 9=some (Z9 gk)/\w.heap.size<W'.heap.size/\ZQ W' Vx (lo+k)=some (Z9 (p:Nat))) (by kernel_rfl) ?_;generalize wr.drew=Yl at Y9 YF⊢;refine Vp [0,1,2,3,4,5,6,7,9] ?_
   iterate 9 (refine Vq ?_ rfl YF.o ?_ ?_;rotate_left;·rintro w ⟨q1,q2,q3,q4,q5,q6,q7,q8,q9,q10,So,Sn⟩;go_simp;try with_reducible rfl)
   refine Vr ?_;refine Y1 8 rfl λY7 ZX=>?_
   go_simp;refine X7 (Vc.o Yl) Y9.o λYK X6=>?_
   have UM:=bx (U2.o YK X6.o);refine ZX.out _ _ (λ_=>UM.o) ?_;clear ZX Y7;refine Y1 10 rfl λY7 ZX=>?_
   go_simp;refine X7 (DK.o YK (TY.o YK X6.o)) X6.o λ_ VN=>?_
   refine ZX.out _ _ (λh=>by cases h) ?_;clear ZX Y7;refine kD ?_ _;clear Xa;have XM:=bx (bt YA.o VN.o);have XW:=bx (bt Ur.o VN.o)
   cases Yy with
   |true=>
    have ZK:=bx (show wn (Q+1)=some k by rw[FP.o,Ry.o,Y0 rfl]);go_wp2_with fail
    go_ret3
    exact⟨by rw[ZK.o];rfl,XM.o⟩
   |false=>
    have ZK:=bx (show wn (Q+1)=wn k by rw[FP.o,Ry.o,Y4 Bool.false_ne_true])
    go_wp2
    go_roundw
    ·exact⟨k,by omega,by go_num,XW,ZK⟩
    simp[intOf]
