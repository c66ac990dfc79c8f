/- Texts of this claim. -/
import Derived.Test.YtdponihkpomheaaGreatDoorK27
import Derived.Test.YtdponihkpomheaaGreatDoorKXOpsPads1

set_option maxRecDepth 100000
set_option maxHeartbeats 16000000
namespace Go.Proofs.YtdponihkpomheaaGreatDoor
open Go.RowKit
attribute[local go_sem] Oper.semAt_some
open Go.Proofs.Tryz
namespace C
open Go.Proofs.YtdponihkpomheaaGreatDoor
def marks(g:Ga)(ls:List (List Int)):List Int:=(List.range (ls.length+1)).map (aj g ls)
theorem dc(g:Ga)(ls:List (List Int)):(marks g ls).length=ls.length+1:=by simp[marks]
def cr(g:Ga)(s:List UInt8):List Int:=if aG g s=0 then marks g (ab g.t s)else[]
end C
theorem sR(v:Value)(g:C.Ga)(w:World)(Z2:Qy w v g)(Z0:Sr g.t)(hw:Pp g.w):
  Calls prog 120 #[v] w λe w'=>e=.returned (.bool (C.aA g))/\Z6 w w':=by
 obtain⟨Yk,ZP⟩:∃n,n=g.t.n:=⟨_,rfl⟩
 obtain⟨wd,XS⟩:∃b,b=g.w.wide:=⟨_,rfl⟩
 obtain⟨gk,V8⟩:∃k,k=g.k:=⟨_,rfl⟩
 obtain⟨pi,YM,Y2,Zo,Za,ZD,bv,rfl,Z7,Z5⟩:=Z2;rw[<-ZP]at Z7;rw[<-XS]at Z5;rw[<-ZP,<-XS,<-V8];obtain⟨V,ZO⟩:∃V,V=w.alloc (.cells #[Z9 Yk,pi,YM,Y2,Zo,Za,ZD,bv,.bool wd,Z9 gk] 57):=⟨_,rfl⟩
 have ZR:=bx (aB ZO);have Ze:=bx (aK ZO);have ZF:=bx (λW(h:Z6 V W)=>Ze.o.d10 h);have ZN:=bx ZO;have Su:=bx (vI _ g.t V (Z7.below ZR.o) Z0);have EW:=bx (λW(h:Z6 w W)=>lx _ g.w W (Z5.below h) hw);have Xt:=bx (show C.aA g=(Td g.t&&C.aS g.w&&decide (0<=gk)&&decide (gk<=2)) by rw[V8];rfl);generalize C.aA g=res at Xt⊢;generalize Td g.t=tb at Su Xt;generalize C.aS g.w=Mh at EW Xt;clear Z7 Z5 ZO Z0 hw ZP XS V8;obtain⟨Zd,Zx,Zr,Zk,Zl,Zg,XK,W9,W8,W7,YS⟩:=ZF.o V YU
 go_in
 go_upto_region 1 with(fail)
 rw[<-ZN.o];go_wp2_with fail;refine Y3 Su.o λZV ZZ=>?_
 have ZW:=Zw ZR ZZ;have UH:=bx ZZ;clear Zd Zx Zr Zk Zl Zg XK W9 W8 W7 YS ZZ
 cases tb with
 |false=>
  go_wp2
  go_ret
  exact⟨YG (by rw[Xt.o];rfl),ZW.o⟩
 |true=>
  obtain⟨Zd,Zx,Zr,Zk,Zl,Zg,XK,W9,W8,W7,YS⟩:=ZF.o ZV UH.o;go_wp2_with fail;refine Y3 (EW.o ZV ZW.o) λZB Zz=>?_
  have Zt:=Zw ZW Zz;have UA:=Zw UH Zz;clear Zd Zx Zr Zk Zl Zg XK W9 W8 W7 YS Zz
  cases Mh with
  |false=>
   go_wp2
   go_ret
   exact⟨YG (by rw[Xt.o];rfl),Zt.o⟩
  |true=>
   obtain⟨Zd,Zx,Zr,Zk,Zl,Zg,XK,W9,W8,W7,YS⟩:=ZF.o ZB UA.o
   by_cases Wz:0<=gk
   ·by_cases Zq:gk<=2
    ·have d0:=Yh Wz;have d1:=Yh Zq;have ZK:=bx (show res=true by rw[Xt.o,d0,d1];rfl);clear Wz Zq
     go_wp2
     go_ret
     exact⟨YG ZK.o.symm,Zt.o⟩
    have d0:=Yh Wz;have d1:=Yp Zq;have ZK:=bx (show res=false by rw[Xt.o,d0,d1];rfl);clear Wz Zq
    go_wp2
    go_ret
    exact⟨YG ZK.o.symm,Zt.o⟩
   have d0:=Yp Wz;have ZK:=bx (show res=false by rw[Xt.o,d0];rfl);clear Wz
   go_wp2
   go_ret
   exact⟨YG ZK.o.symm,Zt.o⟩
theorem lu(v:Value)(c:C.Wd)(r:Nat)(w:World)(Z2:WideAt w v c)(ZM:F.aE c.p=true)(ZT:r<=1114111):
  Calls prog 230 #[v,Z9 (r:Int)] w λe w'=>e=.returned (Z9 (C.aI c (r:Int)))/\Z6 w w':=by
 have St:=bx (show C.aI c (r:Int)=if F.says c.p (r:Int)=3\/F.says c.p (r:Int)=4\/(F.says c.p (r:Int)=1/\c.wide=true)then 2 else if F.says c.p (r:Int)=6 then 0 else 1 from rfl);obtain⟨ZD,bv,rfl,hi,Z8⟩:=Z2;obtain⟨wd,XS⟩:∃b,b=c.wide:=⟨_,rfl⟩
 rw[<-XS]at St⊢;obtain⟨V,ZO⟩:∃V,V=w.alloc (.cells #[ZD,bv,.bool wd] 33):=⟨_,rfl⟩
 have ZR:=bx (aB ZO);have Z3:Zv V w.heap.size 33 #[ZD,bv,.bool wd]:=by rw[ZO];exact Zv.new _ _ _
 obtain⟨g,off,ZU,n,g2,OP,XV,g3,J2,Ji,rfl,a2,a3,a4,a5,P8,rfl,Xd,Wk,UY,TN,c2,c3,VG,Wv⟩:=yq (hi.below ZR.o) (Z8.below ZR.o) ZM r ZT;have ZN:=bx ZO;generalize F.says c.p (r:Int)=y at Wv St;generalize C.aI c (r:Int)=res at St⊢;generalize c.p.2.length=M at *;have xx:=(Z3.cell 0).trans (show _=some (Value.slice (some ⟨g,off,none⟩) 4352 ZU)from rfl);have FN:=(Z3.cell 1).trans (show _=some (Value.slice (some ⟨g2,OP,none⟩) M XV)from rfl);have CS:=(Z3.cell 2).trans (show _=some (Value.bool wd)from rfl);have pz:=Z3.lt;obtain⟨d,Zm⟩:∃d,r/256=d:=⟨_,rfl⟩
 obtain⟨q,Zs⟩:∃q,r%256=q:=⟨_,rfl⟩
 have MI:d<4352:=by omega
 have NB:q<256:=by omega
 have xq:(r:Int).tdiv 256=(d:Int):=by grind
 have xp:(r:Int).tmod 256=(q:Int):=by grind
 rw[Zm]at a5;rw[Zs]at Wv;have zZ:y=3\/y=4\/(y=1/\wd=true)\/(y=1/\wd=false)\/y=6\/(y≠3/\y≠4/\y≠1/\y≠6):=by
  grind
 have W6:=bx (λm=>ZR.o.trans ((Po V m).mono ZR.o.size));clear Z3 Zm Zs hi Z8 ZM ZO XS
 go_in
 go_upto_region 1 with(fail)
 rw[<-ZN.o]
 rcases zZ with rfl|rfl|⟨rfl,rfl⟩|⟨rfl,rfl⟩|rfl|⟨FL,Ey,Ii,Hl⟩
 ·go_quiet (fail)
  go_wp2
  go_ret
  exact⟨SJ (by rw[St.o];simp),W6.o _⟩
 ·go_quiet (fail)
  go_wp2
  go_ret
  exact⟨SJ (by rw[St.o];simp),W6.o _⟩
 ·go_quiet (fail)
  go_wp2
  go_ret
  exact⟨SJ (by rw[St.o];simp),W6.o _⟩
 ·go_quiet (fail)
  go_wp2
  go_ret
  exact⟨SJ (by rw[St.o];simp),W6.o _⟩
 ·go_quiet (fail)
  go_wp2
  go_ret
  exact⟨SJ (by rw[St.o];simp),W6.o _⟩
 have Yb:(y==3)=false:=by grind
 have WW:(y==4)=false:=by grind
 have Zq:(y==1)=false:=by grind
 have BQ:(y==6)=false:=by grind
 rw[Y4 (by omega),Y4 Hl]at St;clear FL Ey Ii Hl
 go_quiet (fail)
 go_wp2
 go_ret
 exact⟨SJ (by rw[St.o]),W6.o _⟩
theorem sF(v:Value)(c:C.Wd)(s:ByteArray)(xs:List Int)(w:World)(Z2:WideAt w v c)(ZM:F.aE c.p=true)(Z4:U.scalars s.data.toList=some xs)(_:s.size<=4000):
  Calls prog 141 #[v,.string s] w λe w'=>e=.returned (Z9 (C.aq c xs))/\Z6 w w':=by
 have NN:=bx (λW=>yw s W (by omega));have oQ:=bx Z4;have OA:=bx ((U.bI _ _).1 Z4).2;have Ik:xs.length<=4000:=by
  have Z7:=((U.bI _ _).1 Z4).1;have ZS:=yT xs;grind[size_eq]
 have Rz:=bx (show C.aq c xs=if(C.emoji xs&&decide (0<C.most c xs))=true then 2 else C.most c xs from rfl);obtain⟨ZD,bv,rfl,hi,Z8⟩:=Z2;have Q9:=bx (λW(h:Z6 w W) r (ZT:r<=1114111)=>lu (.agg #[ZD,bv,.bool c.wide]) c r W ⟨ZD,bv,rfl,hi.below h,Z8.below h⟩ ZM ZT);obtain⟨V,ZO⟩:∃V,V=w.alloc (.cells #[ZD,bv,.bool c.wide] 33):=⟨_,rfl⟩
 have ZR:=bx (aB ZO);have Ze:=bx (aK ZO);obtain⟨wd,XS⟩:∃b,b=c.wide:=⟨_,rfl⟩
 rw[<-XS]at Ze ZO Q9⊢;have ZN:=bx ZO;have ZF:=bx (λW(h:Z6 V W)=>Ze.o.d3 h);obtain⟨N,Zp⟩:∃N,xs.length=N:=⟨_,rfl⟩
 rw[Zp]at Ik;have ZE:=bx Zp;clear ZO XS hi Z8 ZM Z4 Zp
 go_in
 go_upto_region 1 with(fail)
 rw[<-ZN.o];go_wp2_with fail;refine(NN.o V).mono ?_;rintro e ZV ⟨ZZ,QY⟩;rw[oQ.o]at QY;obtain⟨v1,rfl,V7⟩:=QY;have Xg:=bx (Y6.au V7 rfl);have VD:=bx ZZ;obtain⟨Yr,lc,rfl⟩:=Xg.o.slice;rw[ZE.o]at Xg⊢;clear ZZ V7;go_wp2_with fail
 go_loopw[7,8,9] (λn em i wr=>∃k:Nat,k<=N/\n=Z9 (C.most c (xs.take k))/\em=.bool (C.emoji (xs.take k))/\i=Z9 k/\Box (Z6 ZV wr)) (λ_ _ i _=>N-(intOf i).toNat)
 ·exact⟨0,by omega,rfl,rfl,rfl,⟨Below.refl _ _⟩⟩
 obtain⟨k,Z3,rfl,rfl,rfl,Xk⟩:=hrel;have X3:=bx (bt VD.o Xk.o);have YA:=bx (bt ZR.o X3.o)
 by_cases Zu:k<N
 ·obtain⟨z,P2⟩:=Yg xs k (by rw[ZE.o];omega);obtain⟨r,rfl,MD⟩:=DV (OA.o z (Xh P2));obtain⟨Vx,LS,G0,Zq,YP,Yb,WW,VK⟩:=Xg.o.get (by grind);rw[ZE.o]at Zq YP;obtain⟨rfl,rfl⟩:=XN Zq;have Ua:=VK k _ P2;have TR:=bx (nS (c:=c) P2);have Mq:=bx (nI P2);have U2:=bx (λW(h:Z6 ZV W)=>show ZQ W w.heap.size 0=some (ZD)/\ZQ W w.heap.size 1=some (bv)/\ZQ W w.heap.size 2=some (.bool wd)/\w.heap.size<W.heap.size/\ZQ W Vx (LS+k)=some (Z9 (r:Nat))from by
   obtain⟨Zd,Zx,Zr,YS⟩:=ZF.o W (bt VD.o h);exact⟨Zd,Zx,Zr,YS,(h.cell (p:=⟨Vx,LS+k,none⟩) WW).trans Ua⟩)
  have Q9:=bx (λW(h:Z6 ZV W) r ZT=>Q9.o W (ZR.o.trans ((bt VD.o h).mono ZR.o.size)) r ZT);have Y9:=bx (show Z6 ZV wr.drew from Xk.o.trans ((VQ wr 1).mono Xk.o.size));have YF:=bx (U2.o wr.drew Y9.o);obtain⟨FM,FY⟩:∃m,C.most c (xs.take k)=m:=⟨_,rfl⟩
  obtain⟨em,F2⟩:∃m,C.emoji (xs.take k)=m:=⟨_,rfl⟩
  rw[FY]at TR;rw[F2]at Mq;rw[FY,F2];unfold maxLen at Yb;clear P2 Zq WW VK FY F2;go_wp2_with fail;refine Vv 8 (λW'=>ZQ W' w.heap.size 0=some (ZD)/\ZQ W' w.heap.size 1=some (bv)/\ZQ W' w.heap.size 2=some (.bool wd)/\w.heap.size<W'.heap.size/\ZQ W' Vx (LS+k)=some (Z9 (r:Nat))) (by rfl) ?_;generalize wr.drew=Yl at Y9 YF⊢;refine Vp [0,1,2,3,4,5] ?_
  iterate 6 (refine Vq ?_ rfl YF.o ?_ ?_;rotate_left;·rintro w ⟨q1,q2,q3,q4,q5⟩;go_simp;try with_reducible rfl)
  refine Vr ?_;refine Y1 6 rfl λY7 ZX=>?_
  go_simp;refine X7 (Q9.o Yl Y9.o r MD) Y9.o λYK X6=>?_
  have UM:=bx (U2.o YK X6.o);refine ZX.out _ _ (λ_=>UM.o) ?_;clear ZX Y7;refine kS 7 ?_ rfl UM.o ?_ ?_;rotate_left
  ·rintro w ⟨q1,q2,q3,q4,q5⟩;go_simp;try with_reducible rfl
  refine Y1 8 rfl λY7 ZX=>?_
  go_simp;refine ZX.out _ _ (λh=>by cases h) ?_;clear ZX Y7;refine kD ?_ _;have Pn:=bx UM.o;obtain⟨Zd,Zx,Zr,YS,Ij⟩:=Pn.o
  by_cases ZI:0<k
  ·have d0:decide ((0:Int)<(k:Int))=true:=Yh (by omega);have d1:=Yh ZI;have UW:(0:Int)<(k:Int):=by omega
   cases Cj:((r:Int)==65039)with
   |true=>
    have Pu:=bx (show C.emoji (xs.take (k+1))=true by rw[Mq.o,Cj,Yh ZI];simp)
    go_wp2
    go_roundw
    ·exact⟨k+1,by omega,by rw[TR.o],by rw[Pu.o],by go_num,X6⟩
    grind[intOf]
   |false=>
    have Pu:=bx (show C.emoji (xs.take (k+1))=em by rw[Mq.o,Cj];simp)
    go_wp2
    go_roundw
    ·exact⟨k+1,by omega,by rw[TR.o],by rw[Pu.o],by go_num,X6⟩
    grind[intOf]
  have d0:decide ((0:Int)<(k:Int))=false:=Yp (by omega);have d1:=Yp ZI;have UW:¬(0:Int)<(k:Int):=by omega
  have Pu:=bx (show C.emoji (xs.take (k+1))=em by rw[Mq.o,Yp ZI];simp)
  go_wp2
  go_roundw
  ·exact⟨k+1,by omega,by rw[TR.o],by rw[Pu.o],by go_num,X6⟩
  grind[intOf]
 obtain rfl:k=N:=by omega
 rw[SU (by rw[ZE.o];omega)];generalize C.emoji xs=em at Rz⊢;generalize C.most c xs=FM at Rz⊢
 cases em with
 |false=>
  go_wp2
  go_ret
  exact⟨SJ (by rw[Rz.o];simp),YA.o⟩
 |true=>
  by_cases h:0<FM
  ·have d0:=Yh h;have ZK:=bx (show C.aq c xs=2 by rw[Rz.o,d0];rfl);clear h
   go_wp2
   go_ret
   exact⟨SJ ZK.o.symm,YA.o⟩
  have d0:=Yp h;have ZK:=bx (show C.aq c xs=FM by rw[Rz.o,d0];rfl);clear h
  go_wp2
  go_ret
  exact⟨SJ ZK.o.symm,YA.o⟩
namespace C
open Go.Proofs.YtdponihkpomheaaGreatDoor
theorem dj(g:Ga)(ls:List (List Int)){i:Nat}(_:i<=ls.length):(marks g ls)[i]?=some (aj g ls i):=by
 grind[marks]
theorem dL(g:Ga)(ls:List (List Int)){k:Nat}(h:k<=ls.length):(marks g ls).take (k+1)=(marks g ls).take k++[aj g ls k]:=by
 rw[Uo,dj g ls h]
 rfl
end C
namespace C
theorem acw{k:Kt}{s e:List UInt8}{n d:Int}(_:ad k=false):aT k s n e d=[]/\aU k s n e d=160:=by
 grind[aU,aT,bO]
end C
theorem ak9(c:Int)(w:World):Calls prog 137 #[Z9 c] w λe w'=>e=.returned (.tuple #[Z9 c,Z9 0])/\Z6 w w':=by
 go_in
 go_wp2
 go_ret2
 exact⟨rfl,Below.refl _ _⟩
theorem asG(c:Int)(w:World):Calls prog 138 #[Z9 c] w λe w'=>e=.returned (.tuple #[Z9 0,Z9 c])/\Z6 w w':=by
 go_in
 go_wp2
 go_ret2
 exact⟨rfl,Below.refl _ _⟩
theorem akf(A:Nat->Addr)(B:Nat)(v:Value)(k:C.Kt)(s:ByteArray)(n:Int)(e:ByteArray)(d:Int)(w:World)(Z2:WZ w v k)(Z0:VT k)(_:s.size<=260)(_:e.size<=60)(hS:Sw A B w)(Z8:C.ad k=false):
  Calls prog 29 #[v,.string s,Z9 n,.string e,Z9 d] w λX1 w'=>X1=.returned (.tuple #[.string (bs (C.aT k s.data.toList n e.data.toList d)),Z9 (C.aU k s.data.toList n e.data.toList d)])/\Z6 w w':=by
 obtain⟨R2,V,rfl,VS,ZN,ZR,ZF,Yx,Xb⟩:=PO Z2 hS;have WU:=bx (ZR.o.trans ((Xl V (.cells #[.string e] 9)).mono ZR.o.size));have Uk:=bx (λ(Z8:C.ad k=false)=>D5 A B _ (.slice (some ⟨V.heap.size,0,none⟩) 1 1) k s [e.data.toList] _ (Yx.o _ WU.o) Z0 (Xb.o _ WU.o) Z8 (JC V e 9));obtain⟨EO,OV⟩:∃v,v=HP d:=⟨_,rfl⟩
 obtain⟨Ge,Nl⟩:∃b,b=(decide (0<=d)&&decide (d<=2)):=⟨_,rfl⟩
 have OE:=bx (λh W(Yj:W.heap[h]?=some (.map #[Mk,L0,Lk] 3))=>Ad d h W Yj);rw[<-OV,<-Nl]at OE;have X9:=bx (Uk.o Z8);have ZK:=bx (C.acw (s:=s.data.toList) (e:=e.data.toList) (n:=n) (d:=d) Z8);clear Uk Z8 Z0 hS Yx OV Nl;have ZA:=ZF.o V YU
 go_in
 go_upto_region 1 with(fail)
 rw[<-ZN.o];go_wp2_with (refine X8 rfl _ rfl _ rfl ZA VS ?_)
 refine X7 X9.o WU.o λZV ZW=>?_
 clear ZA;go_wp2_with fail;refine(AF ZV).mono ?_;rintro X1 ZB ⟨rfl,hm,Zz⟩;have Zt:=Zw ZW Zz;have Ug:=OE.o _ ZB hm;clear Zz;go_wp2_with fail;refine X7 (JM (160) ZB (Xb.o ZB Zt.o).t) Zt.o λ_ UD=>?_
 go_wp2
 go_ret2
 exact⟨by rw[ZK.o.1,ZK.o.2] <;> rfl,UD.o⟩
theorem alg(A:Nat->Addr)(B:Nat)(v:Value)(k:C.Kt)(s:ByteArray)(n:Int)(e:ByteArray)(d:Int)(w:World)(Z2:WZ w v k)(Z0:VT k)(ZY:s.size<=260)(Xj:e.size<=60)(hS:Sw A B w)(Z8:C.ad k=true)(ZP:n<0\/300<n):
  Calls prog 29 #[v,.string s,Z9 n,.string e,Z9 d] w λX1 w'=>X1=.returned (.tuple #[.string (bs (C.aT k s.data.toList n e.data.toList d)),Z9 (C.aU k s.data.toList n e.data.toList d)])/\Z6 w w':=by
 obtain⟨R2,V,rfl,VS,ZN,ZR,ZF,Yx,Xb⟩:=PO Z2 hS;have WU:=bx (ZR.o.trans ((Xl V (.cells #[.string e] 9)).mono ZR.o.size));have VJ:=bx (λ(Z8:C.ad k=true)(ZY:s.size<=600)(hp:e.size<=60)=>Mj A B _ (.slice (some ⟨V.heap.size,0,none⟩) 1 1) k s [e.data.toList] _ (Yx.o _ WU.o) Z0 (Xb.o _ WU.o) Z8 (JC V e 9) ZY (by simp) (λ_ _=>by simp_all));obtain⟨EO,OV⟩:∃v,v=HP d:=⟨_,rfl⟩
 obtain⟨Ge,Nl⟩:∃b,b=(decide (0<=d)&&decide (d<=2)):=⟨_,rfl⟩
 have OE:=bx (λh W(Yj:W.heap[h]?=some (.map #[Mk,L0,Lk] 3))=>Ad d h W Yj);rw[<-OV,<-Nl]at OE;have X9:=bx (VJ.o Z8 (by omega) Xj);have V6:s.data.toList.length<=600:=by grind[size_eq]
 have Tz:e.data.toList.length<=60:=by simp_all
 have Uu:=bx (λg W(h:Z6 w W)(ZH:PB W g k)=>EX A B g k 2 e W ZH Z0 (by omega) (hS.below h));have ZK:=bx (C.dp (s:=s.data.toList) (e:=e.data.toList) (n:=n) (d:=d) (r:=161) Z8 V6 Tz (by omega) (by decide));clear VJ Z8 Z0 hS ZY Xj Yx OV Nl V6 Tz Uu
 rcases ZP with ZP|ZP
 rotate_left
 focus
  have d0:decide (n<0)=false:=Yp (by omega)
 rotate_left
 all_goals
  have d1:=Yh ZP;have ZA:=ZF.o V YU
  go_in
  go_upto_region 1 with(fail)
  rw[<-ZN.o];go_wp2_with (refine X8 rfl _ rfl _ rfl ZA VS ?_)
  refine X9.o.mono ?_;rintro X1 ZV ⟨⟨g,rfl,Vk,-⟩,ZZ⟩;have ZW:=Zw WU ZZ;have RC:=bx Vk;clear ZZ Vk ZA;go_wp2_with fail;refine(AF ZV).mono ?_;rintro X1 ZB ⟨rfl,hm,Zz⟩;have Zt:=Zw ZW Zz;have Ug:=OE.o _ ZB hm;clear Zz
  go_wp2
  go_ret2
  exact⟨by rw[ZK.o.1,ZK.o.2] <;> rfl,Zt.o⟩
theorem aqh(A:Nat->Addr)(B:Nat)(v:Value)(k:C.Kt)(s:ByteArray)(n:Int)(e:ByteArray)(d:Int)(w:World)(Z2:WZ w v k)(Z0:VT k)(ZY:s.size<=260)(Xj:e.size<=60)(hS:Sw A B w)(Z8:C.ad k=true)(_:¬(n<0\/300<n))(_:d<0\/2<d):
  Calls prog 29 #[v,.string s,Z9 n,.string e,Z9 d] w λX1 w'=>X1=.returned (.tuple #[.string (bs (C.aT k s.data.toList n e.data.toList d)),Z9 (C.aU k s.data.toList n e.data.toList d)])/\Z6 w w':=by
 obtain⟨R2,V,rfl,VS,ZN,ZR,ZF,Yx,Xb⟩:=PO Z2 hS;have WU:=bx (ZR.o.trans ((Xl V (.cells #[.string e] 9)).mono ZR.o.size));have VJ:=bx (λ(Z8:C.ad k=true)(ZY:s.size<=600)(hp:e.size<=60)=>Mj A B _ (.slice (some ⟨V.heap.size,0,none⟩) 1 1) k s [e.data.toList] _ (Yx.o _ WU.o) Z0 (Xb.o _ WU.o) Z8 (JC V e 9) ZY (by simp) (λ_ _=>by simp_all));obtain⟨EO,OV⟩:∃v,v=HP d:=⟨_,rfl⟩
 obtain⟨Ge,Nl⟩:∃b,b=(decide (0<=d)&&decide (d<=2)):=⟨_,rfl⟩
 have OE:=bx (λh W(Yj:W.heap[h]?=some (.map #[Mk,L0,Lk] 3))=>Ad d h W Yj);rw[<-OV,<-Nl]at OE;have X9:=bx (VJ.o Z8 (by omega) Xj);have V6:s.data.toList.length<=600:=by grind[size_eq]
 have Tz:e.data.toList.length<=60:=by simp_all
 have Uu:=bx (λg W(h:Z6 w W)(ZH:PB W g k)=>EX A B g k 2 e W ZH Z0 (by omega) (hS.below h));have d0:decide (n<0)=false:=Yp (by omega);have d1:decide (300<n)=false:=Yp (by omega);have ZK:=bx (C.dp (s:=s.data.toList) (e:=e.data.toList) (n:=n) (d:=d) (r:=2) Z8 V6 Tz (by omega) (by decide));obtain rfl:Ge=false:=by
  grind
 clear VJ Z8 Z0 hS ZY Xj Yx OV Nl V6 Tz Uu;have ZA:=ZF.o V YU
 go_in
 go_upto_region 1 with(fail)
 rw[<-ZN.o];go_wp2_with (refine X8 rfl _ rfl _ rfl ZA VS ?_)
 refine X9.o.mono ?_;rintro X1 ZV ⟨⟨g,rfl,Vk,-⟩,ZZ⟩;have ZW:=Zw WU ZZ;have RC:=bx Vk;clear ZZ Vk ZA;go_wp2_with fail;refine(AF ZV).mono ?_;rintro X1 ZB ⟨rfl,hm,Zz⟩;have Zt:=Zw ZW Zz;have Ug:=OE.o _ ZB hm;clear Zz
 go_wp2
 go_ret2
 exact⟨by rw[ZK.o.1,ZK.o.2] <;> rfl,Zt.o⟩
theorem amK(A:Nat->Addr)(B:Nat)(v:Value)(k:C.Kt)(s:ByteArray)(n:Int)(e:ByteArray)(d:Int)(w:World)(Z2:WZ w v k)(Z0:VT k)(ZY:s.size<=260)(Xj:e.size<=60)(hS:Sw A B w)(Z8:C.ad k=true)(ZP:¬(n<0\/300<n))(Zm:¬(d<0\/2<d))(RV:¬(C.ah (C.kg k 2) e.data.toList=0))(Ke:d=0):
  Calls prog 29 #[v,.string s,Z9 n,.string e,Z9 d] w λX1 w'=>X1=.returned (.tuple #[.string (bs (C.aT k s.data.toList n e.data.toList d)),Z9 (C.aU k s.data.toList n e.data.toList d)])/\Z6 w w':=by
 obtain⟨R2,V,rfl,VS,ZN,ZR,ZF,Yx,Xb⟩:=PO Z2 hS;have WU:=bx (ZR.o.trans ((Xl V (.cells #[.string e] 9)).mono ZR.o.size));have VJ:=bx (λ(Z8:C.ad k=true)(ZY:s.size<=600)(hp:e.size<=60)=>Mj A B _ (.slice (some ⟨V.heap.size,0,none⟩) 1 1) k s [e.data.toList] _ (Yx.o _ WU.o) Z0 (Xb.o _ WU.o) Z8 (JC V e 9) ZY (by simp) (λp _=>by simp_all));obtain⟨EO,OV⟩:∃v,v=HP d:=⟨_,rfl⟩
 obtain⟨Ge,Nl⟩:∃b,b=(decide (0<=d)&&decide (d<=2)):=⟨_,rfl⟩
 have OE:=bx (λh W(Yj:W.heap[h]?=some (.map #[Mk,L0,Lk] 3))=>Ad d h W Yj);rw[<-OV,<-Nl]at OE;have X9:=bx (VJ.o Z8 (by omega) Xj);have V6:s.data.toList.length<=600:=by grind[size_eq]
 have Tz:e.data.toList.length<=60:=by simp_all
 have Uu:=bx (λg W(h:Z6 w W)(ZH:PB W g k)=>EX A B g k 2 e W ZH Z0 (by omega) (hS.below h));have d0:decide (n<0)=false:=Yp (by omega);have d1:decide (300<n)=false:=Yp (by omega);obtain rfl:Ge=true:=by grind
 have ZK:=bx (C.eI (s:=s.data.toList) (e:=e.data.toList) (n:=n) (d:=d) Z8 V6 Tz ⟨by omega,by omega⟩ ⟨by omega,by omega⟩ RV);obtain⟨p,hp⟩:∃p,C.ck (C.kg k 2) (C.ab k.c e.data.toList) p:=by
  have h:=RV;unfold C.ah at h;rw[Y0 (C.bd (s:=e.data.toList) (C.db Z8 (i:=2) (by decide) (by decide)) (by omega))]at h;exact C.ee h
 have TR:=bx (λg W(h:Z6 w W)(ZH:PB W g k)=>EX A B g k 2 s W ZH Z0 (by omega) (hS.below h));have Tn:=bx (λg(c:Int)(ZL:c<=300) W (h:Z6 w W) (ZH:PB W g k)=>nE A B g p k e c W ZH Z0 Z8 Xj ZL hp (hS.below h));have KH:=bx (λW(h:Z6 w W)=>E7 A B s W (by omega) (hS.below h).e (hS.below h).le);have VB:=bx (λ(c:Int)(ZL:c<=300)=>C.eG (e:=e.data.toList) Z8 Tz ZL);have K7:=C.ba s.data.toList;rw[<-size_eq]at K7;have Oo:(C.ah (C.kg k 2) e.data.toList==0)=false:=by grind
 obtain⟨c,ZL⟩:∃c,c=C.dm k s.data.toList n:=⟨_,rfl⟩
 have Jg:max (n-C.ah (C.kg k 2) s.data.toList) 0=c:=by rw[ZL];rfl
 rw[<-ZL]at ZK;have N6:0<=C.ah (C.kg k 2) s.data.toList:=by
  unfold C.ah
  split
  ·exact C.di _ _ _
  omega
 have LF:C.ah (C.kg k 2) s.data.toList<=8000000:=qt (by omega);have Vl:0<=c:=by omega
 have Ph:c<=300:=by omega
 have Vs:=C.eC k e.data.toList;subst Ke;obtain rfl:EO=Mk.val:=by rw[OV];rfl
 have VX:C.aT k s.data.toList n e.data.toList 0=(C.aw k e.data.toList c++M.fix s.data.toList)++C.aw k e.data.toList 0:=by
  rw[ZK.o.1];grind[C.dH]
 have UK:=bx (show C.aT k s.data.toList n e.data.toList 0=(C.aw k e.data.toList c++M.fix s.data.toList)++C.aw k e.data.toList 0/\C.aU k s.data.toList n e.data.toList 0=0 from⟨VX,ZK.o.2⟩);have Sv:=VB.o c (by omega);have Ni:=VB.o 0 (by omega);have CO:=bx (λg=>Tn.o g c (by omega));have CN:=bx (λg=>Tn.o g 0 (by omega));have a1:=NY (C.aw k e.data.toList c) (M.fix s.data.toList);have a2:=NY (C.aw k e.data.toList c++M.fix s.data.toList) (C.aw k e.data.toList 0);have UB:(bs (C.aw k e.data.toList c)).size+(bs (M.fix s.data.toList)).size<=100000000:=by grind[Wu]
 have z2:(bs (C.aw k e.data.toList c++M.fix s.data.toList)).size+(bs (C.aw k e.data.toList 0)).size<=100000000:=by grind
 obtain⟨pa,FW⟩:∃t,t=C.aw k e.data.toList c:=⟨_,rfl⟩
 rw[<-FW]at UK CO a1 a2 UB z2;obtain⟨YM,NC⟩:∃t,t=C.aw k e.data.toList 0:=⟨_,rfl⟩
 rw[<-NC]at UK CN a2 z2;generalize M.fix s.data.toList=RW at UK KH a1 a2 UB z2;generalize C.ah (C.kg k 2) e.data.toList=me at Uu Oo;generalize C.ah (C.kg k 2) s.data.toList=ms at TR Jg N6 LF;have wb:=bx (λW=>ak9 c W);have z3:(bs pa).size+RW.length<=100000000:=by grind[Wu]
 have z4:(bs (pa++RW)).size+YM.length<=100000000:=by grind
 have agh:HP 0=(.func (.func 137) #[] #[]:Value):=rfl;have kv:(Mk).val=(.func (.func 137) #[] #[]:Value):=rfl;have CY:wrap64 (n-ms)=n-ms:=IntWalk.wrap64_in _ (by omega);clear VJ Z8 Z0 hS ZY Xj Yx Nl V6 Tz Tn VB VX Sv Ni ZK K7 RV hp ZL Vs ZP Zm FW NC;have ZA:=ZF.o V YU
 go_in
 go_upto_region 1 with(fail)
 rw[<-ZN.o];go_wp2_with (refine X8 rfl _ rfl _ rfl ZA VS ?_)
 refine X9.o.mono ?_;rintro X1 ZV ⟨⟨g,rfl,Vk,-⟩,ZZ⟩;have ZW:=Zw WU ZZ;have RC:=bx Vk;clear ZZ Vk ZA;go_wp2_with fail;refine(AF ZV).mono ?_;rintro X1 ZB ⟨rfl,hm,Zz⟩;have Zt:=Zw ZW Zz;have Ug:=OE.o _ ZB hm;have E6:=bx (RC.o.below Zz);clear Zz;go_wp2_with fail;refine Y3 (Uu.o g ZB Zt.o E6.o) λZh Zb=>?_
 have YY:=Zw Zt Zb;have Ch:=bx (E6.o.below Zb);clear Zb;go_wp2_with fail;refine Y3 (TR.o g Zh YY.o Ch.o) λYL Yf=>?_
 have Ye:=Zw YY Yf;have w0:=bx (Ch.o.below Yf);clear Yf;go_wp2_with fail;refine Y3 (wb.o YL) λYK X0=>?_
 have X6:=Zw Ye X0;have BZ:=bx (w0.o.below X0);clear X0;go_wp2_with fail;refine Y3 (CO.o g YK X6.o BZ.o) λXA Sy=>?_
 have VN:=Zw X6 Sy;have u6:=bx (BZ.o.below Sy);clear Sy;go_wp2_with fail;refine Y3 (KH.o XA VN.o) λXi Rh=>?_
 have XM:=Zw VN Rh;have BY:=bx (u6.o.below Rh);clear Rh;go_wp2_with fail
 any_goals (first|(exfalso;omega)|skip)
 refine Y3 (CN.o g Xi XM.o BY.o) λ_ Rx=>?_
 have Tw:=Zw XM Rx;have ab5:=bx (BY.o.below Rx);clear Rx;go_wp2_with fail
 any_goals (first|(exfalso;omega)|skip)
 go_ret2
 exact⟨by rw[UK.o.1,UK.o.2] <;> rfl,Tw.o⟩
theorem awf(A:Nat->Addr)(B:Nat)(v:Value)(k:C.Kt)(s:ByteArray)(n:Int)(e:ByteArray)(d:Int)(w:World)(Z2:WZ w v k)(Z0:VT k)(ZY:s.size<=260)(Xj:e.size<=60)(hS:Sw A B w)(Z8:C.ad k=true)(ZP:¬(n<0\/300<n))(Zm:¬(d<0\/2<d))(RV:¬(C.ah (C.kg k 2) e.data.toList=0))(Ke:d=1):
  Calls prog 29 #[v,.string s,Z9 n,.string e,Z9 d] w λX1 w'=>X1=.returned (.tuple #[.string (bs (C.aT k s.data.toList n e.data.toList d)),Z9 (C.aU k s.data.toList n e.data.toList d)])/\Z6 w w':=by
 obtain⟨R2,V,rfl,VS,ZN,ZR,ZF,Yx,Xb⟩:=PO Z2 hS;have WU:=bx (ZR.o.trans ((Xl V (.cells #[.string e] 9)).mono ZR.o.size));have VJ:=bx (λ(Z8:C.ad k=true)(ZY:s.size<=600)(hp:e.size<=60)=>Mj A B _ (.slice (some ⟨V.heap.size,0,none⟩) 1 1) k s [e.data.toList] _ (Yx.o _ WU.o) Z0 (Xb.o _ WU.o) Z8 (JC V e 9) ZY (by simp) (λp _=>by simp_all));obtain⟨EO,OV⟩:∃v,v=HP d:=⟨_,rfl⟩
 obtain⟨Ge,Nl⟩:∃b,b=(decide (0<=d)&&decide (d<=2)):=⟨_,rfl⟩
 have OE:=bx (λh W(Yj:W.heap[h]?=some (.map #[Mk,L0,Lk] 3))=>Ad d h W Yj);rw[<-OV,<-Nl]at OE;have X9:=bx (VJ.o Z8 (by omega) Xj);have V6:s.data.toList.length<=600:=by grind[size_eq]
 have Tz:e.data.toList.length<=60:=by simp_all
 have Uu:=bx (λg W(h:Z6 w W)(ZH:PB W g k)=>EX A B g k 2 e W ZH Z0 (by omega) (hS.below h));have d0:decide (n<0)=false:=Yp (by omega);have d1:decide (300<n)=false:=Yp (by omega);obtain rfl:Ge=true:=by grind
 have ZK:=bx (C.eI (s:=s.data.toList) (e:=e.data.toList) (n:=n) (d:=d) Z8 V6 Tz ⟨by omega,by omega⟩ ⟨by omega,by omega⟩ RV);obtain⟨p,hp⟩:∃p,C.ck (C.kg k 2) (C.ab k.c e.data.toList) p:=by
  have h:=RV;unfold C.ah at h;rw[Y0 (C.bd (s:=e.data.toList) (C.db Z8 (i:=2) (by decide) (by decide)) (by omega))]at h;exact C.ee h
 have TR:=bx (λg W(h:Z6 w W)(ZH:PB W g k)=>EX A B g k 2 s W ZH Z0 (by omega) (hS.below h));have Tn:=bx (λg(c:Int)(ZL:c<=300) W (h:Z6 w W) (ZH:PB W g k)=>nE A B g p k e c W ZH Z0 Z8 Xj ZL hp (hS.below h));have KH:=bx (λW(h:Z6 w W)=>E7 A B s W (by omega) (hS.below h).e (hS.below h).le);have VB:=bx (λ(c:Int)(ZL:c<=300)=>C.eG (e:=e.data.toList) Z8 Tz ZL);have K7:=C.ba s.data.toList;rw[<-size_eq]at K7;have Oo:(C.ah (C.kg k 2) e.data.toList==0)=false:=by grind
 obtain⟨c,ZL⟩:∃c,c=C.dm k s.data.toList n:=⟨_,rfl⟩
 have Jg:max (n-C.ah (C.kg k 2) s.data.toList) 0=c:=by rw[ZL];rfl
 rw[<-ZL]at ZK;have N6:0<=C.ah (C.kg k 2) s.data.toList:=by
  unfold C.ah
  split
  ·exact C.di _ _ _
  omega
 have LF:C.ah (C.kg k 2) s.data.toList<=8000000:=qt (by omega);have Vl:0<=c:=by omega
 have Ph:c<=300:=by omega
 have Vs:=C.eC k e.data.toList;subst Ke;obtain rfl:EO=L0.val:=by rw[OV];rfl
 have VX:C.aT k s.data.toList n e.data.toList 1=(C.aw k e.data.toList 0++M.fix s.data.toList)++C.aw k e.data.toList c:=by
  rw[ZK.o.1];rfl
 have UK:=bx (show C.aT k s.data.toList n e.data.toList 1=(C.aw k e.data.toList 0++M.fix s.data.toList)++C.aw k e.data.toList c/\C.aU k s.data.toList n e.data.toList 1=0 from⟨VX,ZK.o.2⟩);have Sv:=VB.o 0 (by omega);have Ni:=VB.o c (by omega);have CO:=bx (λg=>Tn.o g 0 (by omega));have CN:=bx (λg=>Tn.o g c (by omega));have a1:=NY (C.aw k e.data.toList 0) (M.fix s.data.toList);have a2:=NY (C.aw k e.data.toList 0++M.fix s.data.toList) (C.aw k e.data.toList c);have UB:(bs (C.aw k e.data.toList 0)).size+(bs (M.fix s.data.toList)).size<=100000000:=by grind[Wu]
 have z2:(bs (C.aw k e.data.toList 0++M.fix s.data.toList)).size+(bs (C.aw k e.data.toList c)).size<=100000000:=by rw[Wu,Wu,WR];omega
 obtain⟨pa,FW⟩:∃t,t=C.aw k e.data.toList 0:=⟨_,rfl⟩
 rw[<-FW]at UK CO a1 a2 UB z2;obtain⟨YM,NC⟩:∃t,t=C.aw k e.data.toList c:=⟨_,rfl⟩
 rw[<-NC]at UK CN a2 z2;generalize M.fix s.data.toList=RW at UK KH a1 a2 UB z2;generalize C.ah (C.kg k 2) e.data.toList=me at Uu Oo;generalize C.ah (C.kg k 2) s.data.toList=ms at TR Jg N6 LF;have wb:=bx (λW=>asG c W);have z3:(bs pa).size+RW.length<=100000000:=by grind[Wu]
 have z4:(bs (pa++RW)).size+YM.length<=100000000:=by grind[Wu]
 have agh:HP 1=(.func (.func 138) #[] #[]:Value):=rfl;have kv:(L0).val=(.func (.func 138) #[] #[]:Value):=rfl;have CY:wrap64 (n-ms)=n-ms:=IntWalk.wrap64_in _ (by omega);clear VJ Z8 Z0 hS ZY Xj Yx Nl V6 Tz Tn VB VX Sv Ni ZK K7 RV hp ZL Vs ZP Zm FW NC;have ZA:=ZF.o V YU
 go_in
 go_upto_region 1 with(fail)
 rw[<-ZN.o];go_wp2_with (refine X8 rfl _ rfl _ rfl ZA VS ?_)
 refine X9.o.mono ?_;rintro X1 ZV ⟨⟨g,rfl,Vk,-⟩,ZZ⟩;have ZW:=Zw WU ZZ;have RC:=bx Vk;clear ZZ Vk ZA;go_wp2_with fail;refine(AF ZV).mono ?_;rintro X1 ZB ⟨rfl,hm,Zz⟩;have Zt:=Zw ZW Zz;have Ug:=OE.o _ ZB hm;have E6:=bx (RC.o.below Zz);clear Zz;go_wp2_with fail;refine Y3 (Uu.o g ZB Zt.o E6.o) λZh Zb=>?_
 have YY:=Zw Zt Zb;have Ch:=bx (E6.o.below Zb);clear Zb;go_wp2_with fail;refine Y3 (TR.o g Zh YY.o Ch.o) λYL Yf=>?_
 have Ye:=Zw YY Yf;have w0:=bx (Ch.o.below Yf);clear Yf;go_wp2_with fail;refine Y3 (wb.o YL) λYK X0=>?_
 have X6:=Zw Ye X0;have BZ:=bx (w0.o.below X0);clear X0;go_wp2_with fail;refine Y3 (CO.o g YK X6.o BZ.o) λXA Sy=>?_
 have VN:=Zw X6 Sy;have u6:=bx (BZ.o.below Sy);clear Sy;go_wp2_with fail;refine Y3 (KH.o XA VN.o) λXi Rh=>?_
 have XM:=Zw VN Rh;have BY:=bx (u6.o.below Rh);clear Rh;go_wp2_with fail
 any_goals (first|(exfalso;omega)|skip)
 refine Y3 (CN.o g Xi XM.o BY.o) λ_ Rx=>?_
 have Tw:=Zw XM Rx;have ab5:=bx (BY.o.below Rx);clear Rx;go_wp2_with fail
 any_goals (first|(exfalso;omega)|skip)
 go_ret2
 exact⟨by rw[UK.o.1,UK.o.2] <;> rfl,Tw.o⟩
theorem aq5(A:Nat->Addr)(B:Nat)(v:Value)(k:C.Kt)(s:ByteArray)(n:Int)(e:ByteArray)(d:Int)(w:World)(Z2:WZ w v k)(Z0:VT k)(ZY:s.size<=260)(Xj:e.size<=60)(hS:Sw A B w):
  Calls prog 29 #[v,.string s,Z9 n,.string e,Z9 d] w λX1 w'=>X1=.returned (.tuple #[.string (bs (C.aT k s.data.toList n e.data.toList d)),Z9 (C.aU k s.data.toList n e.data.toList d)])/\Z6 w w':=by
 cases Z8:C.ad k with
 |false=>exact akf A B v k s n e d w Z2 Z0 ZY Xj hS Z8
 |true=>
  by_cases ZP:n<0\/300<n
  ·exact alg A B v k s n e d w Z2 Z0 ZY Xj hS Z8 ZP
  by_cases Zm:d<0\/2<d
  ·exact aqh A B v k s n e d w Z2 Z0 ZY Xj hS Z8 ZP Zm
  by_cases RV:C.ah (C.kg k 2) e.data.toList=0
  ·exact aax A B v k s n e d w Z2 Z0 ZY Xj hS Z8 ZP Zm RV
  rcases(show d=0\/d=1\/d=2 by omega)with Ke|Ke|Ke
  ·exact amK A B v k s n e d w Z2 Z0 ZY Xj hS Z8 ZP Zm RV Ke
  ·exact awf A B v k s n e d w Z2 Z0 ZY Xj hS Z8 ZP Zm RV Ke
  exact aeY A B v k s n e d w Z2 Z0 ZY Xj hS Z8 ZP Zm RV Ke
theorem lZ(v:Value)(g:C.Ga)(s:ByteArray)(xs:List Int)(w:World)(Z2:Qy w v g)(ZM:F.aE g.w.p=true)(Z4:U.scalars s.data.toList=some xs)(ZY:s.size<=4000):
  Calls prog 270 #[v,.string s] w λe w'=>e=.returned (Z9 (C.meas g xs))/\Z6 w w':=by
 have Vb:=bx (λW(h:Z6 w W)=>Z2.below h);obtain⟨Yk,ZP⟩:∃n,n=g.t.n:=⟨_,rfl⟩
 obtain⟨wd,XS⟩:∃b,b=g.w.wide:=⟨_,rfl⟩
 obtain⟨gk,V8⟩:∃k,k=g.k:=⟨_,rfl⟩
 have DH:=bx V8;obtain⟨pi,YM,Y2,Zo,Za,ZD,bv,rfl,Z7,Z5⟩:=Z2;rw[<-ZP]at Z7;rw[<-XS]at Z5;rw[<-ZP,<-XS,<-V8]at Vb;rw[<-ZP,<-XS,<-V8];obtain⟨V,ZO⟩:∃V,V=w.alloc (.cells #[Z9 Yk,pi,YM,Y2,Zo,Za,ZD,bv,.bool wd,Z9 gk] 57):=⟨_,rfl⟩
 have ZR:=bx (aB ZO);have Ze:=bx (aK ZO);have ZF:=bx (λW(h:Z6 V W)=>Ze.o.c10 h);have ZN:=bx ZO;have NW:=bx (λW(h:Z6 w W)=>Z7.below h);have D6:=bx (λW(h:Z6 w W)=>Z5.below h);clear ZP XS V8 Z7 Z5 ZO;have Rz:=bx (λW(h:Z6 w W)=>sF _ g.w s xs W (D6.o W h) ZM Z4 ZY);have Wy:=bx (show(s.size:Int)=((U.textOf xs).length:Int) by grind[U.bI,size_eq]);have Uu:=bx (show C.meas g xs=if gk=0 then((U.textOf xs).length:Int)else if gk=1 then 1 else C.aq g.w xs by rw[DH.o];rfl);generalize C.meas g xs=res at Uu⊢;clear ZM Z4 ZY;obtain⟨Zd,Zx,Zr,Zk,Zl,Zg,XK,W9,W8,W7,YS⟩:=ZF.o V YU
 go_in
 go_upto_region 1 with(fail)
 rw[<-ZN.o]
 by_cases ZI:gk=0
 ·subst ZI;have ZK:=bx (show res=(s.size:Int) by rw[Uu.o,Y0 rfl,Wy.o])
  go_wp2
  go_ret
  exact⟨by rw[ZK.o];rfl,ZR.o⟩
 by_cases Z7:gk=1
 ·subst Z7;have ZK:=bx (show res=1 by rw[Uu.o,Y4 (by decide),Y0 rfl]);clear ZI
  go_wp2
  go_ret
  exact⟨by rw[ZK.o];rfl,ZR.o⟩
 have ZK:=bx (show res=C.aq g.w xs by rw[Uu.o,Y4 ZI,Y4 Z7]);have OZ:=beq_false_of_ne ZI;have Wx:=beq_false_of_ne Z7;generalize C.aq g.w xs=CQ at Rz ZK;clear ZI Z7 Uu;go_wp2_with fail;refine X7 (Rz.o V ZR.o) ZR.o λ_ ZW=>?_
 go_wp2
 go_ret
 exact⟨by rw[ZK.o];rfl,ZW.o⟩
theorem b6{g:C.Ga}{s:List UInt8}(_:C.aA g=false):C.aG g s=150:=by
 grind[C.aG]
theorem mQ{g:C.Ga}(h:C.aA g=true):F.aE g.w.p=true:=by
 have:=(C.dS h).2.1;grind[C.aS]
theorem wl{g:C.Ga}{s:List UInt8}(h:C.aA g=false):C.cr g s=[]:=by
 unfold C.cr;rw[b6 h,Y4 (by decide)]
theorem nL{t:Tab}{s:ByteArray}(_:s.size<=299):∀y∈C.ab t s.data.toList,(U.textOf y).length<=4000:=by
 intro y ZJ;have ZT:=(QR t s.data.toList).2;unfold C.ab at ZJ;obtain⟨i,hi,rfl⟩:=SL.1 ZJ;have QZ:i+1<(Wc t s.data.toList).length:=by
  grind
 have ZS:=C.eB (xs:=Xw s.data.toList) ZT QZ;have ZG:=C.cJ (xs:=Xw s.data.toList) (ns:=Wc t s.data.toList) QZ;rw[<-C.cg]at ZG;have Zi:=C.ba s.data.toList;grind[C.piece,size_eq]
theorem vO{g:C.Ga}{s:List UInt8}(_:C.aG g s=0):C.cr g s=C.marks g (C.ab g.t s):=by
 grind[C.cr]
theorem lQ(v:Value)(g:C.Ga)(s:ByteArray)(w:World)(Z2:Qy w v g)(Z0:Sr g.t)(hw:Pp g.w)(ZY:s.size<=299):
  Calls prog 203 #[v,.string s] w λe w'=>(∃Zy,e=.returned (.tuple #[Zy,Z9 (C.aG g s.data.toList)])/\Y6 w' Zy (C.cr g s.data.toList))/\Z6 w w':=by
 have Vb:=bx (λW(h:Z6 w W)=>Z2.below h);obtain⟨Yk,ZP⟩:∃n,n=g.t.n:=⟨_,rfl⟩
 obtain⟨wd,XS⟩:∃b,b=g.w.wide:=⟨_,rfl⟩
 obtain⟨gk,V8⟩:∃k,k=g.k:=⟨_,rfl⟩
 have DH:=bx V8;obtain⟨pi,YM,Y2,Zo,Za,ZD,bv,rfl,Z7,Z5⟩:=Z2;rw[<-ZP]at Z7;rw[<-XS]at Z5;rw[<-ZP,<-XS,<-V8]at Vb;rw[<-ZP,<-XS,<-V8];obtain⟨V,ZO⟩:∃V,V=w.alloc (.cells #[Z9 Yk,pi,YM,Y2,Zo,Za,ZD,bv,.bool wd,Z9 gk] 57):=⟨_,rfl⟩
 have ZR:=bx (aB ZO);have Ze:=bx (aK ZO);have ZF:=bx (λW(h:Z6 V W)=>Ze.o.c10 h);have ZN:=bx ZO;have NW:=bx (λW(h:Z6 w W)=>Z7.below h);have D6:=bx (λW(h:Z6 w W)=>Z5.below h);clear ZP XS V8 Z7 Z5 ZO;have Xx:=bx (sR _ g V (Vb.o V ZR.o) Z0 hw)
 cases WG:C.aA g with
 |false=>
  rw[b6 WG,wl WG];rw[WG]at Xx;clear Z0 hw ZY WG;obtain⟨Zd,Zx,Zr,Zk,Zl,Zg,XK,W9,W8,W7,YS⟩:=ZF.o V YU
  go_in
  go_upto_region 1 with(fail)
  rw[<-ZN.o];go_wp2_with fail;refine X7 Xx.o ZR.o λZV ZW=>?_
  clear Zd Zx Zr Zk Zl Zg XK W9 W8 W7 YS
  go_wp2
  go_ret2
  exact⟨⟨_,rfl,.nil⟩,ZW.o⟩
 |true=>
  have Rg:=C.bd (s:=s.data.toList) WG (by grind[size_eq]);have R4:=C.bY (s:=s.data.toList) WG (by grind[size_eq]);rw[vO Rg,Rg];have TJ:=bx (λW(h:Z6 w W)=>oE _ g.t s W (NW.o W h) Z0 ZY);have VO:=bx (C.e4 Rg);rw[R4,VO.o]at TJ;have GL:=bx (mQ WG);have Ap:=bx (λy ZJ=>Ah (t:=g.t) (s:=s) (by omega) y ZJ);have vn:=bx (nL (t:=g.t) ZY);obtain⟨ls,Ka⟩:∃ls,ls=C.ab g.t s.data.toList:=⟨_,rfl⟩
  rw[<-Ka]at TJ Ap vn⊢;have RE:=bx (show ls.length<=299 by
   rw[Ka,C.cD];have Z7:=(QR g.t s.data.toList).2.len;have Z5:=OO s.data.toList;grind[size_eq])
  have PD:=bx (show∀k,k<=ls.length->0<=C.aj g ls k/\C.aj g ls k<=8000000 from λk Z3=>⟨C.di g ls k,sK (by have:=RE.o;omega) (λy ZJ=>(Ap.o y ZJ).2.2) k Z3⟩);have w4:=bx (λ(y:List Int)(ZJ:y∈ls) W (h:Z6 w W)=>lZ _ g (bs (U.textOf y)) y W (Vb.o W h) GL.o (by rw[Ky];exact(Ap.o y ZJ).1) (by rw[Wu];exact vn.o y ZJ));have Xx:=bx (WG▸Xx.o);obtain⟨Q,VI⟩:∃Q,ls.length=Q:=⟨_,rfl⟩
  have Xy:=bx VI;have Cx:Q<=299:=by rw[<-VI];exact RE.o
  clear Z0 hw ZY WG Rg R4 Ka VI NW;obtain⟨Zd,Zx,Zr,Zk,Zl,Zg,XK,W9,W8,W7,YS⟩:=ZF.o V YU
  go_in
  go_upto_region 1 with(fail)
  rw[<-ZN.o];go_wp2_with fail;refine Y3 Xx.o λZV ZZ=>?_
  have ZW:=Zw ZR ZZ;have UH:=bx ZZ;clear ZZ Zd Zx Zr Zk Zl Zg XK W9 W8 W7 YS;obtain⟨Zd,Zx,Zr,Zk,Zl,Zg,XK,W9,W8,W7,YS⟩:=ZF.o ZV UH.o;go_wp2_with fail;refine(TJ.o ZV ZW.o).mono ?_;rintro e ZB ⟨⟨v2,rfl,SN⟩,Zz⟩;have Zt:=Zw ZW Zz;have UA:=Zw UH Zz;have Uv:=bx SN;obtain⟨Yr,lc,rfl,-⟩:=SN.slice;rw[X4,Xy.o]at Uv⊢;clear Zz SN Zd Zx Zr Zk Zl Zg XK W9 W8 W7 YS;go_wp2_with fail;have XI:=bx (show Sep (RO ZB.heap.size ZB (.slice (some ⟨ZB.heap.size,0,none⟩) 1 1) ((C.marks g ls).take (0+1))) (ZB.alloc (.cells #[Z9 0] 3)) by
   rw[show(C.marks g ls).take (0+1)=[0] by rw[C.dL g ls (OQ _)];rfl];exact(Sep.start ZB).got (base:=ZB.heap.size) (Xl ZB _) (World.ownsRow_lit (base:=ZB.heap.size) (e:=3) (size:=1) ZB #[Z9 0] 1 Ys (by simp[maxLen]) rfl) Ys)
  go_loopw[8,9] (λYd i wr=>∃k:Nat,k<=Q/\i=Z9 k/\Box (Sep (RO ZB.heap.size ZB Yd ((C.marks g ls).take (k+1))) wr)) (λ_ i _=>Q-(intOf i).toNat)
  ·grind
  obtain⟨k,Z3,rfl,YC⟩:=hrel;have XW:=bx (G5 YC.o);have YA:=bx (bt Zt.o XW.o)
  by_cases Zu:k<Q
  ·obtain⟨y,ZJ⟩:=Yg ls k (by rw[Xy.o];omega);obtain⟨Vx,lo,G0,Zq,YP,Yb,WW,VK⟩:=Uv.o.get (by intro h;simp_all);rw[X4,Xy.o]at Zq YP;obtain⟨rfl,rfl⟩:=XN Zq;have Ck:=VK k (U.textOf y) (by grind);have Nh:((C.marks g ls).take (k+1)).length=k+1:=by rw[SW,C.dc,Xy.o];omega
   obtain⟨Tv,UP,qZ,S3,RZ,Lw,FI,FH⟩:=(DD YC.o).1.get (by grind);rw[Nh]at S3 RZ;subst S3;have Ai:=FH k (C.aj g ls k) (by grind[List.getElem?_take_of_lt,C.dj]);have U1:=bx (C.dL g ls (k:=k+1) (by grind));have Xb:=bx (C.dQ g ls ZJ);have Wy:=bx (PD.o (k+1) (by grind));have An:=bx (λW h=>w4.o y (Xh ZJ) W h);obtain⟨Gg,EN⟩:∃S,S=C.aj g ls k:=⟨_,rfl⟩
   obtain⟨HE,Pz⟩:∃S,S=C.aj g ls (k+1):=⟨_,rfl⟩
   rw[<-EN]at Ai Xb;rw[<-Pz]at Xb Wy U1;have V0:=bx Pz;have F7:IntKind.i64.wrap (Gg+C.meas g y)=HE:=by
    have Z7:=Xb.o;have Z5:=Wy.o;rw[QN];omega
   generalize C.meas g y=M0 at An F7;have MR:=bx Nh;generalize(C.marks g ls).take (k+1)=Yc at YC U1 MR;have U2:=bx (λW(h:Z6 wr W)=>show ZQ W w.heap.size 0=some (Z9 Yk)/\ZQ W w.heap.size 1=some (pi)/\ZQ W w.heap.size 2=some (YM)/\ZQ W w.heap.size 3=some (Y2)/\ZQ W w.heap.size 4=some (Zo)/\ZQ W w.heap.size 5=some (Za)/\ZQ W w.heap.size 6=some (ZD)/\ZQ W w.heap.size 7=some (bv)/\ZQ W w.heap.size 8=some (.bool wd)/\ZQ W w.heap.size 9=some (Z9 gk)/\w.heap.size<W.heap.size/\ZQ W Vx (lo+k)=some (.string (bs (U.textOf y)))/\ZQ W Tv (UP+k)=some (Z9 Gg)from by
    obtain⟨Zd,Zx,Zr,Zk,Zl,Zg,XK,W9,W8,W7,YS⟩:=ZF.o W (UA.o.trans ((bt XW.o h).mono UA.o.size));exact⟨Zd,Zx,Zr,Zk,Zl,Zg,XK,W9,W8,W7,YS,((bt XW.o h).cell (p:=⟨Vx,lo+k,none⟩) WW).trans Ck,(h.cell (p:=⟨Tv,UP+k,none⟩) FI).trans Ai⟩)
   have Xm:=bx (show Sep (RO ZB.heap.size ZB (.slice (some ⟨Tv,UP,none⟩) (k+1) qZ) Yc) wr.drew from YC.o.drewN 1);have Y9:=bx (show Z6 wr wr.drew from VQ wr 1);have TY:=bx (bt YA.o Y9.o);have YF:=bx (U2.o wr.drew Y9.o);have WP:=XJ XW.o.size Y9.o.size;have Iu:decide ((k:Int)<(Q:Int))=true:=Yh (by omega);have wQ:(k:Int)<(k:Int)+1:=by omega
   have Kb:Yc.length<=1000000000:=by rw[MR.o];omega
   unfold maxLen at Yb Lw;clear ZJ Zq WW VK Ck FI FH Ai Nh EN Pz;go_wp2_with fail;refine Vv 13 (λW'=>ZQ W' w.heap.size 0=some (Z9 Yk)/\ZQ W' w.heap.size 1=some (pi)/\ZQ W' w.heap.size 2=some (YM)/\ZQ W' w.heap.size 3=some (Y2)/\ZQ W' w.heap.size 4=some (Zo)/\ZQ W' w.heap.size 5=some (Za)/\ZQ W' w.heap.size 6=some (ZD)/\ZQ W' w.heap.size 7=some (bv)/\ZQ W' w.heap.size 8=some (.bool wd)/\ZQ W' w.heap.size 9=some (Z9 gk)/\w.heap.size<W'.heap.size/\ZQ W' Vx (lo+k)=some (.string (bs (U.textOf y)))/\ZQ W' Tv (UP+k)=some (Z9 Gg)) (by rfl) ?_;generalize wr.drew=Yl at Xm Y9 YF TY WP⊢;refine Vp [0,1,2,3,4,5,6,7,8,9] ?_
   iterate 10 (refine Vq ?_ rfl YF.o ?_ ?_;rotate_left;·rintro w ⟨q1,q2,q3,q4,q5,q6,q7,q8,q9,q10,So,Sn,Sb⟩;go_simp;try with_reducible rfl)
   refine Vr ?_;refine Y1 10 rfl λY7 ZX=>?_
   go_simp;refine Y3 (An.o Yl TY.o) λYK X0=>?_
   have X6:=Zw Y9 X0;have UM:=bx (U2.o YK X6.o);have XO:=bx (Xm.o.below X0);have lH:=XJ WP X0.size;clear X0;refine ZX.out _ _ (λ_=>UM.o) ?_;clear ZX Y7;refine kS 11 ?_ rfl UM.o ?_ ?_;rotate_left
   ·rintro w ⟨q1,q2,q3,q4,q5,q6,q7,q8,q9,q10,So,Sn,Sb⟩;go_simp;try with_reducible rfl
   refine Y1 12 rfl λY7 ZX=>?_
   go_simp;refine ZX.out _ _ (λ_=>U2.o _ (X6.o.trans ((Xl YK _).mono X6.o.size))) ?_;clear ZX Y7;refine Y1 13 rfl λY7 ZX=>?_
   refine H6 (u:=Z9 HE) rfl _ _ 22 rfl OJ XO.o 0 rfl rfl (by rfl) rfl Kb (by omega) lH ?_;rintro v6 XA WC -;have WQ:=bx (DQ (m:=[HE]) WC (by simp) U1.o);clear WC;refine ZX.out _ _ (λh=>by cases h) ?_;clear ZX Y7;refine Y1 14 rfl λY7 ZX=>?_
   go_simp;refine ZX.out _ _ (λh=>by cases h) ?_;clear ZX Y7;refine kD ?_ _;clear F7
   go_wp2
   go_roundw
   ·exact⟨k+1,by omega,by go_num,WQ⟩
   grind[intOf]
  obtain rfl:k=Q:=by omega
  have WF:=YC.o;rw[SU (by rw[C.dc,Xy.o];omega)]at WF;have YE:=bx (DD WF).1;clear WF;have Iu:decide ((k:Int)<(k:Int))=false:=Yp (by omega)
  go_wp2
  go_ret2
  exact⟨⟨_,rfl,YE.o⟩,YA.o⟩
theorem qn(v:Value)(g:C.Ga)(s:ByteArray)(w:World)(Z2:Qy w v g)(Z0:Sr g.t)(hw:Pp g.w)(ZY:s.size<=299):
  Calls prog 117 #[v,.string s] w λe w'=>e=.returned (.tuple #[Z9 (C.ah g s.data.toList),Z9 (C.aG g s.data.toList)])/\Z6 w w':=by
 have Vb:=bx (λW(h:Z6 w W)=>Z2.below h);obtain⟨Yk,ZP⟩:∃n,n=g.t.n:=⟨_,rfl⟩
 obtain⟨wd,XS⟩:∃b,b=g.w.wide:=⟨_,rfl⟩
 obtain⟨gk,V8⟩:∃k,k=g.k:=⟨_,rfl⟩
 have DH:=bx V8;obtain⟨pi,YM,Y2,Zo,Za,ZD,bv,rfl,Z7,Z5⟩:=Z2;rw[<-ZP]at Z7;rw[<-XS]at Z5;rw[<-ZP,<-XS,<-V8]at Vb;rw[<-ZP,<-XS,<-V8];obtain⟨V,ZO⟩:∃V,V=w.alloc (.cells #[Z9 Yk,pi,YM,Y2,Zo,Za,ZD,bv,.bool wd,Z9 gk] 57):=⟨_,rfl⟩
 have ZR:=bx (aB ZO);have Ze:=bx (aK ZO);have ZF:=bx (λW(h:Z6 V W)=>Ze.o.c10 h);have ZN:=bx ZO;have NW:=bx (λW(h:Z6 w W)=>Z7.below h);have D6:=bx (λW(h:Z6 w W)=>Z5.below h);clear ZP XS V8 Z7 Z5 ZO;have S5:=bx (lQ _ g s V (Vb.o V ZR.o) Z0 hw ZY)
 cases WG:C.aA g with
 |false=>
  have ZK:=bx (show C.ah g s.data.toList=0 by unfold C.ah;rw[b6 WG,Y4 (by decide)]);rw[b6 WG,wl WG]at S5;rw[b6 WG,ZK.o];clear Z0 hw ZY WG;obtain⟨Zd,Zx,Zr,Zk,Zl,Zg,XK,W9,W8,W7,YS⟩:=ZF.o V YU
  go_in
  go_upto_region 1 with(fail)
  rw[<-ZN.o];go_wp2_with fail;refine S5.o.mono ?_;rintro e ZV ⟨⟨v1,rfl,WV⟩,ZZ⟩;have ZW:=Zw ZR ZZ;clear ZZ WV Zd Zx Zr Zk Zl Zg XK W9 W8 W7 YS
  go_wp2
  go_ret2
  exact⟨rfl,ZW.o⟩
 |true=>
  have Rg:=C.bd (s:=s.data.toList) WG (by grind[size_eq]);have ZK:=bx (show C.ah g s.data.toList=C.aj g (C.ab g.t s.data.toList) (C.ab g.t s.data.toList).length by grind[C.ah]);rw[Rg,vO Rg]at S5;rw[Rg,ZK.o];have MR:=bx (show(C.marks g (C.ab g.t s.data.toList)).length=(C.ab g.t s.data.toList).length+1 from C.dc _ _);have DE:=bx (C.dj g (C.ab g.t s.data.toList) (i:=(C.ab g.t s.data.toList).length) Ys);have RE:=bx (show(C.ab g.t s.data.toList).length<=299 by
   rw[C.cD];have Z7:=(QR g.t s.data.toList).2.len;have Z5:=OO s.data.toList;grind[size_eq])
  generalize C.marks g (C.ab g.t s.data.toList)=ms at S5 MR DE;generalize C.aj g (C.ab g.t s.data.toList) (C.ab g.t s.data.toList).length=res at DE⊢;generalize(C.ab g.t s.data.toList).length=Q at MR DE RE;have VI:=RE.o;clear Z0 hw ZY WG Rg ZK;obtain⟨Zd,Zx,Zr,Zk,Zl,Zg,XK,W9,W8,W7,YS⟩:=ZF.o V YU
  go_in
  go_upto_region 1 with(fail)
  rw[<-ZN.o];go_wp2_with fail;refine S5.o.mono ?_;rintro e ZV ⟨⟨v1,rfl,WV⟩,ZZ⟩;have ZW:=Zw ZR ZZ;obtain⟨Vx,lo,G0,Zq,YP,Yb,WW,VK⟩:=WV.get (by intro h;have Z5:=MR.o;grind);rw[MR.o]at Zq YP;subst Zq;have c1:=VK Q res DE.o;have Z7:IntKind.i64.wrap ((Q:Int)+1-1)=(Q:Int):=by rw[QN];omega
  unfold maxLen at Yb;clear ZZ WV VK Zd Zx Zr Zk Zl Zg XK W9 W8 W7 YS
  go_wp2
  go_ret2
  exact⟨rfl,ZW.o⟩
theorem lK{ops:Array Oper}{rest:List Oper}{o:Oper}{a:Act}{w:World}{Q:Exit->Act->World->Prop}(Uz:o.guard=none)(x y:Operand)(YT:o.op=.store 57 x y)(g:Nat){cells:Array Value}(Z4:a.eval x=Zn g)(ZJ:a.eval y=.agg cells){t:TypeId}{cs:Array Value}(ZH:Zv w g t cs)(_:cs.size=10)(hm:cells.size=10)(Z7:cells.all (·.oneCell')=true)(h:wpList prog ops Q rest (a.put o.dst undef) (w.setRow g cells)):wpList prog ops Q (o::rest) a w:=
 wpList_store_row Uz _ x y YT g cells Z4 ZJ t cs ZH (by rw[hm];rfl) (by omega) Z7 h
theorem qJ(v:Value)(k:C.Kt)(i:Int)(w:World)(Z2:WZ w v k):
  Calls prog 60 #[v,Z9 i] w λe w'=>(∃Zy,e=.returned Zy/\Qy w' Zy (C.kg k i))/\Z6 w w':=by
 obtain⟨ca,XQ,XP,X5,XR,X2,Xr,wp,Xz,Ym,Xp,wf,ZD,bv,wd,lo,ti,c1,c2,g1,g2,rfl,hp⟩:=Z2;obtain⟨RM,P7⟩:∃V,V=w.alloc (.cells #[Z9 ca,XQ,XP,X5,XR,X2,Z9 Xr,wp,Xz,Ym,Xp,wf,ZD,bv,.bool wd,lo,ti,c1,c2,g1,g2] 38):=⟨_,rfl⟩
 have ZZ:Z6 w RM:=by rw[P7];exact Xl _ _
 have TT:Zv RM w.heap.size 38 #[Z9 ca,XQ,XP,X5,XR,X2,Z9 Xr,wp,Xz,Ym,Xp,wf,ZD,bv,.bool wd,lo,ti,c1,c2,g1,g2]:=by rw[P7];exact Zv.new _ _ _
 have W1:RM.heap.size=w.heap.size+1:=by simp_all
 obtain⟨V,ZO⟩:∃V,V=RM.alloc (.cells #[Z9 0,Z1,Z1,Z1,Z1,Z1,Z1,Z1,.bool false,Z9 0] 57):=⟨_,rfl⟩
 have Zz:Z6 RM V:=by rw[ZO];exact Xl _ _
 have ZR:=bx (bt ZZ Zz);have tV:Zv V (w.heap.size+1) 57 #[Z9 0,Z1,Z1,Z1,Z1,Z1,Z1,Z1,.bool false,Z9 0]:=by rw[ZO,<-W1];exact Zv.new _ _ _
 have Ze:=bx tV;have SP:=TT.below Zz TT.lt;have Bh:=bx (hp.dy i);obtain⟨S3,RZ,Lw,FI,FH,tv,tu⟩:XQ.oneCell'=true/\XP.oneCell'=true/\X5.oneCell'=true/\XR.oneCell'=true/\X2.oneCell'=true/\ZD.oneCell'=true/\bv.oneCell'=true:=by
  obtain⟨XX,UB,V2,z2,V4,z3,UO,z4,T1,z5,S1,Oe,RY,Od,he⟩:=(hp.dy i).slices;injection he with he;simp only[Array.mk.injEq,QE]at he;obtain⟨-,rfl,rfl,rfl,rfl,rfl,rfl,rfl,-⟩:=he;exact⟨rfl,rfl,rfl,rfl,rfl,rfl,rfl⟩
 have ZN:=bx (show(w.alloc (.cells #[Z9 ca,XQ,XP,X5,XR,X2,Z9 Xr,wp,Xz,Ym,Xp,wf,ZD,bv,.bool wd,lo,ti,c1,c2,g1,g2] 38)).alloc (.cells #[Z9 0,Z1,Z1,Z1,Z1,Z1,Z1,Z1,.bool false,Z9 0] 57)=V by grind);have Wy:=bx W1;obtain⟨Zd,Zx,Zr,Zk,Zl,Zg,XK,W9,W8,W7,Rf,Re,Rc,Rb,Ra,QX,QW,QV,QU,QT,QS,YS⟩:=SP.c21 YU;clear hp ZZ TT W1 ZO Zz P7 SP XK W9 W8 W7 Rf Re QX QW QV QU QT QS
 go_in
 go_upto_region 1 with(fail)
 rw[ZN.o];go_wp2_with (refine lK rfl _ _ rfl (w.heap.size+1) (cells:=#[Z9 ca,XQ,XP,X5,XR,X2,ZD,bv,.bool wd,Z9 i]) rfl rfl tV rfl (by rfl) (by simp only[List.all_toArray,List.all_cons,List.all_nil,S3,RZ,Lw,FI,FH,tv,tu,Bool.and_true,Bool.true_and];rfl) ?_)
 have F6:=ZR.o.trans ((Turns.setRow (W:=V) (own:=λq=>q=w.heap.size+1) (g:=w.heap.size+1) rfl #[Z9 ca,XQ,XP,X5,XR,X2,ZD,bv,.bool wd,Z9 i]).below ZR.o.size (λq _=>by omega));exact bodyPost_ret (results_cell_row results60 _ _ (w.heap.size+1) 57 _ (0,0) _ rfl (Ze.o.setRow #[Z9 ca,XQ,XP,X5,XR,X2,ZD,bv,.bool wd,Z9 i]) underlying57 rfl wI) rfl ⟨⟨_,rfl,Bh.o.below F6⟩,F6⟩
theorem vB(v:Value)(k:C.Kt)(i:Int)(s:ByteArray)(w:World)(Z2:WZ w v k)(Z0:VT k)(ZY:s.size<=299):
  Calls prog 57 #[v,Z9 i,.string s] w λe w'=>e=.returned (Z9 (C.ah (C.kg k i) s.data.toList))/\Z6 w w':=by
 obtain⟨ca,XQ,XP,X5,XR,X2,Xr,wp,Xz,Ym,Xp,wf,ZD,bv,wd,lo,ti,c1,c2,g1,g2,rfl,Z3⟩:=Z2;have WL:=bx (λW(h:Z6 w W)=>Z3.below h);obtain⟨V,ZO⟩:∃V,V=w.alloc (.cells #[Z9 ca,XQ,XP,X5,XR,X2,Z9 Xr,wp,Xz,Ym,Xp,wf,ZD,bv,.bool wd,lo,ti,c1,c2,g1,g2] 38):=⟨_,rfl⟩
 have ZR:=bx (aB ZO);have Ze:=bx (aK ZO);have ZF:=bx (λW(h:Z6 V W)=>Ze.o.below h Ze.o.lt);have ZN:=bx ZO;clear Z3 ZO;have Yx:=bx (λW(h:Z6 w W)=>show WZ W (.agg #[Z9 ca,XQ,XP,X5,XR,X2,Z9 Xr,wp,Xz,Ym,Xp,wf,ZD,bv,.bool wd,lo,ti,c1,c2,g1,g2]) k from⟨_,_,_,_,_,_,_,_,_,_,_,_,_,_,_,_,_,_,_,_,_,rfl,WL.o W h⟩);have Sk:=bx (qJ _ k i V (Yx.o V ZR.o));have Ts:=bx (λv W(Z2:Qy W v (C.kg k i))=>qn v (C.kg k i) s W Z2 Z0.c Z0.d ZY);generalize C.ah (C.kg k i) s.data.toList=m at Ts⊢;generalize C.aG (C.kg k i) s.data.toList=Wz at Ts;clear Z0 ZY WL Yx;have ZA:=ZF.o V YU
 go_in
 go_upto_region 1 with(fail)
 rw[<-ZN.o];go_wp2_with (refine X8 rfl _ rfl _ rfl ZA rfl ?_)
 refine Sk.o.mono ?_;rintro X1 ZV ⟨⟨v1,rfl,WV⟩,ZZ⟩;have ZW:=Zw ZR ZZ;have G9:=bx (Ts.o v1 ZV WV);obtain⟨XX,UB,V2,z2,V4,z3,UO,z4,T1,z5,S1,Oe,RY,Od,rfl⟩:=WV.slices;clear WV Ts ZZ ZA;go_wp2_with fail;refine X7 G9.o ZW.o λ_ Zt=>?_
 go_wp2
 go_ret
 exact⟨rfl,Zt.o⟩
theorem adz(p n i:Nat)(c:Int):C.todo p n (i%n) c=C.todo p n i c:=by
 simp[C.todo,C.dist]
theorem aj8(v Zc:Value)(p:Nat)(k:C.Kt)(e:ByteArray)(YV:Int)(w:World)(Z2:WZ w v k)(Z8:C.ad k=true)(_:e.size<=60)(hl:XC w Zc (C.ae k.c e.data.toList))(_:0<=YV)(ZL:YV<=300)(hp:C.ck (C.kg k 2) (C.ab k.c e.data.toList) p):
  Calls prog 78 #[v,Zc,Z9 YV] w λX1 w'=>X1=.returned (.string (bs (C.aw k e.data.toList YV)))/\Z6 w w':=by
 have R4:=zg (s:=e.data.toList) Z8 (by grind[size_eq]);obtain⟨V9,F3⟩:=C.e8 (e:=e.data.toList) Z8 (by simp_all);have y7:=bx (show∀y∈C.ab k.c e.data.toList,U.scalars (U.textOf y)=some y/\(U.textOf y).length<=180 from λy ZJ=>⟨(Ah (by omega) y ZJ).1,F3 y ZJ⟩);have Rz:=bx (λ(y:List Int)=>C.eu k.d y);have ZA:XC w Zc ((C.ab k.c e.data.toList).map U.textOf):=by grind[C.ch]
 have Su:=bx (show F.aE k.d.p=true by grind[C.ad,C.aS]);have GG:=bx hp;have Ud:=bx (ad0 hp ZL V9);have VB:=hp.1;clear hl F3 R4 Z8 hp;obtain⟨ca,XQ,XP,X5,XR,X2,Xr,wp,Xz,Ym,Xp,wf,ZD,bv,wd,lo,ti,c1,c2,g1,g2,rfl,Z3⟩:=Z2;have WL:=bx (λW(h:Z6 w W)=>Z3.below h);obtain⟨V,ZO⟩:∃V,V=w.alloc (.cells #[Z9 ca,XQ,XP,X5,XR,X2,Z9 Xr,wp,Xz,Ym,Xp,wf,ZD,bv,.bool wd,lo,ti,c1,c2,g1,g2] 38):=⟨_,rfl⟩
 have ZR:=bx (aB ZO);have Ze:=bx (aK ZO);have ZF:=bx (λW(h:Z6 V W)=>Ze.o.c21 h);have ZN:=bx ZO;clear Z3 ZO;have Q6:=bx (λ(y:List Int) W (h:Z6 w W) (ZJ:U.scalars (U.textOf y)=some y) (hl:(U.textOf y).length<=180)=>sF _ k.d (bs (U.textOf y)) y W (WL.o W h).d Su.o ZJ (by rw[Wu];omega));obtain⟨Yr,lc,rfl,-⟩:=ZA.slice;have kd:=ZA.below ZR.o;obtain⟨N,Zp⟩:∃N,(C.ab k.c e.data.toList).length=N:=⟨_,rfl⟩
 have ZE:=bx Zp;rw[X4,Zp]at kd⊢;rw[Zp]at V9 VB;obtain⟨b,off,ZU,UV,N9,RK,R0,T3⟩:=kd.get (by grind);rw[X4,ZE.o]at UV N9;obtain⟨rfl,rfl⟩:=XN UV;have yV:=bx T3;have Fb:=bx R0;unfold maxLen at RK;clear ZA kd UV T3 R0 Zp
 go_in
 go_upto_region 1 with(fail)
 rw[<-ZN.o];go_wp2_with fail
 go_loopw[7,8,9] (λYd tp ZD wr=>∃(i f m:Nat)(Yc:List UInt8)(c z:Int),Yd=.string (bs Yc)/\tp=Z9 z/\ZD=Z9 m/\Box (z=YV-c)/\Box (m=i%N)/\Box (EY k e.data.toList p i f Yc YV c)/\Box (Z6 V wr)) (λ_ tp ZD _=>C.todo p N (intOf ZD).toNat (YV-intOf tp))
 ·exact⟨0,_,0,[],YV,0,rfl,rfl,rfl,⟨by omega⟩,⟨by simp⟩,Ud,⟨Below.refl _ _⟩⟩
 obtain⟨i,f,m,Yc,c,z,rfl,rfl,rfl,zD,hm,Ir,Xk⟩:=hrel;have aw2:=Ir.o.top;have awT:=Ir.o.le;have X3:=bx (bt ZR.o Xk.o)
 by_cases Ng:0<c
 ·have agA:m<N:=by rw[hm.o];exact Nat.mod_lt _ (by omega)
  obtain⟨y,ZJ⟩:=Yg (C.ab k.c e.data.toList) m (by rw[ZE.o];omega);have Wn:=bx (show(C.ab k.c e.data.toList)[i%N]?=some y by rw[<-hm.o];exact ZJ);obtain⟨I5,CU⟩:=y7.o y (Xh ZJ);have UT:=yV.o m (U.textOf y) (by simp_all);have Uw:=bx (λW(h:Z6 V W)=>show ZQ W w.heap.size 12=some ZD/\ZQ W w.heap.size 13=some bv/\ZQ W w.heap.size 14=some (.bool wd)/\ZQ W b (off+m)=some (.string (bs (U.textOf y))) by
   obtain⟨Zd,Zx,Zr,Zk,Zl,Zg,XK,W9,W8,W7,Rf,Re,Rc,Rb,Ra,QX,QW,QV,QU,QT,QS,YS⟩:=ZF.o W h;exact⟨Rc,Rb,Ra,(h.cell (p:=⟨b,off+m,none⟩) Fb.o).trans UT⟩)
  have YF:=bx (Uw.o wr.drew (Xk.o.trans ((VQ wr 1).mono Xk.o.size)));have Y9:=bx (show Z6 wr wr.drew from VQ wr 1);have d1:decide (z<YV)=true:=Yh (by have:=zD.o;omega);have OF:=bx (λW(h:Z6 wr W)=>Q6.o y W (bt X3.o h) I5 CU);obtain⟨C0,N5⟩:=Rz.o y;clear ZJ UT;go_wp2_with fail;refine Vv 6 (λW'=>ZQ W' w.heap.size 12=some ZD/\ZQ W' w.heap.size 13=some bv/\ZQ W' w.heap.size 14=some (.bool wd)/\ZQ W' b (off+m)=some (.string (bs (U.textOf y)))) (by rfl) ?_;generalize wr.drew=Yl at YF Y9⊢;refine Vp [0,1,2,3,4,5] ?_
  iterate 6 (refine Vq ?_ rfl YF.o ?_ ?_;rotate_left;·rintro w ⟨q1,q2,q3,q4⟩;go_simp;try with_reducible rfl)
  refine Vr ?_;refine Y1 6 rfl λY7 ZX=>?_
  go_simp;refine Y3 (OF.o Yl Y9.o) λZB Zz=>?_
  have Zt:=bx (Xk.o.trans ((Y9.o.mono Xk.o.size).trans (Zz.mono (XJ Xk.o.size Y9.o.size))));clear Zz;refine ZX.out _ _ (λ_=>Uw.o ZB Zt.o) ?_;clear ZX Y7;refine Y1 7 rfl λY7 ZX=>?_
  go_simp;refine ZX.out _ _ (λh=>by cases h) ?_;clear ZX Y7;refine kD ?_ _
  by_cases hwide:c<C.aq k.d y
  ·have ZK:=bx (Ir.o.wide GG.o Ng (by rw[ZE.o];exact Wn.o) hwide);generalize C.aq k.d y=n at hwide C0 N5⊢;have CY:IntKind.i64.wrap (z+n)=z+n:=by rw[QN];have:=zD.o;omega
   have d2:decide (YV<z+n)=true:=Yh (by have:=zD.o;omega)
   go_wp2
   go_ret
   exact⟨by rw[ZK.o] <;> rfl,bt ZR.o Zt.o⟩
  obtain⟨Pl,uG,Uf⟩:=Ir.o.next GG.o Ng (by rw[ZE.o];exact Wn.o) hwide CU C0;have wC:=bx uG;have PR:=bx Uf;have J7:(bs Yc).size+(bs (U.textOf y)).size<=16777216:=by have:=Ir.o.len;grind[Wu]
  have Pi:=NY Yc (U.textOf y);generalize C.aq k.d y=n at hwide C0 N5 wC PR⊢;rw[ZE.o]at PR;obtain⟨pq,jI⟩:∃q,q=z+n:=⟨_,rfl⟩
  have n7:=bx (show pq=YV-(c-n) by rw[jI,zD.o];omega);have CY:IntKind.i64.wrap (z+n)=pq:=by rw[QN,jI];have:=zD.o;omega
  have d2:decide (YV<pq)=false:=Yp (by have:=n7.o;omega);obtain⟨m',kc⟩:∃q,q=(m+1)%N:=⟨_,rfl⟩
  have iW:=bx (show m'=(i+1)%N by rw[kc,hm.o,Nat.add_mod,Nat.mod_mod,<-Nat.add_mod]);have agB:((m:Int)+1).tmod (N:Int)=(m':Int):=by rw[kc,show(m:Int)+1=((m+1:Nat):Int) by omega,Int.ofNat_tmod]
  have aAw:IntKind.i64.wrap ((m:Int)+1)=(m:Int)+1:=by rw[QN];omega
  have kI:((N:Int)==0)=false:=by rw[Sz];omega
  have UT:=(Uw.o ZB Zt.o).2.2.2;have Ur:=Vh Fb.o Zt.o.size;clear uG Uf jI kc
  go_wp2
  go_roundw
  ·exact⟨i+1,Pl,m',Yc++U.textOf y,c-n,pq,rfl,rfl,rfl,n7,iW,wC,Zt⟩
  have Z7:=PR.o;rw[<-adz p N (i+1),<-adz p N i,<-iW.o,<-hm.o]at Z7;have Z5:=n7.o;have ZS:=zD.o;simp only[intOf,RU];grind
 have ZK:=bx (Ir.o.stop Ng);have d1:decide (z<YV)=false:=Yp (by have:=zD.o;omega)
 go_wp2
 go_ret
 exact⟨by rw[ZK.o] <;> rfl,X3.o⟩
