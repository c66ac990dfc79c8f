/- Texts of this claim. -/
import Derived.Test.YtdponihkpomheaaGreatDoorKXOpsTruncates2

set_option maxRecDepth 100000
set_option maxHeartbeats 8000000
namespace Go.Proofs.YtdponihkpomheaaGreatDoor
open Go.RowKit
attribute[local go_sem] Oper.semAt_some
open Go.Proofs.Tryz
namespace C
theorem as7{k:Kt}{i n:Int}{s e:List UInt8}(h:ad k=false):aY k i s n e=[]/\aO k i s n e=160:=by
 have ZI:aO k i s n e=160:=by unfold aO;rw[bO h];rfl
 exact⟨by unfold aY;rw[ZI];rfl,ZI⟩
theorem ab9{k:Kt}{i n r:Int}{s e:List UInt8}(h:ad k=true)(Z7:s.length<=600)(Z5:e.length<=60)(ZT:(if i<0\/2<i then(150:Int)else if n<0 then 161 else 0)=r)(ZI:r≠0):aY k i s n e=[]/\aO k i s n e=r:=by
 have ZS:aO k i s n e=r:=by unfold aO;rw[Y0 (a6 h Z7 Z5)];exact ZT
 exact⟨by unfold aY;rw[Y4 (by rw[ZS];exact ZI)],ZS⟩
theorem atF{k:Kt}{i n:Int}{s e:List UInt8}(h:ad k=true)(Z7:s.length<=600)(Z5:e.length<=60)(hi:0<=i/\i<=2)(_:0<=n):aY k i s n e=cz (kg k i) s n e/\aO k i s n e=0:=by
 have ZS:aO k i s n e=0:=by unfold aO;rw[Y0 (a6 h Z7 Z5),Y4 (by omega),Y4 (by omega)]
 exact⟨by unfold aY;rw[Y0 ZS],ZS⟩
end C
theorem aqT(v:Value)(k:C.Kt)(i:Int)(s:ByteArray)(n:Int)(e:ByteArray)(w:World)(Z2:WZ w v k)(Z0:VT k)(ZY:3*s.size+3*e.size<=299)(Xj:e.size<=60):
  Calls prog 17 #[v,Z9 i,.string s,Z9 n,.string e] w λX1 w'=>X1=.returned (.tuple #[.string (bs (C.aY k i s.data.toList n e.data.toList)),Z9 (C.aO k i s.data.toList n e.data.toList)])/\Z6 w w':=by
 obtain⟨ca,XQ,XP,X5,XR,X2,Xr,wp,Xz,Ym,Xp,wf,ZD,bv,wd,lo,ti,c1,c2,g1,g2,rfl,Z3⟩:=Z2;have WL:=bx (λW(h:Z6 w W)=>Z3.below h);obtain⟨V,ZO⟩:∃V,V=w.alloc (.cells #[Z9 ca,XQ,XP,X5,XR,X2,Z9 Xr,wp,Xz,Ym,Xp,wf,ZD,bv,.bool wd,lo,ti,c1,c2,g1,g2] 38):=⟨_,rfl⟩
 have ZR:=bx (aB ZO);have Ze:=bx (aK ZO);have ZF:=bx (λW(h:Z6 V W)=>Ze.o.below h Ze.o.lt);have ZN:=bx ZO;clear Z3 ZO;have Yx:=bx (λW(h:Z6 w W)=>show WZ W (.agg #[Z9 ca,XQ,XP,X5,XR,X2,Z9 Xr,wp,Xz,Ym,Xp,wf,ZD,bv,.bool wd,lo,ti,c1,c2,g1,g2]) k from⟨_,_,_,_,_,_,_,_,_,_,_,_,_,_,_,_,_,_,_,_,_,rfl,WL.o W h⟩);have Wt:=bx (Eh _ k s e V (Yx.o V ZR.o) Z0);have V6:s.data.toList.length<=600:=by rw[<-size_eq];omega
 have Tz:e.data.toList.length<=60:=by rw[<-size_eq];omega
 cases Z8:C.ad k with
 |false=>
  have ZK:=bx (C.as7 (s:=s.data.toList) (e:=e.data.toList) (i:=i) (n:=n) Z8);rw[C.bO Z8]at Wt;rw[ZK.o.1,ZK.o.2];clear Z8 Z0 ZY Xj WL Yx V6 Tz;have ZA:=ZF.o V YU
  go_in
  go_upto_region 1 with(fail)
  rw[<-ZN.o];go_wp2_with (refine X8 rfl _ rfl _ rfl ZA rfl ?_)
  refine Y3 Wt.o λZV ZZ=>?_
  have ZW:=Zw ZR ZZ;have Xg:=bx ZZ;clear ZZ ZA
  go_wp2
  go_ret2
  exact⟨rfl,ZW.o⟩
 |true=>
  rw[C.a6 (s:=s.data.toList) (e:=e.data.toList) Z8 V6 Tz]at Wt
  by_cases hi:i<0\/2<i
  ·have ZK:=bx (C.ab9 (s:=s.data.toList) (e:=e.data.toList) (i:=i) (n:=n) (r:=150) Z8 V6 Tz (by rw[Y0 hi]) (by decide));rw[ZK.o.1,ZK.o.2]
   by_cases ZI:i<0
   focus
    have d1:=Yh ZI
   rotate_left
   focus
    have d1:=Yp ZI;have d2:decide (2<i)=true:=Yh (by omega)
   rotate_left
   all_goals
    clear Z8 Z0 ZY Xj WL Yx V6 Tz hi ZI;have ZA:=ZF.o V YU
    go_in
    go_upto_region 1 with(fail)
    rw[<-ZN.o];go_wp2_with (refine X8 rfl _ rfl _ rfl ZA rfl ?_)
    refine Y3 Wt.o λZV ZZ=>?_
    have ZW:=Zw ZR ZZ;have Xg:=bx ZZ;clear ZZ ZA
    go_wp2
    go_ret2
    exact⟨rfl,ZW.o⟩
  have d1:decide (i<0)=false:=Yp (by omega);have d2:decide (2<i)=false:=Yp (by omega)
  by_cases ZP:n<0
  ·have ZK:=bx (C.ab9 (s:=s.data.toList) (e:=e.data.toList) (i:=i) (n:=n) (r:=161) Z8 V6 Tz (by rw[Y4 hi,Y0 ZP]) (by decide));rw[ZK.o.1,ZK.o.2];have d3:=Yh ZP;clear Z8 Z0 ZY Xj WL Yx V6 Tz hi ZP;have ZA:=ZF.o V YU
   go_in
   go_upto_region 1 with(fail)
   rw[<-ZN.o];go_wp2_with (refine X8 rfl _ rfl _ rfl ZA rfl ?_)
   refine Y3 Wt.o λZV ZZ=>?_
   have ZW:=Zw ZR ZZ;have Xg:=bx ZZ;clear ZZ ZA
   go_wp2
   go_ret2
   exact⟨rfl,ZW.o⟩
  have d3:=Yp ZP;have ZK:=bx (C.atF (s:=s.data.toList) (e:=e.data.toList) (i:=i) (n:=n) Z8 V6 Tz (by omega) (by omega));have Y8:=bx (show C.aY k i s.data.toList n e.data.toList=if C.ah (C.kg k i) s.data.toList<=n then M.fix s.data.toList else if n<C.ah (C.kg k i) e.data.toList then[]else((C.ae k.c s.data.toList).take ((C.aX (C.kg k i) s.data.toList e.data.toList n).getD 0)).flatten++M.fix e.data.toList from ZK.o.1);have TR:=bx (λW(h:Z6 w W)=>vB _ k i s W (Yx.o W h) Z0 (by omega));have Uu:=bx (λW(h:Z6 w W)=>vB _ k i e W (Yx.o W h) Z0 (by omega));have Bh:=bx (λW(h:Z6 w W)=>qJ _ k i W (Yx.o W h));have Rz:=bx (λv W(h:Qy W v (C.kg k i))=>apL v (C.kg k i) s e n W h Z0.c Z0.d ZY Xj);have Tc:=bx (λW(h:Z6 w W)=>zj _ k s W (Yx.o W h) Z0 (by omega));have UK:=bx (λW=>show Calls prog 58 #[.string s] W λR8 w'=>R8=.returned (.string (bs (M.fix s.data.toList)))/\Z6 W w' from Ju s W (by omega));have UL:=bx (λW=>show Calls prog 58 #[.string e] W λR8 w'=>R8=.returned (.string (bs (M.fix e.data.toList)))/\Z6 W w' from Ju e W (by omega));have RI:(C.aX (C.kg k i) s.data.toList e.data.toList n).getD 0<=(C.ae k.c s.data.toList).length:=C.fW (C.kg k i) _ _ _;have V9:=Bq k.c s (by omega);have P5:=V9.1;have RD:=bx (show(C.ae k.c s.data.toList).flatten.length<=100000 by have:=V9.2;omega);have Kd:=C.ba e.data.toList;rw[<-size_eq]at Kd;rw[ZK.o.2];generalize C.aY k i s.data.toList n e.data.toList=VR at Y8⊢;generalize C.ah (C.kg k i) s.data.toList=ms at Y8 TR;generalize C.ah (C.kg k i) e.data.toList=me at Y8 Uu;generalize(C.aX (C.kg k i) s.data.toList e.data.toList n).isSome=Mh at Rz;generalize C.b0 (C.kg k i) s.data.toList e.data.toList=we at Rz;generalize(C.aX (C.kg k i) s.data.toList e.data.toList n).getD 0=c at Y8 Rz RI;generalize C.ae k.c s.data.toList=YJ at Y8 Tc RD P5 RI;generalize M.fix s.data.toList=VC at Y8 UK;generalize M.fix e.data.toList=TC at Y8 UL Kd;obtain⟨N,Zp⟩:∃N,YJ.length=N:=⟨_,rfl⟩
  have ZE:=bx Zp;rw[Zp]at P5 RI;clear Z8 Z0 ZY WL Yx V6 Tz hi ZP ZK Zp V9
  by_cases c1:ms<=n
  ·have d4:=Yh c1;rw[Y0 c1]at Y8;rw[Y8.o];clear c1;have ZA:=ZF.o V YU
   go_in
   go_upto_region 1 with(fail)
   rw[<-ZN.o];go_wp2_with (refine X8 rfl _ rfl _ rfl ZA rfl ?_)
   refine Y3 Wt.o λZV ZZ=>?_
   have ZW:=Zw ZR ZZ;have Xg:=bx ZZ;clear ZZ ZA;have ZA:=ZF.o ZV Xg.o;go_wp2_with (refine X8 rfl _ rfl _ rfl ZA rfl ?_)
   refine Y3 (TR.o ZV ZW.o) λZB Z8=>?_
   have Zt:=Zw ZW Z8;have UI:=Zw Xg Z8;clear Z8 ZA;go_wp2_with fail;refine Y3 (UK.o ZB) λZh Z8=>?_
   have YY:=Zw Zt Z8;have Ro:=Zw UI Z8;clear Z8
   go_wp2
   go_ret2
   exact⟨rfl,YY.o⟩
  have d4:=Yp c1;rw[Y4 c1]at Y8
  by_cases c2:n<me
  ·have d5:=Yh c2;rw[Y0 c2]at Y8;rw[Y8.o];clear c1 c2;have ZA:=ZF.o V YU
   go_in
   go_upto_region 1 with(fail)
   rw[<-ZN.o];go_wp2_with (refine X8 rfl _ rfl _ rfl ZA rfl ?_)
   refine Y3 Wt.o λZV ZZ=>?_
   have ZW:=Zw ZR ZZ;have Xg:=bx ZZ;clear ZZ ZA;have ZA:=ZF.o ZV Xg.o;go_wp2_with (refine X8 rfl _ rfl _ rfl ZA rfl ?_)
   refine Y3 (TR.o ZV ZW.o) λZB Z8=>?_
   have Zt:=Zw ZW Z8;have UI:=Zw Xg Z8;clear Z8 ZA;have ZA:=ZF.o ZB UI.o;go_wp2_with (refine X8 rfl _ rfl _ rfl ZA rfl ?_)
   refine Y3 (Uu.o ZB Zt.o) λZh Z8=>?_
   have YY:=Zw Zt Z8;have Ro:=Zw UI Z8;clear Z8 ZA
   go_wp2
   go_ret2
   exact⟨rfl,YY.o⟩
  have d5:=Yp c2;rw[Y4 c2]at Y8;rw[Y8.o];obtain⟨ax7,C2⟩:∃t,t=(YJ.take c).flatten:=⟨_,rfl⟩
  rw[<-C2];have arf:=bx C2;clear c1 c2 C2;have ZA:=ZF.o V YU
  go_in
  go_upto_region 1 with(fail)
  rw[<-ZN.o];go_wp2_with (refine X8 rfl _ rfl _ rfl ZA rfl ?_)
  refine Y3 Wt.o λZV ZZ=>?_
  have ZW:=Zw ZR ZZ;have Xg:=bx ZZ;clear ZZ ZA;have ZA:=ZF.o ZV Xg.o;go_wp2_with (refine X8 rfl _ rfl _ rfl ZA rfl ?_)
  refine Y3 (TR.o ZV ZW.o) λZB Z8=>?_
  have Zt:=Zw ZW Z8;have UI:=Zw Xg Z8;clear Z8 ZA;have ZA:=ZF.o ZB UI.o;go_wp2_with (refine X8 rfl _ rfl _ rfl ZA rfl ?_)
  refine Y3 (Uu.o ZB Zt.o) λZh Z8=>?_
  have YY:=Zw Zt Z8;have Ro:=Zw UI Z8;clear Z8 ZA;have ZA:=ZF.o Zh Ro.o;go_wp2_with (refine X8 rfl _ rfl _ rfl ZA rfl ?_)
  refine(Bh.o Zh YY.o).mono ?_;rintro X1 YL ⟨⟨v1,rfl,WV⟩,Z8⟩;have Ye:=Zw YY Z8;have Lo:=Zw Ro Z8;have G9:=bx (Rz.o v1 YL WV);obtain⟨XX,UB,V2,z2,V4,z3,UO,z4,T1,z5,S1,Oe,RY,Od,rfl⟩:=WV.slices;clear Z8 ZA WV Rz;go_wp2_with fail;refine Y3 (G9.o) λYK Z8=>?_
  have X6:=Zw Ye Z8;have Mm:=Zw Lo Z8;clear Z8;have ZA:=ZF.o YK Mm.o;go_wp2_with (refine X8 rfl _ rfl _ rfl ZA rfl ?_)
  refine(Tc.o YK X6.o).mono ?_;rintro X1 XA ⟨⟨Zc,rfl,WJ⟩,Z8⟩;have VN:=Zw X6 Z8;have yW:=Zw Mm Z8;obtain⟨Yr,lc,rfl,-⟩:=WJ.slice;rw[ZE.o]at WJ⊢;obtain⟨Y,Xa,VX⟩:=sb Yr N lc c YJ RI ZE.o (by omega) WJ;have kC:=VX XA WJ;have PV:=bx (qw Y (YJ.take c) XA kC (by rw[SW];omega) (XJ (Fh YJ c) RD.o));obtain⟨LR,NJ,rfl,-⟩:=kC.slice;obtain⟨q7,P4⟩:∃q,q=(YJ.take c).length:=⟨_,rfl⟩
  rw[<-P4]at PV Xa;have Pi:=NY (YJ.take c).flatten TC;have J7:(bs (YJ.take c).flatten).size+(bs TC).size<=1000000:=by
   have Z7:=XJ (Fh YJ c) RD.o;rw[Wu,Wu];omega
  rw[<-arf.o]at PV Pi J7;clear Z8 ZA WJ VX kC P4;go_wp2_with fail;refine Y3 (PV.o) λXi Z8=>?_
  have XM:=Zw VN Z8;have yR:=Zw yW Z8;clear Z8;go_wp2_with fail;refine Y3 (UL.o Xi) λ_ Z8=>?_
  have Tw:=Zw XM Z8;have iY:=Zw yR Z8;clear Z8
  go_wp2
  go_ret2
  exact⟨rfl,Tw.o⟩
theorem aoc(A:Nat->Addr)(B:Nat)(v:Value)(k:C.Kt)(i:Int)(s:ByteArray)(n:Int)(e:ByteArray)(w:World)(Z2:WZ w v k)(FO:s.size<=9223372036854775807)(Xj:e.size<=9223372036854775807)(hS:Sw A B w):
  Calls prog 3 #[v,Z9 i,.string s,Z9 n,.string e] w λx w'=>x=.returned (.bool true)/\Z6 w w':=by
 have Xe:=bx hS;have JK:=bx Z2;obtain⟨XX,UB,V2,z2,V4,z3,UO,z4,T1,z5,S1,Oe,RY,Od,O2,Ia,O1,z9,KU,Ie,KT,Ic,KS,z12,KA,IX,KR,IK,KQ,IB,KP,Ix,KO,Ib,KN,IM,rfl⟩:=Z2.slices;clear Z2;generalize k.c.p.1.length=Vy,k.c.p.2.length=TX,k.c.r.length=Qa,k.c.m.1.length=Lh,k.c.m.2.length=KM,k.w.p.1.length=FE,k.w.p.2.length=FD,k.w.r.length=FC,k.w.m.1.length=FB,k.w.m.2.length=Gt,k.d.p.1.length=Gq,k.d.p.2.length=Gn,k.s.lo.length=FF,k.s.ti.length=GR,k.s.ca.1.length=GT,k.s.ca.2.length=GC,k.s.ig.1.length=Gu,k.s.ig.2.length=GO,k.c.n=FK,k.w.n=FJ,k.d.wide=Mh at JK⊢;have JG:=bx (λW=>CI s 60 60 W rfl FO (by decide));have GH:=bx (Cn s 60);generalize Hg s 60=cs at JG GH;clear FO;have JU:=bx (λW=>CI e 20 20 W rfl Xj (by decide));have G7:=bx (Cn e 20);generalize Hg e 20=ce at JU G7;clear Xj;obtain⟨V,ZO⟩:∃V,V=w.alloc (.cells #[Z9 FK,.slice XX Vy UB,.slice V2 TX z2,.slice V4 Qa z3,.slice UO Lh z4,.slice T1 KM z5,Z9 FJ,.slice S1 FE Oe,.slice RY FD Od,.slice O2 FC Ia,.slice O1 FB z9,.slice KU Gt Ie,.slice KT Gq Ic,.slice KS Gn z12,.bool Mh,.slice KA FF IX,.slice KR GR IK,.slice KQ GT IB,.slice KP GC Ix,.slice KO Gu Ib,.slice KN GO IM] 38):=⟨_,rfl⟩
 have ZR:=bx (aB ZO);have GS:=bx (show Sep [Pc.blk w.heap.size 38 #[Z9 FK,.slice XX Vy UB,.slice V2 TX z2,.slice V4 Qa z3,.slice UO Lh z4,.slice T1 KM z5,Z9 FJ,.slice S1 FE Oe,.slice RY FD Od,.slice O2 FC Ia,.slice O1 FB z9,.slice KU Gt Ie,.slice KT Gq Ic,.slice KS Gn z12,.bool Mh,.slice KA FF IX,.slice KR GR IK,.slice KQ GT IB,.slice KP GC Ix,.slice KO Gu Ib,.slice KN GO IM],Pc.old w.heap.size w] V by rw[ZO];exact(Sep.start w).ak _ _);have Wy:=bx (show V.heap.size=w.heap.size+1 by rw[ZO];simp);have ZN:=bx ZO;clear hS ZO
 go_in
 go_wp2_with fail;rw[<-ZN.o];refine Y3 (qX A B V (Xe.o.below ZR.o)) λZV ZZ=>?_
 have ZW:=bx (bT ZR.o ZZ);have JJ:=bx (GS.o.below ZZ);have V0:=bx (show w.heap.size<ZV.heap.size by have:=Wy.o;have:=ZZ.size;omega);clear ZZ ZN;have VE:=bx (sY _ k w ZV JK.o ZW.o);have ZA:=JJ.o.blk 0 rfl;go_wp2_with (refine X8 rfl _ rfl _ rfl ZA rfl ?_)
 refine VE.o.mono ?_;rintro ex ZB ⟨Zz,Zy,rfl,OG⟩;clear ZA;have Zt:=bx (bT ZW.o Zz);have MS:=bx (JJ.o.below Zz);obtain⟨p1,r1,p2,r2,p3,r3,Ve,r4,U6,Tu,T2,Qe,Uc,Qd,Tm,Qc,Qk,Qb,Qp,Qj,Qo,Qi,Qn,Qh,Qm,Qg,Qs,QD,Qq,Qr,Ql,Qf,Qz,QA,QB,QC,rfl⟩:=(OG ZB (Turns.refl _ _) Zt.o).slices;have Iq:=sW k;obtain⟨K,Xc⟩:∃K,K=zm k:=⟨_,rfl⟩
 have Qt:=bx (show VT K by rw[Xc];exact Iq);rw[<-Xc]at OG⊢;clear Zz Xc Iq;generalize K.c.p.1.length=q1,K.c.p.2.length=q2,K.c.r.length=q3,K.c.m.1.length=q4,K.c.m.2.length=q5,K.w.p.1.length=q6,K.w.p.2.length=q7,K.w.r.length=q8,K.w.m.1.length=q9,K.w.m.2.length=q10,K.d.p.1.length=So,K.d.p.2.length=Sn,K.s.lo.length=Sb,K.s.ti.length=Rv,K.s.ca.1.length=Ru,K.s.ca.2.length=Rn,K.s.ig.1.length=Rt,K.s.ig.2.length=Rr,K.c.n=nu,K.w.n=Zo,K.d.wide=we at OG⊢;have G6:=bx OG;clear OG VE;have ZA:=MS.o.blk 0 rfl;have P0:=bx (show Sep [Pc.blk w.heap.size 38 #[Z9 nu,.slice p1 q1 r1,.slice p2 q2 r2,.slice p3 q3 r3,.slice Ve q4 r4,.slice U6 q5 Tu,Z9 Zo,.slice T2 q6 Qe,.slice Uc q7 Qd,.slice Tm q8 Qc,.slice Qk q9 Qb,.slice Qp q10 Qj,.slice Qo So Qi,.slice Qn Sn Qh,.bool we,.slice Qm Sb Qg,.slice Qs Rv QD,.slice Qq Ru Qr,.slice Ql Rn Qf,.slice Qz Rt QA,.slice QB Rr QC],Pc.old w.heap.size w] _ from MS.o.setRow 0 rfl #[Z9 nu,.slice p1 q1 r1,.slice p2 q2 r2,.slice p3 q3 r3,.slice Ve q4 r4,.slice U6 q5 Tu,Z9 Zo,.slice T2 q6 Qe,.slice Uc q7 Qd,.slice Tm q8 Qc,.slice Qk q9 Qb,.slice Qp q10 Qj,.slice Qo So Qi,.slice Qn Sn Qh,.bool we,.slice Qm Sb Qg,.slice Qs Rv QD,.slice Qq Ru Qr,.slice Ql Rn Qf,.slice Qz Rt QA,.slice QB Rr QC]);have NH:=bx (show Turns (λq=>q=w.heap.size) ZB _ from Turns.setRow (own:=λq=>q=w.heap.size) (g:=w.heap.size) rfl #[Z9 nu,.slice p1 q1 r1,.slice p2 q2 r2,.slice p3 q3 r3,.slice Ve q4 r4,.slice U6 q5 Tu,Z9 Zo,.slice T2 q6 Qe,.slice Uc q7 Qd,.slice Tm q8 Qc,.slice Qk q9 Qb,.slice Qp q10 Qj,.slice Qo So Qi,.slice Qn Sn Qh,.bool we,.slice Qm Sb Qg,.slice Qs Rv QD,.slice Qq Ru Qr,.slice Ql Rn Qf,.slice Qz Rt QA,.slice QB Rr QC])
 go_upto_region 3 with(refine wH rfl _ _ rfl _ rfl rfl ZA rfl (by rfl) (by kernel_rfl) ?_)
 generalize ZB.setRow w.heap.size #[Z9 nu,.slice p1 q1 r1,.slice p2 q2 r2,.slice p3 q3 r3,.slice Ve q4 r4,.slice U6 q5 Tu,Z9 Zo,.slice T2 q6 Qe,.slice Uc q7 Qd,.slice Tm q8 Qc,.slice Qk q9 Qb,.slice Qp q10 Qj,.slice Qo So Qi,.slice Qn Sn Qh,.bool we,.slice Qm Sb Qg,.slice Qs Rv QD,.slice Qq Ru Qr,.slice Ql Rn Qf,.slice Qz Rt QA,.slice QB Rr QC]=Zh at P0 NH⊢;clear ZA;have YY:=bx (P0.o.bel (n:=w.heap.size) (W0:=w) (by simp));have Un:=bx (show WZ Zh (.agg #[Z9 nu,.slice p1 q1 r1,.slice p2 q2 r2,.slice p3 q3 r3,.slice Ve q4 r4,.slice U6 q5 Tu,Z9 Zo,.slice T2 q6 Qe,.slice Uc q7 Qd,.slice Tm q8 Qc,.slice Qk q9 Qb,.slice Qp q10 Qj,.slice Qo So Qi,.slice Qn Sn Qh,.bool we,.slice Qm Sb Qg,.slice Qs Rv QD,.slice Qq Ru Qr,.slice Ql Rn Qf,.slice Qz Rt QA,.slice QB Rr QC]) K from G6.o Zh (NH.o.mono (λk _=>by have:=V0.o;omega)) YY.o);have WT:=bx (Xe.o.below YY.o);have ZF:=bx (λW(h:Z6 Zh W)=>(P0.o.blk 0 rfl).below h (P0.o.blk 0 rfl).lt);clear GS JJ MS P0 NH G6 ZR ZW Zt Wy JK Xe V0;have Tg:cs.size<=60:=GH.o;have Dc:ce.size<=20:=G7.o;have Ts:=bx (λW(h:Z6 Zh W)=>akk A B _ K i cs ce n W (Un.o.below h) Qt.o (by omega) (by omega) (WT.o.below h));have Q1:=bx (λW(h:Z6 Zh W)=>aqT _ K i cs n ce W (Un.o.below h) Qt.o (by omega) (by omega));have Ow:=bx (λW(h:Z6 Zh W)=>ra A B _ K W (Un.o.below h) Qt.o (WT.o.below h));have LN:=bx (λW(h:Z6 Zh W)=>oI _ K W (Un.o.below h) Qt.o);generalize C.aY K i cs.data.toList n ce.data.toList=CF at Ts Q1;generalize C.aO K i cs.data.toList n ce.data.toList=er1 at Ts Q1;generalize C.ad K=kb at Ow LN;have ahX:((bs CF).toList==(bs CF).toList)=true:=by simp
 clear Tg Dc;go_wp2_with fail;have Y9:=bx (show Z6 Zh Zh.drew from bT (Below.refl _ Zh) (VQ Zh 1));have YF:=bx (ZF.o Zh.drew Y9.o);refine Vv 7 (λW'=>Zv W' w.heap.size 38 #[Z9 nu,.slice p1 q1 r1,.slice p2 q2 r2,.slice p3 q3 r3,.slice Ve q4 r4,.slice U6 q5 Tu,Z9 Zo,.slice T2 q6 Qe,.slice Uc q7 Qd,.slice Tm q8 Qc,.slice Qk q9 Qb,.slice Qp q10 Qj,.slice Qo So Qi,.slice Qn Sn Qh,.bool we,.slice Qm Sb Qg,.slice Qs Rv QD,.slice Qq Ru Qr,.slice Ql Rn Qf,.slice Qz Rt QA,.slice QB Rr QC]) (by kernel_rfl) ?_;generalize Zh.drew=XE at YF Y9⊢;refine kS 0 ?_ rfl YF.o ?_ ?_;rotate_left
 ·(intro Dv hw;refine H2 38 (.tmp 5) ?_ w.heap.size ?_ _ underlying38 rfl (by kernel_rfl) hw <;> rfl)
 refine Vp [1,2,4,5] ?_
 iterate 4 (refine Vq ?_ rfl YF.o ?_ ?_;rotate_left;·(intro w hw;go_simp;first|done|with_reducible rfl))
 refine Vr ?_;refine Y1 3 rfl λY7 ZX=>?_
 go_simp;refine YW (JG.o _) ?_;refine ZX.out _ _ (λ_=>YF.o) ?_;clear ZX Y7;refine Y1 6 rfl λY7 ZX=>?_
 go_simp;refine YW (JU.o _) ?_;refine ZX.out _ _ (λ_=>YF.o) ?_;clear ZX Y7;refine Y1 7 rfl λY7 ZX=>?_
 go_simp;refine Y3 (Ts.o XE Y9.o) λYL Z8=>?_
 have Ye:=bx (bT Y9.o Z8);clear Z8;refine ZX.out _ _ (λh=>by cases h) ?_;clear ZX Y7;refine EA ?_;refine kU 8 ?_ rfl ?_ ?_;rotate_left
 ·(intro w;go_simp;first|done|with_reducible rfl)
 refine kU 9 ?_ rfl ?_ ?_;rotate_left
 ·(intro w;go_simp;first|done|with_reducible rfl)
 refine kU 10 ?_ rfl ?_ ?_;rotate_left
 ·(intro w;go_simp;first|done|with_reducible rfl)
 refine Y1 11 rfl λY7 ZX=>?_
 go_simp;refine ZX.out _ _ (λ_=>trivial) ?_;clear ZX Y7;refine Y1 12 rfl λY7 ZX=>?_
 go_simp;refine ZX.out _ _ (λ_=>trivial) ?_;clear ZX Y7;refine kD ?_ _;clear YF Y9;go_wp2_with fail;have Y9:=bx (show Z6 Zh YL.drew from bT Ye.o (VQ YL 1));have YF:=bx (ZF.o YL.drew Y9.o);refine Vv 7 (λW'=>Zv W' w.heap.size 38 #[Z9 nu,.slice p1 q1 r1,.slice p2 q2 r2,.slice p3 q3 r3,.slice Ve q4 r4,.slice U6 q5 Tu,Z9 Zo,.slice T2 q6 Qe,.slice Uc q7 Qd,.slice Tm q8 Qc,.slice Qk q9 Qb,.slice Qp q10 Qj,.slice Qo So Qi,.slice Qn Sn Qh,.bool we,.slice Qm Sb Qg,.slice Qs Rv QD,.slice Qq Ru Qr,.slice Ql Rn Qf,.slice Qz Rt QA,.slice QB Rr QC]) (by kernel_rfl) ?_;generalize YL.drew=NG at YF Y9⊢;refine kS 0 ?_ rfl YF.o ?_ ?_;rotate_left
 ·(intro Dv hw;refine H2 38 (.tmp 5) ?_ w.heap.size ?_ _ underlying38 rfl (by kernel_rfl) hw <;> rfl)
 refine Vp [1,2,4,5] ?_
 iterate 4 (refine Vq ?_ rfl YF.o ?_ ?_;rotate_left;·(intro w hw;go_simp;first|done|with_reducible rfl))
 refine Vr ?_;refine Y1 3 rfl λY7 ZX=>?_
 go_simp;refine YW (JG.o _) ?_;refine ZX.out _ _ (λ_=>YF.o) ?_;clear ZX Y7;refine Y1 6 rfl λY7 ZX=>?_
 go_simp;refine YW (JU.o _) ?_;refine ZX.out _ _ (λ_=>YF.o) ?_;clear ZX Y7;refine Y1 7 rfl λY7 ZX=>?_
 go_simp;refine Y3 (Q1.o NG Y9.o) λYK Z8=>?_
 have X6:=bx (bT Y9.o Z8);clear Z8;refine ZX.out _ _ (λh=>by cases h) ?_;clear ZX Y7;refine EA ?_;refine kU 8 ?_ rfl ?_ ?_;rotate_left
 ·(intro w;go_simp;first|done|with_reducible rfl)
 refine kU 9 ?_ rfl ?_ ?_;rotate_left
 ·(intro w;go_simp;first|done|with_reducible rfl)
 refine kU 10 ?_ rfl ?_ ?_;rotate_left
 ·(intro w;go_simp;first|done|with_reducible rfl)
 refine Y1 11 rfl λY7 ZX=>?_
 go_simp;refine ZX.out _ _ (λ_=>trivial) ?_;clear ZX Y7;refine Y1 12 rfl λY7 ZX=>?_
 go_simp;refine ZX.out _ _ (λ_=>trivial) ?_;clear ZX Y7;refine kD ?_ _;clear YF Y9;go_wp2_with fail;have Y9:=bx (show Z6 Zh YK.drew from bT X6.o (VQ YK 1));have YF:=bx (ZF.o YK.drew Y9.o);refine Vv 15 (λW'=>Zv W' w.heap.size 38 #[Z9 nu,.slice p1 q1 r1,.slice p2 q2 r2,.slice p3 q3 r3,.slice Ve q4 r4,.slice U6 q5 Tu,Z9 Zo,.slice T2 q6 Qe,.slice Uc q7 Qd,.slice Tm q8 Qc,.slice Qk q9 Qb,.slice Qp q10 Qj,.slice Qo So Qi,.slice Qn Sn Qh,.bool we,.slice Qm Sb Qg,.slice Qs Rv QD,.slice Qq Ru Qr,.slice Ql Rn Qf,.slice Qz Rt QA,.slice QB Rr QC]) (by kernel_rfl) ?_;generalize YK.drew=W5 at YF Y9⊢;refine Vp [0,1,2,3] ?_
 iterate 4 (refine Vq ?_ rfl YF.o ?_ ?_;rotate_left;·(intro w hw;go_simp;first|done|with_reducible rfl))
 refine Vr ?_;go_simp;refine kN #[true,true,true,true,false,false,false,false,false,false,false,false,false,false,false,false,false,false,false] ?_;refine Vp [4,5,6,7] ?_
 iterate 4 (refine Vq ?_ rfl YF.o ?_ ?_;rotate_left;·(intro w hw;go_simp;first|done|with_reducible rfl))
 refine Vr ?_;go_simp;refine kN #[true,true,true,true,true,true,true,true,false,false,false,false,false,false,false,false,false,false,false] ?_;refine Vp [8,9,10,11] ?_
 iterate 4 (refine Vq ?_ rfl YF.o ?_ ?_;rotate_left;·(intro w hw;go_simp;first|done|with_reducible rfl))
 refine Vr ?_;go_simp;refine kN #[true,true,true,true,true,true,true,true,true,true,true,true,false,false,false,false,false,false,false] ?_;refine kS 12 ?_ rfl YF.o ?_ ?_;rotate_left
 ·(intro Dv hw;refine H2 38 (.tmp 5) ?_ w.heap.size ?_ _ underlying38 rfl (by kernel_rfl) hw <;> rfl)
 refine kS 14 ?_ rfl YF.o ?_ ?_;rotate_left
 ·(intro Dv hw;refine H2 38 (.tmp 5) ?_ w.heap.size ?_ _ underlying38 rfl (by kernel_rfl) hw <;> rfl)
 refine Y1 13 rfl λY7 ZX=>?_
 go_simp;refine Y3 (Ow.o W5 Y9.o) λXA Z8=>?_
 have VN:=bx (bT Y9.o Z8);have Tj:=bx (ZF.o XA VN.o);clear Z8;refine ZX.out _ _ (λ_=>Tj.o) ?_;clear ZX Y7;refine Y1 15 rfl λY7 ZX=>?_
 go_simp;refine Y3 (LN.o XA VN.o) λ_ Z8=>?_
 have XM:=bx (bT VN.o Z8);clear Z8;refine ZX.out _ _ (λh=>by cases h) ?_;clear ZX Y7;refine EA ?_;refine kU 16 ?_ rfl ?_ ?_;rotate_left
 ·(intro w;go_simp;first|done|with_reducible rfl)
 refine kU 17 ?_ rfl ?_ ?_;rotate_left
 ·(intro w;go_simp;first|done|with_reducible rfl)
 refine Y1 18 rfl λY7 ZX=>?_
 go_simp;refine ZX.out _ _ (λ_=>trivial) ?_;clear ZX Y7;refine kD ?_ _;clear YF Y9
 go_wp2
 go_ret
 exact⟨rfl,bT YY.o XM.o⟩
