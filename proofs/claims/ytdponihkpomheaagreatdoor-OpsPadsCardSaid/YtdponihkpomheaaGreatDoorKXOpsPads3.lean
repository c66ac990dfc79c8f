/- Texts of this claim. -/
import Derived.Test.YtdponihkpomheaaGreatDoorKXOpsPads2

set_option maxRecDepth 100000
set_option maxHeartbeats 8000000
namespace Go.Proofs.YtdponihkpomheaaGreatDoor
open Go.RowKit
attribute[local go_sem] Oper.semAt_some
open Go.Proofs.Tryz
theorem avn(v:Value)(k:C.Kt)(s:ByteArray)(n:Int)(e:ByteArray)(d:Int)(w:World)(Z2:WZ w v k)(Z0:VT k)(ZY:s.size<=260)(Xj:e.size<=60):
  Calls prog 30 #[v,.string s,Z9 n,.string e,Z9 d] w λX1 w'=>X1=.returned (.tuple #[.string (bs (C.aT k s.data.toList n e.data.toList d)),Z9 (C.aU k s.data.toList n e.data.toList d)])/\Z6 w w':=by
 obtain⟨ca,XQ,XP,X5,XR,X2,Xr,wp,Xz,Ym,Xp,wf,ZD,bv,wd,lo,ti,c1,c2,g1,g2,rfl,Z3⟩:=Z2;have WL:=bx (λW(h:Z6 w W)=>Z3.below h);obtain⟨V,ZO⟩:∃V,V=w.alloc (.cells #[Z9 ca,XQ,XP,X5,XR,X2,Z9 Xr,wp,Xz,Ym,Xp,wf,ZD,bv,.bool wd,lo,ti,c1,c2,g1,g2] 38):=⟨_,rfl⟩
 have ZR:=bx (aB ZO);have Ze:=bx (aK ZO);have ZF:=bx (λW(h:Z6 V W)=>Ze.o.below h Ze.o.lt);have ZN:=bx ZO;clear Z3 ZO;have Yx:=bx (λW(h:Z6 w W)=>show WZ W (.agg #[Z9 ca,XQ,XP,X5,XR,X2,Z9 Xr,wp,Xz,Ym,Xp,wf,ZD,bv,.bool wd,lo,ti,c1,c2,g1,g2]) k from⟨_,_,_,_,_,_,_,_,_,_,_,_,_,_,_,_,_,_,_,_,_,rfl,WL.o W h⟩);have Wt:=bx (Eh _ k s e V (Yx.o V ZR.o) Z0);have V6:s.data.toList.length<=600:=by grind[size_eq]
 have Tz:e.data.toList.length<=60:=by simp_all
 cases Z8:C.ad k with
 |false=>
  have ZK:=bx (C.acw (s:=s.data.toList) (e:=e.data.toList) (n:=n) (d:=d) Z8);rw[C.bO Z8]at Wt;rw[ZK.o.1,ZK.o.2];clear Z8 Z0 ZY Xj WL Yx V6 Tz;have ZA:=ZF.o V YU
  go_in
  go_upto_region 1 with(fail)
  rw[<-ZN.o];go_wp2_with (refine X8 rfl _ rfl _ rfl ZA rfl ?_)
  refine Y3 Wt.o λZV ZZ=>?_
  have ZW:=Zw ZR ZZ;have Xg:=bx ZZ;clear ZZ ZA
  go_wp2
  go_ret2
  exact⟨rfl,ZW.o⟩
 |true=>
  rw[C.a6 (s:=s.data.toList) (e:=e.data.toList) Z8 V6 Tz]at Wt
  by_cases ZP:n<0\/300<n
  ·have ZK:=bx (C.dp (s:=s.data.toList) (e:=e.data.toList) (n:=n) (d:=d) (r:=161) Z8 V6 Tz (by omega) (by decide));rw[ZK.o.1,ZK.o.2]
   by_cases ZI:n<0
   focus
    have d1:=Yh ZI
   rotate_left
   focus
    have d1:=Yp ZI;have d2:decide (300<n)=true:=Yh (by omega)
   rotate_left
   all_goals
    clear Z8 Z0 ZY Xj WL Yx V6 Tz ZP ZI;have ZA:=ZF.o V YU
    go_in
    go_upto_region 1 with(fail)
    rw[<-ZN.o];go_wp2_with (refine X8 rfl _ rfl _ rfl ZA rfl ?_)
    refine Y3 Wt.o λZV ZZ=>?_
    have ZW:=Zw ZR ZZ;have Xg:=bx ZZ;clear ZZ ZA
    go_wp2
    go_ret2
    exact⟨rfl,ZW.o⟩
  have d1:decide (n<0)=false:=Yp (by omega);have d2:decide (300<n)=false:=Yp (by omega)
  by_cases Zm:d<0\/2<d
  ·have ZK:=bx (C.dp (s:=s.data.toList) (e:=e.data.toList) (n:=n) (d:=d) (r:=2) Z8 V6 Tz (by omega) (by decide));rw[ZK.o.1,ZK.o.2]
   by_cases ZI:d<0
   focus
    have d3:=Yh ZI
   rotate_left
   focus
    have d3:=Yp ZI;have d4:decide (2<d)=true:=Yh (by omega)
   rotate_left
   all_goals
    clear Z8 Z0 ZY Xj WL Yx V6 Tz ZP Zm ZI;have ZA:=ZF.o V YU
    go_in
    go_upto_region 1 with(fail)
    rw[<-ZN.o];go_wp2_with (refine X8 rfl _ rfl _ rfl ZA rfl ?_)
    refine Y3 Wt.o λZV ZZ=>?_
    have ZW:=Zw ZR ZZ;have Xg:=bx ZZ;clear ZZ ZA
    go_wp2
    go_ret2
    exact⟨rfl,ZW.o⟩
  have d3:decide (d<0)=false:=Yp (by omega);have d4:decide (2<d)=false:=Yp (by omega);have Uu:=bx (λW(h:Z6 w W)=>vB _ k 2 e W (Yx.o W h) Z0 (by omega))
  by_cases RV:C.ah (C.kg k 2) e.data.toList=0
  ·have ZK:=bx (C.dp (s:=s.data.toList) (e:=e.data.toList) (n:=n) (d:=d) (r:=163) Z8 V6 Tz (by omega) (by decide));rw[ZK.o.1,ZK.o.2];rw[RV]at Uu;clear Z8 Z0 ZY Xj WL Yx V6 Tz ZP Zm RV;have ZA:=ZF.o V YU
   go_in
   go_upto_region 1 with(fail)
   rw[<-ZN.o];go_wp2_with (refine X8 rfl _ rfl _ rfl ZA rfl ?_)
   refine Y3 Wt.o λZV ZZ=>?_
   have ZW:=Zw ZR ZZ;have Xg:=bx ZZ;clear ZZ ZA;have ZA:=ZF.o ZV Xg.o;go_wp2_with (refine X8 rfl _ rfl _ rfl ZA rfl ?_)
   refine Y3 (Uu.o ZV ZW.o) λZB Z8=>?_
   have Zt:=Zw ZW Z8;have UI:=Zw Xg Z8;clear Z8 ZA
   go_wp2
   go_ret2
   exact⟨rfl,Zt.o⟩
  have ZK:=bx (C.eI (s:=s.data.toList) (e:=e.data.toList) (n:=n) (d:=d) Z8 V6 Tz ⟨by omega,by omega⟩ ⟨by omega,by omega⟩ RV);obtain⟨p,hp⟩:∃p,C.ck (C.kg k 2) (C.ab k.c e.data.toList) p:=by
   have h:=RV;unfold C.ah at h;rw[Y0 (C.bd (s:=e.data.toList) (C.db Z8 (i:=2) (by decide) (by decide)) (by omega))]at h;exact C.ee h
  have TR:=bx (λW(h:Z6 w W)=>vB _ k 2 s W (Yx.o W h) Z0 (by omega));have Tc:=bx (λW(h:Z6 w W)=>zj _ k e W (Yx.o W h) Z0 (by omega));have UK:=bx (λW=>show Calls prog 58 #[.string s] W λR8 w'=>R8=.returned (.string (bs (M.fix s.data.toList)))/\Z6 W w' from Ju s W (by omega));have Tn:=bx (λZc(c:Int) W (h:Z6 w W) (hl:XC W Zc (C.ae k.c e.data.toList)) (ZI:0<=c) (Z7:c<=300)=>aj8 _ Zc p k e c W (Yx.o W h) Z8 Xj hl ZI Z7 hp);have N6:0<=C.ah (C.kg k 2) s.data.toList:=by
   unfold C.ah
   split
   ·exact C.di _ _ _
   omega
  have LF:C.ah (C.kg k 2) s.data.toList<=8000000:=qt (by omega);have VB:=bx (λ(c:Int)(h:c<=300)=>C.eG (e:=e.data.toList) Z8 Tz h);have AB:=bx (C.eC k e.data.toList);have Y8:=bx (show C.aT k s.data.toList n e.data.toList d=if d=0 then C.aw k e.data.toList (max (n-C.ah (C.kg k 2) s.data.toList) 0)++M.fix s.data.toList else if d=1 then M.fix s.data.toList++C.aw k e.data.toList (max (n-C.ah (C.kg k 2) s.data.toList) 0)else C.aw k e.data.toList (max (n-C.ah (C.kg k 2) s.data.toList) 0/2)++(M.fix s.data.toList++C.aw k e.data.toList (max (n-C.ah (C.kg k 2) s.data.toList) 0-max (n-C.ah (C.kg k 2) s.data.toList) 0/2))from ZK.o.1);have o3:=bx RV;have V9:=Bq k.c e (by omega);have P5:=V9.1;have C8:(M.fix s.data.toList).length<=1000:=by have:=C.ba s.data.toList;grind[size_eq]
  rw[ZK.o.2];generalize C.aT k s.data.toList n e.data.toList d=VR at Y8⊢;generalize C.ah (C.kg k 2) s.data.toList=ms at Y8 TR N6 LF;generalize C.ah (C.kg k 2) e.data.toList=me at Uu o3;have d5:(me==0)=false:=by rw[Sz];exact o3.o
  generalize C.ae k.c e.data.toList=YJ at Tc Tn P5;generalize C.aw k e.data.toList=pf at Y8 Tn VB AB;generalize M.fix s.data.toList=VC at Y8 UK C8;obtain⟨N,Zp⟩:∃N,YJ.length=N:=⟨_,rfl⟩
  have ZE:=bx Zp;rw[Zp]at P5;obtain⟨OY,MJ⟩:∃c,c=n-ms:=⟨_,rfl⟩
  have jM:IntKind.i64.wrap (n-ms)=OY:=by rw[QN,MJ];omega
  have r9:OY<=300:=by omega
  rw[<-MJ]at Y8;clear Z8 Z0 ZY Xj WL Yx V6 Tz ZP ZK Zp V9 RV hp MJ N6 LF o3
  by_cases ZL:OY<=0
  ·have d6:=Yh ZL;have Gj:=bx (show VR=VC by
    rw[Y8.o,show max OY 0=0 by omega,show(0:Int)/2=0 by decide,show(0:Int)-0=0 by decide,AB.o];simp)
   rw[Gj.o];clear ZL Zm;have ZA:=ZF.o V YU
   go_in
   go_upto_region 1 with(fail)
   rw[<-ZN.o];go_wp2_with (refine X8 rfl _ rfl _ rfl ZA rfl ?_)
   refine Y3 Wt.o λZV ZZ=>?_
   have ZW:=Zw ZR ZZ;have Xg:=bx ZZ;clear ZZ ZA;have ZA:=ZF.o ZV Xg.o;go_wp2_with (refine X8 rfl _ rfl _ rfl ZA rfl ?_)
   refine Y3 (Uu.o ZV ZW.o) λZB Z8=>?_
   have Zt:=Zw ZW Z8;have UI:=Zw Xg Z8;clear Z8 ZA;go_wp2_with fail;refine Y3 (UK.o ZB) λZh Z8=>?_
   have YY:=Zw Zt Z8;have Ro:=Zw UI Z8;clear Z8;have ZA:=ZF.o Zh Ro.o;go_wp2_with (refine X8 rfl _ rfl _ rfl ZA rfl ?_)
   refine Y3 (TR.o Zh YY.o) λYL Z8=>?_
   have Ye:=Zw YY Z8;have Lo:=Zw Ro Z8;clear Z8 ZA
   go_wp2
   go_ret2
   exact⟨rfl,Ye.o⟩
  have d6:=Yp ZL;rw[show max OY 0=OY by omega]at Y8;have Vl:0<=OY:=by omega
  clear ZL
  rcases(show d=0\/d=1\/d=2 by omega)with rfl|rfl|rfl
  ·rw[Y0 rfl]at Y8;rw[Y8.o];have Mi:=bx (λZc W(h:Z6 w W) hl=>Tn.o Zc OY W h hl Vl r9);have TK:=VB.o OY r9;generalize pf OY=pa at Mi TK⊢;have Pi:=NY pa VC;have J7:(bs pa).size+(bs VC).size<=100000000:=by grind[Wu]
   clear Zm;have ZA:=ZF.o V YU
   go_in
   go_upto_region 1 with(fail)
   rw[<-ZN.o];go_wp2_with (refine X8 rfl _ rfl _ rfl ZA rfl ?_)
   refine Y3 Wt.o λZV ZZ=>?_
   have ZW:=Zw ZR ZZ;have Xg:=bx ZZ;clear ZZ ZA;have ZA:=ZF.o ZV Xg.o;go_wp2_with (refine X8 rfl _ rfl _ rfl ZA rfl ?_)
   refine Y3 (Uu.o ZV ZW.o) λZB Z8=>?_
   have Zt:=Zw ZW Z8;have UI:=Zw Xg Z8;clear Z8 ZA;go_wp2_with fail;refine Y3 (UK.o ZB) λZh Z8=>?_
   have YY:=Zw Zt Z8;have Ro:=Zw UI Z8;clear Z8;have ZA:=ZF.o Zh Ro.o;go_wp2_with (refine X8 rfl _ rfl _ rfl ZA rfl ?_)
   refine Y3 (TR.o Zh YY.o) λYL Z8=>?_
   have Ye:=Zw YY Z8;have Lo:=Zw Ro Z8;clear Z8 ZA;have ZA:=ZF.o YL Lo.o;go_wp2_with (refine X8 rfl _ rfl _ rfl ZA rfl ?_)
   refine(Tc.o YL Ye.o).mono ?_;rintro X1 YK ⟨⟨Zc,rfl,WJ⟩,Z8⟩;have X6:=Zw Ye Z8;have Mm:=Zw Lo Z8;obtain⟨Yr,lc,rfl,-⟩:=WJ.slice;rw[ZE.o]at WJ⊢;have Vb:=bx WJ;clear Z8 ZA WJ;have ZA:=ZF.o YK Mm.o;go_wp2_with (refine X8 rfl _ rfl _ rfl ZA rfl ?_)
   refine Y3 (Mi.o _ YK X6.o Vb.o) λXA Z8=>?_
   have VN:=Zw X6 Z8;have yW:=Zw Mm Z8;clear Z8 ZA
   go_wp2
   go_ret2
   exact⟨rfl,VN.o⟩
  ·rw[Y4 (by decide),Y0 rfl]at Y8;rw[Y8.o];have Mi:=bx (λZc W(h:Z6 w W) hl=>Tn.o Zc OY W h hl Vl r9);have TK:=VB.o OY r9;generalize pf OY=pa at Mi TK⊢;have Pi:=NY VC pa;have J7:(bs VC).size+(bs pa).size<=100000000:=by grind[Wu]
   clear Zm;have ZA:=ZF.o V YU
   go_in
   go_upto_region 1 with(fail)
   rw[<-ZN.o];go_wp2_with (refine X8 rfl _ rfl _ rfl ZA rfl ?_)
   refine Y3 Wt.o λZV ZZ=>?_
   have ZW:=Zw ZR ZZ;have Xg:=bx ZZ;clear ZZ ZA;have ZA:=ZF.o ZV Xg.o;go_wp2_with (refine X8 rfl _ rfl _ rfl ZA rfl ?_)
   refine Y3 (Uu.o ZV ZW.o) λZB Z8=>?_
   have Zt:=Zw ZW Z8;have UI:=Zw Xg Z8;clear Z8 ZA;go_wp2_with fail;refine Y3 (UK.o ZB) λZh Z8=>?_
   have YY:=Zw Zt Z8;have Ro:=Zw UI Z8;clear Z8;have ZA:=ZF.o Zh Ro.o;go_wp2_with (refine X8 rfl _ rfl _ rfl ZA rfl ?_)
   refine Y3 (TR.o Zh YY.o) λYL Z8=>?_
   have Ye:=Zw YY Z8;have Lo:=Zw Ro Z8;clear Z8 ZA;have ZA:=ZF.o YL Lo.o;go_wp2_with (refine X8 rfl _ rfl _ rfl ZA rfl ?_)
   refine(Tc.o YL Ye.o).mono ?_;rintro X1 YK ⟨⟨Zc,rfl,WJ⟩,Z8⟩;have X6:=Zw Ye Z8;have Mm:=Zw Lo Z8;obtain⟨Yr,lc,rfl,-⟩:=WJ.slice;rw[ZE.o]at WJ⊢;have Vb:=bx WJ;clear Z8 ZA WJ;have ZA:=ZF.o YK Mm.o;go_wp2_with (refine X8 rfl _ rfl _ rfl ZA rfl ?_)
   refine Y3 (Mi.o _ YK X6.o Vb.o) λXA Z8=>?_
   have VN:=Zw X6 Z8;have yW:=Zw Mm Z8;clear Z8 ZA
   go_wp2
   go_ret2
   exact⟨rfl,VN.o⟩
  rw[Y4 (by decide),Y4 (by decide)]at Y8;rw[Y8.o];obtain⟨z2,VM⟩:∃q,q=OY/2:=⟨_,rfl⟩
  obtain⟨z3,Ph⟩:∃q,q=OY-z2:=⟨_,rfl⟩
  rw[<-VM,<-Ph];have ZM:OY.tdiv 2=z2:=by grind
  have RJ:IntKind.i64.wrap z2=z2:=by rw[QN];omega
  have Nc:IntKind.i64.wrap (OY-z2)=z3:=by rw[QN,Ph];omega
  have Mi:=bx (λZc W(h:Z6 w W) hl=>Tn.o Zc z2 W h hl (by omega) (by omega));have jg:=bx (λZc W(h:Z6 w W) hl=>Tn.o Zc z3 W h hl (by omega) (by omega));have TK:=VB.o z2 (by omega);have axc:=VB.o z3 (by omega);generalize pf z2=pa at Mi TK⊢;generalize pf z3=YM at jg axc⊢;have Pi:=NY pa VC;have aqW:=NY (pa++VC) YM;have J7:(bs pa).size+(bs VC).size<=100000000:=by grind[Wu]
  have aqm:(bs (pa++VC)).size+(bs YM).size<=100000000:=by rw[Wu,Wu,WR];omega
  have TT:¬(9223372036854775807<(bs pa).size+(bs VC).size):=by omega
  have Nj:¬(9223372036854775807<(bs (pa++VC)).size+(bs YM).size):=by omega
  clear Zm VM Ph;have ZA:=ZF.o V YU
  go_in
  go_upto_region 1 with(fail)
  rw[<-ZN.o];go_wp2_with (refine X8 rfl _ rfl _ rfl ZA rfl ?_)
  refine Y3 Wt.o λZV ZZ=>?_
  have ZW:=Zw ZR ZZ;have Xg:=bx ZZ;clear ZZ ZA;have ZA:=ZF.o ZV Xg.o;go_wp2_with (refine X8 rfl _ rfl _ rfl ZA rfl ?_)
  refine Y3 (Uu.o ZV ZW.o) λZB Z8=>?_
  have Zt:=Zw ZW Z8;have UI:=Zw Xg Z8;clear Z8 ZA;go_wp2_with fail;refine Y3 (UK.o ZB) λZh Z8=>?_
  have YY:=Zw Zt Z8;have Ro:=Zw UI Z8;clear Z8;have ZA:=ZF.o Zh Ro.o;go_wp2_with (refine X8 rfl _ rfl _ rfl ZA rfl ?_)
  refine Y3 (TR.o Zh YY.o) λYL Z8=>?_
  have Ye:=Zw YY Z8;have Lo:=Zw Ro Z8;clear Z8 ZA;have ZA:=ZF.o YL Lo.o;go_wp2_with (refine X8 rfl _ rfl _ rfl ZA rfl ?_)
  refine(Tc.o YL Ye.o).mono ?_;rintro X1 YK ⟨⟨Zc,rfl,WJ⟩,Z8⟩;have X6:=Zw Ye Z8;have Mm:=Zw Lo Z8;obtain⟨Yr,lc,rfl,-⟩:=WJ.slice;rw[ZE.o]at WJ⊢;have Vb:=bx WJ;clear Z8 ZA WJ;go_wp2_with fail;obtain⟨XA,Ho⟩:∃W,W=YK.drew:=⟨_,rfl⟩
  have z1:Z6 YK XA:=by rw[Ho];exact VQ YK 1
  have VN:=Zw X6 z1;have yW:=Zw Mm z1;have Ft:=bx (Vb.o.below z1);have Tj:=bx (ZF.o XA yW.o);refine Vv 16 (λW'=>Zv W' w.heap.size 38 #[Z9 ca,XQ,XP,X5,XR,X2,Z9 Xr,wp,Xz,Ym,Xp,wf,ZD,bv,.bool wd,lo,ti,c1,c2,g1,g2]) (by rfl) ?_;rw[<-Ho];clear Ho z1;refine kS 0 ?_ rfl Tj.o ?_ ?_;rotate_left
  ·(intro Dv hw;refine H2 38 (.tmp 5) ?_ w.heap.size ?_ _ underlying38 rfl (by rfl) hw <;> rfl)
  refine Vp [1,2,3,5] ?_
  iterate 4 (refine Vq ?_ rfl Tj.o ?_ ?_;rotate_left;·intro w q1;go_simp;try with_reducible rfl)
  refine Vr ?_;refine kS 7 ?_ rfl Tj.o ?_ ?_;rotate_left
  ·(intro Dv hw;refine H2 38 (.tmp 5) ?_ w.heap.size ?_ _ underlying38 rfl (by rfl) hw <;> rfl)
  refine Vp [8,9,10,11,12] ?_
  iterate 5 (refine Vq ?_ rfl Tj.o ?_ ?_;rotate_left;·intro w q1;go_simp;try with_reducible rfl)
  refine Vr ?_;refine Y1 4 rfl λY7 ZX=>?_
  go_simp;refine Y3 (Mi.o _ XA VN.o Ft.o) λXi Z8=>?_
  have XM:=Zw VN Z8;have yR:=Zw yW Z8;have zd:=bx (Ft.o.below Z8);have B9:=bx (ZF.o Xi yR.o);clear Z8;refine ZX.out _ _ (λ_=>B9.o) ?_;clear ZX Y7;refine kS 6 ?_ rfl B9.o ?_ ?_;rotate_left
  ·intro w q1;go_simp;try with_reducible rfl
  refine Y1 13 rfl λY7 ZX=>?_
  go_simp;refine Y3 (jg.o _ Xi XM.o zd.o) λVa Z8=>?_
  have Tw:=Zw XM Z8;have iY:=Zw yR Z8;have ayp:=bx (zd.o.below Z8);have vA:=bx (ZF.o Va iY.o);clear Z8;refine ZX.out _ _ (λ_=>vA.o) ?_;clear ZX Y7;refine kS 14 ?_ rfl vA.o ?_ ?_;rotate_left
  ·intro w q1;go_simp;try with_reducible rfl
  refine Y1 15 rfl λY7 ZX=>?_
  go_simp;refine ZX.out _ _ (λ_=>vA.o) ?_;clear ZX Y7;refine Y1 16 rfl λY7 ZX=>?_
  go_simp;refine ZX.out _ _ (λh=>by cases h) ?_;clear ZX Y7;refine kD ?_ _
  go_wp2
  go_ret2
  exact⟨rfl,Tw.o⟩
theorem an4(A:Nat->Addr)(B:Nat)(v:Value)(k:C.Kt)(s:ByteArray)(n:Int)(e:ByteArray)(d:Int)(w:World)(Z2:WZ w v k)(FO:s.size<=9223372036854775807)(Xj:e.size<=9223372036854775807)(hS:Sw A B w):
  Calls prog 5 #[v,.string s,Z9 n,.string e,Z9 d] w λx w'=>x=.returned (.bool true)/\Z6 w w':=by
 have Xe:=bx hS;have JK:=bx Z2;obtain⟨XX,UB,V2,z2,V4,z3,UO,z4,T1,z5,S1,Oe,RY,Od,O2,Ia,O1,z9,KU,Ie,KT,Ic,KS,z12,KA,IX,KR,IK,KQ,IB,KP,Ix,KO,Ib,KN,IM,rfl⟩:=Z2.slices;clear Z2;generalize k.c.p.1.length=Vy,k.c.p.2.length=TX,k.c.r.length=Qa,k.c.m.1.length=Lh,k.c.m.2.length=KM,k.w.p.1.length=FE,k.w.p.2.length=FD,k.w.r.length=FC,k.w.m.1.length=FB,k.w.m.2.length=Gt,k.d.p.1.length=Gq,k.d.p.2.length=Gn,k.s.lo.length=FF,k.s.ti.length=GR,k.s.ca.1.length=GT,k.s.ca.2.length=GC,k.s.ig.1.length=Gu,k.s.ig.2.length=GO,k.c.n=FK,k.w.n=FJ,k.d.wide=Mh at JK⊢;have JG:=bx (λW=>CI s 60 60 W rfl FO (by decide));have GH:=bx (Cn s 60);generalize Hg s 60=cs at JG GH;clear FO;have JU:=bx (λW=>CI e 20 20 W rfl Xj (by decide));have G7:=bx (Cn e 20);generalize Hg e 20=ce at JU G7;clear Xj;obtain⟨V,ZO⟩:∃V,V=w.alloc (.cells #[Z9 FK,.slice XX Vy UB,.slice V2 TX z2,.slice V4 Qa z3,.slice UO Lh z4,.slice T1 KM z5,Z9 FJ,.slice S1 FE Oe,.slice RY FD Od,.slice O2 FC Ia,.slice O1 FB z9,.slice KU Gt Ie,.slice KT Gq Ic,.slice KS Gn z12,.bool Mh,.slice KA FF IX,.slice KR GR IK,.slice KQ GT IB,.slice KP GC Ix,.slice KO Gu Ib,.slice KN GO IM] 38):=⟨_,rfl⟩
 have ZR:=bx (aB ZO);have GS:=bx (show Sep [Pc.blk w.heap.size 38 #[Z9 FK,.slice XX Vy UB,.slice V2 TX z2,.slice V4 Qa z3,.slice UO Lh z4,.slice T1 KM z5,Z9 FJ,.slice S1 FE Oe,.slice RY FD Od,.slice O2 FC Ia,.slice O1 FB z9,.slice KU Gt Ie,.slice KT Gq Ic,.slice KS Gn z12,.bool Mh,.slice KA FF IX,.slice KR GR IK,.slice KQ GT IB,.slice KP GC Ix,.slice KO Gu Ib,.slice KN GO IM],Pc.old w.heap.size w] V by rw[ZO];exact(Sep.start w).ak _ _);have Wy:=bx (show V.heap.size=w.heap.size+1 by rw[ZO];simp);have ZN:=bx ZO;clear hS ZO
 go_in
 go_wp2_with fail;rw[<-ZN.o];refine Y3 (qX A B V (Xe.o.below ZR.o)) λZV ZZ=>?_
 have ZW:=bx (bT ZR.o ZZ);have JJ:=bx (GS.o.below ZZ);have V0:=bx (show w.heap.size<ZV.heap.size by have:=Wy.o;have:=ZZ.size;omega);clear ZZ ZN;have VE:=bx (sY _ k w ZV JK.o ZW.o);have ZA:=JJ.o.blk 0 rfl;go_wp2_with (refine X8 rfl _ rfl _ rfl ZA rfl ?_)
 refine VE.o.mono ?_;rintro ex ZB ⟨Zz,Zy,rfl,OG⟩;clear ZA;have Zt:=bx (bT ZW.o Zz);have MS:=bx (JJ.o.below Zz);obtain⟨p1,r1,p2,r2,p3,r3,Ve,r4,U6,Tu,T2,Qe,Uc,Qd,Tm,Qc,Qk,Qb,Qp,Qj,Qo,Qi,Qn,Qh,Qm,Qg,Qs,QD,Qq,Qr,Ql,Qf,Qz,QA,QB,QC,rfl⟩:=(OG ZB (Turns.refl _ _) Zt.o).slices;have Iq:=sW k;obtain⟨K,Xc⟩:∃K,K=zm k:=⟨_,rfl⟩
 have Qt:=bx (show VT K by grind);rw[<-Xc]at OG⊢;clear Zz Xc Iq;generalize K.c.p.1.length=q1,K.c.p.2.length=q2,K.c.r.length=q3,K.c.m.1.length=q4,K.c.m.2.length=q5,K.w.p.1.length=q6,K.w.p.2.length=q7,K.w.r.length=q8,K.w.m.1.length=q9,K.w.m.2.length=q10,K.d.p.1.length=So,K.d.p.2.length=Sn,K.s.lo.length=Sb,K.s.ti.length=Rv,K.s.ca.1.length=Ru,K.s.ca.2.length=Rn,K.s.ig.1.length=Rt,K.s.ig.2.length=Rr,K.c.n=nu,K.w.n=Zo,K.d.wide=we at OG⊢;have G6:=bx OG;clear OG VE;have ZA:=MS.o.blk 0 rfl;have P0:=bx (show Sep [Pc.blk w.heap.size 38 #[Z9 nu,.slice p1 q1 r1,.slice p2 q2 r2,.slice p3 q3 r3,.slice Ve q4 r4,.slice U6 q5 Tu,Z9 Zo,.slice T2 q6 Qe,.slice Uc q7 Qd,.slice Tm q8 Qc,.slice Qk q9 Qb,.slice Qp q10 Qj,.slice Qo So Qi,.slice Qn Sn Qh,.bool we,.slice Qm Sb Qg,.slice Qs Rv QD,.slice Qq Ru Qr,.slice Ql Rn Qf,.slice Qz Rt QA,.slice QB Rr QC],Pc.old w.heap.size w] _ from MS.o.setRow 0 rfl #[Z9 nu,.slice p1 q1 r1,.slice p2 q2 r2,.slice p3 q3 r3,.slice Ve q4 r4,.slice U6 q5 Tu,Z9 Zo,.slice T2 q6 Qe,.slice Uc q7 Qd,.slice Tm q8 Qc,.slice Qk q9 Qb,.slice Qp q10 Qj,.slice Qo So Qi,.slice Qn Sn Qh,.bool we,.slice Qm Sb Qg,.slice Qs Rv QD,.slice Qq Ru Qr,.slice Ql Rn Qf,.slice Qz Rt QA,.slice QB Rr QC]);have NH:=bx (show Turns (λq=>q=w.heap.size) ZB _ from Turns.setRow (own:=λq=>q=w.heap.size) (g:=w.heap.size) rfl #[Z9 nu,.slice p1 q1 r1,.slice p2 q2 r2,.slice p3 q3 r3,.slice Ve q4 r4,.slice U6 q5 Tu,Z9 Zo,.slice T2 q6 Qe,.slice Uc q7 Qd,.slice Tm q8 Qc,.slice Qk q9 Qb,.slice Qp q10 Qj,.slice Qo So Qi,.slice Qn Sn Qh,.bool we,.slice Qm Sb Qg,.slice Qs Rv QD,.slice Qq Ru Qr,.slice Ql Rn Qf,.slice Qz Rt QA,.slice QB Rr QC])
 go_upto_region 3 with(refine wH rfl _ _ rfl _ rfl rfl ZA rfl (by rfl) (by kernel_rfl) ?_)
 generalize ZB.setRow w.heap.size #[Z9 nu,.slice p1 q1 r1,.slice p2 q2 r2,.slice p3 q3 r3,.slice Ve q4 r4,.slice U6 q5 Tu,Z9 Zo,.slice T2 q6 Qe,.slice Uc q7 Qd,.slice Tm q8 Qc,.slice Qk q9 Qb,.slice Qp q10 Qj,.slice Qo So Qi,.slice Qn Sn Qh,.bool we,.slice Qm Sb Qg,.slice Qs Rv QD,.slice Qq Ru Qr,.slice Ql Rn Qf,.slice Qz Rt QA,.slice QB Rr QC]=Zh at P0 NH⊢;clear ZA;have YY:=bx (P0.o.bel (n:=w.heap.size) (W0:=w) (by simp));have Un:=bx (G6.o Zh (NH.o.mono (λk _=>by have:=V0.o;omega)) YY.o);have WT:=bx (Xe.o.below YY.o);have ZF:=bx (λW(h:Z6 Zh W)=>(P0.o.blk 0 rfl).below h (P0.o.blk 0 rfl).lt);clear GS JJ MS P0 NH G6 ZR ZW Zt Wy JK Xe V0;have Tg:=GH.o;have Dc:=G7.o;have Ts:=bx (λW(h:Z6 Zh W)=>aq5 A B _ K cs n ce d W (Un.o.below h) Qt.o (by omega) (by omega) (WT.o.below h));have Q1:=bx (λW(h:Z6 Zh W)=>avn _ K cs n ce d W (Un.o.below h) Qt.o (by omega) (by omega));generalize C.aT K cs.data.toList n ce.data.toList d=CF at Ts Q1;generalize C.aU K cs.data.toList n ce.data.toList d=er1 at Ts Q1;have ahX:((bs CF).toList==(bs CF).toList)=true:=by simp
 clear Tg Dc;go_wp2_with fail;have Y9:=bx (show Z6 Zh Zh.drew from bT (Below.refl _ Zh) (VQ Zh 1));have YF:=bx (ZF.o Zh.drew Y9.o);refine Vv 7 (λW'=>Zv W' w.heap.size 38 #[Z9 nu,.slice p1 q1 r1,.slice p2 q2 r2,.slice p3 q3 r3,.slice Ve q4 r4,.slice U6 q5 Tu,Z9 Zo,.slice T2 q6 Qe,.slice Uc q7 Qd,.slice Tm q8 Qc,.slice Qk q9 Qb,.slice Qp q10 Qj,.slice Qo So Qi,.slice Qn Sn Qh,.bool we,.slice Qm Sb Qg,.slice Qs Rv QD,.slice Qq Ru Qr,.slice Ql Rn Qf,.slice Qz Rt QA,.slice QB Rr QC]) (by rfl) ?_;generalize Zh.drew=XE at YF Y9⊢;refine kS 0 ?_ rfl YF.o ?_ ?_;rotate_left
 ·(intro Dv hw;refine H2 38 (.tmp 5) ?_ w.heap.size ?_ _ underlying38 rfl (by rfl) hw <;> rfl)
 refine Vp [1,3,4,6] ?_
 iterate 4 (refine Vq ?_ rfl YF.o ?_ ?_;rotate_left;·(intro w hw;go_simp;first|done|with_reducible rfl))
 refine Vr ?_;refine Y1 2 rfl λY7 ZX=>?_
 go_simp;refine YW (JG.o _) ?_;refine ZX.out _ _ (λ_=>YF.o) ?_;clear ZX Y7;refine Y1 5 rfl λY7 ZX=>?_
 go_simp;refine YW (JU.o _) ?_;refine ZX.out _ _ (λ_=>YF.o) ?_;clear ZX Y7;refine Y1 7 rfl λY7 ZX=>?_
 go_simp;refine Y3 (Ts.o XE Y9.o) λYL Z8=>?_
 have Ye:=bx (bT Y9.o Z8);clear Z8;refine ZX.out _ _ (λh=>by cases h) ?_;clear ZX Y7;refine EA ?_;refine kU 8 ?_ rfl ?_ ?_;rotate_left
 ·(intro w;go_simp;first|done|with_reducible rfl)
 refine kU 9 ?_ rfl ?_ ?_;rotate_left
 ·(intro w;go_simp;first|done|with_reducible rfl)
 refine kU 10 ?_ rfl ?_ ?_;rotate_left
 ·(intro w;go_simp;first|done|with_reducible rfl)
 refine Y1 11 rfl λY7 ZX=>?_
 go_simp;refine ZX.out _ _ (λ_=>trivial) ?_;clear ZX Y7;refine Y1 12 rfl λY7 ZX=>?_
 go_simp;refine ZX.out _ _ (λ_=>trivial) ?_;clear ZX Y7;refine kD ?_ _;clear YF Y9;go_wp2_with fail;have Y9:=bx (show Z6 Zh YL.drew from bT Ye.o (VQ YL 1));have YF:=bx (ZF.o YL.drew Y9.o);refine Vv 7 (λW'=>Zv W' w.heap.size 38 #[Z9 nu,.slice p1 q1 r1,.slice p2 q2 r2,.slice p3 q3 r3,.slice Ve q4 r4,.slice U6 q5 Tu,Z9 Zo,.slice T2 q6 Qe,.slice Uc q7 Qd,.slice Tm q8 Qc,.slice Qk q9 Qb,.slice Qp q10 Qj,.slice Qo So Qi,.slice Qn Sn Qh,.bool we,.slice Qm Sb Qg,.slice Qs Rv QD,.slice Qq Ru Qr,.slice Ql Rn Qf,.slice Qz Rt QA,.slice QB Rr QC]) (by rfl) ?_;generalize YL.drew=NG at YF Y9⊢;refine kS 0 ?_ rfl YF.o ?_ ?_;rotate_left
 ·(intro Dv hw;refine H2 38 (.tmp 5) ?_ w.heap.size ?_ _ underlying38 rfl (by rfl) hw <;> rfl)
 refine Vp [1,3,4,6] ?_
 iterate 4 (refine Vq ?_ rfl YF.o ?_ ?_;rotate_left;·(intro w hw;go_simp;first|done|with_reducible rfl))
 refine Vr ?_;refine Y1 2 rfl λY7 ZX=>?_
 go_simp;refine YW (JG.o _) ?_;refine ZX.out _ _ (λ_=>YF.o) ?_;clear ZX Y7;refine Y1 5 rfl λY7 ZX=>?_
 go_simp;refine YW (JU.o _) ?_;refine ZX.out _ _ (λ_=>YF.o) ?_;clear ZX Y7;refine Y1 7 rfl λY7 ZX=>?_
 go_simp;refine Y3 (Q1.o NG Y9.o) λ_ Z8=>?_
 have X6:=bx (bT Y9.o Z8);clear Z8;refine ZX.out _ _ (λh=>by cases h) ?_;clear ZX Y7;refine EA ?_;refine kU 8 ?_ rfl ?_ ?_;rotate_left
 ·(intro w;go_simp;first|done|with_reducible rfl)
 refine kU 9 ?_ rfl ?_ ?_;rotate_left
 ·(intro w;go_simp;first|done|with_reducible rfl)
 refine kU 10 ?_ rfl ?_ ?_;rotate_left
 ·(intro w;go_simp;first|done|with_reducible rfl)
 refine Y1 11 rfl λY7 ZX=>?_
 go_simp;refine ZX.out _ _ (λ_=>trivial) ?_;clear ZX Y7;refine Y1 12 rfl λY7 ZX=>?_
 go_simp;refine ZX.out _ _ (λ_=>trivial) ?_;clear ZX Y7;refine kD ?_ _;clear YF Y9
 go_wp2
 go_ret
 exact⟨rfl,bT YY.o X6.o⟩
