/- Texts of this claim. -/
import Derived.Test.YtniemfpkcjdcfaaGreatDoorKXOpsJoins4

set_option maxRecDepth 100000
set_option maxHeartbeats 8000000
namespace Go.Proofs.YtniemfpkcjdcfaaGreatDoor
open Go.RowKit
attribute[local go_sem] Oper.semAt_some
open Go.Proofs.Tryz
def Cy(l:List (List UInt8)):List (List UInt8):=(l.take 20).map (·.take 40)
theorem ajN(l:List (List UInt8)):(Cy l).length<=20:=by unfold Cy;rw[X4,SW];omega
theorem anu(l:List (List UInt8)):∀x∈Cy l,x.length<=40:=by
 intro x Z4;unfold Cy at Z4;obtain⟨y,-,rfl⟩:=SL.1 Z4;rw[SW];omega
theorem auA{l:List (List UInt8)}{k:Nat}{x:List UInt8}(Z4:l[k]?=some x):(l.take (k+1)).map (·.take 40)=(l.take k).map (·.take 40)++[x.take 40]:=by
 rw[Uo,Z4,T9]
 rfl
theorem ajz(v:Value)(l:List (List UInt8))(w:World)(Z2:XC w v l):
  Calls prog 6 #[v] w λe w'=>(∃Zy,e=.returned Zy/\XC w' Zy (Cy l))/\Z6 w w':=by
 have Vb:=bx Z2;obtain⟨Yr,lc,rfl,-⟩:=Z2.slice;obtain⟨N,Zp⟩:∃N,l.length=N:=⟨_,rfl⟩
 have ZE:=bx Zp;rw[Zp]at Vb⊢;obtain⟨m,hm⟩:∃m,m=min N 20:=⟨_,rfl⟩
 have W3:=bx hm;have Oo:m<=20:=by omega
 have XI:=bx (vt w.heap.size w rfl);have s3:=bx (show m<=N by omega);clear Z2 Zp hm
 go_in
 go_wp2_with fail
 go_loopw[3,4] (λYd ZD wr=>∃k:Nat,k<=m/\ZD=Z9 k/\Box (Sep (Sd w.heap.size w Yd ((l.take k).map (·.take 40))) wr)) (λ_ ZD _=>m-(intOf ZD).toNat)
 ·exact⟨0,by omega,rfl,XI⟩
 obtain⟨k,Z3,rfl,YC⟩:=hrel;have XW:=bx (JB YC.o)
 by_cases Zu:k<m
 ·have agr:k<N:=by have:=s3.o;omega
  obtain⟨x,Z4⟩:=Yg l k (by rw[ZE.o];exact agr);obtain⟨VF,Um,cap',UV,N9,RK,R0,T3⟩:=Vb.o.get (by rintro rfl;simp at Z4);rw[ZE.o]at UV N9;obtain⟨rfl,rfl⟩:=XN UV;have Ua:=T3 k x Z4;have U1:=bx (auA Z4);have U2:=bx (λW(h:Z6 w W)=>show ZQ W VF (Um+k)=some (.string (bs x))from(h.cell (p:=⟨VF,Um+k,none⟩) R0).trans Ua);have Zq:=Wu x;obtain⟨q,Zs⟩:∃q,q=min x.length 40:=⟨_,rfl⟩
  have aAj:min (x.length:Int) 40=(q:Int):=by omega
  have Xa:=Cq (P:=prog) (T:=9) underlying9 x q (q:Int) rfl (by omega);have ag2:x.take q=x.take 40:=by rw[Zs,Nat.min_comm,<-List.take_take,OR]
  rw[ag2]at Xa;generalize x.take 40=X at Xa U1;have SH:=bx (show((l.take k).map (·.take 40)).length<=1000000000 by rw[X4,SW];omega);generalize(l.take k).map (·.take 40)=Yc at YC U1 SH;have Xm:=bx (show Sep (Sd w.heap.size w u3 Yc) wr.drew from YC.o.drewN 1);have Y9:=bx (show Z6 w wr.drew from XW.o.trans ((VQ wr 1).mono XW.o.size));have YF:=bx (U2.o wr.drew Y9.o);have WP:w.heap.size<=wr.drew.heap.size:=Y9.o.size;have azm:k<20:=by omega
  unfold maxLen at RK;clear Z4 UV T3 Ua Zs ag2;go_wp2_with fail;refine Vv 14 (λW'=>ZQ W' VF (Um+k)=some (.string (bs x))) (by kernel_rfl) ?_;generalize wr.drew=Yl at Xm Y9 YF WP⊢;refine Vp [0,1,2,3,4,5,6,7,8,9,10,11] ?_
  iterate 12 (refine Vq ?_ rfl YF.o ?_ ?_;rotate_left;·intro w q1;go_simp;try with_reducible rfl)
  refine Vr ?_;refine Y1 12 rfl λY7 ZX=>?_
  go_simp;refine ZX.out _ _ (λ_=>U2.o _ (Y9.o.trans ((Xl Yl _).mono Y9.o.size))) ?_;clear ZX Y7;refine Y1 13 rfl λY7 ZX=>?_
  refine H6 (u:=Vu X) rfl _ _ 39 rfl Iy Xm.o 0 rfl rfl (by kernel_rfl) rfl SH.o (by omega) WP ?_;rintro v6 XA WC -;have WQ:=bx (adA WC U1.o);have Tj:=bx (U2.o XA (JB WQ.o));clear WC;refine ZX.out _ _ (λ_=>Tj.o) ?_;clear ZX Y7;refine Y1 14 rfl λY7 ZX=>?_
  go_simp;refine ZX.out _ _ (λh=>by cases h) ?_;clear ZX Y7;refine kD ?_ _
  go_wp2
  go_roundw
  ·exact⟨k+1,by omega,by go_num,WQ⟩
  simp[intOf];omega
 obtain rfl:k=m:=by omega
 have ZK:=bx (show(l.take k).map (·.take 40)=Cy l by
  unfold Cy;rw[W3.o,<-ZE.o]
  congr 1
  rw[Nat.min_comm,<-List.take_eq_take_min])
 rw[ZK.o]at YC
 by_cases Z7:k<N
 ·have CR:¬k<20:=by have:=W3.o;omega
  go_wp2
  go_ret
  exact⟨⟨_,rfl,Ay YC.o⟩,XW.o⟩
 go_wp2
 go_ret
 exact⟨⟨_,rfl,Ay YC.o⟩,XW.o⟩
theorem arT(A:Nat->Addr)(B:Nat)(v Zc:Value)(k:C.Kt)(l:List (List UInt8))(e s:ByteArray)(w:World)(Z2:WZ w v k)(hl:XC w Zc l)(Xj:e.size<=9223372036854775807)(FO:s.size<=9223372036854775807)(hS:Sw A B w):
  Calls prog 3 #[v,Zc,.string e,.string s] w λx w'=>x=.returned (.bool true)/\Z6 w w':=by
 have rh:=bx (λW(h:Z6 w W)=>ajz Zc l W (hl.below h));obtain⟨aAE,aAF,rfl,-⟩:=hl.slice;have iX:=bx (anu l);have PW:=bx (ajN l);generalize Cy l=Pk at rh iX PW;obtain⟨ayq,kK⟩:∃q,l.length=q:=⟨_,rfl⟩
 rw[kK]at rh⊢;clear hl kK;have Xe:=bx hS;have JK:=bx Z2;obtain⟨XX,UB,V2,z2,V4,z3,UO,z4,T1,z5,S1,Oe,RY,Od,O2,Ia,O1,z9,KU,Ie,KT,Ic,KS,z12,KA,IX,KR,IK,KQ,IB,KP,Ix,KO,Ib,KN,IM,rfl⟩:=Z2.slices;clear Z2;generalize k.c.p.1.length=Vy,k.c.p.2.length=TX,k.c.r.length=Qa,k.c.m.1.length=Lh,k.c.m.2.length=KM,k.w.p.1.length=FE,k.w.p.2.length=FD,k.w.r.length=FC,k.w.m.1.length=FB,k.w.m.2.length=Gt,k.d.p.1.length=Gq,k.d.p.2.length=Gn,k.s.lo.length=FF,k.s.ti.length=GR,k.s.ca.1.length=GT,k.s.ca.2.length=GC,k.s.ig.1.length=Gu,k.s.ig.2.length=GO,k.c.n=FK,k.w.n=FJ,k.d.wide=Mh at JK⊢;have JU:=bx (λW=>CI e 20 20 W rfl Xj (by decide));have G7:=bx (Cn e 20);generalize Hg e 20=ce at JU G7;clear Xj;have JG:=bx (λW=>CI s 100 100 W rfl FO (by decide));have GH:=bx (Cn s 100);generalize Hg s 100=cs at JG GH;clear FO;obtain⟨V,ZO⟩:∃V,V=w.alloc (.cells #[Z9 FK,.slice XX Vy UB,.slice V2 TX z2,.slice V4 Qa z3,.slice UO Lh z4,.slice T1 KM z5,Z9 FJ,.slice S1 FE Oe,.slice RY FD Od,.slice O2 FC Ia,.slice O1 FB z9,.slice KU Gt Ie,.slice KT Gq Ic,.slice KS Gn z12,.bool Mh,.slice KA FF IX,.slice KR GR IK,.slice KQ GT IB,.slice KP GC Ix,.slice KO Gu Ib,.slice KN GO IM] 38):=⟨_,rfl⟩
 have ZR:=bx (aB ZO);have GS:=bx (show Sep [Pc.blk w.heap.size 38 #[Z9 FK,.slice XX Vy UB,.slice V2 TX z2,.slice V4 Qa z3,.slice UO Lh z4,.slice T1 KM z5,Z9 FJ,.slice S1 FE Oe,.slice RY FD Od,.slice O2 FC Ia,.slice O1 FB z9,.slice KU Gt Ie,.slice KT Gq Ic,.slice KS Gn z12,.bool Mh,.slice KA FF IX,.slice KR GR IK,.slice KQ GT IB,.slice KP GC Ix,.slice KO Gu Ib,.slice KN GO IM],Pc.old w.heap.size w] V by rw[ZO];exact(Sep.start w).ak _ _);have Wy:=bx (show V.heap.size=w.heap.size+1 by rw[ZO];simp);have ZN:=bx ZO;clear hS ZO
 go_in
 go_wp2_with fail;rw[<-ZN.o];refine Y3 (qX A B V (Xe.o.below ZR.o)) λZV ZZ=>?_
 have ZW:=bx (bT ZR.o ZZ);have JJ:=bx (GS.o.below ZZ);have V0:=bx (show w.heap.size<ZV.heap.size by have:=Wy.o;have:=ZZ.size;omega);clear ZZ ZN;have VE:=bx (sY _ k w ZV JK.o ZW.o);have ZA:=JJ.o.blk 0 rfl;go_wp2_with (refine X8 rfl _ rfl _ rfl ZA rfl ?_)
 refine VE.o.mono ?_;rintro ex ZB ⟨Zz,Zy,rfl,OG⟩;clear ZA;have Zt:=bx (bT ZW.o Zz);have MS:=bx (JJ.o.below Zz);obtain⟨p1,r1,p2,r2,p3,r3,Ve,r4,U6,Tu,T2,Qe,Uc,Qd,Tm,Qc,Qk,Qb,Qp,Qj,Qo,Qi,Qn,Qh,Qm,Qg,Qs,QD,Qq,Qr,Ql,Qf,Qz,QA,QB,QC,rfl⟩:=(OG ZB (Turns.refl _ _) Zt.o).slices;have Iq:=sW k;obtain⟨K,Xc⟩:∃K,K=zm k:=⟨_,rfl⟩
 have Qt:=bx (show VT K by rw[Xc];exact Iq);rw[<-Xc]at OG⊢;clear Zz Xc Iq;generalize K.c.p.1.length=q1,K.c.p.2.length=q2,K.c.r.length=q3,K.c.m.1.length=q4,K.c.m.2.length=q5,K.w.p.1.length=q6,K.w.p.2.length=q7,K.w.r.length=q8,K.w.m.1.length=q9,K.w.m.2.length=q10,K.d.p.1.length=So,K.d.p.2.length=Sn,K.s.lo.length=Sb,K.s.ti.length=Rv,K.s.ca.1.length=Ru,K.s.ca.2.length=Rn,K.s.ig.1.length=Rt,K.s.ig.2.length=Rr,K.c.n=nu,K.w.n=Zo,K.d.wide=we at OG⊢;have G6:=bx OG;clear OG VE;have ZA:=MS.o.blk 0 rfl;have P0:=bx (show Sep [Pc.blk w.heap.size 38 #[Z9 nu,.slice p1 q1 r1,.slice p2 q2 r2,.slice p3 q3 r3,.slice Ve q4 r4,.slice U6 q5 Tu,Z9 Zo,.slice T2 q6 Qe,.slice Uc q7 Qd,.slice Tm q8 Qc,.slice Qk q9 Qb,.slice Qp q10 Qj,.slice Qo So Qi,.slice Qn Sn Qh,.bool we,.slice Qm Sb Qg,.slice Qs Rv QD,.slice Qq Ru Qr,.slice Ql Rn Qf,.slice Qz Rt QA,.slice QB Rr QC],Pc.old w.heap.size w] _ from MS.o.setRow 0 rfl #[Z9 nu,.slice p1 q1 r1,.slice p2 q2 r2,.slice p3 q3 r3,.slice Ve q4 r4,.slice U6 q5 Tu,Z9 Zo,.slice T2 q6 Qe,.slice Uc q7 Qd,.slice Tm q8 Qc,.slice Qk q9 Qb,.slice Qp q10 Qj,.slice Qo So Qi,.slice Qn Sn Qh,.bool we,.slice Qm Sb Qg,.slice Qs Rv QD,.slice Qq Ru Qr,.slice Ql Rn Qf,.slice Qz Rt QA,.slice QB Rr QC]);have NH:=bx (show Turns (λq=>q=w.heap.size) ZB _ from Turns.setRow (own:=λq=>q=w.heap.size) (g:=w.heap.size) rfl #[Z9 nu,.slice p1 q1 r1,.slice p2 q2 r2,.slice p3 q3 r3,.slice Ve q4 r4,.slice U6 q5 Tu,Z9 Zo,.slice T2 q6 Qe,.slice Uc q7 Qd,.slice Tm q8 Qc,.slice Qk q9 Qb,.slice Qp q10 Qj,.slice Qo So Qi,.slice Qn Sn Qh,.bool we,.slice Qm Sb Qg,.slice Qs Rv QD,.slice Qq Ru Qr,.slice Ql Rn Qf,.slice Qz Rt QA,.slice QB Rr QC])
 go_upto_region 3 with(refine wH rfl _ _ rfl _ rfl rfl ZA rfl (by rfl) (by kernel_rfl) ?_)
 generalize ZB.setRow w.heap.size #[Z9 nu,.slice p1 q1 r1,.slice p2 q2 r2,.slice p3 q3 r3,.slice Ve q4 r4,.slice U6 q5 Tu,Z9 Zo,.slice T2 q6 Qe,.slice Uc q7 Qd,.slice Tm q8 Qc,.slice Qk q9 Qb,.slice Qp q10 Qj,.slice Qo So Qi,.slice Qn Sn Qh,.bool we,.slice Qm Sb Qg,.slice Qs Rv QD,.slice Qq Ru Qr,.slice Ql Rn Qf,.slice Qz Rt QA,.slice QB Rr QC]=Zh at P0 NH⊢;clear ZA;have YY:=bx (P0.o.bel (n:=w.heap.size) (W0:=w) (by simp));have Un:=bx (show WZ Zh (.agg #[Z9 nu,.slice p1 q1 r1,.slice p2 q2 r2,.slice p3 q3 r3,.slice Ve q4 r4,.slice U6 q5 Tu,Z9 Zo,.slice T2 q6 Qe,.slice Uc q7 Qd,.slice Tm q8 Qc,.slice Qk q9 Qb,.slice Qp q10 Qj,.slice Qo So Qi,.slice Qn Sn Qh,.bool we,.slice Qm Sb Qg,.slice Qs Rv QD,.slice Qq Ru Qr,.slice Ql Rn Qf,.slice Qz Rt QA,.slice QB Rr QC]) K from G6.o Zh (NH.o.mono (λk _=>by have:=V0.o;omega)) YY.o);have WT:=bx (Xe.o.below YY.o);have ZF:=bx (λW(h:Z6 Zh W)=>(P0.o.blk 0 rfl).below h (P0.o.blk 0 rfl).lt);clear GS JJ MS P0 NH G6 ZR ZW Zt Wy JK Xe V0;go_wp2_with fail;refine(rh.o Zh YY.o).mono ?_;rintro ex YL ⟨⟨Za,rfl,Kc⟩,Z8⟩;obtain⟨R6,XG,rfl,-⟩:=Kc.slice;have Ye:=bx Z8;have KK:=bx Kc;obtain⟨N,Zp⟩:∃q,Pk.length=q:=⟨_,rfl⟩
 rw[Zp]at KK⊢;have SG:=bx Zp;clear Z8 Kc rh Zp;go_wp2_with fail;refine YW (JG.o _) ?_;clear JG;have Tg:cs.size<=100:=GH.o;have Dc:ce.size<=20:=G7.o;have Ts:=bx (λW(h:Z6 Zh W)(ZG:Z6 YL W)=>avk A B _ _ K Pk ce W (Un.o.below h) Qt.o (KK.o.below ZG) (by have:=PW.o;omega) (by omega) (WT.o.below h));have Q1:=bx (λW(h:Z6 Zh W)(ZG:Z6 YL W)=>avK _ _ K Pk ce W (Un.o.below h) Qt.o (KK.o.below ZG) PW.o iX.o (by omega));have Ow:=bx (λW(h:Z6 Zh W)=>av9 A B _ K cs W (Un.o.below h) Qt.o (by omega) (WT.o.below h));have LN:=bx (λW(h:Z6 Zh W)=>aqv _ K cs W (Un.o.below h) Qt.o (by omega));have Du:=bx (λW(h:Z6 Zh W)=>ajM A B _ K cs W (Un.o.below h) Qt.o (by omega) (WT.o.below h));have Dt:=bx (λW(h:Z6 Zh W)=>ajr _ K cs W (Un.o.below h) Qt.o (by omega));have Ds:=bx (λW(h:Z6 Zh W)=>aqV A B _ K cs W (Un.o.below h) Qt.o (by omega) (WT.o.below h));have Dr:=bx (λW(h:Z6 Zh W)=>anN _ K cs W (Un.o.below h) Qt.o (by omega));generalize C.cy K Pk ce.data.toList=CF at Ts Q1;generalize C.bM K Pk ce.data.toList=er1 at Ts Q1;generalize C.cv K cs.data.toList=tt2 at Ow LN;generalize C.ar K cs.data.toList []=er2 at Ow LN;generalize C.cR K cs.data.toList=tt3 at Du Dt;generalize C.cN K cs.data.toList=er3 at Du Dt;generalize C.cU K cs.data.toList=tt4 at Ds Dr;generalize C.cP K cs.data.toList=er4 at Ds Dr;have ahX:((bs CF).toList==(bs CF).toList)=true:=by simp
 have aA4:((bs tt2).toList==(bs tt2).toList)=true:=by simp
 have aA5:((bs tt3).toList==(bs tt3).toList)=true:=by simp
 have aA6:((bs tt4).toList==(bs tt4).toList)=true:=by simp
 clear Tg Dc;go_wp2_with fail;have Y9:=bx (show Z6 Zh YL.drew from bT Ye.o (VQ YL 1));have W6:=bx (show Z6 YL YL.drew from VQ YL 1);have YF:=bx (ZF.o YL.drew Y9.o);refine Vv 4 (λW'=>Zv W' w.heap.size 38 #[Z9 nu,.slice p1 q1 r1,.slice p2 q2 r2,.slice p3 q3 r3,.slice Ve q4 r4,.slice U6 q5 Tu,Z9 Zo,.slice T2 q6 Qe,.slice Uc q7 Qd,.slice Tm q8 Qc,.slice Qk q9 Qb,.slice Qp q10 Qj,.slice Qo So Qi,.slice Qn Sn Qh,.bool we,.slice Qm Sb Qg,.slice Qs Rv QD,.slice Qq Ru Qr,.slice Ql Rn Qf,.slice Qz Rt QA,.slice QB Rr QC]) (by kernel_rfl) ?_;generalize YL.drew=NG at YF Y9 W6⊢;refine kS 0 ?_ rfl YF.o ?_ ?_;rotate_left
 ·(intro Dv hw;refine H2 38 (.tmp 4) ?_ w.heap.size ?_ _ underlying38 rfl (by kernel_rfl) hw <;> rfl)
 refine kS 1 ?_ rfl YF.o ?_ ?_;rotate_left
 ·(intro w hw;go_simp;first|done|with_reducible rfl)
 refine kS 2 ?_ rfl YF.o ?_ ?_;rotate_left
 ·(intro w hw;go_simp;first|done|with_reducible rfl)
 refine Y1 3 rfl λY7 ZX=>?_
 go_simp;refine YW (JU.o _) ?_;refine ZX.out _ _ (λ_=>YF.o) ?_;clear ZX Y7;refine Y1 4 rfl λY7 ZX=>?_
 go_simp;have IF:=bx (bT (Below.refl _ YL) W6.o);refine Y3 (Ts.o NG Y9.o IF.o) λYK Z8=>?_
 have X6:=bx (bT Y9.o Z8);have M9:=bx (bT IF.o Z8);clear Z8;refine ZX.out _ _ (λh=>by cases h) ?_;clear ZX Y7;refine EA ?_;refine kU 5 ?_ rfl ?_ ?_;rotate_left
 ·(intro w;go_simp;first|done|with_reducible rfl)
 refine kU 6 ?_ rfl ?_ ?_;rotate_left
 ·(intro w;go_simp;first|done|with_reducible rfl)
 refine kU 7 ?_ rfl ?_ ?_;rotate_left
 ·(intro w;go_simp;first|done|with_reducible rfl)
 refine Y1 8 rfl λY7 ZX=>?_
 go_simp;refine ZX.out _ _ (λ_=>trivial) ?_;clear ZX Y7;refine Y1 9 rfl λY7 ZX=>?_
 go_simp;refine ZX.out _ _ (λ_=>trivial) ?_;clear ZX Y7;refine kD ?_ _;clear YF Y9 W6 IF;go_wp2_with fail;have Y9:=bx (show Z6 Zh YK.drew from bT X6.o (VQ YK 1));have W6:=bx (show Z6 YK YK.drew from VQ YK 1);have YF:=bx (ZF.o YK.drew Y9.o);refine Vv 4 (λW'=>Zv W' w.heap.size 38 #[Z9 nu,.slice p1 q1 r1,.slice p2 q2 r2,.slice p3 q3 r3,.slice Ve q4 r4,.slice U6 q5 Tu,Z9 Zo,.slice T2 q6 Qe,.slice Uc q7 Qd,.slice Tm q8 Qc,.slice Qk q9 Qb,.slice Qp q10 Qj,.slice Qo So Qi,.slice Qn Sn Qh,.bool we,.slice Qm Sb Qg,.slice Qs Rv QD,.slice Qq Ru Qr,.slice Ql Rn Qf,.slice Qz Rt QA,.slice QB Rr QC]) (by kernel_rfl) ?_;generalize YK.drew=W5 at YF Y9 W6⊢;refine kS 0 ?_ rfl YF.o ?_ ?_;rotate_left
 ·(intro Dv hw;refine H2 38 (.tmp 4) ?_ w.heap.size ?_ _ underlying38 rfl (by kernel_rfl) hw <;> rfl)
 refine kS 1 ?_ rfl YF.o ?_ ?_;rotate_left
 ·(intro w hw;go_simp;first|done|with_reducible rfl)
 refine kS 2 ?_ rfl YF.o ?_ ?_;rotate_left
 ·(intro w hw;go_simp;first|done|with_reducible rfl)
 refine Y1 3 rfl λY7 ZX=>?_
 go_simp;refine YW (JU.o _) ?_;refine ZX.out _ _ (λ_=>YF.o) ?_;clear ZX Y7;refine Y1 4 rfl λY7 ZX=>?_
 go_simp;have IF:=bx (bT M9.o W6.o);refine Y3 (Q1.o W5 Y9.o IF.o) λXA Z8=>?_
 have VN:=bx (bT Y9.o Z8);have wx:=bx (bT IF.o Z8);clear Z8;refine ZX.out _ _ (λh=>by cases h) ?_;clear ZX Y7;refine EA ?_;refine kU 5 ?_ rfl ?_ ?_;rotate_left
 ·(intro w;go_simp;first|done|with_reducible rfl)
 refine kU 6 ?_ rfl ?_ ?_;rotate_left
 ·(intro w;go_simp;first|done|with_reducible rfl)
 refine kU 7 ?_ rfl ?_ ?_;rotate_left
 ·(intro w;go_simp;first|done|with_reducible rfl)
 refine Y1 8 rfl λY7 ZX=>?_
 go_simp;refine ZX.out _ _ (λ_=>trivial) ?_;clear ZX Y7;refine Y1 9 rfl λY7 ZX=>?_
 go_simp;refine ZX.out _ _ (λ_=>trivial) ?_;clear ZX Y7;refine kD ?_ _;clear YF Y9 W6 IF;have ZA:=ZF.o XA VN.o;go_wp2_with (refine X8 rfl _ rfl _ rfl ZA rfl ?_)
 refine Y3 (Ow.o XA VN.o) λXi Z8=>?_
 clear ZA;have XM:=bx (bT VN.o Z8);clear Z8 Ow;have ZA:=ZF.o Xi XM.o;go_wp2_with (refine X8 rfl _ rfl _ rfl ZA rfl ?_)
 refine Y3 (LN.o Xi XM.o) λVa Z8=>?_
 clear ZA;have Tw:=bx (bT XM.o Z8);clear Z8 LN;have ZA:=ZF.o Va Tw.o;go_wp2_with (refine X8 rfl _ rfl _ rfl ZA rfl ?_)
 refine Y3 (Du.o Va Tw.o) λPM Z8=>?_
 clear ZA;have UD:=bx (bT Tw.o Z8);clear Z8 Du;have ZA:=ZF.o PM UD.o;go_wp2_with (refine X8 rfl _ rfl _ rfl ZA rfl ?_)
 refine Y3 (Dt.o PM UD.o) λEo Z8=>?_
 clear ZA;have Bj:=bx (bT UD.o Z8);clear Z8 Dt;have ZA:=ZF.o Eo Bj.o;go_wp2_with (refine X8 rfl _ rfl _ rfl ZA rfl ?_)
 refine Y3 (Ds.o Eo Bj.o) λEl Z8=>?_
 clear ZA;have wh:=bx (bT Bj.o Z8);clear Z8 Ds;have ZA:=ZF.o El wh.o;go_wp2_with (refine X8 rfl _ rfl _ rfl ZA rfl ?_)
 refine Y3 (Dr.o El wh.o) λ_ Z8=>?_
 clear ZA;have nj:=bx (bT wh.o Z8);clear Z8 Dr
 go_wp2
 go_ret
 exact⟨rfl,bT YY.o nj.o⟩
