/- Texts of this claim. -/
import Derived.Test.YtniemfpkcjdcfaaGreatDoorK27
import Derived.Test.YtniemfpkcjdcfaaGreatDoorKXOpsJoins2
import Derived.Test.YtniemfpkcjdcfaaGreatDoorKXOpsJoins3

set_option maxRecDepth 100000
set_option maxHeartbeats 16000000
namespace Go.Proofs.YtniemfpkcjdcfaaGreatDoor
open Go.RowKit
open Go.Proofs.Tryz
section
attribute[local go_sem] Oper.semAt_some
def T.bR(c:T.Cs)(s:List UInt8):Int:=if T.az 600 c=false then 140 else if 2000<s.length then 121 else 0
def T.b4(c:T.Cs)(s:List UInt8):List UInt8:=if T.bR c s=0 then U.textOf (T.lower c (Xw s))else[]
theorem T.ac8{c:T.Cs}{l:List Int}(h:T.az 600 c=true)(_:l.length<=2000)(hl:∀x∈l,U.right x=true):T.wrong c l=0:=by
 unfold T.wrong;rw[h,Y4 (by simp),Y4 (by omega),Y4 (by rw[QG.2 hl];simp)]
theorem ata(v:Value)(c:T.Cs)(s:ByteArray)(w:World)(Z2:Sq w v c)(Z0:T.Small c)(_:s.size<=300):
  Calls prog 43 #[v,.string s] w λe w'=>e=.returned (.tuple #[.string ⟨(T.b4 c s.data.toList).toArray⟩,Z9 (T.bR c s.data.toList)])/\Z6 w w':=by
 have VO:=bx (λW(h:Z6 w W)=>Z2.below h);obtain⟨Zc,YI,ci,YQ,Yw,Yy,rfl,Z7,Z5,ZS,ZG,Zi,Yu⟩:=Z2;obtain⟨V,ZO⟩:∃V,V=w.alloc (.cells #[Zc,YI,ci,YQ,Yw,Yy] 36):=⟨_,rfl⟩
 have ZR:=bx (aB ZO);have Ze:=bx (aK ZO);have ZF:=bx (λW(h:Z6 V W)=>Ze.o.d6 h);have ZN:=bx ZO;have Xx:=bx (sL _ c V (VO.o V ZR.o) Z0);have UL:=bx (λW=>Ju s W (by omega));have O9:=bx (λW(h:Z6 w W) Ul (hl:Y6 W Ul (Xw s.data.toList)) (FZ:(Xw s.data.toList).length<=100000)=>amt _ Ul c (Xw s.data.toList) W (VO.o W h) Z0 hl FZ);have HB:decide ((2000:Int)<(s.size:Int))=false:=Yp (by omega);have Xa:=OO s.data.toList;have TL:=uH s.data.toList;rw[<-size_eq]at TL Xa;have UK:=bx (λW=>yw ⟨(M.fix s.data.toList).toArray⟩ W (by rw[size_mk];omega));have JQ:=bx (Bc s.data.toList);obtain⟨Zd,Zx,Zr,Zk,Zl,Zg,YS⟩:=ZF.o V YU
 cases Vo:T.az 600 c with
 |false=>
  rw[Vo]at Xx;have Xn:=bx (show T.bR c s.data.toList=140 by unfold T.bR;rw[Y0 Vo]);have WO:=bx (show T.b4 c s.data.toList=[] by unfold T.b4;rw[Xn.o,Y4 (by decide)]);clear Z7 Z5 ZS ZG Zi Yu Z0 ZO Vo Xa TL
  go_in
  go_upto_region 1 with(fail)
  rw[<-ZN.o];go_wp2_with fail;refine X7 Xx.o ZR.o λZV ZW=>?_
  clear Zd Zx Zr Zk Zl Zg YS
  go_wp2
  go_ret2
  exact⟨OB (by rw[WO.o];rfl) (PZ Xn.o.symm),ZW.o⟩
 |true=>
  rw[Vo]at Xx;have Xn:=bx (show T.bR c s.data.toList=0 by unfold T.bR;rw[Vo,Y4 (by simp),Y4 (by rw[<-size_eq];omega)]);have WO:=bx (show T.b4 c s.data.toList=U.textOf (T.lower c (Xw s.data.toList)) by unfold T.b4;rw[Xn.o,Y0 rfl]);have KY:=T.ac8 Vo (by omega) (IC s.data.toList);have AZ:=T.afw Vo (IC s.data.toList);have G3:=bx (rm AZ);have RP:=bx (show T.bX c (Xw s.data.toList)=T.lower c (Xw s.data.toList) by unfold T.bX;rw[Y0 KY]);have FZ:(T.lower c (Xw s.data.toList)).length<=1000:=by have:=AZ.1;omega
  have PV:=bx (λZy W(Hp:Y6 W Zy (T.lower c (Xw s.data.toList)))=>gG Zy _ W Hp FZ);have Wy:=bx (show(Xw s.data.toList).length<=100000 by omega);rw[KY,RP.o]at O9;rw[G3.o]at PV;clear Z7 Z5 ZS ZG Zi Yu Z0 ZO Vo Xa TL KY AZ FZ
  go_in
  go_upto_region 1 with(fail)
  rw[<-ZN.o];go_wp2_with fail;refine Y3 Xx.o λZV ZZ=>?_
  have VD:=bx ZZ;clear ZZ Zd Zx Zr Zk Zl Zg YS;go_wp2_with fail;refine X7 (UL.o ZV) VD.o λZB Uv=>?_
  go_wp2_with fail;refine(UK.o ZB).mono ?_;rintro e Zh ⟨Zb,BE⟩;rw[toList_mk,JQ.o]at BE;obtain⟨v3,rfl,V7⟩:=BE;have OM:=Zw Uv Zb;have YY:=bx (bt ZR.o OM.o);have Ro:=bx (O9.o Zh YY.o v3 (Y6.au V7 rfl) Wy.o);clear Zb V7;obtain⟨Zd,Zx,Zr,Zk,Zl,Zg,YS⟩:=ZF.o Zh OM.o;go_wp2_with fail;refine Ro.o.mono ?_;rintro e YL ⟨⟨v4,rfl,C1⟩,Yf⟩;have Ye:=Zw YY Yf;have If:=bx (PV.o v4 YL C1);clear Yf C1 Zd Zx Zr Zk Zl Zg YS;go_wp2_with fail;refine X7 If.o Ye.o λ_ X6=>?_
  go_wp2
  go_ret2
  exact⟨OB (by rw[WO.o];rfl) (PZ Xn.o.symm),X6.o⟩
theorem akx(v tr:Value)(c:T.Cs)(t:Tab)(s:ByteArray)(w:World)(Z2:Sq w v c)(Z0:T.Small c)(tD:TabAt w tr t)(FS:Sr t)(ZY:s.size<=299):
  Calls prog 41 #[v,tr,.string s] w λe w'=>e=.returned (.tuple #[.string ⟨(T.bD c t s.data.toList).toArray⟩,Z9 (T.bC c t s.data.toList)])/\Z6 w w':=by
 have VO:=bx (λW(h:Z6 w W)=>Z2.below h);obtain⟨Zc,YI,ci,YQ,Yw,Yy,rfl,Z7,Z5,ZS,ZG,Zi,Yu⟩:=Z2;obtain⟨V,ZO⟩:∃V,V=w.alloc (.cells #[Zc,YI,ci,YQ,Yw,Yy] 36):=⟨_,rfl⟩
 have ZR:=bx (aB ZO);have Ze:=bx (aK ZO);have ZF:=bx (λW(h:Z6 V W)=>Ze.o.d6 h);have ZN:=bx ZO;have VE:=bx (λW(h:Z6 w W)=>tD.below h);obtain⟨pi,YM,Y2,Zo,Za,rfl,t1,t2,t3,t4,t5⟩:=tD;obtain⟨We,TA⟩:∃We,We=V.alloc (.cells #[Z9 t.n,pi,YM,Y2,Zo,Za] 31):=⟨_,rfl⟩
 have Wj:=bx (aB TA);have wj:=bx (aK TA);have Uv:=bx TA;have Zt:=bx (bt ZR.o Wj.o);have Gx:=bx (λW(h:Z6 We W)=>wj.o.d6 h);have FQ:V.heap.size=w.heap.size+1:=by rw[ZO];simp
 rw[FQ]at Gx;clear FQ;have Xx:=bx (sL _ c We (VO.o We Zt.o) Z0);have Q6:=bx (λW(h:Z6 w W)=>afr _ t s W (VE.o W h) FS ZY);have UL:=bx (λW=>Ju s W (by omega));have Xa:=OO s.data.toList;have TL:=uH s.data.toList;rw[<-size_eq]at TL Xa;have UK:=bx (λW=>yw ⟨(M.fix s.data.toList).toArray⟩ W (by rw[size_mk];omega));have JQ:=bx (Bc s.data.toList);obtain⟨Yk,ZP⟩:∃n,n=t.n:=⟨_,rfl⟩
 rw[<-ZP]at wj VE Gx Uv Q6⊢;obtain⟨Zd,Zx,Zr,Zk,Zl,Zg,YS⟩:=ZF.o We Wj.o
 cases Vo:T.az 600 c with
 |false=>
  rw[Vo]at Xx;have Xn:=bx (show T.bC c t s.data.toList=140 by unfold T.bC;rw[Y0 Vo]);have WO:=bx (show T.bD c t s.data.toList=[] by unfold T.bD;rw[Xn.o,Y4 (by decide)]);clear Z7 Z5 ZS ZG Zi Yu t1 t2 t3 t4 t5 Z0 FS ZO TA Vo Xa TL ZP
  go_in
  go_upto_region 1 with(fail)
  rw[<-ZN.o,<-Uv.o];go_wp2_with fail;refine X7 Xx.o Zt.o λZV ZW=>?_
  clear Zd Zx Zr Zk Zl Zg YS
  go_wp2
  go_ret2
  exact⟨OB (by rw[WO.o];rfl) (PZ Xn.o.symm),ZW.o⟩
 |true=>
  rw[Vo]at Xx;have US:=bx (show T.bC c t s.data.toList=Vn t s.data.toList by unfold T.bC;rw[Vo,Y4 (by simp)])
  by_cases he:Vn t s.data.toList=0
  ·have Xn:=bx (US.o.trans he);have WO:=bx (show T.bD c t s.data.toList=U.textOf (T.cS c t s.data.toList) by unfold T.bD;rw[Xn.o,Y0 rfl]);obtain⟨P5,Pt⟩:=QR t s.data.toList;have Ll:=bx (show Kx t s.data.toList=(Wc t s.data.toList).map (λn:Nat=>(n:Int)) by unfold Kx;rw[Y0 he,P5]);rw[he,Ll.o]at Q6;have QQ:=bx (show T.cS c t s.data.toList=T.bu c (Xw s.data.toList) (Wc t s.data.toList) ((Wc t s.data.toList).length-1)from rfl);have Hq:=IC s.data.toList;generalize Wc t s.data.toList=ns at Q6 QQ Pt;generalize T.cS c t s.data.toList=Es at WO QQ;generalize Xw s.data.toList=xs at JQ QQ Pt Xa Hq;have A4:=bx Pt;have yB:=bx (λk Z3=>T.fa Vo Hq Pt k Z3);have G3:=bx (λ(h:T.Fine xs.length Es)=>rm h);have St:=bx (λW(h:Z6 w W) Ul (hl:Y6 W Ul xs) (a b:Nat) (QK:a<=b) (Z8:b<=xs.length)=>awe _ Ul c xs a b W (VO.o W h) Z0 Vo hl Hq (by omega) QK Z8);have yS:=bx (λa b(Z8:b<=xs.length)=>T.adg Vo Hq a b Z8);obtain⟨N,Zp⟩:∃N,xs.length=N:=⟨_,rfl⟩
   have ZE:=bx Zp;have kI:N<=299:=by omega
   obtain⟨Q,VI⟩:∃Q,ns.length=Q:=⟨_,rfl⟩
   have Xy:=bx VI;have vJ:0<Q:=by rw[<-VI];exact Pt.ne
   have Cx:Q<=300:=by have:=Pt.len;omega
   clear Z7 Z5 ZS ZG Zi Yu t1 t2 t3 t4 t5 Z0 FS ZO TA Vo Xa TL ZP he P5 Pt Hq Zp VI
   go_in
   go_upto_region 1 with(fail)
   rw[<-ZN.o,<-Uv.o];go_wp2_with fail;refine Y3 Xx.o λZV ZZ=>?_
   have VD:=bx ZZ;have ZW:=Zw Zt ZZ;clear ZZ Zd Zx Zr Zk Zl Zg YS;obtain⟨Zd,Zx,Zr,Zk,Zl,Zg,YS⟩:=Gx.o ZV VD.o;go_wp2_with fail;refine(Q6.o ZV ZW.o).mono ?_;rintro e ZB ⟨⟨v2,rfl,SN⟩,Zz⟩;have UA:=bx SN;obtain⟨ca,Rm,rfl⟩:=SN.slice;rw[X4,Xy.o]at UA⊢;have aeI:=bx (bt VD.o Zz);clear Zz SN Zd Zx Zr Zk Zl Zg YS;go_wp2_with fail;refine Y3 (UL.o ZB) λZh Zb=>?_
   have OM:=bx (aeI.o.trans (Zb.mono aeI.o.size));have Un:=bx (UA.o.below Zb);clear Zb;go_wp2_with fail;refine(UK.o Zh).mono ?_;rintro e YL ⟨Yf,K2⟩;rw[toList_mk,JQ.o]at K2;obtain⟨v4,rfl,V7⟩:=K2;have KK:=Zw OM Yf;have Fw:=bx (Un.o.below Yf);have Lo:=bx (Y6.au V7 rfl);clear Yf V7;have XI:=bx (show Sep (RO YL.heap.size YL Z1 (T.bu c xs ns 0)) YL from(Sep.start YL).aH YL.heap.size 1 3);go_wp2_with fail
   go_loopw[12,13] (λYd i wr=>∃k:Nat,k+1<=Q/\i=Z9 k/\Box (Sep (RO YL.heap.size YL Yd (T.bu c xs ns k)) wr)) (λ_ i _=>Q-(intOf i).toNat)
   ·exact⟨0,by omega,rfl,XI⟩
   obtain⟨k,Z3,rfl,YC⟩:=hrel;have XW:=bx (G5 YC.o);have ano:=bx (bt KK.o XW.o);have YA:=bx (bt Zt.o ano.o);have zp:=bx (yB.o k (by rw[Xy.o];exact Z3))
   by_cases Zu:k+1<Q
   ·obtain⟨a,YZ⟩:=Yg ns k (by rw[Xy.o];omega);obtain⟨b,Z8⟩:=Yg ns (k+1) (by rw[Xy.o];omega);have EH:ns.getD k 0=a:=by rw[Rl,YZ,OT]
    have WG:ns.getD (k+1) 0=b:=by rw[Rl,Z8,OT]
    have QK:a<=b:=by have:=A4.o.up k (by rw[Xy.o];exact Zu);omega
    have z6:b<=xs.length:=by have:=A4.o.le (k+1) (by rw[Xy.o];exact Zu);omega
    obtain⟨VF,Um,AC,Zq,YP,Yb,WW,VK⟩:=Fw.o.get (by intro h;have:=congrArg List.length h;rw[X4,Xy.o]at this;simp at this;omega);rw[X4,Xy.o]at Zq YP;obtain⟨rfl,rfl⟩:=XN Zq;have Do:=VK k (a:Int) (by rw[RX,YZ];rfl);have Dm:=VK (k+1) (b:Int) (by rw[RX,Z8];rfl);have Nu:=bx (show T.bu c xs ns (k+1)=T.bu c xs ns k++T.word c xs a b by rw[T.e3,EH,WG]);have RI:=(yS.o a b z6).1;have UU:=zp.o.1;rw[EH]at UU;have Iu:decide ((k:Int)+1<(Q:Int))=true:=Yh (by omega);have ags:k<Q:=by omega
    have wQ:(k:Int)<(Q:Int):=by omega
    have agq:(k:Int)+1<(Q:Int):=by omega
    have iF:=bx (λW(h:Z6 YL W)=>St.o W (Zt.o.trans ((bt KK.o h).mono Zt.o.size)) v4 (Lo.o.below h) a b QK z6);have U2:=bx (λW(h:Z6 YL W)=>show ZQ W w.heap.size 0=some Zc/\ZQ W w.heap.size 1=some YI/\ZQ W w.heap.size 2=some ci/\ZQ W w.heap.size 3=some YQ/\ZQ W w.heap.size 4=some Yw/\ZQ W w.heap.size 5=some Yy/\w.heap.size<W.heap.size/\ZQ W VF (Um+k)=some (Z9 (a:Int))/\ZQ W VF (Um+(k+1))=some (Z9 (b:Int))from by
     have Z2:=bt KK.o h;obtain⟨Zd,Zx,Zr,Zk,Zl,Zg,YS⟩:=ZF.o W (bt Wj.o Z2);exact⟨Zd,Zx,Zr,Zk,Zl,Zg,YS,(h.cell (p:=⟨VF,Um+k,none⟩) WW).trans Do,(h.cell (p:=⟨VF,Um+(k+1),none⟩) WW).trans Dm⟩)
    generalize T.bu c xs ns k=Yc at YC Nu UU zp;generalize T.word c xs a b=sm at iF Nu RI;obtain⟨TO,Rs⟩:∃TO,sm.length=TO:=⟨_,rfl⟩
    have NX:=bx Rs;have Q7:=bx (show Yc.length+TO<=1000000000 by rw[ZE.o]at z6;omega);have Xm:=bx (show Sep (RO YL.heap.size YL u12 Yc) wr.drew from YC.o.drewN 1);have Y9:=bx (show Z6 YL wr.drew from XW.o.trans ((VQ wr 1).mono XW.o.size));have YF:=bx (U2.o wr.drew Y9.o);have Q9:=bx (iF.o wr.drew Y9.o);have WP:YL.heap.size<=wr.drew.heap.size:=XW.o.size;unfold maxLen at Yb;have TT:IntKind.i64.wrap ((k:Int)+1)=(k:Int)+1:=by rw[QN];omega
    have Nj:(0:Int)<=(k:Int)+1:=by omega
    have Sx:((k:Int)+1).toNat=k+1:=by omega
    clear YZ Z8 EH WG Zq WW VK Do Dm RI UU Rs;go_wp2_with fail;refine Vv 14 (λW'=>ZQ W' w.heap.size 0=some Zc/\ZQ W' w.heap.size 1=some YI/\ZQ W' w.heap.size 2=some ci/\ZQ W' w.heap.size 3=some YQ/\ZQ W' w.heap.size 4=some Yw/\ZQ W' w.heap.size 5=some Yy/\w.heap.size<W'.heap.size/\ZQ W' VF (Um+k)=some (Z9 (a:Int))/\ZQ W' VF (Um+(k+1))=some (Z9 (b:Int))) (by kernel_rfl) ?_;generalize wr.drew=Yl at Xm Y9 YF Q9 WP⊢;refine Vp [0,1,2,3,4,5,6,7,8,9,10,11] ?_
    iterate 12 (refine Vq ?_ rfl YF.o ?_ ?_;rotate_left;·rintro w ⟨q1,q2,q3,q4,q5,q6,q7,q8,q9⟩;go_simp;try with_reducible rfl)
    refine Vr ?_;refine Y1 12 rfl λY7 ZX=>?_
    go_simp;refine Q9.o.mono ?_;rintro e YK ⟨⟨v5,rfl,QH,-⟩,X0⟩;have XO:=bx (Xm.o.below X0);have Pn:=bx (Fo QH);rw[NX.o]at Pn;have UM:=bx (U2.o YK (bt Y9.o X0));have nV:YL.heap.size<=YK.heap.size:=XJ WP X0.size;clear QH X0 TT Nj Sx;refine ZX.out _ _ (λ_=>UM.o) ?_;clear ZX Y7;refine Y1 13 rfl λY7 ZX=>?_
    refine Fi rfl _ _ 22 rfl Iw (by decide) XO.o 0 rfl (by kernel_rfl) (by kernel_rfl) (m:=TO) (cs:=sm.map (Value.int .i64)) Pn.o (by rw[X4,Nat.mul_one,NX.o]) (by intro z ZY;obtain⟨q,-,rfl⟩:=SL.1 ZY;rfl) Q7.o (by omega) nV ?_;rintro v6 XA WC;have WQ:=bx (DQ WC (by rw[NX.o]) Nu.o);have Tj:=bx (U2.o XA (G5 WQ.o));clear WC;refine ZX.out _ _ (λ_=>Tj.o) ?_;clear ZX Y7;refine Y1 14 rfl λY7 ZX=>?_
    go_simp;refine ZX.out _ _ (λh=>by cases h) ?_;clear ZX Y7;refine kD ?_ _
    go_wp2
    go_roundw
    ·exact⟨k+1,by omega,by go_num,WQ⟩
    simp[intOf];omega
   have SP:k=ns.length-1:=by rw[Xy.o];omega
   have WF:=YC.o;rw[SP,<-QQ.o]at WF;have YE:=bx (DD WF).1;have Tn:=bx (show T.Fine xs.length Es by
    have WK:=zp.o;rw[SP,<-QQ.o,A4.o.last]at WK;exact WK)
   have PV:=bx (gG u12 Es wr YE.o (by have:=Tn.o.1;have:=ZE.o;omega));rw[G3.o Tn.o]at PV;have xK:(k:Int)+1=(Q:Int):=by omega
   clear WF SP Zu;go_wp2_with fail;refine X7 PV.o YA.o λYK X6=>?_
   go_wp2
   go_ret2
   exact⟨OB (by rw[WO.o];rfl) (PZ Xn.o.symm),X6.o⟩
  have WO:=bx (show T.bD c t s.data.toList=[] by unfold T.bD;rw[US.o,Y4 he]);obtain⟨r,ZT⟩:∃r,r=Vn t s.data.toList:=⟨_,rfl⟩
  have ZK:=bx (US.o.trans ZT.symm);rw[<-ZT]at he Q6;have YP:(r != 0)=true:=by rw[En];exact he
  clear Z7 Z5 ZS ZG Zi Yu t1 t2 t3 t4 t5 Z0 FS ZO TA Vo Xa TL ZP he ZT
  go_in
  go_upto_region 1 with(fail)
  rw[<-ZN.o,<-Uv.o];go_wp2_with fail;refine Y3 Xx.o λZV ZZ=>?_
  have VD:=bx ZZ;have ZW:=Zw Zt ZZ;clear ZZ Zd Zx Zr Zk Zl Zg YS;obtain⟨Zd,Zx,Zr,Zk,Zl,Zg,YS⟩:=Gx.o ZV VD.o;go_wp2_with fail;refine(Q6.o ZV ZW.o).mono ?_;rintro e ZB ⟨⟨v2,rfl,-⟩,Zz⟩;have UD:=Zw ZW Zz;clear Zz Zd Zx Zr Zk Zl Zg YS
  go_wp2
  go_ret2
  exact⟨OB (by rw[WO.o];rfl) (PZ ZK.o.symm),UD.o⟩
end
namespace C
def bM(k:Kt)(l:List (List UInt8))(e:List UInt8):Int:=if ad k=false then 160 else if 100<l.length then 24 else if 60<e.length\/l.any (λs=>decide (600<s.length))=true then 121 else 0
def cy(k:Kt)(l:List (List UInt8))(e:List UInt8):List UInt8:=if bM k l e=0 then Lib.join (l.map M.fix) (M.fix e)else[]
end C
namespace C
theorem join_cons(x:List UInt8){r:List (List UInt8)}(ZT:r≠[])(sep:List UInt8):Lib.join (x::r) sep=x++(sep++Lib.join r sep):=by
 cases r with
 |nil=>exact absurd rfl ZT
 |cons y t=>simp[Lib.join,List.intercalate,List.intersperse]
end C
section
attribute[local go_sem] Oper.semAt_some
theorem ajA(A:Nat->Addr)(B:Nat)(v:Value)(c:T.Cs)(s:ByteArray)(w:World)(Z2:Sq w v c)(Z0:T.Small c)(_:s.size<=300)(YN:E A B w)(hB:B<=w.heap.size):
  Calls prog 42 #[v,.string s] w λe w'=>e=.returned (.tuple #[.string ⟨(T.b4 c s.data.toList).toArray⟩,Z9 (T.bR c s.data.toList)])/\Z6 w w':=by
 have VO:=bx (λW(h:Z6 w W)=>Z2.below h);obtain⟨Zc,YI,ci,YQ,Yw,Yy,rfl,Z7,Z5,ZS,ZG,Zi,Yu⟩:=Z2;obtain⟨V,ZO⟩:∃V,V=w.alloc (.cells #[Zc,YI,ci,YQ,Yw,Yy] 36):=⟨_,rfl⟩
 have ZR:=bx (aB ZO);have Ze:=bx (aK ZO);have ZF:=bx (λW(h:Z6 V W)=>Ze.o.d6 h);have ZN:=bx ZO;have Xx:=bx (uC _ c V (VO.o V ZR.o) Z0);have Qu:=bx (λW(h:Z6 w W)=>show E A B W/\B<=W.heap.size from⟨YN.below (h.mono hB),XJ hB h.size⟩);have NN:=bx (λW(h:Z6 w W)=>aeQ A B s W (by omega) (Qu.o W h).1 (Qu.o W h).2);have O9:=bx (λW(h:Z6 w W) Ul (hl:Y6 W Ul (Xw s.data.toList)) (FZ:(Xw s.data.toList).length<=100000)=>ar2 A B _ Ul c (Xw s.data.toList) W (VO.o W h) Z0 hl FZ (Qu.o W h).1 (Qu.o W h).2);have HB:decide ((2000:Int)<(s.size:Int))=false:=Yp (by omega);have Xa:=OO s.data.toList;rw[<-size_eq]at Xa;obtain⟨Zd,Zx,Zr,Zk,Zl,Zg,YS⟩:=ZF.o V YU
 cases Vo:T.az 600 c with
 |false=>
  rw[Vo]at Xx;have Xn:=bx (show T.bR c s.data.toList=140 by unfold T.bR;rw[Y0 Vo]);have WO:=bx (show T.b4 c s.data.toList=[] by unfold T.b4;rw[Xn.o,Y4 (by decide)]);have HN:=bx (λW(h:Z6 w W)=>aaO A B 0 (by decide) W (Qu.o W h).1);unfold PE at HN;clear Z7 Z5 ZS ZG Zi Yu Z0 ZO Vo Xa YN hB
  go_in
  go_upto_region 1 with(fail)
  rw[<-ZN.o];go_wp2_with fail;refine X7 Xx.o ZR.o λZV ZW=>?_
  have g0:=(Qu.o ZV ZW.o).1.var 0 (by decide);clear Zd Zx Zr Zk Zl Zg YS;go_wp2_with fail;refine YW (HN.o ZV ZW.o) ?_
  go_wp2
  go_ret2
  exact⟨OB (by rw[WO.o];rfl) (PZ (by rw[Xn.o];rfl)),ZW.o⟩
 |true=>
  rw[Vo]at Xx;have Xn:=bx (show T.bR c s.data.toList=0 by unfold T.bR;rw[Vo,Y4 (by simp),Y4 (by rw[<-size_eq];omega)]);have WO:=bx (show T.b4 c s.data.toList=U.textOf (T.lower c (Xw s.data.toList)) by unfold T.b4;rw[Xn.o,Y0 rfl]);have KY:=T.ac8 Vo (by omega) (IC s.data.toList);have AZ:=T.afw Vo (IC s.data.toList);have G3:=bx (rm AZ);have RP:=bx (show T.bX c (Xw s.data.toList)=T.lower c (Xw s.data.toList) by unfold T.bX;rw[Y0 KY]);have FZ:(T.lower c (Xw s.data.toList)).length<=1000:=by have:=AZ.1;omega
  have PV:=bx (λZy W(h:Z6 w W)(Hp:Y6 W Zy (T.lower c (Xw s.data.toList)))=>adW A B Zy _ W Hp FZ (Qu.o W h).1 (Qu.o W h).2);have Wy:=bx (show(Xw s.data.toList).length<=100000 by omega);rw[KY,RP.o]at O9;rw[G3.o]at PV;clear Z7 Z5 ZS ZG Zi Yu Z0 ZO Vo Xa KY AZ FZ YN hB
  go_in
  go_upto_region 1 with(fail)
  rw[<-ZN.o];go_wp2_with fail;refine Y3 Xx.o λZV ZZ=>?_
  have VD:=bx ZZ;clear ZZ Zd Zx Zr Zk Zl Zg YS;go_wp2_with fail;have Y9:=bx (show Z6 V ZV.drew from VD.o.trans ((VQ ZV 1).mono VD.o.size));have YF:=bx (ZF.o ZV.drew Y9.o);refine Vv 8 (λW'=>ZQ W' w.heap.size 0=some Zc/\ZQ W' w.heap.size 1=some YI/\ZQ W' w.heap.size 2=some ci/\ZQ W' w.heap.size 3=some YQ/\ZQ W' w.heap.size 4=some Yw/\ZQ W' w.heap.size 5=some Yy/\w.heap.size<W'.heap.size) (by kernel_rfl) ?_;generalize ZV.drew=Yl at Y9 YF⊢;have YA:=bx (bt ZR.o Y9.o);refine kS 0 ?_ rfl YF.o ?_ ?_;rotate_left
  ·rintro w ⟨q1,q2,q3,q4,q5,q6,q7⟩;go_simp;try with_reducible rfl
  refine kS 1 ?_ rfl YF.o ?_ ?_;rotate_left
  ·rintro w ⟨q1,q2,q3,q4,q5,q6,q7⟩;go_simp;try with_reducible rfl
  refine Y1 2 rfl λY7 ZX=>?_
  go_simp;refine(NN.o Yl YA.o).mono ?_;rintro e YK ⟨⟨v5,rfl,QH⟩,X0⟩;have X6:=Zw Y9 X0;have yD:=bx (bt ZR.o X6.o);have UM:=bx (ZF.o YK X6.o);have Mm:=bx (O9.o YK yD.o v5 QH Wy.o);clear QH X0;refine ZX.out _ _ (λ_=>UM.o) ?_;clear ZX Y7;refine Y1 3 rfl λY7 ZX=>?_
  go_simp;refine Mm.o.mono ?_;rintro e XA ⟨⟨v6,rfl,BA⟩,Sy⟩;have VN:=Zw X6 Sy;have iG:=bx (bt ZR.o VN.o);have Tj:=bx (ZF.o XA VN.o);have aiX:=bx (PV.o v6 XA iG.o BA);clear BA Sy;refine ZX.out _ _ (λ_=>Tj.o) ?_;clear ZX Y7;refine Y1 4 rfl λY7 ZX=>?_
  go_simp;refine ZX.out _ _ (λ_=>Tj.o) ?_;clear ZX Y7;refine kS 5 ?_ rfl Tj.o ?_ ?_;rotate_left
  ·rintro w ⟨q1,q2,q3,q4,q5,q6,q7⟩;go_simp;try with_reducible rfl
  refine kS 6 ?_ rfl Tj.o ?_ ?_;rotate_left
  ·rintro w ⟨q1,q2,q3,q4,q5,q6,q7⟩;go_simp;try with_reducible rfl
  refine Y1 7 rfl λY7 ZX=>?_
  go_simp;refine ZX.out _ _ (λ_=>Tj.o) ?_;clear ZX Y7;refine Y1 8 rfl λY7 ZX=>?_
  go_simp;refine ZX.out _ _ (λh=>by cases h) ?_;clear ZX Y7;refine kD ?_ _;go_wp2_with fail;refine X7 aiX.o iG.o λ_ XM=>?_
  go_wp2
  go_ret2
  exact⟨OB (by rw[WO.o];rfl) (PZ Xn.o.symm),XM.o⟩
namespace C
def cU(k:Kt)(s:List UInt8):List UInt8:=if ar k s []=0 then T.b4 k.s s else[]
def cP(k:Kt)(s:List UInt8):Int:=if ar k s []=0 then T.bR k.s s else ar k s []
def cv(k:Kt)(s:List UInt8):List UInt8:=if ar k s []=0 then M.fix s else[]
theorem auW{k:Kt}{s:List UInt8}(h:ad k=false):cv k s=[]/\ar k s []=160:=by
 have ZI:=bO (s:=s) (e:=[]) h;exact⟨by unfold cv;rw[ZI];rfl,ZI⟩
theorem avR{k:Kt}{s:List UInt8}(h:ad k=true)(ZY:s.length<=600):cv k s=M.fix s/\ar k s []=0:=by
 have ZI:=a6 (s:=s) (e:=[]) h ZY (by simp);exact⟨by unfold cv;rw[Y0 ZI],ZI⟩
theorem gm{k:Kt}{s:List UInt8}(h:ad k=false):cR k s=[]/\cN k s=160:=by
 have ZI:=bO (s:=s) (e:=[]) h;exact⟨by unfold cR;rw[ZI];rfl,by unfold cN;rw[ZI];rfl⟩
theorem acu{k:Kt}{s:List UInt8}(h:ad k=false):cU k s=[]/\cP k s=160:=by
 have ZI:=bO (s:=s) (e:=[]) h;exact⟨by unfold cU;rw[ZI];rfl,by unfold cP;rw[ZI];rfl⟩
theorem abQ{k:Kt}{s:List UInt8}(h:ad k=true)(ZY:s.length<=600):cU k s=T.b4 k.s s/\cP k s=T.bR k.s s:=by
 have ZI:=a6 (s:=s) (e:=[]) h ZY (by simp);exact⟨by unfold cU;rw[Y0 ZI],by unfold cP;rw[Y0 ZI]⟩
end C
theorem ast(A:Nat->Addr)(B:Nat)(v:Value)(k:C.Kt)(s:ByteArray)(w:World)(Z2:WZ w v k)(Z0:VT k)(_:s.size<=299)(hS:Sw A B w)(Z8:C.ad k=false):
  Calls prog 12 #[v,.string s] w λX1 w'=>X1=.returned (.tuple #[.string (bs (C.cR k s.data.toList)),Z9 (C.cN k s.data.toList)])/\Z6 w w':=by
 obtain⟨R2,V,rfl,VS,ZN,ZR,ZF,Yx,Xb⟩:=PO Z2 hS;have WU:=bx ZR.o;have Uk:=bx (λ(Z8:C.ad k=false)=>D5 A B _ Z1 k s [] V (Yx.o V ZR.o) Z0 (Xb.o V ZR.o) Z8 (.inl ⟨rfl,rfl⟩));have X9:=bx (Uk.o Z8);have ZK:=bx (C.gm (s:=s.data.toList) Z8);clear Uk Z8 Z0 hS Yx;have ZA:=ZF.o V YU
 go_in
 go_upto_region 1 with(fail)
 rw[<-ZN.o];go_wp2_with (refine X8 rfl _ rfl _ rfl ZA VS ?_)
 refine X7 X9.o WU.o λZV ZW=>?_
 clear ZA;go_wp2_with fail;refine X7 (JM (160) ZV (Xb.o ZV ZW.o).t) ZW.o λ_ UD=>?_
 go_wp2
 go_ret2
 exact⟨by rw[ZK.o.1,ZK.o.2] <;> rfl,UD.o⟩
theorem ajM(A:Nat->Addr)(B:Nat)(v:Value)(k:C.Kt)(s:ByteArray)(w:World)(Z2:WZ w v k)(Z0:VT k)(ZY:s.size<=299)(hS:Sw A B w):
  Calls prog 12 #[v,.string s] w λX1 w'=>X1=.returned (.tuple #[.string (bs (C.cR k s.data.toList)),Z9 (C.cN k s.data.toList)])/\Z6 w w':=by
 cases Z8:C.ad k with
 |false=>exact ast A B v k s w Z2 Z0 ZY hS Z8
 |true=>
  exact hR A B v k s w Z2 Z0 ZY hS Z8
theorem awk(A:Nat->Addr)(B:Nat)(v:Value)(k:C.Kt)(s:ByteArray)(w:World)(Z2:WZ w v k)(Z0:VT k)(_:s.size<=300)(hS:Sw A B w)(Z8:C.ad k=false):
  Calls prog 14 #[v,.string s] w λX1 w'=>X1=.returned (.tuple #[.string (bs (C.cU k s.data.toList)),Z9 (C.cP k s.data.toList)])/\Z6 w w':=by
 obtain⟨R2,V,rfl,VS,ZN,ZR,ZF,Yx,Xb⟩:=PO Z2 hS;have WU:=bx ZR.o;have Uk:=bx (λ(Z8:C.ad k=false)=>D5 A B _ Z1 k s [] V (Yx.o V ZR.o) Z0 (Xb.o V ZR.o) Z8 (.inl ⟨rfl,rfl⟩));have X9:=bx (Uk.o Z8);have ZK:=bx (C.acu (s:=s.data.toList) Z8);clear Uk Z8 Z0 hS Yx;have ZA:=ZF.o V YU
 go_in
 go_upto_region 1 with(fail)
 rw[<-ZN.o];go_wp2_with (refine X8 rfl _ rfl _ rfl ZA VS ?_)
 refine X7 X9.o WU.o λZV ZW=>?_
 clear ZA;go_wp2_with fail;refine X7 (JM (160) ZV (Xb.o ZV ZW.o).t) ZW.o λ_ UD=>?_
 go_wp2
 go_ret2
 exact⟨by rw[ZK.o.1,ZK.o.2] <;> rfl,UD.o⟩
theorem ao1(A:Nat->Addr)(B:Nat)(v:Value)(k:C.Kt)(s:ByteArray)(w:World)(Z2:WZ w v k)(Z0:VT k)(ZY:s.size<=300)(hS:Sw A B w)(Z8:C.ad k=true):
  Calls prog 14 #[v,.string s] w λX1 w'=>X1=.returned (.tuple #[.string (bs (C.cU k s.data.toList)),Z9 (C.cP k s.data.toList)])/\Z6 w w':=by
 obtain⟨R2,V,rfl,VS,ZN,ZR,ZF,Yx,Xb⟩:=PO Z2 hS;have WU:=bx ZR.o;have VJ:=bx (λ(Z8:C.ad k=true)(ZY:s.size<=600)=>Mj A B _ Z1 k s [] V (Yx.o V ZR.o) Z0 (Xb.o V ZR.o) Z8 (.inl ⟨rfl,rfl⟩) ZY (by simp) (λ_ hp=>by cases hp));have X9:=bx (VJ.o Z8 (by omega));have ZK:=bx (C.abQ (s:=s.data.toList) Z8 (by rw[<-size_eq];omega));have Pr:=bx (λv1 W(h:Z6 w W)(Z7:Sq W v1 k.s)=>ajA A B v1 k.s s W Z7 Z0.s ZY (hS.below h).e (hS.below h).le);generalize T.b4 k.s s.data.toList=VR at Pr ZK;generalize T.bR k.s s.data.toList=te at Pr ZK;clear VJ Z8 Z0 hS ZY Yx;have ZA:=ZF.o V YU
 go_in
 go_upto_region 1 with(fail)
 rw[<-ZN.o];go_wp2_with (refine X8 rfl _ rfl _ rfl ZA VS ?_)
 refine X9.o.mono ?_;rintro X1 ZV ⟨⟨g,rfl,Vk,-⟩,ZZ⟩;have ZW:=Zw WU ZZ;have RC:=bx Vk;clear ZZ Vk ZA;obtain⟨py,Ii,CR,FL,Ey,ahA,Hl,ahB,xw,ahC,ahv,ahw,ahx,ahy,ahz,n15,n16,n17,n18,n19,n20,SP,BG⟩:=RC.o;have Yt:=bx (Pr.o _ ZV ZW.o BG.s);obtain⟨Zd,Zx,Zr,Zk,Zl,Zg,XK,W9,W8,W7,Rf,Re,Rc,Rb,Ra,QX,QW,QV,QU,QT,QS,YS⟩:=SP.c21 YU;clear SP BG Pr;go_wp2_with fail;refine X7 Yt.o ZW.o λ_ Zt=>?_
 clear Zd Zx Zr Zk Zl Zg XK W9 W8 W7 Rf Re Rc Rb Ra QX QW QV QU QT QS YS
 go_wp2
 go_ret2
 exact⟨by rw[ZK.o.1,ZK.o.2] <;> rfl,Zt.o⟩
theorem aqV(A:Nat->Addr)(B:Nat)(v:Value)(k:C.Kt)(s:ByteArray)(w:World)(Z2:WZ w v k)(Z0:VT k)(ZY:s.size<=300)(hS:Sw A B w):
  Calls prog 14 #[v,.string s] w λX1 w'=>X1=.returned (.tuple #[.string (bs (C.cU k s.data.toList)),Z9 (C.cP k s.data.toList)])/\Z6 w w':=by
 cases Z8:C.ad k with
 |false=>exact awk A B v k s w Z2 Z0 ZY hS Z8
 |true=>
  exact ao1 A B v k s w Z2 Z0 ZY hS Z8
theorem ajG(A:Nat->Addr)(B:Nat)(v:Value)(k:C.Kt)(s:ByteArray)(w:World)(Z2:WZ w v k)(Z0:VT k)(_:s.size<=600)(hS:Sw A B w)(Z8:C.ad k=false):
  Calls prog 10 #[v,.string s] w λX1 w'=>X1=.returned (.tuple #[.string (bs (C.cv k s.data.toList)),Z9 (C.ar k s.data.toList [])])/\Z6 w w':=by
 obtain⟨R2,V,rfl,VS,ZN,ZR,ZF,Yx,Xb⟩:=PO Z2 hS;have WU:=bx ZR.o;have Uk:=bx (λ(Z8:C.ad k=false)=>D5 A B _ Z1 k s [] V (Yx.o V ZR.o) Z0 (Xb.o V ZR.o) Z8 (.inl ⟨rfl,rfl⟩));have X9:=bx (Uk.o Z8);have ZK:=bx (C.auW (s:=s.data.toList) Z8);clear Uk Z8 Z0 hS Yx;have ZA:=ZF.o V YU
 go_in
 go_upto_region 1 with(fail)
 rw[<-ZN.o];go_wp2_with (refine X8 rfl _ rfl _ rfl ZA VS ?_)
 refine X7 X9.o WU.o λZV ZW=>?_
 clear ZA;go_wp2_with fail;refine X7 (JM (160) ZV (Xb.o ZV ZW.o).t) ZW.o λ_ UD=>?_
 go_wp2
 go_ret2
 exact⟨by rw[ZK.o.1,ZK.o.2] <;> rfl,UD.o⟩
theorem avX(A:Nat->Addr)(B:Nat)(v:Value)(k:C.Kt)(s:ByteArray)(w:World)(Z2:WZ w v k)(Z0:VT k)(ZY:s.size<=600)(hS:Sw A B w)(Z8:C.ad k=true):
  Calls prog 10 #[v,.string s] w λX1 w'=>X1=.returned (.tuple #[.string (bs (C.cv k s.data.toList)),Z9 (C.ar k s.data.toList [])])/\Z6 w w':=by
 obtain⟨R2,V,rfl,VS,ZN,ZR,ZF,Yx,Xb⟩:=PO Z2 hS;have WU:=bx ZR.o;have VJ:=bx (λ(Z8:C.ad k=true)(ZY:s.size<=600)=>Mj A B _ Z1 k s [] V (Yx.o V ZR.o) Z0 (Xb.o V ZR.o) Z8 (.inl ⟨rfl,rfl⟩) ZY (by simp) (λ_ hp=>by cases hp));have X9:=bx (VJ.o Z8 (by omega));have ZK:=bx (C.avR (s:=s.data.toList) Z8 (by rw[<-size_eq];omega));have UL:=bx (λW(h:Z6 w W)=>E7 A B s W (by omega) (hS.below h).e (hS.below h).le);clear VJ Z8 Z0 hS ZY Yx;have ZA:=ZF.o V YU
 go_in
 go_upto_region 1 with(fail)
 rw[<-ZN.o];go_wp2_with (refine X8 rfl _ rfl _ rfl ZA VS ?_)
 refine X9.o.mono ?_;rintro X1 ZV ⟨⟨g,rfl,Vk,-⟩,ZZ⟩;have ZW:=Zw WU ZZ;have RC:=bx Vk;clear ZZ Vk ZA;go_wp2_with fail;refine X7 (UL.o ZV ZW.o) ZW.o λ_ Zt=>?_
 go_wp2
 go_ret2
 exact⟨by rw[ZK.o.1,ZK.o.2] <;> rfl,Zt.o⟩
theorem av9(A:Nat->Addr)(B:Nat)(v:Value)(k:C.Kt)(s:ByteArray)(w:World)(Z2:WZ w v k)(Z0:VT k)(ZY:s.size<=600)(hS:Sw A B w):
  Calls prog 10 #[v,.string s] w λX1 w'=>X1=.returned (.tuple #[.string (bs (C.cv k s.data.toList)),Z9 (C.ar k s.data.toList [])])/\Z6 w w':=by
 cases Z8:C.ad k with
 |false=>exact ajG A B v k s w Z2 Z0 ZY hS Z8
 |true=>
  exact avX A B v k s w Z2 Z0 ZY hS Z8
end
namespace C
theorem ajx{l:List (List UInt8)}{sep:List UInt8}{i:Nat}{x:List UInt8}(Z4:l[i]?=some x):
  Lib.join ((l.map M.fix).take (i+1)) sep=if i=0 then M.fix x else Lib.join ((l.map M.fix).take i) sep++sep++M.fix x:=by
 cases l with
 |nil=>simp at Z4
 |cons y r=>
  rw[RG]
  cases i with
  |zero=>
   simp only[Ig,OS]at Z4;subst Z4;rw[Y0 rfl];exact Lib.join_one _ _
  |succ i=>
   rw[Y4 (by omega),Lu,Lu,Lib.join_cons,Lib.join_cons];have ZT:(r.map M.fix)[i]?=some (M.fix x):=by
    rw[List.getElem?_cons_succ]at Z4;rw[RX,Z4]
    rfl
   rw[Lib.joinTail_take_succ sep (r.map M.fix) i (M.fix x) ZT];simp only[M8]
end C
section
attribute[local go_sem] Oper.semAt_some
theorem aqv(v:Value)(k:C.Kt)(s:ByteArray)(w:World)(Z2:WZ w v k)(Z0:VT k)(ZY:s.size<=100000):
  Calls prog 11 #[v,.string s] w λX1 w'=>X1=.returned (.tuple #[.string (bs (C.cv k s.data.toList)),Z9 (C.ar k s.data.toList [])])/\Z6 w w':=by
 obtain⟨ca,XQ,XP,X5,XR,X2,Xr,wp,Xz,Ym,Xp,wf,ZD,bv,wd,lo,ti,c1,c2,g1,g2,rfl,Z3⟩:=Z2;have WL:=bx (λW(h:Z6 w W)=>Z3.below h);obtain⟨V,ZO⟩:∃V,V=w.alloc (.cells #[Z9 ca,XQ,XP,X5,XR,X2,Z9 Xr,wp,Xz,Ym,Xp,wf,ZD,bv,.bool wd,lo,ti,c1,c2,g1,g2] 38):=⟨_,rfl⟩
 have ZR:=bx (aB ZO);have Ze:=bx (aK ZO);have ZF:=bx (λW(h:Z6 V W)=>Ze.o.below h Ze.o.lt);have ZN:=bx ZO;clear Z3 ZO;have Yx:=bx (λW(h:Z6 w W)=>show WZ W (.agg #[Z9 ca,XQ,XP,X5,XR,X2,Z9 Xr,wp,Xz,Ym,Xp,wf,ZD,bv,.bool wd,lo,ti,c1,c2,g1,g2]) k from⟨_,_,_,_,_,_,_,_,_,_,_,_,_,_,_,_,_,_,_,_,_,rfl,WL.o W h⟩);have Wt:=bx (show Calls prog 39 #[.agg #[Z9 ca,XQ,XP,X5,XR,X2,Z9 Xr,wp,Xz,Ym,Xp,wf,ZD,bv,.bool wd,lo,ti,c1,c2,g1,g2],.string s,.string ⟨#[]⟩] V λX1 w'=>X1=.returned (Z9 (C.ar k s.data.toList []))/\Z6 V w' from Eh _ k s ⟨#[]⟩ V (Yx.o V ZR.o) Z0);have UL:=bx (λW=>show Calls prog 36 #[.string s] W λR8 w'=>R8=.returned (.string (bs (M.fix s.data.toList)))/\Z6 W w' from Ju s W ZY);have ZK:=bx (show C.cv k s.data.toList=if C.ar k s.data.toList []=0 then M.fix s.data.toList else[]from rfl);generalize C.cv k s.data.toList=N4 at ZK⊢;generalize C.ar k s.data.toList []=er at Wt ZK⊢;generalize M.fix s.data.toList=RW at ZK UL;clear Z0 ZY WL Yx
 by_cases ZI:er=0
 ·subst ZI;rw[Y0 rfl]at ZK;have ZA:=ZF.o V YU
  go_in
  go_upto_region 1 with(fail)
  rw[<-ZN.o];go_wp2_with (refine X8 rfl _ rfl _ rfl ZA rfl ?_)
  refine Y3 Wt.o λZV ZZ=>?_
  have ZW:=Zw ZR ZZ;have Xg:=bx ZZ;clear ZZ ZA;go_wp2_with fail;refine X7 (UL.o ZV) ZW.o λ_ Zt=>?_
  go_wp2
  go_ret2
  exact⟨by rw[ZK.o] <;> rfl,Zt.o⟩
 rw[Y4 ZI]at ZK;have d1:(er != 0)=true:=En.2 ZI;clear ZI;have ZA:=ZF.o V YU
 go_in
 go_upto_region 1 with(fail)
 rw[<-ZN.o];go_wp2_with (refine X8 rfl _ rfl _ rfl ZA rfl ?_)
 refine Y3 Wt.o λZV ZZ=>?_
 have ZW:=Zw ZR ZZ;have Xg:=bx ZZ;clear ZZ ZA
 go_wp2
 go_ret2
 exact⟨by rw[ZK.o] <;> rfl,ZW.o⟩
theorem asT(s:ByteArray)(w:World):
  Calls prog 29 #[.string s] w λe w'=>e=.returned (.bool (decide ((600:Int)<(s.size:Int))))/\Z6 w w':=by
 go_in
 go_wp2
 go_ret
 exact⟨rfl,Below.refl _ _⟩
theorem asN(v:Value)(ls:List (List UInt8))(w:World)(Z2:XC w v ls)(ZY:ls.length<=16777216):
  Calls prog 67 #[v,.func (.func 29) #[] #[]] w λe w'=>(∃i,e=.returned (Z9 i)/\decide (0<=i)=ls.any (λs=>decide (600<s.length)))/\Z6 w w':=by
 have ZN:=bx Z2;obtain⟨N,Zp⟩:∃N,ls.length=N:=⟨_,rfl⟩
 obtain⟨XH,ZU,rfl,-⟩:=Z2.slice;rw[Zp]at ZY ZN⊢;have ZE:=bx Zp;clear Z2 Zp
 go_in
 go_wp2_with fail
 go_loopw[8] (λi wr=>∃k:Nat,k<=N/\i=Z9 k/\Box ((ls.take k).any (λs=>decide (600<s.length))=false)/\Box (Z6 w wr)) (λi _=>N-(intOf i).toNat)
 ·exact⟨0,by omega,rfl,⟨rfl⟩,⟨Below.refl _ _⟩⟩
 obtain⟨k,Z3,rfl,YZ,Z8⟩:=hrel
 by_cases Zu:k<N
 ·obtain⟨x,Z4⟩:=Yg ls k (by rw[ZE.o];exact Zu);obtain⟨g,off,XV,Y5,XL,Yi,XB,YX⟩:=ZN.o.get (by rintro rfl;simp at Z4);rw[ZE.o]at Y5 XL;obtain⟨rfl,rfl⟩:=XN Y5;have Ua:=(Z8.o.cell (p:=⟨g,off+k,none⟩) XB).trans (YX k x Z4);have YD:=bx Z4;have W1:=Wu x;have LY:=bx (asT (bs x) wr);unfold maxLen at Yi;clear Z4 Y5 XB YX
  by_cases hlong:600<x.length
  ·have DY:=bx (show ls.any (λs=>decide (600<s.length))=true from NS.2 ⟨x,Xh YD.o,Yh hlong⟩);rw[Yh (show(600:Int)<((bs x).size:Int) by omega)]at LY;clear W1;go_wp2_with fail;refine X7 LY.o Z8.o λZV ZW=>?_
   clear Ua
   go_wp2
   go_ret
   exact⟨⟨_,rfl,by rw[DY.o];exact Yh (by omega)⟩,ZW.o⟩
  have DY:=bx (show(ls.take (k+1)).any (λs=>decide (600<s.length))=false by
   rw[Uo,YD.o,List.any_append,YZ.o];simp[hlong])
  rw[Yp (show¬(600:Int)<((bs x).size:Int) by omega)]at LY;clear W1;go_wp2_with fail;refine X7 LY.o Z8.o λZV ZW=>?_
  clear Ua
  go_wp2
  go_roundw
  ·exact⟨k+1,by omega,by go_num,DY,ZW⟩
  simp[intOf];omega
 have DY:=bx (show ls.any (λs=>decide (600<s.length))=false by have h:=YZ.o;rwa[SU (by rw[ZE.o];omega)]at h)
 go_wp2
 go_ret
 exact⟨⟨_,rfl,by rw[DY.o];rfl⟩,Z8.o⟩
theorem ar5(v:Value)(ls:List (List UInt8))(w:World)(Z2:XC w v ls)(ZY:ls.length<=16777216):
  Calls prog 32 #[v,.func (.func 29) #[] #[]] w λe w'=>e=.returned (.bool (ls.any (λs=>decide (600<s.length))))/\Z6 w w':=by
 have YE:=bx (asN v ls w Z2 ZY);generalize ls.any (λs=>decide (600<s.length))=an at YE⊢;clear Z2
 go_in
 go_wp2_with fail;refine YE.o.mono ?_;rintro e ZV ⟨⟨i,rfl,hi⟩,ZZ⟩;have ZW:=bx ZZ;have aiw:=bx hi;clear ZZ hi
 go_wp2
 go_ret
 exact⟨by rw[<-aiw.o];rfl,ZW.o⟩
namespace C
theorem adJ{k:Kt}{l:List (List UInt8)}{e:List UInt8}(h:ad k=false):cy k l e=[]/\bM k l e=160:=by
 have ZI:bM k l e=160:=by unfold bM;rw[Y0 h]
 exact⟨by unfold cy;rw[ZI];rfl,ZI⟩
theorem ats{k:Kt}{l:List (List UInt8)}{e:List UInt8}(h:ad k=true)(hl:100<l.length):cy k l e=[]/\bM k l e=24:=by
 have ZI:bM k l e=24:=by unfold bM;rw[Y4 (by rw[h];simp),Y0 hl]
 exact⟨by unfold cy;rw[ZI];rfl,ZI⟩
theorem amp{k:Kt}{l:List (List UInt8)}{e:List UInt8}(h:ad k=true)(hl:¬100<l.length)(Z5:60<e.length\/l.any (λs=>decide (600<s.length))=true):cy k l e=[]/\bM k l e=121:=by
 have ZI:bM k l e=121:=by unfold bM;rw[Y4 (by rw[h];simp),Y4 hl,Y0 Z5]
 exact⟨by unfold cy;rw[ZI];rfl,ZI⟩
theorem aex{k:Kt}{l:List (List UInt8)}{e:List UInt8}(h:ad k=true)(hl:¬100<l.length)(Z5:¬(60<e.length\/l.any (λs=>decide (600<s.length))=true)):cy k l e=Lib.join (l.map M.fix) (M.fix e)/\bM k l e=0:=by
 have ZI:bM k l e=0:=by unfold bM;rw[Y4 (by rw[h];simp),Y4 hl,Y4 Z5]
 exact⟨by unfold cy;rw[Y0 ZI],ZI⟩
theorem aeg(sep:List UInt8)(M:Nat)(Z0:sep.length<=M):∀l:List (List UInt8),(∀x∈l,x.length<=M)->(Lib.join l sep).length<=l.length*(M+M)
 |[],_=>by simp[Lib.join]
 |[x],h=>by
  have Z7:=h x (Pw ..);simp[Lib.join,List.intercalate];omega
 |x::y::t,h=>by
  have Z7:=h x (Pw ..);have Z5:=aeg sep M Z0 (y::t) (λz ZY=>h z (Oj _ ZY));rw[join_cons x (by simp) sep,WR,WR,U3,s7];omega
end C
theorem avk(A:Nat->Addr)(B:Nat)(v Zc:Value)(k:C.Kt)(l:List (List UInt8))(e:ByteArray)(w:World)(Z2:WZ w v k)(Z0:VT k)(hl:XC w Zc l)(_:l.length<=100000)(_:e.size<=60)(hS:Sw A B w):
  Calls prog 8 #[v,Zc,.string e] w λX1 w'=>X1=.returned (.tuple #[.string (bs (C.cy k l e.data.toList)),Z9 (C.bM k l e.data.toList)])/\Z6 w w':=by
 obtain⟨ca,XQ,XP,X5,XR,X2,Xr,wp,Xz,Ym,Xp,wf,ZD,bv,wd,lo,ti,c1,c2,g1,g2,rfl,Z3⟩:=Z2;have WL:=bx (λW(h:Z6 w W)=>Z3.below h);obtain⟨V,ZO⟩:∃V,V=w.alloc (.cells #[Z9 ca,XQ,XP,X5,XR,X2,Z9 Xr,wp,Xz,Ym,Xp,wf,ZD,bv,.bool wd,lo,ti,c1,c2,g1,g2] 38):=⟨_,rfl⟩
 have ZR:=bx (aB ZO);have Ze:=bx (aK ZO);have ZF:=bx (λW(h:Z6 V W)=>Ze.o.below h Ze.o.lt);have ZN:=bx ZO;clear Z3 ZO;have SF:=bx (ra A B _ k V (show WZ V (.agg #[Z9 ca,XQ,XP,X5,XR,X2,Z9 Xr,wp,Xz,Ym,Xp,wf,ZD,bv,.bool wd,lo,ti,c1,c2,g1,g2]) k from⟨_,_,_,_,_,_,_,_,_,_,_,_,_,_,_,_,_,_,_,_,_,rfl,WL.o V ZR.o⟩) Z0 (hS.below ZR.o));have O6:=bx (λW(h:Z6 w W)=>hl.below h);have vx:=bx (λW(h:Z6 w W)=>ar5 Zc l W (hl.below h) (by omega));have UL:=bx (λ(t:ByteArray)(ZM:t.size<=100000) W (h:Z6 w W)=>show Calls prog 33 #[.string t] W λR8 w'=>R8=.returned (.string (bs (M.fix t.data.toList)))/\Z6 W w' from E7 A B t W ZM (hS.below h).e (hS.below h).le);obtain⟨Yr,lc,rfl,-⟩:=hl.slice;obtain⟨N,Zp⟩:∃N,l.length=N:=⟨_,rfl⟩
 have ZE:=bx Zp;rw[Zp]at O6 vx⊢
 cases Z8:C.ad k with
 |false=>
  have ZK:=bx (C.adJ (l:=l) (e:=e.data.toList) Z8);rw[Z8]at SF;clear Z8 Z0 hS hl Zp;have ZA:=ZF.o V YU
  go_in
  go_upto_region 2 with(fail)
  rw[<-ZN.o];go_wp2_with (refine X8 rfl _ rfl _ rfl ZA rfl ?_)
  refine X7 SF.o ZR.o λZV ZW=>?_
  clear ZA
  go_wp2
  go_ret2
  exact⟨by rw[ZK.o.1,ZK.o.2] <;> rfl,ZW.o⟩
 |true=>
  rw[Z8]at SF
  by_cases hm:100<N
  ·have ZK:=bx (C.ats (l:=l) (e:=e.data.toList) Z8 (by rw[Zp];exact hm));have d1:decide ((100:Int)<(N:Int))=true:=Yh (by omega);clear Z8 Z0 hS hl Zp hm;have ZA:=ZF.o V YU
   go_in
   go_upto_region 2 with(fail)
   rw[<-ZN.o];go_wp2_with (refine X8 rfl _ rfl _ rfl ZA rfl ?_)
   refine X7 SF.o ZR.o λZV ZW=>?_
   clear ZA
   go_wp2
   go_ret2
   exact⟨by rw[ZK.o.1,ZK.o.2] <;> rfl,ZW.o⟩
  have d1:decide ((100:Int)<(N:Int))=false:=Yp (by omega);have d2:decide ((e.size:Int)<=60)=true:=Yh (by omega)
  cases YZ:l.any (λs=>decide (600<s.length))with
  |true=>
   have ZK:=bx (C.amp (l:=l) (e:=e.data.toList) Z8 (by omega) (.inr YZ));rw[YZ]at vx;clear Z8 Z0 hS hl Zp hm YZ;have ZA:=ZF.o V YU
   go_in
   go_upto_region 2 with(fail)
   rw[<-ZN.o];go_wp2_with (refine X8 rfl _ rfl _ rfl ZA rfl ?_)
   refine X7 SF.o ZR.o λZV ZW=>?_
   clear ZA;go_wp2_with fail;refine X7 (nh e ZV) ZW.o λZB Zt=>?_
   rw[d2];go_wp2_with fail;refine X7 (vx.o ZB Zt.o) Zt.o λZh YY=>?_
   go_wp2
   go_ret2
   exact⟨by rw[ZK.o.1,ZK.o.2] <;> rfl,YY.o⟩
  |false=>
   have ZK:=bx (C.aex (l:=l) (e:=e.data.toList) Z8 (by omega) (by rw[YZ,<-size_eq];simp;omega));have RE:=bx (show∀x∈l,x.length<=600 from λx Z4=>by
    have h:=List.any_eq_false.1 YZ x Z4
    simpa using h)
   rw[YZ]at vx;clear Z8 Z0 hS hl Zp YZ;have ZA:=ZF.o V YU
   go_in
   go_upto_region 2 with(fail)
   rw[<-ZN.o];go_wp2_with (refine X8 rfl _ rfl _ rfl ZA rfl ?_)
   refine X7 SF.o ZR.o λZV ZW=>?_
   clear ZA;go_wp2_with fail;refine X7 (nh e ZV) ZW.o λZB Zt=>?_
   rw[d2];go_wp2_with fail;refine X7 (vx.o ZB Zt.o) Zt.o λZh YY=>?_
   obtain⟨VF,Um,PH,Tg⟩:=AH (O6.o Zh YY.o) ZE.o;have RP:=bx PH;have M4:=bx Tg;have XI:=bx (vt Zh.heap.size Zh rfl);clear PH Tg;go_wp2_with fail
   go_loopw[9,31] (λYd ZD wr=>∃(j:Nat)(UC:Option Addr)(Wr:Nat),j<=N/\Yd=.slice UC j Wr/\ZD=Z9 j/\Box (Sep (Sd Zh.heap.size Zh (.slice UC j Wr) ((l.map M.fix).take j)) wr)) (λ_ ZD _=>N-(intOf ZD).toNat)
   ·exact⟨0,none,0,by omega,rfl,rfl,by rw[J3];exact XI⟩
   obtain⟨j,UC,Wr,YO,rfl,rfl,YC⟩:=hrel;have X3:=bx (YY.o.trans ((JB YC.o).mono YY.o.size))
   by_cases Zu:j<N
   ·obtain⟨x,Z4⟩:=Yg l j (by rw[ZE.o];exact Zu);have UT:=M4.o j x Z4;obtain⟨rfl,Sv,Ni⟩:=RP.o (by omega);have Ua:=((JB YC.o).cell (p:=⟨VF,Um+j,none⟩) UT.1).trans UT.2;have pP:=Vh UT.1 (JB YC.o).size;unfold maxLen at Ni;have U1:=bx (show(l.map M.fix).take (j+1)=(l.map M.fix).take j++[M.fix x] by rw[Uo,RX,Z4];rfl);have Yt:=bx (UL.o (bs x) (by rw[Wu];have:=RE.o x (Xh Z4);omega) wr X3.o);rw[Ky]at Yt;have O9:=bx (show((l.map M.fix).take j).length=j by rw[SW,X4,ZE.o];omega);clear Z4 UT;go_wp2_with fail;refine Y3 Yt.o λYL Yf=>?_
    have Wp:=bx (YC.o.below Yf);clear Yf Ua;have vM:=bx (show Sep [Pc.row Zh.heap.size 9 1 (.slice UC j Wr) j (((l.map M.fix).take j).map Vu),Pc.old Zh.heap.size Zh] YL by
     have h:=Wp.o;unfold Sd at h;rw[O9.o]at h;exact h)
    have u5:Zh.heap.size<=YL.heap.size:=(JB Wp.o).size;have zU:j<=1000000000:=by omega
    go_wp2_with (at_builtin;refine PC (u:=Vu (M.fix x)) rfl _ _ 39 rfl Iy vM.o 0 rfl rfl rfl rfl zU (by omega) u5 ?_;rintro v5 YK OX ⟨g5,Wv,rfl,-,-⟩;have XO:=bx (qq O9.o OX U1.o);clear OX)
    go_wp2
    go_roundw
    ·exact⟨j+1,_,_,by omega,rfl,by go_num,XO⟩
    simp[intOf];omega
   obtain rfl:N=j:=by omega
   have Yt:=bx (UL.o e (by omega));have NT:=bx (show(l.map M.fix).take N=l.map M.fix from SU (by rw[X4,ZE.o];exact Wq _));have Kd:=C.ba e.data.toList;rw[<-size_eq]at Kd;have Jc:=C.aeg (M.fix e.data.toList) 2000 (by omega) (l.map M.fix) (λx Z4=>by
    obtain⟨y,ZJ,rfl⟩:=SL.1 Z4;have Z7:=C.ba y;have Z5:=RE.o y ZJ;omega)
   rw[X4,ZE.o]at Jc;have wg:=bx (show(Lib.join (l.map M.fix) (M.fix e.data.toList)).length<=140737488355328 by omega);clear Kd Jc;go_wp2_with fail;refine Y3 (Yt.o wr X3.o) λYL Yf=>?_
   have Ye:=Zw X3 Yf;have P3:=Ay (YC.o.below Yf);rw[NT.o]at P3;have TE:=bx (abN _ (l.map M.fix) (M.fix e.data.toList) YL P3 wg.o (by rw[X4,ZE.o];omega));clear Yf P3;go_wp2_with fail;refine X7 TE.o Ye.o λYK X6=>?_
   go_wp2
   go_ret2
   exact⟨by rw[ZK.o.1,ZK.o.2] <;> rfl,X6.o⟩
theorem avK(v Zc:Value)(k:C.Kt)(l:List (List UInt8))(e:ByteArray)(w:World)(Z2:WZ w v k)(Z0:VT k)(hl:XC w Zc l)(ZY:l.length<=20)(Z4:∀x∈l,x.length<=40)(Xj:e.size<=60):
  Calls prog 9 #[v,Zc,.string e] w λX1 w'=>X1=.returned (.tuple #[.string (bs (C.cy k l e.data.toList)),Z9 (C.bM k l e.data.toList)])/\Z6 w w':=by
 obtain⟨ca,XQ,XP,X5,XR,X2,Xr,wp,Xz,Ym,Xp,wf,ZD,bv,wd,lo,ti,c1,c2,g1,g2,rfl,Z3⟩:=Z2;have WL:=bx (λW(h:Z6 w W)=>Z3.below h);obtain⟨V,ZO⟩:∃V,V=w.alloc (.cells #[Z9 ca,XQ,XP,X5,XR,X2,Z9 Xr,wp,Xz,Ym,Xp,wf,ZD,bv,.bool wd,lo,ti,c1,c2,g1,g2] 38):=⟨_,rfl⟩
 have ZR:=bx (aB ZO);have Ze:=bx (aK ZO);have ZF:=bx (λW(h:Z6 V W)=>Ze.o.below h Ze.o.lt);have ZN:=bx ZO;clear Z3 ZO;have Yx:=bx (λW(h:Z6 w W)=>show WZ W (.agg #[Z9 ca,XQ,XP,X5,XR,X2,Z9 Xr,wp,Xz,Ym,Xp,wf,ZD,bv,.bool wd,lo,ti,c1,c2,g1,g2]) k from⟨_,_,_,_,_,_,_,_,_,_,_,_,_,_,_,_,_,_,_,_,_,rfl,WL.o W h⟩);have Xx:=bx (oI _ k V (Yx.o V ZR.o) Z0);obtain⟨Yr,lc,rfl,-⟩:=hl.slice;have Vb:=bx (hl.below ZR.o);obtain⟨N,Zp⟩:∃N,l.length=N:=⟨_,rfl⟩
 have ZE:=bx Zp;rw[Zp]at Vb⊢
 cases Z8:C.ad k with
 |false=>
  have ZK:=bx (C.adJ (l:=l) (e:=e.data.toList) Z8);rw[ZK.o.1,ZK.o.2];rw[Z8]at Xx;clear Z8 Z0 ZY Xj WL Yx hl Z4 Zp;have ZA:=ZF.o V YU
  go_in
  go_upto_region 1 with(fail)
  rw[<-ZN.o];go_wp2_with (refine X8 rfl _ rfl _ rfl ZA rfl ?_)
  refine Y3 Xx.o λZV ZZ=>?_
  have ZW:=Zw ZR ZZ;have Xg:=bx ZZ;clear ZZ ZA
  go_wp2
  go_ret2
  exact⟨rfl,ZW.o⟩
 |true=>
  have ZK:=bx (C.aex (l:=l) (e:=e.data.toList) Z8 (by omega) (by
   rintro(h|h)
   ·rw[<-size_eq]at h;omega
   obtain⟨x,Z7,Z5⟩:=NS.1 h;have:=Z4 x Z7;have:=of_decide_eq_true Z5;omega))
  rw[ZK.o.1,ZK.o.2];rw[Z8]at Xx;have Lr:=bx Z4;have UL:=bx (λW=>show Calls prog 36 #[.string e] W λR8 w'=>R8=.returned (.string (bs (M.fix e.data.toList)))/\Z6 W w' from Ju e W (by omega));have HL:=bx (λ(x:List UInt8)(h:x.length<=40) W=>show Calls prog 36 #[.string (bs x)] W λR8 w'=>R8=.returned (.string (bs (M.fix x)))/\Z6 W w' from Ju (bs x) W (by rw[Wu];omega));have DT:=bx (show(M.fix e.data.toList).length<=180 by have:=C.ba e.data.toList;rw[<-size_eq]at this;omega);have Mi:=bx (λ(x:List UInt8)(h:x.length<=40)=>show(M.fix x).length<=120 by have:=C.ba x;omega);have o8:=bx (λ(i:Nat)(x:List UInt8)(h:l[i]?=some x)=>C.ajx (sep:=M.fix e.data.toList) h);have o9:=bx (show Lib.join ((l.map M.fix).take N) (M.fix e.data.toList)=Lib.join (l.map M.fix) (M.fix e.data.toList) by rw[SU (by rw[X4];omega)]);have Fv:=bx (show Lib.join ((l.map M.fix).take 0) (M.fix e.data.toList)=[]from rfl);generalize M.fix e.data.toList=TC at UL DT o8 o9 Fv⊢;generalize l.map M.fix=lm at o8 o9 Fv⊢;have d1:decide ((100:Int)<(N:Int))=false:=Yp (by omega);have d2:decide ((60:Int)<(e.size:Int))=false:=Yp (by omega);have aAA:N<=20:=by omega
  clear Z8 Z0 ZY Xj WL Yx hl Z4 Zp ZK;have ZA:=ZF.o V YU
  go_in
  go_upto_region 1 with(fail)
  rw[<-ZN.o];go_wp2_with (refine X8 rfl _ rfl _ rfl ZA rfl ?_)
  refine Y3 Xx.o λZV ZZ=>?_
  have ZW:=Zw ZR ZZ;have Xg:=bx ZZ;clear ZZ ZA;go_wp2_with fail
  go_loopw[8,9] (λYd ZD wr=>∃i:Nat,i<=N/\Yd=.string (bs (Lib.join (lm.take i) TC))/\ZD=Z9 i/\Box ((Lib.join (lm.take i) TC).length<=i*300)/\Box (Z6 ZV wr)) (λ_ ZD _=>N-(intOf ZD).toNat)
  ·exact⟨0,by omega,by rw[Fv.o];rfl,rfl,⟨by rw[Fv.o];simp⟩,⟨Below.refl _ _⟩⟩
  obtain⟨i,hi,rfl,rfl,Jc,Xk⟩:=hrel;have X3:=bx (bt ZW.o Xk.o)
  by_cases Zu:i<N
  ·obtain⟨x,Z4⟩:=Yg l i (by rw[ZE.o];exact Zu);have Ik:=Lr.o x (Xh Z4);have CG:=bx (o8.o i x Z4);obtain⟨b,off,cap',UV,N9,RK,R0,T3⟩:=Vb.o.get (by rintro rfl;simp at Z4);rw[ZE.o]at UV N9;obtain⟨rfl,rfl⟩:=XN UV;have BX:=bx (show Z6 V wr from bt Xg.o Xk.o);have Ua:=(BX.o.cell (p:=⟨b,off+i,none⟩) R0).trans (T3 i x Z4);have yV:=bx (λW(h:Z6 wr W)=>show ZQ W b (off+i)=some (.string (bs x))from(h.cell (p:=⟨b,off+i,none⟩) (Vh R0 BX.o.size)).trans Ua);have Ur:=Vh R0 BX.o.size;have XW:=bx Ur;unfold maxLen at RK;have Zq:=Wu x;have d5:decide ((600:Int)<(x.length:Int))=false:=Yp (by omega);have Se:=bx (Mi.o x Ik);have Jk:=bx (HL.o x Ik);generalize M.fix x=RW at CG Se Jk;clear Z4 UV T3 R0 Ik
   by_cases ZI:i=0
   ·subst ZI;rw[Y0 rfl]at CG;rw[Fv.o];rw[Nat.add_zero]at Ua;have Pi:=NY [] RW;rw[RQ]at Pi;have J7:(bs ([]:List UInt8)).size+(bs RW).size<=1000000:=by have:=Se.o;rw[Wu,Wu];simp;omega
    go_wp2_with fail;refine X7 (Jk.o wr) Xk.o λZh YY=>?_
    go_wp2
    go_roundw
    ·exact⟨1,by omega,by rw[CG.o],by go_num,⟨by rw[CG.o];have:=Se.o;omega⟩,YY⟩
    simp[intOf];omega
   rw[Y4 ZI]at CG;have xL:0<i:=by omega
   generalize Lib.join (lm.take i) TC=jo at CG Jc;have Pi:=NY jo TC;have aqW:=NY (jo++TC) RW;have J7:(bs jo).size+(bs TC).size<=1000000:=by have:=Jc.o;have:=DT.o;rw[Wu,Wu];omega
   have aqm:(bs (jo++TC)).size+(bs RW).size<=1000000:=by have:=Jc.o;have:=DT.o;have:=Se.o;rw[Wu,Wu,WR];omega
   have aiD:=bx (show(Lib.join (lm.take (i+1)) TC).length<=(i+1)*300 by rw[CG.o,WR,WR];have:=Jc.o;have:=DT.o;have:=Se.o;omega);clear ZI;go_wp2_with fail;refine Y3 (UL.o wr) λZh Zb=>?_
   have YY:=Zw Xk Zb;have Ua:=yV.o Zh Zb;have Ur:=Vh XW.o Zb.size;clear Zb;go_wp2_with fail;refine X7 (Jk.o Zh) YY.o λ_ Ye=>?_
   go_wp2
   go_roundw
   ·exact⟨i+1,by omega,by rw[CG.o,M8],by go_num,aiD,Ye⟩
   simp[intOf];omega
  obtain rfl:i=N:=by omega
  rw[o9.o]
  go_wp2
  go_ret2
  exact⟨rfl,X3.o⟩
theorem b6{g:C.Ga}{s:List UInt8}(h:C.aA g=false):C.aG g s=150:=by
 unfold C.aG;rw[Y0 h]
theorem ajr(v:Value)(k:C.Kt)(s:ByteArray)(w:World)(Z2:WZ w v k)(Z0:VT k)(ZY:s.size<=299):
  Calls prog 13 #[v,.string s] w λX1 w'=>X1=.returned (.tuple #[.string (bs (C.cR k s.data.toList)),Z9 (C.cN k s.data.toList)])/\Z6 w w':=by
 obtain⟨ca,XQ,XP,X5,XR,X2,Xr,wp,Xz,Ym,Xp,wf,ZD,bv,wd,lo,ti,c1,c2,g1,g2,rfl,Z3⟩:=Z2;have WL:=bx (λW(h:Z6 w W)=>Z3.below h);obtain⟨V,ZO⟩:∃V,V=w.alloc (.cells #[Z9 ca,XQ,XP,X5,XR,X2,Z9 Xr,wp,Xz,Ym,Xp,wf,ZD,bv,.bool wd,lo,ti,c1,c2,g1,g2] 38):=⟨_,rfl⟩
 have ZR:=bx (aB ZO);have Ze:=bx (aK ZO);have ZF:=bx (λW(h:Z6 V W)=>Ze.o.below h Ze.o.lt);have ZN:=bx ZO;clear Z3 ZO;have Yx:=bx (λW(h:Z6 w W)=>show WZ W (.agg #[Z9 ca,XQ,XP,X5,XR,X2,Z9 Xr,wp,Xz,Ym,Xp,wf,ZD,bv,.bool wd,lo,ti,c1,c2,g1,g2]) k from⟨_,_,_,_,_,_,_,_,_,_,_,_,_,_,_,_,_,_,_,_,_,rfl,WL.o W h⟩);have Wt:=bx (show Calls prog 39 #[.agg #[Z9 ca,XQ,XP,X5,XR,X2,Z9 Xr,wp,Xz,Ym,Xp,wf,ZD,bv,.bool wd,lo,ti,c1,c2,g1,g2],.string s,.string ⟨#[]⟩] V λX1 w'=>X1=.returned (Z9 (C.ar k s.data.toList []))/\Z6 V w' from Eh _ k s ⟨#[]⟩ V (Yx.o V ZR.o) Z0);have Pr:=bx (λW(h:Z6 w W)=>show Calls prog 41 #[.agg #[lo,ti,c1,c2,g1,g2],.agg #[Z9 Xr,wp,Xz,Ym,Xp,wf],.string s] W λe w'=>e=.returned (.tuple #[.string (bs (T.bD k.s k.w s.data.toList)),Z9 (T.bC k.s k.w s.data.toList)])/\Z6 W w' from akx _ _ k.s k.w s W (WL.o W h).s Z0.s (WL.o W h).w Z0.w ZY)
 cases Z8:C.ad k with
 |false=>
  have ZK:=bx (C.gm (s:=s.data.toList) Z8);rw[C.bO Z8]at Wt;rw[ZK.o.1,ZK.o.2];clear Z8 Z0 ZY WL Yx Pr;have ZA:=ZF.o V YU
  go_in
  go_upto_region 1 with(fail)
  rw[<-ZN.o];go_wp2_with (refine X8 rfl _ rfl _ rfl ZA rfl ?_)
  refine Y3 Wt.o λZV ZZ=>?_
  have ZW:=Zw ZR ZZ;have Xg:=bx ZZ;clear ZZ ZA
  go_wp2
  go_ret2
  exact⟨rfl,ZW.o⟩
 |true=>
  have ZK:=bx (C.ey (s:=s.data.toList) Z8 (by rw[<-size_eq];omega));rw[C.a6 (s:=s.data.toList) (e:=[]) Z8 (by rw[<-size_eq];omega) (by simp)]at Wt;rw[ZK.o.1,ZK.o.2];clear Z8 Z0 ZY WL Yx ZK;have ZA:=ZF.o V YU
  go_in
  go_upto_region 1 with(fail)
  rw[<-ZN.o];go_wp2_with (refine X8 rfl _ rfl _ rfl ZA rfl ?_)
  refine Y3 Wt.o λZV ZZ=>?_
  have ZW:=Zw ZR ZZ;have Xg:=bx ZZ;clear ZZ ZA;obtain⟨Zd,Zx,Zr,Zk,Zl,Zg,XK,W9,W8,W7,Rf,Re,Rc,Rb,Ra,QX,QW,QV,QU,QT,QS,YS⟩:=(ZF.o ZV Xg.o).c21 YU;clear Zd Zx Zr Zk Zl Zg Rc Rb Ra;go_wp2_with fail;refine X7 (Pr.o ZV ZW.o) ZW.o λ_ Zt=>?_
  go_wp2
  go_ret2
  exact⟨rfl,Zt.o⟩
theorem anN(v:Value)(k:C.Kt)(s:ByteArray)(w:World)(Z2:WZ w v k)(Z0:VT k)(ZY:s.size<=299):
  Calls prog 15 #[v,.string s] w λX1 w'=>X1=.returned (.tuple #[.string (bs (C.cU k s.data.toList)),Z9 (C.cP k s.data.toList)])/\Z6 w w':=by
 obtain⟨ca,XQ,XP,X5,XR,X2,Xr,wp,Xz,Ym,Xp,wf,ZD,bv,wd,lo,ti,c1,c2,g1,g2,rfl,Z3⟩:=Z2;have WL:=bx (λW(h:Z6 w W)=>Z3.below h);obtain⟨V,ZO⟩:∃V,V=w.alloc (.cells #[Z9 ca,XQ,XP,X5,XR,X2,Z9 Xr,wp,Xz,Ym,Xp,wf,ZD,bv,.bool wd,lo,ti,c1,c2,g1,g2] 38):=⟨_,rfl⟩
 have ZR:=bx (aB ZO);have Ze:=bx (aK ZO);have ZF:=bx (λW(h:Z6 V W)=>Ze.o.below h Ze.o.lt);have ZN:=bx ZO;clear Z3 ZO;have Yx:=bx (λW(h:Z6 w W)=>show WZ W (.agg #[Z9 ca,XQ,XP,X5,XR,X2,Z9 Xr,wp,Xz,Ym,Xp,wf,ZD,bv,.bool wd,lo,ti,c1,c2,g1,g2]) k from⟨_,_,_,_,_,_,_,_,_,_,_,_,_,_,_,_,_,_,_,_,_,rfl,WL.o W h⟩);have Wt:=bx (show Calls prog 39 #[.agg #[Z9 ca,XQ,XP,X5,XR,X2,Z9 Xr,wp,Xz,Ym,Xp,wf,ZD,bv,.bool wd,lo,ti,c1,c2,g1,g2],.string s,.string ⟨#[]⟩] V λX1 w'=>X1=.returned (Z9 (C.ar k s.data.toList []))/\Z6 V w' from Eh _ k s ⟨#[]⟩ V (Yx.o V ZR.o) Z0);have Pr:=bx (λW(h:Z6 w W)=>show Calls prog 43 #[.agg #[lo,ti,c1,c2,g1,g2],.string s] W λe w'=>e=.returned (.tuple #[.string (bs (T.b4 k.s s.data.toList)),Z9 (T.bR k.s s.data.toList)])/\Z6 W w' from ata _ k.s s W (WL.o W h).s Z0.s (by omega))
 cases Z8:C.ad k with
 |false=>
  have ZK:=bx (C.acu (s:=s.data.toList) Z8);rw[C.bO Z8]at Wt;rw[ZK.o.1,ZK.o.2];clear Z8 Z0 ZY WL Yx Pr;have ZA:=ZF.o V YU
  go_in
  go_upto_region 1 with(fail)
  rw[<-ZN.o];go_wp2_with (refine X8 rfl _ rfl _ rfl ZA rfl ?_)
  refine Y3 Wt.o λZV ZZ=>?_
  have ZW:=Zw ZR ZZ;have Xg:=bx ZZ;clear ZZ ZA
  go_wp2
  go_ret2
  exact⟨rfl,ZW.o⟩
 |true=>
  have ZK:=bx (C.abQ (s:=s.data.toList) Z8 (by rw[<-size_eq];omega));rw[C.a6 (s:=s.data.toList) (e:=[]) Z8 (by rw[<-size_eq];omega) (by simp)]at Wt;rw[ZK.o.1,ZK.o.2];clear Z8 Z0 ZY WL Yx ZK;have ZA:=ZF.o V YU
  go_in
  go_upto_region 1 with(fail)
  rw[<-ZN.o];go_wp2_with (refine X8 rfl _ rfl _ rfl ZA rfl ?_)
  refine Y3 Wt.o λZV ZZ=>?_
  have ZW:=Zw ZR ZZ;have Xg:=bx ZZ;clear ZZ ZA;obtain⟨Zd,Zx,Zr,Zk,Zl,Zg,XK,W9,W8,W7,Rf,Re,Rc,Rb,Ra,QX,QW,QV,QU,QT,QS,YS⟩:=(ZF.o ZV Xg.o).c21 YU;clear Zd Zx Zr Zk Zl Zg XK W9 W8 W7 Rf Re Rc Rb Ra;go_wp2_with fail;refine X7 (Pr.o ZV ZW.o) ZW.o λ_ Zt=>?_
  go_wp2
  go_ret2
  exact⟨rfl,Zt.o⟩
end
section
open Go.ChangeShapes Go.WideShapes Go.Deep
section
variable {H:Type} {enc:TypeId×Value->H} {W:World}
theorem apk{base:Nat}{v:Value}{d:DataW H}{p:List MemPlace}(Z2:Value.okWide prog W .any base 39 v)(h:DataW.Trod enc prog W 0 (λ_=>true) true 39 v d p):
  ∃l,XC W v l:=by
 obtain⟨a0,tx,azt,rfl⟩:=Go.WideShapes.okWide_slice underlying39 Z2;obtain⟨fuel,Yz⟩:=h
 rcases open_strs underlying39 underlying9 (by kernel_rfl) Yz with⟨Z7,_⟩|⟨a,len,ZU,m,im,Z7,_,Z5,ZS,ZG,_,Zi⟩
 ·simp[Value.cells]at Z7;obtain⟨rfl,rfl,rfl⟩:=Z7;exact⟨[],.inl ⟨rfl,rfl⟩⟩
 simp[Value.cells]at Z7;obtain⟨rfl,rfl,rfl⟩:=Z7;simp only[if_true]at ZG;subst ZG;obtain⟨b,off,sp⟩:=a;have Ty:((List.range tx).map λi=>(im i).data.toList).length=tx:=by simp
 refine⟨(List.range tx).map λi=>(im i).data.toList,.inr ⟨b,off,sp,m,by rw[X4,Ty],by rw[X4,Ty];exact Z5,ZS,λZP=>?_⟩⟩;have ZI:0<tx:=by
  rcases Bx tx with h|h
  ·subst h;exact absurd rfl ZP
  exact h
 have Vl:=(Zi 0 (by omega)).1;have WF:sp=none:=World.cell?_spot (a:=(⟨b,off,sp⟩:Addr).add 0) Vl;subst WF;refine⟨rfl,World.block_lt_of_cell? _ _ Vl,λi _ Z4=>?_⟩;rw[RX,RX]at Z4;obtain⟨y,ZJ,rfl⟩:=NU.1 Z4;obtain⟨j,YO,rfl⟩:=NU.1 ZJ;obtain⟨hi,rfl⟩:=R7 YO;simp only[Bz]at hi;simp only[List.getElem_range];have Zx:=(Zi i (by omega)).1
 (try unfold ZQ at *);rw[show(⟨b,off,none⟩:Addr).add i=⟨b,off+i,none⟩ by unfold Addr.add;by_cases ZI:i=0 <;> simp[ZI]]at Zx
 rw[Zx];unfold Vu;rw[<-sU]
