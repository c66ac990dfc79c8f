/- Texts of this claim. -/
import Derived.Test.YtdponihkpomheaaGreatDoorK25

set_option maxRecDepth 100000
set_option maxHeartbeats 16000000
namespace Go.Proofs.YtdponihkpomheaaGreatDoor
open Go.RowKit
attribute[local go_sem] Oper.semAt_some
open Go.Proofs.Tryz
def wG(v:Value)(xs:List Int)(k:Nat):Prop:=xs≠[]/\∃off sp n c,v=.slice (some ⟨k,off,sp⟩) n c
theorem h1{own:Nat->Prop}{W W':World}{v:Value}{xs:List Int}(h:Y6 W v xs)(ZM:Turns own W W')(YT:∀k,wG v xs k->¬own k):Y6 W' v xs:=by
 rcases h with h|⟨b,off,sp,ZU,Z7,Z5,ZS,ZG⟩
 ·exact .inl h
 refine .inr ⟨b,off,sp,ZU,Z7,Z5,ZS,λZP=>?_⟩;obtain⟨Zi,Yu,VV⟩:=ZG ZP;have Z8:=YT b ⟨ZP,off,sp,_,_,Z7⟩;exact⟨Zi,Vh Yu ZM.size,λi x Z4=>ZM.cell (p:=⟨b,off+i,none⟩) (VV i x Z4) Z8⟩
theorem ints_at{W:World}{v:Value}{xs:List Int}(h:Y6 W v xs){k:Nat}(Z3:wG v xs k):k<W.heap.size/\∃o x,ZQ W k o=some (Z9 x):=by
 obtain⟨ZP,off,sp,n,c,rfl⟩:=Z3;obtain⟨b,xu,ZU,Z7,Z5,ZS,ZG,Zi⟩:=h.get ZP;injection Z7 with Z7;injection Z7 with Z7;injection Z7 with Z7;subst Z7
 cases xs with
 |nil=>grind
 |cons x t=>exact⟨ZG,_,_,Zi 0 x rfl⟩
def Pc.read(n:Nat)(W0:World)(v1:Value)(Om:List Int)(v2:Value)(CT:List Int):Pc where
 fp k:=k<n\/wG v1 Om k\/wG v2 CT k
 ok W:=(n<=W.heap.size/\Below n W0 W)/\Y6 W v1 Om/\Y6 W v2 CT
 keep:=λ{_ _ _} h ZM YT=>⟨(Pc.old n W0).keep h.1 ZM (λk Z3=>YT k (.inl Z3)),h1 h.2.1 ZM (λk Z3=>YT k (.inr (.inl Z3))),h1 h.2.2 ZM (λk Z3=>YT k (.inr (.inr Z3)))⟩
 lt:=λ{_ _} h Z3=>by
  rcases Z3 with Z3|Z3|Z3
  ·omega
  ·exact(ints_at h.2.1 Z3).1
  exact(ints_at h.2.2 Z3).1
theorem apn{n g Zf:Nat}{Zc YI ci YQ Yw Yy aht Vj Er:Value}{c:T.Cs}{W0 W:World}{xs cs:List Int}(h:Sep (Sp n g Zf Zc YI ci YQ Yw Yy aht Z1 [] c [Pc.old n W0]) W)(hl:Y6 W Vj xs)(ZL:Y6 W Er cs)(_:∀(i:Nat)(x:Int),(#[Zc,YI,ci,YQ,Yw,Yy,.map (some Zf),aht,Z1]:Array Value)[i]?≠some (Z9 x)):Sep (Sp n g Zf Zc YI ci YQ Yw Yy Vj Z1 [] c [Pc.read n W0 Vj xs Er cs]) (W.setCell ⟨g,7,none⟩ Vj):=by
 have Z8:=h.blk 1 rfl;have Z3:O4 W Zf c:=h.at' 2 (p:=Pc.known Zf c) rfl;have YT:n<=W.heap.size/\Below n W0 W:=h.at' 3 (p:=Pc.old n W0) rfl;have V8:g≠Zf:=λe=>h.2.2.2.1 (Pc.known Zf c) (Pw ..) g rfl e
 have aAb:¬g<n:=λe=>h.2.2.2.1 (Pc.old n W0) (Oj _ (Pw ..)) g rfl e
 have BL:¬Zf<n:=λe=>h.2.2.2.2.2.1 (Pc.old n W0) (Pw ..) Zf rfl e
 have key:∀{v:Value}{l:List Int}(UW:Y6 W v l)(k:Nat),wG v l k->k≠g/\k≠Zf:=λUW k LI=>by
  obtain⟨-,o,x,Z4⟩:=ints_at UW LI
  constructor
  ·rintro rfl
   (try unfold ZQ at Z4);rw[Z8.cell o]at Z4
   grind
  rintro rfl;obtain⟨es,Vd,hm,-⟩:=Z3;grind[World.cell?]
 have Yo:=Turns.setCell (own:=λk=>k=g) W (p:=⟨g,7,none⟩) rfl Vj;have kr:∀k,(Pc.read n W0 Vj xs Er cs).fp k->k≠g/\k≠Zf:=λk zt=>by
  rcases zt with zt|zt|zt
  ·omega
  ·grind
  grind
 refine⟨World.ownsRow_nil _ _ _ _,λq _ k Z3=>by grind[Pc.row,Value.ownBlock],Z8.ai 7 Vj,λq Zs k xK FV=>?_,Z3.turns Yo (λe=>V8 e.symm),λq Zs k xK FV=>?_,?_,λq Zs=>absurd Zs RH,trivial⟩
 ·obtain rfl:k=g:=xK
  rcases T7.1 Zs with rfl|Zs
  ·exact V8 FV
  grind
 ·obtain rfl:k=Zf:=xK;grind
 exact(Pc.read n W0 Vj xs Er cs).keep ⟨YT,hl,ZL⟩ Yo (λk zt e=>(kr k zt).1 e)
theorem aos(a:Option Addr)(N ZU:Nat)(xs:List Int)(YO:1<=N)(Zp:xs.length=N)(_:N<=100000){YR:World}(ZI:Y6 YR (.slice a N ZU) xs):
  ∃Y,(∀W,(Instr.slice 22 (.slice a N ZU) (some (Z9 1)) none none).run prog W=.ok Y W)/\∀W,Y6 W (.slice a N ZU) xs->Y6 W Y (xs.drop 1):=by
 subst Zp;obtain⟨b,off,XV,Z7,Z5,ZS,ZG,Zi⟩:=ZI.get (by grind);injection Z7 with Zq YP Yb;subst Zq Yb;have Zm:((xs.take xs.length).drop 1)=xs.drop 1:=by rw[OR]
 by_cases ZL:ZU=1
 ·have hl:xs.length=1:=by omega
  refine⟨.slice (some ⟨b,off,none⟩) (xs.length-1) (ZU-1),λW=>?_,λW Yj=>?_⟩
  ·unfold maxLen at ZS;rw[hl,ZL];go_simp
  have:=Yj.part 1 xs.length (ZU-1) YO Ys (by omega) (by omega) (⟨b,off,none⟩) (λ_=>by omega)
  grind
 have tS:¬(xs.length:Int)<1:=by omega
 refine⟨.slice (some ((⟨b,off,none⟩:Addr).add 1)) (xs.length-1) (ZU-1),λW=>?_,λW Yj=>?_⟩
 ·unfold maxLen at ZS;go_simp
 have:=Yj.part 1 xs.length (ZU-1) YO Ys (by omega) (by omega) ((⟨b,off,none⟩:Addr).add 1) (λ_=>rfl)
 grind
theorem asg(A:Nat->Addr)(B:Nat)(v tr:Value)(c:T.Cs)(t:Tab)(s:ByteArray)(w:World)(Z2:Sq w v c)(Z0:T.Small c)(tD:TabAt w tr t)(FS:Sr t)(_:s.size<=299)(YN:E A B w)(XU:Ed A B w)(Vg:Eg A B w)(Yo:H5 w)(hB:B<=w.heap.size)(Vo:T.az 600 c=true)(he:Vn t s.data.toList=0):
  Calls prog 98 #[v,tr,.string s] w λe w'=>e=.returned (.tuple #[.string ⟨(T.bD c t s.data.toList).toArray⟩,Z9 (T.bC c t s.data.toList)])/\Z6 w w':=by
 have VO:=bx (λW(h:Z6 w W)=>Z2.below h);obtain⟨Zc,YI,ci,YQ,Yw,Yy,rfl,Z7,Z5,ZS,ZG,Zi,Yu⟩:=Z2;obtain⟨V,ZO⟩:∃V,V=w.alloc (.cells #[Zc,YI,ci,YQ,Yw,Yy] 36):=⟨_,rfl⟩
 have ZR:=bx (aB ZO);have Ze:=bx (aK ZO);have ZF:=bx (λW(h:Z6 V W)=>Ze.o.d6 h);have ZN:=bx ZO;have VE:=bx (λW(h:Z6 w W)=>tD.below h);obtain⟨pi,YM,Y2,Zo,Za,rfl,t1,t2,t3,t4,t5⟩:=tD;obtain⟨We,TA⟩:∃We,We=V.alloc (.cells #[Z9 t.n,pi,YM,Y2,Zo,Za] 31):=⟨_,rfl⟩
 have Wj:=bx (aB TA);have wj:=bx (aK TA);have Uv:=bx TA;have Zt:=bx (bt ZR.o Wj.o);have Gx:=bx (λW(h:Z6 We W)=>wj.o.d6 h);have FQ:V.heap.size=w.heap.size+1:=by rw[ZO];simp
 rw[FQ]at Gx;clear FQ;have Qu:=bx (λW(h:Z6 w W)=>show E A B W/\Ed A B W/\Eg A B W/\H5 W/\B<=W.heap.size from⟨YN.below (h.mono hB),XU.below (h.mono hB),Vg.below (h.mono hB),(h.cell (p:=⟨6,0,none⟩) (World.block_lt_of_cell? w _ Yo)).trans Yo,XJ hB h.size⟩);have Q6:=bx (λW(h:Z6 w W)=>au2 A B _ t s W (VE.o W h) FS (by omega) (Qu.o W h).1 (Qu.o W h).2.1 (Qu.o W h).2.2.1 (Qu.o W h).2.2.2.1 (Qu.o W h).2.2.2.2);have NN:=bx (λW(h:Z6 w W)=>aeQ A B s W (by omega) (Qu.o W h).1 (Qu.o W h).2.2.2.2);have UA:=bx (VO.o We Zt.o);have Xa:=OO s.data.toList;rw[<-size_eq]at Xa;have j6:∀(Zf:Nat)(i:Nat)(x:Int),(#[Zc,YI,ci,YQ,Yw,Yy,.map (some Zf),Z1,Z1]:Array Value)[i]?≠some (Z9 x):=by
  obtain⟨a1,c1,rfl,-⟩:=Z7.slice;obtain⟨a2,c2,rfl,-⟩:=Z5.slice;obtain⟨a3,c3,rfl⟩:=ZS.slice;obtain⟨a4,VG,rfl⟩:=ZG.slice;obtain⟨a5,Wv,rfl⟩:=Zi.slice;obtain⟨P8,Ov,rfl⟩:=Yu.slice;intro Zf i x
  match i with
  |0|1|2|3|4|5|6|7|8=>simp
  |n+9=>simp
 have aiK:=bx j6;obtain⟨Yk,ZP⟩:∃n,n=t.n:=⟨_,rfl⟩
 rw[<-ZP]at wj VE Gx Uv Q6⊢;obtain⟨Zd,Zx,Zr,Zk,Zl,Zg,YS⟩:=ZF.o We Wj.o;have agH:T.aN c [] []=0:=by unfold T.aN T.wrong;rw[Vo];rfl
 have VJ:=bx (afa A B _ Z1 (Z1) c [] [] We UA.o Z0 .nil (by simp) .nil (by simp) (Qu.o We Zt.o).1 (Qu.o We Zt.o).2.2.2.2 agH);have US:=bx (show T.bC c t s.data.toList=Vn t s.data.toList by grind[T.bC]);have Xn:=bx (US.o.trans he);have WO:=bx (show T.bD c t s.data.toList=U.textOf (T.cS c t s.data.toList) by unfold T.bD;rw[Xn.o,Y0 rfl]);obtain⟨P5,Pt⟩:=QR t s.data.toList;have Ll:=bx (show Kx t s.data.toList=(Wc t s.data.toList).map (λn:Nat=>(n:Int)) by grind[Kx]);rw[he,Ll.o]at Q6;have QQ:=bx (show T.cS c t s.data.toList=T.bu c (Xw s.data.toList) (Wc t s.data.toList) ((Wc t s.data.toList).length-1)from rfl);have Hq:=IC s.data.toList;generalize Wc t s.data.toList=ns at Q6 QQ Pt;generalize T.cS c t s.data.toList=Es at WO QQ;generalize Xw s.data.toList=xs at NN QQ Pt Xa Hq;have A4:=bx Pt;have yB:=bx (λk Z3=>T.fa Vo Hq Pt k Z3);have G3:=bx (λ(h:T.Fine xs.length Es)=>rm h);have St:=bx (λg Zf Vj Yd Yc Er cs(Z7:Yc.length<=800000000)(W:World)(a b:Nat)(QK:a<=b)(Z8:b<=xs.length)(Z5:Sep (Sp We.heap.size g Zf Zc YI ci YQ Yw Yy Vj Yd Yc c [Pc.read We.heap.size We Vj xs Er cs]) W)=>
  ave We.heap.size g Zf a b Zc YI ci YQ Yw Yy Vj Yd Yc c Z0 Vo [Pc.read We.heap.size We Vj xs Er cs] xs Hq (by omega) QK Z8 Z7 (λW' TB=>⟨UA.o.below TB.1.1.2,TB.1.2.1⟩) (λW' TB=>TB.1.1.1) W Z5)
 obtain⟨N,Zp⟩:∃N,xs.length=N:=⟨_,rfl⟩
 have ZE:=bx Zp;have kI:N<=299:=by omega
 obtain⟨Q,VI⟩:∃Q,ns.length=Q:=⟨_,rfl⟩
 have Xy:=bx VI;have vJ:0<Q:=by rw[<-VI];exact Pt.ne
 have Cx:Q<=300:=by have:=Pt.len;omega
 clear Z7 Z5 ZS ZG Zi Yu t1 t2 t3 t4 t5 Z0 FS ZO TA Vo Xa ZP he P5 Pt Hq Zp VI j6 YN XU Vg Yo hB agH
 go_in
 go_upto_region 1 with(fail)
 rw[<-ZN.o,<-Uv.o];go_wp2_with fail;refine VJ.o.mono ?_;rintro e ZV ⟨Ul,jz,lj,Dn,k6,k7,g,Zf,FA,rfl,V6⟩;obtain⟨rfl,rfl,rfl,rfl,rfl,rfl⟩:Zc=Ul/\YI=jz/\ci=lj/\YQ=Dn/\Yw=k6/\Yy=k7:=by grind
 have V0:=bx V6;have VD:=bx (V6.bel (n:=We.heap.size) (W0:=We) (by simp[Sp,Dy]));have ZW:=bx (bt Zt.o VD.o);clear V6 FA Zd Zx Zr Zk Zl Zg YS;obtain⟨Zd,Zx,Zr,Zk,Zl,Zg,YS⟩:=Gx.o ZV VD.o;go_wp2_with fail;refine(Q6.o ZV ZW.o).mono ?_;rintro e ZB ⟨⟨v2,rfl,SN⟩,Zz⟩;have Oy:=bx SN;obtain⟨ca,Rm,rfl⟩:=SN.slice;rw[X4,Xy.o]at Oy⊢;have V1:=bx (V0.o.below Zz);have UD:=Zw ZW Zz;clear Zz SN Zd Zx Zr Zk Zl Zg YS;go_wp2_with fail;refine(NN.o ZB UD.o).mono ?_;rintro e Zh ⟨⟨Vj,rfl,I7⟩,Zb⟩;have WT:=bx (V1.o.below Zb);have Ef:=bx (Oy.o.below Zb);obtain⟨Yr,lc,rfl⟩:=I7.slice;have Wp:=bx (apn WT.o I7 Ef.o (aiK.o Zf));have Uc:=(WT.o.blk 1 rfl).q7;have f7:=(WT.o.blk 1 rfl).frozen 7;have tz:=(WT.o.blk 1 rfl).lt;obtain⟨Y,abA,VX⟩:=aos ca Q Rm (ns.map (λn:Nat=>(n:Int))) vJ (by rw[X4,Xy.o]) (by omega) Ef.o;have Wn:=bx VX;obtain⟨LR,NJ,ahf⟩:=(VX Zh Ef.o).slice;rw[Px,X4,Xy.o]at ahf;subst ahf;clear Zb I7 VX;rw[ZE.o]at Wp⊢
 go_upto_region 8 with(fail)
 have XO:=bx (show Sep (Sp We.heap.size g Zf Zc YI ci YQ Yw Yy (.slice Yr N lc) (Z1) (T.bu c xs ns 0) c [Pc.read We.heap.size We (.slice Yr N lc) xs (.slice ca Q Rm) (ns.map (λn:Nat=>(n:Int)))]) (Zh.setCell ⟨g,7,none⟩ (.slice Yr N lc))from Wp.o);generalize Zh.setCell ⟨g,7,none⟩ (.slice Yr N lc)=YL at XO⊢;clear Uc f7 tz;have axf:((Q-1:Nat):Int)=(Q:Int)-1:=by omega
 obtain⟨BW,afX⟩:∃BW,BW=Q-1:=⟨_,rfl⟩
 rw[<-afX]at abA Wn;have afY:Q=BW+1:=by omega
 clear axf afX;have CL:=bx afY;clear afY;go_wp2_with fail;clear abA
 go_loopw[12,13,42] (λ_ _ i wr=>∃k:Nat,k<=BW/\i=Z9 k/\∃Yd,Box (Sep (Sp We.heap.size g Zf Zc YI ci YQ Yw Yy (.slice Yr N lc) Yd (T.bu c xs ns k) c [Pc.read We.heap.size We (.slice Yr N lc) xs (.slice ca Q Rm) (ns.map (λn:Nat=>(n:Int)))]) wr)) (λ_ _ i _=>BW-(intOf i).toNat)
 ·grind
 obtain⟨k,Z3,rfl,Yd,YC⟩:=hrel;obtain⟨⟨LD,Jh⟩,PJ,pN⟩:(We.heap.size<=wr.heap.size/\Z6 We wr)/\Y6 wr (.slice Yr N lc) xs/\Y6 wr (.slice ca Q Rm) (ns.map (λn:Nat=>(n:Int))):=YC.o.at' 3 rfl;have TZ:=Zw Zt Jh;have zp:=bx (yB.o k (by have:=CL.o;rw[Xy.o];omega))
 by_cases Zu:k<BW
 ·obtain⟨a,YZ⟩:=Yg ns k (by have:=CL.o;rw[Xy.o];omega);obtain⟨b,Z8⟩:=Yg ns (k+1) (by have:=CL.o;rw[Xy.o];omega);have EH:ns.getD k 0=a:=by grind
  have WG:ns.getD (k+1) 0=b:=by grind
  have QK:a<=b:=by have:=A4.o.up k (by grind);omega
  have z6:b<=xs.length:=by have:=A4.o.le (k+1) (by grind);omega
  obtain⟨VF,Um,AC,Zq,YP,Yb,WW,VK⟩:=pN.get (by intro h;simp_all);rw[X4,Xy.o]at Zq YP;obtain⟨rfl,rfl⟩:=XN Zq;have Do:=VK k (a:Int) (by grind);have uc:((ns.map (λn:Nat=>(n:Int))).drop 1)[k]?=some (b:Int):=by grind
  have xO:((ns.map (λn:Nat=>(n:Int))).drop 1).length=BW:=by have:=CL.o;rw[Px,X4,Xy.o];omega
  obtain⟨aA3,ay1,ay5,Vy,TX,Qa,Lh,KM⟩:=(Wn.o wr pN).get (by grind);rw[xO]at Vy TX;obtain⟨rfl,rfl⟩:=XN Vy;have Dm:=KM k (b:Int) uc;have Nu:=bx (show T.bu c xs ns (k+1)=T.bu c xs ns k++T.word c xs a b by grind[T.e3]);have UU:=zp.o.1;rw[EH]at UU;have Q9:=bx (St.o g Zf (.slice Yr N lc) Yd (T.bu c xs ns k) _ _ (by rw[ZE.o]at z6;omega) wr a b QK z6 YC.o);have ags:k<Q:=by have:=CL.o;omega
  have wQ:(k:Int)<(Q:Int):=by omega
  unfold maxLen at Yb Qa;clear YZ Z8 EH WG Zq WW VK Vy Lh KM UU uc xO Jh PJ pN LD;go_wp2_with fail;refine Q9.o.mono ?_;rintro e YK ⟨⟨v5,rfl⟩,axV,jU⟩;rw[<-Nu.o]at jU;have WQ:=bx jU;clear jU
  go_wp2
  go_roundw
  ·exact⟨k+1,by omega,by go_num,axV,WQ⟩
  grind[intOf]
 obtain rfl:k=BW:=by omega
 have SP:k=ns.length-1:=by have:=CL.o;rw[Xy.o];omega
 have WF:=YC.o;rw[SP,<-QQ.o]at WF;have YE:=bx (Y6.au (WF.row 0 rfl) rfl);have Tn:=bx (show T.Fine xs.length Es by
  have WK:=zp.o;rw[SP,<-QQ.o,A4.o.last]at WK;exact WK)
 have PV:=bx (adW A B Yd Es wr YE.o (by have:=Tn.o.1;have:=ZE.o;omega) (Qu.o wr TZ.o).1 (Qu.o wr TZ.o).2.2.2.2);rw[G3.o Tn.o]at PV;have Tm:=(WF.blk 1 rfl).q8;have L6:=(WF.blk 1 rfl).lt;clear WF SP Jh PJ pN LD;go_wp2_with fail;refine X7 PV.o TZ.o λYK X6=>?_
 go_wp2
 go_ret2
 exact⟨OB (by rw[WO.o];rfl) (PZ Xn.o.symm),X6.o⟩
namespace C
def cR(k:Kt)(s:List UInt8):List UInt8:=if ar k s []=0 then T.bD k.s k.w s else[]
def cN(k:Kt)(s:List UInt8):Int:=if ar k s []=0 then T.bC k.s k.w s else ar k s []
theorem ey{k:Kt}{s:List UInt8}(h:ad k=true)(ZY:s.length<=600):cR k s=T.bD k.s k.w s/\cN k s=T.bC k.s k.w s:=by
 have ZI:=a6 (s:=s) (e:=[]) h ZY (by simp);grind[cR,cN]
end C
theorem hR(A:Nat->Addr)(B:Nat)(v:Value)(k:C.Kt)(s:ByteArray)(w:World)(Z2:WZ w v k)(Z0:VT k)(ZY:s.size<=299)(hS:Sw A B w)(Z8:C.ad k=true):
  Calls prog 43 #[v,.string s] w λX1 w'=>X1=.returned (.tuple #[.string (bs (C.cR k s.data.toList)),Z9 (C.cN k s.data.toList)])/\Z6 w w':=by
 obtain⟨R2,V,rfl,VS,ZN,ZR,ZF,Yx,Xb⟩:=PO Z2 hS;have WU:=bx ZR.o;have VJ:=bx (λ(Z8:C.ad k=true)(ZY:s.size<=600)=>Mj A B _ Z1 k s [] V (Yx.o V ZR.o) Z0 (Xb.o V ZR.o) Z8 (.inl ⟨rfl,rfl⟩) ZY (by simp) (λ_ hp=>by cases hp));have X9:=bx (VJ.o Z8 (by omega));have ZK:=bx (C.ey (s:=s.data.toList) Z8 (by grind[size_eq]));have Vo:T.az 600 k.s=true:=by grind[C.ad]
 have axs:Td k.w=true:=by grind[C.ad]
 have R4:Vn k.w s.data.toList=0:=by unfold Vn;rw[Y4 (by grind),Y4 (by grind[size_eq])]
 have Pr:=bx (λv1 v2 W(h:Z6 w W)(Z7:Sq W v1 k.s)(Z5:TabAt W v2 k.w)=>asg A B v1 v2 k.s k.w s W Z7 Z0.s Z5 Z0.w ZY (hS.below h).e (hS.below h).d (hS.below h).g (hS.below h).t (hS.below h).le Vo R4);generalize T.bD k.s k.w s.data.toList=VR at Pr ZK;generalize T.bC k.s k.w s.data.toList=te at Pr ZK;clear VJ Z8 Z0 hS ZY Yx Vo axs R4;have ZA:=ZF.o V YU
 go_in
 go_upto_region 1 with(fail)
 rw[<-ZN.o];go_wp2_with (refine X8 rfl _ rfl _ rfl ZA VS ?_)
 refine X9.o.mono ?_;rintro X1 ZV ⟨⟨g,rfl,Vk,-⟩,ZZ⟩;have ZW:=Zw WU ZZ;have RC:=bx Vk;clear ZZ Vk ZA;go_wp2_with fail;obtain⟨py,Ii,CR,FL,Ey,ahA,Hl,ahB,xw,ahC,ahv,ahw,ahx,ahy,ahz,n15,n16,n17,n18,n19,n20,SP,BG⟩:=RC.o;have i7:=bx SP;have GG:=bx BG;have JL:=bx (λW(h:Z6 ZV W)=>SP.c21 h);have YA:=bx (λW(h:Z6 ZV W)=>bt ZW.o h);clear SP BG;go_wp2_with fail;refine Vv 11 (λW'=>ZQ W' g 0=some (Z9 py)/\ZQ W' g 1=some (Ii)/\ZQ W' g 2=some (CR)/\ZQ W' g 3=some (FL)/\ZQ W' g 4=some (Ey)/\ZQ W' g 5=some (ahA)/\ZQ W' g 6=some (Z9 Hl)/\ZQ W' g 7=some (ahB)/\ZQ W' g 8=some (xw)/\ZQ W' g 9=some (ahC)/\ZQ W' g 10=some (ahv)/\ZQ W' g 11=some (ahw)/\ZQ W' g 12=some (ahx)/\ZQ W' g 13=some (ahy)/\ZQ W' g 14=some (.bool ahz)/\ZQ W' g 15=some (n15)/\ZQ W' g 16=some (n16)/\ZQ W' g 17=some (n17)/\ZQ W' g 18=some (n18)/\ZQ W' g 19=some (n19)/\ZQ W' g 20=some (n20)/\g<W'.heap.size) (by rfl) ?_;have YF:=bx (JL.o ZV.drew (VQ ZV 1));have Y9:=bx (show Z6 ZV ZV.drew from VQ ZV 1);generalize ZV.drew=Yl at YF Y9⊢;refine Vp [0,1,2,3,4,5,6,7,8,9,10] ?_
 iterate 11 (refine Vq ?_ rfl YF.o ?_ ?_;rotate_left;·rintro w ⟨q1,q2,q3,q4,q5,q6,q7,q8,q9,q10,So,Sn,Sb,Rv,Ru,Rn,Rt,Rr,ic,ahK,ahL,ahM⟩;go_simp;try with_reducible rfl)
 refine Vr ?_;refine Y1 11 rfl λY7 ZX=>?_
 go_simp;refine Y3 (Pr.o _ _ Yl (YA.o Yl Y9.o) ((GG.o.below Y9.o).s) ((GG.o.below Y9.o).w)) λ_ Zz=>?_
 have Zt:=bx ((YA.o Yl Y9.o).trans (Zz.mono (YA.o Yl Y9.o).size));clear Zz;refine ZX.out _ _ (λh=>by cases h) ?_;clear ZX Y7;refine EA ?_;refine kU 12 ?_ rfl ?_ ?_;rotate_left
 ·(intro w;go_simp;first|done|with_reducible rfl)
 refine kU 13 ?_ rfl ?_ ?_;rotate_left
 ·(intro w;go_simp;first|done|with_reducible rfl)
 refine Y1 14 rfl λY7 ZX=>?_
 go_simp;refine ZX.out _ _ (λ_=>trivial) ?_;clear ZX Y7;refine Y1 15 rfl λY7 ZX=>?_
 go_simp;refine ZX.out _ _ (λ_=>trivial) ?_;clear ZX Y7;refine kD ?_ _
 go_wp2
 go_ret2
 exact⟨by rw[ZK.o.1,ZK.o.2] <;> rfl,Zt.o⟩
theorem arL(A:Nat->Addr)(B:Nat)(s:List UInt8)(l:List Int)(w:World)(_:s.length<=16777216)(YN:E A B w)(hB:B<=w.heap.size)(hl:U.scalars s=some l):
  Calls prog 35 #[.string (bs s)] w λe w'=>(∃a c,e=.returned (.tuple #[.slice a l.length c,Z9 0]))/\Z6 w w':=by
 refine(nd A B (bs s) w (by grind[Wu]) YN hB).mono ?_;rintro e w' ⟨Z8,ZT⟩;rw[Ky,hl]at ZT;obtain⟨v,rfl,Z2⟩:=ZT;obtain⟨a,c,rfl⟩:=(Y6.au Z2 rfl).slice;grind
theorem qq{n j:Nat}{W0 w:World}{Yd S8:Value}{l r:List (List UInt8)}{x:List UInt8}(_:l.length=j)(_:Sep (List.set [Pc.row n 9 1 Yd j (l.map Vu),Pc.old n W0] 0 (Pc.row n 9 1 S8 (j+1) (l.map Vu++[Vu x]))) w)(_:r=l++[x]):Sep (Sd n W0 S8 r) w:=by
 grind[Sd]
theorem AH{w:World}{Yr:Option Addr}{N lc:Nat}{YJ:List (List UInt8)}(Z2:XC w (.slice Yr N lc) YJ)(Zp:YJ.length=N):
  ∃VF Um,(0<N->Yr=some ⟨VF,Um,none⟩/\N<=lc/\lc<=maxLen)/\∀(i:Nat)(x:List UInt8),YJ[i]?=some x->VF<w.heap.size/\w.cell? ⟨VF,Um+i,none⟩=some (.string (bs x)):=by
 subst Zp
 by_cases ZI:YJ=[]
 ·simp_all
 obtain⟨b,off,ZU,Zq,YP,Yb,WW,VK⟩:=Z2.get ZI;grind
namespace C
theorem gq{k:Kt}{s:List UInt8}{b c:Int}(h:ad k=true)(ZY:s.length<=600)(ZL:¬(b<0\/c<0)):bH k s b c=headA k.c s (bb (ab k.c s) b c (ab k.c s).length)/\bp k s b c=0:=by
 have ZI:bp k s b c=0:=by unfold bp;rw[Y0 (a6 h ZY (by simp)),Y4 ZL]
 grind[bH]
theorem atG{ls:List (List Int)}{b c:Int}{k:Nat}:decide (min (b-bK ls k) (c-bW ls k)<0)=!br ls b c k:=by
 grind[br]
end C
theorem hK(A:Nat->Addr)(B:Nat)(v:Value)(k:C.Kt)(s:ByteArray)(b c:Int)(w:World)(Z2:WZ w v k)(Z0:VT k)(ZY:s.size<=260)(_:b<=9223372036854775807)(_:c<=9223372036854775807)(hS:Sw A B w)(Z8:C.ad k=true)(ZL:¬(b<0\/c<0)):
  Calls prog 20 #[v,.string s,Z9 b,Z9 c] w λX1 w'=>X1=.returned (.tuple #[.string (bs (C.bH k s.data.toList b c)),Z9 (C.bp k s.data.toList b c)])/\Z6 w w':=by
 obtain⟨R2,V,rfl,VS,ZN,ZR,ZF,Yx,Xb⟩:=PO Z2 hS;have WU:=bx ZR.o;have VJ:=bx (λ(Z8:C.ad k=true)(ZY:s.size<=600)=>Mj A B _ Z1 k s [] V (Yx.o V ZR.o) Z0 (Xb.o V ZR.o) Z8 (.inl ⟨rfl,rfl⟩) ZY (by simp) (λp hp=>by cases hp));have X9:=bx (VJ.o Z8 (by omega));have ZK:=bx (C.gq (s:=s.data.toList) Z8 (by grind[size_eq]) ZL);have d1:decide (min b c<0)=false:=Yp (by omega);have R4:=zg (s:=s.data.toList) Z8 (by grind[size_eq]);have Tc:=bx (λg W(h:Z6 w W)(ZH:PB W g k)=>wR A B g k s W ZH Z0 Z8 (by omega) (hS.below h));have V9:=C.dX (s:=s.data.toList) Z8 (by grind[size_eq]);rw[C.eO R4]at V9;have RD:=bx (λn=>show((C.ae k.c s.data.toList).take n).flatten.length<=1800 from XJ (V9.2 n) (by grind[size_eq]));have y7:=bx (λy ZJ=>Ah (t:=k.c) (s:=s) (by omega) y ZJ);have Jt:=bx (λ(y:List Int) W (h:Z6 w W) (ZJ:U.scalars (U.textOf y)=some y) (hl:(U.textOf y).length<=8000)=>arL A B (U.textOf y) y W (by omega) (hS.below h).e (hS.below h).le ZJ);rw[C.ch R4]at Tc RD;have OC:=bx (show C.headA k.c s.data.toList (C.bb (C.ab k.c s.data.toList) b c (C.ab k.c s.data.toList).length)=(((C.ab k.c s.data.toList).map U.textOf).take (C.bb (C.ab k.c s.data.toList) b c (C.ab k.c s.data.toList).length)).flatten by grind[C.headA,C.ch]);rw[OC.o]at ZK;generalize C.ab k.c s.data.toList=ls at Tc RD y7 ZK V9;obtain⟨N,Zp⟩:∃N,ls.length=N:=⟨_,rfl⟩
 have ZE:=bx Zp;rw[Zp]at ZK V9;have nf:=V9.1;clear VJ Z8 Z0 hS ZY Yx V9 Zp OC R4;have ZA:=ZF.o V YU
 go_in
 go_upto_region 1 with(fail)
 rw[<-ZN.o];go_wp2_with (refine X8 rfl _ rfl _ rfl ZA VS ?_)
 refine X9.o.mono ?_;rintro X1 ZV ⟨⟨g,rfl,Vk,-⟩,ZZ⟩;have ZW:=Zw WU ZZ;have RC:=bx Vk;clear ZZ Vk ZA;go_wp2_with fail;refine(Tc.o g ZV ZW.o RC.o).mono ?_;rintro X1 ZB ⟨⟨Zc,rfl,WJ,-⟩,Zz⟩;have Zt:=Zw ZW Zz;obtain⟨Yr,lc,rfl,-⟩:=WJ.slice;rw[X4,ZE.o]at WJ⊢;obtain⟨VF,Um,PH,Tg⟩:=AH WJ (by rw[X4];exact ZE.o);have RP:=bx PH;have M4:=bx Tg;have XI:=bx (vt ZB.heap.size ZB rfl);have IG:=bx (show b-(C.bK ls 0:Int)=b/\c-(C.bW ls 0:Int)=c from by simp[C.bK,C.bW]);clear Zz WJ PH Tg;go_wp2_with fail
 go_loopw[2,3,12,41] (λbv UX Yd ZD wr=>∃(j:Nat)(xV OY:Int)(UC:Option Addr)(Wr:Nat),j<=N/\bv=Z9 xV/\UX=Z9 OY/\Yd=.slice UC j Wr/\ZD=Z9 j/\Box (xV=b-(C.bK ls j:Int))/\Box (OY=c-(C.bW ls j:Int))/\Box (j=0\/C.br ls b c j=true)/\0<=xV/\0<=OY/\Box (Sep (Sd ZB.heap.size ZB (.slice UC j Wr) ((ls.map U.textOf).take j)) wr)) (λ_ _ _ ZD _=>N-(intOf ZD).toNat)
 ·exact⟨0,b,c,none,0,by omega,rfl,rfl,rfl,rfl,⟨IG.o.1.symm⟩,⟨IG.o.2.symm⟩,⟨.inl rfl⟩,by omega,by omega,by grind⟩
 obtain⟨j,xV,OY,UC,Wr,YO,rfl,rfl,rfl,rfl,pU,MJ,Yz,Yn,Vl,YC⟩:=hrel;have X3:=bx (Zt.o.trans ((JB YC.o).mono Zt.o.size))
 by_cases Zu:j<N
 ·obtain⟨y,ZJ⟩:=Yg ls j (by rw[ZE.o];omega);obtain⟨I5,CU,axt⟩:=y7.o y (Xh ZJ);have Z4:(ls.map U.textOf)[j]?=some (U.textOf y):=by grind
  have UT:=M4.o j (U.textOf y) Z4;obtain⟨rfl,Sv,Ni⟩:=RP.o (by omega);have Ua:=((JB YC.o).cell (p:=⟨VF,Um+j,none⟩) UT.1).trans UT.2;have pP:=Vh UT.1 (JB YC.o).size;unfold maxLen at Ni;have U1:=bx (show(ls.map U.textOf).take (j+1)=(ls.map U.textOf).take j++[U.textOf y] by rw[Uo,Z4];rfl);have uk:=C.al0 ls ZJ;have I8:=C.al1 ls ZJ;have zE:y.length<=(U.textOf y).length:=by
   exact yT y
  have NN:=bx (Jt.o y wr X3.o I5 axt);have A8:=bx (C.atG (ls:=ls) (b:=b) (c:=c) (k:=j+1));have WP:=Wu (U.textOf y);obtain⟨qW,aco⟩:∃z,z=xV-((U.textOf y).length:Int):=⟨_,rfl⟩
  obtain⟨qN,ge⟩:∃z,z=OY-(y.length:Int):=⟨_,rfl⟩
  have jn:=bx (show qW=b-(C.bK ls (j+1):Int) by rw[aco,pU.o,uk];omega);have jj:=bx (show qN=c-(C.bW ls (j+1):Int) by rw[ge,MJ.o,I8];omega);rw[<-jn.o,<-jj.o]at A8;have aAv:IntKind.i64.wrap (xV-((U.textOf y).length:Int))=qW:=by rw[QN];have:=pU.o;omega
  have jM:IntKind.i64.wrap (OY-(y.length:Int))=qN:=by rw[QN];have:=MJ.o;omega
  have T8:((ls.map U.textOf).take j).length=j:=by grind
  have O9:=bx T8;have aiC:=bx Yz.o;clear ZJ Z4 UT uk I8 zE aco ge T8
  cases BN:C.br ls b c (j+1)with
  |true=>
   rw[BN,Bool.not_true]at A8;have JE:=bx BN;have oF:=A8.o;have Ng:0<=qW/\0<=qN:=by grind
   clear BN;go_wp2_with fail;refine NN.o.mono ?_;rintro X1 Zh ⟨⟨L2,Tk,rfl⟩,Zb⟩;have WT:=bx (YC.o.below Zb);clear Zb Ua;have aog:=bx (show Sep [Pc.row ZB.heap.size 9 1 (.slice UC j Wr) j (((ls.map U.textOf).take j).map Vu),Pc.old ZB.heap.size ZB] Zh by
    have h:=WT.o;unfold Sd at h;rw[O9.o]at h;exact h)
   have at0:=(JB WT.o).size;have zU:j<=1000000000:=by omega
   go_wp2_with (at_builtin;refine PC (u:=Vu (U.textOf y)) rfl _ _ 49 rfl Iy aog.o 0 rfl rfl rfl rfl zU (by omega) at0 ?_;rintro v4 YL Uh ⟨g4,VG,rfl,-,-⟩;have Wp:=bx (qq O9.o Uh U1.o);clear Uh)
   go_wp2
   go_roundw
   ·exact⟨j+1,qW,qN,_,_,by omega,rfl,rfl,rfl,by go_num,jn,jj,⟨.inr JE.o⟩,Ng.1,Ng.2,Wp⟩
   grind[intOf]
  |false=>
   rw[BN,Bool.not_false]at A8;have oF:=A8.o;have Ze:=bx (C.aa8 (show j<=N by omega) aiC.o (.inr BN));rw[Ze.o]at ZK;clear BN;go_wp2_with fail;refine NN.o.mono ?_;rintro X1 Zh ⟨⟨L2,Tk,rfl⟩,Zb⟩;have YY:=Zw X3 Zb;have WT:=bx (YC.o.below Zb);have TE:=bx (Cu _ _ Zh (Ay WT.o) (XJ (RD.o j) (by decide)) (by grind));clear Zb Ua;go_wp2_with fail;refine X7 TE.o YY.o λYL Ye=>?_
   go_wp2
   go_ret2
   exact⟨by rw[ZK.o.1,ZK.o.2] <;> rfl,Ye.o⟩
 obtain rfl:N=j:=by omega
 have Ze:=bx (C.aa8 (ls:=ls) (b:=b) (c:=c) (Wq N) Yz.o (.inl rfl));rw[Ze.o]at ZK;have TE:=bx (Cu _ _ wr (Ay YC.o) (XJ (RD.o N) (by decide)) (by grind));go_wp2_with fail;refine X7 TE.o X3.o λYL Ye=>?_
 go_wp2
 go_ret2
 exact⟨by rw[ZK.o.1,ZK.o.2] <;> rfl,Ye.o⟩
namespace C
def bh(l:List (List UInt8))(sep:List UInt8):Nat->Nat->List (Nat×Nat)
 |0,_=>[]
 |f+1,a=>if l.length<=a then[]else if 0<aF (l.drop a) sep then(a,a+aF (l.drop a) sep)::bh l sep f (a+aF (l.drop a) sep)else bh l sep f (a+1)
def cw(l:List (List UInt8)):List (Nat×Nat)->Nat->List (List UInt8)
 |[],_=>[]
 |(x,y)::t,b=>((l.take x).drop b).flatten::cw l t y
def cB:List (Nat×Nat)->Nat->Nat
 |[],b=>b
 |(_,y)::t,_=>cB t y
theorem fi(l:List (List UInt8))(sep:List UInt8):∀f a b,bV l sep f a b=cw l (bh l sep f a) b++[(l.drop (cB (bh l sep f a) b)).flatten]
 |0,a,b=>rfl
 |f+1,a,b=>by
  unfold bV bh
  by_cases h:l.length<=a
  ·rw[Y0 h,Y0 h];rfl
  rw[Y4 h,Y4 h]
  by_cases Z5:0<aF (l.drop a) sep
  ·rw[Y0 Z5,Y0 Z5,fi l sep f]
   rfl
  rw[Y4 Z5,Y4 Z5];exact fi l sep f _ _
theorem acp(l:List (List UInt8))(x y:Nat):∀t b,cw l (t++[(x,y)]) b=cw l t b++[((l.take x).drop (cB t b)).flatten]
 |[],b=>rfl
 |(u,v)::t,b=>by
  show _::cw l (t++[(x,y)]) v=_
  rw[acp l x y t v]
  rfl
theorem gr(x y:Nat):∀t b,cB (t++[(x,y)]) b=y
 |[],_=>rfl
 |(u,v)::t,b=>by
  show cB (t++[(x,y)]) v=y
  exact gr x y t v
theorem fm(l:List (List UInt8)):∀t b,(cw l t b).length=t.length
 |[],_=>rfl
 |(u,v)::t,b=>by
  show(cw l t v).length+1=t.length+1
  rw[fm l t v]
theorem fs(l:List (List UInt8))(sep:List UInt8):∀(f a b:Nat)(ZC:List (Nat×Nat))(x:Nat×Nat)(rest:List (Nat×Nat)),b<=a->bh l sep f a=ZC++x::rest->cB ZC b<=x.1/\x.1<x.2/\x.2<=l.length
 |0,a,b,ZC,x,rest,_,h=>by
  simp_all[bh]
 |f+1,a,b,ZC,x,rest,Z8,h=>by
  unfold bh at h
  by_cases Z7:l.length<=a
  ·simp_all
  rw[Y4 Z7]at h
  by_cases Z5:0<aF (l.drop a) sep
  ·rw[Y0 Z5]at h;have hm:=dN (l.drop a) sep;rw[Px]at hm
   cases ZC with
   |nil=>
    rw[RQ]at h;injection h with Zq YP;subst Zq;exact⟨Z8,by omega,by omega⟩
   |cons p t=>
    rw[SI]at h;injection h with Zq YP;subst Zq;exact fs l sep f _ _ t x rest Ys YP
  rw[Y4 Z5]at h;exact fs l sep f (a+1) b ZC x rest (by omega) h
theorem eW(l:List (List UInt8))(sep:List UInt8):∀(f a b:Nat),b<=l.length->cB (bh l sep f a) b<=l.length
 |0,a,b,h=>h
 |f+1,a,b,h=>by
  unfold bh
  split
  ·exact h
  split
  ·have hm:=dN (l.drop a) sep;rw[Px]at hm;exact eW l sep f _ _ (by omega)
  exact eW l sep f _ _ h
theorem fJ(l:List (List UInt8))(sep:List UInt8):∀(f a:Nat),(bh l sep f a).length<=f
 |0,_=>Wq _
 |f+1,a=>by
  unfold bh
  split
  ·simp
  split
  ·exact Nat.succ_le_succ (fJ l sep f _)
  exact Nat.le_succ_of_le (fJ l sep f _)
def dg(k n:Nat):Nat:=match n with|0=>0|n+1=>n+1+k
theorem amF(x:List UInt8)(t:List (List UInt8))(sep:List UInt8):aF (x::t) sep=if sep=x then 1 else if x.isPrefixOf sep=true then dg 1 (aF t (sep.drop x.length))else 0:=by
 rfl
theorem an5(k n:Nat):dg k (dg 1 n)=dg (k+1) n:=by
 cases n with
 |zero=>rfl
 |succ n=>show n+1+1+k=n+1+(k+1);omega
theorem av4(n:Nat):dg 0 n=n:=by cases n <;> rfl
end C
theorem nF(p s:List UInt8):p.isPrefixOf s=true↔s.take p.length=p:=by
 grind[List.isPrefixOf_iff_prefix,List.prefix_iff_eq_take]
theorem alT{p s:List UInt8}(h:p.isPrefixOf s=true):p.length<=s.length:=(List.isPrefixOf_iff_prefix.1 h).length_le
theorem avs(s p:List UInt8)(w:World):
  Calls prog 312 #[.string (bs s),.string (bs p)] w λe w'=>e=.returned (.bool (p.isPrefixOf s))/\Z6 w w':=by
 have Zq:=Wu s;have YP:=Wu p
 by_cases Z7:p.length<=s.length
 ·have d1:decide ((p.length:Int)<=(s.length:Int))=true:=Yh (by omega);have hcut:=Cq (P:=prog) (T:=9) underlying9 s p.length (p.length:Int) rfl Z7
  by_cases Z5:s.take p.length=p
  ·have WS:=bx ((nF p s).2 Z5);have c1:((bs (s.take p.length)).toList==(bs p).toList)=true:=by grind
   have c2:(bs (s.take p.length)).toList=(bs p).toList:=by rw[Z5]
   clear Z5
   go_in
   go_wp2_with fail
   all_goals (go_ret;exact⟨YG (by rw[WS.o]),Below.refl _ _⟩)
  have WS:=bx (show p.isPrefixOf s=false by cases h:p.isPrefixOf s with|false=>rfl|true=>exact absurd ((nF p s).1 h) Z5);have c2:¬(bs (s.take p.length)).toList=(bs p).toList:=by grind[He]
  have c1:((bs (s.take p.length)).toList==(bs p).toList)=false:=by grind
  clear Z5
  go_in
  go_wp2_with fail
  all_goals (go_ret;exact⟨YG (by rw[WS.o]),Below.refl _ _⟩)
 have d1:decide ((p.length:Int)<=(s.length:Int))=false:=Yp (by omega);have WS:=bx (show p.isPrefixOf s=false by grind)
 go_in
 go_wp2_with fail
 all_goals (go_ret;exact⟨YG (by rw[WS.o]),Below.refl _ _⟩)
def vV(s p:List UInt8):Value:=.tuple #[.string (bs (if p.isPrefixOf s=true then s.drop p.length else s)),.bool (p.isPrefixOf s)]
theorem av2(s p:List UInt8)(w:World):
  Calls prog 285 #[.string (bs s),.string (bs p)] w λe w'=>e=.returned (vV s p)/\Z6 w w':=by
 have H:=bx (avs s p w);have Yq:=bx (show vV s p=.tuple #[.string (bs (if p.isPrefixOf s=true then s.drop p.length else s)),.bool (p.isPrefixOf s)]from rfl);rw[Yq.o];have Xf:=bx (λh=>yL (P:=prog) (T:=9) underlying9 s p.length (p.length:Int) rfl (alT h));have YP:=Wu p;generalize p.isPrefixOf s=b at H Xf⊢
 cases b with
 |false=>
  go_in
  go_wp2_with fail;refine Y3 H.o λZV ZZ=>?_
  have ZW:=bx ZZ;clear ZZ
  go_wp2
  go_ret2
  exact⟨by simp,ZW.o⟩
 |true=>
  have Zm:=Xf.o rfl
  go_in
  go_wp2_with fail;refine Y3 H.o λZV ZZ=>?_
  have ZW:=bx ZZ;clear ZZ
  go_wp2
  go_ret2
  exact⟨by simp,ZW.o⟩
theorem aqQ(s p:List UInt8)(w:World):
  Calls prog 226 #[.string (bs s),.string (bs p)] w λe w'=>e=.returned (vV s p)/\Z6 w w':=by
 have H:=bx (av2 s p w);unfold vV at H⊢;generalize(if p.isPrefixOf s=true then s.drop p.length else s)=r at H⊢;generalize p.isPrefixOf s=b at H⊢
 go_in
 go_wp2_with fail;refine Y3 H.o λ_ ZZ=>?_
 have ZW:=bx ZZ;clear ZZ
 go_wp2
 go_ret2
 exact⟨rfl,ZW.o⟩
theorem arX(v:Value)(ls:List (List UInt8))(sep:List UInt8)(w:World)(Z2:XC w v ls)(ZY:ls.length<=100000):
  Calls prog 136 #[v,.string (bs sep)] w λe w'=>e=.returned (Z9 (C.aF ls sep))/\Z6 w w':=by
 have ZN:=bx Z2;obtain⟨Yr,lc,rfl,-⟩:=Z2.slice;obtain⟨N,Zp⟩:∃N,ls.length=N:=⟨_,rfl⟩
 rw[Zp]at ZY ZN⊢;have ZE:=bx Zp;clear Z2 Zp
 go_in
 go_wp2_with fail
 go_loopw[1,10] (λHj ZD wr=>∃(k:Nat)(r:List UInt8),k<=N/\Hj=.string (bs r)/\ZD=Z9 k/\Box (C.aF ls sep=C.dg k (C.aF (ls.drop k) r))/\Box (Z6 w wr)) (λ_ i _=>N-(intOf i).toNat)
 ·exact⟨0,sep,by omega,rfl,rfl,⟨by rw[C.av4,List.drop_zero]⟩,⟨Below.refl _ _⟩⟩
 obtain⟨k,r,Z3,rfl,rfl,hm,Z8⟩:=hrel
 by_cases Zu:k<N
 ·obtain⟨x,Z4⟩:=Yg ls k (by rw[ZE.o];omega);obtain⟨b,off,cap',UV,N9,RK,R0,T3⟩:=ZN.o.get (by grind);rw[ZE.o]at UV N9;obtain⟨rfl,rfl⟩:=XN UV;have Ua:=(Z8.o.cell (p:=⟨b,off+k,none⟩) R0).trans (T3 k x Z4);have Xf:=bx (show ls.drop k=x::ls.drop (k+1) by
   rw[H9 (by grind),(R7 Z4).2])
  have Yq:=bx (aqQ r x wr);have Ur:=Vh R0 Z8.o.size;have yI:=bx (C.amF x (ls.drop (k+1)) r);rw[Xf.o]at hm;unfold maxLen at RK;unfold vV at Yq;clear Z4 UV T3 Xf
  cases PG:x.isPrefixOf r with
  |false=>
   have ZK:=bx (show C.aF ls sep=0 by
    rw[hm.o,yI.o,Y4 (λ_=>by grind),Y4 (by grind)]
    rfl)
   rw[PG]at Yq;clear PG hm yI;go_wp2_with fail;refine X7 Yq.o Z8.o λZB Zt=>?_
   clear Ua Ur
   go_wp2
   go_ret
   exact⟨by rw[ZK.o];rfl,Zt.o⟩
  |true=>
   rw[PG,Y0 rfl]at Yq;obtain⟨q,Zs⟩:∃q,q=r.drop x.length:=⟨_,rfl⟩
   rw[<-Zs]at Yq
   by_cases ZI:q=[]
   ·have ZK:=bx (show C.aF ls sep=k+1 by
     have Tx:r=x:=by
      have Z7:=(nF x r).1 PG;have Z5:r.length<=x.length:=by
       simp_all
      grind
     rw[hm.o,yI.o,Y0 Tx];show 0+1+k=k+1
     omega)
    subst ZI;clear PG hm yI Zs;go_wp2_with fail;refine X7 Yq.o Z8.o λZB Zt=>?_
    clear Ua Ur;have Zq:=D3
    go_wp2
    go_ret
    exact⟨by rw[ZK.o];go_num,Zt.o⟩
   have ZK:=bx (show C.aF ls sep=C.dg (k+1) (C.aF (ls.drop (k+1)) q) by
    rw[hm.o,yI.o,Y4 (by grind),Y0 PG,C.an5,Zs])
   have Zq:=EZ ZI;clear PG hm yI Zs ZI;go_wp2_with fail;refine X7 Yq.o Z8.o λZB Zt=>?_
   clear Ua Ur
   go_wp2
   go_roundw
   ·exact⟨k+1,q,by omega,rfl,by go_num,ZK,Zt⟩
   grind[intOf]
 have ZK:=bx (show C.aF ls sep=0 by
  rw[hm.o,Gr (by rw[ZE.o];omega)]
  rfl)
 clear hm
 go_wp2
 go_ret
 exact⟨by rw[ZK.o];rfl,Z8.o⟩
section
open Go.Shelf
theorem as8(a:Option Addr)(n c:Nat)(s:ByteArray)(w:World):
  Calls prog 73 #[.slice a n c,.string s] w λe w'=>e=.returned (.func (.func 135) #[] #[Zn (w.heap.size),Zn (w.heap.size+1)])/\w'=(w.alloc (.cells #[.slice a n c] 49)).alloc (.cells #[.string s] 9):=by
 go_in
 go_wp2
 go_ret
 simp
theorem ak5(n VZ WB xW:Nat)(Zc:Value)(YJ:List (List UInt8))(sep:List UInt8)(l:Nat)(W0 YH:World)(xD:W0.heap.size=VZ)(ut:Below VZ W0 YH)(Z2:XC W0 Zc YJ)(ZY:YJ.length<=100000)(Ur:Zv YH WB 49 #[Zc])(SR:Zv YH xW 9 #[.string (bs sep)]):
  sN (n+1) prog 135 #[Zn WB,Zn xW] (λx:Nat×Nat=>#[Z9 (x.1:Int),Z9 (x.2:Int)]) (λ_=>False) (λk=>k<VZ\/k=WB\/k=xW)
   (λZC x _=>∃rest,C.bh YJ sep YJ.length 0=ZC++x::rest) (λVi _=>Vi=C.bh YJ sep YJ.length 0) l YH:=by
 intro J PL Pj Gb VX ZI;have Wn:=bx VX;have TE:=bx Pj;have Fv:=bx (ZI YH.heap.size Ys);have W3:=bx (λ(a:Nat)(v:Value) W (aji:Below VZ W0 W) (Z2:XC W v (YJ.drop a))=>arX v (YJ.drop a) sep W Z2 (by grind));obtain⟨Yr,lc,rfl,-⟩:=Z2.slice;obtain⟨N,Zp⟩:∃N,YJ.length=N:=⟨_,rfl⟩
 have ZE:=bx Zp;rw[Zp]at Ur Z2 Wn ZY⊢;have XW:=bx Ur;have TY:=bx SR;have TW:=bx ut;have zn:=bx xD;have tf:=bx Z2;have af2:=bx (λW(h:Below VZ W0 W)=>XC.below (w':=W) Z2 (by grind));clear VX ZI Pj Gb Z2 Ur SR Zp ut xD;refine callsIn_of_wp func135 rfl trivial ?_;simp only[ntmps135,My,U3,SK,Nat.reduceAdd,Nat.reduceSub,Mu,Mg,Og,Mo,RQ,SI]
 gi_wp2
 refine wpIn_wide.2 (wp_scope_straight ((wpIn_wide (n:=n+1)).1 ?_))
 gi_wp2
 refine wpIn_label ?_
 gi_wp2
 gi_loopw [4] (λqk wr=>∃a:Nat,a<=N/\qk=Z9 a/\Box (YH.heap.size<=wr.heap.size)/\Box (Below VZ W0 wr)/\Box (Zv wr WB 49 #[.slice Yr N lc])/\Box (Zv wr xW 9 #[.string (bs sep)])/\Box (∃ZC f,N<=a+f/\C.bh YJ sep N 0=ZC++C.bh YJ sep f a/\J YH.heap.size ZC wr)) (λqk _=>N-(intOf qk).toNat)
 ·exact⟨0,by omega,rfl,⟨Wq _⟩,TW,XW,TY,⟨[],N,by omega,rfl,Fv.o⟩⟩
 obtain⟨a,YZ,rfl,W1,Xk,Ur,SR,agO⟩:=hrel;obtain⟨Tt,rfl⟩:∃W,W=wr:=⟨_,rfl⟩
 have YV:=Ur.o.q0
 by_cases Zu:a<N
 ·obtain⟨Y,Xa,Cp⟩:=lE Yr N lc a YJ YZ ZE.o ZY (af2.o Tt Xk.o);have wL:=bx (λW(h:Below VZ W0 W)=>Cp W (af2.o W h));have d0:decide ((a:Int)<(N:Int))=true:=Yh (by omega);clear Cp
  gi_wp2
  refine wpIn_wide.2 ?_;have JL:=bx (λW(h:Z6 Tt W)=>show ZQ W WB 0=some (.slice Yr N lc)/\ZQ W xW 0=some (.string (bs sep))from⟨(Ur.o.below h Ur.o.lt).q0,(SR.o.below h SR.o.lt).q0⟩);have YF:=bx (JL.o Tt.drew (VQ Tt 1));have Y9:=bx (show Z6 Tt Tt.drew from VQ Tt 1);refine Vv 5 (λW'=>ZQ W' WB 0=some (.slice Yr N lc)/\ZQ W' xW 0=some (.string (bs sep))) (by rfl) ?_;clear YV;generalize Tt.drew=Yl at YF Y9⊢;refine Vp [0,1,2,3] ?_
  iterate 4 (refine Vq ?_ rfl YF.o ?_ ?_;rotate_left;·rintro w ⟨q1,q2⟩;go_simp;try with_reducible rfl)
  refine Vr ?_;have X3:=bx (Xk.o.trans (Y9.o.mono (by have:=Xk.o.size;have:=zn.o;omega)));refine Y1 4 rfl λY7 ZX=>?_
  go_simp;refine X7 (W3.o a Y Yl X3.o (wL.o Yl X3.o)) Y9.o λYK X6=>?_
  refine ZX.out _ _ (λ_=>JL.o _ X6.o) ?_;clear ZX Y7;refine Y1 5 rfl λY7 ZX=>?_
  go_simp;refine ZX.out _ _ (λh=>by cases h) ?_;clear ZX Y7;refine kD ?_ _;obtain⟨m,hm⟩:∃m,m=C.aF (YJ.drop a) sep:=⟨_,rfl⟩
  have yH:=bx hm;have Nh:=C.dN (YJ.drop a) sep;rw[Px,ZE.o,<-hm]at Nh;rw[<-hm];obtain⟨ZC,f,Yz,PG,YO⟩:=agO.o;obtain⟨Pl,rfl⟩:∃Pl,f=Pl+1:=⟨f-1,by omega⟩
  have P3:C.bh YJ sep (Pl+1) a=if 0<m then(a,a+m)::C.bh YJ sep Pl (a+m)else C.bh YJ sep Pl (a+1):=by
   show(if YJ.length<=a then _ else _)=_
   rw[Y4 (by rw[ZE.o];omega),<-hm]
  have XO:=bx (XJ W1.o X6.o.size);have mD:=bx (Xk.o.trans (X6.o.mono (by have:=Xk.o.size;have:=zn.o;omega)));have Mm:=Ur.ub X6.o;have HU:=SR.ub X6.o;clear hm
  by_cases Ng:0<m
  ·rw[Y0 Ng]at P3;rw[P3]at PG;have Nz:=Wn.o YH.heap.size ZC (a,a+m) Tt YK Ys XO.o YO (Turns.of_below X6.o) ⟨_,PG⟩;have w1:=bx PG;simp only at Nz;rw[show((a+m:Nat):Int)=(a:Int)+(m:Int)from by omega]at Nz;obtain⟨fn,tmps,assign,body,ZJ,MT⟩:=Nz;have Kz:=bx MT;have d1:decide ((0:Int)<(m:Int))=true:=Yh (by omega);have aw8:max (m:Int) 1=(m:Int):=by omega
   clear MT P3 PG YO
   gi_wp2
   refine Kz.o.mono ?_;rintro e XE (⟨rfl,Oq,Uq⟩|⟨rfl,L7⟩)
   ·have HO:=bx Oq;have YY:=bx (mD.o.trans (Uq.below (by have:=mD.o.size;have:=zn.o;omega) (λ_ Zs=>Nat.le_of_not_lt (λZu=>Zs (.inl (.inl Zu))))));have Ro:=bx (Uq.blk Mm.o (λZP=>ZP (.inl (.inr (.inl rfl)))));have MB:=bx (Uq.blk HU.o (λZP=>ZP (.inl (.inr (.inr rfl)))));have WT:=bx (XJ XO.o Uq.size);clear Oq Uq ZJ
    gi_wp2
    go_roundw
    ·exact⟨a+m,by omega,by go_num,WT,YY,Ro,MB,⟨ZC++[(a,a+m)],Pl,by omega,by rw[w1.o,M8];rfl,HO.o⟩⟩
    grind[intOf]
   have MB:=bx L7;clear L7 ZJ
   gi_wp2
   rw[Exit.noGoto_normal]
   go_end0
   exact⟨⟨_,rfl⟩,.inr ⟨_,_,MB.o⟩⟩
  obtain rfl:m=0:=by omega
  rw[Y4 (by omega)]at P3;rw[P3]at PG;have w1:=bx PG;have aiA:=bx (TE.o YH.heap.size ZC Tt YK YO (Turns.of_below X6.o));have aw8:max (0:Int) 1=1:=by decide
  clear P3 PG YO
  gi_wp2
  refine⟨λ_ _=>trivial,?_⟩
  gi_wp2
  go_roundw
  ·exact⟨a+1,by omega,by go_num,XO,mD,Mm,HU,⟨ZC,Pl,by omega,w1.o,aiA.o⟩⟩
  grind[intOf]
 obtain rfl:a=N:=by omega
 obtain⟨ZC,f,Yz,PG,YO⟩:=agO.o;have xN:C.bh YJ sep f a=[]:=by
  cases f with
  |zero=>rfl
  |succ f=>
   show(if YJ.length<=a then _ else _)=_
   rw[Y0 (by rw[ZE.o];omega)]
 rw[xN,L3]at PG;have w1:=bx PG;have aiB:=bx YO;have d0:decide ((a:Int)<(a:Int))=false:=Yp (by omega);clear PG xN YO
 gi_wp2
 rw[Exit.noGoto_normal]
 go_end0
 exact⟨⟨_,rfl⟩,.inl ⟨_,_,w1.o.symm,aiB.o⟩⟩
namespace C
theorem gh{k:Kt}{s e:List UInt8}(h:ad k=true)(ZY:s.length<=600)(he:e.length<=60)(Z7:e≠[]):bN k s e=bV (ae k.c s) (M.fix e) (ae k.c s).length 0 0/\bn k s e=0:=by
 have ZI:bn k s e=0:=by unfold bn;rw[Y0 (a6 h ZY he),Y4 Z7]
 grind[bN]
end C
def Jp(VZ:Nat)(W0:World)(v:Value)(l:List (List UInt8))(a:Nat):List Pc:=Pc.blk (VZ+1) 3 #[Z9 a]::Lf VZ W0 v l
theorem aaX{VZ:Nat}{W0 W W':World}{v:Value}{l:List (List UInt8)}{a:Nat}{own:Nat->Prop}(h:Sep (Jp VZ W0 v l a) W)(ZM:Turns own W W')(ZI:¬own (VZ+1))(Z7:¬own VZ)(Z5:∀g,v.ownBlock=some g->¬own g)(ZS:∀k,k<VZ->¬own k):Sep (Jp VZ W0 v l a) W':=h.keep ZM (λ_ hp k Z3=>by
 unfold Jp Lf Sd at hp;simp only[T7,J0,or_false]at hp
 rcases hp with rfl|rfl|rfl|rfl
 ·rw[show k=VZ+1 from Z3];exact ZI
 ·rw[show k=VZ from Z3];exact Z7
 ·exact Z5 k Z3
 exact ZS k Z3)
theorem avv{VZ n:Nat}{W0 W W':World}{v Zy:Value}{l:List (List UInt8)}{xs:List Value}{a:Nat}{own:Nat->Prop}(h:Sep ((Jp VZ W0 v l a).set 2 (Pc.row VZ 9 1 Zy n xs)) W)(ZM:Turns own W W')(ZI:¬own (VZ+1))(Z7:¬own VZ)(Z5:∀g,Zy.ownBlock=some g->¬own g)(ZS:∀k,k<VZ->¬own k):Sep ((Jp VZ W0 v l a).set 2 (Pc.row VZ 9 1 Zy n xs)) W':=h.keep ZM (λ_ hp k Z3=>by
 unfold Jp Lf Sd at hp;simp only[List.set_cons_succ,List.set_cons_zero,T7,J0,or_false]at hp
 rcases hp with rfl|rfl|rfl|rfl
 ·rw[show k=VZ+1 from Z3];exact ZI
 ·rw[show k=VZ from Z3];exact Z7
 ·exact Z5 k Z3
 exact ZS k Z3)
theorem hs(A:Nat->Addr)(B:Nat)(v:Value)(k:C.Kt)(s e:ByteArray)(w:World)(Z2:WZ w v k)(Z0:VT k)(ZY:s.size<=260)(Xj:e.size<=60)(hS:Sw A B w)(Z8:C.ad k=true)(LL:¬(e.data.toList=[])):
  Calls prog 26 #[v,.string s,.string e] w λX1 w'=>(∃Zy,X1=.returned (.tuple #[Zy,Z9 (C.bn k s.data.toList e.data.toList)])/\XC w' Zy (C.bN k s.data.toList e.data.toList))/\Z6 w w':=by
 obtain⟨R2,V,rfl,VS,ZN,ZR,ZF,Yx,Xb⟩:=PO Z2 hS;have WU:=bx (ZR.o.trans ((Xl V (.cells #[.string e] 9)).mono ZR.o.size));have VJ:=bx (λ(Z8:C.ad k=true)(ZY:s.size<=600)(hp:e.size<=60)=>Mj A B _ (.slice (some ⟨V.heap.size,0,none⟩) 1 1) k s [e.data.toList] _ (Yx.o _ WU.o) Z0 (Xb.o _ WU.o) Z8 (JC V e 9) ZY (by simp) (λp _=>by simp_all));have X9:=bx (VJ.o Z8 (by omega) Xj);have ZK:=bx (C.gh (s:=s.data.toList) Z8 (by grind[size_eq]) (by simp_all) LL);have Zq:e.toList.isEmpty=false:=by rw[uV];grind
 have Tc:=bx (λg W(h:Z6 w W)(ZH:PB W g k)=>wR A B g k s W ZH Z0 Z8 (by omega) (hS.below h));have UL:=bx (λW(h:Z6 w W)=>show Calls prog 33 #[.string e] W λR8 w'=>R8=.returned (.string (bs (M.fix e.data.toList)))/\Z6 W w' from E7 A B e W (by omega) (hS.below h).e (hS.below h).le);have V9:=C.dX (s:=s.data.toList) Z8 (by grind[size_eq]);have RD:=bx (λi j=>show(((C.ae k.c s.data.toList).take i).drop j).flatten.length<=1800 by
  have Z7:=V9.2 i;unfold C.headA at Z7;have Z5:=congrArg (λx=>x.flatten.length) (I0 j ((C.ae k.c s.data.toList).take i));simp only[JZ,WR]at Z5;grind[size_eq])
 have Qx:=bx (C.fi (C.ae k.c s.data.toList) (M.fix e.data.toList) (C.ae k.c s.data.toList).length 0 0);have PS:=bx (C.fs (C.ae k.c s.data.toList) (M.fix e.data.toList) (C.ae k.c s.data.toList).length 0 0);have RP:=bx (C.eW (C.ae k.c s.data.toList) (M.fix e.data.toList) (C.ae k.c s.data.toList).length 0 0 (OQ _));have GB:=bx (C.fJ (C.ae k.c s.data.toList) (M.fix e.data.toList) (C.ae k.c s.data.toList).length 0);rw[ZK.o.1,ZK.o.2,Qx.o];have nf:=V9.1;generalize C.ae k.c s.data.toList=YJ at Tc RD PS RP GB nf⊢;generalize M.fix e.data.toList=TC at UL PS RP GB⊢;obtain⟨agn,oj⟩:∃h,h=C.bh YJ TC YJ.length 0:=⟨_,rfl⟩
 have sC:=bx oj;rw[<-oj]at PS RP GB⊢;obtain⟨N,Zp⟩:∃N,YJ.length=N:=⟨_,rfl⟩
 have ZE:=bx Zp;rw[Zp]at nf GB sC;clear VJ Z8 Z0 hS ZY Yx V9 Zp Qx LL oj ZK;have ZA:=ZF.o V YU;refine(callsIn_wide (n:=9)).1 (callsIn_of_wp_marks func26 rfl trivial (wpIn_wide.2 ?_));simp only[ntmps26,My,U3,SK,Nat.reduceAdd,Nat.reduceSub,Mu,Mg,Og,Mo,RQ,SI]
 go_upto_region 1 with(fail)
 rw[<-ZN.o];go_wp2_with (refine X8 rfl _ rfl _ rfl ZA VS ?_)
 refine X9.o.mono ?_;rintro X1 ZV ⟨⟨g,rfl,Vk,-⟩,ZZ⟩;have ZW:=Zw WU ZZ;have RC:=bx Vk;clear ZZ Vk ZA;go_wp2_with fail;refine(Tc.o g ZV ZW.o RC.o).mono ?_;rintro X1 ZB ⟨⟨Zc,rfl,WJ,-⟩,Zz⟩;have Zt:=Zw ZW Zz;have O6:=bx WJ;obtain⟨Yr,lc,rfl,-⟩:=WJ.slice;rw[ZE.o]at O6⊢;clear Zz WJ Tc RC;obtain⟨Zh,Nc⟩:∃W,W=ZB.alloc (.cells #[.slice Yr N lc] 49):=⟨_,rfl⟩
 have tG:Zh.heap.size=ZB.heap.size+1:=by simp_all
 have PQ:=bx (aK Nc);have Zb:Z6 ZB Zh:=by rw[Nc];exact Xl _ _
 have YY:=Zw Zt Zb;have OM:=bx (O6.o.below Zb);obtain⟨YL,CZ⟩:∃W,W=(Zh.alloc (.cells #[Z1] 49)).alloc (.cells #[Z9 0] 3):=⟨_,rfl⟩
 have Wp:=bx (show Sep (Jp Zh.heap.size Zh Z1 [] 0) YL by
  rw[CZ];have h:=((Sep.start Zh).ak 49 #[Z1]).aH Zh.heap.size 1 9;have Z5:=(Sep.perm (List.Perm.swap _ _ _) h).ak 3 #[Z9 0];rw[World.size_alloc]at Z5;exact Z5)
 have acA:YL.heap.size=Zh.heap.size+2:=by simp_all
 have Yf:Z6 Zh YL:=Wp.o.bel (n:=Zh.heap.size) (W0:=Zh) (by simp[Jp,Lf,Sd]);have aoE:=bx Yf;have Ye:=Zw YY Yf;have JL:=bx (λW(h:Z6 YL W)=>show ZQ W ZB.heap.size 0=some (.slice Yr N lc)from((PQ.o.below Yf PQ.o.lt).below h (PQ.o.below Yf PQ.o.lt).lt).q0);have LP:=bx (show Zh.heap.size=ZB.heap.size+1/\YL.heap.size=Zh.heap.size+2 from⟨tG,acA⟩);have oR:=bx (show(((ZB.alloc (.cells #[.slice Yr N lc] 49)).alloc (.cells #[Z1] 49)).alloc (.cells #[Z9 0] 3))=YL by grind);clear Nc CZ Zb Yf tG acA;go_wp2_with fail;rw[oR.o];refine Vv 3 (λW'=>ZQ W' ZB.heap.size 0=some (.slice Yr N lc)) (by rfl) ?_;have YF:=bx (JL.o YL.drew (VQ YL 1));have Y9:=bx (show Z6 YL YL.drew from VQ YL 1);generalize YL.drew=Yl at YF Y9⊢;refine kS 0 ?_ rfl YF.o ?_ ?_;rotate_left
 ·intro w q1;go_simp;try with_reducible rfl
 refine kS 1 ?_ rfl YF.o ?_ ?_;rotate_left
 ·intro w q1;go_simp;try with_reducible rfl
 have X3:=bx (bt Ye.o Y9.o);refine Y1 2 rfl λY7 ZX=>?_
 go_simp;refine X7 (UL.o Yl X3.o) Y9.o λYK rG=>?_
 refine ZX.out _ _ (λ_=>JL.o _ rG.o) ?_;clear ZX Y7;refine Y1 3 rfl λY7 ZX=>?_
 go_simp;refine YW (as8 _ _ _ _ _) ?_;refine ZX.out _ _ (λh=>by cases h) ?_;clear ZX Y7;refine kD ?_ _;have XO:=bx (Wp.o.below rG.o);have Mm:=bx (((Zv.new YK 49 #[.slice Yr N lc]).alloc (.cells #[.string (bs TC)] 9)));have HU:=bx (show Zv ((YK.alloc (.cells #[.slice Yr N lc] 49)).alloc (.cells #[.string (bs TC)] 9)) (YK.heap.size+1) 9 #[.string (bs TC)] by
  have h:=Zv.new (YK.alloc (.cells #[.slice Yr N lc] 49)) 9 #[.string (bs TC)];simp_all)
 have lY:=bx (show Z6 YK ((YK.alloc (.cells #[.slice Yr N lc] 49)).alloc (.cells #[.string (bs TC)] 9))from(Xl YK _).trans ((Xl (YK.alloc _) _).mono (by simp)));have JD:((YK.alloc (.cells #[.slice Yr N lc] 49)).alloc (.cells #[.string (bs TC)] 9)).heap.size=YK.heap.size+2:=by simp
 generalize(YK.alloc (.cells #[.slice Yr N lc] 49)).alloc (.cells #[.string (bs TC)] 9)=Xs at Mm HU lY JD⊢;have Wy:=bx JD;have Wg:=bx (XO.o.below lY.o);have apl:=bx (bt rG.o lY.o);have DS:=bx (bt aoE.o apl.o);have awD:=rG.o.size;obtain⟨PF,ahi⟩:=LP.o;go_wp2_with fail;rw[<-PF];have ayF:ZB.heap.size+1<=Zh.heap.size:=by omega
 have ay9:Zh.heap.size+2<=YK.heap.size:=by omega
 clear PF ahi awD;refine(wpIn_wide (n:=9)).1 (qL (α:=Nat×Nat) (gf:=135) (lb:=#[Zn (YK.heap.size),Zn (YK.heap.size+1)]) rfl (enters_of func135 (by rfl) rfl)
  (encs:=λx:Nat×Nat=>#[Z9 (x.1:Int),Z9 (x.2:Int)]) (own:=λ_=>False) (keep:=λk=>k<Zh.heap.size\/k=YK.heap.size\/k=YK.heap.size+1) (ok:=λZC x _=>∃rest,agn=ZC++x::rest) (S:=λVi _=>Vi=agn)
  (λk Z3=>by grind)
  (λYH ZM=>by
   have RI:=ZM.below Ys (λ_ h=>h.elim);have h:=ak5 7 Zh.heap.size YK.heap.size (YK.heap.size+1) (.slice Yr N lc) YJ TC (Xs.heap.size+1) Zh YH rfl (bt DS.o RI) OM.o (by rw[ZE.o];omega) (Mm.o.below RI Mm.o.lt) (HU.o.below RI HU.o.lt);rw[ZE.o,<-sC.o]at h;exact h)
  (λ_=>rfl)
  (λWw ZC W=>∃v,Sep (Jp Zh.heap.size Zh v (C.cw YJ ZC 0) (C.cB ZC 0)) W/\(∀g,v.ownBlock=some g->Ww<=g)/\Xs.heap.size+2<=Ww)
  (λ_ _ _ _=>False) ?UW (λ_ _ _ _ _ h _=>h) (λ_ _ _ _ h _=>h) (λWw h=>⟨Z1,Wg.o,λg ZH=>(by cases ZH),h⟩)
  (λx a1 W=>a1={tmps:=#[.agg R2,.string s,.string e,Zn (w.heap.size),undef,undef,Z1,Z9 0,Zn g,.nilIface,Zn (ZB.heap.size),Zn (Zh.heap.size),Zn (Zh.heap.size+1),Z9 (x.1:Int),Z9 (x.2:Int),.tuple #[Zn g,.nilIface],.agg R2,.string s,.string e,.slice (some ⟨V.heap.size,0,none⟩) 1 1,.tuple #[Zn g,.nilIface],Zn g,.nilIface,.nilIface,.bool true,.bool true,.string e,.bool false,.bool false,undef,undef,.nilIface,.bool false,undef,undef,Zn g,.string s,.slice Yr N lc,.slice Yr N lc,.string e,.string (bs TC),.func (.func 135) #[] #[Zn (YK.heap.size),Zn (YK.heap.size+1)],Z9 (x.1:Int),Z9 (x.2:Int),undef,undef,undef,undef,undef,undef,undef,undef,undef,undef,undef,undef,undef,undef,undef,undef],defers:=[]})
  (λ_ _ _ _ h _=>h) ?assign ?body ?done (λ_ _ _ _ _ h _=>h.elim) (λ_ _ _ h _=>h))
 case UW=>
  rintro Ww ZC W W' ⟨v,Z7,Z5,ZS⟩ ZM;exact⟨v,aaX Z7 ZM (by grind) (by grind) (λg ZH=>by grind) (λk Z3=>by grind),Z5,ZS⟩
 case assign=>
  intro x W K Yj Xc
  gi_wp2
  exact Xc _ _ (Turns.refl _ _) rfl
 case body=>
  rintro Ww ZC ⟨x,y⟩ a1 W0 W ayr xS GZ um ⟨v,Z7,Z5,ZS⟩ ZM azV ⟨rest,YB⟩ rfl;have FS:=ZM.size;obtain⟨S3,RZ,Lw⟩:=PS.o ZC (x,y) rest (Wq 0) YB;simp only at S3 RZ Lw;rw[ZE.o]at Lw;have VB:=bx (show ZC.length<=1000 by have h:=congrArg List.length YB;rw[WR,U3]at h;have:=GB.o;omega);have S0:=bx (C.acp YJ x y ZC 0);have AR:=bx (C.gr x y ZC 0);have Iz:=bx (C.fm YJ ZC 0);obtain⟨J5,xI⟩:∃n,n=C.cB ZC 0:=⟨_,rfl⟩
  obtain⟨ip,A2⟩:∃l,l=C.cw YJ ZC 0:=⟨_,rfl⟩
  rw[<-xI]at Z7 S3 S0;rw[<-A2]at Z7 S0 Iz;obtain⟨Y,Xa,Cp⟩:=gO Yr N lc J5 x YJ S3 (by omega) ZE.o (by omega) OM.o;have F0:=λg ZH=>((Z7.row 2 rfl).lt g ZH).2
  have PD:=bx (aaX Z7 ZM (by grind) (by grind) (λg ZH=>by grind) (λk Z3=>by grind));have Q2:=bx (λg ZH=>show Ww<=g/\g<W0.heap.size from⟨Z5 g ZH,F0 g ZH⟩);have YA:=bx (show Z6 Zh W from PD.o.bel (n:=Zh.heap.size) (W0:=Zh) (by simp[Jp,Lf,Sd]));have JL:=bx (λW'(h:Z6 W W')=>show ZQ W' Zh.heap.size 0=some v/\ZQ W' ZB.heap.size 0=some (.slice Yr N lc)/\ZQ W' (Zh.heap.size+1) 0=some (Z9 (J5:Int))from⟨((PD.o.below h).blk 1 rfl).q0,((PQ.o.below YA.o PQ.o.lt).below h (PQ.o.below YA.o PQ.o.lt).lt).q0,((PD.o.below h).blk 0 rfl).q0⟩);have wL:=bx (λW'(h:Z6 W W')=>Cp W' (OM.o.below (bt YA.o h)));have Nu:=bx (YA.o.size);have ayo:=bx ZM;clear Z7 Z5 ZM YB F0 Cp xI A2
  gi_wp2
  refine ar4 8 (λW'=>ZQ W' Zh.heap.size 0=some v/\ZQ W' ZB.heap.size 0=some (.slice Yr N lc)/\ZQ W' (Zh.heap.size+1) 0=some (Z9 (J5:Int))) (by rfl) (by kernel_rfl) ?XF ?_
  case XF=>rintro⟨a,w,h⟩;exact h
  have YF:=bx (JL.o W.drew (VQ W 1));have Y9:=bx (show Z6 W W.drew from VQ W 1);generalize W.drew=Yl at YF Y9⊢;refine Vp [0,1,2,3,4] ?_
  iterate 5 (refine Vq ?_ rfl YF.o ?_ ?_;rotate_left;·rintro w ⟨q1,q2,q3⟩;go_simp;try with_reducible rfl)
  refine Vr ?_;have TE:=bx (Cu Y _ Yl (wL.o Yl Y9.o) (XJ (RD.o x J5) (by decide)) (by grind));refine Y1 5 rfl λY7 ZX=>?_
  go_simp;refine X7 TE.o Y9.o λXi XM=>?_
  have Wb:=bx (PD.o.below XM.o);refine ZX.out _ _ (λ_=>JL.o _ XM.o) ?_;clear ZX Y7;refine Y1 6 rfl λY7 ZX=>?_
  go_simp;refine ZX.out _ _ (λ_=>JL.o _ (XM.o.trans ((Xl Xi _).mono XM.o.size))) ?_;clear ZX Y7;refine Y1 7 rfl λY7 ZX=>?_
  refine aeH (u:=Vu ((YJ.take x).drop J5).flatten) rfl _ _ 49 rfl Iy Wb.o 2 rfl (by rfl) (by rfl) rfl (by have:=VB.o;have:=Iz.o;omega) (by omega) (XJ Nu.o XM.o.size) ?_;rintro xo Va T4 ⟨g8,q8,rfl,-,-⟩ v7 vG;have TS:=bx T4;have CD:=bx v7;have pk:=bx vG;have afo:=T4.bel (n:=Zh.heap.size) (W0:=Zh) (by simp[Jp,Lf,Sd]);have HC:=(T4.blk 1 rfl).q0;have f8:=(T4.blk 1 rfl).frozen 0;have L6:=(T4.blk 1 rfl).lt;have vA:=bx (show Va.cell? ⟨Zh.heap.size,0,none⟩=some v/\Va.cell? ⟨ZB.heap.size,0,none⟩=some (.slice Yr N lc)/\Va.cell? ⟨Zh.heap.size+1,0,none⟩=some (Z9 (J5:Int))from⟨HC,(PQ.o.below afo PQ.o.lt).q0,(T4.blk 0 rfl).q0⟩);clear T4 v7 vG afo;refine ZX.out _ _ (λ_=>vA.o) ?_;clear ZX Y7;refine Y1 8 rfl λY7 ZX=>?_
  go_simp;refine ZX.out _ _ (λh=>by cases h) ?_;clear ZX Y7;refine kD ?_ _;have TP:=bx (TS.o.set 1 rfl 0 (.slice (some ⟨g8,0,none⟩) (ip.length+1) q8));have iL:=bx (Turns.setCell (own:=λq=>q=Zh.heap.size) Va (p:=⟨Zh.heap.size,0,none⟩) rfl (.slice (some ⟨g8,0,none⟩) (ip.length+1) q8));clear HC f8 L6 Xa;generalize Va.setCell ⟨Zh.heap.size,0,none⟩ (.slice (some ⟨g8,0,none⟩) (ip.length+1) q8)=PM at TP iL⊢;have Dp:=(TP.o.blk 0 rfl).q0;have f9:=(TP.o.blk 0 rfl).frozen 0;have pB:=(TP.o.blk 0 rfl).lt
  gi_wp2
  have Yo:=(Turns.of_below (own:=λk=>v.ownBlock=some k\/k=Zh.heap.size\/k=Zh.heap.size+1) XM.o).trans ((CD.o.mono (λk h=>Or.inl h)).trans ((iL.o.mono (λk h=>Or.inr (Or.inl h))).trans ((Turns.setCell (own:=λq=>q=Zh.heap.size+1) PM (p:=⟨Zh.heap.size+1,0,none⟩) rfl (Z9 (y:Int))).mono (λk h=>Or.inr (Or.inr h)))));refine⟨Yo.mono (λk Z3 _=>?_),.slice (some ⟨g8,0,none⟩) (ip.length+1) q8,?_,λg ZH=>?_,ZS⟩
  ·rcases Z3 with Z3|Z3|Z3
   ·have WK:=Q2.o k Z3
    omega
   ·omega
   omega
  ·have h:=TP.o.set 0 rfl 0 (Z9 (y:Int));rw[S0.o,AR.o];grind[Jp,Lf,Sd]
  rcases pk.o with h|h
  ·rw[h]at ZH;exact(Q2.o g ZH).1
  rw[h]at ZH;injection ZH with ZH;have:=XM.o.size;omega
 case done=>
  intro Ww xs W Yj hS ⟨v,Z7,Z5,ZS⟩ XU;subst hS;obtain⟨J5,xI⟩:∃n,n=C.cB xs 0:=⟨_,rfl⟩
  obtain⟨ip,A2⟩:∃l,l=C.cw YJ xs 0:=⟨_,rfl⟩
  have Iz:=bx (show ip.length<=1000 by rw[A2,C.fm];have:=GB.o;omega);have H8:=bx (show J5=C.cB xs 0/\ip=C.cw YJ xs 0 from⟨xI,A2⟩);rw[<-xI]at Z7 RP;rw[<-A2]at Z7;have PD:=bx Z7;have U5:=bx Z5;have Xf:=bx XU;obtain⟨Y,Xa,Cp⟩:=lE Yr N lc J5 YJ (by have:=RP.o;rw[ZE.o]at this;omega) ZE.o (by omega) OM.o;have YA:=bx (show Z6 Zh W from Z7.bel (n:=Zh.heap.size) (W0:=Zh) (by simp[Jp,Lf,Sd]));have JL:=bx (λW'(h:Z6 W W')=>show ZQ W' Zh.heap.size 0=some v/\ZQ W' ZB.heap.size 0=some (.slice Yr N lc)/\ZQ W' (Zh.heap.size+1) 0=some (Z9 (J5:Int))from⟨((PD.o.below h).blk 1 rfl).q0,((PQ.o.below YA.o PQ.o.lt).below h (PQ.o.below YA.o PQ.o.lt).lt).q0,((PD.o.below h).blk 0 rfl).q0⟩);have wL:=bx (λW'(h:Z6 W W')=>Cp W' (OM.o.below (bt YA.o h)));have Nu:=bx (YA.o.size);clear Z7 Z5 XU Cp xI A2;go_wp2_with fail;refine Vv 6 (λW'=>ZQ W' Zh.heap.size 0=some v/\ZQ W' ZB.heap.size 0=some (.slice Yr N lc)/\ZQ W' (Zh.heap.size+1) 0=some (Z9 (J5:Int))) (by kernel_rfl) ?_;have YF:=bx (JL.o W.drew (VQ W 1));have Y9:=bx (show Z6 W W.drew from VQ W 1);generalize W.drew=Yl at YF Y9⊢;refine Vp [0,1,2,3] ?_
  iterate 4 (refine Vq ?_ rfl YF.o ?_ ?_;rotate_left;·rintro w ⟨q1,q2,q3⟩;go_simp;try with_reducible rfl)
  refine Vr ?_;have akO:=bx (show(YJ.drop J5).flatten.length<=1800 by have h:=RD.o YJ.length J5;rwa[OR]at h);have TE:=bx (Cu Y _ Yl (wL.o Yl Y9.o) (XJ akO.o (by decide)) (by rw[Px,ZE.o];omega));refine Y1 4 rfl λY7 ZX=>?_
  go_simp;refine X7 TE.o Y9.o λXi XM=>?_
  have Wb:=bx (PD.o.below XM.o);refine ZX.out _ _ (λ_=>JL.o _ XM.o) ?_;clear ZX Y7;refine Y1 5 rfl λY7 ZX=>?_
  go_simp;refine ZX.out _ _ (λ_=>JL.o _ (XM.o.trans ((Xl Xi _).mono XM.o.size))) ?_;clear ZX Y7;refine Y1 6 rfl λY7 ZX=>?_
  refine aeH (u:=Vu (YJ.drop J5).flatten) rfl _ _ 49 rfl Iy Wb.o 2 rfl (by kernel_rfl) (by kernel_rfl) rfl (by have:=Iz.o;omega) (by omega) (XJ Nu.o XM.o.size) ?_;rintro xo Va T4 ⟨g8,q8,rfl,-,-⟩ v7 vG;have TS:=bx T4;have CD:=bx v7;have pk:=bx vG;clear T4 v7 vG Xa;refine ZX.out _ _ (λh=>by cases h) ?_;clear ZX Y7;refine Y1 7 rfl λY7 ZX=>?_
  go_simp;refine ZX.out _ _ (λh=>by cases h) ?_;clear ZX Y7;refine Y1 8 rfl λY7 ZX=>?_
  go_simp;refine ZX.out _ _ (λh=>by cases h) ?_;clear ZX Y7;refine kD ?_ _;have VV:=XM.o.size;have wy:=(CD.o.block _ (by omega) (λZP=>by have:=U5.o _ ZP;omega)).trans ((XM.o.block _ (by omega)).trans Xf.o);have aij:=bx wy;clear wy;go_wp2_with fail;have wy:=aij.o;rw[Wy.o]at wy;refine⟨by simp,.inl ⟨_,_,rfl,run_takeDeferred wy,?_⟩⟩;refine⟨_,results_tmp2 rfl _ _ _,?_⟩;have GE:=Turns.putObj (own:=λk=>k=YK.heap.size+2) Va rfl (.deferred none);have ON:=avv TS.o GE (by omega) (by omega) (λg ZH=>by
   rcases pk.o with h|h
   ·rw[h]at ZH;have:=U5.o g ZH;omega
   rw[h]at ZH;injection ZH with ZH;omega) (λk Z3=>by omega)
  rw[<-H8.o.1,<-H8.o.2];exact⟨⟨_,rfl,XC.au (xs:=ip++[(YJ.drop J5).flatten]) (by rw[T9];exact ON.row 2 rfl) (by simp)⟩,YY.o.trans ((ON.bel (n:=Zh.heap.size) (W0:=Zh) (by simp[Jp,Lf,Sd])).mono YY.o.size)⟩
