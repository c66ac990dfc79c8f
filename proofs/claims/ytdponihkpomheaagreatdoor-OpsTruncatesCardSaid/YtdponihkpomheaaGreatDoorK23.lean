/- Texts of this claim. -/
import Derived.OrdersIn
import Derived.Test.YtdponihkpomheaaGreatDoorK22

set_option maxRecDepth 100000
set_option maxHeartbeats 16000000
namespace Go.Proofs.YtdponihkpomheaaGreatDoor
open Go.RowKit
attribute[local go_sem] Oper.semAt_some
open Tryz
theorem l7(A:Nat->Addr)(B VU:Nat)(Yk:Int)(pi YM Y2 Zo Za Hj Yd:Value)(R:List D.Rule)(M:D.ao)(L:List Int)(w:World)(Z8:Zv w VU 218 #[Z9 Yk,pi,YM,Y2,Zo,Za,Hj,Yd])(WS:TQ w Y2 R)(Yz:∀x∈R,Mv x)(KB:R.length<=16777216)(Xv:Oh w (.agg #[Zo,Za]) M)(MZ:JV M)(WE:Y6 w Yd L)(F9:L.length<=900)(XU:Ed A B w)(Vg:Eg A B w)(hB:B<=w.heap.size)(I4:OI R M Yk=true):
  Calls prog 158 #[Zn VU] w λe w'=>(∃v,e=.returned v/\Y6 w' v (KI R M Yk.toNat L)/\∀g,v.ownBlock=some g->w.heap.size<=g)/\Z6 w w':=by
 have ZF:=bx (λW(h:Z6 w W)=>show ZQ W VU 0=some (Z9 Yk)/\ZQ W VU 3=some Y2/\ZQ W VU 4=some Zo/\ZQ W VU 5=some Za/\ZQ W VU 7=some Yd/\VU<W.heap.size from
  ⟨(Z8.below h Z8.lt).q0,(Z8.below h Z8.lt).q3,(Z8.below h Z8.lt).q4,(Z8.below h Z8.lt).q5,(Z8.below h Z8.lt).q7,(Z8.below h Z8.lt).lt⟩)
 have Q6:=bx (λW(h:Z6 w W)=>ad2 A B Y2 R (.agg #[Zo,Za]) M Yk Yd L W (WS.below h) Yz KB (Xv.below h) MZ (WE.below h) F9 (XU.below (h.mono hB)) (Vg.below (h.mono hB)) (XJ hB h.size) I4);clear Z8 WS Yz KB Xv MZ WE F9 XU Vg hB I4
 go_in
 go_wp2_with fail;have Y9:=bx (show Z6 w w.drew from VQ w 1);have YF:=bx (ZF.o w.drew Y9.o);refine Vv 24 (λW'=>ZQ W' VU 0=some (Z9 Yk)/\ZQ W' VU 3=some Y2/\ZQ W' VU 4=some Zo/\ZQ W' VU 5=some Za/\ZQ W' VU 7=some Yd/\VU<W'.heap.size) (by rfl) ?_;generalize w.drew=Yl at Y9 YF⊢;refine Vp [0,1,2,3,4,5,6,7,8,9,10,11,12,13,14,15,16,17,18] ?_
 iterate 19 (refine Vq ?_ rfl YF.o ?_ ?_;rotate_left;·rintro w ⟨q1,q2,q3,q4,q5,q6⟩;go_simp;try with_reducible rfl)
 refine Vr ?_;refine Y1 19 rfl λY7 ZX=>?_
 go_simp;refine(Q6.o Yl Y9.o).mono ?_;rintro e XA ⟨⟨v6,rfl,BA,agi⟩,Sy⟩;have ES:=bx (λg ZH=>XJ Y9.o.size (agi g ZH));have Ft:=bx BA;have VN:=Zw Y9 Sy;have Tj:=bx (ZF.o XA VN.o);clear BA Sy agi;refine ZX.out _ _ (λ_=>Tj.o) ?_;clear ZX Y7;refine Y1 20 rfl λY7 ZX=>?_
 go_simp;refine ZX.out _ _ (λ_=>Tj.o) ?_;clear ZX Y7;refine kS 21 ?_ rfl Tj.o ?_ ?_;rotate_left
 ·rintro w ⟨q1,q2,q3,q4,q5,q6⟩;go_simp;try with_reducible rfl
 refine kS 22 ?_ rfl Tj.o ?_ ?_;rotate_left
 ·rintro w ⟨q1,q2,q3,q4,q5,q6⟩;go_simp;try with_reducible rfl
 refine Y1 23 rfl λY7 ZX=>?_
 go_simp;refine ZX.out _ _ (λ_=>Tj.o) ?_;clear ZX Y7;refine Y1 24 rfl λY7 ZX=>?_
 go_simp;refine ZX.out _ _ (λh=>by cases h) ?_;clear ZX Y7;refine kD ?_ _
 go_wp2
 go_ret
 exact⟨⟨_,rfl,Ft.o,ES.o⟩,VN.o⟩
theorem au2(A:Nat->Addr)(B:Nat)(v:Value)(t:Tab)(s:ByteArray)(w:World)(Z2:TabAt w v t)(Z0:Sr t)(_:s.size<=800)(YN:E A B w)(XU:Ed A B w)(Vg:Eg A B w)(Yo:H5 w)(hB:B<=w.heap.size):
  Calls prog 166 #[v,.string s] w λe w'=>(∃Zy,e=.returned (.tuple #[Zy,Z9 (Vn t s.data.toList)])/\Y6 w' Zy (Kx t s.data.toList))/\Z6 w w':=by
 have VE:=bx (λW(h:Z6 w W)=>Z2.below h);obtain⟨pi,YM,Y2,Zo,Za,rfl,Z7,Z5,ZS,ZG,Zi⟩:=Z2;obtain⟨V,ZO⟩:∃V,V=w.alloc (.cells #[Z9 t.n,pi,YM,Y2,Zo,Za] 31):=⟨_,rfl⟩
 have ZR:=bx (aB ZO);have Ze:=bx (aK ZO);have ZF:=bx (λW(h:Z6 V W)=>Ze.o.d6 h);have ZN:=bx ZO;have R1:=bx Z0;have aiU:=bx (λW(h:Z6 w W)=>show H5 W from(h.cell (p:=⟨6,0,none⟩) (World.block_lt_of_cell? w _ Yo)).trans Yo);have JX:=bx (λW(h:Z6 w W)=>show Ed A B W/\Eg A B W/\B<=W.heap.size from⟨XU.below (h.mono hB),Vg.below (h.mono hB),XJ hB h.size⟩);have Uk:=bx (λhe=>anI A B _ t s V (VE.o V ZR.o) Z0 (by omega) (JX.o V ZR.o).1 (JX.o V ZR.o).2.1 (JX.o V ZR.o).2.2 he);have VJ:=bx (λhe=>nC A B _ t s V (VE.o V ZR.o) Z0 (by omega) (YN.below (ZR.o.mono hB)) (JX.o V ZR.o).1 (JX.o V ZR.o).2.1 (JX.o V ZR.o).2.2 he);have Wg:=bx (show(T5 t.p (Xw s.data.toList)).length<=900 by unfold T5;rw[X4];have:=OO s.data.toList;grind[size_eq])
 by_cases he:Vn t s.data.toList=0
 ·obtain⟨t1,t2⟩:=vX he;have t3:=t1;unfold Td at t3;rw[Vm]at t3;have JF:=bx t3.1;have X9:=bx (VJ.o he);have VO:=bx (show Kx t s.data.toList=KI t.r t.m t.n.toNat (T5 t.p (Xw s.data.toList)) by grind[Kx,Lj]);have AX:=bx he;have GM:=bx (λW(h:Z6 w W)=>show TQ W Y2 t.r/\Oh W (.agg #[Zo,Za]) t.m from⟨ZS.below h,Zo,Za,rfl,ZG.below h,Zi.below h⟩);clear Z7 Z5 ZS ZG Zi ZO Z0 he t1 t2 t3 Uk VJ XU YN Vg hB Yo;obtain⟨Yk,ZP⟩:∃n,n=t.n:=⟨_,rfl⟩
  rw[<-ZP]at ZN Ze VE ZF X9 JF VO⊢;clear ZP;obtain⟨Zd,Zx,Zr,Zk,Zl,Zg,YS⟩:=ZF.o V YU
  go_in
  go_upto_region 1 with(fail)
  rw[<-ZN.o];go_wp2_with fail;refine X9.o.mono ?_;rintro e ZV ⟨E5,Ew,Eu,EU,Fs,VU,Yd,FA,rfl,XY,BH,ZZ⟩;obtain⟨rfl,rfl,rfl,rfl,rfl⟩:pi=E5/\YM=Ew/\Y2=Eu/\Zo=EU/\Za=Fs:=by grind
  have ZW:=Zw ZR ZZ;have Yq:=bx (l7 A B VU Yk pi YM Y2 Zo Za _ Yd t.r t.m _ ZV XY (GM.o ZV ZW.o).1 R1.o.r1 R1.o.r2 (GM.o ZV ZW.o).2 R1.o.m BH Wg.o (JX.o ZV ZW.o).1 (JX.o ZV ZW.o).2.1 (JX.o ZV ZW.o).2.2 JF.o);clear FA XY BH ZZ Zd Zx Zr Zk Zl Zg YS;go_wp2_with fail;refine Yq.o.mono ?_;rintro e ZB ⟨⟨v2,rfl,SN,-⟩,Zz⟩;have Uv:=bx SN;have Zt:=Zw ZW Zz;clear SN Zz
  go_wp2
  go_ret2
  exact⟨⟨_,OB rfl (PZ AX.o.symm),by rw[VO.o];exact Uv.o⟩,Zt.o⟩
 have VO:=bx (show Kx t s.data.toList=[] by grind[Kx]);have X9:=bx (Uk.o he);obtain⟨r,ZT⟩:∃r,r=Vn t s.data.toList:=⟨_,rfl⟩
 have ZK:=bx ZT;rw[<-ZT]at X9;clear Z7 Z5 ZS ZG Zi ZO Z0 he Uk VJ XU YN Vg hB Yo ZT;obtain⟨Yk,ZP⟩:∃n,n=t.n:=⟨_,rfl⟩
 rw[<-ZP]at ZN Ze VE ZF X9⊢;clear ZP;obtain⟨Zd,Zx,Zr,Zk,Zl,Zg,YS⟩:=ZF.o V YU
 go_in
 go_upto_region 1 with(fail)
 rw[<-ZN.o];go_wp2_with fail;refine X7 X9.o ZR.o λZV ZW=>?_
 have TW:=bx (akq 0 r ZV (aiU.o ZV ZW.o));clear Zd Zx Zr Zk Zl Zg YS;go_wp2_with fail;refine X7 TW.o ZW.o λZB Zt=>?_
 go_wp2
 go_ret2
 exact⟨⟨_,OB rfl (PZ ZK.o),by rw[VO.o];exact .nil⟩,Zt.o⟩
namespace C
def items(xs:List Int)(ns:List Nat):List (Nat×List UInt8):=(List.range (ns.length-1)).map λi=>(av xs (ns.getD i 0),piece xs ns i)
theorem c9(xs:List Int)(ns:List Nat):(items xs ns).length=ns.length-1:=by simp[items]
theorem l8(xs:List Int)(ns:List Nat){i:Nat}(_:i+1<ns.length):(items xs ns)[i]?=some (av xs (ns.getD i 0),piece xs ns i):=by
 grind[items]
theorem anz(xs:List Int)(ns:List Nat){i:Nat}(h:i+1<ns.length):items xs ns=(items xs ns).take i++(av xs (ns.getD i 0),piece xs ns i)::(items xs ns).drop (i+1):=by
 have hl:i<(items xs ns).length:=by rw[c9];omega
 have e:=H9 (l:=items xs ns) (i:=i) hl;have YP:=l8 xs ns h;rw[SA hl]at YP;injection YP with YP;rw[YP]at e;rw[<-e];simp
theorem arI(xs:List Int)(ns:List Nat){i:Nat}(h:i+1<ns.length):(items xs ns).take (i+1)=(items xs ns).take i++[(av xs (ns.getD i 0),piece xs ns i)]:=by
 rw[Uo,l8 xs ns h]
 rfl
end C
theorem acJ(p:Option Addr)(w:World):
  Calls prog 88 #[.pointer p] w λe w'=>e=.returned (.func (.func 157) #[] #[Zn (w.heap.size)])/\w.alloc (.cells #[.pointer p] 142)=w':=by
 go_in
 go_wp2
 go_ret
 simp
theorem acU(n:Nat)(A:Nat->Addr)(B VZ m xf VU:Nat)(YV c1 c2 c3 VG Wv Nn:Value)(RW:List UInt8)(xs:List Int)(ns:List Nat)(l:Nat)(YH:World)(_:m<=YH.heap.size)(_:B<=VZ)(_:VZ<m)(YN:E A B YH)(I9:Zv YH xf 142 #[Zn VU])(j3:Zv YH VU 218 #[YV,c1,c2,c3,VG,Wv,.string (bs RW),Nn])(agP:xf<m/\VU<m/\xf≠VZ/\VU≠VZ)(hcut:Calls prog 158 #[Zn VU] YH λe w'=>(∃v,e=.returned v/\Y6 w' v (ns.map λn:Nat=>(n:Int))/\∀g,v.ownBlock=some g->YH.heap.size<=g)/\Z6 YH w')(K7:RW=U.textOf xs)(On:∀x∈xs,U.right x=true)(ZT:Ku xs.length ns)(ZY:RW.length<=8000):
  sN (n+1) prog 157 #[Zn xf] (λx:Nat×List UInt8=>#[Z9 (x.1:Int),.string (bs x.2)]) (λ_=>False) (λk=>k<m/\k≠VZ)
   (λZC x _=>∃rest,C.items xs ns=ZC++x::rest) (λVi _=>Vi=C.items xs ns) l YH:=by
 intro J PL Pj Gb VX ZI;have Wn:=bx VX;have HI:=bx ZI;have TE:=bx Pj;have Mi:=bx K7;have OA:=bx On;have Xx:=bx ZT;have pg:=bx (λ(s:ByteArray) W (Z0:s.size<=maxLen) (YN:E A B W) (hB:B<=W.heap.size)=>(callsIn_wide (n:=n)).2 (rM A B s W Z0 YN hB));obtain⟨Q,VI⟩:∃Q,ns.length=Q:=⟨_,rfl⟩
 have Xy:=bx VI;have vJ:0<Q:=by rw[<-VI];exact ZT.ne
 have Ik:xs.length<=8000:=by have:=yT xs;grind
 have Cx:Q<=8001:=by have:=ZT.len;omega
 have Se:=bx (show∀k,C.av xs k<=RW.length from λk=>by rw[K7];exact C.adi xs k);have pd:=bx YN;have qV:=bx I9;have aiM:=bx j3;have Aq:=bx agP;have Yq:=bx ((callsIn_wide (n:=n)).2 hcut);have p0:=I9.q0;have T2:=j3.q6;clear VX ZI Pj Gb K7 On ZT VI YN I9 j3 agP hcut;refine callsIn_of_wp func157 rfl trivial ?_;simp only[ntmps157,My,U3,SK,Nat.reduceAdd,Nat.reduceSub,Mu,Mg,Og,Mo,RQ,SI]
 gi_wp2
 refine wpIn_wide.2 (wp_scope_straight ((wpIn_wide (n:=n+1)).1 ?_))
 gi_wp2
 refine⟨trivial,Yq.o.mono ?_⟩;rintro e ZV ⟨⟨v1,rfl,WV,N8⟩,ZZ⟩;obtain⟨VF,Um,AC,Kf,YP,Yb,WW,VK⟩:=WV.get (by intro h;have:=congrArg List.length h;rw[X4,Xy.o]at this;grind);subst Kf;rw[X4,Xy.o]at YP⊢;have ail:=bx VK;have aby:=N8 VF rfl;have AI:=bx (show VF<ZV.heap.size/\YH.heap.size<=VF from⟨WW,aby⟩);have ZW:=bx ZZ;have Pu:=bx (pd.o.below (ZZ.mono (by omega)));have GF:=qV.ub ZZ;have MU:=aiM.ub ZZ;have Fv:=bx (TE.o ZV.heap.size [] YH ZV (HI.o ZV.heap.size ZZ.size) (Turns.of_below ZZ));have CY:=ZZ.size;unfold maxLen at Yb;clear WV VK ZZ aby N8 p0 T2
 by_cases W2:AC=1
 ·subst W2;obtain rfl:Q=1:=by omega
  have KD:=bx (show C.items xs ns=[] by
   have h:=C.c9 xs ns;rw[Xy.o]at h;grind)
  gi_wp2
  refine wpIn_label ?_
  gi_wp2
  gi_loopw [19] (λZD wr=>ZD=Z9 0/\wr=ZV) (λ_ _=>0)
  ·simp
  obtain⟨rfl,rfl⟩:=hrel
  gi_wp2
  rw[Exit.noGoto_normal]
  go_end0
  exact⟨⟨_,rfl⟩,.inl ⟨_,_,KD.o.symm,Fv.o⟩⟩
 gi_wp2
 refine wpIn_label ?_
 gi_wp2
 gi_loopw [3,19] (λY2 ZD wr=>∃k:Nat,k+1<=Q/\Y2=.string (bs (RW.drop (C.av xs (ns.getD k 0))))/\ZD=Z9 k/\Box (ZV.heap.size<=wr.heap.size)/\Box (E A B wr)/\Box (Zv wr xf 142 #[Zn VU])/\Box (Zv wr VU 218 #[YV,c1,c2,c3,VG,Wv,.string (bs RW),Nn])/\
  Box (∀(i:Nat)(x:Int),(ns.map λn:Nat=>(n:Int))[i]?=some x->wr.cell? ⟨VF,Um+i,none⟩=some (Z9 x))/\Box (J ZV.heap.size ((C.items xs ns).take k) wr)) (λ_ ZD _=>Q-(intOf ZD).toNat)
 ·exact⟨0,vJ,by rw[Xx.o.first,C.adR,List.drop_zero],rfl,⟨Wq _⟩,Pu,GF,MU,ail,by grind⟩
 obtain⟨k,Z3,rfl,rfl,W1,Di,agR,aw0,xP,YO⟩:=hrel;obtain⟨Tt,rfl⟩:∃W,W=wr:=⟨_,rfl⟩
 by_cases Zu:k+1<Q
 ·obtain⟨a,YZ⟩:=Yg ns k (by rw[Xy.o];omega);obtain⟨b,Z8⟩:=Yg ns (k+1) (by rw[Xy.o];omega);have EH:ns.getD k 0=a:=by grind
  have WG:ns.getD (k+1) 0=b:=by grind
  have QK:a<b:=by have:=Xx.o.up k (by grind);omega
  have z6:b<=xs.length:=by have:=Xx.o.le (k+1) (by grind);omega
  have S0:=bx (C.anz xs ns (i:=k) (by grind));have MN:=bx (C.arI xs ns (i:=k) (by grind));have vc:=bx (show C.piece xs ns k=(RW.drop (C.av xs a)).take (C.av xs b-C.av xs a) by
   unfold C.piece;rw[EH,WG,Mi.o,C.aeM xs (Bn QK)])
  rw[EH]at S0 MN⊢;have uW:=bx WG;have Do:=xP.o k (a:Int) (by grind);have Dm:=xP.o (k+1) (b:Int) (by grind);have U2:=bx (λW(h:Z6 Tt W)=>show ZQ W VF (Um+k)=some (Z9 (a:Nat))/\ZQ W VF (Um+(k+1))=some (Z9 (b:Nat))from⟨(h.cell (p:=⟨VF,Um+k,none⟩) (Vh AI.o.1 W1.o)).trans Do,(h.cell (p:=⟨VF,Um+(k+1),none⟩) (Vh AI.o.1 W1.o)).trans Dm⟩);have V9:=Vh AI.o.1 W1.o;have la:decide (k<Q-1)=true:=Yh (by omega);have aww:decide ((k:Int)<((Q-1:Nat):Int))=true:=Yh (by omega);have ags:(k:Int)<(Q:Int):=by omega
  have agq:(k:Int)+1<(Q:Int):=by omega
  have TT:IntKind.i64.wrap ((k:Int)+1)=(k:Int)+1:=by rw[QN];omega
  have Nj:(0:Int)<=(k:Int)+1:=by omega
  have Sx:((k:Int)+1).toNat=k+1:=by omega
  clear YZ Z8 EH WG
  gi_wp2
  refine wpIn_wide.2 ?_
  go_quiet (fail)
  have Y9:=bx (Po Tt nq);generalize Tt.drewN nq=Yl at Y9⊢;clear Do Dm;clear TT Nj Sx;obtain⟨Oc,It⟩:∃Oc,Oc=C.av xs a:=⟨_,rfl⟩
  obtain⟨zy,ur⟩:∃zy,zy=C.av xs b:=⟨_,rfl⟩
  rw[<-It,<-ur]at vc;rw[<-It]at S0 MN⊢;have ib:=bx It;have ZR:=bx ur;obtain⟨R,WS⟩:∃R,R=RW.drop Oc:=⟨_,rfl⟩
  have ZK:=bx WS;rw[<-WS]at vc⊢;have N6:=C.e0 xs (Bn QK);rw[<-It,<-ur]at N6;have TL:=Se.o b;rw[<-ur]at TL;have ER:=bx (show R.length=RW.length-Oc by rw[WS,Px]);have sq:=bx (show∀q,a+q<=b->C.av xs (a+q)-Oc<=zy-Oc/\Oc<=C.av xs (a+q)from λq Zs=>by
   have Z7:=C.e0 xs Zs;have Z5:=C.e0 xs (Nat.le_add_right a q);omega)
  have s3:=bx N6;have KB:R.length<=8000:=by rw[ER.o];omega
  have Gw:zy-Oc<=R.length:=by rw[ER.o];omega
  obtain⟨D,XU⟩:∃D,b=a+D:=Nat.exists_eq_add_of_le (Bn QK);have gE:(b:Int)-(a:Int)=(D:Int):=by omega
  have ayU:D<=8000:=by omega
  have JX:=bx XU;have ain:=bx (Di.o.below (Y9.o.mono (by have:=W1.o;omega)));have aik:=bx (show∀q,q<D->∃d:Nat,Of (R.drop (C.av xs (a+q)-Oc))=.tuple #[Z9 (xs.getD (a+q) 0),Z9 (d:Int),.bool true]/\C.av xs (a+(q+1))-Oc=(C.av xs (a+q)-Oc)+d from λq Zs=>by
   have Z3:a+q<xs.length:=by have:=JX.o;omega
   have Z7:=C.akZ xs OA.o Z3;have Z5:=sq.o q (by have:=JX.o;omega);have ZG:=C.auc xs Z3;refine⟨(U.enc (xs.getD (a+q) 0)).length,?_,by rw[show a+(q+1)=a+q+1 by omega];omega⟩;rw[ZK.o,List.drop_drop,show Oc+(C.av xs (a+q)-Oc)=C.av xs (a+q) by omega,Mi.o];unfold Of;rw[Z7]
   rfl)
  rw[gE];clear It ur WS N6 TL gE XU
  gi_wp2
  gi_loopw [6,32] (λZo jH NL=>∃q:Nat,q<=D/\Zo=Z9 ((C.av xs (a+q)-Oc:Nat):Int)/\jH=Z9 q/\Box (Z6 Yl NL)) (λ_ jH _=>(D)-(intOf jH).toNat)
  ·exact⟨0,OQ _,by rw[Nat.add_zero,<-ib.o,Nat.sub_self];rfl,rfl,⟨Below.refl _ _⟩⟩
  obtain⟨q,Zs,rfl,rfl,SR⟩:=hrel
  by_cases Fa:q<D
  ·obtain⟨d,OV,Zm⟩:=aik.o q Fa;have LD:=(sq.o q (by have:=JX.o;omega)).1;have FX:=(sq.o (q+1) (by have:=JX.o;omega)).1;have Bt:=bx Zm;obtain⟨nq,agF⟩:∃nq,nq=C.av xs (a+q)-Oc:=⟨_,rfl⟩
   rw[<-agF]at OV Zm LD⊢;have E1:=bx OV;have Xa:=yL (P:=prog) (T:=9) underlying9 R nq nq rfl (by omega);have aio:=bx (pg.o (bs (R.drop nq)) wr (by rw[Wu,Px];unfold maxLen;omega) (ain.o.below (SR.o.mono (by have:=Y9.o.size;have:=W1.o;omega))) (by have:=SR.o.size;have:=Y9.o.size;have:=W1.o;omega));have awY:nq+d<=8000:=by rw[<-Zm];omega
   have Bt:=bx Zm;clear OV Zm LD FX agF
   gi_wp2
   refine⟨trivial,aio.o.mono ?_⟩;rintro e YK ⟨rfl,X0⟩;rw[Ky,E1.o];have X6:=Zw SR X0;clear X0 Xa
   gi_wp2
   go_roundw
   ·exact⟨q+1,by omega,PZ (by have:=Bt.o;omega),by go_num,X6⟩
   simp[intOf];omega
  obtain rfl:q=D:=by omega
  have TK:C.av xs (a+q)-Oc=zy-Oc:=by rw[<-JX.o,<-ZR.o]
  rw[TK];obtain⟨Dw,kG⟩:∃Dw,Dw=zy-Oc:=⟨_,rfl⟩
  have VB:=bx kG;rw[<-kG]at vc Gw⊢;obtain⟨X,TM⟩:∃X,X=R.take Dw:=⟨_,rfl⟩
  have Im:=Cq (P:=prog) (T:=9) underlying9 R Dw Dw rfl Gw;rw[<-TM]at vc Im;rw[vc.o]at S0 MN;have iD:=bx (bt Y9.o SR.o);clear TK kG TM
  gi_wp2
  refine wpIn_region_any (by kernel_rfl) ?_;show wpAnyIn _ _ _ _ _ _ _ _ _ wr.drew
  have NV:=bx (show Z6 Tt wr.drew from iD.o.trans ((VQ wr 1).mono iD.o.size));have Am:=agR.ub NV.o;have IF:=aw0.ub NV.o;have p0:=Am.o.q0;have T2:=IF.o.q6;generalize wr.drew=WD at NV Am IF p0 T2⊢;have UB:=Wu RW;have z2:=Wu R;have z3:=ER.o;have z4:=Se.o b;have z5:Oc<=RW.length:=by have:=sq.o 0 (by omega);have:=Se.o a;rw[<-ib.o]at this;exact this
  have avC:=ZY;refine wpAnyIn_take (i:=0) (v:=.func (.yield l) #[] #[]) rfl rfl (by kernel_rfl) (by kernel_rfl) (by kernel_rfl) (λ_ _ _ h=>h) ⟨Or.inl ⟨by kernel_rfl,?_⟩,λ_=>rfl⟩ ?_
  ·intro w;rfl
  refine wpAnyIn_take (i:=6) (v:=.string (bs R)) rfl rfl (by kernel_rfl) (by kernel_rfl) (by kernel_rfl) (λ_ _ _ h=>h) ⟨Or.inl ⟨by kernel_rfl,?_⟩,λ_=>rfl⟩ ?_
  ·intro w;rfl
  refine wpAnyIn_take (i:=7) (v:=Z9 ((bs R).size:Int)) rfl rfl (by kernel_rfl) (by kernel_rfl) (by kernel_rfl) (λ_ _ _ h=>h) ⟨Or.inl ⟨by kernel_rfl,?_⟩,λ_=>rfl⟩ ?_
  ·intro w;go_simp
  refine wpAnyIn_take (i:=9) (v:=.string (bs R)) rfl rfl (by kernel_rfl) (by kernel_rfl) (by kernel_rfl) (λ_ _ _ h=>h) ⟨Or.inl ⟨by kernel_rfl,?_⟩,λ_=>rfl⟩ ?_
  ·intro w;rfl
  refine wpAnyIn_take (i:=10) (v:=Z9 (Dw:Nat)) rfl rfl (by kernel_rfl) (by kernel_rfl) (by kernel_rfl) (λ_ _ _ h=>h) ⟨Or.inl ⟨by kernel_rfl,?_⟩,λ_=>rfl⟩ ?_
  ·intro w;rfl
  refine wpAnyIn_take (i:=11) (v:=.string (bs X)) rfl rfl (by kernel_rfl) (by kernel_rfl) (by kernel_rfl) (λ_ _ _ h=>h) ⟨Or.inl ⟨by kernel_rfl,?_⟩,λ_=>rfl⟩ ?_
  ·intro w;have q1:=Im w;go_simp
  refine wpAnyIn_ready (rs:=[1]) (by kernel_rfl) (by simp) (AllReadyIn.cons rfl (λY7 Xc=>?_) AllReadyIn.nil);have PU:=bx Xc;clear Xc;go_simp;refine PU.o _ _ ?_;clear PU Y7;refine wpAnyIn_ready (rs:=[2]) (by kernel_rfl) (by simp) (AllReadyIn.cons rfl (λY7 Xc=>?_) AllReadyIn.nil);have PU:=bx Xc;clear Xc;go_simp;refine PU.o _ _ ?_;clear PU Y7;refine wpAnyIn_ready (rs:=[3]) (by kernel_rfl) (by simp) (AllReadyIn.cons rfl (λY7 Xc=>?_) AllReadyIn.nil);have PU:=bx Xc;clear Xc;go_simp;refine PU.o _ _ ?_;clear PU Y7;refine wpAnyIn_ready (rs:=[4]) (by kernel_rfl) (by simp) (AllReadyIn.cons rfl (λY7 Xc=>?_) AllReadyIn.nil);have PU:=bx Xc;clear Xc;go_simp;refine PU.o _ _ ?_;clear PU Y7;refine wpAnyIn_ready (rs:=[5]) (by kernel_rfl) (by simp) (AllReadyIn.cons rfl (λY7 Xc=>?_) AllReadyIn.nil);have PU:=bx Xc;clear Xc;go_simp;refine PU.o _ _ ?_;clear PU Y7;refine wpAnyIn_ready (rs:=[8]) (by kernel_rfl) (by simp) (AllReadyIn.cons rfl (λY7 Xc=>?_) AllReadyIn.nil);have PU:=bx Xc;clear Xc;go_simp;refine PU.o _ _ ?_;clear PU Y7;have afH:IntKind.i64.wrap ((RW.length:Int)-((RW.length-Oc:Nat):Int))=(Oc:Int):=by rw[QN];omega
  rw[afH];have Nz:=Wn.o ZV.heap.size _ (Oc,X) Tt WD CY (XJ W1.o NV.o.size) YO.o (Turns.of_below NV.o) ⟨_,S0.o⟩;obtain⟨fn,tmps,assign,body,ZJ,MT⟩:=Nz;have Kz:=bx MT;clear MT p0 T2 UB z2 z3 z4 z5 avC afH;refine wpAnyIn_ready (rs:=[12]) (by kernel_rfl) (by simp) (AllReadyIn.cons rfl (λY7 Xc=>?_) AllReadyIn.nil);have PU:=bx Xc;clear Xc;go_simp;refine Kz.o.mono ?_;rintro e XE (⟨rfl,Oq,Uq⟩|⟨rfl,L7⟩)
  ·have HO:=bx Oq;have XS:=NV.o.size;have NA:=W1.o;have YY:=bx (show Below B WD XE from Uq.below (by omega) (λq Zs=>Nat.le_of_not_lt (λZu=>Zs (.inl ⟨by omega,by omega⟩))));have sd:=bx ((Di.o.below (NV.o.mono (by omega))).below YY.o);have oX:=bx (Uq.blk Am.o (λZP=>ZP (.inl ⟨Aq.o.1,Aq.o.2.2.1⟩)));have M2:=bx (Uq.blk IF.o (λZP=>ZP (.inl ⟨Aq.o.2.1,Aq.o.2.2.2⟩)));have Un:=bx (λi x Z4=>
    (World.cell?_of_block (Uq.block VF (by have:=AI.o.1;omega) (λZP=>ZP (.inr (.inl ⟨AI.o.2,AI.o.1⟩))))).trans ((NV.o.cell (p:=⟨VF,Um+i,none⟩) (by have:=AI.o.1;omega)).trans (xP.o i x Z4)))
   have WT:=bx (XJ (XJ NA XS) Uq.size);have uc:=yL (P:=prog) (T:=9) underlying9 R Dw Dw rfl Gw;have vz:=bx (show R.drop Dw=RW.drop (C.av xs (ns.getD (k+1) 0)) by rw[ZK.o,List.drop_drop,uW.o,<-ZR.o,VB.o];congr 1;have:=s3.o;omega);clear Oq Uq ZJ XS NA Im;refine PU.o _ _ ?_;clear PU Y7;refine wpAnyIn_ready (rs:=[13]) (by kernel_rfl) (by simp) (AllReadyIn.cons rfl (λY7 Xc=>?_) AllReadyIn.nil);have PU:=bx Xc;clear Xc;go_simp;refine PU.o _ _ ?_;clear PU Y7;refine wpAnyIn_done (by kernel_rfl) ?_ _
   gi_wp2
   go_roundw
   ·exact⟨k+1,by omega,by rw[vz.o],by go_num,WT,sd,oX,M2,Un,by rw[MN.o];exact HO⟩
   simp[intOf];omega
  have MB:=bx L7;clear L7 ZJ Im;refine PU.o _ _ ?_;clear PU Y7;refine wpAnyIn_ready (rs:=[13]) (by kernel_rfl) (by simp) (AllReadyIn.cons rfl (λY7 Xc=>?_) AllReadyIn.nil);have PU:=bx Xc;clear Xc;go_simp;refine PU.o _ _ ?_;clear PU Y7;refine wpAnyIn_done (by kernel_rfl) ?_ _
  gi_wp2
  rw[Exit.noGoto_normal]
  go_end0
  exact⟨⟨_,rfl⟩,.inr ⟨_,_,MB.o⟩⟩
 obtain rfl:k+1=Q:=by omega
 have KD:=bx (show(C.items xs ns).take k=C.items xs ns from SU (by rw[C.c9,Xy.o];omega));rw[KD.o]at YO;have la:decide (k<k+1-1)=false:=Yp (by omega);have aww:decide ((k:Int)<((k+1-1:Nat):Int))=false:=Yp (by omega)
 gi_wp2
 rw[Exit.noGoto_normal]
 go_end0
 exact⟨⟨_,rfl⟩,.inl ⟨_,_,rfl,YO.o⟩⟩
section
open Go.Shelf
theorem aak{P:Program}{F:Fence}{ahD:Nat}{ops:Array Oper}{rest:List Oper}{o:Oper}{a:Act}{Q:Exit->Act->World->Prop}{YR:World}(Uz:o.guard=none)(s x:Operand)(t:TypeId)(YT:o.op=.call {callee:=.builtin .append,args:=#[s,x],argTypes:=#[t,t]}){base:Nat}{e te:TypeId}{bytes:Nat}(TU:Pushes P t e bytes){ps:List Pc}(hS:Sep ps YR)(k:Nat){v u:Value}{n:Nat}{xs:List Value}(Z3:ps[k]?=some (Pc.row base e 1 v n xs))(Z0:a.eval s=v)(Z4:a.eval x=.slice (some ⟨YR.heap.size,0,none⟩) 1 1)(_:u.oneCell'=true)(_:n<=1000000000)(P6:bytes<=1000)(_:base<=YR.heap.size)(h:∀Zy w',Sep (ps.set k (Pc.row base e 1 Zy (n+1) (xs++[u]))) w'->(∃g c,Zy=.slice (some ⟨g,0,none⟩) (n+1) c/\n+1<=c/\c<=9223372036854775807)->Turns (λq=>v.ownBlock=some q) YR w'->(Zy.ownBlock=v.ownBlock\/Zy.ownBlock=some (YR.heap.size+1))->wpListIn F ahD P ops Q rest (a.put o.dst Zy) w'):
  wpListIn F ahD P ops Q (o::rest) a (YR.alloc (.cells #[u] te)):=by
 obtain⟨i,z,ZM,hi,Vs,Up,Vf,PF⟩:=TU.o;have Z8:(n+1)*bytes<=1000000001*1000:=IA (by omega) P6;refine wpListIn_append_own_at _ Uz s x t YT base e i z 1 bytes ZM hi Vs Up Vf PF (by decide) v n xs Z0 ((hS.row k Z3).alloc _) ⟨YR.heap.size,0,none⟩ 1 1 [u] Z4 rfl (cell_one_new _ _ _) (by grind) (by grind[maxLen]) (by omega) (by simp;omega) ?_;intro Zy w' Wo UN _ MK
 have LM:=(hS.alloc (.cells #[u] te)).grow k Z3 UN Wo (by
  grind)
 refine h Zy w' LM ?_ ((Turns.alloc YR (.cells #[u] te)).trans (CH UN (λ_ Zs=>Zs))) (by simp_all)
 rcases Wo.2 with⟨_,Z5⟩|⟨g,ZU,VY,Z5,_,_,ZS,ZG,_⟩
 ·omega
 grind[maxLen]
theorem auq{w:World}{base BU n s:Nat}{e:TypeId}{v:Value}{xs:List Value}(h:w.ownsRow base e s v n xs)(Z8:BU<=base):w.ownsRow BU e s v n xs:=
 ⟨h.1,h.2.imp id λ⟨g,ZU,VY,Z7,Z5,ZS⟩=>⟨g,ZU,VY,Z7,XJ Z8 Z5,ZS⟩⟩
def Lf(VZ:Nat)(W0:World)(v:Value)(l:List (List UInt8)):List Pc:=Pc.blk VZ 49 #[v]::Sd VZ W0 v l
theorem mP{VZ:Nat}{W0 W W':World}{v:Value}{l:List (List UInt8)}{own:Nat->Prop}(h:Sep (Lf VZ W0 v l) W)(ZM:Turns own W W')(Z7:¬own VZ)(Z5:∀g,v.ownBlock=some g->¬own g)(ZS:∀k,k<VZ->¬own k):Sep (Lf VZ W0 v l) W':=h.keep ZM (λ_ hp k Z3=>by
 unfold Lf Sd at hp;simp only[T7,J0,or_false]at hp
 rcases hp with rfl|rfl|rfl
 ·rw[show k=VZ from Z3];exact Z7
 ·exact Z5 k Z3
 exact ZS k Z3)
theorem adL(A:Nat->Addr)(B:Nat)(v:Value)(t:Tab)(s:ByteArray)(w:World)(Z2:TabAt w v t)(Z0:Sr t)(_:s.size<=800)(YN:E A B w)(XU:Ed A B w)(Vg:Eg A B w)(hB:B<=w.heap.size)(he:Vn t s.data.toList=0):
  Calls prog 34 #[v,.string s] w λe w'=>(∃Zy,e=.returned (.tuple #[Zy,Z9 0])/\w'.ownsRow w.heap.size 9 1 Zy (C.ae t s.data.toList).length ((C.ae t s.data.toList).map Vu))/\Z6 w w':=by
 have VE:=bx (λW(h:Z6 w W)=>Z2.below h);obtain⟨pi,YM,Y2,Zo,Za,rfl,Z7,Z5,ZS,ZG,Zi⟩:=Z2;obtain⟨V,ZO⟩:∃V,V=w.alloc (.cells #[Z9 t.n,pi,YM,Y2,Zo,Za] 31):=⟨_,rfl⟩
 have ZR:=bx (aB ZO);have Ze:=bx (aK ZO);have ZF:=bx (λW(h:Z6 V W)=>Ze.o.d6 h);have ZN:=bx ZO;have R1:=bx Z0;have US:=bx (λW(h:Z6 w W)=>show E A B W/\Ed A B W/\Eg A B W/\B<=W.heap.size from⟨YN.below (h.mono hB),XU.below (h.mono hB),Vg.below (h.mono hB),XJ hB h.size⟩);have X9:=bx (nC A B _ t s V (VE.o V ZR.o) Z0 (by omega) (US.o V ZR.o).1 (US.o V ZR.o).2.1 (US.o V ZR.o).2.2.1 (US.o V ZR.o).2.2.2 he);have GM:=bx (λW(h:Z6 w W)=>show TQ W Y2 t.r/\Oh W (.agg #[Zo,Za]) t.m from⟨ZS.below h,Zo,Za,rfl,ZG.below h,Zi.below h⟩);have Wg:=bx (show(T5 t.p (Xw s.data.toList)).length<=900 by unfold T5;rw[X4];have:=OO s.data.toList;grind[size_eq]);have JF:=bx (show OI t.r t.m t.n=true by
  have h:=(vX he).1;grind[Td])
 have Ll:=bx (show KI t.r t.m t.n.toNat (T5 t.p (Xw s.data.toList))=(Wc t s.data.toList).map (λn:Nat=>(n:Int))from(QR t s.data.toList).1);have Xx:=bx (QR t s.data.toList).2;have OA:=bx (IC s.data.toList);have Mi:=bx (C.cg s.data.toList);have Se:=bx (show(M.fix s.data.toList).length<=8000 by have:=C.ba s.data.toList;grind[size_eq]);have VO:=bx (show(C.items (Xw s.data.toList) (Wc t s.data.toList)).map (·.2)=C.ae t s.data.toList by
  simp_all[C.items,C.ae,C.pieces])
 have Iz:=bx (show(C.items (Xw s.data.toList) (Wc t s.data.toList)).length<=1000000 by
  rw[C.c9];have Z7:=(QR t s.data.toList).2.len;have Z5:=OO s.data.toList;grind[size_eq])
 clear Z7 Z5 ZS ZG Zi ZO Z0 he YN XU Vg hB;obtain⟨Yk,ZP⟩:∃n,n=t.n:=⟨_,rfl⟩
 rw[<-ZP]at ZN Ze VE ZF X9 JF Ll⊢;clear ZP;obtain⟨Zd,Zx,Zr,Zk,Zl,Zg,YS⟩:=ZF.o V YU;refine(callsIn_wide (n:=9)).1 (callsIn_of_wp_marks func34 rfl trivial (wpIn_wide.2 ?_));simp only[ntmps34,My,U3,SK,Nat.reduceAdd,Nat.reduceSub,Mu,Mg,Og,Mo,RQ,SI]
 go_upto_region 1 with(fail)
 rw[<-ZN.o];go_wp2_with fail;refine X9.o.mono ?_;rintro e ZV ⟨E5,Ew,Eu,EU,Fs,VU,Yd,FA,rfl,XY,BH,ZZ⟩;obtain⟨rfl,rfl,rfl,rfl,rfl⟩:pi=E5/\YM=Ew/\Y2=Eu/\Zo=EU/\Za=Fs:=by grind
 have WH:=bx XY;have oY:=bx BH;have ZW:=Zw ZR ZZ;clear FA XY BH ZZ Zd Zx Zr Zk Zl Zg YS;go_wp2_with fail;refine YW (acJ _ _) ?_;go_wp2_with fail;have XI:=bx (show Sep (Pc.blk (ZV.heap.size+1) 142 #[Zn VU]::Lf ZV.heap.size ZV Z1 []) ((ZV.alloc (.cells #[Z1] 49)).alloc (.cells #[Zn VU] 142)) by
  have h:=((Sep.start ZV).ak 49 #[Z1]).aH ZV.heap.size 1 9;have Z5:=(Sep.perm (List.Perm.swap _ _ _) h).ak 142 #[Zn VU];rw[World.size_alloc]at Z5;exact Z5)
 have JD:((ZV.alloc (.cells #[Z1] 49)).alloc (.cells #[Zn VU] 142)).heap.size=ZV.heap.size+2:=by simp
 generalize(ZV.alloc (.cells #[Z1] 49)).alloc (.cells #[Zn VU] 142)=Xs at XI JD⊢;have Wy:=bx JD;have XW:=bx (show Z6 ZV Xs from XI.o.tail.bel (n:=ZV.heap.size) (W0:=ZV) (by simp[Lf,Sd]));have YA:=bx (bt ZW.o XW.o);have pU:=WH.o.lt;have rv:=ZW.o.size;have pe:=bx (US.o ZV ZW.o).2.2.2;refine(wpIn_wide (n:=9)).1 (qL (α:=Nat×List UInt8) (gf:=157) (lb:=#[Zn (ZV.heap.size+1)]) rfl (enters_of func157 (by rfl) rfl)
  (encs:=λx:Nat×List UInt8=>#[Z9 (x.1:Int),.string (bs x.2)]) (own:=λ_=>False) (keep:=λk=>k<Xs.heap.size/\k≠ZV.heap.size) (ok:=λZC x _=>∃rest,C.items (Xw s.data.toList) (Wc t s.data.toList)=ZC++x::rest) (S:=λVi _=>Vi=C.items (Xw s.data.toList) (Wc t s.data.toList))
  (λk Z3=>by grind)
  (λYH ZM=>by
   have RI:=ZM.below Ys (λ_ h=>h.elim);have Vt:=bt YA.o RI;have Af:=bt XW.o RI;have hcut:=l7 A B VU Yk pi YM Y2 Zo Za (.string (bs (M.fix s.data.toList))) Yd t.r t.m _ YH (WH.o.below Af WH.o.lt) (GM.o YH Vt).1 R1.o.r1 R1.o.r2 (GM.o YH Vt).2 R1.o.m (oY.o.below Af) Wg.o (US.o YH Vt).2.1 (US.o YH Vt).2.2.1 (US.o YH Vt).2.2.2 JF.o;rw[Ll.o]at hcut;exact acU 7 A B ZV.heap.size Xs.heap.size (ZV.heap.size+1) VU _ _ _ _ _ _ _ _ _ _ _ YH ZM.size pe.o (by omega) (US.o YH Vt).1 ((XI.o.blk 0 rfl).below RI (XI.o.blk 0 rfl).lt) (WH.o.below Af WH.o.lt) ⟨by omega,by omega,by omega,by omega⟩ hcut Mi.o OA.o Xx.o Se.o)
  (λ_=>rfl)
  (λWw ZC W=>∃v,Sep (Lf ZV.heap.size ZV v (ZC.map (·.2))) W/\(∀g,v.ownBlock=some g->Ww<=g)/\Xs.heap.size+2<=Ww)
  (λ_ _ _ _=>False) ?UW (λ_ _ _ _ _ h _=>h) (λ_ _ _ _ h _=>h) (λWw h=>⟨Z1,XI.o.tail,λg ZH=>(by cases ZH),h⟩)
  (λx a1 W=>a1={tmps:=#[.agg #[Z9 Yk,pi,YM,Y2,Zo,Za],.string s,Zn (w.heap.size),undef,Z1,Z9 0,Zn VU,.nilIface,Zn (ZV.heap.size),undef,.string (bs x.2),.tuple #[Zn VU,.nilIface],.agg #[Z9 Yk,pi,YM,Y2,Zo,Za],.string s,.tuple #[Zn VU,.nilIface],Zn VU,.nilIface,.nilIface,.bool false,undef,undef,Zn VU,.func (.func 157) #[] #[Zn (ZV.heap.size+1)],Z9 (x.1:Int),.string (bs x.2),undef,undef,undef,undef,undef],defers:=[]})
  (λ_ _ _ _ h _=>h) ?assign ?body ?done (λ_ _ _ _ _ h _=>h.elim) (λ_ _ _ h _=>h))
 case UW=>
  rintro Ww ZC W W' ⟨v,Z7,Z5,ZS⟩ ZM;exact⟨v,mP Z7 ZM (by grind) (λg ZH=>by grind) (λk Z3=>by grind),Z5,ZS⟩
 case assign=>
  intro x W K Yj Xc
  gi_wp2
  exact Xc _ _ (Turns.refl _ _) rfl
 case body=>
  rintro Ww ZC x a1 W0 W N xS GZ um ⟨v,Z7,Z5,ZS⟩ ZM Zp ⟨rest,YB⟩ rfl;have FS:=ZM.size;have F0:=λg ZH=>((Z7.row 1 rfl).lt g ZH).2
  have PD:=bx (mP Z7 ZM (by grind) (λg ZH=>by grind) (λk Z3=>by grind));have Q2:=bx (λg ZH=>show Ww<=g/\g<W0.heap.size from⟨Z5 g ZH,F0 g ZH⟩);have YV:=(PD.o.blk 0 rfl).q0;have f0:=(PD.o.blk 0 rfl).frozen 0;have S4:=(PD.o.blk 0 rfl).lt;have Kb:(ZC.map (·.2)).length<=1000000000:=by
   have h:=Iz.o;grind
  have PS:=bx YB;have aiS:=bx ZM;clear Z7 Z5 ZM YB F0
  gi_wp2_with (gi_at_builtin;refine aak (u:=Vu x.2) rfl _ _ 49 rfl Iy PD.o 1 rfl rfl rfl rfl Kb (by omega) (by omega) ?_;rintro Zy Zh Ri ⟨Ui,EP,rfl,-,-⟩ B8 uX;have WT:=bx Ri;have NH:=bx B8;have pm:=bx uX;have c3:=(Ri.blk 0 rfl).q0;have f3:=(Ri.blk 0 rfl).frozen 0;have Ez:=(Ri.blk 0 rfl).lt;clear Ri B8 uX)
  have Yo:=(NH.o.mono (own':=λk=>v.ownBlock=some k\/k=ZV.heap.size) (λk h=>Or.inl h)).trans ((Turns.setCell (own:=λq=>q=ZV.heap.size) Zh (p:=⟨ZV.heap.size,0,none⟩) rfl (.slice (some ⟨Ui,0,none⟩) (ZC.length+1) EP)).mono (λk h=>Or.inr h));refine⟨Yo.mono (λk Z3 _=>?_),.slice (some ⟨Ui,0,none⟩) ((ZC.map (·.2)).length+1) EP,?_,λg ZH=>?_,ZS⟩
  ·rcases Z3 with Z3|Z3
   ·have WK:=Q2.o k Z3
    omega
   omega
  ·have h:=WT.o.set 0 rfl 0 (.slice (some ⟨Ui,0,none⟩) (ZC.length+1) EP);have e:(ZC++[x]).map (·.2)=ZC.map (·.2)++[x.2]:=by simp
   rw[e];unfold Lf Sd;rw[WR,T9];simp only[X4,U3,SK]at h⊢;exact h
  rcases pm.o with h|h
  ·rw[h]at ZH;exact(Q2.o g ZH).1
  grind
 case done=>
  intro Ww xs W Yj hS ⟨v,Z7,Z5,ZS⟩ XU;have YV:=(Z7.blk 0 rfl).q0;have Xf:=bx XU;have TW:=bx (show Sep (Lf ZV.heap.size ZV v (C.ae t s.data.toList)) W by
   rw[<-VO.o,<-hS];exact Z7)
  have U5:=bx Z5;clear Z7 Z5 XU hS;go_wp2_with fail;refine⟨by simp,.inl ⟨_,_,rfl,run_takeDeferred Xf.o,?_⟩⟩;refine⟨_,results_tmp2 rfl _ _ _,?_⟩;have GE:=Turns.putObj (own:=λk=>k=Xs.heap.size) W rfl (.deferred none);have ON:=mP TW.o GE (by omega) (λg ZH=>by have:=U5.o g ZH;omega) (λk Z3=>by omega);exact⟨⟨v,rfl,auq (ON.tail.row 0 rfl) (by omega)⟩,ZW.o.trans ((ON.tail.bel (n:=ZV.heap.size) (W0:=ZV) (by simp[Sd])).mono ZW.o.size)⟩
theorem auo(A:Nat->Addr)(B:Nat)(v:Value)(t:Tab)(s:ByteArray)(w:World)(Z2:TabAt w v t)(Z0:Sr t)(ZY:s.size<=800)(YN:E A B w)(XU:Ed A B w)(Vg:Eg A B w)(hB:B<=w.heap.size)(he:Vn t s.data.toList=0):
  Calls prog 34 #[v,.string s] w λe w'=>(∃Zy,e=.returned (.tuple #[Zy,Z9 0])/\XC w' Zy (C.ae t s.data.toList)/\∀g,Zy.ownBlock=some g->w.heap.size<=g)/\Z6 w w' :=
 (adL A B v t s w Z2 Z0 ZY YN XU Vg hB he).mono (by rintro e w' ⟨⟨Zy,rfl,h⟩,Z8⟩;exact⟨⟨Zy,rfl,XC.au h rfl,λg ZH=>(h.lt g ZH).1⟩,Z8⟩)
end
theorem ajq(p:Option Addr)(c:List UInt8)(w:World):
  Calls prog 145 #[.pointer p,.string (bs c)] w λe w'=>e=.returned (Z9 (c.length:Int))/\w=w':=by
 have LP:=bx (Wu c)
 go_in
 go_wp2
 go_ret
 exact⟨SJ (by rfl),rfl⟩
theorem atL(p:Option Addr)(c:List UInt8)(w:World)(ZL:1<=c.length):
  Calls prog 146 #[.pointer p,.string (bs c)] w λe w'=>e=.returned (Z9 1)/\w=w':=by
 have LP:=bx (Wu c);have Yq:=bx ZL;clear ZL
 go_in
 go_wp2
 go_ret
 exact⟨SJ (by rw[LP.o];have:=Yq.o;omega),rfl⟩
theorem aqs(A:Nat->Addr)(B Ya hm:Nat)(pi YM Y2 Zo Za ZD bv:Value)(g:C.Ga)(c:List UInt8)(xs:List Int)(w:World)(Xv:Mt w Ya hm pi YM Y2 Zo Za ZD bv g)(hw:Pp g.w)(Z8:C.aA g=true)(Z4:U.scalars c=some xs)(ZY:c.length<=8000)(YN:E A B w)(hB:B<=w.heap.size):
  Calls prog 147 #[Zn Ya,.string (bs c)] w λe w'=>e=.returned (Z9 (C.aq g.w xs))/\Z6 w w':=by
 have TJ:=bx (aeC A B (.agg #[ZD,bv,.bool g.w.wide]) g.w c xs w Xv.wid hw (C.dS Z8).2.1 Z4 ZY YN hB);have Z3:=Xv.blk;generalize g.t.n=Yk at Z3;generalize C.aq g.w xs=res at TJ⊢;generalize g.w.wide=wd at Z3 TJ;generalize g.k=gk at Z3;have Ov:=Z3.q6;have Nn:=Z3.q7;have HC:=Z3.q8;have YJ:=Z3.lt;clear Xv hw Z8 Z4 YN hB Z3
 go_in
 go_wp2_with fail;refine Y3 TJ.o λ_ ZZ=>?_
 have ZW:=bx ZZ;clear ZZ Ov Nn HC YJ
 go_wp2
 go_ret
 exact⟨rfl,ZW.o⟩
theorem gN(A:Nat->Addr)(B Ya hm:Nat)(pi YM Y2 Zo Za ZD bv:Value)(g:C.Ga)(s:ByteArray)(w:World)(Xv:Mt w Ya hm pi YM Y2 Zo Za ZD bv g)(Z0:Sr g.t)(Z8:C.aA g=true)(ZY:s.size<=800)(YN:E A B w)(XU:Ed A B w)(Vg:Eg A B w)(hB:B<=w.heap.size):
  Calls prog 96 #[Zn Ya,.string s] w λe w'=>(∃Zy,e=.returned Zy/\XC w' Zy (C.ae g.t s.data.toList)/\∀q,Zy.ownBlock=some q->w.heap.size<=q)/\Z6 w w':=by
 have TJ:=bx (auo A B (.agg #[Z9 g.t.n,pi,YM,Y2,Zo,Za]) g.t s w Xv.tab Z0 ZY YN XU Vg hB (C.bY Z8 (by grind[size_eq])));have Z3:=Xv.blk;generalize C.ae g.t s.data.toList=YJ at TJ⊢;generalize g.t.n=Yk at Z3 TJ;generalize g.w.wide=wd at Z3;generalize g.k=gk at Z3;have YV:=Z3.q0;have c1:=Z3.q1;have c2:=Z3.q2;have c3:=Z3.q3;have VG:=Z3.q4;have Wv:=Z3.q5;have li:=Z3.lt;clear Xv Z0 Z8 YN XU Vg hB Z3 ZY
 go_in
 go_wp2_with fail;refine TJ.o.mono ?_;rintro e ZV ⟨⟨v1,rfl,WV,MH⟩,ZZ⟩;have ZW:=bx ZZ;have VD:=bx WV;have GI:=bx MH;clear ZZ WV MH YV c1 c2 c3 VG Wv li
 go_wp2
 go_ret
 exact⟨⟨_,rfl,VD.o,GI.o⟩,ZW.o⟩
theorem at2(p:Option Addr)(s:ByteArray)(w:World):
  Calls prog 149 #[.pointer p,.string s] w λe w'=>e=.returned (.func (.func 234) #[] #[Zn (w.heap.size),Zn (w.heap.size+1)])/\(w.alloc (.cells #[.pointer p] 118)).alloc (.cells #[.string s] 9)=w':=by
 go_in
 go_wp2
 go_ret
 simp
namespace C
def sums(g:Ga)(ls:List (List Int)):List (Nat×Int):=(List.range ls.length).map λi=>(i+1,aj g ls (i+1))
theorem eK(g:Ga)(ls:List (List Int)):(sums g ls).length=ls.length:=by simp[sums]
theorem aee(g:Ga)(ls:List (List Int)){i:Nat}(_:i<ls.length):(sums g ls)[i]?=some (i+1,aj g ls (i+1)):=by
 grind[sums]
theorem aqn(g:Ga)(ls:List (List Int)){i:Nat}(h:i<ls.length):sums g ls=(sums g ls).take i++(i+1,aj g ls (i+1))::(sums g ls).drop (i+1):=by
 have hl:i<(sums g ls).length:=by grind[eK]
 have e:=H9 (l:=sums g ls) (i:=i) hl;have YP:=aee g ls h;rw[SA hl]at YP;injection YP with YP;rw[YP]at e;rw[<-e];simp
theorem ac6(g:Ga)(ls:List (List Int)){i:Nat}(h:i<ls.length):(sums g ls).take (i+1)=(sums g ls).take i++[(i+1,aj g ls (i+1))]:=by
 rw[Uo,aee g ls h]
 rfl
end C
theorem Ah{t:Tab}{s:ByteArray}(_:s.size<=800):∀y∈C.ab t s.data.toList,U.scalars (U.textOf y)=some y/\1<=(U.textOf y).length/\(U.textOf y).length<=8000:=by
 intro y ZJ;have ZT:=(QR t s.data.toList).2;unfold C.ab at ZJ;obtain⟨i,hi,rfl⟩:=SL.1 ZJ;have QZ:i+1<(Wc t s.data.toList).length:=by
  grind
 have Z7:=C.arH (IC s.data.toList) (Wc t s.data.toList) i;have Z5:=C.aua (xs:=Xw s.data.toList) ZT QZ;have ZS:=C.eB (xs:=Xw s.data.toList) ZT QZ;have ZG:=C.cJ (xs:=Xw s.data.toList) (ns:=Wc t s.data.toList) QZ;rw[<-C.cg]at ZG;have Zi:=C.ba s.data.toList;grind[C.piece,size_eq]
theorem atz(g:C.Ga)(y:List Int)(_:(U.textOf y).length<=8000):C.meas g y<=8000:=by
 have Z7:=(C.eu g.w y).2;grind[C.meas]
theorem aeV{g:C.Ga}{ls:List (List Int)}(h:∀y∈ls,(U.textOf y).length<=8000):∀k,k<=ls.length->C.aj g ls k<=8000*(k:Int)
 |0,_=>by simp[C.fK]
 |k+1,Z3=>by
  have XZ:=aeV (g:=g) h k (by omega);obtain⟨y,ZJ⟩:=Yg ls k (by omega);have Z7:=C.dQ g ls ZJ;have Z5:=atz g y (h y (Xh ZJ));omega
theorem sK{g:C.Ga}{ls:List (List Int)}(_:ls.length<=1000)(h:∀y∈ls,(U.textOf y).length<=8000)(k:Nat)(Z3:k<=ls.length):C.aj g ls k<=8000000:=by
 have:=aeV (g:=g) h k Z3;omega
theorem l6(Ya:Nat):E3 #[N0 Ya,Nx Ya,MY Ya]:=by
 intro x Z4;simp only[T7,J0,or_false]at Z4
 rcases Z4 with rfl|rfl|rfl <;> exact⟨_,rfl⟩
theorem arp(n:Nat)(A:Nat->Addr)(B VZ GQ ahO Ya hm:Nat)(pi YM Y2 Zo Za ZD bv:Value)(g:C.Ga)(s:ByteArray)(ls:List (List Int))(l:Nat)(W0 YH:World)(xD:W0.heap.size=VZ)(ut:Below VZ W0 YH)(YN:E A B W0)(XU:Ed A B W0)(Vg:Eg A B W0)(hB:B<=VZ)(Xv:Mt W0 Ya hm pi YM Y2 Zo Za ZD bv g)(Z0:Sr g.t)(hw:Pp g.w)(Z8:C.aA g=true)(ZY:s.size<=800)(LF:Zv YH GQ 118 #[Zn Ya])(agY:Zv YH ahO 9 #[.string s])(Ka:C.ab g.t s.data.toList=ls):
  sN (n+1) prog 234 #[Zn GQ,Zn ahO] (λx:Nat×Int=>#[Z9 (x.1:Int),Z9 x.2]) (λ_=>False) (λk=>k<VZ\/k=GQ)
   (λZC x _=>∃rest,C.sums g ls=ZC++x::rest) (λVi _=>Vi=C.sums g ls) l YH:=by
 intro J PL Pj Gb VX ZI;have Wn:=bx VX;have HI:=bx ZI;have TE:=bx Pj;have OF:=bx (λW(h:Below VZ W0 W)=>gN A B Ya hm pi YM Y2 Zo Za ZD bv g s W (Xv.below (by grind)) Z0 Z8 ZY (YN.below (h.mono hB)) (XU.below (h.mono hB)) (Vg.below (h.mono hB)) (XJ hB (by rw[<-xD];exact h.size)));have TJ:=bx (show C.ae g.t s.data.toList=ls.map U.textOf by grind[C.e4,C.bd,size_eq]);have rY:=bx (show∀y∈ls,U.scalars (U.textOf y)=some y/\1<=(U.textOf y).length/\(U.textOf y).length<=8000 from λy ZJ=>by
  subst Ka;exact Ah ZY y ZJ)
 have RE:=bx (show ls.length<=1000 by
  rw[<-Ka,C.cD];have Z7:=(QR g.t s.data.toList).2.len;have Z5:=OO s.data.toList;grind[size_eq])
 have amR:=bx (show∀k,k<=ls.length->0<=C.aj g ls k/\C.aj g ls k<=8000000 from λk Z3=>⟨C.di g ls k,sK RE.o (λy ZJ=>(rY.o y ZJ).2.2) k Z3⟩);have akK:=bx (λ(y:List Int)(ZJ:y∈ls) W (h:Below VZ W0 W)=>aqs A B Ya hm pi YM Y2 Zo Za ZD bv g (U.textOf y) y W (Xv.below (by grind)) hw Z8 (rY.o y ZJ).1 (rY.o y ZJ).2.2 (YN.below (h.mono hB)) (XJ hB (by rw[<-xD];exact h.size)));have i7:=bx (show g.k=0\/g.k=1\/g.k=2 by have:=C.dS Z8;omega);have yH:=bx (λW(h:Below VZ W0 W)=>Xv.below (w':=W) (by grind));obtain⟨Q,VI⟩:∃Q,ls.length=Q:=⟨_,rfl⟩
 have Xy:=bx VI;have Cx:Q<=1000:=by rw[<-VI];exact RE.o
 have afc:=bx ut;have zn:=bx xD;have ake:=bx LF;have p0:=LF.q0;have p1:=agY.q0;have Yq:=bx ((callsIn_wide (n:=n)).2 (OF.o YH ut));clear VX ZI Pj Gb YN XU Vg Xv Z0 hw Z8 LF agY Ka VI;refine callsIn_of_wp func234 rfl trivial ?_;simp only[ntmps234,My,U3,SK,Nat.reduceAdd,Nat.reduceSub,Mu,Mg,Og,Mo,RQ,SI]
 gi_wp2
 refine wpIn_wide.2 (wp_scope_straight ((wpIn_wide (n:=n+1)).1 ?_))
 gi_wp2
 refine wpIn_label ?_
 gi_wp2
 refine⟨trivial,Yq.o.mono ?_⟩;rintro e ZV ⟨⟨v1,rfl,WV,MH⟩,ZZ⟩;rw[TJ.o]at WV;have VD:=bx WV;have GI:=bx MH;obtain⟨Yr,lc,rfl,-⟩:=WV.slice;rw[X4,Xy.o]at VD GI⊢;have QL:=bx ZZ;have CY:=ZZ.size;have ZW:=bx (afc.o.trans (ZZ.mono (by have:=afc.o.size;omega)));have G9:=ake.ub ZZ;have Fv:=bx (TE.o ZV.heap.size [] YH ZV (HI.o ZV.heap.size ZZ.size) (Turns.of_below ZZ));clear WV MH ZZ p0 p1
 gi_wp2
 obtain⟨VF,Um,PH,Tg⟩:∃VF Um,(0<Q->Yr=some ⟨VF,Um,none⟩/\Q<=lc/\lc<=maxLen)/\∀(i:Nat)(x:List UInt8),(ls.map U.textOf)[i]?=some x->VF<ZV.heap.size/\YH.heap.size<=VF/\VF<ZV.heap.size/\ZV.cell? ⟨VF,Um+i,none⟩=some (.string (bs x)):=by
  by_cases ZI:Q=0
  ·refine⟨0,0,λh=>absurd h (by omega),λi x Z4=>?_⟩;have WK:=(R7 Z4).1;rw[X4,Xy.o]at WK;omega
  obtain⟨b,off,ZU,Zq,YP,Yb,WW,VK⟩:=VD.o.get (by intro h;have WK:=congrArg List.length h;rw[X4,Xy.o,SK]at WK;omega);rw[X4,Xy.o]at Zq YP;injection Zq with f1 f2 f3;subst f1 f3;exact⟨b,off,λ_=>⟨rfl,YP,Yb⟩,λi x Z4=>⟨WW,GI.o b rfl,WW,VK i x Z4⟩⟩
 have RP:=bx PH;have M4:=bx Tg;clear PH Tg
 gi_loopw [4,11] (λHj ZD wr=>∃k:Nat,k<=Q/\Hj=Z9 (C.aj g ls k)/\ZD=Z9 k/\Box (ZV.heap.size<=wr.heap.size)/\Box (Below VZ W0 wr)/\Box (Zv wr GQ 118 #[Zn Ya])/\
  Box (∀(i:Nat)(x:List UInt8),(ls.map U.textOf)[i]?=some x->VF<wr.heap.size/\YH.heap.size<=VF/\VF<ZV.heap.size/\wr.cell? ⟨VF,Um+i,none⟩=some (.string (bs x)))/\Box (J ZV.heap.size ((C.sums g ls).take k) wr)) (λ_ ZD _=>Q-(intOf ZD).toNat)
 ·exact⟨0,OQ _,by rfl,rfl,⟨Wq _⟩,ZW,G9,M4,by grind⟩
 obtain⟨k,Z3,rfl,rfl,W1,Xk,LF,xP,YO⟩:=hrel;obtain⟨Tt,rfl⟩:∃W,W=wr:=⟨_,rfl⟩
 by_cases Zu:k<Q
 ·obtain⟨y,ZJ⟩:=Yg ls k (by rw[Xy.o];omega);obtain⟨rfl,Sv,Ni⟩:=RP.o (by omega);have UT:=xP.o k (U.textOf y) (by grind);have Ua:=UT.2.2.2;have V9:=UT.1;have zE:=rY.o y (Xh ZJ);have I5:=zE.2.1;have Pq:=bx (λW(h:Z6 Tt W)=>akK.o y (Xh ZJ) W (Xk.o.trans (h.mono (by have:=Xk.o.size;omega))));have S0:=bx (C.aqn g ls (i:=k) (by grind));have MN:=bx (C.ac6 g ls (i:=k) (by grind));have Xb:=bx (C.dQ g ls ZJ);have PD:=bx (amR.o (k+1) (by grind));obtain⟨Gg,EN⟩:∃S,S=C.aj g ls k:=⟨_,rfl⟩
  obtain⟨HE,Pz⟩:∃S,S=C.aj g ls (k+1):=⟨_,rfl⟩
  have V0:=bx Pz;rw[<-EN,<-Pz]at Xb;rw[<-Pz]at PD S0 MN;rw[<-EN];have IQ:=bx (λW(h:Z6 Tt W)=>show ZQ W GQ 0=some (Zn Ya)/\ZQ W Ya 10=some (.map (some hm))/\ZQ W Ya 9=some (Z9 g.k)/\W.heap[hm]?=some (.map #[N0 Ya,Nx Ya,MY Ya] 3)from by
   have kL:=yH.o W (Xk.o.trans (h.mono (by have:=Xk.o.size;omega)));exact⟨(LF.o.below h LF.o.lt).q0,kL.blk.q10,kL.blk.q9,kL.how⟩)
  have la:decide ((k:Int)<(Q:Int))=true:=Yh (by omega);unfold maxLen at Ni;clear ZJ UT zE EN Pz
  gi_wp2
  clear Ua V9;refine wpIn_wide.2 ?_
  rcases i7.o with VS|VS|VS
  focus
   have sT:=bx VS;have Uu:=bx (show C.meas g y=((U.textOf y).length:Int) by grind[C.meas]);have F7:IntKind.i64.wrap (Gg+((U.textOf y).length:Int))=HE:=by
    have hS:=Xb.o;rw[Uu.o]at hS;rw[QN];have:=PD.o;omega
   have U2:=bx (λW(h:Z6 Tt W)=>show ZQ W GQ 0=some (Zn Ya)/\ZQ W Ya 10=some (.map (some hm))/\ZQ W Ya 9=some (Z9 0)/\W.heap[hm]?=some (.map #[N0 Ya,Nx Ya,MY Ya] 3)from by
    obtain⟨a1,a2,a3,a4⟩:=IQ.o W h;grind)
   have Oz:=bx (λW(h:W.heap[hm]?=some (.map #[N0 Ya,Nx Ya,MY Ya] 3))=>show(Instr.lookup 203 (.map (some hm)) (Z9 0) false).run prog W=.ok (N0 Ya).val W from mT underlying203 underlying3 W _ 3 0 hm h (l6 Ya) .nilFunc (by rfl));simp only[N0]at Oz;have YF:=bx (U2.o Tt.drew (VQ Tt 1));have Y9:=bx (show Z6 Tt Tt.drew from VQ Tt 1);clear VS;refine Vv 14 (λW'=>ZQ W' GQ 0=some (Zn Ya)/\ZQ W' Ya 10=some (.map (some hm))/\ZQ W' Ya 9=some (Z9 0)/\W'.heap[hm]?=some (.map #[N0 Ya,Nx Ya,MY Ya] 3)) (by rfl) ?_;generalize Tt.drew=Yl at YF Y9⊢;refine Vp [0,1,2,3,4,5,6,7,8,9,10,11] ?_
   iterate 12 (refine Vq ?_ rfl YF.o ?_ ?_;rotate_left;·rintro w ⟨q1,q2,q3,q4⟩;have Ug:=Oz.o w q4;go_simp;try with_reducible rfl)
   refine Vr ?_;refine Y1 12 rfl λY7 ZX=>?_
   go_simp;refine YW (ajq _ (U.textOf y) Yl) ?_;have X6:=bx (Below.refl Yl.heap.size Yl);have UM:=bx (U2.o Yl (bt Y9.o X6.o));refine ZX.out _ _ (λ_=>UM.o) ?_;clear ZX Y7;refine kS 13 ?_ rfl UM.o ?_ ?_;rotate_left
   ·rintro w ⟨q1,q2,q3,q4⟩;have Ug:=Oz.o w q4;go_simp;try with_reducible rfl
   refine Y1 14 rfl λY7 ZX=>?_
   go_simp;refine ZX.out _ _ (λh=>by cases h) ?_;clear ZX Y7;refine kD ?_ _;clear F7;obtain⟨YK,rfl⟩:∃W,W=Yl:=⟨_,rfl⟩
  rotate_left
  focus
   have sT:=bx VS;have Uu:=bx (show C.meas g y=1 by grind[C.meas]);have F7:IntKind.i64.wrap (Gg+1)=HE:=by
    have hS:=Xb.o;rw[Uu.o]at hS;rw[QN];have:=PD.o;omega
   have U2:=bx (λW(h:Z6 Tt W)=>show ZQ W GQ 0=some (Zn Ya)/\ZQ W Ya 10=some (.map (some hm))/\ZQ W Ya 9=some (Z9 1)/\W.heap[hm]?=some (.map #[N0 Ya,Nx Ya,MY Ya] 3)from by
    obtain⟨a1,a2,a3,a4⟩:=IQ.o W h;rw[sT.o]at a3;exact⟨a1,a2,a3,a4⟩)
   have Oz:=bx (λW(h:W.heap[hm]?=some (.map #[N0 Ya,Nx Ya,MY Ya] 3))=>show(Instr.lookup 203 (.map (some hm)) (Z9 1) false).run prog W=.ok (Nx Ya).val W from mT underlying203 underlying3 W _ 3 1 hm h (l6 Ya) .nilFunc (by kernel_rfl));simp only[Nx]at Oz;have YF:=bx (U2.o Tt.drew (VQ Tt 1));have Y9:=bx (show Z6 Tt Tt.drew from VQ Tt 1);clear VS;refine Vv 14 (λW'=>ZQ W' GQ 0=some (Zn Ya)/\ZQ W' Ya 10=some (.map (some hm))/\ZQ W' Ya 9=some (Z9 1)/\W'.heap[hm]?=some (.map #[N0 Ya,Nx Ya,MY Ya] 3)) (by kernel_rfl) ?_;generalize Tt.drew=Yl at YF Y9⊢;refine Vp [0,1,2,3,4,5,6,7,8,9,10,11] ?_
   iterate 12 (refine Vq ?_ rfl YF.o ?_ ?_;rotate_left;·rintro w ⟨q1,q2,q3,q4⟩;have Ug:=Oz.o w q4;go_simp;try with_reducible rfl)
   refine Vr ?_;refine Y1 12 rfl λY7 ZX=>?_
   go_simp;refine YW (atL _ (U.textOf y) Yl I5) ?_;have X6:=bx (Below.refl Yl.heap.size Yl);have UM:=bx (U2.o Yl (bt Y9.o X6.o));refine ZX.out _ _ (λ_=>UM.o) ?_;clear ZX Y7;refine kS 13 ?_ rfl UM.o ?_ ?_;rotate_left
   ·rintro w ⟨q1,q2,q3,q4⟩;have Ug:=Oz.o w q4;go_simp;try with_reducible rfl
   refine Y1 14 rfl λY7 ZX=>?_
   go_simp;refine ZX.out _ _ (λh=>by cases h) ?_;clear ZX Y7;refine kD ?_ _;clear F7;obtain⟨YK,rfl⟩:∃W,W=Yl:=⟨_,rfl⟩
  rotate_left
  focus
   have sT:=bx VS;have Uu:=bx (show C.meas g y=C.aq g.w y by unfold C.meas;rw[VS];rfl);have F7:IntKind.i64.wrap (Gg+C.aq g.w y)=HE:=by
    have hS:=Xb.o;rw[Uu.o]at hS;rw[QN];have:=PD.o;omega
   have U2:=bx (λW(h:Z6 Tt W)=>show ZQ W GQ 0=some (Zn Ya)/\ZQ W Ya 10=some (.map (some hm))/\ZQ W Ya 9=some (Z9 2)/\W.heap[hm]?=some (.map #[N0 Ya,Nx Ya,MY Ya] 3)from by
    obtain⟨a1,a2,a3,a4⟩:=IQ.o W h;rw[sT.o]at a3;exact⟨a1,a2,a3,a4⟩)
   have Oz:=bx (λW(h:W.heap[hm]?=some (.map #[N0 Ya,Nx Ya,MY Ya] 3))=>show(Instr.lookup 203 (.map (some hm)) (Z9 2) false).run prog W=.ok (MY Ya).val W from mT underlying203 underlying3 W _ 3 2 hm h (l6 Ya) .nilFunc (by kernel_rfl));simp only[MY]at Oz;have YF:=bx (U2.o Tt.drew (VQ Tt 1));have Y9:=bx (show Z6 Tt Tt.drew from VQ Tt 1);clear VS;refine Vv 14 (λW'=>ZQ W' GQ 0=some (Zn Ya)/\ZQ W' Ya 10=some (.map (some hm))/\ZQ W' Ya 9=some (Z9 2)/\W'.heap[hm]?=some (.map #[N0 Ya,Nx Ya,MY Ya] 3)) (by kernel_rfl) ?_;generalize Tt.drew=Yl at YF Y9⊢;refine Vp [0,1,2,3,4,5,6,7,8,9,10,11] ?_
   iterate 12 (refine Vq ?_ rfl YF.o ?_ ?_;rotate_left;·rintro w ⟨q1,q2,q3,q4⟩;have Ug:=Oz.o w q4;go_simp;try with_reducible rfl)
   refine Vr ?_;refine Y1 12 rfl λY7 ZX=>?_
   go_simp;refine Y3 (Pq.o Yl Y9.o) λYK X0=>?_
   have X6:=bx X0;have UM:=bx (U2.o YK (bt Y9.o X6.o));clear X0;refine ZX.out _ _ (λ_=>UM.o) ?_;clear ZX Y7;refine kS 13 ?_ rfl UM.o ?_ ?_;rotate_left
   ·rintro w ⟨q1,q2,q3,q4⟩;have Ug:=Oz.o w q4;go_simp;try with_reducible rfl
   refine Y1 14 rfl λY7 ZX=>?_
   go_simp;refine ZX.out _ _ (λh=>by cases h) ?_;clear ZX Y7;refine kD ?_ _;clear F7
  rotate_left
  all_goals
   have NV:=bx (bt Y9.o X6.o);have Nz:=Wn.o ZV.heap.size _ (k+1,HE) Tt YK CY (XJ W1.o NV.o.size) YO.o (Turns.of_below NV.o) ⟨_,S0.o⟩;simp only at Nz;rw[show((k+1:Nat):Int)=(k:Int)+1 from by omega]at Nz;obtain⟨fn,tmps,assign,body,ZJ,MT⟩:=Nz;have Kz:=bx MT;clear MT
   gi_wp2
   refine Kz.o.mono ?_;rintro e XE (⟨rfl,Oq,Uq⟩|⟨rfl,L7⟩)
   ·have HO:=bx Oq;have XS:=NV.o.size;have NA:=W1.o;have YY:=bx (Xk.o.trans ((NV.o.mono (by have:=Xk.o.size;have:=zn.o;omega)).trans (Uq.below (by have:=Xk.o.size;have:=zn.o;omega) (λ_ Zs=>Nat.le_of_not_lt (λZu=>Zs (.inl (.inl Zu)))))));have sJ:=bx (Uq.blk (LF.o.below NV.o LF.o.lt) (λZP=>ZP (.inl (.inr rfl))));have Un:=bx (show∀(i:Nat)(x:List UInt8),(ls.map U.textOf)[i]?=some x->VF<XE.heap.size/\YH.heap.size<=VF/\VF<ZV.heap.size/\XE.cell? ⟨VF,Um+i,none⟩=some (.string (bs x))from λi x Z4=>by
     obtain⟨a1,a2,a3,a4⟩:=xP.o i x Z4;refine⟨Vh a3 (XJ (XJ NA XS) Uq.size),a2,a3,?_⟩;exact(World.cell?_of_block (Uq.block VF (Vh a1 XS) (λZP=>ZP (.inr (.inl ⟨a2,a3⟩))))).trans ((NV.o.cell (p:=⟨VF,Um+i,none⟩) a1).trans a4))
    have WT:=bx (XJ (XJ NA XS) Uq.size);clear Oq Uq ZJ XS NA
    gi_wp2
    go_roundw
    ·exact⟨k+1,by omega,by rw[<-V0.o],by go_num,WT,YY,sJ,Un,by rw[MN.o];exact HO⟩
    simp[intOf];omega
   have MB:=bx L7;clear L7 ZJ
   gi_wp2
   rw[Exit.noGoto_normal]
   go_end0
   exact⟨⟨_,rfl⟩,.inr ⟨_,_,MB.o⟩⟩
 obtain rfl:k=Q:=by omega
 have KD:=bx (show(C.sums g ls).take k=C.sums g ls from SU (by rw[C.eK,Xy.o];exact Wq _));rw[KD.o]at YO;have la:decide ((k:Int)<(k:Int))=false:=Yp (by omega)
 gi_wp2
 rw[Exit.noGoto_normal]
 go_end0
 exact⟨⟨_,rfl⟩,.inl ⟨_,_,rfl,YO.o⟩⟩
namespace C
def dJ(ZC:List (Nat×Int)):Int:=ZC.foldl (λ_ x=>x.2) 0
theorem aeN(ZC:List (Nat×Int))(x:Nat×Int):dJ (ZC++[x])=x.2:=by
 simp[dJ]
theorem arq(g:Ga)(ls:List (List Int)):dJ (sums g ls)=aj g ls ls.length:=by
 cases hl:ls.length with
 |zero=>
  have:sums g ls=[]:=L4 (by rw[eK,hl]);rw[this]
  rfl
 |succ k=>
  have h:=ac6 g ls (i:=k) (by omega);rw[SU (by rw[eK];omega)]at h;rw[h,aeN]
end C
theorem auY(w:World)(cs NF NE:Array Value)(SD SC SB:TypeId)(W:World)(Yj:W=((w.alloc (.cells cs SD)).alloc (.cells NF SC)).alloc (.cells NE SB)):
  Zv W w.heap.size SD cs/\Zv W (w.heap.size+1) SC NF/\Zv W (w.heap.size+1+1) SB NE/\Z6 w W/\W.heap.size=w.heap.size+3:=by
 rw[Yj];exact three w cs NF NE SD SC SB
theorem abV(A:Nat->Addr)(B Ya hm:Nat)(pi YM Y2 Zo Za ZD bv:Value)(g:C.Ga)(s:ByteArray)(ls:List (List Int))(w:World)(Xv:Mt w Ya hm pi YM Y2 Zo Za ZD bv g)(Z0:Sr g.t)(hw:Pp g.w)(Z8:C.aA g=true)(ZY:s.size<=800)(YN:E A B w)(XU:Ed A B w)(Vg:Eg A B w)(hB:B<=w.heap.size)(Ka:C.ab g.t s.data.toList=ls):
  Calls prog 81 #[Zn Ya,.string s] w λe w'=>e=.returned (Z9 (C.aj g ls ls.length))/\Z6 w w':=by
 have MN:=bx (λ(YH:World)(l:Nat)(Z7:Z6 w YH)(Z5:Zv YH (w.heap.size+1) 118 #[Zn Ya])(ZS:Zv YH (w.heap.size+1+1) 9 #[.string s])=>arp 7 A B w.heap.size (w.heap.size+1) (w.heap.size+1+1) Ya hm pi YM Y2 Zo Za ZD bv g s ls l w YH rfl Z7 YN XU Vg hB Xv Z0 hw Z8 ZY Z5 ZS Ka);have AR:=bx (C.arq g ls);clear Xv Z0 hw Z8 YN XU Vg hB Ka;refine(callsIn_wide (n:=9)).1 (callsIn_of_wp_marks func81 rfl trivial (wpIn_wide.2 ?_));simp only[ntmps81,My,U3,SK,Nat.reduceAdd,Nat.reduceSub,Mu,Mg,Og,Mo,RQ,SI];go_wp2_with fail;refine YW (at2 _ _ _) ?_;go_wp2_with fail;obtain⟨Xs,Fq⟩:∃W,W=((w.alloc (.cells #[Z9 0] 3)).alloc (.cells #[Zn Ya] 118)).alloc (.cells #[.string s] 9):=⟨_,rfl⟩
 obtain⟨Yn,ZZ,Zz,Us,JD⟩:=auY w _ _ _ _ _ _ Xs Fq;rw[<-Fq];have ZR:=bx Yn;have ZW:=bx ZZ;have Zt:=bx Zz;have XW:=bx Us;clear Yn ZZ Zz Us Fq;refine(wpIn_wide (n:=9)).1 (qL (α:=Nat×Int) (gf:=234) (lb:=#[Zn (w.heap.size+1),Zn (w.heap.size+1+1)]) rfl (enters_of func234 (by rfl) rfl)
  (encs:=λx:Nat×Int=>#[Z9 (x.1:Int),Z9 x.2]) (own:=λ_=>False) (keep:=λk=>k<w.heap.size\/k=w.heap.size+1) (ok:=λZC x _=>∃rest,C.sums g ls=ZC++x::rest) (S:=λVi _=>Vi=C.sums g ls)
  (λk Z3=>by grind)
  (λYH ZM=>by
   have RI:=ZM.below Ys (λ_ h=>h.elim);exact MN.o YH _ (bt XW.o RI) (ZW.o.below RI ZW.o.lt) (Zt.o.below RI Zt.o.lt))
  (λ_=>rfl)
  (λWw ZC W=>Zv W w.heap.size 3 #[Z9 (C.dJ ZC)]/\Z6 w W)
  (λ_ _ _ _=>False) ?UW (λ_ _ _ _ _ h _=>h) (λ_ _ _ _ h _=>h) (λWw h=>⟨ZR.o,XW.o⟩)
  (λx a1 W=>a1={tmps:=#[Zn Ya,.string s,undef,undef,Z9 0,Zn (w.heap.size),undef,Z9 x.2,Zn Ya,.string s,.func (.func 234) #[] #[Zn (w.heap.size+1),Zn (w.heap.size+1+1)],Z9 (x.1:Int),Z9 x.2,undef,undef],defers:=[]})
  (λ_ _ _ _ h _=>h) ?assign ?body ?done (λ_ _ _ _ _ h _=>h.elim) (λ_ _ _ h _=>h))
 case UW=>
  rintro Ww ZC W W' ⟨Z7,Z5⟩ ZM;exact⟨ZM.blk Z7 (by grind),Z5.trans (ZM.below Z5.size (λk Z3=>by grind))⟩
 case assign=>
  intro x W K Yj Xc
  gi_wp2
  exact Xc _ _ (Turns.refl _ _) rfl
 case body=>
  rintro Ww ZC x a1 W0 W N xS GZ um ⟨Z7,Z5⟩ ZM Zp-rfl;have Z8:=ZM.blk Z7 (by grind);have z8:=Z5.trans (ZM.below Z5.size (λk Z3=>by grind));have V3:=bx Z8;have U5:=bx z8;have YV:=Z8.q0;have f0:=Z8.frozen 0;have S4:=Z8.lt;clear Z7 Z5 Z8 z8
  gi_wp2
  have Yo:Turns (λk=>k=w.heap.size) W (W.setCell ⟨w.heap.size,0,none⟩ (Z9 x.2)):=Turns.setCell (own:=λk=>k=w.heap.size) W (p:=⟨w.heap.size,0,none⟩) rfl _;refine⟨Yo.mono (λk Z3 _=>?_),by rw[C.aeN];exact V3.o.ai 0 _,U5.o.trans (Yo.below U5.o.size (λk Z3=>by omega))⟩;omega
 case done=>
  intro Ww xs W Yj hS ⟨Z7,Z5⟩ XU;have YV:=Z7.q0;have U5:=bx Z5;have Xf:=bx XU;have RI:=JD;have ZN:=bx (show C.dJ xs=C.aj g ls ls.length by rw[hS];exact AR.o);clear Z7 Z5 XU hS JD;go_wp2_with fail;refine⟨by simp,.inl ⟨_,_,rfl,run_takeDeferred Xf.o,?_⟩⟩;refine⟨_,results_tmp rfl _ _ _,?_⟩;exact⟨by rw[<-ZN.o];rfl,U5.o.trans ((Turns.putObj (own:=λk=>k=Xs.heap.size) W rfl _).below U5.o.size (λk Z3=>by omega))⟩
