/- Texts of this claim. -/
import Derived.Lib.MinMax
import Derived.Test.YtdponihkpomheaaGreatDoorK10
import Derived.Test.YtdponihkpomheaaGreatDoorK19

set_option maxRecDepth 100000
set_option maxHeartbeats 16000000
namespace Go.Proofs.YtdponihkpomheaaGreatDoor
open Go.RowKit
attribute[local go_sem] Oper.semAt_some
open Tryz
theorem aca:∀(k:Nat)(s:List UInt8),(M.cZ k s).length<=k
 |0,s=>Wq _
 |k+1,s=>by
  simp only[M.cZ]
  split
  ·simp
  rw[U3];have:=aca k (s.drop (M.unit s).1);omega
theorem OO(s:List UInt8):(Xw s).length<=s.length:=by
 obtain⟨l,h,Z5⟩:=M.aaz s;have:Xw s=l:=by grind[Xw]
 rw[this,Z5];exact aca _ _
def Vn(t:Tab)(s:List UInt8):Int:=if Td t=false then 120 else if 2000<s.length then 121 else 0
theorem aoF(v:Value)(t:Tab)(s:ByteArray)(w:World)(Z2:TabAt w v t)(Z0:Sr t)(_:s.size<=100000):
  Calls prog 246 #[v,.string s] w λe w'=>e=.returned (Z9 (Vn t s.data.toList))/\Z6 w w':=by
 have VE:=bx (λW(h:Z6 w W)=>Z2.below h);obtain⟨pi,YM,Y2,Zo,Za,rfl,Z7,Z5,ZS,ZG,Zi⟩:=Z2;obtain⟨V,ZO⟩:∃V,V=w.alloc (.cells #[Z9 t.n,pi,YM,Y2,Zo,Za] 31):=⟨_,rfl⟩
 have ZR:=bx (aB ZO);have Ze:=bx (aK ZO);have ZF:=bx (λW(h:Z6 V W)=>Ze.o.d6 h);have ZN:=bx ZO;have Xx:=bx (vI _ t V (VE.o V ZR.o) Z0);have Xt:=bx (show Vn t s.data.toList=if Td t=false then 120 else if 2000<s.size then 121 else 0 by rfl);generalize Vn t s.data.toList=te at Xt⊢;generalize Td t=tb at Xx Xt;obtain⟨n,ZP⟩:∃n,n=t.n:=⟨_,rfl⟩
 rw[<-ZP]at ZN Ze VE ZF Xx⊢;clear Z7 Z5 ZS ZG Zi ZO Z0 ZP;obtain⟨Zd,Zx,Zr,Zk,Zl,Zg,YS⟩:=ZF.o V YU
 go_in
 go_upto_region 1 with(fail)
 rw[<-ZN.o];go_wp2_with fail;refine X7 Xx.o ZR.o λ_ ZW=>?_
 clear Zd Zx Zr Zk Zl Zg YS
 cases tb with
 |false=>
  go_wp2
  go_ret
  exact⟨SJ (by rw[Xt.o];simp),ZW.o⟩
 |true=>
  rw[Y4 (by simp)]at Xt
  by_cases h:2000<s.size
  ·have Zq:decide ((2000:Int)<(s.size:Int))=true:=Yh (by omega);rw[Y0 h]at Xt;clear h
   go_wp2
   go_ret
   exact⟨SJ (by rw[Xt.o]),ZW.o⟩
  have Zq:decide ((2000:Int)<(s.size:Int))=false:=Yp (by omega);rw[Y4 h]at Xt;clear h
  go_wp2
  go_ret
  exact⟨SJ (by rw[Xt.o]),ZW.o⟩
theorem toList_mk(l:List UInt8):(⟨l.toArray⟩:ByteArray).data.toList=l:=rfl
theorem size_mk(l:List UInt8):(⟨l.toArray⟩:ByteArray).size=l.length:=by rfl
theorem amu(v:Value)(t:Tab)(s:ByteArray)(w:World)(Z2:TabAt w v t)(ZM:F.aE t.p=true)(_:s.size<=2000):
  Calls prog 247 #[v,.string s] w λe w'=>(∃Zy,e=.returned Zy/\Y6 w' Zy (T5 t.p (Xw s.data.toList)))/\Z6 w w':=by
 have VE:=bx (λW(h:Z6 w W)=>Z2.below h);obtain⟨pi,YM,Y2,Zo,Za,rfl,Z7,Z5,ZS,ZG,Zi⟩:=Z2;obtain⟨V,ZO⟩:∃V,V=w.alloc (.cells #[Z9 t.n,pi,YM,Y2,Zo,Za] 31):=⟨_,rfl⟩
 have ZR:=bx (aB ZO);have Ze:=bx (aK ZO);have ZF:=bx (λW(h:Z6 V W)=>Ze.o.d6 h);have ZN:=bx ZO;have UL:=bx (Ju s V (by omega));have TL:=uH s.data.toList;rw[<-size_eq]at TL;have UK:=bx (λW=>yw ⟨(M.fix s.data.toList).toArray⟩ W (by rw[size_mk];omega));have Xa:=OO s.data.toList;rw[<-size_eq]at Xa;have JQ:=bx (Bc s.data.toList);have M5:=bx (IC s.data.toList);generalize Xw s.data.toList=xs at Xa JQ M5⊢;obtain⟨N,Zp⟩:∃N,xs.length=N:=⟨_,rfl⟩
 rw[Zp]at Xa;have ZE:=bx Zp;have oW:=bx (λ(r:Nat)(ZT:r<=1114111)=>yq Z7 Z5 ZM r ZT);clear Z7 Z5 ZS ZG Zi ZO ZM Zp;obtain⟨n,ZP⟩:∃n,n=t.n:=⟨_,rfl⟩
 rw[<-ZP]at ZN Ze VE ZF⊢;clear ZP;obtain⟨Zd,Zx,Zr,Zk,Zl,Zg,YS⟩:=ZF.o V YU
 go_in
 go_upto_region 1 with(fail)
 rw[<-ZN.o];clear Zd Zx Zr Zk Zl Zg YS;go_wp2_with fail;refine Y3 UL.o λZV ZZ=>?_
 have ZW:=bx ZZ;clear ZZ;go_wp2_with fail;refine(UK.o ZV).mono ?_;rintro e ZB ⟨Zz,Pf⟩;rw[toList_mk,JQ.o]at Pf;obtain⟨v2,rfl,V7⟩:=Pf;have UI:=bx (Y6.au V7 rfl);have Zt:=Zw ZW Zz;obtain⟨Yr,lc,rfl⟩:=UI.o.slice;rw[ZE.o]at UI⊢;clear Zz V7;have XI:=bx (show Sep (RO ZB.heap.size ZB Z1 (T5 t.p (xs.take 0))) ZB from(Sep.start ZB).aH ZB.heap.size 1 3);go_wp2_with fail
 go_loopw[7,8] (λYd i wr=>∃k:Nat,k<=N/\i=Z9 k/\Box (Sep (RO ZB.heap.size ZB Yd (T5 t.p (xs.take k))) wr)) (λ_ i _=>N-(intOf i).toNat)
 ·grind
 obtain⟨k,Z3,rfl,YC⟩:=hrel;have YY:=bx (G5 YC.o);have Wj:=bx (bt Zt.o YY.o);have YA:=bx (bt ZR.o Wj.o)
 by_cases Zu:k<N
 ·obtain⟨z,P2⟩:=Yg xs k (by rw[ZE.o];omega);obtain⟨r,rfl,MD⟩:=DV (M5.o z (Xh P2));obtain⟨Vx,LS,G0,Zq,YP,Yb,WW,VK⟩:=UI.o.get (by grind);rw[ZE.o]at Zq YP;obtain⟨rfl,rfl⟩:=XN Zq;have Ua:=VK k _ P2;obtain⟨g,off,ZU,n',g2,OP,XV,g3,J2,Ji,hi,a2,a3,a4,a5,P8,Z8,Xd,Wk,UY,TN,c2,c3,VG,Wv⟩:=oW.o r MD;have U1:=bx (show T5 t.p (xs.take (k+1))=T5 t.p (xs.take k)++[F.says t.p (r:Int)] by unfold T5;rw[Uo,P2,T9];rfl);have UU:(T5 t.p (xs.take k)).length<=1000000000:=by grind[T5]
  have SH:=bx UU;generalize F.says t.p (r:Int)=y at Wv U1;generalize t.p.2.length=M at *;obtain⟨d,Zm⟩:∃d,r/256=d:=⟨_,rfl⟩
  obtain⟨q,Zs⟩:∃q,r%256=q:=⟨_,rfl⟩
  have MI:d<4352:=by omega
  have NB:q<256:=by omega
  have xq:(r:Int).tdiv 256=(d:Int):=by grind
  have xp:(r:Int).tmod 256=(q:Int):=by grind
  have wd:IntKind.i64.wrap (d:Int)=(d:Int):=by rw[QN];omega
  have afE:(d:Int)<4352:=by omega
  have ahN:(q:Int)<256:=by omega
  have ahE:(n':Int)<(M:Int):=by omega
  have Xz:IntKind.i64.wrap (q:Int)=(q:Int):=by rw[QN];omega
  rw[Zm]at a5;rw[Zs]at Wv;generalize T5 t.p (xs.take k)=Yc at YC U1 SH;have U2:=bx (λW(h:Z6 ZB W)=>show ZQ W w.heap.size 1=some (.slice (some ⟨g,off,none⟩) 4352 ZU)/\ZQ W w.heap.size 2=some (.slice (some ⟨g2,OP,none⟩) M XV)/\ZQ W Vx (LS+k)=some (Z9 (r:Int))/\ZQ W g (off+d)=some (Z9 (n':Nat))/\ZQ W g2 (OP+n')=some (.slice (some ⟨g3,J2,none⟩) 256 Ji)/\ZQ W g3 (J2+q)=some (Z9 y)from by
   have Z2:=bt Zt.o h;have hw:=bt ZR.o Z2;obtain⟨Zd,Zx,Zr,Zk,Zl,Zg,YS⟩:=ZF.o W Z2;exact⟨Zx.trans (by rw[hi]),Zr.trans (by rw[Z8]),(h.cell (p:=⟨Vx,LS+k,none⟩) WW).trans Ua,(hw.cell (p:=⟨g,off+d,none⟩) a4).trans a5,(hw.cell (p:=⟨g2,OP+n',none⟩) UY).trans TN,(hw.cell (p:=⟨g3,J2+q,none⟩) VG).trans Wv⟩)
  have Xm:=bx (show Sep (RO ZB.heap.size ZB u7 Yc) wr.drew from YC.o.drewN 1);have Y9:=bx (show Z6 ZB wr.drew from YY.o.trans ((VQ wr 1).mono YY.o.size));have YF:=bx (U2.o wr.drew Y9.o);have WP:ZB.heap.size<=wr.drew.heap.size:=YY.o.size;unfold maxLen at Yb;clear Ua a4 a5 UY TN VG Wv Zq WW VK Zm Zs hi Z8 P2 UU;go_wp2_with fail;refine Vv 25 (λW'=>ZQ W' w.heap.size 1=some (.slice (some ⟨g,off,none⟩) 4352 ZU)/\ZQ W' w.heap.size 2=some (.slice (some ⟨g2,OP,none⟩) M XV)/\ZQ W' Vx (LS+k)=some (Z9 (r:Int))/\ZQ W' g (off+d)=some (Z9 (n':Nat))/\ZQ W' g2 (OP+n')=some (.slice (some ⟨g3,J2,none⟩) 256 Ji)/\ZQ W' g3 (J2+q)=some (Z9 y)) (by rfl) ?_;generalize wr.drew=Yl at Xm Y9 YF WP⊢;refine Vp [0,1,2,3,4,5,6,7,8,9,10,11,12,13,14,15,16,17,18,19,20,21,22] ?_
  iterate 23 (refine Vq ?_ rfl YF.o ?_ ?_;rotate_left;·rintro w ⟨q1,q2,q3,q4,q5,q6⟩;go_simp;try with_reducible rfl)
  refine Vr ?_;refine Y1 23 rfl λY7 ZX=>?_
  go_simp;refine ZX.out _ _ (λ_=>U2.o _ (Y9.o.trans ((Xl Yl _).mono Y9.o.size))) ?_;clear ZX Y7;refine Y1 24 rfl λY7 ZX=>?_
  refine H6 (u:=Z9 y) rfl _ _ 22 rfl OJ Xm.o 0 rfl (by rfl) (by rfl) rfl SH.o (by omega) WP ?_;rintro v6 XA WC -;have WQ:=bx (DQ (m:=[y]) WC (by simp) U1.o);have Tj:=bx (U2.o XA (G5 WQ.o));clear WC;refine ZX.out _ _ (λ_=>Tj.o) ?_;clear ZX Y7;refine Y1 25 rfl λY7 ZX=>?_
  go_simp;refine ZX.out _ _ (λh=>by cases h) ?_;clear ZX Y7;refine kD ?_ _
  go_wp2
  go_roundw
  ·exact⟨k+1,by omega,by go_num,WQ⟩
  grind[intOf]
 obtain rfl:k=N:=by omega
 have WF:=YC.o;rw[SU (by rw[ZE.o];omega)]at WF;have YE:=bx (DD WF).1;clear WF
 go_wp2
 go_ret
 exact⟨⟨_,rfl,YE.o⟩,YA.o⟩
theorem vX{t:Tab}{s:List UInt8}(_:Vn t s=0):Td t=true/\s.length<=2000:=by
 grind[Vn]
def Lj(t:Tab)(s:List UInt8):List Int:=KI t.r t.m t.n.toNat (T5 t.p (Xw s))
def Kx(t:Tab)(s:List UInt8):List Int:=if Vn t s=0 then Lj t s else[]
theorem afr(v:Value)(t:Tab)(s:ByteArray)(w:World)(Z2:TabAt w v t)(Z0:Sr t)(_:s.size<=299):
  Calls prog 170 #[v,.string s] w λe w'=>(∃Zy,e=.returned (.tuple #[Zy,Z9 (Vn t s.data.toList)])/\Y6 w' Zy (Kx t s.data.toList))/\Z6 w w':=by
 have VE:=bx (λW(h:Z6 w W)=>Z2.below h);obtain⟨pi,YM,Y2,Zo,Za,rfl,Z7,Z5,ZS,ZG,Zi⟩:=Z2;obtain⟨V,ZO⟩:∃V,V=w.alloc (.cells #[Z9 t.n,pi,YM,Y2,Zo,Za] 31):=⟨_,rfl⟩
 have ZR:=bx (aB ZO);have Ze:=bx (aK ZO);have ZF:=bx (λW(h:Z6 V W)=>Ze.o.d6 h);have ZN:=bx ZO;have Wt:=bx (aoF _ t s V (VE.o V ZR.o) Z0 (by omega));have JO:=bx (λW(h:Z6 w W) Dx Ul (hl:Y6 W Ul Dx) (FZ:Dx.length<=299)=>gW Y2 t.r (.agg #[Zo,Za]) t.m t.n Ul Dx W (ZS.below h) Z0.r1 Z0.r2 ⟨Zo,Za,rfl,ZG.below h,Zi.below h⟩ Z0.m hl FZ);have Wg:=bx (show(T5 t.p (Xw s.data.toList)).length<=299 by unfold T5;rw[X4];have:=OO s.data.toList;grind[size_eq])
 by_cases he:Vn t s.data.toList=0
 ·obtain⟨t1,t2⟩:=vX he;have t3:=t1;unfold Td at t3;rw[Vm]at t3;have JF:=bx t3.1;have TJ:=bx (λW(h:Z6 w W)=>amu _ t s W (VE.o W h) t3.2 (by omega));have VO:=bx (show Kx t s.data.toList=KI t.r t.m t.n.toNat (T5 t.p (Xw s.data.toList)) by grind[Kx,Lj]);have AX:=bx he;rw[he]at Wt;obtain⟨Yk,ZP⟩:∃n,n=t.n:=⟨_,rfl⟩
  rw[<-ZP]at ZN Ze VE ZF Wt JO TJ JF VO⊢;clear Z7 Z5 ZS ZG Zi ZO Z0 ZP he t1 t2 t3;obtain⟨Zd,Zx,Zr,Zk,Zl,Zg,YS⟩:=ZF.o V YU
  go_in
  go_upto_region 1 with(fail)
  rw[<-ZN.o];go_wp2_with fail;refine Y3 Wt.o λZV ZZ=>?_
  have VD:=bx ZZ;have ZW:=Zw ZR ZZ;clear ZZ Zd Zx Zr Zk Zl Zg YS;go_wp2_with fail;have Y9:=bx (show Z6 V ZV.drew from VD.o.trans ((VQ ZV 1).mono VD.o.size));have YF:=bx (ZF.o ZV.drew Y9.o);refine Vv 13 (λW'=>ZQ W' w.heap.size 0=some (Z9 Yk)/\ZQ W' w.heap.size 1=some pi/\ZQ W' w.heap.size 2=some YM/\ZQ W' w.heap.size 3=some Y2/\ZQ W' w.heap.size 4=some Zo/\ZQ W' w.heap.size 5=some Za/\w.heap.size<W'.heap.size) (by rfl) ?_;generalize ZV.drew=Yl at Y9 YF⊢;have YA:=bx (bt ZR.o Y9.o);refine Vp [0,1,2,3,4,5,6,7] ?_
  iterate 8 (refine Vq ?_ rfl YF.o ?_ ?_;rotate_left;·rintro w ⟨q1,q2,q3,q4,q5,q6,q7⟩;go_simp;try with_reducible rfl)
  refine Vr ?_;refine Y1 8 rfl λY7 ZX=>?_
  go_simp;refine(TJ.o Yl YA.o).mono ?_;rintro e YK ⟨⟨v5,rfl,QH⟩,X0⟩;have X6:=Zw Y9 X0;have yD:=bx (bt ZR.o X6.o);have UM:=bx (ZF.o YK X6.o);have aiN:=bx (JO.o YK yD.o _ v5 QH Wg.o);clear QH X0;refine ZX.out _ _ (λ_=>UM.o) ?_;clear ZX Y7;refine Y1 9 rfl λY7 ZX=>?_
  go_simp;refine aiN.o.mono ?_;rintro e XA ⟨Sy,⟨-,v6,rfl,BA⟩|⟨WK,-⟩⟩;rotate_left
  ·exact absurd (JF.o.symm.trans WK) (by simp)
  have Ft:=bx BA;have VN:=Zw X6 Sy;have Tj:=bx (ZF.o XA VN.o);clear BA Sy;refine ZX.out _ _ (λ_=>Tj.o) ?_;clear ZX Y7;refine kS 10 ?_ rfl Tj.o ?_ ?_;rotate_left
  ·rintro w ⟨q1,q2,q3,q4,q5,q6,q7⟩;go_simp;try with_reducible rfl
  refine kS 11 ?_ rfl Tj.o ?_ ?_;rotate_left
  ·rintro w ⟨q1,q2,q3,q4,q5,q6,q7⟩;go_simp;try with_reducible rfl
  refine Y1 12 rfl λY7 ZX=>?_
  go_simp;refine ZX.out _ _ (λ_=>Tj.o) ?_;clear ZX Y7;refine Y1 13 rfl λY7 ZX=>?_
  go_simp;refine ZX.out _ _ (λh=>by cases h) ?_;clear ZX Y7;refine kD ?_ _;have TZ:=bx (bt ZR.o VN.o)
  go_wp2
  go_ret2
  exact⟨⟨_,OB rfl (PZ AX.o.symm),by rw[VO.o];exact Ft.o⟩,TZ.o⟩
 have VO:=bx (show Kx t s.data.toList=[] by grind[Kx]);obtain⟨r,ZT⟩:∃r,r=Vn t s.data.toList:=⟨_,rfl⟩
 have ZK:=bx ZT;rw[<-ZT]at he Wt;have YP:(r != 0)=true:=by grind
 obtain⟨Yk,ZP⟩:∃n,n=t.n:=⟨_,rfl⟩
 rw[<-ZP]at ZN Ze VE ZF Wt⊢;clear Z7 Z5 ZS ZG Zi ZO Z0 ZP he ZT;obtain⟨Zd,Zx,Zr,Zk,Zl,Zg,YS⟩:=ZF.o V YU
 go_in
 go_upto_region 1 with(fail)
 rw[<-ZN.o];go_wp2_with fail;refine X7 Wt.o ZR.o λZV ZW=>?_
 clear Zd Zx Zr Zk Zl Zg YS
 go_wp2
 go_ret2
 exact⟨⟨_,OB rfl (PZ ZK.o),by rw[VO.o];exact .nil⟩,ZW.o⟩
def T.bC(c:T.Cs)(t:Tab)(s:List UInt8):Int:=if T.az 600 c=false then 140 else Vn t s
def Wc(t:Tab)(s:List UInt8):List Nat:=(Lj t s).map Int.toNat
theorem QR(t:Tab)(s:List UInt8):Lj t s=(Wc t s).map (λn:Nat=>(n:Int))/\Ku (Xw s).length (Wc t s):=by
 obtain⟨ns,Z7,Z5⟩:=arG t.r t.m t.n.toNat (T5 t.p (Xw s))
 have e:Wc t s=ns:=by
  unfold Wc Lj;rw[Z7,IZ]
  conv=>rhs;rw[<-List.map_id ns]
  rfl
 rw[show(T5 t.p (Xw s)).length=(Xw s).length by simp[T5]]at Z5;rw[e];exact⟨Z7,Z5⟩
theorem Ku.len{N:Nat}{ns:List Nat}(h:Ku N ns):ns.length<=N+1:=by
 have key:∀i,i<ns.length->i<=ns.getD i 0:=by
  intro i
  induction i with
  |zero=>omega
  |succ i XZ=>
   intro hi;have Z7:=XZ (by omega);have Z5:=h.up i hi;omega
 have Z7:=key (ns.length-1) (by have:=h.ne;omega);rw[h.last]at Z7;omega
def T.cS(c:T.Cs)(t:Tab)(s:List UInt8):List Int:=T.bu c (Xw s) (Wc t s) ((Wc t s).length-1)
def T.bD(c:T.Cs)(t:Tab)(s:List UInt8):List UInt8:=if T.bC c t s=0 then U.textOf (T.cS c t s)else[]
theorem rm{n:Nat}{l:List Int}(h:T.Fine n l):AA l=.tuple #[.string ⟨(U.textOf l).toArray⟩,Z9 0]:=l3 l (QG.2 h.2)
namespace C
open Go.Proofs.YtdponihkpomheaaGreatDoor
structure Wd where
 p:F.Trie
 wide:Bool
def aS(w:Wd):Bool:=F.aE w.p&&w.p.2.all (λr=>r.all (λx=>decide (x<=6)))
def aI(w:Wd)(r:Int):Int:=
 if F.says w.p r=3\/F.says w.p r=4\/(F.says w.p r=1/\w.wide=true)then 2 else if F.says w.p r=6 then 0 else 1
def most(w:Wd):List Int->Int:=λl=>l.foldl (λn r=>max n (aI w r)) 0
def emoji(l:List Int):Bool:=(l.drop 1).any (·==65039)
def aq(w:Wd)(l:List Int):Int:=if(emoji l&&decide (0<most w l))=true then 2 else most w l
theorem anD(w:Wd)(r:Int):0<=aI w r/\aI w r<=2:=by
 grind[aI]
theorem amT(w:Wd)(l:List Int)(r:Int):most w (l++[r])=max (most w l) (aI w r):=by
 simp[most]
theorem acm(w:Wd):∀(l:List Int)(n:Int),0<=n->n<=2->0<=l.foldl (λn r=>max n (aI w r)) n/\l.foldl (λn r=>max n (aI w r)) n<=2
 |[],n,ZI,Z7=>⟨ZI,Z7⟩
 |x::t,n,ZI,Z7=>by
  rw[List.foldl_cons];have:=anD w x;exact acm w t _ (by omega) (by omega)
theorem arD(w:Wd)(l:List Int):0<=most w l/\most w l<=2:=acm w l 0 (by omega) (by omega)
theorem eu(w:Wd)(l:List Int):0<=aq w l/\aq w l<=2:=by
 have:=arD w l;grind[aq]
structure Ga where
 t:Tab
 w:Wd
 k:Int
def aA(g:Ga):Bool:=Td g.t&&aS g.w&&decide (0<=g.k)&&decide (g.k<=2)
def meas(g:Ga)(l:List Int):Int:=if g.k=0 then((U.textOf l).length:Int)else if g.k=1 then 1 else aq g.w l
def ab(t:Tab)(s:List UInt8):List (List Int):=(List.range ((Wc t s).length-1)).map λi=>T.part (Xw s) ((Wc t s).getD i 0) ((Wc t s).getD (i+1) 0-(Wc t s).getD i 0)
theorem mz(t:Tab)(s:List UInt8):(ab t s).map U.textOf=pieces (Xw s) (Wc t s):=by
 unfold ab pieces;rw[IZ]
 rfl
theorem cD(t:Tab)(s:List UInt8):(ab t s).length=(Wc t s).length-1:=by simp[ab]
def aj(g:Ga)(ls:List (List Int))(k:Nat):Int:=((ls.take k).map (meas g)).sum
theorem fK(g:Ga)(ls:List (List Int)):aj g ls 0=0:=rfl
theorem dQ(g:Ga)(ls:List (List Int)){k:Nat}{l:List Int}(h:ls[k]?=some l):aj g ls (k+1)=aj g ls k+meas g l:=by
 obtain⟨Z3,rfl⟩:=R7 h;unfold aj;rw[yl Z3,T9,List.sum_append];simp
theorem n9(g:Ga)(l:List Int):0<=meas g l:=by
 unfold meas
 split
 ·omega
 split
 ·omega
 exact(eu g.w l).1
theorem aaB(g:Ga)(ls:List (List Int))(a:Nat):∀n,aj g ls a<=aj g ls (a+n)
 |0=>Int.le_refl _
 |n+1=>by
  have XZ:=aaB g ls a n
  cases h:ls[a+n]? with
  |none=>
   have hl:=alR.1 h;have e:aj g ls (a+(n+1))=aj g ls (a+n):=by
    unfold aj;rw[SU (by omega),SU hl]
   omega
  |some l=>
   have:=dQ g ls h;have Z5:=n9 g l;grind
theorem arS(g:Ga)(ls:List (List Int)){a b:Nat}(h:a<=b):aj g ls a<=aj g ls b:=by
 obtain⟨n,rfl⟩:=Nat.exists_eq_add_of_le h;exact aaB g ls a n
def aG(g:Ga)(s:List UInt8):Int:=if aA g=false then 150 else if 2000<s.length then 121 else 0
def ah(g:Ga)(s:List UInt8):Int:=if aG g s=0 then aj g (ab g.t s) (ab g.t s).length else 0
def aQ(t:Tab)(s:List UInt8):List Nat:=if Vn t s=0 then places (Xw s) (Wc t s)else[]
def ae(t:Tab)(s:List UInt8):List (List UInt8):=if Vn t s=0 then pieces (Xw s) (Wc t s)else[]
def isA(t:Tab)(s:List UInt8)(a:Int):Bool:=(aQ t s).any (λp=>(p:Int)==a)
def aW(g:Ga)(h t:List UInt8)(n:Int):Bool:=isA g.t (h++t) h.length&&decide (ah g (h++t)<=n)
def headA(t:Tab)(s:List UInt8)(k:Nat):List UInt8:=((ae t s).take k).flatten
def ct(g:Ga)(s e:List UInt8)(n:Int):Nat->Option Nat
 |0=>if aW g (headA g.t s 0) (M.fix e) n=true then some 0 else none
 |k+1=>if aW g (headA g.t s (k+1)) (M.fix e) n=true then some (k+1)else ct g s e n k
def b0(g:Ga)(s e:List UInt8):Int:=if aA g=false then 150 else if 600<s.length\/60<e.length then 121 else 0
def aX(g:Ga)(s e:List UInt8)(n:Int):Option Nat:=if b0 g s e=0 then ct g s e n (ae g.t s).length else none
theorem adH{g:Ga}{s e:List UInt8}{n:Int}:∀{k i:Nat},ct g s e n k=some i->i<=k/\aW g (headA g.t s i) (M.fix e) n=true
 |0,i,h=>by
  grind[ct]
 |k+1,i,h=>by
  unfold ct at h
  split at h
  ·grind
  have:=adH h;grind
end C
def WideAt(w:World)(v:Value)(c:C.Wd):Prop:=∃ZD bv,v=.agg #[ZD,bv,.bool c.wide]/\Y6 w ZD c.p.1/\TF w bv c.p.2
theorem WideAt.below{w w':World}{v:Value}{c:C.Wd}(h:WideAt w v c)(Z8:Z6 w w'):WideAt w' v c:=by
 obtain⟨ZD,bv,Z7,Z5,ZS⟩:=h;exact⟨ZD,bv,Z7,Z5.below Z8,ZS.below Z8⟩
structure Pp(c:C.Wd):Prop where
 p1:c.p.1.length<=100000
 p2:c.p.2.length<=100000
 p3:∀r∈c.p.2,r.length<=16777216
theorem abm{t:F.Trie}(h:F.aE t=true):∀r∈t.2,r.length=256:=by
 rw[F.eL]at h;grind[F.aR]
theorem lx(v:Value)(c:C.Wd)(w:World)(Z2:WideAt w v c)(Z0:Pp c):
  Calls prog 67 #[v] w λe w'=>e=.returned (.bool (C.aS c))/\Z6 w w':=by
 have Z7:=Z0.p1;have Z5:=Z0.p2;have Xt:=bx (show C.aS c=(F.aE c.p&&c.p.2.all (λr=>r.all (λx=>decide (x<=6))))from rfl);have Jk:=bx (λh=>abm (t:=c.p) h);obtain⟨ZD,bv,rfl,PJ,Sh⟩:=Z2;have SE:=bx (λW(h:Z6 w W)=>rU (.agg #[ZD,bv]) c.p W ⟨ZD,bv,rfl,PJ.below h,Sh.below h⟩ Z7 Z5);obtain⟨wd,XS⟩:∃b,b=c.wide:=⟨_,rfl⟩
 obtain⟨WB,Ur⟩:∃b,b=c.p.2:=⟨_,rfl⟩
 rw[<-Ur]at Sh Z5 Xt Jk;rw[<-XS];generalize F.aE c.p=tb at Xt SE Jk;generalize C.aS c=res at Xt⊢;obtain⟨U0,UQ,SQ⟩:=PJ.slice;obtain⟨XD,Wm,rfl⟩:=Sh.slice;obtain⟨M,Xv⟩:∃M,WB.length=M:=⟨_,rfl⟩
 rw[Xv]at Sh Z5 SE⊢;have W3:=bx Xv;obtain⟨V,ZO⟩:∃V,V=w.alloc (.cells #[ZD,.slice XD M Wm,.bool wd] 33):=⟨_,rfl⟩
 have Wj:=bx (aB ZO);have Ze:=bx (aK ZO);have V3:=bx (Sh.below Wj.o);have SE:=bx (SE.o V Wj.o);have ZN:=bx ZO;clear PJ Sh Xv ZO Z7 Z0 SQ Ur XS;have ZF:=bx (λW(h:Z6 V W)=>Ze.o.d3 h);obtain⟨YV,c1,c2,YJ⟩:=ZF.o V YU
 go_in
 go_upto_region 1 with(fail)
 rw[<-ZN.o];obtain⟨Q,VI⟩:∃Q,w.heap.size=Q:=⟨_,rfl⟩
 rw[VI]at ZF YV c1 c2 YJ⊢;have Xy:=bx VI;clear ZN VI;go_wp2_with fail;refine Y3 SE.o λ_ ZZ=>?_
 have ZW:=bx ZZ;have IG:=Zw Wj ZZ;clear YV c1 c2 YJ ZZ
 cases tb with
 |false=>
  go_wp2
  go_ret
  exact⟨YG (by rw[Xt.o];rfl),IG.o⟩
 |true=>
  rw[Bool.true_and]at Xt;have aiP:=bx (Jk.o rfl);clear Jk;go_wp2_with fail
  go_loopw[3] (λi NL=>∃m:Nat,m<=M/\i=Z9 m/\Box (∀(j:Nat)(y:List Int),j<m->WB[j]?=some y->(y.all λx=>decide (x<=6))=true)/\Box (Z6 V NL)) (λi _=>M-(intOf i).toNat)
  ·exact⟨0,by omega,rfl,⟨λj y h=>by omega⟩,ZW⟩
  obtain⟨m,hm,rfl,MX,SR⟩:=hrel;obtain⟨ws,rfl⟩:∃W,W=wr:=⟨_,rfl⟩
  obtain⟨YV,c1,c2,YJ⟩:=ZF.o ws SR.o;have YA:=bx (bt Wj.o SR.o)
  by_cases Nh:m<M
  ·obtain⟨r,ZT⟩:=Yg WB m (by rw[W3.o];omega);obtain⟨g,off,XV,Y5,XL,Yi,XB,YX⟩:=(V3.o.below SR.o).get (by grind);rw[W3.o]at Y5 XL;obtain⟨rfl,rfl⟩:=XN Y5;obtain⟨x,Q0,TG⟩:=YX m r ZT;have W4:=bx (aiP.o r (Xh ZT));obtain⟨Xo,Pm,rfl⟩:=TG.slice;rw[W4.o]at Q0 TG;have YD:=bx TG;have ZK:=bx ZT;obtain⟨g2,OP,Ji,Zx,Zr,Zk,Zl,Zg⟩:=YD.o.get (by rintro rfl;have Z7:=W4.o;grind);rw[W4.o]at Zx Zr;obtain⟨rfl,rfl⟩:=XN Zx;have JY:=bx Zg;unfold maxLen at Zk Yi;clear ZT Y5 YX TG Zx Zg;go_wp2_with fail
   go_loopw[4] (λi NL=>∃q:Nat,q<=256/\i=Z9 q/\Box (∀(j:Nat)(y:Int),j<q->r[j]?=some y->decide (y<=6)=true)/\NL=ws) (λi _=>256-(intOf i).toNat)
   ·exact⟨0,by omega,rfl,⟨λj y h=>by omega⟩,rfl⟩
   obtain⟨q,Zs,rfl,tI,rfl⟩:=hrel
   by_cases Fa:q<256
   ·obtain⟨y,ZJ⟩:=Yg r q (by rw[W4.o];exact Fa);have kw:=JY.o q y ZJ;have Wn:=bx ZJ;clear ZJ
    by_cases Nk:y<=6
    ·have Yb:decide (6<y)=false:=Yp (by omega);have Te:=bx (upto_succ tI.o Wn.o (Yh Nk));clear Nk
     go_wp2
     go_roundw
     ·exact⟨q+1,by omega,by go_num,Te,trivial⟩
     grind[intOf]
    have Yb:decide (6<y)=true:=Yh (by omega);have Yt:=bx (show(WB.all λr=>r.all λx=>decide (x<=6))=false from Js ZK.o (Js Wn.o (Yp Nk)));clear Nk
    go_wp2
    go_ret
    exact⟨YG (by rw[Xt.o,Yt.o]),YA.o⟩
   obtain rfl:q=256:=by omega
   have PS:=bx (upto_succ MX.o ZK.o (B1 (λj x YO Z4=>tI.o j x (by rw[W4.o]at YO;exact YO) Z4)))
   go_wp2
   go_roundw
   ·exact⟨m+1,by omega,by go_num,PS,SR⟩
   grind[intOf]
  obtain rfl:m=M:=by omega
  have LQ:=bx (B1 (λj x YO Z4=>MX.o j x (by rw[<-W3.o];exact YO) Z4))
  go_wp2
  go_ret
  exact⟨YG (by rw[Xt.o,LQ.o]),YA.o⟩
def maxL:List Int->Int
 |[]=>0
 |x::t=>t.foldl max x
theorem arz(l:List Int)(_:l≠[])(x:Int):maxL (l++[x])=max (maxL l) x:=by
 cases l with
 |nil=>grind
 |cons y t=>
  show(t++[x]).foldl max y=_
  rw[List.foldl_append]
  rfl
theorem hW(n:Int):∀(t:List Int)(y:Int),decide (n<t.foldl max y)=(decide (n<y)||t.any λx=>decide (n<x))
 |[],y=>by grind
 |x::t,y=>by
  rw[List.foldl_cons,hW n t,List.any_cons,<-Bool.or_assoc]
  grind
theorem aqH(n:Int)(l:List Int)(_:l≠[]):decide (n<maxL l)=l.any λx=>decide (n<x):=by
 cases l with
 |nil=>grind
 |cons y t=>rw[List.any_cons];exact hW n t y
def IH(r:List Int):Bool:=decide (6<maxL r)
theorem acO(r:List Int)(h:r≠[]):IH r=!(r.all λx=>decide (x<=6)):=by
 unfold IH;rw[aqH 6 r h,<-w8 (p:=λx:Int=>decide (6<x)) (q:=λx=>decide (x<=6)) (λx=>by grind),Bool.not_not]
theorem aub(v:Value)(xs:List Int)(w:World)(Z2:Y6 w v xs)(ZP:xs≠[])(ZY:xs.length<=16777216):
  Calls prog 127 #[v] w λe w'=>e=.returned (Z9 (maxL xs))/\w=w':=by
 obtain⟨g,off,ZU,rfl,XL,Yi,XB,YX⟩:=Z2.get ZP;obtain⟨N,Zp⟩:∃N,xs.length=N:=⟨_,rfl⟩
 have kK:0<N:=by grind
 obtain⟨Ws,Hn⟩:∃x,xs[0]?=some x:=⟨_,SA (by omega)⟩
 have YV:w.cell? ⟨g,off,none⟩=some (Z9 Ws):=by grind
 have Bf:=bx (show maxL (xs.take 1)=Ws by
  cases xs with
  |nil=>grind
  |cons y t=>simp at Hn;rw[<-Hn];rfl)
 rw[Zp]at XL ZY⊢;have ZE:=bx Zp;have Wh:=bx YX;have Wz:decide ((N:Int)<1)=false:=Yp (by omega);unfold maxLen at Yi;clear Z2 ZP Zp Hn YX
 go_in
 go_wp2_with fail;clear YV Wz
 go_loop[3,4] (λm i=>∃k:Nat,1<=k/\k<=N/\m=Z9 (maxL (xs.take k))/\i=Z9 k) (λ_ i=>N-(intOf i).toNat)
 ·exact⟨1,Wq _,by omega,by rw[Bf.o],rfl⟩
 obtain⟨k,TT,Z3,rfl,rfl⟩:=hrel
 by_cases Zu:k<N
 ·obtain⟨x,Z4⟩:=Yg xs k (by rw[ZE.o];omega);have Ua:=Wh.o k x Z4;have Y8:=bx (show maxL (xs.take (k+1))=max (maxL (xs.take k)) x by
   rw[Uo,Z4];exact arz _ (by intro h;have:=congrArg List.length h;grind) x)
  generalize maxL (xs.take k)=m at Y8⊢;clear Z4;go_wp2_with fail
  go_round
  ·exact⟨k+1,by omega,by omega,by rw[Y8.o],by go_num⟩
  grind[intOf]
 obtain rfl:k=N:=by omega
 have Y8:=bx (show maxL (xs.take k)=maxL xs by rw[SU (by rw[ZE.o];omega)])
 go_wp2
 go_ret
 exact⟨SJ Y8.o,rfl⟩
theorem aqb(v:Value)(xs:List Int)(w:World)(Z2:Y6 w v xs)(ZY:xs.length=256):
  Calls prog 126 #[v] w λe w'=>e=.returned (.bool (IH xs))/\w=w':=by
 have Yq:=bx (aub v xs w Z2 (by grind) (by omega));have YE:=bx (show IH xs=decide (6<maxL xs)from rfl);generalize maxL xs=m at Yq YE;clear Z2 ZY
 go_in
 go_wp2_with fail;refine YW Yq.o ?_
 go_wp2
 go_ret
 exact⟨YG YE.o.symm,rfl⟩
theorem auf(v:Value)(WB:List (List Int))(w:World)(Z2:TF w v WB)(_:WB.length<=16777216)(J6:∀r∈WB,r.length=256):
  Calls prog 218 #[v,.func (.func 126) #[] #[]] w λe w'=>(∃i:Int,e=.returned (Z9 i)/\decide (0<=i)=WB.any (λr=>IH r))/\w=w':=by
 have Qv:=bx Z2;obtain⟨XH,ZU,rfl⟩:=Z2.slice;have X9:=bx (λu r(h:Y6 w u r)(ZT:r∈WB)=>aqb u r w h (J6 r ZT));clear Z2 J6
 go_in
 go_wp2_with fail
 go_loop[8] (λi=>∃k:Nat,k<=WB.length/\i=Z9 k/\Box ((WB.take k).any (λr=>IH r)=false)) (λi=>WB.length-(intOf i).toNat)
 ·exact⟨0,by omega,rfl,⟨rfl⟩⟩
 obtain⟨k,Z3,rfl,YZ⟩:=hrel
 by_cases Uf:k<WB.length
 ·obtain⟨x,Z4⟩:∃x,WB[k]?=some x:=⟨_,SA Uf⟩
  obtain⟨g,off,XV,Y5,XL,Yi,XB,YX⟩:=Qv.o.get (by grind);obtain⟨rfl,rfl⟩:=XN Y5;obtain⟨u,UT,uT⟩:=YX k x Z4;have YD:=bx Z4;have LY:=bx (X9.o u x uT (Xh Z4));unfold maxLen at Yi;clear Z4 Y5 YX uT
  cases hi:IH x with
  |false=>
   have Y8:=bx (show(WB.take (k+1)).any (λr=>IH r)=false by rw[Uo,YD.o,List.any_append,YZ.o,Option.toList_some,List.any_cons,hi];rfl);have YE:=bx hi;clear hi;go_wp2_with fail;refine YW LY.o ?_;rw[YE.o];go_wp2_with fail
   go_round
   ·exact⟨k+1,Uf,by go_num,Y8⟩
   grind[intOf]
  |true=>
   have Y8:=bx (show WB.any (λr=>IH r)=true by rw[NS];exact⟨x,Xh YD.o,by rw[hi]⟩);have YE:=bx hi;clear hi;go_wp2_with fail;refine YW LY.o ?_;rw[YE.o]
   go_wp2
   go_ret
   exact⟨⟨k,rfl,by rw[Y8.o];simp⟩,rfl⟩
 have Y8:=bx (show WB.any (λr=>IH r)=false by have:=YZ.o;grind)
 go_wp2
 go_ret
 exact⟨⟨-1,rfl,by rw[Y8.o];rfl⟩,rfl⟩
theorem aoK(v:Value)(WB:List (List Int))(w:World)(Z2:TF w v WB)(ZY:WB.length<=16777216)(J6:∀r∈WB,r.length=256):
  Calls prog 128 #[v,.func (.func 126) #[] #[]] w λe w'=>e=.returned (.bool (WB.any (λr=>IH r)))/\w=w':=by
 have YE:=bx (auf v WB w Z2 ZY J6);clear Z2 J6
 go_in
 go_wp2_with fail;refine YE.o.mono ?_;rintro e ZV ⟨⟨i,rfl,hi⟩,rfl⟩;have YD:=bx hi;clear hi
 go_wp2
 go_ret
 exact⟨YG (by simpa using YD.o),rfl⟩
theorem mK(v:Value)(c:C.Wd)(w:World)(Z2:WideAt w v c)(Z0:Pp c):
  Calls prog 64 #[v] w λe w'=>e=.returned (.bool (C.aS c))/\Z6 w w':=by
 have Xt:=bx (show C.aS c=(F.aE c.p&&c.p.2.all (λr=>r.all (λx=>decide (x<=6))))from rfl);have Jk:=bx (λh=>abm (t:=c.p) h);have Z5:=Z0.p2;obtain⟨ZD,bv,rfl,PJ,Sh⟩:=Z2;obtain⟨V,ZO⟩:∃V,V=w.alloc (.cells #[ZD,bv,.bool c.wide] 33):=⟨_,rfl⟩
 have ZR:=bx (aB ZO);have Ze:=bx (aK ZO);have Su:=bx (uA (.agg #[ZD,bv]) c.p V ⟨ZD,bv,rfl,PJ.below ZR.o,Sh.below ZR.o⟩ Z0.p1 Z0.p2 Z0.p3);have jk:=bx (λW(h:Z6 w W)(ZT:∀r∈c.p.2,r.length=256)=>aoK bv c.p.2 W (Sh.below h) (by omega) ZT);have SH:=bx (λ(ZT:∀r∈c.p.2,r.length=256)=>show(!c.p.2.any IH)=c.p.2.all (λr=>r.all (λx=>decide (x<=6))) by
  rw[Lx];simp only[Bool.not_eq_true',List.any_eq_false,QG (l:=c.p.2)]
  constructor
  ·intro h r Pf;have:=h r Pf;rw[acO r (by grind)]at this
   grind
  intro h r Pf;rw[acO r (by grind),h r Pf];simp)
 obtain⟨wd,XS⟩:∃b,b=c.wide:=⟨_,rfl⟩
 rw[<-XS]at Ze ZO⊢;generalize C.aS c=res at Xt⊢;obtain⟨XD,Wm,rfl⟩:=Sh.slice;generalize c.p.2.length=M at Ze Su jk ZO⊢;generalize F.aE c.p=tb at Xt Jk Su;have ZF:=bx (λW(h:Z6 V W)=>Ze.o.d3 h);have ZN:=bx ZO;clear PJ Sh Z0 ZO Z5 XS;obtain⟨YV,c1,c2,YJ⟩:=ZF.o V YU
 go_in
 go_upto_region 1 with(fail)
 rw[<-ZN.o];go_wp2_with fail;refine Y3 Su.o λZV ZZ=>?_
 have ZW:=Zw ZR ZZ
 cases tb with
 |false=>
  clear ZZ YV c1 c2 YJ
  go_wp2
  go_ret
  exact⟨YG (by rw[Xt.o];rfl),ZW.o⟩
 |true=>
  rw[Bool.true_and]at Xt;have ZK:=bx (Jk.o rfl);clear Jk;have OF:=bx (jk.o ZV ZW.o ZK.o);have aib:=bx (SH.o ZK.o);rw[<-aib.o]at Xt;generalize c.p.2.any IH=ll at OF Xt;clear YV c1 c2 YJ;obtain⟨YV,c1,c2,YJ⟩:=ZF.o ZV ZZ;clear ZZ;go_wp2_with fail;refine YW OF.o ?_
  go_wp2
  go_ret
  exact⟨YG (by rw[Xt.o]),ZW.o⟩
def api:List Nat:=[0,1]
def ali(g:Nat):Int:=if g=0 then 150 else 121
theorem afd(A:Nat->Addr)(B:Nat)(g:Nat)(ZH:g∈api)(w:World)(YN:E A B w):
  Calls prog 80 #[PE A g] w λe w'=>e=.returned (Z9 (ali g))/\w=w':=by
 have ZI:=YN.var 0 (by decide);have Z7:=YN.var 1 (by decide);have YE:=bx (λk(Z3:k∈yC)=>w2 YN g k (by revert g;decide) Z3);clear YN;unfold PE
 rcases T7.1 ZH with rfl|ZH
 ·go_in
  go_wp2_with fail;refine YW (YE.o 0 (by decide)) ?_
  go_wp2
  go_ret
  exact⟨rfl,rfl⟩
 obtain rfl:g=1:=by grind
 go_in
 go_wp2_with fail;refine YW (YE.o 0 (by decide)) ?_;go_wp2_with fail;refine YW (YE.o 1 (by decide)) ?_
 go_wp2
 go_ret
 exact⟨rfl,rfl⟩
theorem art(s:ByteArray)(n:Int)(w:World):
  Calls prog 144 #[.agg #[.string s,Z9 n]] w λe w'=>e=.returned (.bool (decide (n<(s.size:Int))))/\Z6 w w':=by
 have Z8:=Xl w (.cells #[.string s,Z9 n] 122);have V3:=bx Z8;clear Z8
 go_in
 go_wp2
 go_ret
 exact⟨rfl,V3.o⟩
def Qy(w:World)(v:Value)(g:C.Ga):Prop:=∃pi YM Y2 Zo Za ZD bv,v=.agg #[Z9 g.t.n,pi,YM,Y2,Zo,Za,ZD,bv,.bool g.w.wide,Z9 g.k]/\
 TabAt w (.agg #[Z9 g.t.n,pi,YM,Y2,Zo,Za]) g.t/\WideAt w (.agg #[ZD,bv,.bool g.w.wide]) g.w
theorem Qy.below{w w':World}{v:Value}{g:C.Ga}(h:Qy w v g)(Z8:Z6 w w'):Qy w' v g:=by
 obtain⟨pi,YM,Y2,Zo,Za,ZD,bv,Z7,Z5,ZS⟩:=h;exact⟨pi,YM,Y2,Zo,Za,ZD,bv,Z7,Z5.below Z8,ZS.below Z8⟩
theorem adf(A:Nat->Addr)(B:Nat)(v:Value)(g:C.Ga)(w:World)(Z2:Qy w v g)(Z0:Sr g.t)(hw:Pp g.w)(XU:Ed A B w)(YN:Eg A B w)(hB:B<=w.heap.size):
  Calls prog 142 #[v] w λe w'=>e=.returned (.bool (C.aA g))/\Z6 w w':=by
 obtain⟨Yk,ZP⟩:∃n,n=g.t.n:=⟨_,rfl⟩
 obtain⟨wd,XS⟩:∃b,b=g.w.wide:=⟨_,rfl⟩
 obtain⟨gk,V8⟩:∃k,k=g.k:=⟨_,rfl⟩
 obtain⟨pi,YM,Y2,Zo,Za,ZD,bv,rfl,Z7,Z5⟩:=Z2;rw[<-ZP]at Z7;rw[<-XS]at Z5;rw[<-ZP,<-XS,<-V8];obtain⟨V,ZO⟩:∃V,V=w.alloc (.cells #[Z9 Yk,pi,YM,Y2,Zo,Za,ZD,bv,.bool wd,Z9 gk] 57):=⟨_,rfl⟩
 have ZR:=bx (aB ZO);have Ze:=bx (aK ZO);have ZF:=bx (λW(h:Z6 V W)=>Ze.o.d10 h);have ZN:=bx ZO;have Su:=bx (vC A B _ g.t V (Z7.below ZR.o) Z0 (XU.below (ZR.o.mono hB)) (YN.below (ZR.o.mono hB)) (XJ hB ZR.o.size));have EW:=bx (λW(h:Z6 w W)=>mK _ g.w W (Z5.below h) hw);have Xt:=bx (show C.aA g=(Td g.t&&C.aS g.w&&decide (0<=gk)&&decide (gk<=2)) by rw[V8];rfl);generalize C.aA g=res at Xt⊢;generalize Td g.t=tb at Su Xt;generalize C.aS g.w=Mh at EW Xt;clear Z7 Z5 ZO Z0 hw ZP XS V8 XU YN hB;obtain⟨Zd,Zx,Zr,Zk,Zl,Zg,XK,W9,W8,W7,YS⟩:=ZF.o V YU
 go_in
 go_upto_region 1 with(fail)
 rw[<-ZN.o];go_wp2_with fail;refine Y3 Su.o λZV ZZ=>?_
 have ZW:=Zw ZR ZZ;have UH:=bx ZZ;clear Zd Zx Zr Zk Zl Zg XK W9 W8 W7 YS ZZ
 cases tb with
 |false=>
  go_wp2
  go_ret
  exact⟨YG (by rw[Xt.o];rfl),ZW.o⟩
 |true=>
  obtain⟨Zd,Zx,Zr,Zk,Zl,Zg,XK,W9,W8,W7,YS⟩:=ZF.o ZV UH.o;go_wp2_with fail;refine Y3 (EW.o ZV ZW.o) λZB Zz=>?_
  have Zt:=Zw ZW Zz;have UA:=Zw UH Zz;clear Zd Zx Zr Zk Zl Zg XK W9 W8 W7 YS Zz
  cases Mh with
  |false=>
   go_wp2
   go_ret
   exact⟨YG (by rw[Xt.o];rfl),Zt.o⟩
  |true=>
   obtain⟨Zd,Zx,Zr,Zk,Zl,Zg,XK,W9,W8,W7,YS⟩:=ZF.o ZB UA.o
   by_cases Wz:0<=gk
   ·by_cases Zq:gk<=2
    ·have d0:=Yh Wz;have d1:=Yh Zq;have ZK:=bx (show res=true by rw[Xt.o,d0,d1];rfl);clear Wz Zq
     go_wp2
     go_ret
     exact⟨YG ZK.o.symm,Zt.o⟩
    have d0:=Yh Wz;have d1:=Yp Zq;have ZK:=bx (show res=false by rw[Xt.o,d0,d1];rfl);clear Wz Zq
    go_wp2
    go_ret
    exact⟨YG ZK.o.symm,Zt.o⟩
   have d0:=Yp Wz;have ZK:=bx (show res=false by rw[Xt.o,d0];rfl);clear Wz
   go_wp2
   go_ret
   exact⟨YG ZK.o.symm,Zt.o⟩
def y9:List (List UInt8):=[[78],[65],[72],[87],[70],[78,97],[90]]
theorem ajC(w:World):
  Calls prog 106 #[] w λe w'=>(∃v,e=.returned v/\XC w' v y9)/\Z6 w w':=by
 go_in
 go_wp2
 go_ret
 exact⟨⟨_,rfl,U8.ei (xs:=y9.map Vu) (Zv.new w 9 #[.string (bs [78]),.string (bs [65]),.string (bs [72]),.string (bs [87]),.string (bs [70]),.string (bs [78,97]),.string (bs [90])]) (by decide)⟩,Xl _ _⟩
theorem h0:(prog.info? 33).map (·.size)=some 3:=by rfl
section
variable {W W':World} {R:Nat} {T:TypeId}
def uZ:Array Value:=#[Z1,Z1,.bool false]
theorem gz{j:Nat}{u:Value}(h:Zv W R T uZ)(hu:ZQ W R j=some u):u=Z1\/u=.bool false:=by
 (try unfold ZQ at hu);rw[h.cell j]at hu
 grind[uZ]
theorem aeX{v:Value}{xs:List Int}(Z8:Zv W R T uZ)(ZM:Turns (λq=>q=R) W W')(h:Y6 W v xs)(Z5:xs≠[]):Y6 W' v xs:=by
 obtain⟨b,off,ZU,rfl,ZS,ZG,Zi,Yu⟩:=h.get Z5;have Xq:b≠R:=by
  rintro rfl;have Zq:=Yu 0 _ (SA (List.length_pos_iff.2 Z5))
  rcases gz Z8 Zq with VV|VV <;> cases VV
 exact m5 h ZM.size (λ_ ZH=>by simp[Value.ownBlock]at ZH;subst ZH;exact ZM.block _ Zi Xq)
theorem avO{v:Value}{rows:List (List Int)}(Z8:Zv W R T uZ)(ZM:Turns (λq=>q=R) W W')(h:TF W v rows)(ZP:rows≠[])(Z5:∀r∈rows,r≠[]):TF W' v rows:=by
 obtain⟨b,off,ZU,rfl,ZS,ZG,Zi,Yu⟩:=h.get ZP;have Xq:b≠R:=by
  rintro rfl;obtain⟨S2,ME⟩:=Yg rows 0 (List.length_pos_iff.2 ZP);obtain⟨x,Z4,hi⟩:=Yu 0 S2 ME;have VV:=Z5 S2 (Xh ME);obtain⟨_,_,_,rfl,-⟩:=hi.get VV
  rcases gz Z8 Z4 with Vz|Vz
  ·grind
  cases Vz
 refine .inr ⟨b,off,none,ZU,rfl,ZS,ZG,λ_=>⟨rfl,Vh Zi ZM.size,λi r ZT=>?_⟩⟩;obtain⟨x,Z4,hi⟩:=Yu i r ZT;exact⟨x,(World.cell?_of_block (ZM.block b Zi Xq)).trans Z4,aeX Z8 ZM hi (Z5 r (Xh ZT))⟩
end
theorem ao4(file:List UInt8)(wd:Bool)(t:List F.ag)(w:World)(hp:F.cx file y9 false=some t)(ZM:F.bB t=true):
  Calls prog 48 #[.string (bs file),.bool wd] w λe w'=>(∃v,e=.returned (.tuple #[v,Z9 0,Z9 0])/\WideAt w' v ⟨F.aC t,wd⟩)/\Z6 w w':=by
 obtain⟨Vw,IN⟩:∃Vw,F.aC t=Vw:=⟨_,rfl⟩
 have QQ:=bx (show Vw.1.length=4352/\Vw.2≠[]/\∀x∈Vw.2,x.length=256 from IN▸⟨(F.dq t 4352).1,F.aaV t,(F.dq t 4352).2.2⟩);rw[IN];have Yn:=Xl w (.cells #[Z1,Z1,.bool false] 33);have iU:=bx (ajC (w.alloc (.cells #[Z1,Z1,.bool false] 33)));have UL:=bx (λZo W(ZP:XC W Zo y9)=>lR file Zo y9 false t W ZP (by rfl) hp);have AL:=bx (λZc W(hl:RT W Zc t)=>IN▸aeK Zc t W hl ZM);have ZR:=bx Yn;have Bs:=bx (Zv.new w 33 #[Z1,Z1,.bool false]);clear Yn hp ZM IN
 go_in
 go_wp2_with fail;refine iU.o.mono ?_;rintro e YR ⟨⟨Zo,rfl,agG⟩,Yn⟩;have nX:=bx (bt ZR.o Yn);have mu:=Bs.ub Yn;have iT:=bx agG;clear Yn agG;go_wp2_with fail;refine(UL.o Zo YR iT.o).mono ?_;rintro e ZV ⟨⟨Zc,rfl,WJ⟩,ZZ⟩;have ZW:=bx (nX.o.trans (ZZ.mono nX.o.size));have SF:=bx (mu.o.below ZZ mu.o.lt);have O6:=bx WJ;clear ZZ WJ;go_wp2_with fail;refine(AL.o Zc ZV O6.o).mono ?_;rintro e YK ⟨⟨YI,rfl,A3⟩,X0⟩;have X6:=Zw ZW X0;have oU:=SF.ub X0;have yh:=bx A3;obtain⟨ZD,bv,rfl,PJ,Sh⟩:=A3;obtain⟨U0,UQ,rfl⟩:=PJ.slice;obtain⟨XD,Wm,rfl⟩:=Sh.slice;clear X0 PJ Sh AL UL iU Bs SF ZR ZW O6 iT nX mu;have XK:=Xl YK (.cells #[.slice U0 Vw.1.length UQ,.slice XD Vw.2.length Wm] 25);have VN:=Zw X6 XK;have O5:=oU.ub XK;have u1:=bx (yh.o.below XK);have S2:=(O5.o.cell 0).trans (show _=some (Value.slice none 0 0)from rfl);have r1:=(O5.o.cell 1).trans (show _=some (Value.slice none 0 0)from rfl);have r2:=(O5.o.cell 2).trans (show _=some (Value.bool false)from rfl);have f0:=O5.o.frozen 0;have f1:=O5.o.frozen 1;have f2:=O5.o.frozen 2;have rl:=O5.o.lt;clear XK;go_wp2_with fail;have Yo:Turns (λq=>q=w.heap.size) (YK.alloc (.cells #[.slice U0 Vw.1.length UQ,.slice XD Vw.2.length Wm] 25)) ((((YK.alloc (.cells #[.slice U0 Vw.1.length UQ,.slice XD Vw.2.length Wm] 25)).setCell ⟨w.heap.size,0,none⟩ (.slice U0 Vw.1.length UQ)).setCell ⟨w.heap.size,1,none⟩ (.slice XD Vw.2.length Wm)).setCell ⟨w.heap.size,2,none⟩ (.bool wd)):=(((Turns.setCell (own:=λq=>q=w.heap.size) _ (p:=⟨w.heap.size,0,none⟩) rfl _).trans (Turns.setCell (own:=λq=>q=w.heap.size) _ (p:=⟨w.heap.size,1,none⟩) rfl _)).trans (Turns.setCell (own:=λq=>q=w.heap.size) _ (p:=⟨w.heap.size,2,none⟩) rfl _))
 obtain⟨ZD,bv,Zq,Sg,Nd⟩:=u1.o;injection Zq with Zq;simp only[Array.mk.injEq,QE,and_true]at Zq;obtain⟨rfl,rfl⟩:=Zq;have FU:Zv (YK.alloc (.cells #[.slice U0 Vw.1.length UQ,.slice XD Vw.2.length Wm] 25)) w.heap.size 33 uZ:=O5.o;have q1:=aeX FU Yo Sg (by intro h;have:=QQ.o.1;grind);have q2:=avO FU Yo Nd QQ.o.2.1 (λx Z4 h=>by have:=QQ.o.2.2 x Z4;grind);refine bodyPost_ret (v:=.tuple #[.agg #[.slice U0 Vw.1.length UQ,.slice XD Vw.2.length Wm,.bool wd],Z9 0,Z9 0]) (Ab results48 _ _ w.heap.size 33 #[.slice U0 Vw.1.length UQ,.slice XD Vw.2.length Wm,.bool wd] (0,0) _ rfl (((O5.o.ai 0 (.slice U0 Vw.1.length UQ)).ai 1 (.slice XD Vw.2.length Wm)).ai 2 (.bool wd)) underlying33 rfl h0) rfl
  ⟨⟨_,rfl,_,_,rfl,q1,q2⟩,(((VN.o.setCell Ys _).setCell Ys _).setCell Ys _)⟩
section
open Go.Shelf
def L5(c:C.Wd):C.Wd:=⟨P1 c.p,c.wide⟩
theorem wI:(prog.info? 57).map (·.size)=some 10:=by rfl
theorem alV(v:Value)(c:C.Wd)(YR w:World)(Z2:WideAt YR v c)(Yn:Z6 YR w):
  Calls prog 51 #[v] w λe w'=>Z6 w w'/\∃Zy,e=.returned Zy/\∀W',Turns (λq=>q<w.heap.size) w' W'->Z6 YR W'->WideAt W' Zy (L5 c):=by
 obtain⟨ZD,bv,rfl,Z7,Z5⟩:=Z2;obtain⟨wd,XS⟩:∃b,b=c.wide:=⟨_,rfl⟩
 rw[<-XS];obtain⟨V,ZO⟩:∃V,V=(w.alloc (.cells #[ZD,bv,.bool wd] 33)).alloc (.cells #[Z1,Z1,.bool false] 33):=⟨_,rfl⟩
 have XI:=bx (show Sep [Pc.blk (w.heap.size+1) 33 #[Z1,Z1,.bool false],Pc.blk w.heap.size 33 #[ZD,bv,.bool wd],Pc.old w.heap.size w] V by
  rw[ZO];have h:=((Sep.start w).ak 33 #[ZD,bv,.bool wd]).ak 33 #[Z1,Z1,.bool false]
  simp_all)
 have ZR:=bx Yn;have Wj:=bx (show Z6 w V from XI.o.bel (by simp));have T6:=bx (XI.o.blk 1 rfl);have Uw:=bx (show∀W,Z6 V W->ZQ W w.heap.size 0=some (ZD)/\ZQ W w.heap.size 1=some (bv)/\ZQ W w.heap.size 2=some (.bool wd)/\w.heap.size<W.heap.size from λW h=>⟨(T6.o.below h T6.o.lt).q0,(T6.o.below h T6.o.lt).q1,(T6.o.below h T6.o.lt).q2,(T6.o.below h T6.o.lt).lt⟩);have ZN:=bx ZO;have KJ:=bx (show V.heap.size=w.heap.size+1+1 by rw[ZO];simp);have UA:=bx (λW(h:Z6 w W)=>qO bv ZD c.p YR W Z7 Z5 (bt ZR.o h));have Q9:=bx XS;clear Z7 Z5 ZO Yn XS
 go_in
 go_upto_region 1 with(fail)
 rw[<-ZN.o];refine Vv 6 (λW=>ZQ W w.heap.size 0=some (ZD)/\ZQ W w.heap.size 1=some (bv)/\ZQ W w.heap.size 2=some (.bool wd)) (by rfl) ?_;have Pd:=bx (show∀W,Z6 V W->ZQ W w.heap.size 0=some (ZD)/\ZQ W w.heap.size 1=some (bv)/\ZQ W w.heap.size 2=some (.bool wd)from λW h=>by
  obtain⟨q0,q1,q2,-⟩:=Uw.o W h;grind)
 have Y9:=bx (show Z6 V V.drew from VQ V 1);have Ud:=bx (Pd.o _ Y9.o);have YA:=bx (bt Wj.o Y9.o);have Xm:=bx XI.o.drew;have QO:=bx (YA.o.size);generalize V.drew=Yl at *;refine Vp [0,1,3,4] ?_
 iterate 4 (refine Vq ?_ rfl Ud.o ?_ ?_;rotate_left;·rintro w ⟨q1,q2,q3⟩;go_simp;try with_reducible rfl)
 refine Vr ?_;refine Y1 2 rfl λY7 ZX=>?_
 go_simp;refine(UA.o _ YA.o).mono ?_;rintro e ZB ⟨Zz,f2,v2,Np,rfl,QZ,TA,MF⟩;have Zt:=bx (bt Y9.o Zz);have V1:=bx (Xm.o.got (base:=w.heap.size) Zz MF QO.o);obtain⟨DF,GA,rfl,-,-⟩:=UG MF;obtain⟨xT,Al,rfl⟩:=QZ.slice;have Oy:=bx QZ;have Uv:=bx TA;clear Zz TA MF QZ;refine ZX.out _ _ (λ_=>Pd.o _ Zt.o) ?_;clear ZX Y7;refine Y1 5 rfl λY7 ZX=>?_
 go_simp;refine ZX.out _ _ (λ_=>Pd.o _ Zt.o) ?_;clear ZX Y7;have Wh:=bx (V1.o.blk 1 rfl);have RN:=(Wh.o.cell 0).trans (show _=some (Value.slice none 0 0)from rfl);have Wz:=Wh.o.frozen 0;have Vy:=(Wh.o.cell 1).trans (show _=some (Value.slice none 0 0)from rfl);have Zq:=Wh.o.frozen 1;have TX:=(Wh.o.cell 2).trans (show _=some (Value.bool false)from rfl);have YP:=Wh.o.frozen 2;have xn:=Wh.o.lt;have XO:=bx (((V1.o.set 1 rfl 0 (.slice xT (P1 c.p).1.length Al)).set 1 rfl 1 (.slice DF Np.length GA)).set 1 rfl 2 (.bool wd));refine Y1 6 rfl λY7 ZX=>?_
 go_simp;refine ZX.out _ _ (λh=>by cases h) ?_;clear ZX Y7;refine kD ?_ _;go_wp2_with fail;have Hd:=XO.o.bel (n:=w.heap.size) (W0:=w) (by simp);refine bodyPost_ret (v:=.agg #[.slice xT (P1 c.p).1.length Al,.slice DF Np.length GA,.bool wd]) (results_cell_row results51 _ _ (w.heap.size+1) 33 _ (0,0) _ rfl (XO.o.blk 1 rfl) underlying33 rfl h0) rfl ⟨Hd,_,rfl,λW' ZM Vt=>⟨.slice xT (P1 c.p).1.length Al,.slice DF Np.length GA,by rw[Q9.o];rfl,?_,?_⟩⟩
 ·exact Oy.o.below Vt
 exact wX (Cg (XO.o.row 0 rfl) ZM) rfl Uv.o Vt
end
def B2(w:World)(v:Value)(ls:List (ByteArray×Int)):Prop:=∃b off ZU,v=.slice (some ⟨b,off,none⟩) ls.length ZU/\ls.length<=ZU/\ZU<=maxLen/\b<w.heap.size/\
 ∀i x,ls[i]?=some x->w.cell? ⟨b,off+i*2,none⟩=some (.string x.1)/\w.cell? ⟨b,off+i*2+1,none⟩=some (Z9 x.2)
theorem B2.below{w w':World}{v:Value}{ls:List (ByteArray×Int)}(h:B2 w v ls)(Z8:Z6 w w'):B2 w' v ls:=by
 obtain⟨b,off,ZU,Z7,Z5,ZS,ZG,Zi⟩:=h;exact⟨b,off,ZU,Z7,Z5,ZS,Vh ZG Z8.size,λi x Z4=>⟨(Z8.cell (p:=⟨b,off+i*2,none⟩) ZG).trans (Zi i x Z4).1,(Z8.cell (p:=⟨b,off+i*2+1,none⟩) ZG).trans (Zi i x Z4).2⟩⟩
theorem alu(W:World)(s:ByteArray)(n:Int)(T:TypeId):B2 (W.alloc (.cells #[.string s,Z9 n] T)) (.slice (some ⟨W.heap.size,0,none⟩) 1 1) [(s,n)]:=by
 have h:=Zv.new W T #[.string s,Z9 n];refine⟨W.heap.size,0,1,rfl,Wq _,by simp[maxLen],h.lt,λi _ Z4=>?_⟩
 cases i with
 |zero=>
  simp only[Ig,OS]at Z4;subst Z4;simp
 |succ i=>grind
theorem asB(W:World)(s e:ByteArray)(n m:Int)(T:TypeId):B2 (W.alloc (.cells #[.string s,Z9 n,.string e,Z9 m] T)) (.slice (some ⟨W.heap.size,0,none⟩) 2 2) [(s,n),(e,m)]:=by
 have h:=Zv.new W T #[.string s,Z9 n,.string e,Z9 m];refine⟨W.heap.size,0,2,rfl,Wq _,by simp[maxLen],h.lt,λi _ Z4=>?_⟩
 match i with
 |0=>
  simp only[Ig,OS]at Z4;subst Z4;simp
 |1=>
  simp only[List.getElem?_cons_succ,Ig,OS]at Z4;subst Z4;simp
 |i+2=>grind
theorem aoh(v:Value)(ls:List (ByteArray×Int))(w:World)(Z2:B2 w v ls)(ZY:ls.length<=100)(UU:∀x∈ls,(x.1.size:Int)<=x.2):
  Calls prog 231 #[v,.func (.func 144) #[] #[]] w λe w'=>e=.returned (Z9 (-1))/\Z6 w w':=by
 have X9:=bx (λW(x:ByteArray×Int)(Z4:x∈ls)=>show Calls prog 144 #[.agg #[.string x.1,Z9 x.2]] W λe w'=>e=.returned (.bool false)/\Z6 W w' from(art x.1 x.2 W).mono λe w' h=>by
  have WK:=UU x Z4;rw[Yp (show¬x.2<(x.1.size:Int) by omega)]at h;exact h)
 obtain⟨b,off,ZU,rfl,Z5,ZS,ZG,Zi⟩:=Z2;obtain⟨N,Zp⟩:∃N,ls.length=N:=⟨_,rfl⟩
 rw[Zp]at ZY Z5⊢;have ZE:=bx Zp;have CK:=bx Zi;unfold maxLen at ZS;clear UU Zp Zi
 go_in
 go_wp2_with fail
 go_loopw[8] (λi wr=>∃k:Nat,k<=N/\i=Z9 k/\Box (Z6 w wr)) (λi _=>N-(intOf i).toNat)
 ·exact⟨0,by omega,rfl,⟨Below.refl _ _⟩⟩
 obtain⟨k,Z3,rfl,Z8⟩:=hrel
 by_cases Zu:k<N
 ·obtain⟨x,Z4⟩:=Yg ls k (by rw[ZE.o];exact Zu);have Ua:=(Z8.o.cell (p:=⟨b,off+k*2,none⟩) ZG).trans (CK.o k x Z4).1;have afD:=(Z8.o.cell (p:=⟨b,off+k*2+1,none⟩) ZG).trans (CK.o k x Z4).2;have LY:=bx (X9.o wr x (Xh Z4));have Ur:=Vh ZG Z8.o.size;clear Z4;go_wp2_with fail;refine X7 LY.o Z8.o λ_ ZW=>?_
  clear Ua afD Ur
  go_wp2
  go_roundw
  ·exact⟨k+1,by omega,by go_num,ZW⟩
  simp[intOf];omega
 go_wp2
 go_ret
 exact⟨rfl,Z8.o⟩
theorem auC(v:Value)(ls:List (ByteArray×Int))(w:World)(Z2:B2 w v ls)(ZY:ls.length<=100)(UU:∀x∈ls,(x.1.size:Int)<=x.2):
  Calls prog 143 #[v,.func (.func 144) #[] #[]] w λe w'=>e=.returned (.bool false)/\Z6 w w':=by
 have YE:=bx (aoh v ls w Z2 ZY UU);clear Z2 UU
 go_in
 go_wp2_with fail;refine Y3 YE.o λ_ ZZ=>?_
 have ZW:=bx ZZ;clear ZZ
 go_wp2
 go_ret
 exact⟨rfl,ZW.o⟩
def N0(Ya:Nat):MapEntry:=⟨Z9 0,.func (.func 145) #[Zn Ya] #[],0⟩
def Nx(Ya:Nat):MapEntry:=⟨Z9 1,.func (.func 146) #[Zn Ya] #[],1⟩
def MY(Ya:Nat):MapEntry:=⟨Z9 2,.func (.func 147) #[Zn Ya] #[],2⟩
structure Mt(w:World)(Ya hm:Nat)(pi YM Y2 Zo Za ZD bv:Value)(g:C.Ga):Prop where
 blk:Zv w Ya 205 #[Z9 g.t.n,pi,YM,Y2,Zo,Za,ZD,bv,.bool g.w.wide,Z9 g.k,.map (some hm)]
 how:w.heap[hm]?=some (.map #[N0 Ya,Nx Ya,MY Ya] 3)
 tab:TabAt w (.agg #[Z9 g.t.n,pi,YM,Y2,Zo,Za]) g.t
 wid:WideAt w (.agg #[ZD,bv,.bool g.w.wide]) g.w
theorem Mt.below{w w':World}{Ya hm:Nat}{pi YM Y2 Zo Za ZD bv:Value}{g:C.Ga}(h:Mt w Ya hm pi YM Y2 Zo Za ZD bv g)(Z8:Z6 w w'):Mt w' Ya hm pi YM Y2 Zo Za ZD bv g:=
 ⟨h.blk.below Z8 h.blk.lt,(Z8.block hm (J4.1 h.how).1).trans h.how,h.tab.below Z8,h.wid.below Z8⟩
theorem aaS(A:Nat->Addr)(B:Nat)(v Zc:Value)(g:C.Ga)(w:World)(Z2:Qy w v g)(Z0:Sr g.t)(hw:Pp g.w)(YN:E A B w)(XU:Ed A B w)(Vg:Eg A B w)(hB:B<=w.heap.size)(Z8:C.aA g=false):
  Calls prog 79 #[v,Zc] w λe w'=>e=.returned (.tuple #[.pointer none,PE A 0])/\Z6 w w':=by
 have vU:=bx (λW(h:Z6 w W)=>adf A B v g W (Z2.below h) Z0 hw (XU.below (h.mono hB)) (Vg.below (h.mono hB)) (XJ hB h.size));have tf:=bx (λW(h:Z6 w W)=>Z2.below h);have US:=bx (λW(h:Z6 w W)=>show ZQ W 0 0=some (.iface 448 (.pointer (some (A 0))))/\ZQ W 1 0=some (.iface 448 (.pointer (some (A 1))))from
  ⟨(YN.below (h.mono hB)).cell 0 (by decide),(YN.below (h.mono hB)).cell 1 (by decide)⟩)
 obtain⟨Yk,ZP⟩:∃n,n=g.t.n:=⟨_,rfl⟩
 obtain⟨wd,XS⟩:∃b,b=g.w.wide:=⟨_,rfl⟩
 obtain⟨gk,V8⟩:∃k,k=g.k:=⟨_,rfl⟩
 obtain⟨pi,YM,Y2,Zo,Za,ZD,bv,rfl,Z7,Z5⟩:=Z2;rw[<-ZP]at Z7;rw[<-XS]at Z5;rw[<-ZP,<-XS,<-V8];obtain⟨V,ZO⟩:∃V,V=w.alloc (.cells #[Z9 Yk,pi,YM,Y2,Zo,Za,ZD,bv,.bool wd,Z9 gk] 57):=⟨_,rfl⟩
 have ZR:=bx (aB ZO);have Ze:=bx (aK ZO);have JI:=bx (λW(h:Z6 w W)=>show TabAt W (.agg #[Z9 Yk,pi,YM,Y2,Zo,Za]) g.t/\WideAt W (.agg #[ZD,bv,.bool wd]) g.w from⟨Z7.below h,Z5.below h⟩);have ZF:=bx (λW(h:Z6 V W)=>Ze.o.d10 h);have ZN:=bx ZO;rw[<-ZP,<-XS,<-V8]at vU tf;have XW:=bx (show Z6 V (V.alloc (.cells #[Z9 Yk,pi,YM,Y2,Zo,Za,ZD,bv,.bool wd,Z9 gk,.map none] 205))from Xl V _);have T0:=bx (bt ZR.o XW.o);have sS:=bx (Zv.new V 205 #[Z9 Yk,pi,YM,Y2,Zo,Za,ZD,bv,.bool wd,Z9 gk,.map none]);have Wy:=bx (show V.heap.size=w.heap.size+1 by rw[ZO];simp);have SF:=bx (vU.o _ T0.o);obtain⟨g0,g1⟩:=US.o _ T0.o;obtain⟨Zd,Zx,Zr,Zk,Zl,Zg,XK,W9,W8,W7,YS⟩:=ZF.o V YU;obtain⟨S4,Om,CT,Ez,xy,tA,jE,tz,L6,pB,tw⟩:=ZF.o _ XW.o;have uW:=bx Z8;clear Z7 Z5 ZO Z0 hw ZP XS V8 YN XU Vg hB Z8
 go_in
 go_upto_region 1 with(fail)
 rw[<-ZN.o];go_wp2_with fail;refine Nr 0 rfl ?_;go_wp2_with fail;refine Y3 SF.o λ_ ZZ=>?_
 rw[uW.o];have ZW:=Zw T0 ZZ;clear ZZ g0 g1 Zd Zx Zr Zk Zl Zg XK W9 W8 W7 YS S4 Om CT Ez xy tA jE tz L6 pB tw;go_wp2_with fail
 go_step3
 refine⟨rfl,?_⟩;go_wp2_with fail;rw[Exit.noGoto_ret];go_ret2;exact⟨rfl,ZW.o⟩
theorem hc(A:Nat->Addr)(B:Nat)(v Zc:Value)(g:C.Ga)(ls:List (ByteArray×Int))(w:World)(Z2:Qy w v g)(Z0:Sr g.t)(hw:Pp g.w)(YN:E A B w)(XU:Ed A B w)(Vg:Eg A B w)(hB:B<=w.heap.size)(Z8:C.aA g=true)(hl:B2 w Zc ls)(ZY:ls.length<=100)(UU:∀x∈ls,(x.1.size:Int)<=x.2):
  Calls prog 79 #[v,Zc] w λe w'=>(∃Ya hm pi YM Y2 Zo Za ZD bv,e=.returned (.tuple #[Zn Ya,.nilIface])/\Mt w' Ya hm pi YM Y2 Zo Za ZD bv g)/\Z6 w w':=by
 have vU:=bx (λW(h:Z6 w W)=>adf A B v g W (Z2.below h) Z0 hw (XU.below (h.mono hB)) (Vg.below (h.mono hB)) (XJ hB h.size));have tf:=bx (λW(h:Z6 w W)=>Z2.below h);have US:=bx (λW(h:Z6 w W)=>show ZQ W 0 0=some (.iface 448 (.pointer (some (A 0))))/\ZQ W 1 0=some (.iface 448 (.pointer (some (A 1))))from
  ⟨(YN.below (h.mono hB)).cell 0 (by decide),(YN.below (h.mono hB)).cell 1 (by decide)⟩)
 have TJ:=bx (λW(h:Z6 w W)=>auC Zc ls W (hl.below h) ZY UU);obtain⟨Yk,ZP⟩:∃n,n=g.t.n:=⟨_,rfl⟩
 obtain⟨wd,XS⟩:∃b,b=g.w.wide:=⟨_,rfl⟩
 obtain⟨gk,V8⟩:∃k,k=g.k:=⟨_,rfl⟩
 obtain⟨pi,YM,Y2,Zo,Za,ZD,bv,rfl,Z7,Z5⟩:=Z2;rw[<-ZP]at Z7;rw[<-XS]at Z5;rw[<-ZP,<-XS,<-V8];obtain⟨V,ZO⟩:∃V,V=w.alloc (.cells #[Z9 Yk,pi,YM,Y2,Zo,Za,ZD,bv,.bool wd,Z9 gk] 57):=⟨_,rfl⟩
 have ZR:=bx (aB ZO);have Ze:=bx (aK ZO);have JI:=bx (λW(h:Z6 w W)=>show TabAt W (.agg #[Z9 Yk,pi,YM,Y2,Zo,Za]) g.t/\WideAt W (.agg #[ZD,bv,.bool wd]) g.w from⟨Z7.below h,Z5.below h⟩);have ZF:=bx (λW(h:Z6 V W)=>Ze.o.d10 h);have ZN:=bx ZO;rw[<-ZP,<-XS,<-V8]at vU tf;have XW:=bx (show Z6 V (V.alloc (.cells #[Z9 Yk,pi,YM,Y2,Zo,Za,ZD,bv,.bool wd,Z9 gk,.map none] 205))from Xl V _);have T0:=bx (bt ZR.o XW.o);have sS:=bx (Zv.new V 205 #[Z9 Yk,pi,YM,Y2,Zo,Za,ZD,bv,.bool wd,Z9 gk,.map none]);have Wy:=bx (show V.heap.size=w.heap.size+1 by rw[ZO];simp);have SF:=bx (vU.o _ T0.o);obtain⟨g0,g1⟩:=US.o _ T0.o;obtain⟨Zd,Zx,Zr,Zk,Zl,Zg,XK,W9,W8,W7,YS⟩:=ZF.o V YU;obtain⟨S4,Om,CT,Ez,xy,tA,jE,tz,L6,pB,tw⟩:=ZF.o _ XW.o;have uW:=bx Z8;have CL:=bx (show Yk=g.t.n/\wd=g.w.wide/\gk=g.k from⟨ZP,XS,V8⟩);obtain⟨lb,LS,G0,rfl,-⟩:=hl;generalize ls.length=Q at TJ ZY⊢;obtain⟨Ya,aw9⟩:∃Ya,Ya=V.heap.size:=⟨_,rfl⟩
 have J9:=@run_makeMap prog;have D9:=λ(W:World)=>IU (P:=prog) underlying203 underlying3 W #[] 0 0 (N0 Ya).val W.heap.size rfl rfl
 have DO:=λ(W:World)=>IU (P:=prog) underlying203 underlying3 W #[N0 Ya] 1 1 (Nx Ya).val W.heap.size rfl rfl
 have D0:=λ(W:World)=>IU (P:=prog) underlying203 underlying3 W #[N0 Ya,Nx Ya] 2 2 (MY Ya).val W.heap.size rfl rfl
 simp only[Og,RQ,SI,N0,Nx,MY,Nat.reduceAdd,Nat.zero_add]at D9 DO D0;rw[aw9]at D9 DO D0;clear Z7 Z5 ZO Z0 hw ZP XS V8 YN XU Vg hB Z8
 go_in
 go_upto_region 1 with(fail)
 rw[<-ZN.o];go_wp2_with fail;refine Nr 0 rfl ?_;go_wp2_with fail;refine Y3 SF.o λZV ZZ=>?_
 rw[uW.o];have Xg:=Zw XW ZZ;have ZW:=Zw T0 ZZ;have RB:=sS.ub ZZ;clear ZZ g0 g1 Zd Zx Zr Zk Zl Zg XK W9 W8 W7 YS S4 Om CT Ez xy tA jE tz L6 pB tw;obtain⟨g0,g1⟩:=US.o ZV ZW.o;go_wp2_with fail;refine Y3 (TJ.o ZV ZW.o) λZB Zz=>?_
 have Zt:=Zw ZW Zz;have GD:=bx (RB.o.below Zz RB.o.lt).lt;have Kv:=bx ((RB.o.below Zz RB.o.lt).alloc (.map #[N0 V.heap.size,Nx V.heap.size,MY V.heap.size] 3));have c10:=Kv.o.q10;have f10:=Kv.o.frozen 10;have axK:=Kv.o.lt;simp only[N0,Nx,MY]at c10 f10 axK;clear Zz g0 g1;go_wp2_with fail;rw[Jq];go_ret2;have Yo:=Turns.setCell (own:=λq=>q=V.heap.size) (ZB.alloc (.map #[N0 V.heap.size,Nx V.heap.size,MY V.heap.size] 3)) (p:=⟨V.heap.size,10,none⟩) rfl (.map (some ZB.heap.size));have az1:=GD.o;have af9:Z6 w ((ZB.alloc (.map #[N0 V.heap.size,Nx V.heap.size,MY V.heap.size] 3)).setCell ⟨V.heap.size,10,none⟩ (.map (some ZB.heap.size))):=(Zt.o.alloc Zt.o.size _).trans (Yo.below ((Zt.o.alloc Zt.o.size _).size) (λk _=>by have:=Wy.o;omega));obtain⟨Zq,YP,Yb⟩:=CL.o;obtain⟨q1,q2⟩:=JI.o _ af9;rw[Zq]at q1;rw[YP]at q2;have XY:=Kv.o.ai 10 (.map (some ZB.heap.size));rw[Zq,YP,Yb]at XY;exact⟨⟨V.heap.size,ZB.heap.size,pi,YM,Y2,Zo,Za,ZD,bv,rfl,⟨XY,(Yo.block _ (by simp) (by omega)).trans (World.alloc_heap_new ZB _),q1,q2⟩⟩,af9⟩
