/- Texts of this claim. -/
import Derived.Test.YtdponihkpomheaaGreatDoorK26

set_option maxRecDepth 100000
set_option maxHeartbeats 16000000
namespace Go.Proofs.YtdponihkpomheaaGreatDoor
open Go.RowKit
attribute[local go_sem] Oper.semAt_some
open Go.Proofs.Tryz
namespace C
theorem fT{l:List (List UInt8)}{x:List UInt8}(h:x∈l):x.length<=l.flatten.length:=by
 induction l with
 |nil=>cases h
 |cons y t XZ=>
  grind
theorem e8{k:Kt}{e:List UInt8}(Z8:ad k=true)(_:e.length<=60):(ab k.c e).length<=60/\∀y∈ab k.c e,(U.textOf y).length<=180:=by
 have R4:=zg (s:=e) Z8 (by omega);have TL:=ba e;refine⟨?_,λy ZJ=>?_⟩
 ·rw[cD];have Z7:=(QR k.c e).2.len;have Z5:=OO e;omega
 have Z7:=fM R4;rw[ch R4]at Z7;have Z5:=fT (List.mem_map_of_mem (f:=U.textOf) ZJ);grind
end C
structure EY(k:C.Kt)(e:List UInt8)(p i f:Nat)(Yc:List UInt8)(YV c:Int):Prop where
 ans:C.aw k e YV=Yc++C.b5 (C.kg k 2) (C.ab k.c e) f i c
 run:0<c->C.todo p (C.ab k.c e).length i c<f
 lim:0<c->i+C.todo p (C.ab k.c e).length i c<=30000
 len:Yc.length<=i*180
 top:i<=30001
 le:c<=YV
theorem ad0{k:C.Kt}{e:List UInt8}{p:Nat}{c:Int}(hp:C.ck (C.kg k 2) (C.ab k.c e) p)(_:c<=300)(hl:(C.ab k.c e).length<=60):EY k e p 0 (c.toNat*(C.ab k.c e).length+(C.ab k.c e).length+1) [] c c:=by
 have Z7:=C.avo (c:=c) hp;have Z5:c.toNat*(C.ab k.c e).length<=300*60:=IA (by omega) hl;exact⟨rfl,λ_=>Z7,λ_=>by omega,by simp,by omega,Int.le_refl _⟩
theorem EY.stop{k:C.Kt}{e:List UInt8}{p i f:Nat}{Yc:List UInt8}{YV c:Int}(h:EY k e p i f Yc YV c)(_:¬0<c):C.aw k e YV=Yc:=by
 rw[h.ans,C.adU (by omega),L3]
theorem EY.wide{k:C.Kt}{e:List UInt8}{p i f:Nat}{Yc:List UInt8}{YV c:Int}(h:EY k e p i f Yc YV c)(hp:C.ck (C.kg k 2) (C.ab k.c e) p)(ZL:0<c){y:List Int}(ZJ:(C.ab k.c e)[i%(C.ab k.c e).length]?=some y)(ZP:c<C.aq k.d y):C.aw k e YV=Yc:=by
 obtain⟨Pl,rfl,Z7,-⟩:=C.ada (i:=i) hp ZL (h.run ZL);rw[h.ans,Z7,Rl,ZJ,OT,Y0 (show c<C.meas (C.kg k 2) y from ZP),L3]
theorem EY.next{k:C.Kt}{e:List UInt8}{p i f:Nat}{Yc:List UInt8}{YV c:Int}(h:EY k e p i f Yc YV c)(hp:C.ck (C.kg k 2) (C.ab k.c e) p)(ZL:0<c){y:List Int}(ZJ:(C.ab k.c e)[i%(C.ab k.c e).length]?=some y)(ZP:¬c<C.aq k.d y)(_:(U.textOf y).length<=180)(C0:0<=C.aq k.d y):
  ∃Pl,EY k e p (i+1) Pl (Yc++U.textOf y) YV (c-C.aq k.d y)/\C.todo p (C.ab k.c e).length (i+1) (c-C.aq k.d y)<C.todo p (C.ab k.c e).length i c:=by
 obtain⟨Pl,rfl,Z7,Z5⟩:=C.ada (i:=i) hp ZL (h.run ZL);have CU:(C.ab k.c e).getD (i%(C.ab k.c e).length) []=y:=by rw[Rl,ZJ,OT]
 rw[CU]at Z7 Z5;have hm:C.meas (C.kg k 2) y=C.aq k.d y:=rfl;rw[hm]at Z7 Z5;rw[Y4 ZP]at Z7;have Zu:C.todo p (C.ab k.c e).length (i+1) (c-C.aq k.d y)<C.todo p (C.ab k.c e).length i c:=
  C.aap hp.1 ZL C0 (λZs=>by
   have WK:=hp.2;rw[<-Zs,CU]at WK;exact WK)
 have ZS:=h.lim ZL;have ZG:=h.len;have Zi:=h.le;refine⟨Pl,⟨by rw[h.ans,Z7,M8],λ_=>Z5,λ_=>by omega,by rw[WR,s7];omega,by omega,by omega⟩,Zu⟩
theorem nE(A:Nat->Addr)(B g p:Nat)(k:C.Kt)(e:ByteArray)(YV:Int)(w:World)(ZH:PB w g k)(Z0:VT k)(Z8:C.ad k=true)(_:e.size<=60)(ZL:YV<=300)(hp:C.ck (C.kg k 2) (C.ab k.c e.data.toList) p)(hS:Sw A B w):
  Calls prog 77 #[Zn g,.string e,Z9 YV] w λX1 w'=>X1=.returned (.string (bs (C.aw k e.data.toList YV)))/\Z6 w w':=by
 have R4:=zg (s:=e.data.toList) Z8 (by grind[size_eq]);obtain⟨V9,F3⟩:=C.e8 (e:=e.data.toList) Z8 (by simp_all);have y7:=bx (show∀y∈C.ab k.c e.data.toList,U.scalars (U.textOf y)=some y/\(U.textOf y).length<=180 from λy ZJ=>⟨(Ah (by omega) y ZJ).1,F3 y ZJ⟩);have Rz:=bx (λ(y:List Int)=>C.eu k.d y);have Tc:=bx (wR A B g k e w ZH Z0 Z8 (by omega) hS);have aiF:=bx (λW(h:Z6 w W)=>ZH.below h);have Q6:=bx (λv(y:List Int) W (h:Z6 w W) (Z2:WideAt W v k.d) (ZJ:U.scalars (U.textOf y)=some y) (hl:(U.textOf y).length<=180)=>aeC A B v k.d (U.textOf y) y W Z2 Z0.d (by grind[C.ad]) ZJ (by omega) (hS.below h).e (hS.below h).le);rw[C.ch R4]at Tc;have GG:=bx hp;have Ud:=bx (ad0 hp ZL V9);have VB:=hp.1;obtain⟨N,Zp⟩:∃N,(C.ab k.c e.data.toList).length=N:=⟨_,rfl⟩
 have ZE:=bx Zp;rw[Zp]at V9 VB;clear R4 F3 hp hS Z0 Z8 ZH Zp
 go_in
 go_wp2_with fail;refine Tc.o.mono ?_;rintro X1 ZV ⟨⟨Zc,rfl,WJ,-⟩,ZZ⟩;have ZW:=bx ZZ;obtain⟨Yr,lc,rfl,-⟩:=WJ.slice;rw[X4,ZE.o]at WJ⊢;obtain⟨b,off,ZU,UV,N9,RK,R0,T3⟩:=WJ.get (by intro h;have WK:=congrArg List.length h;rw[X4,ZE.o,SK]at WK;omega);rw[X4,ZE.o]at UV N9;obtain⟨rfl,rfl⟩:=XN UV;have yV:=bx T3;have Fb:=bx R0;unfold maxLen at RK;clear ZZ WJ UV T3 R0;obtain⟨aje,rN⟩:∃W,W=ZV.alloc (.cells #[.pointer none,Z1] 128):=⟨_,rfl⟩
 have RF:=bx (show Lib.IsBuilder 128 5 ZV.heap.size ZV.heap.size (Lib.byteCells []) aje by rw[rN];exact Lib.fresh_isBuilder 128 5 ZV);have XW:=bx (aB rN);have DS:=bx rN;clear rN;go_wp2_with fail;rw[<-DS.o]
 go_loopw[2,9] (λUX ZD wr=>∃(i f:Nat)(Yc:List UInt8)(c:Int),UX=Z9 c/\ZD=Z9 i/\Box (EY k e.data.toList p i f Yc YV c)/\Box (Lib.IsBuilder 128 5 ZV.heap.size ZV.heap.size (Lib.byteCells Yc) wr)/\Box (Z6 ZV wr)) (λUX ZD _=>C.todo p N (intOf ZD).toNat (intOf UX))
 ·grind
 obtain⟨i,f,Yc,c,rfl,rfl,Ir,tT,Xk⟩:=hrel;have aw2:=Ir.o.top;have awT:=Ir.o.le;have X3:=bx (bt ZW.o Xk.o)
 by_cases Ng:0<c
 ·have agA:i%N<N:=Nat.mod_lt _ (by omega);obtain⟨y,ZJ⟩:=Yg (C.ab k.c e.data.toList) (i%N) (by rw[ZE.o];omega);have Wn:=bx ZJ;obtain⟨I5,CU⟩:=y7.o y (Xh ZJ);have UT:=yV.o (i%N) (U.textOf y) (by simp_all);have Ua:=(Xk.o.cell (p:=⟨b,off+i%N,none⟩) Fb.o).trans UT;have Ur:=Vh Fb.o Xk.o.size;have agB:(i:Int).tmod (N:Int)=((i%N:Nat):Int):=by rfl
  obtain⟨m,hm⟩:∃m,m=i%N:=⟨_,rfl⟩
  rw[<-hm]at agB Ua agA;have W3:=bx hm;have d1:=Yh Ng;have RC:=bx (aiF.o wr X3.o);obtain⟨ca,XQ,XP,X5,XR,X2,Xr,wp,Xz,Ym,Xp,wf,ZD,bv,wd,lo,ti,c1,c2,g1,g2,SP,BG⟩:=RC.o;have OF:=bx (Q6.o _ y wr X3.o BG.d I5 CU);obtain⟨Zd,Zx,Zr,Zk,Zl,Zg,XK,W9,W8,W7,Rf,Re,Rc,Rb,Ra,QX,QW,QV,QU,QT,QS,YS⟩:=SP.c21 YU;clear ZJ UT SP BG hm;go_wp2_with fail;refine Y3 OF.o λ_ Zz=>?_
  have Zt:=Zw Xk Zz;have Oy:=bx (adI tT.o Zz);clear Zz Ua Ur Zd Zx Zr Zk Zl Zg XK W9 W8 W7 Rf Re Rc Rb Ra QX QW QV QU QT QS YS
  by_cases hwide:c<C.aq k.d y
  ·have d2:=Yh hwide;have ZK:=bx (Ir.o.wide GG.o Ng (by rw[ZE.o];exact Wn.o) hwide);generalize C.aq k.d y=n at d2 hwide⊢;go_wp2_with fail;refine Y3 (lM ZV.heap.size ZV.heap.size _ _ Oy.o Zt.o.size) λZh Zb=>?_
   have YY:=bx (Zt.o.trans Zb);clear Zb
   go_wp2
   go_ret
   exact⟨by rw[ZK.o];rfl,bt ZW.o YY.o⟩
  have d2:=Yp hwide;obtain⟨C0,N5⟩:=Rz.o y;obtain⟨Pl,uG,Uf⟩:=Ir.o.next GG.o Ng (by rw[ZE.o];exact Wn.o) hwide CU C0;have wC:=bx uG;have PR:=bx Uf;have Wy:=bx (show Yc.length+(bs (U.textOf y)).size<=16777216 by have:=Ir.o.len;rw[Wu];omega);generalize C.aq k.d y=n at d2 hwide C0 N5 wC PR⊢;rw[ZE.o]at PR;clear uG Uf;go_wp2_with fail;refine(hL ZV.heap.size ZV.heap.size _ _ _ Oy.o Wy.o Zt.o.size).mono ?_;rintro X1 Zh ⟨rfl,L9,Zb⟩;have Ef:=bx (show Lib.IsBuilder 128 5 ZV.heap.size ZV.heap.size (Lib.byteCells (Yc++U.textOf y)) Zh from L9);have YY:=bx (Zt.o.trans Zb);clear L9 Zb
  go_wp2
  go_roundw
  ·exact⟨i+1,Pl,Yc++U.textOf y,c-n,by go_num,by go_num,wC,Ef,YY⟩
  have:=PR.o;grind[intOf]
 have d1:=Yp Ng;have ZK:=bx (Ir.o.stop Ng);go_wp2_with fail;refine Y3 (lM ZV.heap.size ZV.heap.size _ _ tT.o Xk.o.size) λZh Zb=>?_
 have YY:=bx (Xk.o.trans Zb);clear Zb
 go_wp2
 go_ret
 exact⟨by rw[ZK.o];rfl,bt ZW.o YY.o⟩
namespace C
theorem ady{g:Ga}{ls:List (List Int)}{M:Nat}(h:∀y∈ls,(U.textOf y).length<=M):∀(f i:Nat)(c:Int),(b5 g ls f i c).length<=f*M
 |0,i,c=>by simp[b5]
 |f+1,i,c=>by
  unfold b5
  split
  ·simp
  split
  ·simp
  rw[WR,s7,Nat.one_mul];have Z7:=ady (g:=g) h f (i+1) (c-meas g (ls.getD (i%ls.length) []));have Z5:(U.textOf (ls.getD (i%ls.length) [])).length<=M:=by
   rw[Rl]
   grind[U.textOf]
  omega
theorem eG{k:Kt}{e:List UInt8}(Z8:ad k=true)(ZY:e.length<=60){c:Int}(_:c<=300):(aw k e c).length<=4000000:=by
 obtain⟨Z7,Z5⟩:=e8 Z8 ZY;have ZS:=ady (g:=kg k 2) Z5 (c.toNat*(ab k.c e).length+(ab k.c e).length+1) 0 c;have ZG:c.toNat*(ab k.c e).length<=300*60:=IA (by omega) Z7;grind[aw,fH]
theorem dp{k:Kt}{s e:List UInt8}{n d r:Int}(h:ad k=true)(Z7:s.length<=600)(Z5:e.length<=60)(ZT:(if n<0\/300<n then(161:Int)else if d<0\/2<d then 2 else if ah (kg k 2) e=0 then 163 else 0)=r)(_:r≠0):aT k s n e d=[]/\aU k s n e d=r:=by
 have ZS:aU k s n e d=r:=by unfold aU;rw[Y0 (a6 h Z7 Z5)];exact ZT
 grind[aT]
theorem eI{k:Kt}{s e:List UInt8}{n d:Int}(h:ad k=true)(Z7:s.length<=600)(Z5:e.length<=60)(_:0<=n/\n<=300)(_:0<=d/\d<=2)(hm:ah (kg k 2) e≠0):aT k s n e d=dH k s (dm k s n) e d/\aU k s n e d=0:=by
 have ZS:aU k s n e d=0:=by unfold aU;rw[Y0 (a6 h Z7 Z5),Y4 (by omega),Y4 (by omega),Y4 hm]
 grind[aT]
end C
theorem qt{g:C.Ga}{s:ByteArray}(ZY:s.size<=800):C.ah g s.data.toList<=8000000:=by
 unfold C.ah
 split
 ·refine sK ?_ (λy ZJ=>(Ah ZY y ZJ).2.2) _ Ys;rw[C.cD];have Z7:=(QR g.t s.data.toList).2.len;have Z5:=OO s.data.toList;grind[size_eq]
 decide
def Mk:MapEntry:=⟨Z9 0,.func (.func 137) #[] #[],0⟩
def L0:MapEntry:=⟨Z9 1,.func (.func 138) #[] #[],1⟩
def Lk:MapEntry:=⟨Z9 2,.func (.func 139) #[] #[],2⟩
theorem aeZ:E3 #[Mk,L0,Lk]:=by
 intro x Z4;simp only[T7,J0,or_false]at Z4
 rcases Z4 with rfl|rfl|rfl <;> exact⟨_,rfl⟩
def HP(d:Int):Value:=if d=0 then Mk.val else if d=1 then L0.val else if d=2 then Lk.val else .nilFunc
theorem Ad(d:Int)(h:Nat)(W:World)(Yj:W.heap[h]?=some (.map #[Mk,L0,Lk] 3)):
  (Instr.lookup 113 (.map (some h)) (Z9 d) true).run prog W=.ok (.tuple #[HP d,.bool (decide (0<=d)&&decide (d<=2))]) W:=by
 have Z7:=aaY (P:=prog) underlying113 underlying3 W _ 3 d h Yj aeZ .nilFunc (by rfl);rw[Z7];unfold HP
 by_cases ZI:d=0
 ·subst ZI;rfl
 by_cases Z5:d=1
 ·subst Z5;rfl
 by_cases ZS:d=2
 ·subst ZS;rfl
 have Zq:(decide (0<=d)&&decide (d<=2))=false:=by
  grind
 rw[Y4 ZI,Y4 Z5,Y4 ZS,Zq];have YP:HT #[Mk,L0,Lk] d=none:=by
  rw[DJ aeZ];simp[M6,Ha,Mk,L0,Lk,Ne.symm ZI,Ne.symm Z5,Ne.symm ZS]
 grind
theorem AF(w:World):
  Calls prog 75 #[] w λe w'=>e=.returned (.map (some w.heap.size))/\w'.heap[w.heap.size]?=some (.map #[Mk,L0,Lk] 3)/\Z6 w w':=by
 have J9:=@run_makeMap prog;have D9:=λ(W:World)=>IU (P:=prog) underlying113 underlying3 W #[] 0 0 Mk.val W.heap.size rfl rfl
 have DO:=λ(W:World)=>IU (P:=prog) underlying113 underlying3 W #[Mk] 1 1 L0.val W.heap.size rfl rfl
 have D0:=λ(W:World)=>IU (P:=prog) underlying113 underlying3 W #[Mk,L0] 2 2 Lk.val W.heap.size rfl rfl
 simp only[Og,RQ,SI,Mk,L0,Lk,Nat.reduceAdd,Nat.zero_add]at D9 DO D0
 go_in
 go_wp2
 go_ret
 exact⟨rfl,World.alloc_heap_new w _,Xl w _⟩
theorem aqq(c:Int)(w:World)(_:0<=c)(_:c<=300):Calls prog 139 #[Z9 c] w λe w'=>e=.returned (.tuple #[Z9 (c/2),Z9 (c-c/2)])/\Z6 w w':=by
 have ZM:c.tdiv 2=c/2:=by grind
 have ZZ:0<=c/2:=by omega
 have Zz:c/2<=c:=by omega
 go_in
 go_wp2
 go_ret2
 exact⟨rfl,Below.refl _ _⟩
theorem aax(A:Nat->Addr)(B:Nat)(v:Value)(k:C.Kt)(s:ByteArray)(n:Int)(e:ByteArray)(d:Int)(w:World)(Z2:WZ w v k)(Z0:VT k)(ZY:s.size<=260)(Xj:e.size<=60)(hS:Sw A B w)(Z8:C.ad k=true)(_:¬(n<0\/300<n))(_:¬(d<0\/2<d))(RV:C.ah (C.kg k 2) e.data.toList=0):
  Calls prog 29 #[v,.string s,Z9 n,.string e,Z9 d] w λX1 w'=>X1=.returned (.tuple #[.string (bs (C.aT k s.data.toList n e.data.toList d)),Z9 (C.aU k s.data.toList n e.data.toList d)])/\Z6 w w':=by
 obtain⟨R2,V,rfl,VS,ZN,ZR,ZF,Yx,Xb⟩:=PO Z2 hS;have WU:=bx (ZR.o.trans ((Xl V (.cells #[.string e] 9)).mono ZR.o.size));have VJ:=bx (λ(Z8:C.ad k=true)(ZY:s.size<=600)(hp:e.size<=60)=>Mj A B _ (.slice (some ⟨V.heap.size,0,none⟩) 1 1) k s [e.data.toList] _ (Yx.o _ WU.o) Z0 (Xb.o _ WU.o) Z8 (JC V e 9) ZY (by simp) (λ_ _=>by simp_all));obtain⟨EO,OV⟩:∃v,v=HP d:=⟨_,rfl⟩
 obtain⟨Ge,Nl⟩:∃b,b=(decide (0<=d)&&decide (d<=2)):=⟨_,rfl⟩
 have OE:=bx (λh W(Yj:W.heap[h]?=some (.map #[Mk,L0,Lk] 3))=>Ad d h W Yj);rw[<-OV,<-Nl]at OE;have X9:=bx (VJ.o Z8 (by omega) Xj);have V6:s.data.toList.length<=600:=by grind[size_eq]
 have Tz:e.data.toList.length<=60:=by simp_all
 have Uu:=bx (λg W(h:Z6 w W)(ZH:PB W g k)=>EX A B g k 2 e W ZH Z0 (by omega) (hS.below h));have d0:decide (n<0)=false:=Yp (by omega);have d1:decide (300<n)=false:=Yp (by omega);obtain rfl:Ge=true:=by grind
 have ZK:=bx (C.dp (s:=s.data.toList) (e:=e.data.toList) (n:=n) (d:=d) (r:=163) Z8 V6 Tz (by omega) (by decide));rw[RV]at Uu;clear VJ Z8 Z0 hS ZY Xj Yx OV Nl V6 Tz;have ZA:=ZF.o V YU
 go_in
 go_upto_region 1 with(fail)
 rw[<-ZN.o];go_wp2_with (refine X8 rfl _ rfl _ rfl ZA VS ?_)
 refine X9.o.mono ?_;rintro X1 ZV ⟨⟨g,rfl,Vk,-⟩,ZZ⟩;have ZW:=Zw WU ZZ;have RC:=bx Vk;clear ZZ Vk ZA;go_wp2_with fail;refine(AF ZV).mono ?_;rintro X1 ZB ⟨rfl,hm,Zz⟩;have Zt:=Zw ZW Zz;have Ug:=OE.o _ ZB hm;have E6:=bx (RC.o.below Zz);clear Zz;go_wp2_with fail;refine X7 (Uu.o g ZB Zt.o E6.o) Zt.o λ_ YY=>?_
 go_wp2
 go_ret2
 exact⟨by rw[ZK.o.1,ZK.o.2] <;> rfl,YY.o⟩
theorem aeY(A:Nat->Addr)(B:Nat)(v:Value)(k:C.Kt)(s:ByteArray)(n:Int)(e:ByteArray)(d:Int)(w:World)(Z2:WZ w v k)(Z0:VT k)(ZY:s.size<=260)(Xj:e.size<=60)(hS:Sw A B w)(Z8:C.ad k=true)(ZP:¬(n<0\/300<n))(Zm:¬(d<0\/2<d))(RV:¬(C.ah (C.kg k 2) e.data.toList=0))(Ke:d=2):
  Calls prog 29 #[v,.string s,Z9 n,.string e,Z9 d] w λX1 w'=>X1=.returned (.tuple #[.string (bs (C.aT k s.data.toList n e.data.toList d)),Z9 (C.aU k s.data.toList n e.data.toList d)])/\Z6 w w':=by
 obtain⟨R2,V,rfl,VS,ZN,ZR,ZF,Yx,Xb⟩:=PO Z2 hS;have WU:=bx (ZR.o.trans ((Xl V (.cells #[.string e] 9)).mono ZR.o.size));have VJ:=bx (λ(Z8:C.ad k=true)(ZY:s.size<=600)(hp:e.size<=60)=>Mj A B _ (.slice (some ⟨V.heap.size,0,none⟩) 1 1) k s [e.data.toList] _ (Yx.o _ WU.o) Z0 (Xb.o _ WU.o) Z8 (JC V e 9) ZY (by simp) (λp _=>by simp_all));obtain⟨EO,OV⟩:∃v,v=HP d:=⟨_,rfl⟩
 obtain⟨Ge,Nl⟩:∃b,b=(decide (0<=d)&&decide (d<=2)):=⟨_,rfl⟩
 have OE:=bx (λh W(Yj:W.heap[h]?=some (.map #[Mk,L0,Lk] 3))=>Ad d h W Yj);rw[<-OV,<-Nl]at OE;have X9:=bx (VJ.o Z8 (by omega) Xj);have V6:s.data.toList.length<=600:=by grind[size_eq]
 have Tz:e.data.toList.length<=60:=by simp_all
 have Uu:=bx (λg W(h:Z6 w W)(ZH:PB W g k)=>EX A B g k 2 e W ZH Z0 (by omega) (hS.below h));have d0:decide (n<0)=false:=Yp (by omega);have d1:decide (300<n)=false:=Yp (by omega);obtain rfl:Ge=true:=by grind
 have ZK:=bx (C.eI (s:=s.data.toList) (e:=e.data.toList) (n:=n) (d:=d) Z8 V6 Tz ⟨by omega,by omega⟩ ⟨by omega,by omega⟩ RV);obtain⟨p,hp⟩:∃p,C.ck (C.kg k 2) (C.ab k.c e.data.toList) p:=by
  have h:=RV;unfold C.ah at h;rw[Y0 (C.bd (s:=e.data.toList) (C.db Z8 (i:=2) (by decide) (by decide)) (by omega))]at h;exact C.ee h
 have TR:=bx (λg W(h:Z6 w W)(ZH:PB W g k)=>EX A B g k 2 s W ZH Z0 (by omega) (hS.below h));have Tn:=bx (λg(c:Int)(ZL:c<=300) W (h:Z6 w W) (ZH:PB W g k)=>nE A B g p k e c W ZH Z0 Z8 Xj ZL hp (hS.below h));have KH:=bx (λW(h:Z6 w W)=>E7 A B s W (by omega) (hS.below h).e (hS.below h).le);have VB:=bx (λ(c:Int)(ZL:c<=300)=>C.eG (e:=e.data.toList) Z8 Tz ZL);have K7:=C.ba s.data.toList;rw[<-size_eq]at K7;have Oo:(C.ah (C.kg k 2) e.data.toList==0)=false:=by grind
 obtain⟨c,ZL⟩:∃c,c=C.dm k s.data.toList n:=⟨_,rfl⟩
 have Jg:max (n-C.ah (C.kg k 2) s.data.toList) 0=c:=by rw[ZL];rfl
 rw[<-ZL]at ZK;have N6:0<=C.ah (C.kg k 2) s.data.toList:=by
  unfold C.ah
  split
  ·exact C.di _ _ _
  omega
 have LF:C.ah (C.kg k 2) s.data.toList<=8000000:=qt (by omega);have Vl:0<=c:=by omega
 have Ph:c<=300:=by omega
 have Vs:=C.eC k e.data.toList;subst Ke;obtain rfl:EO=Lk.val:=by rw[OV];rfl
 have VX:C.aT k s.data.toList n e.data.toList 2=(C.aw k e.data.toList (c/2)++M.fix s.data.toList)++C.aw k e.data.toList (c-c/2):=by
  rw[ZK.o.1];simp[C.dH]
 have UK:=bx (show C.aT k s.data.toList n e.data.toList 2=(C.aw k e.data.toList (c/2)++M.fix s.data.toList)++C.aw k e.data.toList (c-c/2)/\C.aU k s.data.toList n e.data.toList 2=0 from⟨VX,ZK.o.2⟩);have Sv:=VB.o (c/2) (by omega);have Ni:=VB.o (c-c/2) (by omega);have CO:=bx (λg=>Tn.o g (c/2) (by omega));have CN:=bx (λg=>Tn.o g (c-c/2) (by omega));have a1:=NY (C.aw k e.data.toList (c/2)) (M.fix s.data.toList);have a2:=NY (C.aw k e.data.toList (c/2)++M.fix s.data.toList) (C.aw k e.data.toList (c-c/2));have UB:(bs (C.aw k e.data.toList (c/2))).size+(bs (M.fix s.data.toList)).size<=100000000:=by grind[Wu]
 have z2:(bs (C.aw k e.data.toList (c/2)++M.fix s.data.toList)).size+(bs (C.aw k e.data.toList (c-c/2))).size<=100000000:=by rw[Wu,Wu,WR];omega
 obtain⟨pa,FW⟩:∃t,t=C.aw k e.data.toList (c/2):=⟨_,rfl⟩
 rw[<-FW]at UK CO a1 a2 UB z2;obtain⟨YM,NC⟩:∃t,t=C.aw k e.data.toList (c-c/2):=⟨_,rfl⟩
 rw[<-NC]at UK CN a2 z2;generalize M.fix s.data.toList=RW at UK KH a1 a2 UB z2;generalize C.ah (C.kg k 2) e.data.toList=me at Uu Oo;generalize C.ah (C.kg k 2) s.data.toList=ms at TR Jg N6 LF;have wb:=bx (λW=>aqq c W Vl Ph);have z3:(bs pa).size+RW.length<=100000000:=by grind[Wu]
 have z4:(bs (pa++RW)).size+YM.length<=100000000:=by grind[Wu]
 have agh:HP 2=(.func (.func 139) #[] #[]:Value):=rfl;have kv:(Lk).val=(.func (.func 139) #[] #[]:Value):=rfl;have CY:wrap64 (n-ms)=n-ms:=IntWalk.wrap64_in _ (by omega);clear VJ Z8 Z0 hS ZY Xj Yx Nl V6 Tz Tn VB VX Sv Ni ZK K7 RV hp ZL Vs ZP Zm FW NC;have ZA:=ZF.o V YU
 go_in
 go_upto_region 1 with(fail)
 rw[<-ZN.o];go_wp2_with (refine X8 rfl _ rfl _ rfl ZA VS ?_)
 refine X9.o.mono ?_;rintro X1 ZV ⟨⟨g,rfl,Vk,-⟩,ZZ⟩;have ZW:=Zw WU ZZ;have RC:=bx Vk;clear ZZ Vk ZA;go_wp2_with fail;refine(AF ZV).mono ?_;rintro X1 ZB ⟨rfl,hm,Zz⟩;have Zt:=Zw ZW Zz;have Ug:=OE.o _ ZB hm;have E6:=bx (RC.o.below Zz);clear Zz;go_wp2_with fail;refine Y3 (Uu.o g ZB Zt.o E6.o) λZh Zb=>?_
 have YY:=Zw Zt Zb;have Ch:=bx (E6.o.below Zb);clear Zb;go_wp2_with fail;refine Y3 (TR.o g Zh YY.o Ch.o) λYL Yf=>?_
 have Ye:=Zw YY Yf;have w0:=bx (Ch.o.below Yf);clear Yf;go_wp2_with fail;refine Y3 (wb.o YL) λYK X0=>?_
 have X6:=Zw Ye X0;have BZ:=bx (w0.o.below X0);clear X0;go_wp2_with fail;refine Y3 (CO.o g YK X6.o BZ.o) λXA Sy=>?_
 have VN:=Zw X6 Sy;have u6:=bx (BZ.o.below Sy);clear Sy;go_wp2_with fail;refine Y3 (KH.o XA VN.o) λXi Rh=>?_
 have XM:=Zw VN Rh;have BY:=bx (u6.o.below Rh);clear Rh;go_wp2_with fail
 any_goals (first|(exfalso;omega)|skip)
 refine Y3 (CN.o g Xi XM.o BY.o) λ_ Rx=>?_
 have Tw:=Zw XM Rx;have ab5:=bx (BY.o.below Rx);clear Rx;go_wp2_with fail
 any_goals (first|(exfalso;omega)|skip)
 go_ret2
 exact⟨by rw[UK.o.1,UK.o.2] <;> rfl,Tw.o⟩
section
attribute[local irreducible] F.aC
theorem XT.c4:VT XT.kt:=⟨Yv.fV,Yv.fV,XT.avW,XT.auJ⟩
theorem qX(A:Nat->Addr)(B:Nat)(w:World)(hS:Sw A B w):
  Calls prog 13 #[] w λe w'=>e=.returned (.bool true)/\Z6 w w':=by
 have Xe:=bx hS;clear hS;obtain⟨RM,P7⟩:∃V,V=w.alloc (.cells #[.string {data:=#[79,116,104,101,114]},.string {data:=#[69,120,116,101,110,100]}] 9):=⟨_,rfl⟩
 have ZW:=bx (aB P7);have Te:=bx (show XC RM (.slice (some ⟨w.heap.size,0,none⟩) 2 2) Yv.names by rw[P7];exact abt w _ _ _);have hm:=aqi Yv.props Yv.rule _ Yv.names Yv.r3 Yv.cC RM Te.o Yv.nb Yv.amG Yv.rb3 Yv.fz.1 Yv.fz.2.1 Yv.fz.2.2 (by decide) Yv.adu Yv.fN.1 (by rfl);rw[show((Yv.names.length:Nat):Int)=2 from rfl,Yv.fN.2]at hm;have aff:=bx hm;have VD:=bx P7;clear hm P7
 go_in
 go_wp2_with fail;have Z4:=VD.o.symm;rw[Z4];clear Z4;refine aff.o.mono ?_;rintro e ZB ⟨⟨Sl,rfl,jJ⟩,Zz⟩;have rp:=bx (show TabAt ZB Sl Yv.tb from jJ);have Zt:=bx (bT ZW.o Zz);clear jJ Zz aff Te VD ZW;obtain⟨pi,YM,Y2,Zo,Za,rfl,t1,t2,t3,t4,t5⟩:=rp.o;obtain⟨Wx,d1,rfl⟩:=t1.slice;obtain⟨Xd,d2,rfl⟩:=t2.slice;obtain⟨Wk,d3,rfl⟩:=t3.slice;obtain⟨UY,d4,rfl⟩:=t4.slice;obtain⟨TN,d5,rfl⟩:=t5.slice;clear t1 t2 t3 t4 t5;obtain⟨p1,Hr⟩:∃q,Yv.tb.p.1.length=q:=⟨_,rfl⟩
 obtain⟨p2,Ja⟩:∃q,Yv.tb.p.2.length=q:=⟨_,rfl⟩
 obtain⟨p3,agK⟩:∃q,Yv.tb.r.length=q:=⟨_,rfl⟩
 obtain⟨Ve,agL⟩:∃q,Yv.tb.m.1.length=q:=⟨_,rfl⟩
 obtain⟨U6,j4⟩:∃q,Yv.tb.m.2.length=q:=⟨_,rfl⟩
 rw[Hr,Ja,agK,agL,j4,show Yv.tb.n=2 from rfl]at rp⊢;clear Hr Ja agK agL j4;obtain⟨We,TA⟩:∃V,V=ZB.alloc (.cells #[Z9 2,.slice Wx p1 d1,.slice Xd p2 d2,.slice Wk p3 d3,.slice UY Ve d4,.slice TN U6 d5] 31):=⟨_,rfl⟩
 have Oi:=bx (aK TA);have Zr:Z6 ZB We:=by rw[TA];exact Xl _ _
 have Zt:=bx (bT Zt.o Zr);have xe:=bx (rp.o.below Zr);have Gx:=bx (λW(h:Z6 We W)=>Oi.o.d6 h);have hy:=bx (ao4 XT.aaR false XT.r4 We XT.at6 XT.rb4);have Uv:=bx TA;clear TA Zr rp;go_wp2_with fail;rw[<-Uv.o];refine hy.o.mono ?_;rintro e Zh ⟨⟨tp,rfl,aha⟩,Zb⟩;have A9:=bx (show WideAt Zh tp XT.wd from aha);have YY:=bx (bT Zt.o Zb);have MB:=bx (xe.o.below Zb);have zq:=bx Zb;clear aha Zb hy Zt xe Uv;obtain⟨ZD,bv,rfl,t6,t7⟩:=A9.o;obtain⟨MM,d6,rfl⟩:=t6.slice;obtain⟨ML,d7,rfl⟩:=t7.slice;clear t6 t7;obtain⟨T2,agM⟩:∃q,XT.wd.p.1.length=q:=⟨_,rfl⟩
 obtain⟨Uc,agN⟩:∃q,XT.wd.p.2.length=q:=⟨_,rfl⟩
 rw[agM,agN,show XT.wd.wide=false from rfl]at A9⊢;clear agM agN;obtain⟨Kn,LW⟩:∃V,V=Zh.alloc (.cells #[.slice MM T2 d6,.slice ML Uc d7,.bool false] 33):=⟨_,rfl⟩
 have PQ:=bx (aK LW);have Zk:Z6 Zh Kn:=by rw[LW];exact Xl _ _
 have YY:=bx (bT YY.o Zk);have MB:=bx (MB.o.below Zk);have La:=bx (A9.o.below Zk);have zq:=bx (bT zq.o Zk);have yB:=bx (λW(h:Z6 Kn W)=>PQ.o.d3 h);obtain⟨rs,hp,Zm⟩:=XT.recs;have acV:=bx (arJ XT.data XT.core rs _ _ _ _ _ Kn hp Zm XT.aqS XT.rb1 XT.asV XT.rb2);have OM:=bx LW;clear LW Zk A9 hp Zm;go_wp2_with fail;rw[<-OM.o];refine acV.o.mono ?_;rintro e YL ⟨⟨UX,rfl,Kf⟩,Yf⟩;have Cl:=bx (show Sq YL UX XT.cs from Kf);have Ye:=bx (bT YY.o Yf);have If:=bx (MB.o.below Yf);have Fl:=bx (La.o.below Yf);have tg:=bx (bT zq.o Yf);have rr:=bx Yf;clear Kf Yf acV YY MB La zq OM;obtain⟨Zc,YI,ci,YQ,Yw,Yy,rfl,Z7,Z5,ZS,ZG,Zi,Yu⟩:=Cl.o;obtain⟨a1,c1,rfl,-⟩:=Z7.slice;obtain⟨a2,c2,rfl,-⟩:=Z5.slice;obtain⟨a3,c3,rfl⟩:=ZS.slice;obtain⟨a4,VG,rfl⟩:=ZG.slice;obtain⟨a5,Wv,rfl⟩:=Zi.slice;obtain⟨P8,Ov,rfl⟩:=Yu.slice;clear Z7 Z5 ZS ZG Zi Yu;obtain⟨q1,NB⟩:∃q,XT.cs.lo.length=q:=⟨_,rfl⟩
 obtain⟨q2,Py⟩:∃q,XT.cs.ti.length=q:=⟨_,rfl⟩
 obtain⟨q3,xB⟩:∃q,XT.cs.ca.1.length=q:=⟨_,rfl⟩
 obtain⟨q4,K3⟩:∃q,XT.cs.ca.2.length=q:=⟨_,rfl⟩
 obtain⟨q5,zL⟩:∃q,XT.cs.ig.1.length=q:=⟨_,rfl⟩
 obtain⟨q6,C5⟩:∃q,XT.cs.ig.2.length=q:=⟨_,rfl⟩
 rw[NB,Py,xB,K3,zL,C5]at Cl⊢;clear NB Py xB K3 zL C5;obtain⟨UZ,E0⟩:∃V,V=YL.alloc (.cells #[.slice a1 q1 c1,.slice a2 q2 c2,.slice a3 q3 c3,.slice a4 q4 VG,.slice a5 q5 Wv,.slice P8 q6 Ov] 36):=⟨_,rfl⟩
 have GN:=bx (aK E0);have Zl:Z6 YL UZ:=by rw[E0];exact Xl _ _
 have Ye:=bx (bT Ye.o Zl);have If:=bx (If.o.below Zl);have Fl:=bx (Fl.o.below Zl);have Fw:=bx (Cl.o.below Zl);have tg:=bx (bT tg.o Zl);have rr:=bx (bT rr.o Zl);have ZF:=bx (λW(h:Z6 UZ W)=>GN.o.d6 h);have KK:=bx E0;clear E0 Zl Cl
 go_upto_region 4 with(fail)
 rw[<-KK.o];obtain⟨Wz,Zq,YP,Yb,WW,VK,el⟩:=Gx.o UZ tg.o;obtain⟨f0,f1,f2,Pk⟩:=yB.o UZ rr.o;obtain⟨sP,rO⟩:∃V,V=UZ.alloc (.cells #[Z9 0,Z1,Z1,Z1,Z1,Z1,Z9 0,Z1,Z1,Z1,Z1,Z1,Z1,Z1,.bool false,Z1,Z1,Z1,Z1,Z1,Z1] 38):=⟨_,rfl⟩
 have ZA:Zv sP UZ.heap.size 38 #[Z9 0,Z1,Z1,Z1,Z1,Z1,Z9 0,Z1,Z1,Z1,Z1,Z1,Z1,Z1,.bool false,Z1,Z1,Z1,Z1,Z1,Z1]:=by rw[rO];exact Zv.new _ _ _
 have ka:Z6 UZ sP:=by rw[rO];exact Xl UZ _
 obtain⟨No,D8⟩:∃V,V=sP.setRow UZ.heap.size #[Z9 2,.slice Wx p1 d1,.slice Xd p2 d2,.slice Wk p3 d3,.slice UY Ve d4,.slice TN U6 d5,Z9 2,.slice Wx p1 d1,.slice Xd p2 d2,.slice Wk p3 d3,.slice UY Ve d4,.slice TN U6 d5,.slice MM T2 d6,.slice ML Uc d7,.bool false,.slice a1 q1 c1,.slice a2 q2 c2,.slice a3 q3 c3,.slice a4 q4 VG,.slice a5 q5 Wv,.slice P8 q6 Ov]:=⟨_,rfl⟩
 have JY:=bx (show Zv No UZ.heap.size 38 #[Z9 2,.slice Wx p1 d1,.slice Xd p2 d2,.slice Wk p3 d3,.slice UY Ve d4,.slice TN U6 d5,Z9 2,.slice Wx p1 d1,.slice Xd p2 d2,.slice Wk p3 d3,.slice UY Ve d4,.slice TN U6 d5,.slice MM T2 d6,.slice ML Uc d7,.bool false,.slice a1 q1 c1,.slice a2 q2 c2,.slice a3 q3 c3,.slice a4 q4 VG,.slice a5 q5 Wv,.slice P8 q6 Ov] by rw[D8];exact ZA.setRow _);have Zg:Z6 UZ No:=by
  rw[D8];exact ka.trans ((Turns.setRow (W:=sP) (own:=λq=>q=UZ.heap.size) (g:=UZ.heap.size) rfl _).below ka.size (λq _=>by omega))
 have X6:=bx (bT Ye.o Zg);have HU:=bx (If.o.below Zg);have yD:=bx (Fl.o.below Zg);have Pn:=bx (Fw.o.below Zg);have Pd:=bx (λW(h:Z6 No W)=>JY.o.below h JY.o.lt);have Jj:=bx D8;clear D8 Zg
 go_upto_region 5 with(
  obtain⟨g0,g1,g2,g3,g4,g5,k5⟩:=ZF.o UZ YU;refine wpList_plain rfl λK Xc=>?_
  go_simp;refine Xc _ _ ?_;clear Xc K;refine wpList_plain rfl λK Xc=>?_
  go_simp;refine Xc _ _ ?_;clear Xc K;refine wpList_plain rfl λK Xc=>?_
  go_simp;refine Xc _ _ ?_;clear Xc K;refine wpList_plain rfl λK Xc=>?_
  go_simp;refine Xc _ _ ?_;clear Xc K;refine wpList_plain rfl λK Xc=>?_
  go_simp;refine Xc _ _ ?_;clear Xc K;refine wpList_plain rfl λK Xc=>?_
  go_simp;refine Xc _ _ ?_;clear Xc K;clear g0 g1 g2 g3 g4 g5 k5;rw[<-rO];refine wH rfl _ _ rfl _ rfl rfl ZA rfl (by rfl) (by kernel_rfl) ?_)
 rw[<-Jj.o];clear Wz Zq YP Yb WW VK el f0 f1 f2 Pk ZA rO ka;have WL:=bx (λW(h:Z6 No W)=>show WZ W (.agg #[Z9 2,.slice Wx p1 d1,.slice Xd p2 d2,.slice Wk p3 d3,.slice UY Ve d4,.slice TN U6 d5,Z9 2,.slice Wx p1 d1,.slice Xd p2 d2,.slice Wk p3 d3,.slice UY Ve d4,.slice TN U6 d5,.slice MM T2 d6,.slice ML Uc d7,.bool false,.slice a1 q1 c1,.slice a2 q2 c2,.slice a3 q3 c3,.slice a4 q4 VG,.slice a5 q5 Wv,.slice P8 q6 Ov]) XT.kt from⟨_,_,_,_,_,_,_,_,_,_,_,_,_,_,_,_,_,_,_,_,_,rfl,⟨rfl,rfl,rfl,HU.o.below h,yD.o.below h,Pn.o.below h,HU.o.below h⟩⟩);have XO:=bx (λW(h:Z6 No W)=>Xe.o.below (bT X6.o h));generalize UZ.heap.size=Yy at Pd⊢;clear Oi PQ GN JY If HU Fl yD Fw Pn tg rr KK Jj Ye Xe Gx yB ZF;have Z4:=ad7 A B _ XT.kt 2 (bs XT.t1) (bs XT.t5) 3 No (WL.o No (Below.refl _ No)) XT.c4 (by decide) (by decide) (XO.o No (Below.refl _ No)) XT.cj (by decide) (by decide);rw[show(bs XT.t1).data.toList=XT.t1 from rfl,show(bs XT.t5).data.toList=XT.t5 from rfl,XT.trunc1.1,XT.trunc1.2]at Z4;have Yt:=bx (show Calls prog 15 #[.agg #[Z9 2,.slice Wx p1 d1,.slice Xd p2 d2,.slice Wk p3 d3,.slice UY Ve d4,.slice TN U6 d5,Z9 2,.slice Wx p1 d1,.slice Xd p2 d2,.slice Wk p3 d3,.slice UY Ve d4,.slice TN U6 d5,.slice MM T2 d6,.slice ML Uc d7,.bool false,.slice a1 q1 c1,.slice a2 q2 c2,.slice a3 q3 c3,.slice a4 q4 VG,.slice a5 q5 Wv,.slice P8 q6 Ov],Z9 2,.string {data:=#[97,98,99,100]},Z9 3,.string {data:=#[46]}] No λe w'=>e=.returned (.tuple #[.string {data:=#[97,98,46]},Z9 0])/\Z6 No w' from Z4);have ZA:=Pd.o No (Below.refl _ No);clear Z4;go_wp2_with (refine X8 rfl _ rfl _ rfl ZA rfl ?_)
 refine Y3 Yt.o λXA Z8=>?_
 have MU:=bx (bT (Below.refl _ No) Z8);clear ZA Z8 Yt;have Z4:=afk A B _ XT.kt (bs XT.t6) XA (WL.o XA MU.o) XT.c4 (by decide) (XO.o XA MU.o) XT.cj;rw[show(bs XT.t6).data.toList=XT.t6 from rfl,XT.aai.1,XT.aai.2]at Z4;have Yt:=bx (show Calls prog 22 #[.agg #[Z9 2,.slice Wx p1 d1,.slice Xd p2 d2,.slice Wk p3 d3,.slice UY Ve d4,.slice TN U6 d5,Z9 2,.slice Wx p1 d1,.slice Xd p2 d2,.slice Wk p3 d3,.slice UY Ve d4,.slice TN U6 d5,.slice MM T2 d6,.slice ML Uc d7,.bool false,.slice a1 q1 c1,.slice a2 q2 c2,.slice a3 q3 c3,.slice a4 q4 VG,.slice a5 q5 Wv,.slice P8 q6 Ov],.string {data:=#[97,204,129,98]}] XA λe w'=>e=.returned (.tuple #[.string {data:=#[98,97,204,129]},Z9 0])/\Z6 XA w' from Z4);have ZA:=Pd.o XA MU.o;clear Z4;go_wp2_with (refine X8 rfl _ rfl _ rfl ZA rfl ?_)
 refine Y3 Yt.o λXi Z8=>?_
 have Lb:=bx (bT MU.o Z8);clear ZA Z8 Yt;have Z4:=hs A B _ XT.kt (bs XT.t7) (bs [45]) Xi (WL.o Xi Lb.o) XT.c4 (by decide) (by decide) (XO.o Xi Lb.o) XT.cj (by decide);rw[show(bs XT.t7).data.toList=XT.t7 from rfl,show(bs [45]).data.toList=[45]from rfl,XT.fQ.1,XT.fQ.2]at Z4;have Z4:Calls prog 26 #[.agg #[Z9 2,.slice Wx p1 d1,.slice Xd p2 d2,.slice Wk p3 d3,.slice UY Ve d4,.slice TN U6 d5,Z9 2,.slice Wx p1 d1,.slice Xd p2 d2,.slice Wk p3 d3,.slice UY Ve d4,.slice TN U6 d5,.slice MM T2 d6,.slice ML Uc d7,.bool false,.slice a1 q1 c1,.slice a2 q2 c2,.slice a3 q3 c3,.slice a4 q4 VG,.slice a5 q5 Wv,.slice P8 q6 Ov],.string {data:=#[97,45,98,45,45,99]},.string {data:=#[45]}] Xi λe w'=>(∃Zy,e=.returned (.tuple #[Zy,Z9 0])/\XC w' Zy [[97],[98],[],[99]])/\Z6 Xi w':=Z4
 have Yt:=bx Z4;have ZA:=Pd.o Xi Lb.o;clear Z4;go_wp2_with (refine X8 rfl _ rfl _ rfl ZA rfl ?_)
 refine Yt.o.mono ?_;rintro e Va ⟨⟨Rq,rfl,xG⟩,Z8⟩;have M2:=bx (bT Lb.o Z8);obtain⟨N4,KW,rfl⟩:∃N4 KW,Rq=.slice N4 4 KW:=⟨_,_,(xG.slice.choose_spec.choose_spec).1⟩
 have O8:=bx xG;clear xG;clear ZA Z8 Yt;have Z4:=aeY A B _ XT.kt (bs XT.t8) 7 (bs XT.t9) 2 Va (WL.o Va M2.o) XT.c4 (by decide) (by decide) (XO.o Va M2.o) XT.cj (by decide) (by decide) (by rw[show C.ah (C.kg XT.kt 2) (bs XT.t9).data.toList=3 from XT.ac9];decide) rfl;rw[show(bs XT.t8).data.toList=XT.t8 from rfl,show(bs XT.t9).data.toList=XT.t9 from rfl,XT.aeE.1,XT.aeE.2]at Z4;have Yt:=bx (show Calls prog 29 #[.agg #[Z9 2,.slice Wx p1 d1,.slice Xd p2 d2,.slice Wk p3 d3,.slice UY Ve d4,.slice TN U6 d5,Z9 2,.slice Wx p1 d1,.slice Xd p2 d2,.slice Wk p3 d3,.slice UY Ve d4,.slice TN U6 d5,.slice MM T2 d6,.slice ML Uc d7,.bool false,.slice a1 q1 c1,.slice a2 q2 c2,.slice a3 q3 c3,.slice a4 q4 VG,.slice a5 q5 Wv,.slice P8 q6 Ov],.string {data:=#[97,98]},Z9 7,.string {data:=#[120,121,122]},Z9 2] Va λe w'=>e=.returned (.tuple #[.string {data:=#[120,121,97,98,120,121,122]},Z9 0])/\Z6 Va w' from Z4);have ZA:=Pd.o Va M2.o;clear Z4;go_wp2_with (refine X8 rfl _ rfl _ rfl ZA rfl ?_)
 refine Y3 Yt.o λPM Z8=>?_
 have wu:=bx (bT M2.o Z8);have O8:=bx (O8.o.below Z8);clear ZA Z8 Yt;have Z4:=hK A B _ XT.kt (bs XT.t6) 4 2 PM (WL.o PM wu.o) XT.c4 (by decide) (by decide) (by decide) (XO.o PM wu.o) XT.cj (by decide);rw[show(bs XT.t6).data.toList=XT.t6 from rfl,XT.aeB.1,XT.aeB.2]at Z4;have Yt:=bx (show Calls prog 20 #[.agg #[Z9 2,.slice Wx p1 d1,.slice Xd p2 d2,.slice Wk p3 d3,.slice UY Ve d4,.slice TN U6 d5,Z9 2,.slice Wx p1 d1,.slice Xd p2 d2,.slice Wk p3 d3,.slice UY Ve d4,.slice TN U6 d5,.slice MM T2 d6,.slice ML Uc d7,.bool false,.slice a1 q1 c1,.slice a2 q2 c2,.slice a3 q3 c3,.slice a4 q4 VG,.slice a5 q5 Wv,.slice P8 q6 Ov],.string {data:=#[97,204,129,98]},Z9 4,Z9 2] PM λe w'=>e=.returned (.tuple #[.string {data:=#[97,204,129]},Z9 0])/\Z6 PM w' from Z4);have ZA:=Pd.o PM wu.o;clear Z4;go_wp2_with (refine X8 rfl _ rfl _ rfl ZA rfl ?_)
 refine Y3 Yt.o λEo Z8=>?_
 have M9:=bx (bT wu.o Z8);have O8:=bx (O8.o.below Z8);clear ZA Z8 Yt;have Z4:=adh A B _ XT.kt (bs XT.t8) 1 9 Eo (WL.o Eo M9.o) XT.c4 (by decide) (XO.o Eo M9.o) XT.cj (by decide);rw[show(bs XT.t8).data.toList=XT.t8 from rfl,XT.gl.1,XT.gl.2]at Z4;have Yt:=bx (show Calls prog 24 #[.agg #[Z9 2,.slice Wx p1 d1,.slice Xd p2 d2,.slice Wk p3 d3,.slice UY Ve d4,.slice TN U6 d5,Z9 2,.slice Wx p1 d1,.slice Xd p2 d2,.slice Wk p3 d3,.slice UY Ve d4,.slice TN U6 d5,.slice MM T2 d6,.slice ML Uc d7,.bool false,.slice a1 q1 c1,.slice a2 q2 c2,.slice a3 q3 c3,.slice a4 q4 VG,.slice a5 q5 Wv,.slice P8 q6 Ov],.string {data:=#[97,98]},Z9 1,Z9 9] Eo λe w'=>e=.returned (.tuple #[.string {data:=#[98]},Z9 0])/\Z6 Eo w' from Z4);have ZA:=Pd.o Eo M9.o;clear Z4;go_wp2_with (refine X8 rfl _ rfl _ rfl ZA rfl ?_)
 refine Y3 Yt.o λEl Z8=>?_
 have wx:=bx (bT M9.o Z8);have O8:=bx (O8.o.below Z8);clear ZA Z8 Yt;have Z4:=hR A B _ XT.kt (bs XT.t12) El (WL.o El wx.o) XT.c4 (by decide) (XO.o El wx.o) XT.cj;rw[show(bs XT.t12).data.toList=XT.t12 from rfl,(C.ey XT.cj (s:=XT.t12) (by decide)).1,(C.ey XT.cj (s:=XT.t12) (by decide)).2,show T.bC XT.kt.s XT.kt.w XT.t12=0 from XT.acy.1,show T.bD XT.kt.s XT.kt.w XT.t12=_ from XT.acy.2]at Z4;have Yt:=bx (show Calls prog 43 #[.agg #[Z9 2,.slice Wx p1 d1,.slice Xd p2 d2,.slice Wk p3 d3,.slice UY Ve d4,.slice TN U6 d5,Z9 2,.slice Wx p1 d1,.slice Xd p2 d2,.slice Wk p3 d3,.slice UY Ve d4,.slice TN U6 d5,.slice MM T2 d6,.slice ML Uc d7,.bool false,.slice a1 q1 c1,.slice a2 q2 c2,.slice a3 q3 c3,.slice a4 q4 VG,.slice a5 q5 Wv,.slice P8 q6 Ov],.string {data:=#[97,255]}] El λe w'=>e=.returned (.tuple #[.string {data:=#[65,239,191,189]},Z9 0])/\Z6 El w' from Z4);have ZA:=Pd.o El wx.o;clear Z4;go_wp2_with (refine X8 rfl _ rfl _ rfl ZA rfl ?_)
 refine Y3 Yt.o λtq Z8=>?_
 have qR:=bx (bT wx.o Z8);have O8:=bx (O8.o.below Z8);clear ZA Z8 Yt;have Z4:=aax A B _ XT.kt (bs []) 3 (bs XT.t10) 0 tq (WL.o tq qR.o) XT.c4 (by decide) (by decide) (XO.o tq qR.o) XT.cj (by decide) (by decide) XT.acb;rw[show(bs []).data.toList=[]from rfl,show(bs XT.t10).data.toList=XT.t10 from rfl,XT.abr]at Z4;have ZY:C.aT XT.kt [] 3 XT.t10 0=[]:=by simp[C.aT,XT.abr]
 rw[ZY]at Z4;clear ZY;have Yt:=bx (show Calls prog 29 #[.agg #[Z9 2,.slice Wx p1 d1,.slice Xd p2 d2,.slice Wk p3 d3,.slice UY Ve d4,.slice TN U6 d5,Z9 2,.slice Wx p1 d1,.slice Xd p2 d2,.slice Wk p3 d3,.slice UY Ve d4,.slice TN U6 d5,.slice MM T2 d6,.slice ML Uc d7,.bool false,.slice a1 q1 c1,.slice a2 q2 c2,.slice a3 q3 c3,.slice a4 q4 VG,.slice a5 q5 Wv,.slice P8 q6 Ov],.string {data:=#[]},Z9 3,.string {data:=#[204,129]},Z9 0] tq λe w'=>e=.returned (.tuple #[.string {data:=#[]},Z9 163])/\Z6 tq w' from Z4);have ZA:=Pd.o tq qR.o;clear Z4;go_wp2_with (refine X8 rfl _ rfl _ rfl ZA rfl ?_)
 refine Y3 Yt.o λoG Z8=>?_
 have vS:=bx (bT qR.o Z8);have O8:=bx (O8.o.below Z8);clear ZA Z8 Yt;obtain⟨oJ,rK⟩:∃V,V=oG.alloc (.cells #[.string {data:=#[97]},.string {data:=#[98]},.string {data:=#[]},.string {data:=#[99]}] 9):=⟨_,rfl⟩
 have XK:Z6 oG oJ:=by rw[rK];exact Xl _ _
 have i6:XC oJ (.slice (some ⟨oG.heap.size,0,none⟩) 4 4) [[97],[98],[],[99]]:=by rw[rK];exact U8.ei (xs:=[Vu [97],Vu [98],Vu [],Vu [99]]) (Zv.new oG 9 #[.string {data:=#[97]},.string {data:=#[98]},.string {data:=#[]},.string {data:=#[99]}]) (by simp)
 have Tj:=bx (acg _ _ [[97],[98],[],[99]] oJ (O8.o.below XK) i6 (by simp));have VN:=bx (bT vS.o XK);have Ft:=bx rK;clear i6 XK rK;go_wp2_with fail;rw[<-Ft.o];refine Y3 Tj.o λ_ Z8=>?_
 have air:=bx (bT X6.o (bT VN.o Z8));clear Z8
 go_wp2
 go_ret
 exact⟨rfl,air.o⟩
end
section
open Go.Shelf
def zm(k:C.Kt):C.Kt:=⟨VH k.c,VH k.w,L5 k.d,RL k.s⟩
theorem tc(l:List F.Map):(Em l).length<=40/\∀x∈Em l,x.2.length<=5:=by
 unfold Em;refine⟨by grind,λx Z4=>?_⟩;obtain⟨y,-,rfl⟩:=SL.1 Z4;show(y.2.take 5).length<=5
 grind
theorem ajh(c:T.Cs):T.Small (RL c) where
 lo:=by have:=(tc c.lo).1;show(Em c.lo).length<=_;omega
 loA:=λx Z4=>by have:=(tc c.lo).2 x Z4;omega
 ti:=by have:=(tc c.ti).1;show(Em c.ti).length<=_;omega
 tiA:=λx Z4=>by have:=(tc c.ti).2 x Z4;omega
 c1:=by have:=(Hh c.ca).1;show(P1 c.ca).1.length<=_;omega
 c2:=by have:=(Hh c.ca).2.1;show(P1 c.ca).2.length<=_;omega
 g1:=by have:=(Hh c.ig).1;show(P1 c.ig).1.length<=_;omega
 g2:=by have:=(Hh c.ig).2.1;show(P1 c.ig).2.length<=_;omega
 c3:=λr ZT=>by have:=(Hh c.ca).2.2 r ZT;omega
 g3:=λr ZT=>by have:=(Hh c.ig).2.2 r ZT;omega
theorem sW(k:C.Kt):VT (zm k):=⟨ik k.c,ik k.w,al4 k.d,ajh k.s⟩
theorem ix:(prog.info? 38).map (·.size)=some 21:=by rfl
theorem sY(v:Value)(k:C.Kt)(YR w:World)(Z2:WZ YR v k)(Yn:Z6 YR w):
  Calls prog 14 #[v] w λe w'=>Z6 w w'/\∃Zy,e=.returned Zy/\∀W',Turns (λq=>q<w.heap.size) w' W'->Z6 YR W'->WZ W' Zy (zm k):=by
 obtain⟨ca,XQ,XP,X5,XR,X2,Xr,wp,Xz,Ym,Xp,wf,ZD,bv,wd,lo,ti,c1,c2,g1,g2,rfl,Z3⟩:=Z2;have ZR:=bx Yn;have UH:=bx (λW(h:Z6 w W)=>ih _ k.c YR W Z3.c (bt ZR.o h));have UA:=bx (λW(h:Z6 w W)=>ih _ k.w YR W Z3.w (bt ZR.o h));have Un:=bx (λW(h:Z6 w W)=>alV _ k.d YR W Z3.d (bt ZR.o h));have Fw:=bx (λW(h:Z6 w W)=>alS _ k.s YR W Z3.s (bt ZR.o h));clear Z3 Yn;obtain⟨V,ZO⟩:∃V,V=(w.alloc (.cells #[Z9 ca,XQ,XP,X5,XR,X2,Z9 Xr,wp,Xz,Ym,Xp,wf,ZD,bv,.bool wd,lo,ti,c1,c2,g1,g2] 38)).alloc (.cells #[Z9 0,Z1,Z1,Z1,Z1,Z1,Z9 0,Z1,Z1,Z1,Z1,Z1,Z1,Z1,.bool false,Z1,Z1,Z1,Z1,Z1,Z1] 38):=⟨_,rfl⟩
 have XI:=bx (show Sep [Pc.blk (w.heap.size+1) 38 #[Z9 0,Z1,Z1,Z1,Z1,Z1,Z9 0,Z1,Z1,Z1,Z1,Z1,Z1,Z1,.bool false,Z1,Z1,Z1,Z1,Z1,Z1],Pc.blk w.heap.size 38 #[Z9 ca,XQ,XP,X5,XR,X2,Z9 Xr,wp,Xz,Ym,Xp,wf,ZD,bv,.bool wd,lo,ti,c1,c2,g1,g2],Pc.old w.heap.size w] V by
  rw[ZO];have h:=((Sep.start w).ak 38 #[Z9 ca,XQ,XP,X5,XR,X2,Z9 Xr,wp,Xz,Ym,Xp,wf,ZD,bv,.bool wd,lo,ti,c1,c2,g1,g2]).ak 38 #[Z9 0,Z1,Z1,Z1,Z1,Z1,Z9 0,Z1,Z1,Z1,Z1,Z1,Z1,Z1,.bool false,Z1,Z1,Z1,Z1,Z1,Z1]
  simp_all)
 have Wj:=bx (show Z6 w V from XI.o.bel (by simp));have T6:=bx (XI.o.blk 1 rfl);have Pd:=bx (λW(h:Z6 V W)=>T6.o.c21 h);have ZN:=bx ZO;clear ZO
 go_in
 go_upto_region 1 with(fail)
 rw[<-ZN.o];refine Vv 13 (λW=>ZQ W w.heap.size 0=some (Z9 ca)/\ZQ W w.heap.size 1=some (XQ)/\ZQ W w.heap.size 2=some (XP)/\ZQ W w.heap.size 3=some (X5)/\ZQ W w.heap.size 4=some (XR)/\ZQ W w.heap.size 5=some (X2)/\ZQ W w.heap.size 6=some (Z9 Xr)/\ZQ W w.heap.size 7=some (wp)/\ZQ W w.heap.size 8=some (Xz)/\ZQ W w.heap.size 9=some (Ym)/\ZQ W w.heap.size 10=some (Xp)/\ZQ W w.heap.size 11=some (wf)/\ZQ W w.heap.size 12=some (ZD)/\ZQ W w.heap.size 13=some (bv)/\ZQ W w.heap.size 14=some (.bool wd)/\ZQ W w.heap.size 15=some (lo)/\ZQ W w.heap.size 16=some (ti)/\ZQ W w.heap.size 17=some (c1)/\ZQ W w.heap.size 18=some (c2)/\ZQ W w.heap.size 19=some (g1)/\ZQ W w.heap.size 20=some (g2)/\w.heap.size<W.heap.size) (by rfl) ?_;have Y9:=bx (show Z6 V V.drew from VQ V 1);have Ud:=bx (Pd.o _ Y9.o);have YA:=bx (bt Wj.o Y9.o);have Xm:=bx XI.o.drew;generalize V.drew=Yl at *;refine Vp [0,1,3,4,6,7,9,10] ?_
 iterate 8 (refine Vq ?_ rfl Ud.o ?_ ?_;rotate_left;·rintro w ⟨q1,q2,q3,q4,q5,q6,q7,q8,q9,q10,So,Sn,Sb,Rv,Ru,Rn,Rt,Rr,ic,ahK,ahL,ahM⟩;go_simp;try with_reducible rfl)
 refine Vr ?_;refine Y1 2 rfl λY7 ZX=>?_
 go_simp;refine(UH.o _ YA.o).mono ?_;rintro e ZB ⟨Z8,Zy,rfl,ZM⟩;have TM:=ZM ZB (Turns.refl _ _) (ZR.o.trans ((bt YA.o Z8).mono ZR.o.size));obtain⟨aAP,aAL,aAR,aAJ,azG,rfl,i1,i2,i3,i4,i5⟩:=TM;obtain⟨a1,Wx,rfl⟩:=i1.slice;obtain⟨a2,Xd,rfl⟩:=i2.slice;obtain⟨a3,Wk,rfl⟩:=i3.slice;obtain⟨a4,UY,rfl⟩:=i4.slice;obtain⟨a5,TN,rfl⟩:=i5.slice;clear i1 i2 i3 i4 i5;have NI:=bx ZM;have G9:=bx Z8;have il:=bx (bt Y9.o Z8);have td:=Zw YA Z8;have alN:=bx (Xm.o.below Z8);clear Z8 ZM;refine ZX.out _ _ (λ_=>Pd.o _ il.o) ?_;clear ZX Y7;refine Y1 5 rfl λY7 ZX=>?_
 go_simp;refine(UA.o _ td.o).mono ?_;rintro e Zh ⟨Z8,Zy,rfl,ZM⟩;have TM:=ZM Zh (Turns.refl _ _) (ZR.o.trans ((bt td.o Z8).mono ZR.o.size));obtain⟨aAQ,aAM,aAS,aAK,azH,rfl,i1,i2,i3,i4,i5⟩:=TM;obtain⟨P8,MM,rfl⟩:=i1.slice;obtain⟨BV,ML,rfl⟩:=i2.slice;obtain⟨yb,xY,rfl⟩:=i3.slice;obtain⟨a9,xX,rfl⟩:=i4.slice;obtain⟨yf,x7,rfl⟩:=i5.slice;clear i1 i2 i3 i4 i5;have Gj:=bx ZM;have xe:=bx Z8;have iq:=bx (bt il.o Z8);have oO:=Zw td Z8;have alO:=bx (alN.o.below Z8);clear Z8 ZM;refine ZX.out _ _ (λ_=>Pd.o _ iq.o) ?_;clear ZX Y7;refine Y1 8 rfl λY7 ZX=>?_
 go_simp;refine(Un.o _ oO.o).mono ?_;rintro e YL ⟨Z8,Zy,rfl,ZM⟩;have TM:=ZM YL (Turns.refl _ _) (ZR.o.trans ((bt oO.o Z8).mono ZR.o.size));obtain⟨aAC,azr,rfl,i1,i2⟩:=TM;obtain⟨ye,x6,rfl⟩:=i1.slice;obtain⟨a12,x5,rfl⟩:=i2.slice;clear i1 i2;have alM:=bx ZM;have MB:=bx Z8;have iu:=bx (bt iq.o Z8);have oN:=Zw oO Z8;have alP:=bx (alO.o.below Z8);clear Z8 ZM;refine ZX.out _ _ (λ_=>Pd.o _ iu.o) ?_;clear ZX Y7;refine Y1 11 rfl λY7 ZX=>?_
 go_simp;refine(Fw.o _ oN.o).mono ?_;rintro e YK ⟨Z8,Zy,rfl,ZM⟩;have TM:=ZM YK (Turns.refl _ _) (ZR.o.trans ((bt oN.o Z8).mono ZR.o.size));obtain⟨xy,t4,azv,azu,azK,azI,rfl,i1,i2,i3,i4,i5,i6⟩:=TM;obtain⟨zx,x4,rfl,-⟩:=i1.slice;obtain⟨zv,x3,rfl,-⟩:=i2.slice;obtain⟨zw,x2,rfl⟩:=i3.slice;obtain⟨yd,x1,rfl⟩:=i4.slice;obtain⟨yc,x0,rfl⟩:=i5.slice;obtain⟨zu,xZ,rfl⟩:=i6.slice;clear i1 i2 i3 i4 i5 i6;have Gi:=bx ZM;have If:=bx Z8;have ir:=bx (bt iu.o Z8);have azn:=Zw oN Z8;have iw:=bx (alP.o.below Z8);clear Z8 ZM;refine ZX.out _ _ (λ_=>Pd.o _ ir.o) ?_;clear ZX Y7;refine Y1 12 rfl λY7 ZX=>?_
 go_simp;refine ZX.out _ _ (λ_=>Pd.o _ ir.o) ?_;clear ZX Y7;have P0:=bx (show Sep [Pc.blk (w.heap.size+1) 38 #[Z9 (VH k.c).n,.slice a1 (VH k.c).p.1.length Wx,.slice a2 (VH k.c).p.2.length Xd,.slice a3 (VH k.c).r.length Wk,.slice a4 (VH k.c).m.1.length UY,.slice a5 (VH k.c).m.2.length TN,Z9 (VH k.w).n,.slice P8 (VH k.w).p.1.length MM,.slice BV (VH k.w).p.2.length ML,.slice yb (VH k.w).r.length xY,.slice a9 (VH k.w).m.1.length xX,.slice yf (VH k.w).m.2.length x7,.slice ye (L5 k.d).p.1.length x6,.slice a12 (L5 k.d).p.2.length x5,.bool (L5 k.d).wide,.slice zx (RL k.s).lo.length x4,.slice zv (RL k.s).ti.length x3,.slice zw (RL k.s).ca.1.length x2,.slice yd (RL k.s).ca.2.length x1,.slice yc (RL k.s).ig.1.length x0,.slice zu (RL k.s).ig.2.length xZ],Pc.blk w.heap.size 38 #[Z9 ca,XQ,XP,X5,XR,X2,Z9 Xr,wp,Xz,Ym,Xp,wf,ZD,bv,.bool wd,lo,ti,c1,c2,g1,g2],Pc.old w.heap.size w] _ from iw.o.setRow 0 rfl #[Z9 (VH k.c).n,.slice a1 (VH k.c).p.1.length Wx,.slice a2 (VH k.c).p.2.length Xd,.slice a3 (VH k.c).r.length Wk,.slice a4 (VH k.c).m.1.length UY,.slice a5 (VH k.c).m.2.length TN,Z9 (VH k.w).n,.slice P8 (VH k.w).p.1.length MM,.slice BV (VH k.w).p.2.length ML,.slice yb (VH k.w).r.length xY,.slice a9 (VH k.w).m.1.length xX,.slice yf (VH k.w).m.2.length x7,.slice ye (L5 k.d).p.1.length x6,.slice a12 (L5 k.d).p.2.length x5,.bool (L5 k.d).wide,.slice zx (RL k.s).lo.length x4,.slice zv (RL k.s).ti.length x3,.slice zw (RL k.s).ca.1.length x2,.slice yd (RL k.s).ca.2.length x1,.slice yc (RL k.s).ig.1.length x0,.slice zu (RL k.s).ig.2.length xZ]);have NH:=bx (show Turns (λq=>q=w.heap.size+1) YK _ from Turns.setRow (own:=λq=>q=w.heap.size+1) (g:=w.heap.size+1) rfl #[Z9 (VH k.c).n,.slice a1 (VH k.c).p.1.length Wx,.slice a2 (VH k.c).p.2.length Xd,.slice a3 (VH k.c).r.length Wk,.slice a4 (VH k.c).m.1.length UY,.slice a5 (VH k.c).m.2.length TN,Z9 (VH k.w).n,.slice P8 (VH k.w).p.1.length MM,.slice BV (VH k.w).p.2.length ML,.slice yb (VH k.w).r.length xY,.slice a9 (VH k.w).m.1.length xX,.slice yf (VH k.w).m.2.length x7,.slice ye (L5 k.d).p.1.length x6,.slice a12 (L5 k.d).p.2.length x5,.bool (L5 k.d).wide,.slice zx (RL k.s).lo.length x4,.slice zv (RL k.s).ti.length x3,.slice zw (RL k.s).ca.1.length x2,.slice yd (RL k.s).ca.2.length x1,.slice yc (RL k.s).ig.1.length x0,.slice zu (RL k.s).ig.2.length xZ]);refine Y1 13 rfl λY7 ZX=>?_
 refine ie rfl 38 _ _ rfl (w.heap.size+1) (cells:=#[Z9 (VH k.c).n,.slice a1 (VH k.c).p.1.length Wx,.slice a2 (VH k.c).p.2.length Xd,.slice a3 (VH k.c).r.length Wk,.slice a4 (VH k.c).m.1.length UY,.slice a5 (VH k.c).m.2.length TN,Z9 (VH k.w).n,.slice P8 (VH k.w).p.1.length MM,.slice BV (VH k.w).p.2.length ML,.slice yb (VH k.w).r.length xY,.slice a9 (VH k.w).m.1.length xX,.slice yf (VH k.w).m.2.length x7,.slice ye (L5 k.d).p.1.length x6,.slice a12 (L5 k.d).p.2.length x5,.bool (L5 k.d).wide,.slice zx (RL k.s).lo.length x4,.slice zv (RL k.s).ti.length x3,.slice zw (RL k.s).ca.1.length x2,.slice yd (RL k.s).ca.2.length x1,.slice yc (RL k.s).ig.1.length x0,.slice zu (RL k.s).ig.2.length xZ]) (by rfl) (by rfl) (iw.o.blk 0 rfl) ix rfl (by kernel_rfl) ?_;refine ZX.out _ _ (λh=>by cases h) ?_;clear ZX Y7;refine kD ?_ _;go_wp2_with fail;have Hd:=P0.o.bel (n:=w.heap.size) (W0:=w) (by simp);have Zu:=Xm.o.lt (Pw ..) (k:=w.heap.size+1) rfl;have z2:=G9.o.size;have z3:=xe.o.size;have z4:=MB.o.size;have z5:=If.o.size;have u:=λ(n:Nat)(h:w.heap.size+1<n)=>NH.o.mono (own':=λq=>q<n) (λq Zs=>by omega)
 refine bodyPost_ret (v:=.agg #[Z9 (VH k.c).n,.slice a1 (VH k.c).p.1.length Wx,.slice a2 (VH k.c).p.2.length Xd,.slice a3 (VH k.c).r.length Wk,.slice a4 (VH k.c).m.1.length UY,.slice a5 (VH k.c).m.2.length TN,Z9 (VH k.w).n,.slice P8 (VH k.w).p.1.length MM,.slice BV (VH k.w).p.2.length ML,.slice yb (VH k.w).r.length xY,.slice a9 (VH k.w).m.1.length xX,.slice yf (VH k.w).m.2.length x7,.slice ye (L5 k.d).p.1.length x6,.slice a12 (L5 k.d).p.2.length x5,.bool (L5 k.d).wide,.slice zx (RL k.s).lo.length x4,.slice zv (RL k.s).ti.length x3,.slice zw (RL k.s).ca.1.length x2,.slice yd (RL k.s).ca.2.length x1,.slice yc (RL k.s).ig.1.length x0,.slice zu (RL k.s).ig.2.length xZ]) (results_cell_row results14 _ _ (w.heap.size+1) 38 _ (0,0) _ rfl (P0.o.blk 0 rfl) underlying38 rfl ix) rfl ⟨Hd,_,rfl,λW' ZM Vt=>⟨_,_,_,_,_,_,_,_,_,_,_,_,_,_,_,_,_,_,_,_,_,rfl,rfl,rfl,rfl,?_,?_,?_,?_⟩⟩
 ·exact NI.o W' ((((Turns.of_below xe.o).trans ((Turns.of_below MB.o).trans (Turns.of_below If.o))).trans (u _ Zu)).trans (ZM.mono (λq Zs=>by omega))) Vt
 ·exact alM.o W' (((Turns.of_below If.o).trans (u _ (by omega))).trans (ZM.mono (λq Zs=>by omega))) Vt
 ·exact Gi.o W' ((u _ (by omega)).trans (ZM.mono (λq Zs=>by omega))) Vt
 exact Gj.o W' ((((Turns.of_below MB.o).trans (Turns.of_below If.o)).trans (u _ (by omega))).trans (ZM.mono (λq Zs=>by omega))) Vt
def Hg(s:ByteArray)(n:Nat):ByteArray:=s.extract 0 (min s.size n)
theorem CI(s:ByteArray)(n:Nat)(m:Int)(w:World)(hm:m=n)(_:s.size<=9223372036854775807)(ZP:n<=1000):
  Calls prog 16 #[.string s,Z9 m] w λe w'=>e=.returned (.string (Hg s n))/\w=w':=by
 have Yq:=bx (show s.extract 0 (min (s.size:Int) m).toNat=Hg s n by grind[Hg]);have RV:0<=m:=by omega
 have Pg:m<=1000:=by omega
 clear hm ZP
 go_in
 go_wp2
 go_ret
 exact⟨by rw[<-Yq.o];rfl,rfl⟩
theorem Cn(s:ByteArray)(n:Nat):(Hg s n).size<=n:=alZ s n
end
theorem Eh(v:Value)(k:C.Kt)(s e:ByteArray)(w:World)(Z2:WZ w v k)(Z0:VT k):
  Calls prog 56 #[v,.string s,.string e] w λX1 w'=>X1=.returned (Z9 (C.ar k s.data.toList e.data.toList))/\Z6 w w':=by
 obtain⟨ca,XQ,XP,X5,XR,X2,Xr,wp,Xz,Ym,Xp,wf,ZD,bv,wd,lo,ti,c1,c2,g1,g2,rfl,Z3⟩:=Z2;have WL:=bx (λW(h:Z6 w W)=>Z3.below h);obtain⟨V,ZO⟩:∃V,V=w.alloc (.cells #[Z9 ca,XQ,XP,X5,XR,X2,Z9 Xr,wp,Xz,Ym,Xp,wf,ZD,bv,.bool wd,lo,ti,c1,c2,g1,g2] 38):=⟨_,rfl⟩
 have ZR:=bx (aB ZO);have Ze:=bx (aK ZO);have ZF:=bx (λW(h:Z6 V W)=>Ze.o.below h Ze.o.lt);have ZN:=bx ZO;clear Z3 ZO;have Yx:=bx (λW(h:Z6 w W)=>show WZ W (.agg #[Z9 ca,XQ,XP,X5,XR,X2,Z9 Xr,wp,Xz,Ym,Xp,wf,ZD,bv,.bool wd,lo,ti,c1,c2,g1,g2]) k from⟨_,_,_,_,_,_,_,_,_,_,_,_,_,_,_,_,_,_,_,_,_,rfl,WL.o W h⟩);have Xx:=bx (oI _ k V (Yx.o V ZR.o) Z0);have Xt:=bx (show C.ar k s.data.toList e.data.toList=if C.ad k=false then 160 else if 600<s.size\/60<e.size then 121 else 0 by rfl);generalize C.ar k s.data.toList e.data.toList=te at Xt⊢;generalize C.ad k=tb at Xx Xt;clear Z0 WL Yx;have ZA:=ZF.o V YU
 go_in
 go_upto_region 1 with(fail)
 rw[<-ZN.o];go_wp2_with (refine X8 rfl _ rfl _ rfl ZA rfl ?_)
 refine Y3 Xx.o λ_ ZZ=>?_
 have ZW:=Zw ZR ZZ;have Xg:=bx ZZ;clear ZZ ZA
 cases tb with
 |false=>
  go_wp2
  go_ret
  exact⟨SJ (by rw[Xt.o];simp),ZW.o⟩
 |true=>
  rw[Y4 (by simp)]at Xt
  by_cases h:600<s.size
  ·have Zq:decide ((600:Int)<(s.size:Int))=true:=Yh (by omega);rw[Y0 (.inl h)]at Xt;clear h
   go_wp2
   go_ret
   exact⟨SJ (by rw[Xt.o]),ZW.o⟩
  have Zq:decide ((600:Int)<(s.size:Int))=false:=Yp (by omega)
  by_cases Z5:60<e.size
  ·have YP:decide ((60:Int)<(e.size:Int))=true:=Yh (by omega);rw[Y0 (.inr Z5)]at Xt;clear h Z5
   go_wp2
   go_ret
   exact⟨SJ (by rw[Xt.o]),ZW.o⟩
  have YP:decide ((60:Int)<(e.size:Int))=false:=Yp (by omega);rw[Y4 (by omega)]at Xt;clear h Z5
  go_wp2
  go_ret
  exact⟨SJ (by rw[Xt.o]),ZW.o⟩
theorem zj(v:Value)(k:C.Kt)(s:ByteArray)(w:World)(Z2:WZ w v k)(Z0:VT k)(ZY:s.size<=299):
  Calls prog 62 #[v,.string s] w λX1 w'=>(∃Zy,X1=.returned Zy/\XC w' Zy (C.ae k.c s.data.toList))/\Z6 w w':=by
 obtain⟨ca,XQ,XP,X5,XR,X2,Xr,wp,Xz,Ym,Xp,wf,ZD,bv,wd,lo,ti,c1,c2,g1,g2,rfl,Z3⟩:=Z2;have WL:=bx (λW(h:Z6 w W)=>Z3.below h);obtain⟨V,ZO⟩:∃V,V=w.alloc (.cells #[Z9 ca,XQ,XP,X5,XR,X2,Z9 Xr,wp,Xz,Ym,Xp,wf,ZD,bv,.bool wd,lo,ti,c1,c2,g1,g2] 38):=⟨_,rfl⟩
 have ZR:=bx (aB ZO);have Ze:=bx (aK ZO);have ZF:=bx (λW(h:Z6 V W)=>Ze.o.below h Ze.o.lt);have ZN:=bx ZO;clear Z3 ZO;have Sk:=bx (oE _ k.c s V (WL.o V ZR.o).c Z0.c ZY);generalize Vn k.c s.data.toList=te at Sk;generalize C.ae k.c s.data.toList=YJ at Sk⊢;clear Z0 ZY WL;obtain⟨Zd,Zx,Zr,Zk,Zl,Zg,XK,W9,W8,W7,Rf,Re,Rc,Rb,Ra,QX,QW,QV,QU,QT,QS,YS⟩:=(ZF.o V YU).c21 YU
 go_in
 go_upto_region 1 with(fail)
 rw[<-ZN.o];clear XK W9 W8 W7 Rf Re Rc Rb Ra QX QW QV QU QT QS;go_wp2_with fail;refine Sk.o.mono ?_;rintro X1 ZV ⟨⟨v1,rfl,WV⟩,ZZ⟩;have ZW:=Zw ZR ZZ;have VD:=bx WV;obtain⟨Yr,lc,rfl,-⟩:=WV.slice;clear ZZ WV Zd Zx Zr Zk Zl Zg YS
 go_wp2
 go_ret
 exact⟨⟨_,rfl,VD.o⟩,ZW.o⟩
theorem Bq(t:Tab)(s:ByteArray)(_:s.size<=2000):(C.ae t s.data.toList).length<=2000/\(C.ae t s.data.toList).flatten.length<=8000:=by
 by_cases he:Vn t s.data.toList=0
 ·have Z7:=C.fM he;have Z5:=C.ba s.data.toList;rw[<-size_eq]at Z5;have ZS:=(QR t s.data.toList).2.len;have ZG:=OO s.data.toList;grind[size_eq,C.eO,C.cD]
 grind[C.ae]
