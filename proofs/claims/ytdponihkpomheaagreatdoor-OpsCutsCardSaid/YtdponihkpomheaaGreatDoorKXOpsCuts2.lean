/- Texts of this claim. -/
import Derived.Test.YtdponihkpomheaaGreatDoorK27
import Derived.Test.YtdponihkpomheaaGreatDoorKXOpsCuts1

set_option maxRecDepth 100000
set_option maxHeartbeats 8000000
namespace Go.Proofs.YtdponihkpomheaaGreatDoor
open Go.RowKit
attribute[local go_sem] Oper.semAt_some
open Go.Proofs.Tryz
namespace C
def cL(t:Tab)(s:List UInt8)(k:Nat):List Int:=((ab t s).take k).flatten
theorem abk:∀ls:List (List Int),(ls.map U.textOf).flatten=U.textOf ls.flatten
 |[]=>rfl
 |l::t=>by rw[RG,Bu,Bu,abk t,U.ds]
theorem ap5{t:Tab}{s:List UInt8}(h:Vn t s=0)(k:Nat):headA t s k=U.textOf (cL t s k):=by
 unfold headA cL;rw[ch h,<-List.map_take,abk]
theorem amb{t:Tab}{s:List UInt8}:∀l∈ab t s,∀x∈l,U.right x=true:=by
 intro l hl x Z4;unfold ab at hl;obtain⟨i,-,rfl⟩:=SL.1 hl;exact abh (IC s) _ _ x Z4
theorem aq6(t:Tab)(s:List UInt8)(k:Nat):∀x∈cL t s k,U.right x=true:=by
 intro x Z4;unfold cL at Z4;obtain⟨l,hl,Ik⟩:=List.mem_flatten.1 Z4;exact amb l (List.mem_of_mem_take hl) x Ik
theorem aj5{t:Tab}{s:List UInt8}(h:Vn t s=0)(k:Nat):U.scalars (headA t s k)=some (cL t s k):=by
 rw[ap5 h];exact(U.bI _ _).2 ⟨rfl,aq6 t s k⟩
theorem aeR:∀l:List (List UInt8),l.reverse.flatten.length=l.flatten.length
 |[]=>rfl
 |x::t=>by
  rw[List.reverse_cons,JZ,WR,aeR t,Bu,WR];simp;omega
end C
namespace C
theorem nc(l:List (List UInt8))(sep:List UInt8)(f a b:Nat):bV l sep (f+1) a b=if l.length<=a then[(l.drop b).flatten]else
   if 0<aF (l.drop a) sep then((l.take a).drop b).flatten::bV l sep f (a+aF (l.drop a) sep) (a+aF (l.drop a) sep)else bV l sep f (a+1) b:=rfl
theorem eg(l:List (List UInt8))(sep:List UInt8):∀(f a b:Nat),(bV l sep f a b).length<=f+1
 |0,a,b=>by unfold bV;simp
 |f+1,a,b=>by
  unfold bV
  split
  ·simp
  split
  ·have:=eg l sep f (a+aF (l.drop a) sep) (a+aF (l.drop a) sep);rw[U3];omega
  have:=eg l sep f (a+1) b;omega
theorem awg{t:Tab}{s:List UInt8}(h:Vn t s=0)(i:Nat):(headA t s i).length=bK (ab t s) i:=by
 unfold headA bK;rw[ch h,<-List.map_take];generalize(ab t s).take i=l
 induction l with
 |nil=>rfl
 |cons x t XZ=>rw[RG,Bu,WR,XZ,RG,List.sum_cons]
theorem ajS(t:Tab)(s:List UInt8)(i:Nat):(cL t s i).length=bW (ab t s) i:=by
 unfold cL bW;rw[List.length_flatten]
end C
namespace C
theorem an0{k:Kt}{s:List UInt8}(h:ad k=false):cb k s=[]/\ar k s []=160:=by
 have ZI:=bO (s:=s) (e:=[]) h;exact⟨by unfold cb;rw[ZI];rfl,ZI⟩
end C
theorem asu(A:Nat->Addr)(B:Nat)(v:Value)(k:C.Kt)(s:ByteArray)(w:World)(Z2:WZ w v k)(Z0:VT k)(_:s.size<=600)(hS:Sw A B w)(Z8:C.ad k=false):
  Calls prog 22 #[v,.string s] w λX1 w'=>X1=.returned (.tuple #[.string (bs (C.cb k s.data.toList)),Z9 (C.ar k s.data.toList [])])/\Z6 w w':=by
 obtain⟨R2,V,rfl,VS,ZN,ZR,ZF,Yx,Xb⟩:=PO Z2 hS;have WU:=bx ZR.o;have Uk:=bx (λ(Z8:C.ad k=false)=>D5 A B _ Z1 k s [] V (Yx.o V ZR.o) Z0 (Xb.o V ZR.o) Z8 (.inl ⟨rfl,rfl⟩));have X9:=bx (Uk.o Z8);have ZK:=bx (C.an0 (s:=s.data.toList) Z8);clear Uk Z8 Z0 hS Yx;have ZA:=ZF.o V YU
 go_in
 go_upto_region 1 with(fail)
 rw[<-ZN.o];go_wp2_with (refine X8 rfl _ rfl _ rfl ZA VS ?_)
 refine X7 X9.o WU.o λZV ZW=>?_
 clear ZA;go_wp2_with fail;refine X7 (JM (160) ZV (Xb.o ZV ZW.o).t) ZW.o λ_ UD=>?_
 go_wp2
 go_ret2
 exact⟨by rw[ZK.o.1,ZK.o.2] <;> rfl,UD.o⟩
theorem au6(A:Nat->Addr)(B:Nat)(v:Value)(k:C.Kt)(s:ByteArray)(w:World)(Z2:WZ w v k)(Z0:VT k)(ZY:s.size<=600)(hS:Sw A B w):
  Calls prog 22 #[v,.string s] w λX1 w'=>X1=.returned (.tuple #[.string (bs (C.cb k s.data.toList)),Z9 (C.ar k s.data.toList [])])/\Z6 w w':=by
 cases Z8:C.ad k with
 |false=>exact asu A B v k s w Z2 Z0 ZY hS Z8
 |true=>
  exact afk A B v k s w Z2 Z0 ZY hS Z8
namespace C
theorem amH{k:Kt}{s:List UInt8}{a b:Int}(h:ad k=false):bG k s a b=[]/\bc k s a b=160:=by
 have ZI:bc k s a b=160:=by unfold bc;rw[bO h];rfl
 exact⟨by unfold bG;rw[ZI];rfl,ZI⟩
theorem atP{k:Kt}{s:List UInt8}{a b:Int}(h:ad k=true)(ZY:s.length<=600)(ZL:a<0\/b<a):bG k s a b=[]/\bc k s a b=162:=by
 have ZI:bc k s a b=162:=by unfold bc;rw[Y0 (a6 h ZY (by simp)),Y0 ZL]
 exact⟨by unfold bG;rw[ZI];rfl,ZI⟩
end C
theorem aq7(A:Nat->Addr)(B:Nat)(v:Value)(k:C.Kt)(s:ByteArray)(a b:Int)(w:World)(Z2:WZ w v k)(Z0:VT k)(_:s.size<=600)(hS:Sw A B w)(Z8:C.ad k=false):
  Calls prog 24 #[v,.string s,Z9 a,Z9 b] w λX1 w'=>X1=.returned (.tuple #[.string (bs (C.bG k s.data.toList a b)),Z9 (C.bc k s.data.toList a b)])/\Z6 w w':=by
 obtain⟨R2,V,rfl,VS,ZN,ZR,ZF,Yx,Xb⟩:=PO Z2 hS;have WU:=bx ZR.o;have Uk:=bx (λ(Z8:C.ad k=false)=>D5 A B _ Z1 k s [] V (Yx.o V ZR.o) Z0 (Xb.o V ZR.o) Z8 (.inl ⟨rfl,rfl⟩));have X9:=bx (Uk.o Z8);have ZK:=bx (C.amH (s:=s.data.toList) (a:=a) (b:=b) Z8);clear Uk Z8 Z0 hS Yx;have ZA:=ZF.o V YU
 go_in
 go_upto_region 1 with(fail)
 rw[<-ZN.o];go_wp2_with (refine X8 rfl _ rfl _ rfl ZA VS ?_)
 refine X7 X9.o WU.o λZV ZW=>?_
 clear ZA;go_wp2_with fail;refine X7 (JM (160) ZV (Xb.o ZV ZW.o).t) ZW.o λ_ UD=>?_
 go_wp2
 go_ret2
 exact⟨by rw[ZK.o.1,ZK.o.2] <;> rfl,UD.o⟩
theorem ajp(A:Nat->Addr)(B:Nat)(v:Value)(k:C.Kt)(s:ByteArray)(a b:Int)(w:World)(Z2:WZ w v k)(Z0:VT k)(ZY:s.size<=600)(hS:Sw A B w)(Z8:C.ad k=true)(ZL:a<0\/b<a):
  Calls prog 24 #[v,.string s,Z9 a,Z9 b] w λX1 w'=>X1=.returned (.tuple #[.string (bs (C.bG k s.data.toList a b)),Z9 (C.bc k s.data.toList a b)])/\Z6 w w':=by
 obtain⟨R2,V,rfl,VS,ZN,ZR,ZF,Yx,Xb⟩:=PO Z2 hS;have WU:=bx ZR.o;have VJ:=bx (λ(Z8:C.ad k=true)(ZY:s.size<=600)=>Mj A B _ Z1 k s [] V (Yx.o V ZR.o) Z0 (Xb.o V ZR.o) Z8 (.inl ⟨rfl,rfl⟩) ZY (by simp) (λ_ hp=>by cases hp));have X9:=bx (VJ.o Z8 ZY);have ZK:=bx (C.atP (s:=s.data.toList) Z8 (by rw[<-size_eq];exact ZY) ZL);clear VJ Z8 Z0 hS ZY Yx
 rcases ZL with ZL|ZL
 ·have d1:=Yh ZL;have ZA:=ZF.o V YU
  go_in
  go_upto_region 1 with(fail)
  rw[<-ZN.o];go_wp2_with (refine X8 rfl _ rfl _ rfl ZA VS ?_)
  refine X9.o.mono ?_;rintro X1 ZV ⟨⟨g,rfl,Vk,-⟩,ZZ⟩;have ZW:=Zw WU ZZ;have RC:=bx Vk;clear ZZ Vk ZA;go_wp2_with fail;refine X7 (JM (162) ZV (Xb.o ZV ZW.o).t) ZW.o λPM UD=>?_
  go_wp2
  go_ret2
  exact⟨by rw[ZK.o.1,ZK.o.2] <;> rfl,UD.o⟩
 by_cases ZI:a<0
 focus
  have d1:=Yh ZI
 rotate_left
 focus
  have d1:=Yp ZI;have d2:=Yh ZL
 rotate_left
 all_goals
  have ZA:=ZF.o V YU
  go_in
  go_upto_region 1 with(fail)
  rw[<-ZN.o];go_wp2_with (refine X8 rfl _ rfl _ rfl ZA VS ?_)
  refine X9.o.mono ?_;rintro X1 ZV ⟨⟨g,rfl,Vk,-⟩,ZZ⟩;have ZW:=Zw WU ZZ;have RC:=bx Vk;clear ZZ Vk ZA;go_wp2_with fail;refine X7 (JM (162) ZV (Xb.o ZV ZW.o).t) ZW.o λPM UD=>?_
  go_wp2
  go_ret2
  exact⟨by rw[ZK.o.1,ZK.o.2] <;> rfl,UD.o⟩
theorem avp(A:Nat->Addr)(B:Nat)(v:Value)(k:C.Kt)(s:ByteArray)(a b:Int)(w:World)(Z2:WZ w v k)(Z0:VT k)(ZY:s.size<=600)(hS:Sw A B w):
  Calls prog 24 #[v,.string s,Z9 a,Z9 b] w λX1 w'=>X1=.returned (.tuple #[.string (bs (C.bG k s.data.toList a b)),Z9 (C.bc k s.data.toList a b)])/\Z6 w w':=by
 cases Z8:C.ad k with
 |false=>exact aq7 A B v k s a b w Z2 Z0 ZY hS Z8
 |true=>
  by_cases ZL:a<0\/b<a
  ·exact ajp A B v k s a b w Z2 Z0 ZY hS Z8 ZL
  exact adh A B v k s a b w Z2 Z0 ZY hS Z8 ZL
namespace C
theorem abl{k:Kt}{s:List UInt8}{b c:Int}(h:ad k=false):bH k s b c=[]/\bp k s b c=160:=by
 have ZI:bp k s b c=160:=by unfold bp;rw[bO h];rfl
 exact⟨by unfold bH;rw[ZI];rfl,ZI⟩
theorem fR{k:Kt}{s:List UInt8}{b c:Int}(h:ad k=true)(ZY:s.length<=600)(ZL:b<0\/c<0):bH k s b c=[]/\bp k s b c=161:=by
 have ZI:bp k s b c=161:=by unfold bp;rw[Y0 (a6 h ZY (by simp)),Y0 ZL]
 exact⟨by unfold bH;rw[ZI];rfl,ZI⟩
end C
theorem atu(A:Nat->Addr)(B:Nat)(v:Value)(k:C.Kt)(s:ByteArray)(b c:Int)(w:World)(Z2:WZ w v k)(Z0:VT k)(_:s.size<=260)(_:b<=9223372036854775807)(_:c<=9223372036854775807)(hS:Sw A B w)(Z8:C.ad k=false):
  Calls prog 20 #[v,.string s,Z9 b,Z9 c] w λX1 w'=>X1=.returned (.tuple #[.string (bs (C.bH k s.data.toList b c)),Z9 (C.bp k s.data.toList b c)])/\Z6 w w':=by
 obtain⟨R2,V,rfl,VS,ZN,ZR,ZF,Yx,Xb⟩:=PO Z2 hS;have WU:=bx ZR.o;have Uk:=bx (λ(Z8:C.ad k=false)=>D5 A B _ Z1 k s [] V (Yx.o V ZR.o) Z0 (Xb.o V ZR.o) Z8 (.inl ⟨rfl,rfl⟩));have X9:=bx (Uk.o Z8);have ZK:=bx (C.abl (s:=s.data.toList) (b:=b) (c:=c) Z8);clear Uk Z8 Z0 hS Yx;have ZA:=ZF.o V YU
 go_in
 go_upto_region 1 with(fail)
 rw[<-ZN.o];go_wp2_with (refine X8 rfl _ rfl _ rfl ZA VS ?_)
 refine X7 X9.o WU.o λZV ZW=>?_
 clear ZA;go_wp2_with fail;refine X7 (JM (160) ZV (Xb.o ZV ZW.o).t) ZW.o λ_ UD=>?_
 go_wp2
 go_ret2
 exact⟨by rw[ZK.o.1,ZK.o.2] <;> rfl,UD.o⟩
theorem auN(A:Nat->Addr)(B:Nat)(v:Value)(k:C.Kt)(s:ByteArray)(b c:Int)(w:World)(Z2:WZ w v k)(Z0:VT k)(ZY:s.size<=260)(_:b<=9223372036854775807)(_:c<=9223372036854775807)(hS:Sw A B w)(Z8:C.ad k=true)(ZL:b<0\/c<0):
  Calls prog 20 #[v,.string s,Z9 b,Z9 c] w λX1 w'=>X1=.returned (.tuple #[.string (bs (C.bH k s.data.toList b c)),Z9 (C.bp k s.data.toList b c)])/\Z6 w w':=by
 obtain⟨R2,V,rfl,VS,ZN,ZR,ZF,Yx,Xb⟩:=PO Z2 hS;have WU:=bx ZR.o;have VJ:=bx (λ(Z8:C.ad k=true)(ZY:s.size<=600)=>Mj A B _ Z1 k s [] V (Yx.o V ZR.o) Z0 (Xb.o V ZR.o) Z8 (.inl ⟨rfl,rfl⟩) ZY (by simp) (λ_ hp=>by cases hp));have X9:=bx (VJ.o Z8 (by omega));have ZK:=bx (C.fR (s:=s.data.toList) Z8 (by rw[<-size_eq];omega) ZL);have d1:decide (min b c<0)=true:=Yh (by omega);clear VJ Z8 Z0 hS ZY Yx;have ZA:=ZF.o V YU
 go_in
 go_upto_region 1 with(fail)
 rw[<-ZN.o];go_wp2_with (refine X8 rfl _ rfl _ rfl ZA VS ?_)
 refine X9.o.mono ?_;rintro X1 ZV ⟨⟨g,rfl,Vk,-⟩,ZZ⟩;have ZW:=Zw WU ZZ;have RC:=bx Vk;clear ZZ Vk ZA;go_wp2_with fail;refine X7 (JM (161) ZV (Xb.o ZV ZW.o).t) ZW.o λ_ UD=>?_
 go_wp2
 go_ret2
 exact⟨by rw[ZK.o.1,ZK.o.2] <;> rfl,UD.o⟩
theorem ams(A:Nat->Addr)(B:Nat)(v:Value)(k:C.Kt)(s:ByteArray)(b c:Int)(w:World)(Z2:WZ w v k)(Z0:VT k)(ZY:s.size<=260)(F5:b<=9223372036854775807)(Jg:c<=9223372036854775807)(hS:Sw A B w):
  Calls prog 20 #[v,.string s,Z9 b,Z9 c] w λX1 w'=>X1=.returned (.tuple #[.string (bs (C.bH k s.data.toList b c)),Z9 (C.bp k s.data.toList b c)])/\Z6 w w':=by
 cases Z8:C.ad k with
 |false=>exact atu A B v k s b c w Z2 Z0 ZY F5 Jg hS Z8
 |true=>
  by_cases ZL:b<0\/c<0
  ·exact auN A B v k s b c w Z2 Z0 ZY F5 Jg hS Z8 ZL
  exact hK A B v k s b c w Z2 Z0 ZY F5 Jg hS Z8 ZL
section
open Go.Shelf
namespace C
theorem ael{k:Kt}{s e:List UInt8}(h:ad k=false):bN k s e=[]/\bn k s e=160:=by
 have ZI:bn k s e=160:=by unfold bn;rw[bO h];rfl
 exact⟨by unfold bN;rw[ZI];rfl,ZI⟩
theorem aaP{k:Kt}{s:List UInt8}(h:ad k=true)(ZY:s.length<=600):bN k s []=[]/\bn k s []=163:=by
 have ZI:bn k s []=163:=by unfold bn;rw[Y0 (a6 h ZY (by simp)),Y0 rfl]
 exact⟨by unfold bN;rw[ZI];rfl,ZI⟩
end C
theorem asq(A:Nat->Addr)(B:Nat)(v:Value)(k:C.Kt)(s e:ByteArray)(w:World)(Z2:WZ w v k)(Z0:VT k)(_:s.size<=260)(_:e.size<=60)(hS:Sw A B w)(Z8:C.ad k=false):
  Calls prog 26 #[v,.string s,.string e] w λX1 w'=>(∃Zy,X1=.returned (.tuple #[Zy,Z9 (C.bn k s.data.toList e.data.toList)])/\XC w' Zy (C.bN k s.data.toList e.data.toList))/\Z6 w w':=by
 obtain⟨R2,V,rfl,VS,ZN,ZR,ZF,Yx,Xb⟩:=PO Z2 hS;have WU:=bx (ZR.o.trans ((Xl V (.cells #[.string e] 9)).mono ZR.o.size));have Uk:=bx (λ(Z8:C.ad k=false)=>D5 A B _ (.slice (some ⟨V.heap.size,0,none⟩) 1 1) k s [e.data.toList] _ (Yx.o _ WU.o) Z0 (Xb.o _ WU.o) Z8 (JC V e 9));have X9:=bx (Uk.o Z8);have ZK:=bx (C.ael (s:=s.data.toList) (e:=e.data.toList) Z8);clear Uk Z8 Z0 hS Yx;have ZA:=ZF.o V YU
 go_in
 go_upto_region 1 with(fail)
 rw[<-ZN.o];go_wp2_with (refine X8 rfl _ rfl _ rfl ZA VS ?_)
 refine X7 X9.o WU.o λZV ZW=>?_
 clear ZA;go_wp2_with fail;refine X7 (JM (160) ZV (Xb.o ZV ZW.o).t) ZW.o λ_ UD=>?_
 go_wp2
 go_ret2
 exact⟨⟨_,by rw[ZK.o.2];rfl,by rw[ZK.o.1];exact .inl ⟨rfl,rfl⟩⟩,UD.o⟩
theorem ash(A:Nat->Addr)(B:Nat)(v:Value)(k:C.Kt)(s e:ByteArray)(w:World)(Z2:WZ w v k)(Z0:VT k)(ZY:s.size<=260)(Xj:e.size<=60)(hS:Sw A B w)(Z8:C.ad k=true)(LL:e.data.toList=[]):
  Calls prog 26 #[v,.string s,.string e] w λX1 w'=>(∃Zy,X1=.returned (.tuple #[Zy,Z9 (C.bn k s.data.toList e.data.toList)])/\XC w' Zy (C.bN k s.data.toList e.data.toList))/\Z6 w w':=by
 obtain⟨R2,V,rfl,VS,ZN,ZR,ZF,Yx,Xb⟩:=PO Z2 hS;have WU:=bx (ZR.o.trans ((Xl V (.cells #[.string e] 9)).mono ZR.o.size));have VJ:=bx (λ(Z8:C.ad k=true)(ZY:s.size<=600)(hp:e.size<=60)=>Mj A B _ (.slice (some ⟨V.heap.size,0,none⟩) 1 1) k s [e.data.toList] _ (Yx.o _ WU.o) Z0 (Xb.o _ WU.o) Z8 (JC V e 9) ZY (by simp) (λ_ Zs=>by rw[Pe.1 Zs,<-size_eq];exact hp));have X9:=bx (VJ.o Z8 (by omega) Xj);have ZK:=bx (C.aaP (s:=s.data.toList) Z8 (by rw[<-size_eq];omega));rw[LL];obtain rfl:e=bs []:=by rw[sU e,LL]
 have Zq:=D3;clear VJ Z8 Z0 hS ZY Yx LL;have ZA:=ZF.o V YU
 go_in
 go_upto_region 1 with(fail)
 rw[<-ZN.o];go_wp2_with (refine X8 rfl _ rfl _ rfl ZA VS ?_)
 refine X9.o.mono ?_;rintro X1 ZV ⟨⟨g,rfl,Vk,-⟩,ZZ⟩;have ZW:=Zw WU ZZ;have RC:=bx Vk;clear ZZ Vk ZA;go_wp2_with fail;refine X7 (JM (163) ZV (Xb.o ZV ZW.o).t) ZW.o λ_ UD=>?_
 go_wp2
 go_ret2
 exact⟨⟨_,by rw[ZK.o.2];rfl,by rw[ZK.o.1];exact .inl ⟨rfl,rfl⟩⟩,UD.o⟩
theorem avx(A:Nat->Addr)(B:Nat)(v:Value)(k:C.Kt)(s e:ByteArray)(w:World)(Z2:WZ w v k)(Z0:VT k)(ZY:s.size<=260)(Xj:e.size<=60)(hS:Sw A B w):
  Calls prog 26 #[v,.string s,.string e] w λX1 w'=>(∃Zy,X1=.returned (.tuple #[Zy,Z9 (C.bn k s.data.toList e.data.toList)])/\XC w' Zy (C.bN k s.data.toList e.data.toList))/\Z6 w w':=by
 cases Z8:C.ad k with
 |false=>exact asq A B v k s e w Z2 Z0 ZY Xj hS Z8
 |true=>
  by_cases LL:e.data.toList=[]
  ·exact ash A B v k s e w Z2 Z0 ZY Xj hS Z8 LL
  exact hs A B v k s e w Z2 Z0 ZY Xj hS Z8 LL
end
namespace C
theorem an8(ls:List (List Int)):bK ls 0=0:=rfl
theorem aj1(ls:List (List Int)):bW ls 0=0:=rfl
theorem apq{ls:List (List Int)}{b c:Int}(_:0<=b)(_:0<=c):∀i,(if br ls b c i=true then i else bb ls b c (i-1))=bb ls b c i
 |0=>by
  have h:br ls b c 0=true:=by
   unfold br;rw[an8,aj1,Yh (show((0:Nat):Int)<=b by omega),Yh (show((0:Nat):Int)<=c by omega)]
   rfl
  rw[Y0 h]
  rfl
 |i+1=>rfl
theorem aka{l:List (List UInt8)}{sep:List UInt8}{i:Nat}(Z7:1<=i)(Z5:i<=l.length)(h:∀j,1<=j->j<i->(l.take j).flatten≠sep)(he:(l.take i).flatten=sep):aF l sep=i:=by
 rcases rP l sep with⟨-,ZG⟩|⟨ZS,ZG,Zi,Yu⟩
 ·exact absurd he (ZG i Z7 Z5)
 rcases Nat.lt_trichotomy (aF l sep) i with VV|VV|VV
 ·exact absurd Zi (h _ ZS VV)
 ·exact VV
 exact absurd he (Yu i Z7 VV)
theorem asE{l:List (List UInt8)}{sep:List UInt8}(h:∀j,1<=j->j<l.length+1->(l.take j).flatten≠sep):aF l sep=0:=by
 rcases rP l sep with⟨ZS,-⟩|⟨ZS,ZG,Zi,-⟩
 ·exact ZS
 exact absurd Zi (h _ ZS (by omega))
def dk(l:List (List UInt8))(sep:List UInt8)(a b:Nat)(out all:List (List UInt8)):Prop:=b<=a/\a<=l.length/\∃f,l.length<=a+f/\all=out++bV l sep f a b
theorem apt(l:List (List UInt8))(sep:List UInt8):dk l sep 0 0 [] (bV l sep l.length 0 0):=⟨Wq _,OQ _,l.length,by omega,rfl⟩
theorem alw{l:List (List UInt8)}{sep:List UInt8}{a b:Nat}{out all:List (List UInt8)}(h:dk l sep a b out all)(_:a<l.length)(hm:0<aF (l.drop a) sep):
  dk l sep (a+aF (l.drop a) sep) (a+aF (l.drop a) sep) (out++[((l.take a).drop b).flatten]) all:=by
 obtain⟨Z7,Z5,f,ZS,ZG⟩:=h;have Zi:=dN (l.drop a) sep;rw[Px]at Zi;obtain⟨f,rfl⟩:∃g,f=g+1:=⟨f-1,by omega⟩
 rw[nc,Y4 (by omega),Y0 hm]at ZG;exact⟨Wq _,by omega,f,by omega,by rw[ZG,M8];rfl⟩
theorem at1{l:List (List UInt8)}{sep:List UInt8}{a b:Nat}{out all:List (List UInt8)}(h:dk l sep a b out all)(_:a<l.length)(hm:¬0<aF (l.drop a) sep):dk l sep (a+1) b out all:=by
 obtain⟨Z7,Z5,f,ZS,ZG⟩:=h;obtain⟨f,rfl⟩:∃g,f=g+1:=⟨f-1,by omega⟩
 rw[nc,Y4 (by omega),Y4 hm]at ZG;exact⟨by omega,by omega,f,by omega,ZG⟩
theorem aoe{l:List (List UInt8)}{sep:List UInt8}{a b:Nat}{out all:List (List UInt8)}(h:dk l sep a b out all)(_:¬a<l.length):all=out++[((l.take a).drop b).flatten]:=by
 obtain⟨Z7,Z5,f,ZS,ZG⟩:=h;rw[SU (by omega),ZG]
 cases f with
 |zero=>rfl
 |succ f=>rw[nc,Y0 (by omega)]
theorem gd{l:List (List UInt8)}{a b:Nat}{x:List UInt8}(_:b<=a)(Z4:l[a]?=some x):((l.take (a+1)).drop b).flatten=((l.take a).drop b).flatten++x:=by
 have YZ:=(R7 Z4).1;rw[Uo,Z4,List.drop_append_of_le_length (by rw[SW];omega),JZ];simp
theorem aoR(l:List (List UInt8))(a:Nat):((l.take a).drop a).flatten=[]:=by
 rw[List.drop_of_length_le (by rw[SW];omega)]
 rfl
theorem fk{l:List (List UInt8)}{i:Nat}{x:List UInt8}(Z4:l[i]?=some x):(l.take (i+1)).flatten=(l.take i).flatten++x:=by
 rw[Uo,Z4,JZ];simp
theorem ama{l:List (List UInt8)}{i:Nat}{x:List UInt8}(Z4:l[i]?=some x):((l.take (i+1)).reverse).flatten=x++((l.take i).reverse).flatten:=by
 rw[Uo,Z4,List.reverse_append,JZ];simp
def b3(l:List (List UInt8))(a b i:Nat):List UInt8:=(((l.take b).take i).drop a).flatten
theorem avZ(l:List (List UInt8))(a b:Nat):b3 l a b 0=[]:=by simp[b3]
theorem anV{l:List (List UInt8)}{a b i:Nat}{x:List UInt8}(Z4:l[i]?=some x)(Z7:a<=i)(Z5:i<b):b3 l a b (i+1)=b3 l a b i++x:=by
 have hl:(l.take b)[i]?=some x:=by rw[List.getElem?_take_of_lt Z5];exact Z4
 exact gd Z7 hl
theorem akR{l:List (List UInt8)}{a b i:Nat}(_:¬(a<=i/\i<b)):b3 l a b (i+1)=b3 l a b i:=by
 unfold b3
 by_cases Z7:a<=i
 ·rw[List.take_take,List.take_take,Nat.min_eq_right (by omega),Nat.min_eq_right (by omega)]
 rw[List.drop_of_length_le (by rw[SW];omega),List.drop_of_length_le (by rw[SW];omega)]
theorem ajI(l:List (List UInt8))(a b:Nat){i:Nat}(h:l.length<=i):b3 l a b i=((l.take b).drop a).flatten:=by
 unfold b3;rw[List.take_take,Nat.min_comm,<-List.take_take,SU h]
theorem akA(l:List (List UInt8))(a b i:Nat):(b3 l a b i).length<=l.flatten.length:=by
 unfold b3;have Z7:=congrArg (λx=>x.flatten.length) (I0 a ((l.take b).take i));have Z5:=congrArg (λx=>x.flatten.length) (I0 i (l.take b));have ZS:=congrArg (λx=>x.flatten.length) (I0 b l);simp only[JZ,WR]at Z7 Z5 ZS;omega
end C
theorem Fh(l:List (List UInt8))(k:Nat):(l.take k).flatten.length<=l.flatten.length:=by
 have h:=congrArg (λx=>x.flatten.length) (I0 k l);simp only[JZ,WR]at h;omega
theorem qw(v:Value)(l:List (List UInt8))(w:World)(hl:XC w v l)(ZY:l.length<=100000)(hm:l.flatten.length<=100000):
  Calls prog 61 #[v] w λX1 w'=>X1=.returned (.string (bs l.flatten))/\Z6 w w':=by
 have RD:=bx (λk=>XJ (Fh l k) hm);obtain⟨Yr,lc,rfl,-⟩:=hl.slice;obtain⟨N,Zp⟩:∃N,l.length=N:=⟨_,rfl⟩
 have ZE:=bx Zp;rw[Zp]at hl ZY⊢;obtain⟨VF,Um,PH,Tg⟩:=AH hl Zp;have RP:=bx PH;have M4:=bx Tg;clear hl Zp PH Tg hm
 go_in
 go_wp2_with fail
 go_loopw[3,4] (λYd ZD wr=>∃k:Nat,k<=N/\Yd=.string (bs (l.take k).flatten)/\ZD=Z9 k/\w=wr) (λ_ ZD _=>N-(intOf ZD).toNat)
 ·exact⟨0,by omega,rfl,rfl,rfl⟩
 obtain⟨k,Z3,rfl,rfl,rfl⟩:=hrel
 by_cases Zu:k<N
 ·obtain⟨x,Z4⟩:=Yg l k (by rw[ZE.o];exact Zu);obtain⟨V9,Ua⟩:=M4.o k x Z4;have Ns:=bx (C.fk Z4);obtain⟨rfl,NB,Py⟩:=RP.o (by omega);unfold maxLen at Py;have Pi:=NY (l.take k).flatten x;rw[<-Ns.o]at Pi;have J7:(bs (l.take k).flatten).size+(bs x).size<=1000000:=by
   have Z7:=RD.o (k+1);rw[Ns.o,WR]at Z7;rw[Wu,Wu];omega
  clear Z4
  go_wp2
  go_roundw
  ·exact⟨k+1,by omega,rfl,by go_num,trivial⟩
  simp[intOf];omega
 obtain rfl:k=N:=by omega
 have zW:l.take k=l:=SU (by rw[ZE.o];omega);rw[zW]
 go_wp2
 go_ret
 exact⟨rfl,Below.refl _ _⟩
theorem aqo(v:Value)(k:C.Kt)(s:ByteArray)(w:World)(Z2:WZ w v k)(Z0:VT k)(ZY:s.size<=299):
  Calls prog 23 #[v,.string s] w λX1 w'=>X1=.returned (.tuple #[.string (bs (C.cb k s.data.toList)),Z9 (C.ar k s.data.toList [])])/\Z6 w w':=by
 obtain⟨ca,XQ,XP,X5,XR,X2,Xr,wp,Xz,Ym,Xp,wf,ZD,bv,wd,lo,ti,c1,c2,g1,g2,rfl,Z3⟩:=Z2;have WL:=bx (λW(h:Z6 w W)=>Z3.below h);obtain⟨V,ZO⟩:∃V,V=w.alloc (.cells #[Z9 ca,XQ,XP,X5,XR,X2,Z9 Xr,wp,Xz,Ym,Xp,wf,ZD,bv,.bool wd,lo,ti,c1,c2,g1,g2] 38):=⟨_,rfl⟩
 have ZR:=bx (aB ZO);have Ze:=bx (aK ZO);have ZF:=bx (λW(h:Z6 V W)=>Ze.o.below h Ze.o.lt);have ZN:=bx ZO;clear Z3 ZO;have Yx:=bx (λW(h:Z6 w W)=>show WZ W (.agg #[Z9 ca,XQ,XP,X5,XR,X2,Z9 Xr,wp,Xz,Ym,Xp,wf,ZD,bv,.bool wd,lo,ti,c1,c2,g1,g2]) k from⟨_,_,_,_,_,_,_,_,_,_,_,_,_,_,_,_,_,_,_,_,_,rfl,WL.o W h⟩);have Wt:=bx (show Calls prog 56 #[.agg #[Z9 ca,XQ,XP,X5,XR,X2,Z9 Xr,wp,Xz,Ym,Xp,wf,ZD,bv,.bool wd,lo,ti,c1,c2,g1,g2],.string s,.string ⟨#[]⟩] V λX1 w'=>X1=.returned (Z9 (C.ar k s.data.toList []))/\Z6 V w' from Eh _ k s ⟨#[]⟩ V (Yx.o V ZR.o) Z0);have Tc:=bx (λW(h:Z6 w W)=>zj _ k s W (Yx.o W h) Z0 ZY);have ZK:=bx (show C.cb k s.data.toList=if C.ar k s.data.toList []=0 then((C.ae k.c s.data.toList).reverse).flatten else[]from rfl);have V9:=Bq k.c s (by omega);have P5:=V9.1;have RD:=bx (show(C.ae k.c s.data.toList).flatten.length<=100000 by have:=V9.2;omega);generalize C.cb k s.data.toList=N4 at ZK⊢;generalize C.ae k.c s.data.toList=YJ at ZK Tc RD P5;obtain⟨N,Zp⟩:∃N,YJ.length=N:=⟨_,rfl⟩
 have ZE:=bx Zp;rw[Zp]at P5;generalize C.ar k s.data.toList []=er at Wt ZK⊢;clear Z0 ZY WL Yx Zp V9
 by_cases ZI:er=0
 ·subst ZI;rw[Y0 rfl]at ZK;have ZA:=ZF.o V YU
  go_in
  go_upto_region 1 with(fail)
  rw[<-ZN.o];go_wp2_with (refine X8 rfl _ rfl _ rfl ZA rfl ?_)
  refine Y3 Wt.o λZV ZZ=>?_
  have ZW:=Zw ZR ZZ;have Xg:=bx ZZ;clear ZZ ZA;have ZA:=(ZF.o ZV Xg.o)
  go_wp2_with (refine X8 rfl _ rfl _ rfl ZA rfl ?_)
  refine(Tc.o ZV ZW.o).mono ?_;rintro X1 ZB ⟨⟨Zc,rfl,WJ⟩,Zz⟩;have Zt:=Zw ZW Zz;obtain⟨Yr,lc,rfl,-⟩:=WJ.slice;rw[ZE.o]at WJ⊢;obtain⟨VF,Um,PH,Tg⟩:=AH WJ ZE.o;have RP:=bx PH;have M4:=bx Tg;clear Zz WJ PH Tg ZA;go_wp2_with fail
  go_loopw[8,9] (λYd ZD wr=>∃j:Nat,j<=N/\Yd=.string (bs ((YJ.take j).reverse).flatten)/\ZD=Z9 j/\ZB=wr) (λ_ ZD _=>N-(intOf ZD).toNat)
  ·exact⟨0,by omega,rfl,rfl,rfl⟩
  obtain⟨j,YO,rfl,rfl,rfl⟩:=hrel
  by_cases Zu:j<N
  ·obtain⟨x,Z4⟩:=Yg YJ j (by rw[ZE.o];exact Zu);obtain⟨V9,Ua⟩:=M4.o j x Z4;have Ns:=bx (C.ama Z4);obtain⟨rfl,NB,Py⟩:=RP.o (by omega);unfold maxLen at Py;have Pi:=NY x ((YJ.take j).reverse).flatten;rw[<-Ns.o]at Pi;have J7:(bs x).size+(bs ((YJ.take j).reverse).flatten).size<=1000000:=by
    have Z7:=XJ (Fh YJ (j+1)) RD.o;rw[<-C.aeR,Ns.o,WR]at Z7;rw[Wu,Wu];omega
   clear Z4
   go_wp2
   go_roundw
   ·exact⟨j+1,by omega,rfl,by go_num,trivial⟩
   simp[intOf];omega
  obtain rfl:j=N:=by omega
  have zW:YJ.take j=YJ:=SU (by rw[ZE.o];omega);rw[zW]
  go_wp2
  go_ret2
  exact⟨by rw[ZK.o] <;> rfl,Zt.o⟩
 rw[Y4 ZI]at ZK;have d1:(er != 0)=true:=En.2 ZI;clear ZI;have ZA:=ZF.o V YU
 go_in
 go_upto_region 1 with(fail)
 rw[<-ZN.o];go_wp2_with (refine X8 rfl _ rfl _ rfl ZA rfl ?_)
 refine Y3 Wt.o λZV ZZ=>?_
 have ZW:=Zw ZR ZZ;have Xg:=bx ZZ;clear ZZ ZA
 go_wp2
 go_ret2
 exact⟨by rw[ZK.o] <;> rfl,ZW.o⟩
theorem atl(v:Value)(k:C.Kt)(s:ByteArray)(a b:Int)(w:World)(Z2:WZ w v k)(Z0:VT k)(ZY:s.size<=299):
  Calls prog 25 #[v,.string s,Z9 a,Z9 b] w λX1 w'=>X1=.returned (.tuple #[.string (bs (C.bG k s.data.toList a b)),Z9 (C.bc k s.data.toList a b)])/\Z6 w w':=by
 obtain⟨ca,XQ,XP,X5,XR,X2,Xr,wp,Xz,Ym,Xp,wf,ZD,bv,wd,lo,ti,c1,c2,g1,g2,rfl,Z3⟩:=Z2;have WL:=bx (λW(h:Z6 w W)=>Z3.below h);obtain⟨V,ZO⟩:∃V,V=w.alloc (.cells #[Z9 ca,XQ,XP,X5,XR,X2,Z9 Xr,wp,Xz,Ym,Xp,wf,ZD,bv,.bool wd,lo,ti,c1,c2,g1,g2] 38):=⟨_,rfl⟩
 have ZR:=bx (aB ZO);have Ze:=bx (aK ZO);have ZF:=bx (λW(h:Z6 V W)=>Ze.o.below h Ze.o.lt);have ZN:=bx ZO;clear Z3 ZO;have Yx:=bx (λW(h:Z6 w W)=>show WZ W (.agg #[Z9 ca,XQ,XP,X5,XR,X2,Z9 Xr,wp,Xz,Ym,Xp,wf,ZD,bv,.bool wd,lo,ti,c1,c2,g1,g2]) k from⟨_,_,_,_,_,_,_,_,_,_,_,_,_,_,_,_,_,_,_,_,_,rfl,WL.o W h⟩);have Wt:=bx (show Calls prog 56 #[.agg #[Z9 ca,XQ,XP,X5,XR,X2,Z9 Xr,wp,Xz,Ym,Xp,wf,ZD,bv,.bool wd,lo,ti,c1,c2,g1,g2],.string s,.string ⟨#[]⟩] V λX1 w'=>X1=.returned (Z9 (C.ar k s.data.toList []))/\Z6 V w' from Eh _ k s ⟨#[]⟩ V (Yx.o V ZR.o) Z0);have Tc:=bx (λW(h:Z6 w W)=>zj _ k s W (Yx.o W h) Z0 ZY);have Xn:=bx (show C.bc k s.data.toList a b=if C.ar k s.data.toList []=0 then(if a<0\/b<a then 162 else 0)else C.ar k s.data.toList []from rfl);have ZK:=bx (show C.bG k s.data.toList a b=if C.bc k s.data.toList a b=0 then(((C.ae k.c s.data.toList).take b.toNat).drop a.toNat).flatten else[]from rfl);have V9:=Bq k.c s (by omega);have P5:=V9.1;have RD:=bx (show(C.ae k.c s.data.toList).flatten.length<=100000 by have:=V9.2;omega);generalize C.bG k s.data.toList a b=N4 at ZK⊢;generalize C.bc k s.data.toList a b=me at Xn ZK⊢;generalize C.ae k.c s.data.toList=YJ at ZK Tc RD P5;obtain⟨N,Zp⟩:∃N,YJ.length=N:=⟨_,rfl⟩
 have ZE:=bx Zp;rw[Zp]at P5;generalize C.ar k s.data.toList []=er at Wt Xn;clear Z0 ZY WL Yx Zp V9
 by_cases ZI:er=0
 ·subst ZI;rw[Y0 rfl]at Xn
  by_cases QK:a<0\/b<a
  ·rw[Y0 QK]at Xn;rw[Xn.o,Y4 (by decide)]at ZK;rw[Xn.o]
   by_cases YZ:a<0
   focus
    have d1:=Yh YZ
   rotate_left
   focus
    have d1:=Yp YZ;have d2:decide (b<a)=true:=Yh (by omega)
   rotate_left
   all_goals
    clear QK YZ;have ZA:=ZF.o V YU
    go_in
    go_upto_region 1 with(fail)
    rw[<-ZN.o];go_wp2_with (refine X8 rfl _ rfl _ rfl ZA rfl ?_)
    refine Y3 Wt.o λZV ZZ=>?_
    have ZW:=Zw ZR ZZ;have Xg:=bx ZZ;clear ZZ ZA
    go_wp2
    go_ret2
    exact⟨by rw[ZK.o] <;> rfl,ZW.o⟩
  rw[Y4 QK]at Xn;rw[Xn.o,Y0 rfl]at ZK;rw[Xn.o];have d1:decide (a<0)=false:=Yp (by omega);have d2:decide (b<a)=false:=Yp (by omega);obtain⟨f,rfl⟩:∃f:Nat,a=(f:Int):=⟨a.toNat,by omega⟩
  obtain⟨t,rfl⟩:∃t:Nat,b=(t:Int):=⟨b.toNat,by omega⟩
  rw[RU,RU]at ZK;have zX:f<=t:=by omega
  clear QK;have ZA:=ZF.o V YU
  go_in
  go_upto_region 1 with(fail)
  rw[<-ZN.o];go_wp2_with (refine X8 rfl _ rfl _ rfl ZA rfl ?_)
  refine Y3 Wt.o λZV ZZ=>?_
  have ZW:=Zw ZR ZZ;have Xg:=bx ZZ;clear ZZ ZA;have ZA:=(ZF.o ZV Xg.o)
  go_wp2_with (refine X8 rfl _ rfl _ rfl ZA rfl ?_)
  refine(Tc.o ZV ZW.o).mono ?_;rintro X1 ZB ⟨⟨Zc,rfl,WJ⟩,Zz⟩;have Zt:=Zw ZW Zz;obtain⟨Yr,lc,rfl,-⟩:=WJ.slice;rw[ZE.o]at WJ⊢;obtain⟨VF,Um,PH,Tg⟩:=AH WJ ZE.o;have RP:=bx PH;have M4:=bx Tg;clear Zz WJ PH Tg ZA;go_wp2_with fail
  go_loopw[12,13] (λYd ZD wr=>∃j:Nat,j<=N/\Yd=.string (bs (C.b3 YJ f t j))/\ZD=Z9 j/\ZB=wr) (λ_ ZD _=>N-(intOf ZD).toNat)
  ·exact⟨0,by omega,by rw[C.avZ];rfl,rfl,rfl⟩
  obtain⟨j,YO,rfl,rfl,rfl⟩:=hrel
  by_cases Zu:j<N
  ·obtain⟨x,Z4⟩:=Yg YJ j (by rw[ZE.o];exact Zu)
   by_cases Hu:f<=j/\j<t
   ·obtain⟨V9,Ua⟩:=M4.o j x Z4;have Ns:=bx (C.anV Z4 Hu.1 Hu.2);obtain⟨rfl,NB,Py⟩:=RP.o (by omega);unfold maxLen at Py;have Pi:=NY (C.b3 YJ f t j) x;rw[<-Ns.o]at Pi;have J7:(bs (C.b3 YJ f t j)).size+(bs x).size<=1000000:=by
     have Z7:=C.akA YJ f t (j+1);have Z5:=RD.o;rw[Ns.o,WR]at Z7;rw[Wu,Wu];omega
    obtain⟨Ii,CR⟩:=Hu;clear Z4
    go_wp2
    go_roundw
    ·exact⟨j+1,by omega,rfl,by go_num,trivial⟩
    simp[intOf];omega
   have Ns:=bx (C.akR (l:=YJ) Hu)
   by_cases Z7:f<=j
   ·have CR:¬j<t:=by omega
    clear Z4 Hu
    go_wp2
    go_roundw
    ·exact⟨j+1,by omega,by rw[Ns.o],by go_num,trivial⟩
    simp[intOf];omega
   clear Z4 Hu
   go_wp2
   go_roundw
   ·exact⟨j+1,by omega,by rw[Ns.o],by go_num,trivial⟩
   simp[intOf];omega
  obtain rfl:j=N:=by omega
  have zW:=C.ajI YJ f t (i:=j) (by rw[ZE.o];omega);rw[zW]
  go_wp2
  go_ret2
  exact⟨by rw[ZK.o] <;> rfl,Zt.o⟩
 rw[Y4 ZI]at Xn;rw[Xn.o,Y4 ZI]at ZK;rw[Xn.o];have d1:(er != 0)=true:=En.2 ZI;have d2:(er==0)=false:=by rw[Sz];exact ZI
 clear ZI;have ZA:=ZF.o V YU
 go_in
 go_upto_region 1 with(fail)
 rw[<-ZN.o];go_wp2_with (refine X8 rfl _ rfl _ rfl ZA rfl ?_)
 refine Y3 Wt.o λZV ZZ=>?_
 have ZW:=Zw ZR ZZ;have Xg:=bx ZZ;clear ZZ ZA
 go_wp2
 go_ret2
 exact⟨by rw[ZK.o] <;> rfl,ZW.o⟩
theorem sb(a:Option Addr)(N ZU j:Nat)(xs:List (List UInt8))(YO:j<=N)(Zp:xs.length=N)(_:N<=100000){YR:World}(ZI:XC YR (.slice a N ZU) xs):
  ∃Y,(∀W,(Instr.slice 49 (.slice a N ZU) none (some (Z9 (j:Int))) none).run prog W=.ok Y W)/\∀W,XC W (.slice a N ZU) xs->XC W Y (xs.take j):=by
 have GZ:(xs.map Vu).length=N:=by rw[X4];exact Zp
 rcases ZI with⟨Z7,Z5⟩|⟨b,off,sp,XV,Z7,Z5,ZS,ZG⟩
 ·injection Z7 with Zq YP Yb;subst Zq YP Yb;obtain rfl:j=0:=by omega
  exact⟨Z1,λW=>by go_simp,λW _=>by simpa using(show XC W Z1 []from .inl ⟨rfl,rfl⟩)⟩
 injection Z7 with Zq YP Yb;subst Zq Yb;rw[GZ]at Z5;have Z3:j<=ZU:=by omega
 refine⟨.slice (some ⟨b,off,sp⟩) j ZU,λW=>?_,λW Yj=>?_⟩
 ·unfold maxLen at ZS;clear Zp GZ ZG
  by_cases ZL:ZU=0
  ·subst ZL;obtain rfl:j=0:=by omega
   go_simp
  go_simp
 by_cases ZP:xs=[]
 ·subst ZP;obtain rfl:j=0:=by simp at Zp;omega
  exact .inr ⟨b,off,sp,ZU,by simp,by simp,ZS,λh=>absurd (by simp) h⟩
 obtain⟨rfl,Zi,Yu⟩:=ZG (by simpa using ZP);subst Zp;have h:=U8.part (show U8 W (.slice (some ⟨b,off,none⟩) (xs.map Vu).length ZU) (xs.map Vu) by rw[X4];exact Yj) 0 j ZU (OQ _) (by rw[X4];exact YO) (by omega) ZS ⟨b,off,none⟩ (λ_=>by simp[Addr.add]);rw[List.drop_zero,Nat.sub_zero,<-List.map_take]at h;exact h
theorem anp(s:List UInt8)(l:List Int)(w:World)(Z0:s.length<=16777216)(hl:U.scalars s=some l):
  Calls prog 71 #[.string (bs s)] w λe w'=>(∃a c,e=.returned (.tuple #[.slice a l.length c,Z9 0]))/\Z6 w w':=by
 refine(yw (bs s) w (by rw[Wu];exact Z0)).mono ?_;rintro e w' ⟨Z8,ZT⟩;rw[Ky,hl]at ZT;obtain⟨v,rfl,Z2⟩:=ZT;obtain⟨a,c,rfl⟩:=(Y6.au Z2 rfl).slice;exact⟨⟨a,c,rfl⟩,Z8⟩
theorem ajQ(v:Value)(l:List (List UInt8))(sep:List UInt8)(w:World)(hl:XC w v l)(ZY:l.length<=100000)(hm:l.flatten.length<=100000):
  Calls prog 74 #[v,.string (bs sep)] w λX1 w'=>X1=.returned (Z9 (C.aF l sep))/\Z6 w w':=by
 have RD:=bx hm;have Vb:=bx hl;obtain⟨Yr,lc,rfl,-⟩:=hl.slice;obtain⟨N,Zp⟩:∃N,l.length=N:=⟨_,rfl⟩
 have ZE:=bx Zp;rw[Zp]at Vb ZY⊢;clear hl Zp hm
 go_in
 go_wp2_with fail
 go_loopw[5] (λZD wr=>∃i:Nat,1<=i/\i<=N+1/\ZD=Z9 i/\Box (∀j,1<=j->j<i->(l.take j).flatten≠sep)/\Box (Z6 w wr)) (λZD _=>N+1-(intOf ZD).toNat)
 ·exact⟨1,by omega,by omega,rfl,⟨λj Z7 Z5=>by omega⟩,⟨Below.refl _ _⟩⟩
 obtain⟨i,LK,hi,rfl,XF,Z8⟩:=hrel
 by_cases Zu:i<N+1
 ·obtain⟨Y,Xa,VX⟩:=sb Yr N lc i l (by omega) ZE.o ZY (Vb.o.below Z8.o);have Y8:=bx (qw Y (l.take i) wr (VX wr (Vb.o.below Z8.o)) (by rw[SW];omega) (XJ (Fh l i) RD.o));obtain⟨LR,NJ,rfl,-⟩:=(VX wr (Vb.o.below Z8.o)).slice;obtain⟨q7,P4⟩:∃q,q=(l.take i).length:=⟨_,rfl⟩
  rw[<-P4]at Y8 Xa;clear P4 VX
  by_cases he:(l.take i).flatten=sep
  ·have ZK:=bx (C.aka LK (by rw[ZE.o];omega) XF.o he);rw[he]at Y8;have c1:((bs sep).toList==(bs sep).toList)=true:=by simp
   have pO:i<=N:=by omega
   clear he XF Zu;go_wp2_with fail;refine X7 Y8.o Z8.o λZB Zt=>?_
   go_wp2_with fail
   all_goals (go_ret;exact⟨SJ (by rw[ZK.o]),Zt.o⟩)
  have RA:=bx (show∀j,1<=j->j<i+1->(l.take j).flatten≠sep from λj Z7 Z5=>by
   rcases SM j i with ZS|ZS
   ·exact XF.o j Z7 ZS
   obtain rfl:j=i:=by omega
   exact he)
  have c2:¬(bs (l.take i).flatten).toList=(bs sep).toList:=by rw[He,He];exact he
  have c1:((bs (l.take i).flatten).toList==(bs sep).toList)=false:=by rw[Sz];exact c2
  have pO:i<=N:=by omega
  clear he XF;go_wp2_with fail;refine X7 Y8.o Z8.o λZB Zt=>?_
  go_wp2
  go_roundw
  ·exact⟨i+1,by omega,by omega,by go_num,RA,Zt⟩
  simp[intOf];omega
 obtain rfl:i=N+1:=by omega
 have ZK:=bx (C.asE (l:=l) (sep:=sep) (by rw[ZE.o];exact XF.o));have pO:¬N+1<=N:=by omega
 go_wp2
 go_ret
 exact⟨SJ (by rw[ZK.o];rfl),Z8.o⟩
theorem atb(v:Value)(k:C.Kt)(s:ByteArray)(b c:Int)(w:World)(Z2:WZ w v k)(Z0:VT k)(ZY:s.size<=260):
  Calls prog 21 #[v,.string s,Z9 b,Z9 c] w λX1 w'=>X1=.returned (.tuple #[.string (bs (C.bH k s.data.toList b c)),Z9 (C.bp k s.data.toList b c)])/\Z6 w w':=by
 obtain⟨ca,XQ,XP,X5,XR,X2,Xr,wp,Xz,Ym,Xp,wf,ZD,bv,wd,lo,ti,c1,c2,g1,g2,rfl,Z3⟩:=Z2;have WL:=bx (λW(h:Z6 w W)=>Z3.below h);obtain⟨V,ZO⟩:∃V,V=w.alloc (.cells #[Z9 ca,XQ,XP,X5,XR,X2,Z9 Xr,wp,Xz,Ym,Xp,wf,ZD,bv,.bool wd,lo,ti,c1,c2,g1,g2] 38):=⟨_,rfl⟩
 have ZR:=bx (aB ZO);have Ze:=bx (aK ZO);have ZF:=bx (λW(h:Z6 V W)=>Ze.o.below h Ze.o.lt);have ZN:=bx ZO;clear Z3 ZO;have Yx:=bx (λW(h:Z6 w W)=>show WZ W (.agg #[Z9 ca,XQ,XP,X5,XR,X2,Z9 Xr,wp,Xz,Ym,Xp,wf,ZD,bv,.bool wd,lo,ti,c1,c2,g1,g2]) k from⟨_,_,_,_,_,_,_,_,_,_,_,_,_,_,_,_,_,_,_,_,_,rfl,WL.o W h⟩);have Wt:=bx (show Calls prog 56 #[.agg #[Z9 ca,XQ,XP,X5,XR,X2,Z9 Xr,wp,Xz,Ym,Xp,wf,ZD,bv,.bool wd,lo,ti,c1,c2,g1,g2],.string s,.string ⟨#[]⟩] V λX1 w'=>X1=.returned (Z9 (C.ar k s.data.toList []))/\Z6 V w' from Eh _ k s ⟨#[]⟩ V (Yx.o V ZR.o) Z0)
 cases Z8:C.ad k with
 |false=>
  have ZK:=bx (C.abl (s:=s.data.toList) (b:=b) (c:=c) Z8);rw[C.bO Z8]at Wt;rw[ZK.o.1,ZK.o.2];clear Z8 Z0 ZY WL Yx;have ZA:=ZF.o V YU
  go_in
  go_upto_region 1 with(fail)
  rw[<-ZN.o];go_wp2_with (refine X8 rfl _ rfl _ rfl ZA rfl ?_)
  refine Y3 Wt.o λZV ZZ=>?_
  have ZW:=Zw ZR ZZ;have Xg:=bx ZZ;clear ZZ ZA
  go_wp2
  go_ret2
  exact⟨rfl,ZW.o⟩
 |true=>
  rw[C.a6 (s:=s.data.toList) (e:=[]) Z8 (by rw[<-size_eq];omega) (by simp)]at Wt
  by_cases ZL:b<0\/c<0
  ·have ZK:=bx (C.fR (s:=s.data.toList) Z8 (by rw[<-size_eq];omega) ZL);rw[ZK.o.1,ZK.o.2]
   by_cases Yn:b<0
   focus
    have d1:=Yh Yn
   rotate_left
   focus
    have d1:=Yp Yn;have d2:decide (c<0)=true:=Yh (by omega)
   rotate_left
   all_goals
    clear Z8 Z0 ZY WL Yx ZL Yn;have ZA:=ZF.o V YU
    go_in
    go_upto_region 1 with(fail)
    rw[<-ZN.o];go_wp2_with (refine X8 rfl _ rfl _ rfl ZA rfl ?_)
    refine Y3 Wt.o λZV ZZ=>?_
    have ZW:=Zw ZR ZZ;have Xg:=bx ZZ;clear ZZ ZA
    go_wp2
    go_ret2
    exact⟨rfl,ZW.o⟩
  have ZK:=bx (C.gq (s:=s.data.toList) Z8 (by rw[<-size_eq];omega) ZL);rw[ZK.o.2];have d1:decide (b<0)=false:=Yp (by omega);have d2:decide (c<0)=false:=Yp (by omega);have Yn:0<=b:=by omega
  have Vl:0<=c:=by omega
  have R4:=zg (s:=s.data.toList) Z8 (by rw[<-size_eq];omega);have Tc:=bx (λW(h:Z6 w W)=>zj _ k s W (Yx.o W h) Z0 (by omega));have V9:=Bq k.c s (by omega);have P5:=V9.1;have RD:=bx (show(C.ae k.c s.data.toList).flatten.length<=100000 by have:=V9.2;omega);have NN:=bx (λ(i:Nat)=>show U.scalars ((C.ae k.c s.data.toList).take i).flatten=some (C.cL k.c s.data.toList i)from C.aj5 R4 i);have yX:=bx (λ(i:Nat)=>show((C.ae k.c s.data.toList).take i).flatten.length=C.bK (C.ab k.c s.data.toList) i from C.awg R4 i);have S6:=bx (λ(i:Nat)=>C.ajS k.c s.data.toList i);have Kz:=bx (C.apq (ls:=C.ab k.c s.data.toList) (b:=b) (c:=c) Yn Vl);have Kb:=C.eO R4;rw[<-Kb]at ZK;have OC:=bx (show C.bH k s.data.toList b c=((C.ae k.c s.data.toList).take (C.bb (C.ab k.c s.data.toList) b c (C.ae k.c s.data.toList).length)).flatten from ZK.o.1);generalize C.bH k s.data.toList b c=N4 at OC⊢;generalize C.ae k.c s.data.toList=YJ at Tc RD NN yX OC P5 V9;generalize C.ab k.c s.data.toList=ls at yX S6 Kz OC;generalize C.cL k.c s.data.toList=hS at NN S6;obtain⟨N,Zp⟩:∃N,YJ.length=N:=⟨_,rfl⟩
  have ZE:=bx Zp;rw[Zp]at P5 OC;clear Z8 Z0 ZY WL Yx ZL R4 Kb V9 ZK Zp;have ZA:=ZF.o V YU
  go_in
  go_upto_region 1 with(fail)
  rw[<-ZN.o];go_wp2_with (refine X8 rfl _ rfl _ rfl ZA rfl ?_)
  refine Y3 Wt.o λZV ZZ=>?_
  have ZW:=Zw ZR ZZ;have Xg:=bx ZZ;clear ZZ ZA;have ZA:=(ZF.o ZV Xg.o)
  go_wp2_with (refine X8 rfl _ rfl _ rfl ZA rfl ?_)
  refine(Tc.o ZV ZW.o).mono ?_;rintro X1 ZB ⟨⟨Zc,rfl,WJ⟩,Zz⟩;have Zt:=Zw ZW Zz;obtain⟨Yr,lc,rfl,-⟩:=WJ.slice;rw[ZE.o]at WJ⊢;have Vb:=bx WJ;clear Zz WJ ZA;go_wp2_with fail
  go_loopw[12,13] (λYd ZD wr=>∃i:Nat,i<=N+1/\Yd=.string (bs (YJ.take (C.bb ls b c (i-1))).flatten)/\ZD=Z9 i/\Box (Z6 ZB wr)) (λ_ ZD _=>N+1-(intOf ZD).toNat)
  ·exact⟨0,by omega,by rw[show(YJ.take (C.bb ls b c (0-1))).flatten=[] by simp[C.bb]] <;> rfl,rfl,⟨Below.refl _ _⟩⟩
  obtain⟨i,hi,rfl,rfl,Xk⟩:=hrel;have X3:=bx (bt Zt.o Xk.o)
  by_cases Zu:i<N+1
  ·obtain⟨Y,Xa,VX⟩:=sb Yr N lc i YJ (by omega) ZE.o (by omega) (Vb.o.below Xk.o);have Y8:=bx (qw Y (YJ.take i) wr (VX wr (Vb.o.below Xk.o)) (by rw[SW];omega) (XJ (Fh YJ i) RD.o));obtain⟨LR,NJ,rfl,-⟩:=(VX wr (Vb.o.below Xk.o)).slice;obtain⟨q7,P4⟩:∃q,q=(YJ.take i).length:=⟨_,rfl⟩
   rw[<-P4]at Y8 Xa;have wq:=bx (λW=>anp (YJ.take i).flatten (hS i) W (XJ (Fh YJ i) (XJ RD.o (by decide))) (NN.o i));have Xx:=bx (Kz.o i);have pO:i<=N:=by omega
   have Zq:=Wu (YJ.take i).flatten;obtain⟨Yk,zH⟩:∃t,t=(YJ.take i).flatten.length:=⟨_,rfl⟩
   obtain⟨I2,I8⟩:∃t,t=(hS i).length:=⟨_,rfl⟩
   rw[<-zH]at Zq;rw[<-I8]at wq;have Yt:=bx (show C.br ls b c i=(decide ((Yk:Int)<=b)&&decide ((I2:Int)<=c)) by unfold C.br;rw[zH,I8,yX.o,S6.o]);rw[Yt.o]at Xx;obtain⟨ax7,C2⟩:∃t,t=(YJ.take i).flatten:=⟨_,rfl⟩
   rw[<-C2]at Y8 wq Zq;have PV:=bx C2;clear P4 VX zH I8 Yt C2
   by_cases Z7:(Yk:Int)<=b
   ·have d4:=Yh Z7
    by_cases Z5:(I2:Int)<=c
    ·have d5:=Yh Z5;have Ll:=bx (show C.bb ls b c i=i by have h:=Xx.o;rw[d4,d5]at h;exact h.symm);clear Z7 Z5;go_wp2_with fail;refine X7 Y8.o Xk.o λZh YY=>?_
     go_wp2_with fail;refine(wq.o Zh).mono ?_;rintro X1 YL ⟨⟨L2,Tk,rfl⟩,Yf⟩;have Ye:=Zw YY Yf;clear Yf
     go_wp2
     go_roundw
     ·exact⟨i+1,by omega,by rw[Nat.add_sub_cancel,Ll.o,PV.o],by go_num,Ye⟩
     simp[intOf];omega
    have d5:=Yp Z5;have Ll:=bx (show C.bb ls b c i=C.bb ls b c (i-1) by have h:=Xx.o;rw[d4,d5]at h;exact h.symm);clear Z7 Z5;go_wp2_with fail;refine X7 Y8.o Xk.o λZh YY=>?_
    go_wp2_with fail;refine(wq.o Zh).mono ?_;rintro X1 YL ⟨⟨L2,Tk,rfl⟩,Yf⟩;have Ye:=Zw YY Yf;clear Yf
    go_wp2
    go_roundw
    ·exact⟨i+1,by omega,by rw[Nat.add_sub_cancel,Ll.o],by go_num,Ye⟩
    simp[intOf];omega
   have d4:=Yp Z7;have Ll:=bx (show C.bb ls b c i=C.bb ls b c (i-1) by have h:=Xx.o;rw[d4,Bool.false_and]at h;exact h.symm);clear Z7;go_wp2_with fail;refine X7 Y8.o Xk.o λZh YY=>?_
   go_wp2_with fail;refine(wq.o Zh).mono ?_;rintro X1 YL ⟨⟨L2,Tk,rfl⟩,Yf⟩;have Ye:=Zw YY Yf;clear Yf
   go_wp2
   go_roundw
   ·exact⟨i+1,by omega,by rw[Nat.add_sub_cancel,Ll.o],by go_num,Ye⟩
   simp[intOf];omega
  obtain rfl:i=N+1:=by omega
  have pO:¬N+1<=N:=by omega
  rw[Nat.add_sub_cancel]
  go_wp2
  go_ret2
  exact⟨by rw[OC.o] <;> rfl,X3.o⟩
theorem C.ap7(l:List (List UInt8))(x:List UInt8)(a:Nat)(Z4:l[a]?=some x):x.length<=l.flatten.length:=C.fT (Xh Z4)
theorem akW(k:C.Kt)(s e:ByteArray)(ZY:s.size<=2000):(C.bN k s.data.toList e.data.toList).length<=2001:=by
 unfold C.bN
 split
 ·have Z7:=C.eg (C.ae k.c s.data.toList) (M.fix e.data.toList) (C.ae k.c s.data.toList).length 0 0;have Z5:=(Bq k.c s ZY).1;omega
 simp
theorem arN(v:Value)(k:C.Kt)(s e:ByteArray)(w:World)(Z2:WZ w v k)(Z0:VT k)(ZY:s.size<=260)(Xj:e.size<=60):
  Calls prog 27 #[v,.string s,.string e] w λX1 w'=>(∃Zy,X1=.returned (.tuple #[Zy,Z9 (C.bn k s.data.toList e.data.toList)])/\XC w' Zy (C.bN k s.data.toList e.data.toList))/\Z6 w w':=by
 obtain⟨ca,XQ,XP,X5,XR,X2,Xr,wp,Xz,Ym,Xp,wf,ZD,bv,wd,lo,ti,c1,c2,g1,g2,rfl,Z3⟩:=Z2;have WL:=bx (λW(h:Z6 w W)=>Z3.below h);obtain⟨V,ZO⟩:∃V,V=w.alloc (.cells #[Z9 ca,XQ,XP,X5,XR,X2,Z9 Xr,wp,Xz,Ym,Xp,wf,ZD,bv,.bool wd,lo,ti,c1,c2,g1,g2] 38):=⟨_,rfl⟩
 have ZR:=bx (aB ZO);have Ze:=bx (aK ZO);have ZF:=bx (λW(h:Z6 V W)=>Ze.o.below h Ze.o.lt);have ZN:=bx ZO;clear Z3 ZO;have Yx:=bx (λW(h:Z6 w W)=>show WZ W (.agg #[Z9 ca,XQ,XP,X5,XR,X2,Z9 Xr,wp,Xz,Ym,Xp,wf,ZD,bv,.bool wd,lo,ti,c1,c2,g1,g2]) k from⟨_,_,_,_,_,_,_,_,_,_,_,_,_,_,_,_,_,_,_,_,_,rfl,WL.o W h⟩);have Wt:=bx (Eh _ k s e V (Yx.o V ZR.o) Z0)
 cases Z8:C.ad k with
 |false=>
  have ZK:=bx (C.ael (s:=s.data.toList) (e:=e.data.toList) Z8);rw[C.bO Z8]at Wt;rw[ZK.o.1,ZK.o.2];clear Z8 Z0 ZY Xj WL Yx;have ZA:=ZF.o V YU
  go_in
  go_upto_region 1 with(fail)
  rw[<-ZN.o];go_wp2_with (refine X8 rfl _ rfl _ rfl ZA rfl ?_)
  refine Y3 Wt.o λZV ZZ=>?_
  have ZW:=Zw ZR ZZ;have Xg:=bx ZZ;clear ZZ ZA
  go_wp2
  go_ret2
  exact⟨⟨_,rfl,.inl ⟨rfl,rfl⟩⟩,ZW.o⟩
 |true=>
  rw[C.a6 (s:=s.data.toList) (e:=e.data.toList) Z8 (by rw[<-size_eq];omega) (by rw[<-size_eq];exact Xj)]at Wt
  by_cases LL:e.data.toList=[]
  ·have ZK:=bx (C.aaP (s:=s.data.toList) Z8 (by rw[<-size_eq];omega));rw[LL,ZK.o.1,ZK.o.2];obtain rfl:e=bs []:=by rw[sU e,LL]
   have Zq:=D3;clear Z8 Z0 ZY Xj WL Yx LL;have ZA:=ZF.o V YU
   go_in
   go_upto_region 1 with(fail)
   rw[<-ZN.o];go_wp2_with (refine X8 rfl _ rfl _ rfl ZA rfl ?_)
   refine Y3 Wt.o λZV ZZ=>?_
   have ZW:=Zw ZR ZZ;have Xg:=bx ZZ;clear ZZ ZA
   go_wp2
   go_ret2
   exact⟨⟨_,rfl,.inl ⟨rfl,rfl⟩⟩,ZW.o⟩
  have ZK:=bx (C.gh (s:=s.data.toList) Z8 (by rw[<-size_eq];omega) (by rw[<-size_eq];omega) LL);have Zq:e.toList.isEmpty=false:=by rw[uV];cases h:e.data.toList with|nil=>exact absurd h LL|cons _ _=>rfl
  have Tc:=bx (λW(h:Z6 w W)=>zj _ k s W (Yx.o W h) Z0 (by omega));have UL:=bx (λW=>show Calls prog 58 #[.string e] W λR8 w'=>R8=.returned (.string (bs (M.fix e.data.toList)))/\Z6 W w' from Ju e W (by omega));have V9:=Bq k.c s (by omega);have P5:=V9.1;have RD:=bx (show(C.ae k.c s.data.toList).flatten.length<=100000 by have:=V9.2;omega);rw[ZK.o.1,ZK.o.2];have XI:=bx (C.apt (C.ae k.c s.data.toList) (M.fix e.data.toList));generalize C.ae k.c s.data.toList=YJ at Tc RD XI P5⊢;generalize M.fix e.data.toList=TC at UL XI⊢;have UU:=C.eg YJ TC YJ.length 0 0;generalize C.bV YJ TC YJ.length 0 0=all at XI UU⊢;obtain⟨N,Zp⟩:∃N,YJ.length=N:=⟨_,rfl⟩
  have ZE:=bx Zp;rw[Zp]at P5 UU;have SH:=bx UU;clear Z8 Z0 ZY Xj WL Yx V9 Zp LL ZK UU;have ZA:=ZF.o V YU
  go_in
  go_upto_region 1 with(fail)
  rw[<-ZN.o];go_wp2_with (refine X8 rfl _ rfl _ rfl ZA rfl ?_)
  refine Y3 Wt.o λZV ZZ=>?_
  have ZW:=Zw ZR ZZ;have Xg:=bx ZZ;clear ZZ ZA;have ZA:=(ZF.o ZV Xg.o)
  go_wp2_with (refine X8 rfl _ rfl _ rfl ZA rfl ?_)
  refine(Tc.o ZV ZW.o).mono ?_;rintro X1 ZB ⟨⟨Zc,rfl,WJ⟩,Zz⟩;have Zt:=Zw ZW Zz;obtain⟨Yr,lc,rfl,-⟩:=WJ.slice;rw[ZE.o]at WJ⊢;have Vb:=bx WJ;obtain⟨VF,Um,PH,Tg⟩:=AH WJ ZE.o;have RP:=bx PH;have M4:=bx Tg;have Ox:=bx (vt ZB.heap.size ZB rfl);clear Zz WJ PH Tg ZA;go_wp2_with fail
  go_loopw[10,11,12] (λYd pv ZD wr=>∃(a b j:Nat)(ol:List (List UInt8))(UC:Option Addr)(Wr:Nat),a<=N/\Yd=.slice UC j Wr/\pv=.string (bs ((YJ.take a).drop b).flatten)/\ZD=Z9 a/\Box (ol.length=j)/\Box (C.dk YJ TC a b ol all)/\Box (Sep (Sd ZB.heap.size ZB (.slice UC j Wr) ol) wr)) (λ_ _ ZD _=>N-(intOf ZD).toNat)
  ·exact⟨0,0,0,[],none,0,by omega,rfl,rfl,rfl,⟨rfl⟩,XI,Ox⟩
  obtain⟨a,b,j,ol,UC,Wr,YZ,rfl,rfl,rfl,Hs,uP,YC⟩:=hrel;have XW:=bx (JB YC.o);have X3:=bx (bt Zt.o XW.o);have aAf:j<=3000:=by
   obtain⟨-,-,f,-,ZG⟩:=uP.o;have Zi:=congrArg List.length ZG;rw[WR]at Zi;have:=Hs.o;have:=SH.o;omega
  have TK:((YJ.take a).drop b).flatten.length<=100000:=by
   have Z7:=XJ (Fh YJ a) RD.o;have Z5:=congrArg (λx=>x.flatten.length) (I0 b (YJ.take a));simp only[JZ,WR]at Z5;omega
  by_cases Zu:a<N
  ·obtain⟨Y,Xa,VX⟩:=lE Yr N lc a YJ (by omega) ZE.o (by omega) Vb.o;have z1:=VQ wr 1;have Y9:=bx (show Z6 ZB wr.drew from bt XW.o z1);have AW:=bx (λW(h:Z6 ZB W)=>ajQ Y (YJ.drop a) TC W (VX W (Vb.o.below h)) (by rw[Px,ZE.o];omega) (XJ (by have Z5:=congrArg (λx=>x.flatten.length) (I0 a YJ);simp only[JZ,WR]at Z5;omega) RD.o));obtain⟨n,ZP⟩:∃n,n=C.aF (YJ.drop a) TC:=⟨_,rfl⟩
   rw[<-ZP]at AW;have Mr:=bx ZP;have aeq:=C.dN (YJ.drop a) TC;rw[<-ZP,Px,ZE.o]at aeq;have Jy:=bx trivial;have Xm:=bx (show Sep (Sd ZB.heap.size ZB (.slice UC j Wr) ol) wr.drew from YC.o.drewN 1);clear ZP z1 VX;go_wp2_with fail;refine Vv 6 (λ_=>True) (by kernel_rfl) ?_;generalize wr.drew=Yl at Y9 Xm⊢;refine Vp [0,1,2,3] ?_
   iterate 4 (refine Vq ?_ rfl Jy.o ?_ ?_;rotate_left;·intro w q1;go_simp;try with_reducible rfl)
   refine Vr ?_;refine Y1 4 rfl λY7 ZX=>?_
   go_simp;refine Y3 (UL.o Yl) λZh Zb=>?_
   have YY:=Zw Y9 Zb;have Gk:=bx Zb;clear Zb;refine ZX.out _ _ (λ_=>trivial) ?_;clear ZX Y7;refine Y1 5 rfl λY7 ZX=>?_
   go_simp;refine Y3 (AW.o Zh YY.o) λYL Yf=>?_
   have Ye:=Zw YY Yf;have Wp:=bx (Xm.o.below (bt Gk.o Yf));clear Yf;refine ZX.out _ _ (λ_=>trivial) ?_;clear ZX Y7;refine Y1 6 rfl λY7 ZX=>?_
   go_simp;refine ZX.out _ _ (λh=>by cases h) ?_;clear ZX Y7;refine kD ?_ _;have vM:=bx (show Sep [Pc.row ZB.heap.size 9 1 (.slice UC j Wr) j (ol.map Vu),Pc.old ZB.heap.size ZB] YL by
    have h:=Wp.o;unfold Sd at h;rw[Hs.o]at h;exact h)
   have u5:ZB.heap.size<=YL.heap.size:=Ye.o.size;have zU:j<=1000000000:=by omega
   obtain⟨xt,I9⟩:∃t,t=((YJ.take a).drop b).flatten:=⟨_,rfl⟩
   have qV:=bx I9;rw[<-I9]at TK⊢;clear I9
   by_cases j7:0<n
   ·have Qx:=bx (C.alw uP.o (by rw[ZE.o];exact Zu) (by rw[<-Mr.o];exact j7));rw[<-Mr.o,<-qV.o]at Qx;have SG:=bx (C.aoR YJ (a+n));obtain⟨Oa,kA⟩:∃q,q=a+n:=⟨_,rfl⟩
    rw[<-kA]at Qx SG;have FP:IntKind.i64.wrap ((a:Int)+(n:Int))=(Oa:Int):=by rw[QN,kA];omega
    have awP:Oa<=N/\a<Oa:=by omega
    clear kA aeq;go_wp2_with (at_builtin;refine PC (u:=Vu xt) rfl _ _ 49 rfl Iy vM.o 0 rfl rfl rfl rfl zU (by omega) u5 ?_;rintro v5 YK OX ⟨g5,Wv,rfl,-,-⟩;have XO:=bx (qq Hs.o OX rfl);clear OX)
    go_wp2
    go_roundw
    ·exact⟨Oa,Oa,j+1,ol++[xt],_,_,by omega,rfl,by rw[SG.o];rfl,rfl,⟨by rw[WR,Hs.o];rfl⟩,Qx,XO⟩
    simp[intOf];omega
   have Qx:=bx (C.at1 uP.o (by rw[ZE.o];exact Zu) (by rw[<-Mr.o];exact j7));obtain⟨x,Z4⟩:=Yg YJ a (by rw[ZE.o];exact Zu);obtain⟨ug,afC⟩:=M4.o a x Z4;have Ua:=(Ye.o.cell (p:=⟨VF,Um+a,none⟩) ug).trans afC;have Ur:=Vh ug Ye.o.size;obtain⟨rfl,NB,Py⟩:=RP.o (by omega);unfold maxLen at Py;have Aq:=bx (C.gd uP.o.1 Z4);rw[<-qV.o]at Aq;have Pi:=NY xt x;have J7:(bs xt).size+(bs x).size<=1000000:=by
    have Z7:=(C.ap7 YJ x a Z4)
    have Z5:=RD.o;rw[Wu,Wu];omega
   clear Z4 afC ug
   go_wp2
   go_roundw
   ·exact⟨a+1,b,j,ol,UC,Wr,by omega,rfl,by rw[Aq.o],by go_num,Hs,Qx,Wp⟩
   simp[intOf];omega
  have RR:=bx (C.aoe uP.o (by rw[ZE.o];exact Zu));have vM:=bx (show Sep [Pc.row ZB.heap.size 9 1 (.slice UC j Wr) j (ol.map Vu),Pc.old ZB.heap.size ZB] wr by
   have h:=YC.o;unfold Sd at h;rw[Hs.o]at h;exact h)
  have u5:ZB.heap.size<=wr.heap.size:=XW.o.size;have zU:j<=1000000000:=by omega
  obtain⟨xt,I9⟩:∃t,t=((YJ.take a).drop b).flatten:=⟨_,rfl⟩
  rw[<-I9]at RR TK⊢;clear I9;go_wp2_with (at_builtin;refine PC (u:=Vu xt) rfl _ _ 49 rfl Iy vM.o 0 rfl rfl rfl rfl zU (by omega) u5 ?_;rintro v5 YK OX ⟨g5,Wv,rfl,-,-⟩;have XO:=bx (qq Hs.o OX rfl);clear OX)
  go_wp2
  go_ret2
  exact⟨⟨_,rfl,by rw[RR.o];exact Ay XO.o⟩,Zt.o.trans ((JB XO.o).mono Zt.o.size)⟩
theorem apc(A:Nat->Addr)(B:Nat)(v:Value)(k:C.Kt)(s:ByteArray)(m n:Int)(e:ByteArray)(w:World)(Z2:WZ w v k)(FO:s.size<=9223372036854775807)(hm:mX m)(ZP:mX n)(Xj:e.size<=9223372036854775807)(hS:Sw A B w):
  Calls prog 4 #[v,.string s,Z9 m,Z9 n,.string e] w λx w'=>x=.returned (.bool true)/\Z6 w w':=by
 have Ns:=bx hm;have MW:=bx ZP;clear hm ZP;have Xe:=bx hS;have JK:=bx Z2;obtain⟨XX,UB,V2,z2,V4,z3,UO,z4,T1,z5,S1,Oe,RY,Od,O2,Ia,O1,z9,KU,Ie,KT,Ic,KS,z12,KA,IX,KR,IK,KQ,IB,KP,Ix,KO,Ib,KN,IM,rfl⟩:=Z2.slices;clear Z2;generalize k.c.p.1.length=Vy,k.c.p.2.length=TX,k.c.r.length=Qa,k.c.m.1.length=Lh,k.c.m.2.length=KM,k.w.p.1.length=FE,k.w.p.2.length=FD,k.w.r.length=FC,k.w.m.1.length=FB,k.w.m.2.length=Gt,k.d.p.1.length=Gq,k.d.p.2.length=Gn,k.s.lo.length=FF,k.s.ti.length=GR,k.s.ca.1.length=GT,k.s.ca.2.length=GC,k.s.ig.1.length=Gu,k.s.ig.2.length=GO,k.c.n=FK,k.w.n=FJ,k.d.wide=Mh at JK⊢;have JG:=bx (λW=>CI s 100 100 W rfl FO (by decide));have GH:=bx (Cn s 100);generalize Hg s 100=cs at JG GH;clear FO;have JU:=bx (λW=>CI e 20 20 W rfl Xj (by decide));have G7:=bx (Cn e 20);generalize Hg e 20=ce at JU G7;clear Xj;obtain⟨V,ZO⟩:∃V,V=w.alloc (.cells #[Z9 FK,.slice XX Vy UB,.slice V2 TX z2,.slice V4 Qa z3,.slice UO Lh z4,.slice T1 KM z5,Z9 FJ,.slice S1 FE Oe,.slice RY FD Od,.slice O2 FC Ia,.slice O1 FB z9,.slice KU Gt Ie,.slice KT Gq Ic,.slice KS Gn z12,.bool Mh,.slice KA FF IX,.slice KR GR IK,.slice KQ GT IB,.slice KP GC Ix,.slice KO Gu Ib,.slice KN GO IM] 38):=⟨_,rfl⟩
 have ZR:=bx (aB ZO);have GS:=bx (show Sep [Pc.blk w.heap.size 38 #[Z9 FK,.slice XX Vy UB,.slice V2 TX z2,.slice V4 Qa z3,.slice UO Lh z4,.slice T1 KM z5,Z9 FJ,.slice S1 FE Oe,.slice RY FD Od,.slice O2 FC Ia,.slice O1 FB z9,.slice KU Gt Ie,.slice KT Gq Ic,.slice KS Gn z12,.bool Mh,.slice KA FF IX,.slice KR GR IK,.slice KQ GT IB,.slice KP GC Ix,.slice KO Gu Ib,.slice KN GO IM],Pc.old w.heap.size w] V by rw[ZO];exact(Sep.start w).ak _ _);have Wy:=bx (show V.heap.size=w.heap.size+1 by rw[ZO];simp);have ZN:=bx ZO;clear hS ZO
 go_in
 go_wp2_with fail;rw[<-ZN.o];refine Y3 (qX A B V (Xe.o.below ZR.o)) λZV ZZ=>?_
 have ZW:=bx (bT ZR.o ZZ);have JJ:=bx (GS.o.below ZZ);have V0:=bx (show w.heap.size<ZV.heap.size by have:=Wy.o;have:=ZZ.size;omega);clear ZZ ZN;have VE:=bx (sY _ k w ZV JK.o ZW.o);have ZA:=JJ.o.blk 0 rfl;go_wp2_with (refine X8 rfl _ rfl _ rfl ZA rfl ?_)
 refine VE.o.mono ?_;rintro ex ZB ⟨Zz,Zy,rfl,OG⟩;clear ZA;have Zt:=bx (bT ZW.o Zz);have MS:=bx (JJ.o.below Zz);obtain⟨p1,r1,p2,r2,p3,r3,Ve,r4,U6,Tu,T2,Qe,Uc,Qd,Tm,Qc,Qk,Qb,Qp,Qj,Qo,Qi,Qn,Qh,Qm,Qg,Qs,QD,Qq,Qr,Ql,Qf,Qz,QA,QB,QC,rfl⟩:=(OG ZB (Turns.refl _ _) Zt.o).slices;have Iq:=sW k;obtain⟨K,Xc⟩:∃K,K=zm k:=⟨_,rfl⟩
 have Qt:=bx (show VT K by rw[Xc];exact Iq);rw[<-Xc]at OG⊢;clear Zz Xc Iq;generalize K.c.p.1.length=q1,K.c.p.2.length=q2,K.c.r.length=q3,K.c.m.1.length=q4,K.c.m.2.length=q5,K.w.p.1.length=q6,K.w.p.2.length=q7,K.w.r.length=q8,K.w.m.1.length=q9,K.w.m.2.length=q10,K.d.p.1.length=So,K.d.p.2.length=Sn,K.s.lo.length=Sb,K.s.ti.length=Rv,K.s.ca.1.length=Ru,K.s.ca.2.length=Rn,K.s.ig.1.length=Rt,K.s.ig.2.length=Rr,K.c.n=nu,K.w.n=Zo,K.d.wide=we at OG⊢;have G6:=bx OG;clear OG VE;have ZA:=MS.o.blk 0 rfl;have P0:=bx (show Sep [Pc.blk w.heap.size 38 #[Z9 nu,.slice p1 q1 r1,.slice p2 q2 r2,.slice p3 q3 r3,.slice Ve q4 r4,.slice U6 q5 Tu,Z9 Zo,.slice T2 q6 Qe,.slice Uc q7 Qd,.slice Tm q8 Qc,.slice Qk q9 Qb,.slice Qp q10 Qj,.slice Qo So Qi,.slice Qn Sn Qh,.bool we,.slice Qm Sb Qg,.slice Qs Rv QD,.slice Qq Ru Qr,.slice Ql Rn Qf,.slice Qz Rt QA,.slice QB Rr QC],Pc.old w.heap.size w] _ from MS.o.setRow 0 rfl #[Z9 nu,.slice p1 q1 r1,.slice p2 q2 r2,.slice p3 q3 r3,.slice Ve q4 r4,.slice U6 q5 Tu,Z9 Zo,.slice T2 q6 Qe,.slice Uc q7 Qd,.slice Tm q8 Qc,.slice Qk q9 Qb,.slice Qp q10 Qj,.slice Qo So Qi,.slice Qn Sn Qh,.bool we,.slice Qm Sb Qg,.slice Qs Rv QD,.slice Qq Ru Qr,.slice Ql Rn Qf,.slice Qz Rt QA,.slice QB Rr QC]);have NH:=bx (show Turns (λq=>q=w.heap.size) ZB _ from Turns.setRow (own:=λq=>q=w.heap.size) (g:=w.heap.size) rfl #[Z9 nu,.slice p1 q1 r1,.slice p2 q2 r2,.slice p3 q3 r3,.slice Ve q4 r4,.slice U6 q5 Tu,Z9 Zo,.slice T2 q6 Qe,.slice Uc q7 Qd,.slice Tm q8 Qc,.slice Qk q9 Qb,.slice Qp q10 Qj,.slice Qo So Qi,.slice Qn Sn Qh,.bool we,.slice Qm Sb Qg,.slice Qs Rv QD,.slice Qq Ru Qr,.slice Ql Rn Qf,.slice Qz Rt QA,.slice QB Rr QC])
 go_upto_region 3 with(refine wH rfl _ _ rfl _ rfl rfl ZA rfl (by rfl) (by kernel_rfl) ?_)
 generalize ZB.setRow w.heap.size #[Z9 nu,.slice p1 q1 r1,.slice p2 q2 r2,.slice p3 q3 r3,.slice Ve q4 r4,.slice U6 q5 Tu,Z9 Zo,.slice T2 q6 Qe,.slice Uc q7 Qd,.slice Tm q8 Qc,.slice Qk q9 Qb,.slice Qp q10 Qj,.slice Qo So Qi,.slice Qn Sn Qh,.bool we,.slice Qm Sb Qg,.slice Qs Rv QD,.slice Qq Ru Qr,.slice Ql Rn Qf,.slice Qz Rt QA,.slice QB Rr QC]=Zh at P0 NH⊢;clear ZA;have YY:=bx (P0.o.bel (n:=w.heap.size) (W0:=w) (by simp));have Un:=bx (show WZ Zh (.agg #[Z9 nu,.slice p1 q1 r1,.slice p2 q2 r2,.slice p3 q3 r3,.slice Ve q4 r4,.slice U6 q5 Tu,Z9 Zo,.slice T2 q6 Qe,.slice Uc q7 Qd,.slice Tm q8 Qc,.slice Qk q9 Qb,.slice Qp q10 Qj,.slice Qo So Qi,.slice Qn Sn Qh,.bool we,.slice Qm Sb Qg,.slice Qs Rv QD,.slice Qq Ru Qr,.slice Ql Rn Qf,.slice Qz Rt QA,.slice QB Rr QC]) K from G6.o Zh (NH.o.mono (λk _=>by have:=V0.o;omega)) YY.o);have WT:=bx (Xe.o.below YY.o);have ZF:=bx (λW(h:Z6 Zh W)=>(P0.o.blk 0 rfl).below h (P0.o.blk 0 rfl).lt);clear GS JJ MS P0 NH G6 ZR ZW Zt Wy JK Xe V0;go_wp2_with fail;refine YW (JG.o _) ?_;clear JG;go_wp2_with fail;refine YW (JU.o _) ?_;clear JU;have Tg:cs.size<=100:=GH.o;have Dc:ce.size<=20:=G7.o;have Ts:=bx (λW(h:Z6 Zh W)=>ams A B _ K cs m n W (Un.o.below h) Qt.o (by omega) Ns.o.2 MW.o.2 (WT.o.below h));have Q1:=bx (λW(h:Z6 Zh W)=>atb _ K cs m n W (Un.o.below h) Qt.o (by omega));have Ow:=bx (λW(h:Z6 Zh W)=>au6 A B _ K cs W (Un.o.below h) Qt.o (by omega) (WT.o.below h));have LN:=bx (λW(h:Z6 Zh W)=>aqo _ K cs W (Un.o.below h) Qt.o (by omega));have Du:=bx (λW(h:Z6 Zh W)=>avp A B _ K cs m n W (Un.o.below h) Qt.o (by omega) (WT.o.below h));have Dt:=bx (λW(h:Z6 Zh W)=>atl _ K cs m n W (Un.o.below h) Qt.o (by omega));have Ds:=bx (λW(h:Z6 Zh W)=>avx A B _ K cs ce W (Un.o.below h) Qt.o (by omega) (by omega) (WT.o.below h));have Dr:=bx (λW(h:Z6 Zh W)=>arN _ K cs ce W (Un.o.below h) Qt.o (by omega) (by omega));have Wg:=bx (akW K cs ce (by omega));generalize C.bH K cs.data.toList m n=t1 at Ts Q1;generalize C.bp K cs.data.toList m n=Zq at Ts Q1;generalize C.cb K cs.data.toList=t2 at Ow LN;generalize C.ar K cs.data.toList []=YP at Ow LN;generalize C.bG K cs.data.toList m n=t3 at Du Dt;generalize C.bc K cs.data.toList m n=Yb at Du Dt;generalize C.bN K cs.data.toList ce.data.toList=sp at Ds Dr Wg;generalize C.bn K cs.data.toList ce.data.toList=WW at Ds Dr;obtain⟨N,Zp⟩:∃N,sp.length=N:=⟨_,rfl⟩
 have ZE:=bx Zp;have q1:((bs t1).toList==(bs t1).toList)=true:=by simp
 have q2:((bs t2).toList==(bs t2).toList)=true:=by simp
 have q3:((bs t3).toList==(bs t3).toList)=true:=by simp
 clear Tg Dc Zp;have ZA:=ZF.o Zh (Below.refl _ Zh);go_wp2_with (refine X8 rfl _ rfl _ rfl ZA rfl ?_)
 refine Y3 (Ts.o Zh (Below.refl _ Zh)) λYL Z8=>?_
 clear ZA;have Ye:=bx (bT (Below.refl _ Zh) Z8);clear Z8 Ts;have ZA:=ZF.o YL Ye.o;go_wp2_with (refine X8 rfl _ rfl _ rfl ZA rfl ?_)
 refine Y3 (Q1.o YL Ye.o) λYK Z8=>?_
 clear ZA;have X6:=bx (bT Ye.o Z8);clear Z8 Q1;have ZA:=ZF.o YK X6.o;go_wp2_with (refine X8 rfl _ rfl _ rfl ZA rfl ?_)
 refine Y3 (Ow.o YK X6.o) λXA Z8=>?_
 clear ZA;have VN:=bx (bT X6.o Z8);clear Z8 Ow;have ZA:=ZF.o XA VN.o;go_wp2_with (refine X8 rfl _ rfl _ rfl ZA rfl ?_)
 refine Y3 (LN.o XA VN.o) λXi Z8=>?_
 clear ZA;have XM:=bx (bT VN.o Z8);clear Z8 LN;have ZA:=ZF.o Xi XM.o;go_wp2_with (refine X8 rfl _ rfl _ rfl ZA rfl ?_)
 refine Y3 (Du.o Xi XM.o) λVa Z8=>?_
 clear ZA;have Tw:=bx (bT XM.o Z8);clear Z8 Du;have ZA:=ZF.o Va Tw.o;go_wp2_with (refine X8 rfl _ rfl _ rfl ZA rfl ?_)
 refine Y3 (Dt.o Va Tw.o) λPM Z8=>?_
 clear ZA;have UD:=bx (bT Tw.o Z8);clear Z8 Dt;have ZA:=ZF.o PM UD.o;go_wp2_with (refine X8 rfl _ rfl _ rfl ZA rfl ?_)
 refine(Ds.o PM UD.o).mono ?_;rintro ex Eo ⟨⟨v1,rfl,Z2⟩,Z8⟩;clear ZA;have Bj:=bx (bT UD.o Z8);obtain⟨pa,ahJ,rfl,-⟩:=Z2.slice;rw[ZE.o]at Z2⊢;have WI:=bx Z2;clear Z8 Z2 Ds;have ZA:=ZF.o Eo Bj.o;go_wp2_with (refine X8 rfl _ rfl _ rfl ZA rfl ?_)
 refine(Dr.o Eo Bj.o).mono ?_;rintro ex El ⟨⟨v2,rfl,Z2⟩,Z8⟩;clear ZA;have wh:=bx (bT Bj.o Z8);obtain⟨FG,rc,rfl,-⟩:=Z2.slice;rw[ZE.o]at Z2⊢;have Xy:=bx Z2;have WI:=bx (WI.o.below Z8);clear Z8 Z2 Dr;have Y8:=bx (acg _ _ sp El WI.o Xy.o (by have:=Wg.o;omega));go_wp2_with fail;refine Y3 Y8.o λ_ Z8=>?_
 have nj:=bx (bT wh.o Z8);clear Z8
 go_wp2
 go_ret
 exact⟨rfl,bT YY.o nj.o⟩
