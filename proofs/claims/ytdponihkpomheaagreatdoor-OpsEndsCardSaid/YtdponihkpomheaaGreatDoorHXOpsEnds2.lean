/- Texts of this claim. -/
import Derived.Test.YtdponihkpomheaaGreatDoorH25
import Derived.Test.YtdponihkpomheaaGreatDoorHXOpsEnds1

set_option maxRecDepth 100000
set_option maxHeartbeats 8000000
namespace Go.Proofs.YtdponihkpomheaaGreatDoor
open Go.RowKit
open Go.Proofs.Tryz
namespace C
open Go.Proofs.YtdponihkpomheaaGreatDoor
theorem ahd {g:Ga} {s e:List UInt8} {n:Int}:∀ {k j:Nat},j<=k->nI g (headA g.t s j) (M.fix e) n=true->∃ i,yF g s e n k=some i/\j<=i
 | 0,j,hj,h=>by
  obtain rfl:j=0:=by omega
  exact⟨0,by unfold yF;rw [aG h],bK _⟩
 | k+1,j,hj,h=>by
  unfold yF
  split
  ·exact⟨k+1,rfl,hj⟩
  rename_i h1
  rcases gZ j (k+1) with h2 | h2
  ·exact ahd (by omega) h
  obtain rfl:j=k+1:=by omega
  exact absurd h h1
end C
namespace C
open Go.Proofs.YtdponihkpomheaaGreatDoor
theorem ap2 (s:List UInt8):M.fix (M.fix s)=M.fix s:=(M.VE _).2 (by
 unfold U.valid;rw [Et]
 rfl)
theorem ah5 (s:List UInt8):dF (M.fix s)=dF s:=by unfold dF;rw [ap2]
theorem as4 (t:Tab) (s:List UInt8):rX t (M.fix s)=rX t s:=by unfold rX;rw [ah5]
theorem auM (t:Tab) (s:List UInt8):dZ t (M.fix s)=dZ t s:=by unfold dZ;rw [as4]
theorem ajR (t:Tab) (s:List UInt8):aO t (M.fix s)=aO t s:=by unfold aO;rw [ah5,auM]
def xK (xs:List Int) (ns:List Nat):List Int:=(places xs ns).map (λn:Nat=>(n:Int))
theorem Vl (t:Tab) (s:List UInt8) (a:Int) (he:textE t s=0):isA t s a=(xK (dF s) (dZ t s)).any (·==a):=by
 unfold isA BD xK;rw [aG he,List.any_map]
 rfl
theorem ajI (t:Tab) (s:List UInt8) (he:textE t s=0):isA t s 0=true:=by
 rw [Vl t s 0 he];have hr:=(qg t s).2;have h0:=acF (xs:=dF s) hr;unfold xK;rw [List.any_map,zO];have hl:0<(places (dF s) (dZ t s)).length:=by rw [IQ];exact hr.ne
 refine⟨(places (dF s) (dZ t s))[0],List.getElem_mem hl,?_⟩;rw [fO,dW hl,jE] at h0;rw [h0]
 rfl
theorem acH (g:Ga) (s:List UInt8) (h:jF g=true) (hs:s.length<=2000) (hf:(M.fix s).length<=2000):bZ g (M.fix s)=bZ g s:=by
 unfold bZ;rw [aG (nU h hs),aG (nU h hf),ajR]
theorem asN {g:Ga} {s e:List UInt8} (h:ug g s e=0):jF g=true/\s.length<=600/\e.length<=60:=by
 unfold ug at h
 split at h
 ·omega
 rename_i h1
 split at h
 ·omega
 exact⟨by simpa using h1,by omega,by omega⟩
theorem awZ {g:Ga} {s e:List UInt8} {n:Int} (h:ug g s e=0) (hn:bZ g e<=n):∃ i,su g s e n=some i:=by
 obtain⟨h1,h2,h3⟩:=asN h;have hf:=qJ e;unfold su;rw [aG h];have hg:nI g (headA g.t s 0) (M.fix e) n=true:=by
  unfold nI headA;rw [qN,List.flatten_nil,iJ,iG];rw [show ((0:Nat):Int)=0 from rfl,ajI g.t _ (wG h1 (by omega)),Bool.true_and,acH g e h1 (by omega) (by omega)];exact bD hn
 obtain⟨i,hi,-⟩:=ahd (k:=(bf g.t s).length) (nK _) hg;exact⟨i,hi⟩
theorem al8 {g:Ga} {s e:List UInt8} {n:Int} {k:Nat} (h:su g s e n=some k):ug g s e=0/\k<=(bf g.t s).length/\nI g (headA g.t s k) (M.fix e) n=true:=by
 unfold su at h
 split at h
 ·rename_i h1
  exact⟨h1,ZG h⟩
 cases h
end C
namespace C
def wO (t:Tab) (s:List UInt8) (k:Nat):List Int:=((aO t s).take k).flatten
theorem zD:∀ ls:List (List Int),(ls.map U.textOf).flatten=U.textOf ls.flatten
 | []=>rfl
 | l::t=>by rw [iR,pY,pY,zD t,U.Fq]
theorem Yf {t:Tab} {s:List UInt8} (h:textE t s=0) (k:Nat):headA t s k=U.textOf (wO t s k):=by
 unfold headA wO;rw [uO h,<- List.map_take,zD]
theorem EL {t:Tab} {s:List UInt8}:∀ l∈aO t s,∀ x∈l,U.right x=true:=by
 intro l hl x hx;unfold aO at hl;obtain⟨i,-,rfl⟩:=jM.1 hl;exact PI (Dx s) _ _ x hx
theorem Yj (t:Tab) (s:List UInt8) (k:Nat):∀ x∈wO t s k,U.right x=true:=by
 intro x hx;unfold wO at hx;obtain⟨l,hl,hxl⟩:=List.mem_flatten.1 hx;exact EL l (List.mem_of_mem_take hl) x hxl
theorem YN {l:List Int} (h:∀ x∈l,U.right x=true):U.valid (U.textOf l)=true:=by
 unfold U.valid;rw [(U.zJ _ _).2 ⟨rfl,h⟩]
 rfl
theorem PX (s:List UInt8):U.valid (M.fix s)=true:=by
 unfold U.valid;rw [Et]
 rfl
theorem ZX {t:Tab} {s:List UInt8} (h:textE t s=0) (k:Nat):(headA t s k).length<=(M.fix s).length:=by
 rw [<- DT h];unfold headA;have h1:(bf t s).flatten=((bf t s).take k).flatten++((bf t s).drop k).flatten:=by rw [<- rH,oN]
 rw [h1,bC];omega
theorem anx {g:Ga} {s e:List UInt8} (h:jF g=true) (h1:s.length<=600) (h2:e.length<=60):ug g s e=0:=by
 unfold ug;rw [aF (by rw [h];simp),aF (by omega)]
theorem aqb {g:Ga} (h:jF g=true):bZ g []=0:=by
 have he:kM g []=0:=nU h (by simp);unfold bZ;rw [aG he];have hr:=(qg g.t []).2;have h0:(dF ([]:List UInt8)).length=0:=by
  have:=uJ ([]:List UInt8)
  simpa using this
 rw [h0] at hr;have hl:(aO g.t []).length=0:=by
  rw [Gt];have:=hr.len;omega
 rw [hl];exact SS _ _
theorem apK {g:Ga} {s e:List UInt8} {n:Int} (h:jF g=true) (hn:0<=n) (hs:s.length<=60) (he:e.length<=20) :
  U.valid (vS g s n e)=true/\bZ g (vS g s n e)<=n/\(n<bZ g s\/vS g s n e=M.fix s)/\(vS g s n e).length<=240:=by
 have hf1:=qJ s;have hf2:=qJ e;unfold vS
 by_cases h1:bZ g s<=n
 ·rw [aG h1];refine⟨PX s,?_, .inr rfl,by omega⟩;rw [acH g s h (by omega) (by omega)];exact h1
 rw [aF h1]
 by_cases h2:n<bZ g e
 ·rw [aG h2];refine⟨rfl,?_, .inl (by omega),by simp⟩;rw [aqb h];exact hn
 rw [aF h2];have hw:=anx (s:=s) (e:=e) h (by omega) (by omega);obtain⟨i,hi⟩:=awZ (s:=s) hw (show bZ g e<=n by omega);rw [hi,jE];obtain⟨-,-,hg⟩:=al8 hi;unfold nI at hg;rw [dD] at hg;have ht:=wG (s:=s) h (by omega);refine⟨?_,of_decide_eq_true hg.2, .inl (by omega),?_⟩
 ·rw [Yf ht,Jc e,<- U.Fq];exact YN (λx hx=>by
   rcases lM.1 hx with hx | hx
   ·exact Yj _ _ _ x hx
   exact Dx e x hx)
 rw [bC];have:=ZX ht i;omega
end C
section
attribute [local go_sem] Oper.semAt_some
namespace C
end C
theorem ave (A:Nat->Addr) (B:Nat) (v:Value) (k:C.Kt) (i:Int) (s e:ByteArray) (n:Int) (w:World) (hv:dS w v k) (hs:gY k) (_:3*s.size+3*e.size<=800) (_:e.size<=60) (hS:Sw A B w) (hb:C.bH k=false) :
  Calls prog 15 #[v, ah i, .string s, ah n, .string e] w λen w'=>en = .returned (.tuple #[.string (bs (C.qm k i s.data.toList n e.data.toList)), ah (C.kY k i s.data.toList n e.data.toList)])/\ak w w':=by
 obtain⟨kz,V,rfl,hkz,HV,HB0,aI,dM,dK⟩:=oL hv hS;have HOW:=bx (HB0.o.trans ((dA V (.cells #[.string e] 9)).mono HB0.o.size));have iM:=bx (λ(hb:C.bH k=false)=>LZ A B _ (.slice (some ⟨V.heap.size,0,none⟩) 1 1) k s [e.data.toList] _ (dM.o _ HOW.o) hs (dK.o _ HOW.o) hb (xW V e 9));have HO:=bx (iM.o hb);have HR:=bx (show C.qm k i s.data.toList n e.data.toList=[]/\C.kY k i s.data.toList n e.data.toList=160 by
  have h:C.kY k i s.data.toList n e.data.toList=160:=by unfold C.kY;rw [C.He hb];rfl
  exact⟨by unfold C.qm;rw [h];rfl,h⟩)
 clear iM hb hs hS dM;have hld:=aI.o V aZ
 go_in
 go_upto_region 1 with(fail)
 rw [<- HV.o];go_wp2_with (refine eF rfl _ rfl _ rfl hld hkz ?_)
 refine dI HO.o HOW.o λw1 HB1=>?_
 clear hld;go_wp2_with fail;refine dI (yA (160) w1 (dK.o w1 HB1.o).t) HB1.o λw9 fA=>?_
 go_wp2
 go_ret2
 exact⟨by rw [HR.o.1,HR.o.2] <;> rfl,fA.o⟩
theorem awp (A:Nat->Addr) (B:Nat) (v:Value) (k:C.Kt) (i:Int) (s e:ByteArray) (n:Int) (w:World) (hv:dS w v k) (hs:gY k) (hz:3*s.size+3*e.size<=800) (hze:e.size<=60) (hS:Sw A B w) (hb:C.bH k=true) (hc1:i<0\/2<i) :
  Calls prog 15 #[v, ah i, .string s, ah n, .string e] w λen w'=>en = .returned (.tuple #[.string (bs (C.qm k i s.data.toList n e.data.toList)), ah (C.kY k i s.data.toList n e.data.toList)])/\ak w w':=by
 obtain⟨kz,V,rfl,hkz,HV,HB0,aI,dM,dK⟩:=oL hv hS;have HOW:=bx (HB0.o.trans ((dA V (.cells #[.string e] 9)).mono HB0.o.size));have fH:=bx (λ(hb:C.bH k=true) (hz:s.size<=600) (hp:e.size<=60)=>uQ A B _ (.slice (some ⟨V.heap.size,0,none⟩) 1 1) k s [e.data.toList] _ (dM.o _ HOW.o) hs (dK.o _ HOW.o) hb (xW V e 9) hz (by simp) (λp hq=>by rw [fU.1 hq,<- size_eq];exact hp));have HO:=bx (fH.o hb (by omega) hze);have hke:C.lH k s.data.toList e.data.toList=0:=C.uV hb (by rw [<- size_eq];omega) (by rw [<- size_eq];omega);have HR:=bx (show C.qm k i s.data.toList n e.data.toList=[]/\C.kY k i s.data.toList n e.data.toList=150 by
  have h:C.kY k i s.data.toList n e.data.toList=150:=by unfold C.kY;rw [aG hke,aG hc1]
  exact⟨by unfold C.qm;rw [h];rfl,h⟩)
 clear fH hb hs hS hz hze dM hke
 rcases hc1 with hc1 | hc1
 ·have d1:=bD hc1;have hld:=aI.o V aZ
  go_in
  go_upto_region 1 with(fail)
  rw [<- HV.o];go_wp2_with (refine eF rfl _ rfl _ rfl hld hkz ?_)
  refine HO.o.mono ?_;rintro en w1 ⟨⟨g,rfl,hwk,-⟩,hb1⟩;have HB1:=aJ HOW hb1;have kF:=bx hwk;clear hb1 hwk hld;go_wp2_with fail;refine dI (yA (150) w1 (dK.o w1 HB1.o).t) HB1.o λw9 fA=>?_
  go_wp2
  go_ret2
  exact⟨by rw [HR.o.1,HR.o.2] <;> rfl,fA.o⟩
 have d1:decide (i<0)=false:=dh (by omega);have d2:=bD hc1;have hld:=aI.o V aZ
 go_in
 go_upto_region 1 with(fail)
 rw [<- HV.o];go_wp2_with (refine eF rfl _ rfl _ rfl hld hkz ?_)
 refine HO.o.mono ?_;rintro en w1 ⟨⟨g,rfl,hwk,-⟩,hb1⟩;have HB1:=aJ HOW hb1;have kF:=bx hwk;clear hb1 hwk hld;go_wp2_with fail;refine dI (yA (150) w1 (dK.o w1 HB1.o).t) HB1.o λw9 fA=>?_
 go_wp2
 go_ret2
 exact⟨by rw [HR.o.1,HR.o.2] <;> rfl,fA.o⟩
theorem ako (A:Nat->Addr) (B:Nat) (v:Value) (k:C.Kt) (i:Int) (s e:ByteArray) (n:Int) (w:World) (hv:dS w v k) (hs:gY k) (hz:3*s.size+3*e.size<=800) (hze:e.size<=60) (hS:Sw A B w) (hb:C.bH k=true) (hc1:¬ (i<0\/2<i)) (hc2:n<0) :
  Calls prog 15 #[v, ah i, .string s, ah n, .string e] w λen w'=>en = .returned (.tuple #[.string (bs (C.qm k i s.data.toList n e.data.toList)), ah (C.kY k i s.data.toList n e.data.toList)])/\ak w w':=by
 obtain⟨kz,V,rfl,hkz,HV,HB0,aI,dM,dK⟩:=oL hv hS;have HOW:=bx (HB0.o.trans ((dA V (.cells #[.string e] 9)).mono HB0.o.size));have fH:=bx (λ(hb:C.bH k=true) (hz:s.size<=600) (hp:e.size<=60)=>uQ A B _ (.slice (some ⟨V.heap.size,0,none⟩) 1 1) k s [e.data.toList] _ (dM.o _ HOW.o) hs (dK.o _ HOW.o) hb (xW V e 9) hz (by simp) (λp hq=>by rw [fU.1 hq,<- size_eq];exact hp));have HO:=bx (fH.o hb (by omega) hze);have hke:C.lH k s.data.toList e.data.toList=0:=C.uV hb (by rw [<- size_eq];omega) (by rw [<- size_eq];omega);have d1:decide (i<0)=false:=dh (by omega);have d2:decide (2<i)=false:=dh (by omega);have d3:=bD hc2;have HR:=bx (show C.qm k i s.data.toList n e.data.toList=[]/\C.kY k i s.data.toList n e.data.toList=161 by
  have h:C.kY k i s.data.toList n e.data.toList=161:=by unfold C.kY;rw [aG hke,aF hc1,aG hc2]
  exact⟨by unfold C.qm;rw [h];rfl,h⟩)
 clear fH hb hs hS hz hze dM hke hc1 hc2;have hld:=aI.o V aZ
 go_in
 go_upto_region 1 with(fail)
 rw [<- HV.o];go_wp2_with (refine eF rfl _ rfl _ rfl hld hkz ?_)
 refine HO.o.mono ?_;rintro en w1 ⟨⟨g,rfl,hwk,-⟩,hb1⟩;have HB1:=aJ HOW hb1;have kF:=bx hwk;clear hb1 hwk hld;go_wp2_with fail;refine dI (yA (161) w1 (dK.o w1 HB1.o).t) HB1.o λw9 fA=>?_
 go_wp2
 go_ret2
 exact⟨by rw [HR.o.1,HR.o.2] <;> rfl,fA.o⟩
theorem auQ (A:Nat->Addr) (B:Nat) (v:Value) (k:C.Kt) (i:Int) (s e:ByteArray) (n:Int) (w:World) (hv:dS w v k) (hs:gY k) (hz:3*s.size+3*e.size<=800) (hze:e.size<=60) (hS:Sw A B w) :
  Calls prog 15 #[v, ah i, .string s, ah n, .string e] w λen w'=>en = .returned (.tuple #[.string (bs (C.qm k i s.data.toList n e.data.toList)), ah (C.kY k i s.data.toList n e.data.toList)])/\ak w w':=by
 cases hb:C.bH k with
 | false=>exact ave A B v k i s e n w hv hs hz hze hS hb
 | true =>
  by_cases hc1:i<0\/2<i
  ·exact awp A B v k i s e n w hv hs hz hze hS hb hc1
  by_cases hc2:n<0
  ·exact ako A B v k i s e n w hv hs hz hze hS hb hc1 hc2
  exact abR A B v k i s e n w hv hs hz hze hS hb hc1 hc2
theorem dS.gauge {w:World} {n m:Int} {x1 x2 x3 x4 x5 x6 x7 x8 x9 x10 x11 x12 jY x14 x15 x16 x17 x18:Value} {b:Bool} {k:C.Kt}
  (h:dS w (.agg #[ah n,x1,x2,x3,x4,x5, ah m,x6,x7,x8,x9,x10,x11,x12, .bool b,jY,x14,x15,x16,x17,x18]) k) (i:Int):rM w (.agg #[ah n,x1,x2,x3,x4,x5,x11,x12, .bool b, ah i]) (C.kg k i):=by
 obtain⟨_,_,_,_,_,_,_,_,_,_,_,_,_,_,_,_,_,_,_,_,_,e,h⟩:=h;injection e with e;simp only [Array.mk.injEq,jm,Value.int.injEq,Value.bool.injEq,true_and,and_true] at e;obtain⟨rfl,rfl,rfl,rfl,rfl,rfl,rfl,rfl,rfl,rfl,rfl,rfl,rfl,rfl,rfl,rfl,rfl,rfl,rfl,rfl,rfl⟩:=e;exact h.gauge i
namespace C
theorem akt {k:Kt} {i n:Int} {s e:List UInt8} (h:bH k=false):qm k i s n e=[]/\kY k i s n e=160:=by
 have h0:kY k i s n e=160:=by unfold kY;rw [He h];rfl
 exact⟨by unfold qm;rw [h0];rfl,h0⟩
theorem agX {k:Kt} {i n r:Int} {s e:List UInt8} (h:bH k=true) (h1:s.length<=600) (h2:e.length<=60) (hr:(if i<0\/2<i then (150:Int) else if n<0 then 161 else 0)=r) (h0:r≠0):qm k i s n e=[]/\kY k i s n e=r:=by
 have h3:kY k i s n e=r:=by unfold kY;rw [aG (uV h h1 h2)];exact hr
 exact⟨by unfold qm;rw [aF (by rw [h3];exact h0)],h3⟩
theorem arx {k:Kt} {i n:Int} {s e:List UInt8} (h:bH k=true) (h1:s.length<=600) (h2:e.length<=60) (hi:0<=i/\i<=2) (hn:0<=n):qm k i s n e=vS (kg k i) s n e/\kY k i s n e=0:=by
 have h3:kY k i s n e=0:=by unfold kY;rw [aG (uV h h1 h2),aF (by omega),aF (by omega)]
 exact⟨by unfold qm;rw [aG h3],h3⟩
end C
theorem ak0 (A:Nat->Addr) (B:Nat) (v:Value) (k:C.Kt) (i:Int) (s:ByteArray) (n:Int) (e:ByteArray) (w:World) (hv:dS w v k) (hzs:s.size<=9223372036854775807) (hze:e.size<=9223372036854775807) (hS:Sw A B w) :
  Calls prog 6 #[v, ah i, .string s, ah n, .string e] w λx w'=>x = .returned (.bool true)/\ak w w':=by
 have HS:=bx hS;have oI:=bx hv;obtain⟨x1,z1,x2,z2,x3,z3,x4,z4,x5,z5,x6,z6,x7,z7,x8,z8,x9,z9,x10,z10,x11,z11,x12,z12,jY,z13,x14,sJ,x15,sO,x16,rZ,x17,z17,x18,rO,rfl⟩:=hv.slices;clear hv;generalize k.c.p.1.length=y1,k.c.p.2.length=y2,k.c.r.length=y3,k.c.m.1.length=y4,k.c.m.2.length=y5,k.w.p.1.length=y6,k.w.p.2.length=y7,k.w.r.length=y8,k.w.m.1.length=y9,k.w.m.2.length=uM,k.d.p.1.length=uj,k.d.p.2.length=vI,k.s.lo.length=y13,k.s.ti.length=vK,k.s.ca.1.length=vH,k.s.ca.2.length=vF,k.s.ig.1.length=uh,k.s.ig.2.length=uY,k.c.n=nt,k.w.n=nw,k.d.wide=wb at oI ⊢;have oU:=bx (λW=>FK s 60 60 W rfl hzs (by decide));have mM:=bx (EU s 60);generalize zL s 60=cs at oU mM;clear hzs;have Dw:=bx (λW=>FK e 20 20 W rfl hze (by decide));have Ht:=bx (EU e 20);generalize zL e 20=ce at Dw Ht;clear hze;obtain⟨V,hV⟩:∃ V,V=w.alloc (.cells #[ah nt, .slice x1 y1 z1, .slice x2 y2 z2, .slice x3 y3 z3, .slice x4 y4 z4, .slice x5 y5 z5, ah nw, .slice x6 y6 z6, .slice x7 y7 z7, .slice x8 y8 z8, .slice x9 y9 z9, .slice x10 uM z10, .slice x11 uj z11, .slice x12 vI z12, .bool wb, .slice jY y13 z13, .slice x14 vK sJ, .slice x15 vH sO, .slice x16 vF rZ, .slice x17 uh z17, .slice x18 uY rO] 38):=⟨_,rfl⟩
 have HB0:=bx (aB hV);have vw:=bx (show Sep [Pc.blk w.heap.size 38 #[ah nt, .slice x1 y1 z1, .slice x2 y2 z2, .slice x3 y3 z3, .slice x4 y4 z4, .slice x5 y5 z5, ah nw, .slice x6 y6 z6, .slice x7 y7 z7, .slice x8 y8 z8, .slice x9 y9 z9, .slice x10 uM z10, .slice x11 uj z11, .slice x12 vI z12, .bool wb, .slice jY y13 z13, .slice x14 vK sJ, .slice x15 vH sO, .slice x16 vF rZ, .slice x17 uh z17, .slice x18 uY rO],Pc.old w.heap.size w] V by rw [hV];exact(Sep.start w).eu _ _);have dU:=bx (show V.heap.size=w.heap.size+1 by rw [hV];simp);have HV:=bx hV;clear hS hV
 go_in
 go_wp2_with fail;rw [<- HV.o];refine aT (MH A B V (HS.o.below HB0.o)) λw1 hb1=>?_
 have HB1:=bx (bT HB0.o hb1);have o9:=bx (vw.o.below hb1);have eG:=bx (show w.heap.size<w1.heap.size by have:=dU.o;have:=hb1.size;omega);clear hb1 HV;have gG:=bx (KW _ k w w1 oI.o HB1.o);have hld:=o9.o.blk 0 rfl;go_wp2_with (refine eF rfl _ rfl _ rfl hld rfl ?_)
 refine gG.o.mono ?_;rintro ex w2 ⟨hb2,v',rfl,ji⟩;clear hld;have HB2:=bx (bT HB1.o hb2);have lZ:=bx (o9.o.below hb2);obtain⟨p1,r1,p2,r2,p3,r3,p4,r4,p5,r5,p6,r6,p7,r7,p8,r8,p9,r9,p10,r10,p11,r11,p12,r12,p13,r13,jP,jT,jK,jH,p16,r16,jL,jS,jI,jJ,rfl⟩:=(ji w2 (Turns.refl _ _) HB2.o).slices;have hks:=LM k;obtain⟨K,hK⟩:∃ K,K=G7 k:=⟨_,rfl⟩
 have lW:=bx (show gY K by rw [hK];exact hks);rw [<- hK] at ji ⊢;clear hb2 hK hks;generalize K.c.p.1.length=q1,K.c.p.2.length=q2,K.c.r.length=q3,K.c.m.1.length=q4,K.c.m.2.length=q5,K.w.p.1.length=q6,K.w.p.2.length=q7,K.w.r.length=q8,K.w.m.1.length=q9,K.w.m.2.length=q10,K.d.p.1.length=q11,K.d.p.2.length=q12,K.s.lo.length=q13,K.s.ti.length=jh,K.s.ca.1.length=iZ,K.s.ca.2.length=q16,K.s.ig.1.length=je,K.s.ig.2.length=jf,K.c.n=nu,K.w.n=nv,K.d.wide=we at ji ⊢;have uI:=bx ji;clear ji gG;have hld:=lZ.o.blk 0 rfl;have iL:=bx (show Sep [Pc.blk w.heap.size 38 #[ah nu, .slice p1 q1 r1, .slice p2 q2 r2, .slice p3 q3 r3, .slice p4 q4 r4, .slice p5 q5 r5, ah nv, .slice p6 q6 r6, .slice p7 q7 r7, .slice p8 q8 r8, .slice p9 q9 r9, .slice p10 q10 r10, .slice p11 q11 r11, .slice p12 q12 r12, .bool we, .slice p13 q13 r13, .slice jP jh jT, .slice jK iZ jH, .slice p16 q16 r16, .slice jL je jS, .slice jI jf jJ],Pc.old w.heap.size w] _ from lZ.o.setRow 0 rfl #[ah nu, .slice p1 q1 r1, .slice p2 q2 r2, .slice p3 q3 r3, .slice p4 q4 r4, .slice p5 q5 r5, ah nv, .slice p6 q6 r6, .slice p7 q7 r7, .slice p8 q8 r8, .slice p9 q9 r9, .slice p10 q10 r10, .slice p11 q11 r11, .slice p12 q12 r12, .bool we, .slice p13 q13 r13, .slice jP jh jT, .slice jK iZ jH, .slice p16 q16 r16, .slice jL je jS, .slice jI jf jJ]);have HT3:=bx (show Turns (λq=>q=w.heap.size) w2 _ from Turns.setRow (own:=λq=>q=w.heap.size) (g:=w.heap.size) rfl #[ah nu, .slice p1 q1 r1, .slice p2 q2 r2, .slice p3 q3 r3, .slice p4 q4 r4, .slice p5 q5 r5, ah nv, .slice p6 q6 r6, .slice p7 q7 r7, .slice p8 q8 r8, .slice p9 q9 r9, .slice p10 q10 r10, .slice p11 q11 r11, .slice p12 q12 r12, .bool we, .slice p13 q13 r13, .slice jP jh jT, .slice jK iZ jH, .slice p16 q16 r16, .slice jL je jS, .slice jI jf jJ])
 go_upto_region 3 with(refine Jl rfl _ _ rfl _ rfl rfl hld rfl (by rfl) (by kernel_rfl) ?_)
 generalize w2.setRow w.heap.size #[ah nu, .slice p1 q1 r1, .slice p2 q2 r2, .slice p3 q3 r3, .slice p4 q4 r4, .slice p5 q5 r5, ah nv, .slice p6 q6 r6, .slice p7 q7 r7, .slice p8 q8 r8, .slice p9 q9 r9, .slice p10 q10 r10, .slice p11 q11 r11, .slice p12 q12 r12, .bool we, .slice p13 q13 r13, .slice jP jh jT, .slice jK iZ jH, .slice p16 q16 r16, .slice jL je jS, .slice jI jf jJ]=w3 at iL HT3 ⊢;clear hld;have HB3:=bx (iL.o.bel (n:=w.heap.size) (W0:=w) (by simp));have iw:=bx (show dS w3 (.agg #[ah nu, .slice p1 q1 r1, .slice p2 q2 r2, .slice p3 q3 r3, .slice p4 q4 r4, .slice p5 q5 r5, ah nv, .slice p6 q6 r6, .slice p7 q7 r7, .slice p8 q8 r8, .slice p9 q9 r9, .slice p10 q10 r10, .slice p11 q11 r11, .slice p12 q12 r12, .bool we, .slice p13 q13 r13, .slice jP jh jT, .slice jK iZ jH, .slice p16 q16 r16, .slice jL je jS, .slice jI jf jJ]) K from uI.o w3 (HT3.o.mono (λk hk=>by have:=eG.o;omega)) HB3.o);have aS:=bx (HS.o.below HB3.o);have aI:=bx (λW (h:ak w3 W)=>(iL.o.blk 0 rfl).below h (iL.o.blk 0 rfl).lt);clear vw o9 lZ iL HT3 uI HB0 HB1 HB2 dU oI HS eG;go_wp2_with fail;refine aP (oU.o _) ?_;clear oU;have hcs:cs.size<=60:=mM.o;have hce:ce.size<=20:=Ht.o;have X1:=bx (λW (h:ak w3 W)=>auQ A B _ K i cs ce n W (iw.o.below h) lW.o (by omega) (by omega) (aS.o.below h));obtain⟨tr,htr⟩:∃ t,t=C.qm K i cs.data.toList n ce.data.toList:=⟨_,rfl⟩
 obtain⟨er,her⟩:∃ r,r=C.kY K i cs.data.toList n ce.data.toList:=⟨_,rfl⟩
 rw [<- htr,<- her] at X1;have lq:=bx htr;have Ce:=bx her;clear htr her;go_wp2_with fail;have dH:=bx (aI.o w3.drew (jg w3 1));have aX:=bx (show ak w3 w3.drew from jg w3 1);refine jl 6 (λW'=>aC W' w.heap.size 38 #[ah nu, .slice p1 q1 r1, .slice p2 q2 r2, .slice p3 q3 r3, .slice p4 q4 r4, .slice p5 q5 r5, ah nv, .slice p6 q6 r6, .slice p7 q7 r7, .slice p8 q8 r8, .slice p9 q9 r9, .slice p10 q10 r10, .slice p11 q11 r11, .slice p12 q12 r12, .bool we, .slice p13 q13 r13, .slice jP jh jT, .slice jK iZ jH, .slice p16 q16 r16, .slice jL je jS, .slice jI jf jJ]) (by kernel_rfl) ?_;generalize w3.drew=WR at dH aX ⊢;refine kS 0 ?_ rfl dH.o ?_ ?_;rotate_left
 ·(intro W9 hw;refine ale 38 (.tmp 5) ?_ w.heap.size ?_ _ underlying38 rfl (by kernel_rfl) hw <;> rfl)
 refine jB [1,2,3,4] ?_
 iterate 4 (refine jA ?_ rfl dH.o ?_ ?_;rotate_left;·(intro w hw;go_simp;first | done | with_reducible rfl))
 refine jr ?_;refine kP 5 rfl λKK au=>?_
 go_simp;refine aP (Dw.o _) ?_;refine au.out _ _ (λ_=>dH.o) ?_;clear au KK;refine kP 6 rfl λKK au=>?_
 go_simp;refine aT (X1.o WR aX.o) λw4 hb=>?_
 have HB4:=bx (bT aX.o hb);clear hb;refine au.out _ _ (λh=>by cases h) ?_;clear au KK;refine kW ?_;refine kU 7 ?_ rfl ?_ ?_;rotate_left
 ·(intro w;go_simp;first | done | with_reducible rfl)
 refine kU 8 ?_ rfl ?_ ?_;rotate_left
 ·(intro w;go_simp;first | done | with_reducible rfl)
 refine kU 9 ?_ rfl ?_ ?_;rotate_left
 ·(intro w;go_simp;first | done | with_reducible rfl)
 refine kP 10 rfl λKK au=>?_
 go_simp;refine au.out _ _ (λ_=>trivial) ?_;clear au KK;refine kP 11 rfl λKK au=>?_
 go_simp;refine au.out _ _ (λ_=>trivial) ?_;clear au KK;refine kD ?_ _;clear dH aX;have e1:=xH
 cases hb:C.bH K with
 | false =>
  have hr:=C.akt (s:=cs.data.toList) (e:=ce.data.toList) (i:=i) (n:=n) hb;obtain rfl:tr=[]:=lq.o.trans hr.1;obtain rfl:er=160:=Ce.o.trans hr.2;clear hr hb hcs hce
  go_wp2
  go_ret
  exact⟨rfl,bT HB3.o HB4.o⟩
 | true =>
  have h1:cs.data.toList.length<=600:=by rw [<- size_eq];omega
  have h2:ce.data.toList.length<=60:=by rw [<- size_eq];omega
  by_cases hi:i<0\/2<i
  ·have hr:=C.agX (i:=i) (n:=n) (r:=150) hb h1 h2 (by rw [aG hi]) (by decide);obtain rfl:tr=[]:=lq.o.trans hr.1;obtain rfl:er=150:=Ce.o.trans hr.2;clear hr hb hcs hce h1 h2 hi
   go_wp2
   go_ret
   exact⟨rfl,bT HB3.o HB4.o⟩
  by_cases hn:n<0
  ·have hr:=C.agX (i:=i) (n:=n) (r:=161) hb h1 h2 (by rw [aF hi,aG hn]) (by decide);obtain rfl:tr=[]:=lq.o.trans hr.1;obtain rfl:er=161:=Ce.o.trans hr.2;have d1:=bD hn;clear hr hb hcs hce h1 h2 hi hn
   go_wp2
   go_ret
   exact⟨rfl,bT HB3.o HB4.o⟩
  have hr:=C.arx (s:=cs.data.toList) (e:=ce.data.toList) (i:=i) (n:=n) hb h1 h2 (by omega) (by omega);have hg:=C.CY hb (i:=i) (by omega) (by omega);have hl:=C.apK (g:=C.kg K i) (s:=cs.data.toList) (e:=ce.data.toList) (n:=n) hg (by omega) (by rw [<- size_eq];omega) (by rw [<- size_eq];omega);rw [<- hr.1,<- lq.o] at hl;obtain rfl:er=0:=Ce.o.trans hr.2;have hg1:=C.nU (s:=tr) hg (by omega);have hg2:=C.nU (s:=cs.data.toList) hg (by rw [<- size_eq];omega);have X3:=bx (λW (h:ak w3 W)=>adU A B (bs tr) W (by rw [dN];omega) (aS.o.below h).e (aS.o.below h).le);rw [xZ,hl.1] at X3;have X4:=bx (λW (h:ak w3 W)=>show Calls prog 33 #[.string cs] W λe' w'=>e' = .returned (.string (bs (M.fix cs.data.toList)))/\ak W w' from wZ A B cs W (by omega) (aS.o.below h).e (aS.o.below h).le);have lF:=bx (λ(t:ByteArray) (ht:t.size<=800) v W (h:ak w3 W) (hv:rM W v (C.kg K i))=>ahS A B v (C.kg K i) t W hv lW.o.c lW.o.d ht (aS.o.below h).e (aS.o.below h).d (aS.o.below h).g (aS.o.below h).le);have X5:=bx (λv W (h:ak w3 W) hv=>lF.o (bs tr) (by rw [dN];omega) v W h hv);have X6:=bx (λv W (h:ak w3 W) hv=>lF.o cs (by omega) v W h hv);rw [xZ,hg1] at X5;rw [hg2] at X6;have d2:=bD hl.2.1;have Og:=bx (show C.bZ (C.kg K i) cs.data.toList<=n->tr=M.fix cs.data.toList from λh=>hl.2.2.1.elim (λh9=>absurd h9 (by omega)) (λh9=>h9));generalize C.bZ (C.kg K i) tr=mt at X5 d2;generalize C.bZ (C.kg K i) cs.data.toList=ms at X6 Og;generalize M.fix cs.data.toList=fx at X4 Og;clear hr hcs hce hb h1 h2 hi hn hl hg hg1 hg2 lF lq Ce;obtain⟨V9,EG⟩:∃ V,V=w4.alloc (.cells #[ah nu, .slice p1 q1 r1, .slice p2 q2 r2, .slice p3 q3 r3, .slice p4 q4 r4, .slice p5 q5 r5, .slice p11 q11 r11, .slice p12 q12 r12, .bool we, ah i] 57):=⟨_,rfl⟩
  have G6:=bx (aK EG);have k9:ak w4 V9:=by rw [EG];exact dA _ _
  have fA:=bx (bT HB4.o k9);have kR:=bx (λW (h:ak V9 W)=>G6.o.c10 h);have KX:=bx (λW (h:ak V9 W)=>show rM W (.agg #[ah nu, .slice p1 q1 r1, .slice p2 q2 r2, .slice p3 q3 r3, .slice p4 q4 r4, .slice p5 q5 r5, .slice p11 q11 r11, .slice p12 q12 r12, .bool we, ah i]) (C.kg K i) from((iw.o.below (bT fA.o h)).gauge (i)));have Qh:=bx EG;clear EG k9;obtain⟨e0,e1,e2,e3,e4,e5,e6,e7,e8,e9,e10,e11,e12,e13,e14,e15,e16,e17,e18,e19,e20,el⟩:=(aI.o w4 HB4.o).c21 aZ
  go_upto_region 8 with(fail)
  rw [<- Qh.o];clear e0 e1 e2 e3 e4 e5 e6 e7 e8 e9 e10 e11 e12 e13 e14 e15 e16 e17 e18 e19 e20 el;generalize w4.heap.size=gb at kR ⊢;clear G6 Qh;have X5:=bx (λW (h:ak V9 W)=>X5.o _ W (bT fA.o h) (KX.o W h));have X6:=bx (λW (h:ak V9 W)=>X6.o _ W (bT fA.o h) (KX.o W h));have X3:=bx (λW (h:ak V9 W)=>X3.o W (bT fA.o h));have X4:=bx (λW (h:ak V9 W)=>X4.o W (bT fA.o h));obtain⟨g0,g1,g2,g3,g4,g5,g6,g7,g8,g9,gl⟩:=kR.o V9 (Below.refl _ V9);go_wp2_with fail;refine aT (X5.o V9 (Below.refl _ V9)) λw10 hb=>?_
  clear g0 g1 g2 g3 g4 g5 g6 g7 g8 g9 gl;have Fh:=bx (bT (Below.refl _ V9) hb);clear hb;obtain⟨g0,g1,g2,g3,g4,g5,g6,g7,g8,g9,gl⟩:=kR.o w10 Fh.o;go_wp2_with fail;refine aT (X6.o w10 Fh.o) λDN hb=>?_
  clear g0 g1 g2 g3 g4 g5 g6 g7 g8 g9 gl;have Lr:=bx (bT Fh.o hb);clear hb
  by_cases hc:n<ms
  ·have d3:=bD hc;clear hc;go_wp2_with fail;refine aT (X3.o DN Lr.o) λw12 hb=>?_
   have Td:=bx (bT Lr.o hb);clear hb
   go_wp2
   go_ret
   exact⟨rfl,bT HB3.o (bT fA.o Td.o)⟩
  have d3:=dh hc;obtain rfl:tr=fx:=Og.o (by omega);have q1:((bs tr).toList==(bs tr).toList)=true:=by simp
  clear hc;go_wp2_with fail;refine aT (X3.o DN Lr.o) λw12 hb=>?_
  have Td:=bx (bT Lr.o hb);clear hb;go_wp2_with fail;refine aT (X4.o w12 Td.o) λNY hb=>?_
  have as1:=bx (bT Td.o hb);clear hb
  go_wp2
  go_ret
  exact⟨rfl,bT HB3.o (bT fA.o as1.o)⟩
end
end Go.Proofs.YtdponihkpomheaaGreatDoor
