/- Texts of this claim. -/
import Derived.Test.YtdponihkpomheaaGreatDoorH25

set_option maxRecDepth 100000
set_option maxHeartbeats 8000000
namespace Go.Proofs.YtdponihkpomheaaGreatDoor
open Go.RowKit
open Go.Proofs.Tryz
namespace C
theorem ar5 {k:Kt} {s:List UInt8} (h:textE k.c s=0) (n:Nat):((bf k.c s).take n).flatten++((bf k.c s).drop n).flatten=M.fix s:=by
 rw [<- rH,oN,DT h]
end C
section
attribute [local go_sem] Oper.semAt_some
namespace C
end C
namespace C
theorem aha {k:Kt} {s:List UInt8} {a b:Int} (h:bH k=false):Ac k s a b=[]/\uX k s a b=160:=by
 have h0:uX k s a b=160:=by unfold uX;rw [He h];rfl
 exact⟨by unfold Ac;rw [h0];rfl,h0⟩
theorem Zg {k:Kt} {s:List UInt8} {a b:Int} (h:bH k=true) (hz:s.length<=600) (hc:a<0\/b<a):Ac k s a b=[]/\uX k s a b=162:=by
 have h0:uX k s a b=162:=by unfold uX;rw [aG (uV h hz (by simp)),aG hc]
 exact⟨by unfold Ac;rw [h0];rfl,h0⟩
end C
theorem aog (A:Nat->Addr) (B:Nat) (v:Value) (k:C.Kt) (s:ByteArray) (a b:Int) (w:World) (hv:dS w v k) (hs:gY k) (_:s.size<=600) (hS:Sw A B w) (hb:C.bH k=false) :
  Calls prog 24 #[v, .string s, ah a, ah b] w λen w'=>en = .returned (.tuple #[.string (bs (C.Ac k s.data.toList a b)), ah (C.uX k s.data.toList a b)])/\ak w w':=by
 obtain⟨kz,V,rfl,hkz,HV,HB0,aI,dM,dK⟩:=oL hv hS;have HOW:=bx HB0.o;have iM:=bx (λ(hb:C.bH k=false)=>LZ A B _ (aj) k s [] V (dM.o V HB0.o) hs (dK.o V HB0.o) hb (.inl ⟨rfl,rfl⟩));have HO:=bx (iM.o hb);have HR:=bx (C.aha (s:=s.data.toList) (a:=a) (b:=b) hb);clear iM hb hs hS dM;have hld:=aI.o V aZ
 go_in
 go_upto_region 1 with(fail)
 rw [<- HV.o];go_wp2_with (refine eF rfl _ rfl _ rfl hld hkz ?_)
 refine dI HO.o HOW.o λw1 HB1=>?_
 clear hld;go_wp2_with fail;refine dI (yA (160) w1 (dK.o w1 HB1.o).t) HB1.o λw9 fA=>?_
 go_wp2
 go_ret2
 exact⟨by rw [HR.o.1,HR.o.2] <;> rfl,fA.o⟩
theorem aoi (A:Nat->Addr) (B:Nat) (v:Value) (k:C.Kt) (s:ByteArray) (a b:Int) (w:World) (hv:dS w v k) (hs:gY k) (hz:s.size<=600) (hS:Sw A B w) (hb:C.bH k=true) (hc:a<0\/b<a) :
  Calls prog 24 #[v, .string s, ah a, ah b] w λen w'=>en = .returned (.tuple #[.string (bs (C.Ac k s.data.toList a b)), ah (C.uX k s.data.toList a b)])/\ak w w':=by
 obtain⟨kz,V,rfl,hkz,HV,HB0,aI,dM,dK⟩:=oL hv hS;have HOW:=bx HB0.o;have fH:=bx (λ(hb:C.bH k=true) (hz:s.size<=600)=>uQ A B _ (aj) k s [] V (dM.o V HB0.o) hs (dK.o V HB0.o) hb (.inl ⟨rfl,rfl⟩) hz (by simp) (λp hp=>by cases hp));have HO:=bx (fH.o hb hz);have HR:=bx (C.Zg (s:=s.data.toList) hb (by rw [<- size_eq];exact hz) hc);clear fH hb hs hS hz dM
 rcases hc with hc | hc
 ·have d1:=bD hc;have hld:=aI.o V aZ
  go_in
  go_upto_region 1 with(fail)
  rw [<- HV.o];go_wp2_with (refine eF rfl _ rfl _ rfl hld hkz ?_)
  refine HO.o.mono ?_;rintro en w1 ⟨⟨g,rfl,hwk,-⟩,hb1⟩;have HB1:=aJ HOW hb1;have kF:=bx hwk;clear hb1 hwk hld;go_wp2_with fail;refine dI (yA (162) w1 (dK.o w1 HB1.o).t) HB1.o λw9 fA=>?_
  go_wp2
  go_ret2
  exact⟨by rw [HR.o.1,HR.o.2] <;> rfl,fA.o⟩
 by_cases h0:a<0
 ·have d1:=bD h0;have hld:=aI.o V aZ
  go_in
  go_upto_region 1 with(fail)
  rw [<- HV.o];go_wp2_with (refine eF rfl _ rfl _ rfl hld hkz ?_)
  refine HO.o.mono ?_;rintro en w1 ⟨⟨g,rfl,hwk,-⟩,hb1⟩;have HB1:=aJ HOW hb1;have kF:=bx hwk;clear hb1 hwk hld;go_wp2_with fail;refine dI (yA (162) w1 (dK.o w1 HB1.o).t) HB1.o λw9 fA=>?_
  go_wp2
  go_ret2
  exact⟨by rw [HR.o.1,HR.o.2] <;> rfl,fA.o⟩
 have d1:=dh h0;have d2:=bD hc;have hld:=aI.o V aZ
 go_in
 go_upto_region 1 with(fail)
 rw [<- HV.o];go_wp2_with (refine eF rfl _ rfl _ rfl hld hkz ?_)
 refine HO.o.mono ?_;rintro en w1 ⟨⟨g,rfl,hwk,-⟩,hb1⟩;have HB1:=aJ HOW hb1;have kF:=bx hwk;clear hb1 hwk hld;go_wp2_with fail;refine dI (yA (162) w1 (dK.o w1 HB1.o).t) HB1.o λw9 fA=>?_
 go_wp2
 go_ret2
 exact⟨by rw [HR.o.1,HR.o.2] <;> rfl,fA.o⟩
theorem Us (A:Nat->Addr) (B:Nat) (v:Value) (k:C.Kt) (s:ByteArray) (a b:Int) (w:World) (hv:dS w v k) (hs:gY k) (hz:s.size<=600) (hS:Sw A B w) :
  Calls prog 24 #[v, .string s, ah a, ah b] w λen w'=>en = .returned (.tuple #[.string (bs (C.Ac k s.data.toList a b)), ah (C.uX k s.data.toList a b)])/\ak w w':=by
 cases hb:C.bH k with
 | false=>exact aog A B v k s a b w hv hs hz hS hb
 | true =>
  by_cases hc:a<0\/b<a
  ·exact aoi A B v k s a b w hv hs hz hS hb hc
  exact ahn A B v k s a b w hv hs hz hS hb hc
end
namespace C
theorem ap3 {l:List (List UInt8)} {n:Nat} {x:List UInt8} (h:l[n]?=some x):((l.take (n+1)).drop n).flatten=x:=by
 obtain⟨hn,rfl⟩:=dO h;rw [Ja hn,List.drop_append_of_le_length (by rw [dw];omega),zF (by rw [dw];omega)];simp
end C
section
attribute [local go_sem] Oper.semAt_some
theorem dS.tabs {w:World} {n m:Int} {x1 x2 x3 x4 x5 x6 x7 x8 x9 x10 x11 x12 jY x14 x15 x16 x17 x18:Value} {b:Bool} {k:C.Kt}
  (h:dS w (.agg #[ah n,x1,x2,x3,x4,x5, ah m,x6,x7,x8,x9,x10,x11,x12, .bool b,jY,x14,x15,x16,x17,x18]) k):TabAt w (.agg #[ah n,x1,x2,x3,x4,x5]) k.c:=by
 obtain⟨_,_,_,_,_,_,_,_,_,_,_,_,_,_,_,_,_,_,_,_,_,e,h⟩:=h;injection e with e;simp only [Array.mk.injEq,jm,Value.int.injEq,Value.bool.injEq,true_and,and_true] at e;obtain⟨rfl,rfl,rfl,rfl,rfl,rfl,rfl,rfl,rfl,rfl,rfl,rfl,rfl,rfl,rfl,rfl,rfl,rfl,rfl,rfl,rfl⟩:=e;exact h.c
theorem alI (A:Nat->Addr) (B:Nat) (v:Value) (k:C.Kt) (s:ByteArray) (n:Int) (w:World) (hv:dS w v k) (hzs:s.size<=9223372036854775807) (hS:Sw A B w) :
  Calls prog 7 #[v, .string s, ah n] w λx w'=>x = .returned (.bool true)/\ak w w':=by
 have HS:=bx hS;have oI:=bx hv;obtain⟨x1,z1,x2,z2,x3,z3,x4,z4,x5,z5,x6,z6,x7,z7,x8,z8,x9,z9,x10,z10,x11,z11,x12,z12,jY,z13,x14,sJ,x15,sO,x16,rZ,x17,z17,x18,rO,rfl⟩:=hv.slices;clear hv;generalize k.c.p.1.length=y1,k.c.p.2.length=y2,k.c.r.length=y3,k.c.m.1.length=y4,k.c.m.2.length=y5,k.w.p.1.length=y6,k.w.p.2.length=y7,k.w.r.length=y8,k.w.m.1.length=y9,k.w.m.2.length=uM,k.d.p.1.length=uj,k.d.p.2.length=vI,k.s.lo.length=y13,k.s.ti.length=vK,k.s.ca.1.length=vH,k.s.ca.2.length=vF,k.s.ig.1.length=uh,k.s.ig.2.length=uY,k.c.n=nt,k.w.n=nw,k.d.wide=wb at oI ⊢;have oU:=bx (λW=>FK s 100 100 W rfl hzs (by decide));have mM:=bx (EU s 100);generalize zL s 100=cs at oU mM;clear hzs;obtain⟨V,hV⟩:∃ V,V=w.alloc (.cells #[ah nt, .slice x1 y1 z1, .slice x2 y2 z2, .slice x3 y3 z3, .slice x4 y4 z4, .slice x5 y5 z5, ah nw, .slice x6 y6 z6, .slice x7 y7 z7, .slice x8 y8 z8, .slice x9 y9 z9, .slice x10 uM z10, .slice x11 uj z11, .slice x12 vI z12, .bool wb, .slice jY y13 z13, .slice x14 vK sJ, .slice x15 vH sO, .slice x16 vF rZ, .slice x17 uh z17, .slice x18 uY rO] 38):=⟨_,rfl⟩
 have HB0:=bx (aB hV);have vw:=bx (show Sep [Pc.blk w.heap.size 38 #[ah nt, .slice x1 y1 z1, .slice x2 y2 z2, .slice x3 y3 z3, .slice x4 y4 z4, .slice x5 y5 z5, ah nw, .slice x6 y6 z6, .slice x7 y7 z7, .slice x8 y8 z8, .slice x9 y9 z9, .slice x10 uM z10, .slice x11 uj z11, .slice x12 vI z12, .bool wb, .slice jY y13 z13, .slice x14 vK sJ, .slice x15 vH sO, .slice x16 vF rZ, .slice x17 uh z17, .slice x18 uY rO],Pc.old w.heap.size w] V by rw [hV];exact(Sep.start w).eu _ _);have dU:=bx (show V.heap.size=w.heap.size+1 by rw [hV];simp);have HV:=bx hV;clear hS hV
 go_in
 go_wp2_with fail;rw [<- HV.o];refine aT (MH A B V (HS.o.below HB0.o)) λw1 hb1=>?_
 have HB1:=bx (bT HB0.o hb1);have o9:=bx (vw.o.below hb1);have eG:=bx (show w.heap.size<w1.heap.size by have:=dU.o;have:=hb1.size;omega);clear hb1 HV;have gG:=bx (KW _ k w w1 oI.o HB1.o);have hld:=o9.o.blk 0 rfl;go_wp2_with (refine eF rfl _ rfl _ rfl hld rfl ?_)
 refine gG.o.mono ?_;rintro ex w2 ⟨hb2,v',rfl,ji⟩;clear hld;have HB2:=bx (bT HB1.o hb2);have lZ:=bx (o9.o.below hb2);obtain⟨p1,r1,p2,r2,p3,r3,p4,r4,p5,r5,p6,r6,p7,r7,p8,r8,p9,r9,p10,r10,p11,r11,p12,r12,p13,r13,jP,jT,jK,jH,p16,r16,jL,jS,jI,jJ,rfl⟩:=(ji w2 (Turns.refl _ _) HB2.o).slices;have hks:=LM k;obtain⟨K,hK⟩:∃ K,K=G7 k:=⟨_,rfl⟩
 have lW:=bx (show gY K by rw [hK];exact hks);rw [<- hK] at ji ⊢;clear hb2 hK hks;generalize K.c.p.1.length=q1,K.c.p.2.length=q2,K.c.r.length=q3,K.c.m.1.length=q4,K.c.m.2.length=q5,K.w.p.1.length=q6,K.w.p.2.length=q7,K.w.r.length=q8,K.w.m.1.length=q9,K.w.m.2.length=q10,K.d.p.1.length=q11,K.d.p.2.length=q12,K.s.lo.length=q13,K.s.ti.length=jh,K.s.ca.1.length=iZ,K.s.ca.2.length=q16,K.s.ig.1.length=je,K.s.ig.2.length=jf,K.c.n=nu,K.w.n=nv,K.d.wide=we at ji ⊢;have uI:=bx ji;clear ji gG;have hld:=lZ.o.blk 0 rfl;have iL:=bx (show Sep [Pc.blk w.heap.size 38 #[ah nu, .slice p1 q1 r1, .slice p2 q2 r2, .slice p3 q3 r3, .slice p4 q4 r4, .slice p5 q5 r5, ah nv, .slice p6 q6 r6, .slice p7 q7 r7, .slice p8 q8 r8, .slice p9 q9 r9, .slice p10 q10 r10, .slice p11 q11 r11, .slice p12 q12 r12, .bool we, .slice p13 q13 r13, .slice jP jh jT, .slice jK iZ jH, .slice p16 q16 r16, .slice jL je jS, .slice jI jf jJ],Pc.old w.heap.size w] _ from lZ.o.setRow 0 rfl #[ah nu, .slice p1 q1 r1, .slice p2 q2 r2, .slice p3 q3 r3, .slice p4 q4 r4, .slice p5 q5 r5, ah nv, .slice p6 q6 r6, .slice p7 q7 r7, .slice p8 q8 r8, .slice p9 q9 r9, .slice p10 q10 r10, .slice p11 q11 r11, .slice p12 q12 r12, .bool we, .slice p13 q13 r13, .slice jP jh jT, .slice jK iZ jH, .slice p16 q16 r16, .slice jL je jS, .slice jI jf jJ]);have HT3:=bx (show Turns (λq=>q=w.heap.size) w2 _ from Turns.setRow (own:=λq=>q=w.heap.size) (g:=w.heap.size) rfl #[ah nu, .slice p1 q1 r1, .slice p2 q2 r2, .slice p3 q3 r3, .slice p4 q4 r4, .slice p5 q5 r5, ah nv, .slice p6 q6 r6, .slice p7 q7 r7, .slice p8 q8 r8, .slice p9 q9 r9, .slice p10 q10 r10, .slice p11 q11 r11, .slice p12 q12 r12, .bool we, .slice p13 q13 r13, .slice jP jh jT, .slice jK iZ jH, .slice p16 q16 r16, .slice jL je jS, .slice jI jf jJ])
 go_upto_region 3 with(refine Jl rfl _ _ rfl _ rfl rfl hld rfl (by rfl) (by kernel_rfl) ?_)
 generalize w2.setRow w.heap.size #[ah nu, .slice p1 q1 r1, .slice p2 q2 r2, .slice p3 q3 r3, .slice p4 q4 r4, .slice p5 q5 r5, ah nv, .slice p6 q6 r6, .slice p7 q7 r7, .slice p8 q8 r8, .slice p9 q9 r9, .slice p10 q10 r10, .slice p11 q11 r11, .slice p12 q12 r12, .bool we, .slice p13 q13 r13, .slice jP jh jT, .slice jK iZ jH, .slice p16 q16 r16, .slice jL je jS, .slice jI jf jJ]=w3 at iL HT3 ⊢;clear hld;have HB3:=bx (iL.o.bel (n:=w.heap.size) (W0:=w) (by simp));have iw:=bx (show dS w3 (.agg #[ah nu, .slice p1 q1 r1, .slice p2 q2 r2, .slice p3 q3 r3, .slice p4 q4 r4, .slice p5 q5 r5, ah nv, .slice p6 q6 r6, .slice p7 q7 r7, .slice p8 q8 r8, .slice p9 q9 r9, .slice p10 q10 r10, .slice p11 q11 r11, .slice p12 q12 r12, .bool we, .slice p13 q13 r13, .slice jP jh jT, .slice jK iZ jH, .slice p16 q16 r16, .slice jL je jS, .slice jI jf jJ]) K from uI.o w3 (HT3.o.mono (λk hk=>by have:=eG.o;omega)) HB3.o);have aS:=bx (HS.o.below HB3.o);have aI:=bx (λW (h:ak w3 W)=>(iL.o.blk 0 rfl).below h (iL.o.blk 0 rfl).lt);clear vw o9 lZ iL HT3 uI HB0 HB1 HB2 dU oI HS eG;go_wp2_with fail;refine aP (oU.o _) ?_;clear oU;have hcs:cs.size<=100:=mM.o;have X1:=bx (λW (h:ak w3 W)=>Us A B _ K cs 0 n W (iw.o.below h) lW.o (by omega) (aS.o.below h))
 cases hb:C.bH K with
 | false =>
  have hr:=C.aha (s:=cs.data.toList) (a:=0) (b:=n) hb;rw [hr.1,hr.2] at X1;have e1:=xH;clear hr hcs hb mM;have hld:=aI.o w3 (Below.refl _ w3);go_wp2_with (refine eF rfl _ rfl _ rfl hld rfl ?_)
  refine aT (X1.o w3 (Below.refl _ w3)) λw4 hb=>?_
  clear hld;have HB4:=bx (bT (Below.refl _ w3) hb);clear hb
  go_wp2
  go_ret
  exact⟨rfl,bT HB3.o HB4.o⟩
 | true =>
  by_cases hn:n<0
  ·have hr:=C.Zg (s:=cs.data.toList) (a:=0) (b:=n) hb (by rw [<- size_eq];omega) (.inr hn);rw [hr.1,hr.2] at X1;have e1:=xH;have d1:=bD hn;clear hr hcs hb mM hn;have hld:=aI.o w3 (Below.refl _ w3);go_wp2_with (refine eF rfl _ rfl _ rfl hld rfl ?_)
   refine aT (X1.o w3 (Below.refl _ w3)) λw4 hb=>?_
   clear hld;have HB4:=bx (bT (Below.refl _ w3) hb);clear hb
   go_wp2
   go_ret
   exact⟨rfl,bT HB3.o HB4.o⟩
  have hr:=C.UE (s:=cs.data.toList) (a:=0) (b:=n) hb (by rw [<- size_eq];omega) (by omega);rw [hr.1,hr.2,show (0:Int).toNat=0 from rfl,List.drop_zero] at X1;have hte:textE K.c cs.data.toList=0:=EC hb (by rw [<- size_eq];omega);have hcl:=(C.H8 (s:=cs.data.toList) hb (by rw [<- size_eq];omega)).1;have hal:=C.DT hte;have hfl:=C.qJ cs.data.toList;rw [<- size_eq] at hfl;have X3:=bx (λW (h:ak w3 W)=>Pj A B _ K.c cs W (iw.o.below h).tabs lW.o.c (by omega) (aS.o.below h).e (aS.o.below h).d (aS.o.below h).g (aS.o.below h).le hte);have X4:=bx (λW (h:ak w3 W)=>show Calls prog 33 #[.string cs] W λe' w'=>e' = .returned (.string (bs (M.fix cs.data.toList)))/\ak W w' from wZ A B cs W (by omega) (aS.o.below h).e (aS.o.below h).le)
  by_cases hbig:4611686018427387904<n
  ·have X2:=bx (λW (h:ak w3 W)=>Us A B _ K cs n 4611686018427387904 W (iw.o.below h) lW.o (by omega) (aS.o.below h));have hr2:=C.Zg (s:=cs.data.toList) (a:=n) (b:=4611686018427387904) hb (by rw [<- size_eq];omega) (.inr hbig);rw [hr2.1,hr2.2] at X2;rw [gq (by omega),hal] at X1;have d1:=bD hbig;have q1:((bs (M.fix cs.data.toList)).toList==(bs (M.fix cs.data.toList)).toList)=true:=by simp
   generalize C.bf K.c cs.data.toList=cl at X3;generalize M.fix cs.data.toList=fx at X1 X4 q1;clear hr hr2 hcs hb mM hn hbig hte hcl hal hfl;have hld:=aI.o w3 (Below.refl _ w3);go_wp2_with (refine eF rfl _ rfl _ rfl hld rfl ?_)
   refine aT (X1.o w3 (Below.refl _ w3)) λw4 hb=>?_
   clear hld;have HB4:=bx (bT (Below.refl _ w3) hb);clear hb;have hld:=aI.o w4 HB4.o;go_wp2_with (refine eF rfl _ rfl _ rfl hld rfl ?_)
   refine aT (X2.o w4 HB4.o) λw5 hb=>?_
   clear hld;have bU:=bx (bT HB4.o hb);clear hb;have hld:=aI.o w5 bU.o;obtain⟨e0,e1,e2,e3,e4,e5,e6,e7,e8,e9,e10,e11,e12,e13,e14,e15,e16,e17,e18,e19,e20,el⟩:=hld.c21 aZ;clear hld e6 e7 e8 e9 e10 e11 e12 e13 e14 e15 e16 e17 e18 e19 e20;go_wp2_with fail;refine(X3.o w5 bU.o).mono ?_;rintro ex w6 ⟨⟨vl,rfl,hvl,-⟩,hb⟩;clear e0 e1 e2 e3 e4 e5 el;have eY:=bx (bT bU.o hb);obtain⟨la,lc,rfl,-⟩:=hvl.slice;generalize cl.length=N;clear hb hvl;go_wp2_with fail;refine aT (X4.o w6 eY.o) λw7 hb=>?_
   have bW:=bx (bT eY.o hb);clear hb
   go_wp2
   go_ret
   exact⟨rfl,bT HB3.o bW.o⟩
  have X2:=bx (λW (h:ak w3 W)=>Us A B _ K cs n 4611686018427387904 W (iw.o.below h) lW.o (by omega) (aS.o.below h));have hr2:=C.UE (s:=cs.data.toList) (a:=n) (b:=4611686018427387904) hb (by rw [<- size_eq];omega) (by omega);rw [hr2.1,hr2.2,gq (show (C.bf K.c cs.data.toList).length<=(4611686018427387904:Int).toNat by omega)] at X2;have O6:=C.ar5 hte n.toNat
  have d1:=dh hbig;obtain⟨N,hN⟩:∃ N,(C.bf K.c cs.data.toList).length=N:=⟨_,rfl⟩
  have HN:=bx hN;rw [hN] at hcl
  by_cases hge:(N:Int)<=n
  ·rw [gq (by omega),hal] at X1;rw [zF (by omega)] at X2;have d2:=bD hge;have e1:=xH;have q1:((bs (M.fix cs.data.toList)).toList==(bs (M.fix cs.data.toList)).toList)=true:=by simp
   generalize C.bf K.c cs.data.toList=cl at X3 HN;generalize M.fix cs.data.toList=fx at X1 X4 q1;clear hr hr2 hcs hb mM hn hbig hte hal hfl O6 hN hge;have hld:=aI.o w3 (Below.refl _ w3);go_wp2_with (refine eF rfl _ rfl _ rfl hld rfl ?_)
   refine aT (X1.o w3 (Below.refl _ w3)) λw4 hb=>?_
   clear hld;have HB4:=bx (bT (Below.refl _ w3) hb);clear hb;have hld:=aI.o w4 HB4.o;go_wp2_with (refine eF rfl _ rfl _ rfl hld rfl ?_)
   refine aT (X2.o w4 HB4.o) λw5 hb=>?_
   clear hld;have bU:=bx (bT HB4.o hb);clear hb;have hld:=aI.o w5 bU.o;obtain⟨e0,e1,e2,e3,e4,e5,e6,e7,e8,e9,e10,e11,e12,e13,e14,e15,e16,e17,e18,e19,e20,el⟩:=hld.c21 aZ;clear hld e6 e7 e8 e9 e10 e11 e12 e13 e14 e15 e16 e17 e18 e19 e20;go_wp2_with fail;refine(X3.o w5 bU.o).mono ?_;rintro ex w6 ⟨⟨vl,rfl,hvl,-⟩,hb⟩;clear e0 e1 e2 e3 e4 e5 el;have eY:=bx (bT bU.o hb);obtain⟨la,lc,rfl,-⟩:=hvl.slice;rw [HN.o];clear hb hvl;go_wp2_with fail;refine aT (X4.o w6 eY.o) λw7 hb=>?_
   have bW:=bx (bT eY.o hb);clear hb
   go_wp2
   go_ret
   exact⟨rfl,bT HB3.o bW.o⟩
  obtain⟨m,rfl⟩:∃ m:Nat,n=(m:Int):=⟨n.toNat,by omega⟩
  rw [mG] at X1 X2 O6;have X5:=bx (λW (h:ak w3 W)=>Us A B _ K cs (m:Int) ((m:Int)+1) W (iw.o.below h) lW.o (by omega) (aS.o.below h));have Yi:=C.UE (s:=cs.data.toList) (a:=(m:Int)) (b:=(m:Int)+1) hb (by rw [<- size_eq];omega) (by omega);obtain⟨x,hx⟩:=bV (C.bf K.c cs.data.toList) m (by rw [hN];omega);rw [Yi.1,Yi.2,show ((m:Int)+1).toNat=m+1 by omega,mG,C.ap3 hx] at X5;have HX:=bx hx;have d2:=dh hge;have hmN:m<N:=by omega
  have q0:((bs x).toList==(bs x).toList)=true:=by simp
  have q1:((bs (M.fix cs.data.toList)).toList==(bs (M.fix cs.data.toList)).toList)=true:=by simp
  have hap:=EH ((C.bf K.c cs.data.toList).take m).flatten ((C.bf K.c cs.data.toList).drop m).flatten;rw [O6] at hap;have hsm:(bs ((C.bf K.c cs.data.toList).take m).flatten).size+(bs ((C.bf K.c cs.data.toList).drop m).flatten).size<=1000:=by
   have h1:=congrArg List.length O6;rw [bC] at h1;rw [dN,dN];omega
  generalize C.bf K.c cs.data.toList=cl at X1 X2 X3 HN HX hap hsm;generalize (cl.take m).flatten=pa at X1 hap hsm;generalize (cl.drop m).flatten=pb at X2 hap hsm;generalize M.fix cs.data.toList=fx at X4 q1 hap;clear hr hr2 Yi hcs hb mM hn hbig hte hal hfl O6 hN hge hx;have hld:=aI.o w3 (Below.refl _ w3);go_wp2_with (refine eF rfl _ rfl _ rfl hld rfl ?_)
  refine aT (X1.o w3 (Below.refl _ w3)) λw4 hb=>?_
  clear hld;have HB4:=bx (bT (Below.refl _ w3) hb);clear hb;have hld:=aI.o w4 HB4.o;go_wp2_with (refine eF rfl _ rfl _ rfl hld rfl ?_)
  refine aT (X2.o w4 HB4.o) λw5 hb=>?_
  clear hld;have bU:=bx (bT HB4.o hb);clear hb;have hld:=aI.o w5 bU.o;obtain⟨e0,e1,e2,e3,e4,e5,e6,e7,e8,e9,e10,e11,e12,e13,e14,e15,e16,e17,e18,e19,e20,el⟩:=hld.c21 aZ;clear hld e6 e7 e8 e9 e10 e11 e12 e13 e14 e15 e16 e17 e18 e19 e20;go_wp2_with fail;refine(X3.o w5 bU.o).mono ?_;rintro ex w6 ⟨⟨vl,rfl,hvl,-⟩,hb⟩;clear e0 e1 e2 e3 e4 e5 el;have eY:=bx (bT bU.o hb);obtain⟨b,off,cap,rfl,hl1,hl2,hl3,hl4⟩:=hvl.get (by intro h;rw [h] at HX;have:=HX.o;simp at this);have Uz:=bx (hl4 m x HX.o);have Di:=bx hl3;rw [HN.o] at hl1 ⊢;unfold maxLen at hl2;clear hb hvl hl3 hl4;have hld:=aI.o w6 eY.o;go_wp2_with (refine eF rfl _ rfl _ rfl hld rfl ?_)
  refine aT (X5.o w6 eY.o) λw7 hb=>?_
  have bW:=bx (bT eY.o hb);have cx:=(hb.cell (p:=⟨b,off+m,none⟩) Di.o).trans Uz.o;have hbl:b<w7.heap.size:=fC Di.o hb.size;clear hld hb;go_wp2_with fail;refine aT (X4.o w7 bW.o) λw8 hb=>?_
  have eU:=bx (bT bW.o hb);clear hb
  go_wp2
  go_ret
  exact⟨rfl,bT HB3.o eU.o⟩
end
end Go.Proofs.YtdponihkpomheaaGreatDoor
