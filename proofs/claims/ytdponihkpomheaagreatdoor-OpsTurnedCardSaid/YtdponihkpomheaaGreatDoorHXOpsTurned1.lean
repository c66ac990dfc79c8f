/- Texts of this claim. -/
import Derived.Test.YtdponihkpomheaaGreatDoorH25

set_option maxRecDepth 100000
set_option maxHeartbeats 8000000
namespace Go.Proofs.YtdponihkpomheaaGreatDoor
open Go.RowKit
open Go.Proofs.Tryz
namespace C
theorem zD:∀ ls:List (List Int),(ls.map U.textOf).flatten=U.textOf ls.flatten
 | []=>rfl
 | l::t=>by rw [iR,pY,pY,zD t,U.Fq]
theorem EL {t:Tab} {s:List UInt8}:∀ l∈aO t s,∀ x∈l,U.right x=true:=by
 intro l hl x hx;unfold aO at hl;obtain⟨i,-,rfl⟩:=jM.1 hl;exact PI (Dx s) _ _ x hx
theorem afT:∀ l:List (List UInt8),l.reverse.flatten.length=l.flatten.length
 | []=>rfl
 | x::t=>by
  rw [List.reverse_cons,rH,bC,afT t,pY,bC];simp;omega
theorem adg:∀ l:List (List Int),l.reverse.flatten.length=l.flatten.length
 | []=>rfl
 | x::t=>by
  rw [List.reverse_cons,rH,bC,adg t,pY,bC];simp;omega
theorem XG {t:Tab} {s:List UInt8} (h:textE t s=0):(aO t s).flatten=dF s:=by
 have h1:U.scalars (U.textOf (aO t s).flatten)=some (aO t s).flatten:=(U.zJ _ _).2 ⟨rfl,λx hx=>by
  obtain⟨l,hl,hxl⟩:=List.mem_flatten.1 hx;exact EL l hl x hxl⟩
 rw [<- zD,<- uO h,DT h,Et] at h1;exact(Option.some.inj h1).symm
theorem alK {t:Tab} {s:List UInt8} (h:textE t s=0) :
  ((bf t s).reverse).flatten.length=(M.fix s).length/\∃ l,U.scalars ((bf t s).reverse).flatten=some l/\l.length=(dF s).length:=by
 refine⟨by rw [afT,DT h],(aO t s).reverse.flatten,?_,by rw [adg,XG h]⟩;rw [uO h,<- List.map_reverse,zD];exact(U.zJ _ _).2 ⟨rfl,λx hx=>by
  obtain⟨l,hl,hxl⟩:=List.mem_flatten.1 hx;exact EL l (List.mem_reverse.1 hl) x hxl⟩
end C
section
attribute [local go_sem] Oper.semAt_some
namespace C
theorem aiN {k:Kt} {s:List UInt8} (h:bH k=false):Ej k s=[]/\lH k s []=160:=by
 have h0:=He (s:=s) (e:=[]) h;exact⟨by unfold Ej;rw [h0];rfl,h0⟩
end C
theorem awP (A:Nat->Addr) (B:Nat) (v:Value) (k:C.Kt) (s:ByteArray) (w:World) (hv:dS w v k) (hs:gY k) (_:s.size<=600) (hS:Sw A B w) (hb:C.bH k=false) :
  Calls prog 22 #[v, .string s] w λen w'=>en = .returned (.tuple #[.string (bs (C.Ej k s.data.toList)), ah (C.lH k s.data.toList [])])/\ak w w':=by
 obtain⟨kz,V,rfl,hkz,HV,HB0,aI,dM,dK⟩:=oL hv hS;have HOW:=bx HB0.o;have iM:=bx (λ(hb:C.bH k=false)=>LZ A B _ (aj) k s [] V (dM.o V HB0.o) hs (dK.o V HB0.o) hb (.inl ⟨rfl,rfl⟩));have HO:=bx (iM.o hb);have HR:=bx (C.aiN (s:=s.data.toList) hb);clear iM hb hs hS dM;have hld:=aI.o V aZ
 go_in
 go_upto_region 1 with(fail)
 rw [<- HV.o];go_wp2_with (refine eF rfl _ rfl _ rfl hld hkz ?_)
 refine dI HO.o HOW.o λw1 HB1=>?_
 clear hld;go_wp2_with fail;refine dI (yA (160) w1 (dK.o w1 HB1.o).t) HB1.o λw9 fA=>?_
 go_wp2
 go_ret2
 exact⟨by rw [HR.o.1,HR.o.2] <;> rfl,fA.o⟩
theorem avK (A:Nat->Addr) (B:Nat) (v:Value) (k:C.Kt) (s:ByteArray) (w:World) (hv:dS w v k) (hs:gY k) (hz:s.size<=600) (hS:Sw A B w) :
  Calls prog 22 #[v, .string s] w λen w'=>en = .returned (.tuple #[.string (bs (C.Ej k s.data.toList)), ah (C.lH k s.data.toList [])])/\ak w w':=by
 cases hb:C.bH k with
 | false=>exact awP A B v k s w hv hs hz hS hb
 | true =>
  exact abV A B v k s w hv hs hz hS hb
namespace C
end C
theorem aC.c6 {V W:World} {g:Nat} {t:TypeId} {x0 x1 x2 x3 x4 x5:Value} (H:aC V g t #[x0,x1,x2,x3,x4,x5]) (h:ak V W):ay W g 0=some x0/\ay W g 1=some x1/\ay W g 2=some x2/\ay W g 3=some x3/\ay W g 4=some x4/\ay W g 5=some x5/\g<W.heap.size:=⟨((H.below h H.lt).cell 0).trans rfl,((H.below h H.lt).cell 1).trans rfl,((H.below h H.lt).cell 2).trans rfl,((H.below h H.lt).cell 3).trans rfl,((H.below h H.lt).cell 4).trans rfl,((H.below h H.lt).cell 5).trans rfl,(H.below h H.lt).lt⟩
theorem dS.tabs {w:World} {n m:Int} {x1 x2 x3 x4 x5 x6 x7 x8 x9 x10 x11 x12 jY x14 x15 x16 x17 x18:Value} {b:Bool} {k:C.Kt}
  (h:dS w (.agg #[ah n,x1,x2,x3,x4,x5, ah m,x6,x7,x8,x9,x10,x11,x12, .bool b,jY,x14,x15,x16,x17,x18]) k):TabAt w (.agg #[ah n,x1,x2,x3,x4,x5]) k.c:=by
 obtain⟨_,_,_,_,_,_,_,_,_,_,_,_,_,_,_,_,_,_,_,_,_,e,h⟩:=h;injection e with e;simp only [Array.mk.injEq,jm,Value.int.injEq,Value.bool.injEq,true_and,and_true] at e;obtain⟨rfl,rfl,rfl,rfl,rfl,rfl,rfl,rfl,rfl,rfl,rfl,rfl,rfl,rfl,rfl,rfl,rfl,rfl,rfl,rfl,rfl⟩:=e;exact h.c
theorem asJ (A:Nat->Addr) (B:Nat) (v:Value) (t:Tab) (s:ByteArray) (w:World) (hv:TabAt w v t) (hs:nN t) (hz:s.size<=800) (hS:Sw A B w) (he:¬ textE t s.data.toList=0) :
  Calls prog 34 #[v, .string s] w λe w'=>e = .returned (.tuple #[aj, ah (textE t s.data.toList)])/\ak w w':=by
 have gG:=bx (λW (h:ak w W)=>hv.below h);obtain⟨pi,pb,rv,nv,fv,rfl,h1,h2,h3,h4,h5⟩:=hv;obtain⟨V,hV⟩:∃ V,V=w.alloc (.cells #[ah t.n,pi,pb,rv,nv,fv] 31):=⟨_,rfl⟩
 have HB0:=bx (aB hV);have HK:=bx (aK hV);have aI:=bx (λW (h:ak V W)=>HK.o.c6 h);have HV:=bx hV;have dK:=bx (λW (h:ak w W)=>hS.below h);have HO:=bx (acO A B _ t s V (gG.o V HB0.o) hs (by omega) (dK.o V HB0.o).d (dK.o V HB0.o).g (dK.o V HB0.o).le he);generalize textE t s.data.toList=r at HO ⊢;clear h1 h2 h3 h4 h5 hV hs he hS;obtain⟨tn,hn⟩:∃ n,n=t.n:=⟨_,rfl⟩
 rw [<- hn] at HV HK gG aI HO ⊢;clear hn;obtain⟨k0,k1,k2,k3,k4,k5,kk⟩:=aI.o V aZ
 go_in
 go_upto_region 1 with(fail)
 rw [<- HV.o];go_wp2_with fail;refine dI HO.o HB0.o λw1 HB1=>?_
 have HW:=bx (aeR 0 r w1 (dK.o w1 HB1.o).t);clear k0 k1 k2 k3 k4 k5 kk;go_wp2_with fail;refine dI HW.o HB1.o λw2 HB2=>?_
 go_wp2
 go_ret2
 exact⟨rfl,HB2.o⟩
theorem ak5 {l:List (List UInt8)} {k p N:Nat} {x:List UInt8} (hN:l.length=N) (h:p+k+1=N) (hx:l[p]?=some x):(l.reverse.take (k+1)).flatten=(l.reverse.take k).flatten++x:=by
 have h1:l.reverse[k]?=some x:=by
  rw [List.getElem?_reverse (by omega),show l.length-1-k=p by omega];exact hx
 rw [jw,h1,rH];simp
theorem atP (A:Nat->Addr) (B:Nat) (v:Value) (k:C.Kt) (s:ByteArray) (w:World) (hv:dS w v k) (hzs:s.size<=9223372036854775807) (hS:Sw A B w) :
  Calls prog 8 #[v, .string s] w λx w'=>x = .returned (.bool true)/\ak w w':=by
 have HS:=bx hS;have oI:=bx hv;obtain⟨x1,z1,x2,z2,x3,z3,x4,z4,x5,z5,x6,z6,x7,z7,x8,z8,x9,z9,x10,z10,x11,z11,x12,z12,jY,z13,x14,sJ,x15,sO,x16,rZ,x17,z17,x18,rO,rfl⟩:=hv.slices;clear hv;generalize k.c.p.1.length=y1,k.c.p.2.length=y2,k.c.r.length=y3,k.c.m.1.length=y4,k.c.m.2.length=y5,k.w.p.1.length=y6,k.w.p.2.length=y7,k.w.r.length=y8,k.w.m.1.length=y9,k.w.m.2.length=uM,k.d.p.1.length=uj,k.d.p.2.length=vI,k.s.lo.length=y13,k.s.ti.length=vK,k.s.ca.1.length=vH,k.s.ca.2.length=vF,k.s.ig.1.length=uh,k.s.ig.2.length=uY,k.c.n=nt,k.w.n=nw,k.d.wide=wb at oI ⊢;have oU:=bx (λW=>FK s 100 100 W rfl hzs (by decide));have mM:=bx (EU s 100);generalize zL s 100=cs at oU mM;clear hzs;obtain⟨V,hV⟩:∃ V,V=w.alloc (.cells #[ah nt, .slice x1 y1 z1, .slice x2 y2 z2, .slice x3 y3 z3, .slice x4 y4 z4, .slice x5 y5 z5, ah nw, .slice x6 y6 z6, .slice x7 y7 z7, .slice x8 y8 z8, .slice x9 y9 z9, .slice x10 uM z10, .slice x11 uj z11, .slice x12 vI z12, .bool wb, .slice jY y13 z13, .slice x14 vK sJ, .slice x15 vH sO, .slice x16 vF rZ, .slice x17 uh z17, .slice x18 uY rO] 38):=⟨_,rfl⟩
 have HB0:=bx (aB hV);have vw:=bx (show Sep [Pc.blk w.heap.size 38 #[ah nt, .slice x1 y1 z1, .slice x2 y2 z2, .slice x3 y3 z3, .slice x4 y4 z4, .slice x5 y5 z5, ah nw, .slice x6 y6 z6, .slice x7 y7 z7, .slice x8 y8 z8, .slice x9 y9 z9, .slice x10 uM z10, .slice x11 uj z11, .slice x12 vI z12, .bool wb, .slice jY y13 z13, .slice x14 vK sJ, .slice x15 vH sO, .slice x16 vF rZ, .slice x17 uh z17, .slice x18 uY rO],Pc.old w.heap.size w] V by rw [hV];exact(Sep.start w).eu _ _);have dU:=bx (show V.heap.size=w.heap.size+1 by rw [hV];simp);have HV:=bx hV;clear hS hV
 go_in
 go_wp2_with fail;rw [<- HV.o];refine aT (MH A B V (HS.o.below HB0.o)) λw1 hb1=>?_
 have HB1:=bx (bT HB0.o hb1);have o9:=bx (vw.o.below hb1);have eG:=bx (show w.heap.size<w1.heap.size by have:=dU.o;have:=hb1.size;omega);clear hb1 HV;have gG:=bx (KW _ k w w1 oI.o HB1.o);have hld:=o9.o.blk 0 rfl;go_wp2_with (refine eF rfl _ rfl _ rfl hld rfl ?_)
 refine gG.o.mono ?_;rintro ex w2 ⟨hb2,v',rfl,ji⟩;clear hld;have HB2:=bx (bT HB1.o hb2);have lZ:=bx (o9.o.below hb2);obtain⟨p1,r1,p2,r2,p3,r3,p4,r4,p5,r5,p6,r6,p7,r7,p8,r8,p9,r9,p10,r10,p11,r11,p12,r12,p13,r13,jP,jT,jK,jH,p16,r16,jL,jS,jI,jJ,rfl⟩:=(ji w2 (Turns.refl _ _) HB2.o).slices;have hks:=LM k;obtain⟨K,hK⟩:∃ K,K=G7 k:=⟨_,rfl⟩
 have lW:=bx (show gY K by rw [hK];exact hks);rw [<- hK] at ji ⊢;clear hb2 hK hks;generalize K.c.p.1.length=q1,K.c.p.2.length=q2,K.c.r.length=q3,K.c.m.1.length=q4,K.c.m.2.length=q5,K.w.p.1.length=q6,K.w.p.2.length=q7,K.w.r.length=q8,K.w.m.1.length=q9,K.w.m.2.length=q10,K.d.p.1.length=q11,K.d.p.2.length=q12,K.s.lo.length=q13,K.s.ti.length=jh,K.s.ca.1.length=iZ,K.s.ca.2.length=q16,K.s.ig.1.length=je,K.s.ig.2.length=jf,K.c.n=nu,K.w.n=nv,K.d.wide=we at ji ⊢;have uI:=bx ji;clear ji gG;have hld:=lZ.o.blk 0 rfl;have iL:=bx (show Sep [Pc.blk w.heap.size 38 #[ah nu, .slice p1 q1 r1, .slice p2 q2 r2, .slice p3 q3 r3, .slice p4 q4 r4, .slice p5 q5 r5, ah nv, .slice p6 q6 r6, .slice p7 q7 r7, .slice p8 q8 r8, .slice p9 q9 r9, .slice p10 q10 r10, .slice p11 q11 r11, .slice p12 q12 r12, .bool we, .slice p13 q13 r13, .slice jP jh jT, .slice jK iZ jH, .slice p16 q16 r16, .slice jL je jS, .slice jI jf jJ],Pc.old w.heap.size w] _ from lZ.o.setRow 0 rfl #[ah nu, .slice p1 q1 r1, .slice p2 q2 r2, .slice p3 q3 r3, .slice p4 q4 r4, .slice p5 q5 r5, ah nv, .slice p6 q6 r6, .slice p7 q7 r7, .slice p8 q8 r8, .slice p9 q9 r9, .slice p10 q10 r10, .slice p11 q11 r11, .slice p12 q12 r12, .bool we, .slice p13 q13 r13, .slice jP jh jT, .slice jK iZ jH, .slice p16 q16 r16, .slice jL je jS, .slice jI jf jJ]);have HT3:=bx (show Turns (λq=>q=w.heap.size) w2 _ from Turns.setRow (own:=λq=>q=w.heap.size) (g:=w.heap.size) rfl #[ah nu, .slice p1 q1 r1, .slice p2 q2 r2, .slice p3 q3 r3, .slice p4 q4 r4, .slice p5 q5 r5, ah nv, .slice p6 q6 r6, .slice p7 q7 r7, .slice p8 q8 r8, .slice p9 q9 r9, .slice p10 q10 r10, .slice p11 q11 r11, .slice p12 q12 r12, .bool we, .slice p13 q13 r13, .slice jP jh jT, .slice jK iZ jH, .slice p16 q16 r16, .slice jL je jS, .slice jI jf jJ])
 go_upto_region 3 with(refine Jl rfl _ _ rfl _ rfl rfl hld rfl (by rfl) (by kernel_rfl) ?_)
 generalize w2.setRow w.heap.size #[ah nu, .slice p1 q1 r1, .slice p2 q2 r2, .slice p3 q3 r3, .slice p4 q4 r4, .slice p5 q5 r5, ah nv, .slice p6 q6 r6, .slice p7 q7 r7, .slice p8 q8 r8, .slice p9 q9 r9, .slice p10 q10 r10, .slice p11 q11 r11, .slice p12 q12 r12, .bool we, .slice p13 q13 r13, .slice jP jh jT, .slice jK iZ jH, .slice p16 q16 r16, .slice jL je jS, .slice jI jf jJ]=w3 at iL HT3 ⊢;clear hld;have HB3:=bx (iL.o.bel (n:=w.heap.size) (W0:=w) (by simp));have iw:=bx (show dS w3 (.agg #[ah nu, .slice p1 q1 r1, .slice p2 q2 r2, .slice p3 q3 r3, .slice p4 q4 r4, .slice p5 q5 r5, ah nv, .slice p6 q6 r6, .slice p7 q7 r7, .slice p8 q8 r8, .slice p9 q9 r9, .slice p10 q10 r10, .slice p11 q11 r11, .slice p12 q12 r12, .bool we, .slice p13 q13 r13, .slice jP jh jT, .slice jK iZ jH, .slice p16 q16 r16, .slice jL je jS, .slice jI jf jJ]) K from uI.o w3 (HT3.o.mono (λk hk=>by have:=eG.o;omega)) HB3.o);have aS:=bx (HS.o.below HB3.o);have aI:=bx (λW (h:ak w3 W)=>(iL.o.blk 0 rfl).below h (iL.o.blk 0 rfl).lt);clear vw o9 lZ iL HT3 uI HB0 HB1 HB2 dU oI HS eG;go_wp2_with fail;refine aP (oU.o _) ?_;clear oU;have hcs:cs.size<=100:=mM.o;have X1:=bx (λW (h:ak w3 W)=>avK A B _ K cs W (iw.o.below h) lW.o (by omega) (aS.o.below h))
 cases hb:C.bH K with
 | false =>
  have hr:=C.aiN (s:=cs.data.toList) hb;rw [hr.1,hr.2] at X1;have e1:=xH
  by_cases hte:textE K.c cs.data.toList=0
  ·have X2:=bx (λW (h:ak w3 W)=>Pj A B _ K.c cs W (iw.o.below h).tabs lW.o.c (by omega) (aS.o.below h).e (aS.o.below h).d (aS.o.below h).g (aS.o.below h).le hte);generalize C.bf K.c cs.data.toList=cl at X2;clear hr hte hcs hb mM;have hld:=aI.o w3 (Below.refl _ w3);go_wp2_with (refine eF rfl _ rfl _ rfl hld rfl ?_)
   refine aT (X1.o w3 (Below.refl _ w3)) λw4 hb=>?_
   clear hld;have HB4:=bx (bT (Below.refl _ w3) hb);clear hb;have hld:=aI.o w4 HB4.o;obtain⟨e0,e1,e2,e3,e4,e5,e6,e7,e8,e9,e10,e11,e12,e13,e14,e15,e16,e17,e18,e19,e20,el⟩:=hld.c21 aZ;clear hld e6 e7 e8 e9 e10 e11 e12 e13 e14 e15 e16 e17 e18 e19 e20;go_wp2_with fail;refine(X2.o w4 HB4.o).mono ?_;rintro ex w5 ⟨⟨vl,rfl,hvl,-⟩,hb⟩;clear e0 e1 e2 e3 e4 e5 el;have bU:=bx (bT HB4.o hb);obtain⟨la,lc,rfl,-⟩:=hvl.slice;generalize cl.length=N;clear hb hvl
   go_wp2
   go_ret
   exact⟨rfl,bT HB3.o bU.o⟩
  have X2:=bx (λW (h:ak w3 W)=>asJ A B _ K.c cs W (iw.o.below h).tabs lW.o.c (by omega) (aS.o.below h) hte);generalize textE K.c cs.data.toList=te at X2 hte;clear hr hte hcs hb mM;have hld:=aI.o w3 (Below.refl _ w3);go_wp2_with (refine eF rfl _ rfl _ rfl hld rfl ?_)
  refine aT (X1.o w3 (Below.refl _ w3)) λw4 hb=>?_
  clear hld;have HB4:=bx (bT (Below.refl _ w3) hb);clear hb;have hld:=aI.o w4 HB4.o;obtain⟨e0,e1,e2,e3,e4,e5,e6,e7,e8,e9,e10,e11,e12,e13,e14,e15,e16,e17,e18,e19,e20,el⟩:=hld.c21 aZ;clear hld e6 e7 e8 e9 e10 e11 e12 e13 e14 e15 e16 e17 e18 e19 e20;go_wp2_with fail;refine aT (X2.o w4 HB4.o) λw5 hb=>?_
  clear e0 e1 e2 e3 e4 e5 el;have bU:=bx (bT HB4.o hb);clear hb
  go_wp2
  go_ret
  exact⟨rfl,bT HB3.o bU.o⟩
 | true =>
  have hr:=C.acJ (s:=cs.data.toList) hb (by rw [<- size_eq];omega);rw [hr.1,hr.2] at X1;have hte:textE K.c cs.data.toList=0:=EC hb (by rw [<- size_eq];omega);obtain⟨hl1,tl,hl2,hl3⟩:=C.alK (s:=cs.data.toList) hte;have hfl:=C.qJ cs.data.toList;rw [<- size_eq] at hfl;have hcl:=(C.H8 (s:=cs.data.toList) hb (by rw [<- size_eq];omega)).1;have X2:=bx (λW (h:ak w3 W)=>Pj A B _ K.c cs W (iw.o.below h).tabs lW.o.c (by omega) (aS.o.below h).e (aS.o.below h).d (aS.o.below h).g (aS.o.below h).le hte);have X4:=bx (λW (h:ak w3 W)=>show Calls prog 33 #[.string cs] W λe' w'=>e' = .returned (.string (bs (M.fix cs.data.toList)))/\ak W w' from wZ A B cs W (by omega) (aS.o.below h).e (aS.o.below h).le);have X3:=bx (λW (h:ak w3 W)=>TK A B (C.bf K.c cs.data.toList).reverse.flatten tl W (by omega) (aS.o.below h).e (aS.o.below h).le hl2);have X5:=bx (λW (h:ak w3 W)=>TK A B (M.fix cs.data.toList) (dF cs.data.toList) W (by omega) (aS.o.below h).e (aS.o.below h).le (Et _));rw [hl3] at X3;generalize (dF cs.data.toList).length=ns at X3 X5;generalize M.fix cs.data.toList=fx at X4 X5 hl1 hfl;generalize C.bf K.c cs.data.toList=cl at X1 X2 X3 hl1 hcl;obtain⟨N,hN⟩:∃ N,cl.length=N:=⟨_,rfl⟩
  have HN:=bx hN;rw [hN] at hcl;have Dp:=bx (λk=>show (cl.reverse.take k).flatten.length<=300 by
   have h:=congrArg (λx=>x.flatten.length) (oN k cl.reverse);simp only [rH,bC] at h;rw [hl1] at h;omega)
  have nM:=bx hl1;have lG:=bx (show fx.length<=300 by omega);have Qy:=bx (show tl.length=tl.length from rfl);clear hr hte hcs hb mM hl2 hl3 hN hl1 hfl;have hld:=aI.o w3 (Below.refl _ w3);go_wp2_with (refine eF rfl _ rfl _ rfl hld rfl ?_)
  refine aT (X1.o w3 (Below.refl _ w3)) λw4 hb=>?_
  clear hld;have HB4:=bx (bT (Below.refl _ w3) hb);clear hb;have hld:=aI.o w4 HB4.o;obtain⟨e0,e1,e2,e3,e4,e5,e6,e7,e8,e9,e10,e11,e12,e13,e14,e15,e16,e17,e18,e19,e20,el⟩:=hld.c21 aZ;clear hld e6 e7 e8 e9 e10 e11 e12 e13 e14 e15 e16 e17 e18 e19 e20;go_wp2_with fail;refine(X2.o w4 HB4.o).mono ?_;rintro ex w5 ⟨⟨vl,rfl,hvl,-⟩,hb⟩;clear e0 e1 e2 e3 e4 e5 el;have bU:=bx (bT HB4.o hb);obtain⟨la,lc,rfl,-⟩:=hvl.slice;rw [HN.o] at hvl ⊢;obtain⟨cg,kN,hla,hcs2⟩:∃ cg kN,(0<N->la=some ⟨cg,kN,none⟩/\N<=lc/\lc<=maxLen/\cg<w5.heap.size)/\∀ (i:Nat) (x:List UInt8),cl[i]?=some x->w5.cell? ⟨cg,kN+i,none⟩=some (.string (bs x)):=by
   by_cases h0:N=0
   ·refine⟨0,0,λh=>absurd h (by omega),λi x hx=>?_⟩;have h9:=(dO hx).1;rw [HN.o] at h9;omega
   obtain⟨b,off,cap,e1,e2,e3,e4,e5⟩:=hvl.get (by intro h;have h9:=congrArg List.length h;rw [HN.o,iG] at h9;omega);rw [HN.o] at e1 e2;injection e1 with f1 f2 f3;subst f1 f3;exact⟨b,off,λ_=>⟨rfl,e2,e3,e4⟩,λi x hx=>e5 i x hx⟩
  have UH:=bx hcs2;have uf:=bx hla;clear hb hvl hcs2 hla;go_wp2_with fail
  go_loopw [10,11] (λov i wr=>∃ (k:Nat) (z:Int),k<=N/\ov = .string (bs (cl.reverse.take k).flatten)/\i = ah z/\Box (z=(N:Int)-1-k)/\w5=wr) (λ_ i _=>(intOf i+1).toNat)
  ·exact⟨0,(N:Int)-1,by omega,rfl,rfl,⟨by omega⟩,rfl⟩
  obtain⟨k,z,hk,rfl,rfl,hz,rfl⟩:=hrel
  by_cases hlt:k<N
  ·obtain⟨p,rfl⟩:∃ p:Nat,z=(p:Int):=⟨z.toNat,by have:=hz.o;omega⟩
   have hpk:p+k+1=N:=by have:=hz.o;omega
   obtain⟨x,hx⟩:=bV cl p (by rw [HN.o];omega);have cx:=UH.o p x hx;have UA:=bx (ak5 HN.o hpk hx);have hap:=EH (cl.reverse.take k).flatten x;rw [<- UA.o] at hap;have d0:decide ((0:Int)<=(p:Int))=true:=bD (by omega);have Jp:p<N:=by omega
   obtain⟨rfl,hq1,hq2,hq3⟩:=uf.o (by omega);unfold maxLen at hq2;have hsm:(bs (cl.reverse.take k).flatten).size+(bs x).size<=1000:=by
    have h1:=Dp.o (k+1);rw [UA.o,bC] at h1;rw [dN,dN];omega
   clear hx
   go_wp2
   go_roundw
   ·exact⟨k+1,(p:Int)-1,by omega,rfl,by go_num,⟨by omega⟩,trivial⟩
   simp [intOf] <;> omega
  obtain rfl:k=N:=by omega
  obtain rfl:z=-1:=by have:=hz.o;omega
  have hfull:(cl.reverse.take k).flatten=cl.reverse.flatten:=by rw [gq (by rw [PG,HN.o];omega)]
  rw [hfull];clear hfull;have hz1:(bs cl.reverse.flatten).size=(bs fx).size:=by rw [dN,dN];exact nM.o
  go_wp2_with fail;refine(X3.o w5 bU.o).mono ?_;rintro ex w6 ⟨⟨ma,mc,rfl⟩,hb⟩;have eY:=bx (bT bU.o hb);clear hb;go_wp2_with fail;refine aT (X4.o w6 eY.o) λw7 hb=>?_
  have bW:=bx (bT eY.o hb);clear hb;go_wp2_with fail;refine(X5.o w7 bW.o).mono ?_;rintro ex w8 ⟨⟨na,nc,rfl⟩,hb⟩;have eU:=bx (bT bW.o hb);clear hb;go_wp2_with fail;refine aT (X4.o w8 eU.o) λw9 hb=>?_
  have fA:=bx (bT eU.o hb);clear hb
  go_wp2
  go_ret
  exact⟨rfl,bT HB3.o fA.o⟩
end
end Go.Proofs.YtdponihkpomheaaGreatDoor
