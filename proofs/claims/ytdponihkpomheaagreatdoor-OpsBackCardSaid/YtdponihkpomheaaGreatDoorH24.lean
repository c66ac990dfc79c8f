/- Texts of this claim. -/
import Derived.Test.YtdponihkpomheaaGreatDoorH23

set_option maxRecDepth 100000
set_option maxHeartbeats 16000000
namespace Go.Proofs.YtdponihkpomheaaGreatDoor
open Go.RowKit
attribute [local go_sem] Oper.semAt_some
open Go.Proofs.Tryz
namespace C
def aaA (k:Kt) (s:List UInt8):List UInt8:=if lH k s []=0 then T.Ew k.s k.w s else []
def aaM (k:Kt) (s:List UInt8):Int:=if lH k s []=0 then T.Cm k.s k.w s else lH k s []
theorem Xq {k:Kt} {s:List UInt8} (h:bH k=true) (hz:s.length<=600):aaA k s=T.Ew k.s k.w s/\aaM k s=T.Cm k.s k.w s:=by
 have h0:=uV (s:=s) (e:=[]) h hz (by simp);exact⟨by unfold aaA;rw [aG h0],by unfold aaM;rw [aG h0]⟩
end C
theorem au7 (A:Nat->Addr) (B:Nat) (v:Value) (k:C.Kt) (s:ByteArray) (w:World) (hv:dS w v k) (hs:gY k) (hz:s.size<=299) (hS:Sw A B w) (hb:C.bH k=true) :
  Calls prog 43 #[v, .string s] w λen w'=>en = .returned (.tuple #[.string (bs (C.aaA k s.data.toList)), ah (C.aaM k s.data.toList)])/\ak w w':=by
 obtain⟨kz,V,rfl,hkz,HV,HB0,aI,dM,dK⟩:=oL hv hS;have HOW:=bx HB0.o;have fH:=bx (λ(hb:C.bH k=true) (hz:s.size<=600)=>uQ A B _ (aj) k s [] V (dM.o V HB0.o) hs (dK.o V HB0.o) hb (.inl ⟨rfl,rfl⟩) hz (by simp) (λp hp=>by cases hp));have HO:=bx (fH.o hb (by omega));have HR:=bx (C.Xq (s:=s.data.toList) hb (by rw [<- size_eq];omega));have hcb:T.lI 600 k.s=true:=by have h:=hb;unfold C.bH at h;simp only [dD] at h;exact h.2
 have htw:nD k.w=true:=by have h:=hb;unfold C.bH at h;simp only [dD] at h;exact h.1.1.2
 have hte:textE k.w s.data.toList=0:=by unfold textE;rw [aF (by rw [htw];simp),aF (by rw [<- size_eq];omega)]
 have wU:=bx (λv1 v2 W (h:ak w W) (h1:o8 W v1 k.s) (h2:TabAt W v2 k.w)=>aqs A B v1 v2 k.s k.w s W h1 hs.s h2 hs.w hz (hS.below h).e (hS.below h).d (hS.below h).g (hS.below h).t (hS.below h).le hcb hte);generalize T.Ew k.s k.w s.data.toList=ta at wU HR;generalize T.Cm k.s k.w s.data.toList=te at wU HR;clear fH hb hs hS hz dM hcb htw hte;have hld:=aI.o V aZ
 go_in
 go_upto_region 1 with(fail)
 rw [<- HV.o];go_wp2_with (refine eF rfl _ rfl _ rfl hld hkz ?_)
 refine HO.o.mono ?_;rintro en w1 ⟨⟨g,rfl,hwk,-⟩,hb1⟩;have HB1:=aJ HOW hb1;have kF:=bx hwk;clear hb1 hwk hld;go_wp2_with fail;obtain⟨n0,n1,n2,n3,n4,n5,n6,n7,n8,n9,n10,n11,n12,n13,n14,n15,n16,n17,n18,n19,n20,hkk,hpp⟩:=kF.o;have HKK:=bx hkk;have Hg:=bx hpp;have wQ:=bx (λW (h:ak w1 W)=>hkk.c21 h);have bM:=bx (λW (h:ak w1 W)=>bt HB1.o h);clear hkk hpp;go_wp2_with fail;refine jl 11 (λW'=>ay W' g 0=some (ah n0)/\ay W' g 1=some (n1)/\ay W' g 2=some (n2)/\ay W' g 3=some (n3)/\ay W' g 4=some (n4)/\ay W' g 5=some (n5)/\ay W' g 6=some (ah n6)/\ay W' g 7=some (n7)/\ay W' g 8=some (n8)/\ay W' g 9=some (n9)/\ay W' g 10=some (n10)/\ay W' g 11=some (n11)/\ay W' g 12=some (n12)/\ay W' g 13=some (n13)/\ay W' g 14=some (.bool n14)/\ay W' g 15=some (n15)/\ay W' g 16=some (n16)/\ay W' g 17=some (n17)/\ay W' g 18=some (n18)/\ay W' g 19=some (n19)/\ay W' g 20=some (n20)/\g<W'.heap.size) (by kernel_rfl) ?_;have dH:=bx (wQ.o w1.drew (jg w1 1));have aX:=bx (show ak w1 w1.drew from jg w1 1);generalize w1.drew=WR at dH aX ⊢;refine jB [0,1,2,3,4,5,6,7,8,9,10] ?_
 iterate 11 (refine jA ?_ rfl dH.o ?_ ?_;rotate_left;·rintro w ⟨q1,q2,q3,q4,q5,q6,q7,q8,q9,q10,q11,q12,q13,jh,iZ,q16,je,jf,q19,q20,q21,q22⟩;go_simp;try with_reducible rfl)
 refine jr ?_;refine kP 11 rfl λKK au=>?_
 go_simp;refine aT (wU.o _ _ WR (bM.o WR aX.o) ((Hg.o.below aX.o).s) ((Hg.o.below aX.o).w)) λw2 hb2=>?_
 have HB2:=bx ((bM.o WR aX.o).trans (hb2.mono (bM.o WR aX.o).size));clear hb2;refine au.out _ _ (λh=>by cases h) ?_;clear au KK;refine kW ?_;refine kU 12 ?_ rfl ?_ ?_;rotate_left
 ·(intro w;go_simp;first | done | with_reducible rfl)
 refine kU 13 ?_ rfl ?_ ?_;rotate_left
 ·(intro w;go_simp;first | done | with_reducible rfl)
 refine kP 14 rfl λKK au=>?_
 go_simp;refine au.out _ _ (λ_=>trivial) ?_;clear au KK;refine kP 15 rfl λKK au=>?_
 go_simp;refine au.out _ _ (λ_=>trivial) ?_;clear au KK;refine kD ?_ _
 go_wp2
 go_ret2
 exact⟨by rw [HR.o.1,HR.o.2] <;> rfl,HB2.o⟩
theorem TK (A:Nat->Addr) (B:Nat) (s:List UInt8) (l:List Int) (w:World) (hs:s.length<=16777216) (hE:E A B w) (hB:B<=w.heap.size) (hl:U.scalars s=some l) :
  Calls prog 35 #[.string (bs s)] w λe w'=>(∃ a c,e = .returned (.tuple #[.slice a l.length c, ah 0]))/\ak w w':=by
 refine(Zf A B (bs s) w (by rw [dN];exact hs) hE hB).mono ?_;rintro e w' ⟨hb,hr⟩;rw [xZ,hl] at hr;obtain⟨v,rfl,hv⟩:=hr;obtain⟨a,c,rfl⟩:=(aN.iy hv rfl).slice;exact⟨⟨a,c,rfl⟩,hb⟩
theorem ahY {n j:Nat} {W0 w:World} {ov jy:Value} {l r:List (List UInt8)} {x:List UInt8} (hj:l.length=j) (h:Sep (List.set [Pc.row n 9 1 ov j (l.map gW),Pc.old n W0] 0 (Pc.row n 9 1 jy (j+1) (l.map gW++[gW x]))) w) (hr:r=l++[x]):Sep (nV n W0 jy r) w:=by
 subst hr;unfold nV;rw [bC,gX,hj];exact h
theorem XQ {w:World} {la:Option Addr} {N lc:Nat} {cl:List (List UInt8)} (hv:cZ w (.slice la N lc) cl) (hN:cl.length=N) :
  ∃ cg kN,(0<N->la=some ⟨cg,kN,none⟩/\N<=lc/\lc<=maxLen)/\∀ (i:Nat) (x:List UInt8),cl[i]?=some x->cg<w.heap.size/\w.cell? ⟨cg,kN+i,none⟩=some (.string (bs x)):=by
 subst hN
 by_cases h0:cl=[]
 ·subst h0;exact⟨0,0,λh=>absurd h (by simp),λi x hx=>by simp at hx⟩
 obtain⟨b,off,cap,e1,e2,e3,e4,e5⟩:=hv.get h0;injection e1 with f1 f2 f3;subst f1 f3;exact⟨b,off,λ_=>⟨rfl,e2,e3⟩,λi x hx=>⟨e4,e5 i x hx⟩⟩
namespace C
theorem Yc {k:Kt} {s:List UInt8} {b c:Int} (h:bH k=true) (hz:s.length<=600) (hc:¬ (b<0\/c<0)):vU k s b c=headA k.c s (lQ (aO k.c s) b c (aO k.c s).length)/\qI k s b c=0:=by
 have h0:qI k s b c=0:=by unfold qI;rw [aG (uV h hz (by simp)),aF hc]
 exact⟨by unfold vU;rw [aG h0],h0⟩
theorem atT {ls:List (List Int)} {b c:Int} {k:Nat}:decide (min (b-sD ls k) (c-tu ls k)<0)=!pW ls b c k:=by
 unfold pW
 by_cases h1:(sD ls k:Int)<=b <;> by_cases h2:(tu ls k:Int)<=c <;> simp [h1,h2] <;> omega
end C
theorem aiS (A:Nat->Addr) (B:Nat) (v:Value) (k:C.Kt) (s:ByteArray) (b c:Int) (w:World) (hv:dS w v k) (hs:gY k) (hz:s.size<=260) (hbm:b<=9223372036854775807) (hcm:c<=9223372036854775807) (hS:Sw A B w) (hb:C.bH k=true) (hc:¬ (b<0\/c<0)) :
  Calls prog 20 #[v, .string s, ah b, ah c] w λen w'=>en = .returned (.tuple #[.string (bs (C.vU k s.data.toList b c)), ah (C.qI k s.data.toList b c)])/\ak w w':=by
 obtain⟨kz,V,rfl,hkz,HV,HB0,aI,dM,dK⟩:=oL hv hS;have HOW:=bx HB0.o;have fH:=bx (λ(hb:C.bH k=true) (hz:s.size<=600)=>uQ A B _ (aj) k s [] V (dM.o V HB0.o) hs (dK.o V HB0.o) hb (.inl ⟨rfl,rfl⟩) hz (by simp) (λp hp=>by cases hp));have HO:=bx (fH.o hb (by omega));have HR:=bx (C.Yc (s:=s.data.toList) hb (by rw [<- size_eq];omega) hc);have d1:decide (min b c<0)=false:=dh (by omega);have hte:=EC (s:=s.data.toList) hb (by rw [<- size_eq];omega);have pX:=bx (λg W (h:ak w W) (hg:mW W g k)=>Qp A B g k s W hg hs hb (by omega) (hS.below h));have hcl:=C.H8 (s:=s.data.toList) hb (by rw [<- size_eq];omega);rw [C.UQ hte] at hcl;have Dp:=bx (λn=>show ((C.bf k.c s.data.toList).take n).flatten.length<=1800 from bP (hcl.2 n) (by rw [<- size_eq];omega));have Ug:=bx (λy hy=>Uk (t:=k.c) (s:=s) (by omega) y hy);have wK:=bx (λ(y:List Int) W (h:ak w W) (hy:U.scalars (U.textOf y)=some y) (hl:(U.textOf y).length<=8000)=>TK A B (U.textOf y) y W (by omega) (hS.below h).e (hS.below h).le hy);rw [C.uO hte] at pX Dp;have zY:=bx (show C.headA k.c s.data.toList (C.lQ (C.aO k.c s.data.toList) b c (C.aO k.c s.data.toList).length)=(((C.aO k.c s.data.toList).map U.textOf).take (C.lQ (C.aO k.c s.data.toList) b c (C.aO k.c s.data.toList).length)).flatten by unfold C.headA;rw [C.uO hte]);rw [zY.o] at HR;generalize C.aO k.c s.data.toList=ls at pX Dp Ug HR hcl;obtain⟨N,hN⟩:∃ N,ls.length=N:=⟨_,rfl⟩
 have HN:=bx hN;rw [hN] at HR hcl;have aaD:=hcl.1;clear fH hb hs hS hz dM hcl hN zY hte;have hld:=aI.o V aZ
 go_in
 go_upto_region 1 with(fail)
 rw [<- HV.o];go_wp2_with (refine eF rfl _ rfl _ rfl hld hkz ?_)
 refine HO.o.mono ?_;rintro en w1 ⟨⟨g,rfl,hwk,-⟩,hb1⟩;have HB1:=aJ HOW hb1;have kF:=bx hwk;clear hb1 hwk hld;go_wp2_with fail;refine(pX.o g w1 HB1.o kF.o).mono ?_;rintro en w2 ⟨⟨lv,rfl,hlv,-⟩,hb2⟩;have HB2:=aJ HB1 hb2;obtain⟨la,lc,rfl,-⟩:=hlv.slice;rw [aV,HN.o] at hlv ⊢;obtain⟨cg,kN,hla,hcs⟩:=XQ hlv (by rw [aV];exact HN.o);have uf:=bx hla;have yQ:=bx hcs;have bQ:=bx (abk w2.heap.size w2 rfl);have HBB:=bx (show b-(C.sD ls 0:Int)=b/\c-(C.tu ls 0:Int)=c from by simp [C.sD,C.tu]);clear hb2 hlv hla hcs;go_wp2_with fail
 go_loopw [2,3,12,41] (λbv cv ov iv wr=>∃ (j:Nat) (bz cz:Int) (oa:Option Addr) (oc:Nat),j<=N/\bv = ah bz/\cv = ah cz/\ov = .slice oa j oc/\iv = ah j/\Box (bz=b-(C.sD ls j:Int))/\Box (cz=c-(C.tu ls j:Int))/\Box (j=0\/C.pW ls b c j=true)/\0<=bz/\0<=cz/\Box (Sep (nV w2.heap.size w2 (.slice oa j oc) ((ls.map U.textOf).take j)) wr)) (λ_ _ _ iv _=>N-(intOf iv).toNat)
 ·exact⟨0,b,c,none,0,by omega,rfl,rfl,rfl,rfl,⟨HBB.o.1.symm⟩,⟨HBB.o.2.symm⟩,⟨.inl rfl⟩,by omega,by omega,by rw [qN];exact bQ⟩
 obtain⟨j,bz,cz,oa,oc,hj,rfl,rfl,rfl,rfl,hbz,hcz,hf,hb0,hc0,hsep⟩:=hrel;have dL:=bx (HB2.o.trans ((GR hsep.o).mono HB2.o.size))
 by_cases hlt:j<N
 ·obtain⟨y,hy⟩:=bV ls j (by rw [HN.o];exact hlt);obtain⟨hy1,hy2,hy3⟩:=Ug.o y (dB hy);have hx:(ls.map U.textOf)[j]?=some (U.textOf y):=by rw [eX,hy];rfl
  have hcx:=yQ.o j (U.textOf y) hx;obtain⟨rfl,hl1,hl2⟩:=uf.o (by omega);have cx:=((GR hsep.o).cell (p:=⟨cg,kN+j,none⟩) hcx.1).trans hcx.2;have hgl:=fC hcx.1 (GR hsep.o).size;unfold maxLen at hl2;have nH:=bx (show (ls.map U.textOf).take (j+1)=(ls.map U.textOf).take j++[U.textOf y] by rw [jw,hx];rfl);have hbn:=C.ajg ls hy;have hsn:=C.adI ls hy;have hyl:y.length<=(U.textOf y).length:=by
   exact TW y
  have Hz:=bx (wK.o y wr dL.o hy1 hy3);have Iz:=bx (C.atT (ls:=ls) (b:=b) (c:=c) (k:=j+1));have hbs:=dN (U.textOf y);obtain⟨SE,aa8⟩:∃ z,z=bz-((U.textOf y).length:Int):=⟨_,rfl⟩
  obtain⟨TJ,ahq⟩:∃ z,z=cz-(y.length:Int):=⟨_,rfl⟩
  have HBZ:=bx (show SE=b-(C.sD ls (j+1):Int) by rw [aa8,hbz.o,hbn];omega);have HCZ:=bx (show TJ=c-(C.tu ls (j+1):Int) by rw [ahq,hcz.o,hsn];omega);rw [<- HBZ.o,<- HCZ.o] at Iz;have hwb:IntKind.i64.wrap (bz-((U.textOf y).length:Int))=SE:=by rw [yC];have:=hbz.o;omega
  have hwc:IntKind.i64.wrap (cz-(y.length:Int))=TJ:=by rw [yC];have:=hcz.o;omega
  have hlo:((ls.map U.textOf).take j).length=j:=by rw [dw,aV,HN.o];omega
  have um:=bx hlo;have HJF:=bx hf.o;clear hy hx hcx hbn hsn hyl aa8 ahq hlo
  cases hfit:C.pW ls b c (j+1) with
  | true =>
   rw [hfit,Bool.not_true] at Iz;have AZ:=bx hfit;have RD:=Iz.o;have hpos:0<=SE/\0<=TJ:=by have:=of_decide_eq_false RD;omega
   clear hfit;go_wp2_with fail;refine Hz.o.mono ?_;rintro en w3 ⟨⟨sa,sc,rfl⟩,hb3⟩;have aS:=bx (hsep.o.below hb3);clear hb3 cx;have alq:=bx (show Sep [Pc.row w2.heap.size 9 1 (.slice oa j oc) j (((ls.map U.textOf).take j).map gW),Pc.old w2.heap.size w2] w3 by
    have h:=aS.o;unfold nV at h;rw [um.o] at h;exact h)
   have ava:w2.heap.size<=w3.heap.size:=(GR aS.o).size;have hjN:j<=1000000000:=by omega
   go_wp2_with (at_builtin;refine vM (u:=gW (U.textOf y)) rfl _ _ 49 rfl Em alq.o 0 rfl rfl rfl rfl hjN (by omega) ava ?_;rintro v4 w4 hS4 ⟨g4,c4,rfl,-,-⟩;have dJ:=bx (ahY um.o hS4 nH.o);clear hS4)
   go_wp2
   go_roundw
   ·exact⟨j+1,SE,TJ,_,_,by omega,rfl,rfl,rfl,by go_num,HBZ,HCZ,⟨.inr AZ.o⟩,hpos.1,hpos.2,dJ⟩
   simp [intOf];omega
  | false =>
   rw [hfit,Bool.not_false] at Iz;have RD:=Iz.o;have HK:=bx (C.aa5 (show j<=N by omega) HJF.o (.inr hfit));rw [HK.o] at HR;clear hfit;go_wp2_with fail;refine Hz.o.mono ?_;rintro en w3 ⟨⟨sa,sc,rfl⟩,hb3⟩;have HB3:=aJ dL hb3;have aS:=bx (hsep.o.below hb3);have HJ:=bx (Eo _ _ w3 (VR aS.o) (bP (Dp.o j) (by decide)) (by rw [um.o];omega));clear hb3 cx;go_wp2_with fail;refine dI HJ.o HB3.o λw4 HB4=>?_
   go_wp2
   go_ret2
   exact⟨by rw [HR.o.1,HR.o.2] <;> rfl,HB4.o⟩
 obtain rfl:N=j:=by omega
 have HK:=bx (C.aa5 (ls:=ls) (b:=b) (c:=c) (bK N) hf.o (.inl rfl));rw [HK.o] at HR;have HJ:=bx (Eo _ _ wr (VR hsep.o) (bP (Dp.o N) (by decide)) (by rw [dw,aV,HN.o];omega));go_wp2_with fail;refine dI HJ.o dL.o λw4 HB4=>?_
 go_wp2
 go_ret2
 exact⟨by rw [HR.o.1,HR.o.2] <;> rfl,HB4.o⟩
namespace C
def qy (l:List (List UInt8)) (sep:List UInt8):Nat->Nat->List (Nat×Nat)
 | 0,_=>[]
 | f+1,a=>if l.length<=a then [] else if 0<jD (l.drop a) sep then (a,a+jD (l.drop a) sep)::qy l sep f (a+jD (l.drop a) sep) else qy l sep f (a+1)
def BU (l:List (List UInt8)):List (Nat×Nat)->Nat->List (List UInt8)
 | [],_=>[]
 | (x,y)::t,b=>((l.take x).drop b).flatten::BU l t y
def BN:List (Nat×Nat)->Nat->Nat
 | [],b=>b
 | (_,y)::t,_=>BN t y
theorem Yw (l:List (List UInt8)) (sep:List UInt8):∀ f a b,mY l sep f a b=BU l (qy l sep f a) b++[(l.drop (BN (qy l sep f a) b)).flatten]
 | 0,a,b=>rfl
 | f+1,a,b=>by
  unfold mY qy
  by_cases h:l.length<=a
  ·rw [aG h,aG h];rfl
  rw [aF h,aF h]
  by_cases h2:0<jD (l.drop a) sep
  ·rw [aG h2,aG h2,Yw l sep f]
   rfl
  rw [aF h2,aF h2];exact Yw l sep f _ _
theorem ahJ (l:List (List UInt8)) (x y:Nat):∀ t b,BU l (t++[(x,y)]) b=BU l t b++[((l.take x).drop (BN t b)).flatten]
 | [],b=>rfl
 | (u,v)::t,b=>by
  show _::BU l (t++[(x,y)]) v=_
  rw [ahJ l x y t v]
  rfl
theorem ae0 (x y:Nat):∀ t b,BN (t++[(x,y)]) b=y
 | [],_=>rfl
 | (u,v)::t,b=>by
  show BN (t++[(x,y)]) v=y
  exact ae0 x y t v
theorem XJ (l:List (List UInt8)):∀ t b,(BU l t b).length=t.length
 | [],_=>rfl
 | (u,v)::t,b=>by
  show (BU l t v).length+1=t.length+1
  rw [XJ l t v]
theorem Wh (l:List (List UInt8)) (sep:List UInt8):∀ (f a b:Nat) (pre:List (Nat×Nat)) (x:Nat×Nat) (rest:List (Nat×Nat)),b<=a->qy l sep f a=pre++x::rest->BN pre b<=x.1/\x.1<x.2/\x.2<=l.length
 | 0,a,b,pre,x,rest,_,h=>by
  unfold qy at h;have:=congrArg List.length h;simp at this
 | f+1,a,b,pre,x,rest,hb,h=>by
  unfold qy at h
  by_cases h1:l.length<=a
  ·rw [aG h1] at h;have:=congrArg List.length h;simp at this
  rw [aF h1] at h
  by_cases h2:0<jD (l.drop a) sep
  ·rw [aG h2] at h;have hm:=OD (l.drop a) sep;rw [gy] at hm
   cases pre with
   | nil =>
    rw [iJ] at h;injection h with e1 e2;subst e1;exact⟨hb,by show a<_;omega,by show a+_<=_;omega⟩
   | cons p t =>
    rw [jd] at h;injection h with e1 e2;subst e1;exact Wh l sep f _ _ t x rest aU e2
  rw [aF h2] at h;exact Wh l sep f (a+1) b pre x rest (by omega) h
theorem aaJ (l:List (List UInt8)) (sep:List UInt8):∀ (f a b:Nat),b<=l.length->BN (qy l sep f a) b<=l.length
 | 0,a,b,h=>h
 | f+1,a,b,h=>by
  unfold qy
  split
  ·exact h
  split
  ·have hm:=OD (l.drop a) sep;rw [gy] at hm;exact aaJ l sep f _ _ (by omega)
  exact aaJ l sep f _ _ h
theorem Zi (l:List (List UInt8)) (sep:List UInt8):∀ (f a:Nat),(qy l sep f a).length<=f
 | 0,_=>bK _
 | f+1,a=>by
  unfold qy
  split
  ·exact nK _
  split
  ·exact Nat.succ_le_succ (Zi l sep f _)
  exact Nat.le_succ_of_le (Zi l sep f _)
def JJ (k n:Nat):Nat:=match n with | 0=>0 | n+1=>n+1+k
theorem ajD (x:List UInt8) (t:List (List UInt8)) (sep:List UInt8):jD (x::t) sep=if sep=x then 1 else if x.isPrefixOf sep=true then JJ 1 (jD t (sep.drop x.length)) else 0:=by
 rw [jD]
 split
 ·rfl
 split
 ·cases jD t (sep.drop x.length) <;> rfl
 rfl
theorem auh (k n:Nat):JJ k (JJ 1 n)=JJ (k+1) n:=by
 cases n with
 | zero=>rfl
 | succ n=>show n+1+1+k=n+1+(k+1);omega
theorem anI (n:Nat):JJ 0 n=n:=by cases n <;> rfl
end C
theorem WI (p s:List UInt8):p.isPrefixOf s=true↔s.take p.length=p:=by
 rw [List.isPrefixOf_iff_prefix,List.prefix_iff_eq_take];exact⟨λh=>h.symm,λh=>h.symm⟩
theorem adD {p s:List UInt8} (h:p.isPrefixOf s=true):p.length<=s.length:=(List.isPrefixOf_iff_prefix.1 h).length_le
theorem alD (s p:List UInt8) (w:World) :
  Calls prog 312 #[.string (bs s), .string (bs p)] w λe w'=>e = .returned (.bool (p.isPrefixOf s))/\ak w w':=by
 have e1:=dN s;have e2:=dN p
 by_cases h1:p.length<=s.length
 ·have d1:decide ((p.length:Int)<=(s.length:Int))=true:=bD (by omega);have hcut:=Ef (P:=prog) (T:=9) underlying9 s p.length (p.length:Int) rfl h1
  by_cases h2:s.take p.length=p
  ·have hR:=bx ((WI p s).2 h2);have c1:((bs (s.take p.length)).toList==(bs p).toList)=true:=by rw [h2];simp
   have c2:(bs (s.take p.length)).toList=(bs p).toList:=by rw [h2]
   clear h2
   go_in
   go_wp2_with fail
   all_goals (go_ret;exact⟨aY (by rw [hR.o]),Below.refl _ _⟩)
  have hR:=bx (show p.isPrefixOf s=false by cases h:p.isPrefixOf s with | false=>rfl | true=>exact absurd ((WI p s).1 h) h2);have c2:¬ (bs (s.take p.length)).toList=(bs p).toList:=by rw [Bl,Bl];exact h2
  have c1:((bs (s.take p.length)).toList==(bs p).toList)=false:=by rw [fG];exact c2
  clear h2
  go_in
  go_wp2_with fail
  all_goals (go_ret;exact⟨aY (by rw [hR.o]),Below.refl _ _⟩)
 have d1:decide ((p.length:Int)<=(s.length:Int))=false:=dh (by omega);have hR:=bx (show p.isPrefixOf s=false by cases h:p.isPrefixOf s with | false=>rfl | true=>exact absurd (adD h) h1)
 go_in
 go_wp2_with fail
 all_goals (go_ret;exact⟨aY (by rw [hR.o]),Below.refl _ _⟩)
def Qj (s p:List UInt8):Value:=.tuple #[.string (bs (if p.isPrefixOf s=true then s.drop p.length else s)), .bool (p.isPrefixOf s)]
theorem atU (s p:List UInt8) (w:World) :
  Calls prog 285 #[.string (bs s), .string (bs p)] w λe w'=>e = .returned (Qj s p)/\ak w w':=by
 have H:=bx (alD s p w);have HC:=bx (show Qj s p = .tuple #[.string (bs (if p.isPrefixOf s=true then s.drop p.length else s)), .bool (p.isPrefixOf s)] from rfl);rw [HC.o];have HD:=bx (λh=>Gq (P:=prog) (T:=9) underlying9 s p.length (p.length:Int) rfl (adD h));have e2:=dN p;generalize p.isPrefixOf s=b at H HD ⊢
 cases b with
 | false =>
  go_in
  go_wp2_with fail;refine aT H.o λw1 hb1=>?_
  have HB1:=bx hb1;clear hb1
  go_wp2
  go_ret2
  exact⟨by simp,HB1.o⟩
 | true =>
  have hd:=HD.o rfl
  go_in
  go_wp2_with fail;refine aT H.o λw1 hb1=>?_
  have HB1:=bx hb1;clear hb1
  go_wp2
  go_ret2
  exact⟨by simp,HB1.o⟩
theorem auO (s p:List UInt8) (w:World) :
  Calls prog 226 #[.string (bs s), .string (bs p)] w λe w'=>e = .returned (Qj s p)/\ak w w':=by
 have H:=bx (atU s p w);unfold Qj at H ⊢;generalize (if p.isPrefixOf s=true then s.drop p.length else s)=r at H ⊢;generalize p.isPrefixOf s=b at H ⊢
 go_in
 go_wp2_with fail;refine aT H.o λw1 hb1=>?_
 have HB1:=bx hb1;clear hb1
 go_wp2
 go_ret2
 exact⟨rfl,HB1.o⟩
theorem amx (v:Value) (ls:List (List UInt8)) (sep:List UInt8) (w:World) (hv:cZ w v ls) (hz:ls.length<=100000) :
  Calls prog 136 #[v, .string (bs sep)] w λe w'=>e = .returned (ah (C.jD ls sep))/\ak w w':=by
 have HV:=bx hv;obtain⟨la,lc,rfl,-⟩:=hv.slice;obtain⟨N,hN⟩:∃ N,ls.length=N:=⟨_,rfl⟩
 rw [hN] at hz HV ⊢;have HN:=bx hN;clear hv hN
 go_in
 go_wp2_with fail
 go_loopw [1,10] (λsv iv wr=>∃ (k:Nat) (r:List UInt8),k<=N/\sv = .string (bs r)/\iv = ah k/\Box (C.jD ls sep=C.JJ k (C.jD (ls.drop k) r))/\Box (ak w wr)) (λ_ i _=>N-(intOf i).toNat)
 ·exact⟨0,sep,by omega,rfl,rfl,⟨by rw [C.anI,List.drop_zero]⟩,⟨Below.refl _ _⟩⟩
 obtain⟨k,r,hk,rfl,rfl,hm,hb⟩:=hrel
 by_cases hlt:k<N
 ·obtain⟨x,hx⟩:=bV ls k (by rw [HN.o];exact hlt);obtain⟨b,off,cap',ha0,ha1,ha2,pK,kQ⟩:=HV.o.get (by rintro rfl;simp at hx);rw [HN.o] at ha0 ha1;obtain⟨rfl,rfl⟩:=dQ ha0;have cx:=(hb.o.cell (p:=⟨b,off+k,none⟩) pK).trans (kQ k x hx);have HD:=bx (show ls.drop k=x::ls.drop (k+1) by
   rw [zS (by rw [HN.o];exact hlt),(dO hx).2])
  have HC:=bx (auO r x wr);have hbl:=fC pK hb.o.size;have Kz:=bx (C.ajD x (ls.drop (k+1)) r);rw [HD.o] at hm;unfold maxLen at ha2;unfold Qj at HC;clear hx ha0 kQ HD
  cases hpre:x.isPrefixOf r with
  | false =>
   have HR:=bx (show C.jD ls sep=0 by
    rw [hm.o,Kz.o,aF (λh=>by rw [h,List.isPrefixOf_iff_prefix.2 (List.prefix_refl x)] at hpre;cases hpre),aF (by rw [hpre];simp)]
    rfl)
   rw [hpre] at HC;clear hpre hm Kz;go_wp2_with fail;refine dI HC.o hb.o λw2 HB2=>?_
   clear cx hbl
   go_wp2
   go_ret
   exact⟨by rw [HR.o];rfl,HB2.o⟩
  | true =>
   rw [hpre,aG rfl] at HC;obtain⟨q,hq⟩:∃ q,q=r.drop x.length:=⟨_,rfl⟩
   rw [<- hq] at HC
   by_cases h0:q=[]
   ·have HR:=bx (show C.jD ls sep=k+1 by
     have hrx:r=x:=by
      have h1:=(WI x r).1 hpre;have h2:r.length<=x.length:=by
       have h3:=congrArg List.length (hq.symm.trans h0);rw [gy,iG] at h3;omega
      rw [gq h2] at h1;exact h1
     rw [hm.o,Kz.o,aG hrx];show 0+1+k=k+1
     omega)
    subst h0;clear hpre hm Kz hq;go_wp2_with fail;refine dI HC.o hb.o λw2 HB2=>?_
    clear cx hbl;have e1:=xH
    go_wp2
    go_ret
    exact⟨by rw [HR.o];go_num,HB2.o⟩
   have HR:=bx (show C.jD ls sep=C.JJ (k+1) (C.jD (ls.drop (k+1)) q) by
    rw [hm.o,Kz.o,aF (by rintro rfl;rw [List.drop_length] at hq;exact h0 hq),aG hpre,C.auh,hq])
   have e1:=DC h0;clear hpre hm Kz hq h0;go_wp2_with fail;refine dI HC.o hb.o λw2 HB2=>?_
   clear cx hbl
   go_wp2
   go_roundw
   ·exact⟨k+1,q,by omega,rfl,by go_num,HR,HB2⟩
   simp [intOf];omega
 have HR:=bx (show C.jD ls sep=0 by
  rw [hm.o,zF (by rw [HN.o];omega)]
  rfl)
 clear hm
 go_wp2
 go_ret
 exact⟨by rw [HR.o];rfl,hb.o⟩
section
open Go.Shelf
theorem arY (a:Option Addr) (n c:Nat) (s:ByteArray) (w:World) :
  Calls prog 73 #[.slice a n c, .string s] w λe w'=>e = .returned (.func (.func 135) #[] #[aA (w.heap.size), aA (w.heap.size+1)])/\w'=(w.alloc (.cells #[.slice a n c] 49)).alloc (.cells #[.string s] 9):=by
 go_in
 go_wp2
 go_ret
 exact⟨by simp,rfl⟩
theorem apV (n ob bl bX:Nat) (lv:Value) (cl:List (List UInt8)) (sep:List UInt8) (l:Nat) (W0 W1:World) (hob:W0.heap.size=ob) (h01:Below ob W0 W1) (hv:cZ W0 lv cl) (hz:cl.length<=100000)
  (hbl:aC W1 bl 49 #[lv]) (hbx:aC W1 bX 9 #[.string (bs sep)]) :
  QC (n+1) prog 135 #[aA bl, aA bX] (λx:Nat×Nat=>#[ah (x.1:Int), ah (x.2:Int)]) (λ_=>False) (λk=>k<ob\/k=bl\/k=bX)
   (λpre x _=>∃ rest,C.qy cl sep cl.length 0=pre++x::rest) (λys _=>ys=C.qy cl sep cl.length 0) l W1:=by
 intro J Jx hJ hJx hY h0;have HY:=bx hY;have HJ:=bx hJ;have Mc:=bx (h0 W1.heap.size aU);have HM:=bx (λ(a:Nat) (v:Value) W (_h:Below ob W0 W) (hv:cZ W v (cl.drop a))=>amx v (cl.drop a) sep W hv (by rw [gy];omega));obtain⟨la,lc,rfl,-⟩:=hv.slice;obtain⟨N,hN⟩:∃ N,cl.length=N:=⟨_,rfl⟩
 have HN:=bx hN;rw [hN] at hbl hv HY hz ⊢;have cu:=bx hbl;have jo:=bx hbx;have HW:=bx h01;have Bd:=bx hob;have HVV:=bx hv;have hVB:=bx (λW (h:Below ob W0 W)=>cZ.below (w':=W) hv (by subst hob;exact h));clear hY h0 hJ hJx hv hbl hbx hN h01 hob;refine callsIn_of_wp func135 rfl trivial ?_;simp only [ntmps135,qH,dY,iG,Nat.reduceAdd,Nat.reduceSub,rE,qW,ou,qQ,iJ,jd]
 gi_wp2
 refine wpIn_wide.2 (wp_scope_straight ((wpIn_wide (n:=n+1)).1 ?_))
 gi_wp2
 refine wpIn_label ?_
 gi_wp2
 gi_loopw [4] (λav wr=>∃ a:Nat,a<=N/\av = ah a/\Box (W1.heap.size<=wr.heap.size)/\Box (Below ob W0 wr)/\Box (aC wr bl 49 #[.slice la N lc])/\Box (aC wr bX 9 #[.string (bs sep)])/\Box (∃ pre f,N<=a+f/\C.qy cl sep N 0=pre++C.qy cl sep f a/\J W1.heap.size pre wr)) (λav _=>N-(intOf av).toNat)
 ·exact⟨0,by omega,rfl,⟨bK _⟩,HW,cu,jo,⟨[],N,by omega,rfl,Mc.o⟩⟩
 obtain⟨a,ha,rfl,hsz,hbr,hbl,hbx,hpj⟩:=hrel;obtain⟨WO,rfl⟩:∃ W,W=wr:=⟨_,rfl⟩
 have c0:WO.cell? ⟨bl,0,none⟩=some (.slice la N lc):=(hbl.o.cell 0).trans rfl
 by_cases hlt:a<N
 ·obtain⟨Y,hsl,H6⟩:=agZ la N lc a cl ha HN.o hz (hVB.o WO hbr.o);have OV:=bx (λW (h:Below ob W0 W)=>H6 W (hVB.o W h));have d0:decide ((a:Int)<(N:Int))=true:=bD (by omega);clear H6
  gi_wp2
  refine wpIn_wide.2 ?_;have wQ:=bx (λW (h:ak WO W)=>show ay W bl 0=some (.slice la N lc)/\ay W bX 0=some (.string (bs sep)) from⟨((hbl.o.below h hbl.o.lt).cell 0).trans rfl,((hbx.o.below h hbx.o.lt).cell 0).trans rfl⟩);have dH:=bx (wQ.o WO.drew (jg WO 1));have aX:=bx (show ak WO WO.drew from jg WO 1);refine jl 5 (λW'=>ay W' bl 0=some (.slice la N lc)/\ay W' bX 0=some (.string (bs sep))) (by kernel_rfl) ?_;clear c0;generalize WO.drew=WR at dH aX ⊢;refine jB [0,1,2,3] ?_
  iterate 4 (refine jA ?_ rfl dH.o ?_ ?_;rotate_left;·rintro w ⟨q1,q2⟩;go_simp;try with_reducible rfl)
  refine jr ?_;have dL:=bx (show Below ob W0 WR from hbr.o.trans (aX.o.mono (by have:=hbr.o.size;have:=Bd.o;omega)));refine kP 4 rfl λKK au=>?_
  go_simp;refine dI (HM.o a Y WR dL.o (OV.o WR dL.o)) aX.o λw5 bU=>?_
  refine au.out _ _ (λ_=>wQ.o _ bU.o) ?_;clear au KK;refine kP 5 rfl λKK au=>?_
  go_simp;refine au.out _ _ (λh=>by cases h) ?_;clear au KK;refine kD ?_ _;obtain⟨m,hm⟩:∃ m,m=C.jD (cl.drop a) sep:=⟨_,rfl⟩
  have JX:=bx hm;have hml:=C.OD (cl.drop a) sep;rw [gy,HN.o,<- hm] at hml;rw [<- hm];obtain⟨pre,f,hf,hpre,hj⟩:=hpj.o;obtain⟨f',rfl⟩:∃ f',f=f'+1:=⟨f-1,by omega⟩
  have hst:C.qy cl sep (f'+1) a=if 0<m then (a,a+m)::C.qy cl sep f' (a+m) else C.qy cl sep f' (a+1):=by
   show (if cl.length<=a then _ else _)=_
   rw [aF (by rw [HN.o];omega),<- hm]
  have bG:=bx (show W1.heap.size<=w5.heap.size from bP hsz.o bU.o.size);have WZ:=bx (show Below ob W0 w5 from hbr.o.trans (bU.o.mono (by have:=hbr.o.size;have:=Bd.o;omega)));have KE:=hbl.ub bU.o;have AY:=hbx.ub bU.o;clear hm
  by_cases hpos:0<m
  ·rw [aG hpos] at hst;rw [hst] at hpre;have hy0:=HY.o W1.heap.size pre (a,a+m) WO w5 aU bG.o hj (Turns.of_below bU.o) ⟨_,hpre⟩;have NJ:=bx hpre;simp only at hy0;rw [show ((a+m:Nat):Int)=(a:Int)+(m:Int) from by omega] at hy0;obtain⟨fn,tmps,assign,body,hy,lT⟩:=hy0;have rV:=bx lT;have d1:decide ((0:Int)<(m:Int))=true:=bD (by omega);have hmax:max (m:Int) 1=(m:Int):=by omega
   clear lT hst hpre hj
   gi_wp2
   refine rV.o.mono ?_;rintro e W3 (⟨rfl,hj3,ht3⟩ | ⟨rfl,hx3⟩)
   ·have sK:=bx hj3;have HB3:=bx (show Below ob W0 W3 from WZ.o.trans (ht3.below (by have:=WZ.o.size;have:=Bd.o;omega) (λq hq=>Nat.le_of_not_lt (λhlt=>hq (.inl (.inl hlt))))));have zI:=bx (ht3.blk KE.o (λhn=>hn (.inl (.inr (.inl rfl)))));have pG:=bx (ht3.blk AY.o (λhn=>hn (.inl (.inr (.inr rfl)))));have aS:=bx (show W1.heap.size<=W3.heap.size from bP bG.o ht3.size);clear hj3 ht3 hy
    gi_wp2
    go_roundw
    ·exact⟨a+m,by omega,by go_num,aS,HB3,zI,pG,⟨pre++[(a,a+m)],f',by omega,by rw [NJ.o,pz];rfl,sK.o⟩⟩
    simp [intOf];omega
   have pG:=bx hx3;clear hx3 hy
   gi_wp2
   rw [Exit.noGoto_normal]
   go_end0
   exact⟨⟨_,rfl⟩, .inr ⟨_,_,pG.o⟩⟩
  obtain rfl:m=0:=by omega
  rw [aF (by omega)] at hst;rw [hst] at hpre;have NJ:=bx hpre;have HJ5:=bx (HJ.o W1.heap.size pre WO w5 hj (Turns.of_below bU.o));have hmax:max (0:Int) 1=1:=by decide
  clear hst hpre hj
  gi_wp2
  refine⟨λ_ _=>trivial,?_⟩
  gi_wp2
  go_roundw
  ·exact⟨a+1,by omega,by go_num,bG,WZ,KE,AY,⟨pre,f',by omega,NJ.o,HJ5.o⟩⟩
  simp [intOf];omega
 obtain rfl:a=N:=by omega
 obtain⟨pre,f,hf,hpre,hj⟩:=hpj.o;have hend:C.qy cl sep f a=[]:=by
  cases f with
  | zero=>rfl
  | succ f =>
   show (if cl.length<=a then _ else _)=_
   rw [aG (by rw [HN.o];omega)]
 rw [hend,oG] at hpre;have NJ:=bx hpre;have HJE:=bx hj;have d0:decide ((a:Int)<(a:Int))=false:=dh (by omega);clear hpre hend hj
 gi_wp2
 rw [Exit.noGoto_normal]
 go_end0
 exact⟨⟨_,rfl⟩, .inl ⟨_,_,NJ.o.symm,HJE.o⟩⟩
namespace C
theorem akA {k:Kt} {s e:List UInt8} (h:bH k=true) (hz:s.length<=600) (he:e.length<=60) (h1:e≠[]):mX k s e=mY (bf k.c s) (M.fix e) (bf k.c s).length 0 0/\qM k s e=0:=by
 have h0:qM k s e=0:=by unfold qM;rw [aG (uV h hz he),aF h1]
 exact⟨by unfold mX;rw [aG h0],h0⟩
end C
def xR (ob:Nat) (W0:World) (v:Value) (l:List (List UInt8)) (a:Nat):List Pc:=Pc.blk (ob+1) 3 #[ah a]::uF ob W0 v l
theorem ahw {ob:Nat} {W0 W W':World} {v:Value} {l:List (List UInt8)} {a:Nat} {own:Nat->Prop} (h:Sep (xR ob W0 v l a) W) (ht:Turns own W W') (h0:¬ own (ob+1)) (h1:¬ own ob) (h2:∀ g,v.ownBlock=some g->¬ own g) (h3:∀ k,k<ob->¬ own k):Sep (xR ob W0 v l a) W':=h.keep ht (λp hp k hk=>by
 unfold xR uF nV at hp;simp only [fB,qV,or_false] at hp
 rcases hp with rfl | rfl | rfl | rfl
 ·rw [show k=ob+1 from hk];exact h0
 ·rw [show k=ob from hk];exact h1
 ·exact h2 k hk
 exact h3 k hk)
theorem an8 {ob n:Nat} {W0 W W':World} {v v':Value} {l:List (List UInt8)} {xs:List Value} {a:Nat} {own:Nat->Prop} (h:Sep ((xR ob W0 v l a).set 2 (Pc.row ob 9 1 v' n xs)) W) (ht:Turns own W W') (h0:¬ own (ob+1)) (h1:¬ own ob) (h2:∀ g,v'.ownBlock=some g->¬ own g) (h3:∀ k,k<ob->¬ own k):Sep ((xR ob W0 v l a).set 2 (Pc.row ob 9 1 v' n xs)) W':=h.keep ht (λp hp k hk=>by
 unfold xR uF nV at hp;simp only [List.set_cons_succ,List.set_cons_zero,fB,qV,or_false] at hp
 rcases hp with rfl | rfl | rfl | rfl
 ·rw [show k=ob+1 from hk];exact h0
 ·rw [show k=ob from hk];exact h1
 ·exact h2 k hk
 exact h3 k hk)
theorem abq (A:Nat->Addr) (B:Nat) (v:Value) (k:C.Kt) (s e:ByteArray) (w:World) (hv:dS w v k) (hs:gY k) (hz:s.size<=260) (hze:e.size<=60) (hS:Sw A B w) (hb:C.bH k=true) (he0:¬ (e.data.toList=[])) :
  Calls prog 26 #[v, .string s, .string e] w λen w'=>(∃ v',en = .returned (.tuple #[v', ah (C.qM k s.data.toList e.data.toList)])/\cZ w' v' (C.mX k s.data.toList e.data.toList))/\ak w w':=by
 obtain⟨kz,V,rfl,hkz,HV,HB0,aI,dM,dK⟩:=oL hv hS;have HOW:=bx (HB0.o.trans ((dA V (.cells #[.string e] 9)).mono HB0.o.size));have fH:=bx (λ(hb:C.bH k=true) (hz:s.size<=600) (hp:e.size<=60)=>uQ A B _ (.slice (some ⟨V.heap.size,0,none⟩) 1 1) k s [e.data.toList] _ (dM.o _ HOW.o) hs (dK.o _ HOW.o) hb (xW V e 9) hz (by simp) (λp hq=>by rw [fU.1 hq,<- size_eq];exact hp));have HO:=bx (fH.o hb (by omega) hze);have HR:=bx (C.akA (s:=s.data.toList) hb (by rw [<- size_eq];omega) (by rw [<- size_eq];omega) he0);have e1:e.toList.isEmpty=false:=by rw [MV];cases h:e.data.toList with | nil=>exact absurd h he0 | cons _ _=>rfl
 have pX:=bx (λg W (h:ak w W) (hg:mW W g k)=>Qp A B g k s W hg hs hb (by omega) (hS.below h));have qF:=bx (λW (h:ak w W)=>show Calls prog 33 #[.string e] W λe' w'=>e' = .returned (.string (bs (M.fix e.data.toList)))/\ak W w' from wZ A B e W (by omega) (hS.below h).e (hS.below h).le);have hcl:=C.H8 (s:=s.data.toList) hb (by rw [<- size_eq];omega);have Dp:=bx (λi j=>show (((C.bf k.c s.data.toList).take i).drop j).flatten.length<=1800 by
  have h1:=hcl.2 i;unfold C.headA at h1;have h2:=congrArg (λx=>x.flatten.length) (oN j ((C.bf k.c s.data.toList).take i));simp only [rH,bC] at h2;rw [<- size_eq] at h1;omega)
 have wH:=bx (C.Yw (C.bf k.c s.data.toList) (M.fix e.data.toList) (C.bf k.c s.data.toList).length 0 0);have nX:=bx (C.Wh (C.bf k.c s.data.toList) (M.fix e.data.toList) (C.bf k.c s.data.toList).length 0 0);have uf:=bx (C.aaJ (C.bf k.c s.data.toList) (M.fix e.data.toList) (C.bf k.c s.data.toList).length 0 0 (nK _));have zo:=bx (C.Zi (C.bf k.c s.data.toList) (M.fix e.data.toList) (C.bf k.c s.data.toList).length 0);rw [HR.o.1,HR.o.2,wH.o];have aaD:=hcl.1;generalize C.bf k.c s.data.toList=cl at pX Dp nX uf zo aaD ⊢;generalize M.fix e.data.toList=fe at qF nX uf zo ⊢;obtain⟨hits,Vj⟩:∃ h,h=C.qy cl fe cl.length 0:=⟨_,rfl⟩
 have QZ:=bx Vj;rw [<- Vj] at nX uf zo ⊢;obtain⟨N,hN⟩:∃ N,cl.length=N:=⟨_,rfl⟩
 have HN:=bx hN;rw [hN] at aaD zo QZ;clear fH hb hs hS hz dM hcl hN wH he0 Vj HR;have hld:=aI.o V aZ;refine(callsIn_wide (n:=9)).1 (callsIn_of_wp_marks func26 rfl trivial (wpIn_wide.2 ?_));simp only [ntmps26,qH,dY,iG,Nat.reduceAdd,Nat.reduceSub,rE,qW,ou,qQ,iJ,jd]
 go_upto_region 1 with(fail)
 rw [<- HV.o];go_wp2_with (refine eF rfl _ rfl _ rfl hld hkz ?_)
 refine HO.o.mono ?_;rintro en w1 ⟨⟨g,rfl,hwk,-⟩,hb1⟩;have HB1:=aJ HOW hb1;have kF:=bx hwk;clear hb1 hwk hld;go_wp2_with fail;refine(pX.o g w1 HB1.o kF.o).mono ?_;rintro en w2 ⟨⟨lv,rfl,hlv,-⟩,hb2⟩;have HB2:=aJ HB1 hb2;have qG:=bx hlv;obtain⟨la,lc,rfl,-⟩:=hlv.slice;rw [HN.o] at qG ⊢;clear hb2 hlv pX kF;obtain⟨w3,hw3⟩:∃ W,W=w2.alloc (.cells #[.slice la N lc] 49):=⟨_,rfl⟩
 have hsz3:w3.heap.size=w2.heap.size+1:=by rw [hw3];simp
 have mJ:=bx (aK hw3);have hb3:ak w2 w3:=by rw [hw3];exact dA _ _
 have HB3:=aJ HB2 hb3;have sV:=bx (qG.o.below hb3);obtain⟨w4,hw4⟩:∃ W,W=(w3.alloc (.cells #[aj] 49)).alloc (.cells #[ah 0] 3):=⟨_,rfl⟩
 have dJ:=bx (show Sep (xR w3.heap.size w3 (aj) [] 0) w4 by
  rw [hw4];have h:=((Sep.start w3).eu 49 #[aj]).kV w3.heap.size 1 9;have h2:=(Sep.perm (List.Perm.swap _ _ _) h).eu 3 #[ah 0];rw [World.size_alloc] at h2;exact h2)
 have afg:w4.heap.size=w3.heap.size+2:=by rw [hw4];simp
 have hb4:ak w3 w4:=dJ.o.bel (n:=w3.heap.size) (W0:=w3) (by simp [xR,uF,nV]);have atW:=bx hb4;have HB4:=aJ HB3 hb4;have wQ:=bx (λW (h:ak w4 W)=>show ay W w2.heap.size 0=some (.slice la N lc) from(((mJ.o.below hb4 mJ.o.lt).below h (mJ.o.below hb4 mJ.o.lt).lt).cell 0).trans rfl);have HZ:=bx (show w3.heap.size=w2.heap.size+1/\w4.heap.size=w3.heap.size+2 from⟨hsz3,afg⟩);have V8:=bx (show (((w2.alloc (.cells #[.slice la N lc] 49)).alloc (.cells #[aj] 49)).alloc (.cells #[ah 0] 3))=w4 by rw [hw4,hw3]);clear hw3 hw4 hb3 hb4 hsz3 afg;go_wp2_with fail;rw [V8.o];refine jl 3 (λW'=>ay W' w2.heap.size 0=some (.slice la N lc)) (by kernel_rfl) ?_;have dH:=bx (wQ.o w4.drew (jg w4 1));have aX:=bx (show ak w4 w4.drew from jg w4 1);generalize w4.drew=WR at dH aX ⊢;refine kS 0 ?_ rfl dH.o ?_ ?_;rotate_left
 ·intro w q1;go_simp;try with_reducible rfl
 refine kS 1 ?_ rfl dH.o ?_ ?_;rotate_left
 ·intro w q1;go_simp;try with_reducible rfl
 have dL:=bx (bt HB4.o aX.o);refine kP 2 rfl λKK au=>?_
 go_simp;refine dI (qF.o WR dL.o) aX.o λw5 LJ=>?_
 refine au.out _ _ (λ_=>wQ.o _ LJ.o) ?_;clear au KK;refine kP 3 rfl λKK au=>?_
 go_simp;refine aP (arY _ _ _ _ _) ?_;refine au.out _ _ (λh=>by cases h) ?_;clear au KK;refine kD ?_ _;have bG:=bx (dJ.o.below LJ.o);have KE:=bx (((aC.new w5 49 #[.slice la N lc]).alloc (.cells #[.string (bs fe)] 9)));have AY:=bx (show aC ((w5.alloc (.cells #[.slice la N lc] 49)).alloc (.cells #[.string (bs fe)] 9)) (w5.heap.size+1) 9 #[.string (bs fe)] by
  have h:=aC.new (w5.alloc (.cells #[.slice la N lc] 49)) 9 #[.string (bs fe)];rw [World.size_alloc] at h;exact h)
 have Wn:=bx (show ak w5 ((w5.alloc (.cells #[.slice la N lc] 49)).alloc (.cells #[.string (bs fe)] 9)) from(dA w5 _).trans ((dA (w5.alloc _) _).mono (by simp)));have rU:((w5.alloc (.cells #[.slice la N lc] 49)).alloc (.cells #[.string (bs fe)] 9)).heap.size=w5.heap.size+2:=by simp
 generalize (w5.alloc (.cells #[.slice la N lc] 49)).alloc (.cells #[.string (bs fe)] 9)=wL at KE AY Wn rU ⊢;have dU:=bx rU;have HSL:=bx (bG.o.below Wn.o);have awy:=bx (bt LJ.o Wn.o);have D9:=bx (bt atW.o awy.o);have h45:=LJ.o.size;obtain⟨hz3,hz4⟩:=HZ.o;go_wp2_with fail;rw [<- hz3];have ayF:w2.heap.size+1<=w3.heap.size:=by omega
 have ay5:w3.heap.size+2<=w5.heap.size:=by omega
 clear hz3 hz4 h45;refine(wpIn_wide (n:=9)).1 (Nz (α:=Nat×Nat) (gf:=135) (lb:=#[aA (w5.heap.size), aA (w5.heap.size+1)]) rfl (enters_of func135 (by kernel_rfl) rfl)
  (encs:=λx:Nat×Nat=>#[ah (x.1:Int), ah (x.2:Int)]) (own:=λ_=>False) (keep:=λk=>k<w3.heap.size\/k=w5.heap.size\/k=w5.heap.size+1) (ok:=λpre x _=>∃ rest,hits=pre++x::rest) (S:=λys _=>ys=hits)
  (λk hk=>by rcases hk with h | h | h | h;exact h.elim;omega;omega;omega)
  (λW1 ht=>by
   have hwl:=ht.below aU (λ_ h=>h.elim);have h:=apV 7 w3.heap.size w5.heap.size (w5.heap.size+1) (.slice la N lc) cl fe (wL.heap.size+1) w3 W1 rfl (bt D9.o hwl) sV.o (by rw [HN.o];omega) (KE.o.below hwl KE.o.lt) (AY.o.below hwl AY.o.lt);rw [HN.o,<- QZ.o] at h;exact h)
  (λ_=>rfl)
  (λN1 pre W=>∃ v,Sep (xR w3.heap.size w3 v (C.BU cl pre 0) (C.BN pre 0)) W/\(∀ g,v.ownBlock=some g->N1<=g)/\wL.heap.size+2<=N1)
  (λ_ _ _ _=>False) ?hI (λ_ _ _ _ _ h _=>h) (λ_ _ _ _ h _=>h) (λN1 h=>⟨aj,HSL.o,λg hg=>(by cases hg),h⟩)
  (λx a1 W=>a1={ tmps:=#[.agg kz, .string s, .string e, aA (w.heap.size),undef,undef, aj, ah 0, aA g, .nilIface, aA (w2.heap.size), aA (w3.heap.size), aA (w3.heap.size+1), ah (x.1:Int), ah (x.2:Int), .tuple #[aA g, .nilIface], .agg kz, .string s, .string e, .slice (some ⟨V.heap.size,0,none⟩) 1 1, .tuple #[aA g, .nilIface], aA g, .nilIface, .nilIface, .bool true, .bool true, .string e, .bool false, .bool false,undef,undef, .nilIface, .bool false,undef,undef, aA g, .string s, .slice la N lc, .slice la N lc, .string e, .string (bs fe), .func (.func 135) #[] #[aA (w5.heap.size), aA (w5.heap.size+1)], ah (x.1:Int), ah (x.2:Int),undef,undef,undef,undef,undef,undef,undef,undef,undef,undef,undef,undef,undef,undef,undef,undef],defers:=[] })
  (λ_ _ _ _ h _=>h) ?assign ?body ?done (λ_ _ _ _ _ h _=>h.elim) (λ_ _ _ h _=>h))
 case hI =>
  rintro N1 pre W W' ⟨v,h1,h2,h3⟩ ht;exact⟨v,ahw h1 ht (by rintro(h | h);exact h;omega) (by rintro(h | h);exact h;omega) (λg hg=>by have:=h2 g hg;rintro(h | h);exact h;omega) (λk hk=>by rintro(h | h);exact h;omega),h2,h3⟩
 case assign =>
  intro x W K hW hK
  gi_wp2
  exact hK _ _ (Turns.refl _ _) rfl
 case body =>
  rintro N1 pre ⟨x,y⟩ a1 W0 W N2 hN1 Ld hW0 ⟨v,h1,h2,h3⟩ ht hNW ⟨rest,hok⟩ rfl;have hts:=ht.size;obtain⟨o1,o2,o3⟩:=nX.o pre (x,y) rest (bK 0) hok;simp only at o1 o2 o3;rw [HN.o] at o3;have jq:=bx (show pre.length<=1000 by have h:=congrArg List.length hok;rw [bC,dY] at h;have:=zo.o;omega);have HIS:=bx (C.ahJ cl x y pre 0);have Jt:=bx (C.ae0 x y pre 0);have zq:=bx (C.XJ cl pre 0);obtain⟨lp,hlp⟩:∃ n,n=C.BN pre 0:=⟨_,rfl⟩
  obtain⟨ip,Jr⟩:∃ l,l=C.BU cl pre 0:=⟨_,rfl⟩
  rw [<- hlp] at h1 o1 HIS;rw [<- Jr] at h1 HIS zq;obtain⟨Y,hsl,H6⟩:=abO la N lc lp x cl o1 (by omega) HN.o (by omega) sV.o;have hlt1:∀ g,v.ownBlock=some g->g<W0.heap.size:=λg hg=>((h1.row 2 rfl).lt g hg).2
  have oK:=bx (ahw h1 ht (by rintro(h | h);exact h;omega) (by rintro(h | h);exact h;omega) (λg hg=>by have:=h2 g hg;rintro(h | h);exact h;omega) (λk hk=>by rintro(h | h);exact h;omega));have HH:=bx (λg hg=>show N1<=g/\g<W0.heap.size from⟨h2 g hg,hlt1 g hg⟩);have bM:=bx (show ak w3 W from oK.o.bel (n:=w3.heap.size) (W0:=w3) (by simp [xR,uF,nV]));have wQ:=bx (λW' (h:ak W W')=>show ay W' w3.heap.size 0=some v/\ay W' w2.heap.size 0=some (.slice la N lc)/\ay W' (w3.heap.size+1) 0=some (ah (lp:Int)) from⟨(((oK.o.below h).blk 1 rfl).cell 0).trans rfl,(((mJ.o.below bM.o mJ.o.lt).below h (mJ.o.below bM.o mJ.o.lt).lt).cell 0).trans rfl,(((oK.o.below h).blk 0 rfl).cell 0).trans rfl⟩);have OV:=bx (λW' (h:ak W W')=>H6 W' (sV.o.below (bt bM.o h)));have G5:=bx (show w3.heap.size<=W.heap.size from bM.o.size);have HOT:=bx ht;clear h1 h2 ht hok hlt1 H6 hlp Jr
  gi_wp2
  refine aqk 8 (λW'=>ay W' w3.heap.size 0=some v/\ay W' w2.heap.size 0=some (.slice la N lc)/\ay W' (w3.heap.size+1) 0=some (ah (lp:Int))) (by kernel_rfl) (by kernel_rfl) ?hno ?_
  case hno=>rintro⟨a,w,h⟩;exact h
  have dH:=bx (wQ.o W.drew (jg W 1));have aX:=bx (show ak W W.drew from jg W 1);generalize W.drew=WR at dH aX ⊢;refine jB [0,1,2,3,4] ?_
  iterate 5 (refine jA ?_ rfl dH.o ?_ ?_;rotate_left;·rintro w ⟨q1,q2,q3⟩;go_simp;try with_reducible rfl)
  refine jr ?_;have HJ:=bx (Eo Y _ WR (OV.o WR aX.o) (bP (Dp.o x lp) (by decide)) (by rw [gy,dw,HN.o];omega));refine kP 5 rfl λKK au=>?_
  go_simp;refine dI HJ.o aX.o λw7 bW=>?_
  have cO:=bx (oK.o.below bW.o);refine au.out _ _ (λ_=>wQ.o _ bW.o) ?_;clear au KK;refine kP 6 rfl λKK au=>?_
  go_simp;refine au.out _ _ (λ_=>wQ.o _ (bW.o.trans ((dA w7 _).mono bW.o.size))) ?_;clear au KK;refine kP 7 rfl λKK au=>?_
  refine agT (u:=gW ((cl.take x).drop lp).flatten) rfl _ _ 49 rfl Em cO.o 2 rfl (by kernel_rfl) (by kernel_rfl) rfl (by have:=jq.o;have:=zq.o;omega) (by omega) (bP G5.o bW.o.size) ?_;rintro v8 w8 fZ ⟨g8,q8,rfl,-,-⟩ Nv Pm;have fM:=bx fZ;have Hq:=bx Nv;have Xg:=bx Pm;have abI:=fZ.bel (n:=w3.heap.size) (W0:=w3) (by simp [xR,uF,nV]);have c8:w8.cell? ⟨w3.heap.size,0,none⟩=some v:=((fZ.blk 1 rfl).cell 0).trans rfl;have f8:=(fZ.blk 1 rfl).frozen 0;have l8:=(fZ.blk 1 rfl).lt;have HF8:=bx (show w8.cell? ⟨w3.heap.size,0,none⟩=some v/\w8.cell? ⟨w2.heap.size,0,none⟩=some (.slice la N lc)/\w8.cell? ⟨w3.heap.size+1,0,none⟩=some (ah (lp:Int)) from⟨c8,((mJ.o.below abI mJ.o.lt).cell 0).trans rfl,((fZ.blk 0 rfl).cell 0).trans rfl⟩);clear fZ Nv Pm abI;refine au.out _ _ (λ_=>HF8.o) ?_;clear au KK;refine kP 8 rfl λKK au=>?_
  go_simp;refine au.out _ _ (λh=>by cases h) ?_;clear au KK;refine kD ?_ _;have gV:=bx (fM.o.set 1 rfl 0 (.slice (some ⟨g8,0,none⟩) (ip.length+1) q8));have HT9:=bx (Turns.setCell (own:=λq=>q=w3.heap.size) w8 (p:=⟨w3.heap.size,0,none⟩) rfl (.slice (some ⟨g8,0,none⟩) (ip.length+1) q8));clear c8 f8 l8 hsl;generalize w8.setCell ⟨w3.heap.size,0,none⟩ (.slice (some ⟨g8,0,none⟩) (ip.length+1) q8)=w9 at gV HT9 ⊢;have c9:w9.cell? ⟨w3.heap.size+1,0,none⟩=some (ah (lp:Int)):=((gV.o.blk 0 rfl).cell 0).trans rfl;have f9:=(gV.o.blk 0 rfl).frozen 0;have l9:=(gV.o.blk 0 rfl).lt
  gi_wp2
  have hT:=(Turns.of_below (own:=λk=>v.ownBlock=some k\/k=w3.heap.size\/k=w3.heap.size+1) bW.o).trans ((Hq.o.mono (λk h=>Or.inl h)).trans ((HT9.o.mono (λk h=>Or.inr (Or.inl h))).trans ((Turns.setCell (own:=λq=>q=w3.heap.size+1) w9 (p:=⟨w3.heap.size+1,0,none⟩) rfl (ah (y:Int))).mono (λk h=>Or.inr (Or.inr h)))));refine⟨hT.mono (λk hk hh=>?_), .slice (some ⟨g8,0,none⟩) (ip.length+1) q8,?_,λg hg=>?_,h3⟩
  ·rcases hk with hk | hk | hk
   ·have h9:=HH.o k hk
    rcases hh with((h | h | h) | h | h) | h | h <;> omega
   ·subst hk
    rcases hh with((h | h | h) | h | h) | h | h <;> omega
   subst hk
   rcases hh with((h | h | h) | h | h) | h | h <;> omega
  ·have h:=gV.o.set 0 rfl 0 (ah (y:Int));rw [HIS.o,Jt.o];unfold xR uF nV at h ⊢;rw [bC,gX];exact h
  rcases Xg.o with h | h
  ·rw [h] at hg;exact(HH.o g hg).1
  rw [h] at hg;injection hg with hg;have:=bW.o.size;omega
 case done =>
  intro N1 xs W hW hS ⟨v,h1,h2,h3⟩ hD;subst hS;obtain⟨lp,hlp⟩:∃ n,n=C.BN xs 0:=⟨_,rfl⟩
  obtain⟨ip,Jr⟩:∃ l,l=C.BU cl xs 0:=⟨_,rfl⟩
  have zq:=bx (show ip.length<=1000 by rw [Jr,C.XJ];have:=zo.o;omega);have yL:=bx (show lp=C.BN xs 0/\ip=C.BU cl xs 0 from⟨hlp,Jr⟩);rw [<- hlp] at h1 uf;rw [<- Jr] at h1;have oK:=bx h1;have H2:=bx h2;have HD:=bx hD;obtain⟨Y,hsl,H6⟩:=agZ la N lc lp cl (by have:=uf.o;rw [HN.o] at this;exact this) HN.o (by omega) sV.o;have bM:=bx (show ak w3 W from h1.bel (n:=w3.heap.size) (W0:=w3) (by simp [xR,uF,nV]));have wQ:=bx (λW' (h:ak W W')=>show ay W' w3.heap.size 0=some v/\ay W' w2.heap.size 0=some (.slice la N lc)/\ay W' (w3.heap.size+1) 0=some (ah (lp:Int)) from⟨(((oK.o.below h).blk 1 rfl).cell 0).trans rfl,(((mJ.o.below bM.o mJ.o.lt).below h (mJ.o.below bM.o mJ.o.lt).lt).cell 0).trans rfl,(((oK.o.below h).blk 0 rfl).cell 0).trans rfl⟩);have OV:=bx (λW' (h:ak W W')=>H6 W' (sV.o.below (bt bM.o h)));have G5:=bx (show w3.heap.size<=W.heap.size from bM.o.size);clear h1 h2 hD H6 hlp Jr;go_wp2_with fail;refine jl 6 (λW'=>ay W' w3.heap.size 0=some v/\ay W' w2.heap.size 0=some (.slice la N lc)/\ay W' (w3.heap.size+1) 0=some (ah (lp:Int))) (by kernel_rfl) ?_;have dH:=bx (wQ.o W.drew (jg W 1));have aX:=bx (show ak W W.drew from jg W 1);generalize W.drew=WR at dH aX ⊢;refine jB [0,1,2,3] ?_
  iterate 4 (refine jA ?_ rfl dH.o ?_ ?_;rotate_left;·rintro w ⟨q1,q2,q3⟩;go_simp;try with_reducible rfl)
  refine jr ?_;have ase:=bx (show (cl.drop lp).flatten.length<=1800 by have h:=Dp.o cl.length lp;rwa [mQ] at h);have HJ:=bx (Eo Y _ WR (OV.o WR aX.o) (bP ase.o (by decide)) (by rw [gy,HN.o];omega));refine kP 4 rfl λKK au=>?_
  go_simp;refine dI HJ.o aX.o λw7 bW=>?_
  have cO:=bx (oK.o.below bW.o);refine au.out _ _ (λ_=>wQ.o _ bW.o) ?_;clear au KK;refine kP 5 rfl λKK au=>?_
  go_simp;refine au.out _ _ (λ_=>wQ.o _ (bW.o.trans ((dA w7 _).mono bW.o.size))) ?_;clear au KK;refine kP 6 rfl λKK au=>?_
  refine agT (u:=gW (cl.drop lp).flatten) rfl _ _ 49 rfl Em cO.o 2 rfl (by kernel_rfl) (by kernel_rfl) rfl (by have:=zq.o;omega) (by omega) (bP G5.o bW.o.size) ?_;rintro v8 w8 fZ ⟨g8,q8,rfl,-,-⟩ Nv Pm;have fM:=bx fZ;have Hq:=bx Nv;have Xg:=bx Pm;clear fZ Nv Pm hsl;refine au.out _ _ (λh=>by cases h) ?_;clear au KK;refine kP 7 rfl λKK au=>?_
  go_simp;refine au.out _ _ (λh=>by cases h) ?_;clear au KK;refine kP 8 rfl λKK au=>?_
  go_simp;refine au.out _ _ (λh=>by cases h) ?_;clear au KK;refine kD ?_ _;have h7:=bW.o.size;have PY:w8.heap[wL.heap.size]?=some (.deferred (some [])):=(Hq.o.block _ (by omega) (λhn=>by have:=H2.o _ hn;omega)).trans ((bW.o.block _ (by omega)).trans HD.o);have HD8:=bx PY;clear PY;go_wp2_with fail;have PY:=HD8.o;rw [dU.o] at PY;refine⟨by simp, .inl ⟨_,_,rfl,run_takeDeferred PY,?_⟩⟩;refine⟨_,results_tmp2 rfl _ _ _,?_⟩;have CO:Turns (λk=>k=w5.heap.size+2) w8 (w8.putObj (w5.heap.size+2) (.deferred none)):=Turns.putObj (own:=λk=>k=w5.heap.size+2) w8 rfl (.deferred none);have mF:=an8 fM.o CO (by omega) (by omega) (λg hg=>by
   rcases Xg.o with h | h
   ·rw [h] at hg;have:=H2.o g hg;omega
   rw [h] at hg;injection hg with hg;omega) (λk hk=>by omega)
  rw [<- yL.o.1,<- yL.o.2];exact⟨⟨_,rfl,cZ.iy (xs:=ip++[(cl.drop lp).flatten]) (by rw [gX];exact mF.row 2 rfl) (by simp)⟩,HB3.o.trans ((mF.bel (n:=w3.heap.size) (W0:=w3) (by simp [xR,uF,nV])).mono HB3.o.size)⟩
end
namespace C
theorem auF {l:List (List UInt8)} {x:List UInt8} (h:x∈l):x.length<=l.flatten.length:=by
 induction l with
 | nil=>cases h
 | cons y t ih =>
  rw [pY,bC]
  rcases fB.1 h with e | e
  ·rw [e];omega
  have:=ih e;omega
theorem adG {k:Kt} {e:List UInt8} (hb:bH k=true) (hz:e.length<=60):(aO k.c e).length<=60/\∀ y∈aO k.c e,(U.textOf y).length<=180:=by
 have hte:=EC (s:=e) hb (by omega);have hfl:=qJ e;refine⟨?_,λy hy=>?_⟩
 ·rw [Gt];have h1:=(qg k.c e).2.len;have h2:=uJ e;omega
 have h1:=DT hte;rw [uO hte] at h1;have h2:=auF (List.mem_map_of_mem (f:=U.textOf) hy);rw [h1] at h2;omega
end C
structure Fz (k:C.Kt) (e:List UInt8) (p i f:Nat) (acc:List UInt8) (c0 c:Int):Prop where
 ans:C.gu k e c0=acc++C.wJ (C.kg k 2) (C.aO k.c e) f i c
 run:0<c->C.todo p (C.aO k.c e).length i c<f
 lim:0<c->i+C.todo p (C.aO k.c e).length i c<=30000
 len:acc.length<=i*180
 top:i<=30001
 le:c<=c0
theorem aqD {k:C.Kt} {e:List UInt8} {p:Nat} {c:Int} (hp:C.Dc (C.kg k 2) (C.aO k.c e) p) (hc:c<=300) (hl:(C.aO k.c e).length<=60):Fz k e p 0 (c.toNat*(C.aO k.c e).length+(C.aO k.c e).length+1) [] c c:=by
 have h1:=C.amQ (c:=c) hp;have h2:c.toNat*(C.aO k.c e).length<=300*60:=zA (by omega) hl;exact⟨rfl,λ_=>h1,λ_=>by omega,by simp,by omega,Int.le_refl _⟩
theorem Fz.stop {k:C.Kt} {e:List UInt8} {p i f:Nat} {acc:List UInt8} {c0 c:Int} (h:Fz k e p i f acc c0 c) (hc:¬ 0<c):C.gu k e c0=acc:=by
 rw [h.ans,C.af0 (by omega),oG]
theorem Fz.wide {k:C.Kt} {e:List UInt8} {p i f:Nat} {acc:List UInt8} {c0 c:Int} (h:Fz k e p i f acc c0 c) (hp:C.Dc (C.kg k 2) (C.aO k.c e) p) (hc:0<c) {y:List Int} (hy:(C.aO k.c e)[i % (C.aO k.c e).length]?=some y) (hn:c<C.iq k.d y):C.gu k e c0=acc:=by
 obtain⟨f',rfl,h1,-⟩:=C.agN (i:=i) hp hc (h.run hc);rw [h.ans,h1,fO,hy,jE,aG (show c<C.meas (C.kg k 2) y from hn),oG]
theorem Fz.next {k:C.Kt} {e:List UInt8} {p i f:Nat} {acc:List UInt8} {c0 c:Int} (h:Fz k e p i f acc c0 c) (hp:C.Dc (C.kg k 2) (C.aO k.c e) p) (hc:0<c) {y:List Int} (hy:(C.aO k.c e)[i % (C.aO k.c e).length]?=some y) (hn:¬ c<C.iq k.d y) (hl:(U.textOf y).length<=180) (hw0:0<=C.iq k.d y) :
  ∃ f',Fz k e p (i+1) f' (acc++U.textOf y) c0 (c-C.iq k.d y)/\C.todo p (C.aO k.c e).length (i+1) (c-C.iq k.d y)<C.todo p (C.aO k.c e).length i c:=by
 obtain⟨f',rfl,h1,h2⟩:=C.agN (i:=i) hp hc (h.run hc);have hy2:(C.aO k.c e).getD (i % (C.aO k.c e).length) []=y:=by rw [fO,hy,jE]
 rw [hy2] at h1 h2;have hm:C.meas (C.kg k 2) y=C.iq k.d y:=rfl;rw [hm] at h1 h2;rw [aF hn] at h1;have hlt:C.todo p (C.aO k.c e).length (i+1) (c-C.iq k.d y)<C.todo p (C.aO k.c e).length i c :=
  C.adB hp.1 hc hw0 (λhq=>by
   have h9:=hp.2;rw [<- hq,hy2] at h9;exact h9)
 have h3:=h.lim hc;have h4:=h.len;have h5:=h.le;refine⟨f',⟨by rw [h.ans,h1,pz],λ_=>h2,λ_=>by omega,by rw [bC,BX];omega,by omega,by omega⟩,hlt⟩
theorem Ye (A:Nat->Addr) (B g p:Nat) (k:C.Kt) (e:ByteArray) (c0:Int) (w:World) (hg:mW w g k) (hs:gY k) (hb:C.bH k=true) (hz:e.size<=60) (hc:c0<=300) (hp:C.Dc (C.kg k 2) (C.aO k.c e.data.toList) p) (hS:Sw A B w) :
  Calls prog 77 #[aA g, .string e, ah c0] w λen w'=>en = .returned (.string (bs (C.gu k e.data.toList c0)))/\ak w w':=by
 have hte:=EC (s:=e.data.toList) hb (by rw [<- size_eq];omega);obtain⟨hcl,hel⟩:=C.adG (e:=e.data.toList) hb (by rw [<- size_eq];exact hz);have Ug:=bx (show ∀ y∈C.aO k.c e.data.toList,U.scalars (U.textOf y)=some y/\(U.textOf y).length<=180 from λy hy=>⟨(Uk (by omega) y hy).1,hel y hy⟩);have Ih:=bx (λ(y:List Int)=>show 0<=C.iq k.d y/\C.iq k.d y<=2 from C.RV k.d y);have pX:=bx (Qp A B g k e w hg hs hb (by omega) hS);have HKW:=bx (λW (h:ak w W)=>hg.below h);have CG:=bx (λv (y:List Int) W (h:ak w W) (hv:WideAt W v k.d) (hy:U.scalars (U.textOf y)=some y) (hl:(U.textOf y).length<=180)=>ai5 A B v k.d (U.textOf y) y W hv hs.d (by unfold C.bH at hb;simp only [dD] at hb;exact hb.1.2) hy (by omega) (hS.below h).e (hS.below h).le);rw [C.uO hte] at pX;have Hg:=bx hp;have gK:=bx (aqD hp hc hcl);have jq:=hp.1;obtain⟨N,hN⟩:∃ N,(C.aO k.c e.data.toList).length=N:=⟨_,rfl⟩
 have HN:=bx hN;rw [hN] at hcl jq;clear hte hel hp hS hs hb hg hN
 go_in
 go_wp2_with fail;refine pX.o.mono ?_;rintro en w1 ⟨⟨lv,rfl,hlv,-⟩,hb1⟩;have HB1:=bx hb1;obtain⟨la,lc,rfl,-⟩:=hlv.slice;rw [aV,HN.o] at hlv ⊢;obtain⟨b,off,cap,ha0,ha1,ha2,pK,kQ⟩:=hlv.get (by intro h;have h9:=congrArg List.length h;rw [aV,HN.o,iG] at h9;omega);rw [aV,HN.o] at ha0 ha1;obtain⟨rfl,rfl⟩:=dQ ha0;have Uz:=bx kQ;have Di:=bx pK;unfold maxLen at ha2;clear hb1 hlv ha0 kQ pK;obtain⟨WL,Rk⟩:∃ W,W=w1.alloc (.cells #[.pointer none, aj] 128):=⟨_,rfl⟩
 have fQ:=bx (show Lib.IsBuilder 128 5 w1.heap.size w1.heap.size (Lib.byteCells []) WL by rw [Rk];exact Lib.fresh_isBuilder 128 5 w1);have cu:=bx (aB Rk);have D9:=bx Rk;clear Rk;go_wp2_with fail;rw [<- D9.o]
 go_loopw [2,9] (λcv iv wr=>∃ (i f:Nat) (acc:List UInt8) (c:Int),cv = ah c/\iv = ah i/\Box (Fz k e.data.toList p i f acc c0 c)/\Box (Lib.IsBuilder 128 5 w1.heap.size w1.heap.size (Lib.byteCells acc) wr)/\Box (ak w1 wr)) (λcv iv _=>C.todo p N (intOf iv).toNat (intOf cv))
 ·exact⟨0,_,[],c0,rfl,rfl,gK,fQ,cu⟩
 obtain⟨i,f,acc,c,rfl,rfl,hfp,hib,hbr⟩:=hrel;have hi9:=hfp.o.top;have hc9:=hfp.o.le;have dL:=bx (bt HB1.o hbr.o)
 by_cases hpos:0<c
 ·have hmN:i % N<N:=Nat.mod_lt _ (by omega);obtain⟨y,hy⟩:=bV (C.aO k.c e.data.toList) (i % N) (by rw [HN.o];exact hmN);have HY:=bx hy;obtain⟨hy1,hy2⟩:=Ug.o y (dB hy);have hcx:=Uz.o (i % N) (U.textOf y) (by rw [eX,hy];rfl);have cx:=(hbr.o.cell (p:=⟨b,off+i % N,none⟩) Di.o).trans hcx;have hbl:=fC Di.o hbr.o.size;have hmod:(i:Int).tmod (N:Int)=((i % N:Nat):Int):=by rw [Int.ofNat_tmod]
  obtain⟨m,hm⟩:∃ m,m=i % N:=⟨_,rfl⟩
  rw [<- hm] at hmod cx hmN;have HM:=bx hm;have d1:=bD hpos;have kF:=bx (HKW.o wr dL.o);obtain⟨ca,cp,cq,cr,cm,cf,wa,wp,wq,vr,wm,wf,iv,bv,wd,lo,ti,c1,c2,g1,g2,hkk,hpp⟩:=kF.o;have ng:=bx (CG.o _ y wr dL.o hpp.d hy1 hy2);obtain⟨k0,k1,k2,k3,k4,k5,k6,k7,k8,k9,k10,k11,k12,k13,k14,k15,k16,k17,k18,k19,k20,kk⟩:=hkk.c21 aZ;clear hy hcx hkk hpp hm;go_wp2_with fail;refine aT ng.o λw2 hb2=>?_
  have HB2:=aJ hbr hb2;have HI2:=bx (afr hib.o hb2);clear hb2 cx hbl k0 k1 k2 k3 k4 k5 k6 k7 k8 k9 k10 k11 k12 k13 k14 k15 k16 k17 k18 k19 k20 kk
  by_cases hwide:c<C.iq k.d y
  ·have d2:=bD hwide;have HR:=bx (hfp.o.wide Hg.o hpos (by rw [HN.o];exact HY.o) hwide);generalize C.iq k.d y=n at d2 hwide ⊢;go_wp2_with fail;refine aT (VY w1.heap.size w1.heap.size _ _ HI2.o HB2.o.size) λw3 hb3=>?_
   have HB3:=bx (HB2.o.trans hb3);clear hb3
   go_wp2
   go_ret
   exact⟨by rw [HR.o];rfl,bt HB1.o HB3.o⟩
  have d2:=dh hwide;obtain⟨hw0,hw1⟩:=Ih.o y;obtain⟨f',ahM,hlt'⟩:=hfp.o.next Hg.o hpos (by rw [HN.o];exact HY.o) hwide hy2 hw0;have HF':=bx ahM;have yP:=bx hlt';have dU:=bx (show acc.length+(bs (U.textOf y)).size<=16777216 by have:=hfp.o.len;rw [dN];omega);generalize C.iq k.d y=n at d2 hwide hw0 hw1 HF' yP ⊢;rw [HN.o] at yP;clear ahM hlt';go_wp2_with fail;refine(abP w1.heap.size w1.heap.size _ _ _ HI2.o dU.o HB2.o.size).mono ?_;rintro en w3 ⟨rfl,hi3,hb3⟩;have HI3:=bx (show Lib.IsBuilder 128 5 w1.heap.size w1.heap.size (Lib.byteCells (acc++U.textOf y)) w3 from hi3);have HB3:=bx (HB2.o.trans hb3);clear hi3 hb3
  go_wp2
  go_roundw
  ·exact⟨i+1,f',acc++U.textOf y,c-n,by go_num,by go_num,HF',HI3,HB3⟩
  have:=yP.o;simp [intOf];omega
 have d1:=dh hpos;have HR:=bx (hfp.o.stop hpos);go_wp2_with fail;refine aT (VY w1.heap.size w1.heap.size _ _ hib.o hbr.o.size) λw3 hb3=>?_
 have HB3:=bx (hbr.o.trans hb3);clear hb3
 go_wp2
 go_ret
 exact⟨by rw [HR.o];rfl,bt HB1.o HB3.o⟩
end Go.Proofs.YtdponihkpomheaaGreatDoor
