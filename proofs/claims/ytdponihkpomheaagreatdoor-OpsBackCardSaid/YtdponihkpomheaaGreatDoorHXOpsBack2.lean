/- Texts of this claim. -/
import Derived.Test.YtdponihkpomheaaGreatDoorH25
import Derived.Test.YtdponihkpomheaaGreatDoorHXOpsBack1

set_option maxRecDepth 100000
set_option maxHeartbeats 8000000
namespace Go.Proofs.YtdponihkpomheaaGreatDoor
open Go.RowKit
open Go.Proofs.Tryz
namespace C
open Go.Proofs.YtdponihkpomheaaGreatDoor
def xK (xs:List Int) (ns:List Nat):List Int:=(places xs ns).map (λn:Nat=>(n:Int))
theorem Vl (t:Tab) (s:List UInt8) (a:Int) (he:textE t s=0):isA t s a=(xK (dF s) (dZ t s)).any (·==a):=by
 unfold isA BD xK;rw [aG he,List.any_map]
 rfl
end C
namespace C
def vg (k:Kt) (l:List (List UInt8)) (e:List UInt8):Int:=if bH k=false then 160 else if 100<l.length then 24 else if 60<e.length\/l.any (λs=>decide (600<s.length))=true then 121 else 0
def CP (k:Kt) (l:List (List UInt8)) (e:List UInt8):List UInt8:=if vg k l e=0 then Lib.join (l.map M.fix) (M.fix e) else []
end C
namespace C
theorem zD:∀ ls:List (List Int),(ls.map U.textOf).flatten=U.textOf ls.flatten
 | []=>rfl
 | l::t=>by rw [iR,pY,pY,zD t,U.Fq]
theorem EL {t:Tab} {s:List UInt8}:∀ l∈aO t s,∀ x∈l,U.right x=true:=by
 intro l hl x hx;unfold aO at hl;obtain⟨i,-,rfl⟩:=jM.1 hl;exact PI (Dx s) _ _ x hx
theorem YN {l:List Int} (h:∀ x∈l,U.right x=true):U.valid (U.textOf l)=true:=by
 unfold U.valid;rw [(U.zJ _ _).2 ⟨rfl,h⟩]
 rfl
end C
namespace C
theorem aoI (l:List (List UInt8)) (sep:List UInt8) (f a b:Nat):mY l sep (f+1) a b=if l.length<=a then [(l.drop b).flatten] else
   if 0<jD (l.drop a) sep then ((l.take a).drop b).flatten::mY l sep f (a+jD (l.drop a) sep) (a+jD (l.drop a) sep) else mY l sep f (a+1) b:=rfl
theorem ajk (l:List (List UInt8)) (sep:List UInt8):∀ (f a b:Nat),b<=a->a<=l.length->l.length<=a+f ->
  ∃ e,a<=e/\e<=l.length/\((mY l sep f a b=[((l.take e).drop b).flatten]/\e=l.length)\/(∃ n f',0<n/\e+n<=l.length/\l.length<=e+n+f'/\((l.drop e).take n).flatten=sep/\mY l sep f a b=((l.take e).drop b).flatten::mY l sep f' (e+n) (e+n)))
 | 0,a,b,h1,h2,h3=>⟨l.length,h2,bK _, .inl ⟨by rw [gq aU];rfl,rfl⟩⟩
 | f+1,a,b,h1,h2,h3=>by
  rw [aoI]
  by_cases h4:l.length<=a
  ·rw [aG h4];exact⟨l.length,h2,bK _, .inl ⟨by rw [gq aU],rfl⟩⟩
  rw [aF h4];have hm:=Qu (l.drop a) sep;have hml:=OD (l.drop a) sep;rw [gy] at hml
  by_cases h5:0<jD (l.drop a) sep
  ·rw [aG h5]
   rcases hm with⟨h6,-⟩ | ⟨-,-,h6,-⟩
   ·omega
   exact⟨a,bK _,h2, .inr ⟨_,f,h5,by omega,by omega,h6,rfl⟩⟩
  rw [aF h5];obtain⟨e,g1,g2,g3⟩:=ajk l sep f (a+1) b (by omega) (by omega) (by omega);exact⟨e,by omega,g2,g3⟩
theorem QY (l:List (List UInt8)) {b e:Nat} (h:b<=e):(l.take b).flatten++((l.take e).drop b).flatten=(l.take e).flatten:=by
 rw [<- rH]
 congr 1
 have h1:=oN b (l.take e)
 rwa [List.take_take,sH h] at h1
theorem ahH (l:List (List UInt8)) (e n:Nat):(l.take e).flatten++((l.drop e).take n).flatten=(l.take (e+n)).flatten:=by
 rw [<- rH,<- List.take_add]
theorem Vh (l:List (List UInt8)) (sep:List UInt8):∀ (f a b:Nat),mY l sep f a b≠[]
 | 0,a,b=>by unfold mY;simp
 | f+1,a,b=>by
  unfold mY
  split
  ·simp
  split
  ·simp
  exact Vh l sep f _ _
theorem join_cons (x:List UInt8) {r:List (List UInt8)} (hr:r≠[]) (sep:List UInt8):Lib.join (x::r) sep=x++(sep++Lib.join r sep):=by
 cases r with
 | nil=>exact absurd rfl hr
 | cons y t=>simp [Lib.join,List.intercalate,List.intersperse]
theorem Xr (l:List (List UInt8)) (sep:List UInt8):∀ (f a b:Nat),b<=a->a<=l.length->l.length<=a+f->(l.take b).flatten++Lib.join (mY l sep f a b) sep=l.flatten
 | 0,a,b,h1,h2,h3=>by
  unfold mY;rw [show Lib.join [(l.drop b).flatten] sep=(l.drop b).flatten by simp [Lib.join,List.intercalate],<- rH,oN]
 | f+1,a,b,h1,h2,h3=>by
  unfold mY
  by_cases h4:l.length<=a
  ·rw [aG h4,show Lib.join [(l.drop b).flatten] sep=(l.drop b).flatten by simp [Lib.join,List.intercalate],<- rH,oN]
  rw [aF h4]
  by_cases h5:0<jD (l.drop a) sep
  ·rw [aG h5];have hml:=OD (l.drop a) sep;rw [gy] at hml
   rcases Qu (l.drop a) sep with⟨h6,-⟩ | ⟨-,-,h6,-⟩
   ·omega
   generalize jD (l.drop a) sep=n at h5 hml h6 ⊢;rw [join_cons _ (Vh l sep f _ _),<- pz,QY l h1,<- pz,<- h6,ahH,h6];exact Xr l sep f (a+n) (a+n) aU (by omega) (by omega)
  rw [aF h5];exact Xr l sep f (a+1) b (by omega) (by omega) (by omega)
theorem Z8 (l:List (List UInt8)) (sep:List UInt8):∀ (f a b:Nat),(mY l sep f a b).length<=f+1
 | 0,a,b=>by unfold mY;simp
 | f+1,a,b=>by
  unfold mY
  split
  ·simp
  split
  ·have:=Z8 l sep f (a+jD (l.drop a) sep) (a+jD (l.drop a) sep);rw [dY];omega
  have:=Z8 l sep f (a+1) b;omega
theorem Yg (l:List (List UInt8)) (sep:List UInt8):∀ (f a b:Nat),∀ x∈mY l sep f a b,∃ i j,x=((l.take i).drop j).flatten
 | 0,a,b,x,h=>by
  unfold mY at h;rw [fU] at h;exact⟨l.length,b,by rw [h,gq aU]⟩
 | f+1,a,b,x,h=>by
  unfold mY at h
  split at h
  ·rw [fU] at h;exact⟨l.length,b,by rw [h,gq aU]⟩
  split at h
  ·rcases fB.1 h with h | h
   ·exact⟨a,b,h⟩
   exact Yg l sep f _ _ x h
  exact Yg l sep f _ _ x h
end C
section
open Go.Shelf
attribute [local go_sem] Oper.semAt_some
namespace C
theorem ahW {k:Kt} {s e:List UInt8} (h:bH k=false):mX k s e=[]/\qM k s e=160:=by
 have h0:qM k s e=160:=by unfold qM;rw [He h];rfl
 exact⟨by unfold mX;rw [h0];rfl,h0⟩
theorem acX {k:Kt} {s:List UInt8} (h:bH k=true) (hz:s.length<=600):mX k s []=[]/\qM k s []=163:=by
 have h0:qM k s []=163:=by unfold qM;rw [aG (uV h hz (by simp)),aG rfl]
 exact⟨by unfold mX;rw [h0];rfl,h0⟩
end C
theorem apH (A:Nat->Addr) (B:Nat) (v:Value) (k:C.Kt) (s e:ByteArray) (w:World) (hv:dS w v k) (hs:gY k) (_:s.size<=260) (_:e.size<=60) (hS:Sw A B w) (hb:C.bH k=false) :
  Calls prog 26 #[v, .string s, .string e] w λen w'=>(∃ v',en = .returned (.tuple #[v', ah (C.qM k s.data.toList e.data.toList)])/\cZ w' v' (C.mX k s.data.toList e.data.toList))/\ak w w':=by
 obtain⟨kz,V,rfl,hkz,HV,HB0,aI,dM,dK⟩:=oL hv hS;have HOW:=bx (HB0.o.trans ((dA V (.cells #[.string e] 9)).mono HB0.o.size));have iM:=bx (λ(hb:C.bH k=false)=>LZ A B _ (.slice (some ⟨V.heap.size,0,none⟩) 1 1) k s [e.data.toList] _ (dM.o _ HOW.o) hs (dK.o _ HOW.o) hb (xW V e 9));have HO:=bx (iM.o hb);have HR:=bx (C.ahW (s:=s.data.toList) (e:=e.data.toList) hb);clear iM hb hs hS dM;have hld:=aI.o V aZ
 go_in
 go_upto_region 1 with(fail)
 rw [<- HV.o];go_wp2_with (refine eF rfl _ rfl _ rfl hld hkz ?_)
 refine dI HO.o HOW.o λw1 HB1=>?_
 clear hld;go_wp2_with fail;refine dI (yA (160) w1 (dK.o w1 HB1.o).t) HB1.o λw9 fA=>?_
 go_wp2
 go_ret2
 exact⟨⟨_,by rw [HR.o.2];rfl,by rw [HR.o.1];exact .inl ⟨rfl,rfl⟩⟩,fA.o⟩
theorem aoN (A:Nat->Addr) (B:Nat) (v:Value) (k:C.Kt) (s e:ByteArray) (w:World) (hv:dS w v k) (hs:gY k) (hz:s.size<=260) (hze:e.size<=60) (hS:Sw A B w) (hb:C.bH k=true) (he0:e.data.toList=[]) :
  Calls prog 26 #[v, .string s, .string e] w λen w'=>(∃ v',en = .returned (.tuple #[v', ah (C.qM k s.data.toList e.data.toList)])/\cZ w' v' (C.mX k s.data.toList e.data.toList))/\ak w w':=by
 obtain⟨kz,V,rfl,hkz,HV,HB0,aI,dM,dK⟩:=oL hv hS;have HOW:=bx (HB0.o.trans ((dA V (.cells #[.string e] 9)).mono HB0.o.size));have fH:=bx (λ(hb:C.bH k=true) (hz:s.size<=600) (hp:e.size<=60)=>uQ A B _ (.slice (some ⟨V.heap.size,0,none⟩) 1 1) k s [e.data.toList] _ (dM.o _ HOW.o) hs (dK.o _ HOW.o) hb (xW V e 9) hz (by simp) (λp hq=>by rw [fU.1 hq,<- size_eq];exact hp));have HO:=bx (fH.o hb (by omega) hze);have HR:=bx (C.acX (s:=s.data.toList) hb (by rw [<- size_eq];omega));rw [he0];obtain rfl:e=bs []:=by rw [Zw e,he0]
 have e1:=xH;clear fH hb hs hS hz dM he0;have hld:=aI.o V aZ
 go_in
 go_upto_region 1 with(fail)
 rw [<- HV.o];go_wp2_with (refine eF rfl _ rfl _ rfl hld hkz ?_)
 refine HO.o.mono ?_;rintro en w1 ⟨⟨g,rfl,hwk,-⟩,hb1⟩;have HB1:=aJ HOW hb1;have kF:=bx hwk;clear hb1 hwk hld;go_wp2_with fail;refine dI (yA (163) w1 (dK.o w1 HB1.o).t) HB1.o λw9 fA=>?_
 go_wp2
 go_ret2
 exact⟨⟨_,by rw [HR.o.2];rfl,by rw [HR.o.1];exact .inl ⟨rfl,rfl⟩⟩,fA.o⟩
theorem awd (A:Nat->Addr) (B:Nat) (v:Value) (k:C.Kt) (s e:ByteArray) (w:World) (hv:dS w v k) (hs:gY k) (hz:s.size<=260) (hze:e.size<=60) (hS:Sw A B w) :
  Calls prog 26 #[v, .string s, .string e] w λen w'=>(∃ v',en = .returned (.tuple #[v', ah (C.qM k s.data.toList e.data.toList)])/\cZ w' v' (C.mX k s.data.toList e.data.toList))/\ak w w':=by
 cases hb:C.bH k with
 | false=>exact apH A B v k s e w hv hs hz hze hS hb
 | true =>
  by_cases he0:e.data.toList=[]
  ·exact aoN A B v k s e w hv hs hz hze hS hb he0
  exact abq A B v k s e w hv hs hz hze hS hb he0
end
namespace C
theorem ara {t:Tab} {s:List UInt8} (he:textE t s=0) {k:Nat} (hk:k<=(bf t s).length):isA t s ((headA t s k).length:Int)=true:=by
 have hr:=(qg t s).2;have hc:bf t s=pieces (dF s) (dZ t s):=by unfold bf;rw [aG he]
 have hn:=hr.ne;rw [hc,pieces_len] at hk;have hlt:k<(dZ t s).length:=by omega
 have h1:=aah hr k hlt;have h2:=Ns (xs:=dF s) (ns:=dZ t s) hlt;have h3:(headA t s k).length=(places (dF s) (dZ t s)).getD k 0:=by
  unfold headA;rw [hc,h1,dw];omega
 rw [Vl t s _ he,zO];refine⟨((headA t s k).length:Int),?_,by simp⟩;unfold xK;refine jM.2 ⟨(headA t s k).length,?_,rfl⟩;rw [h3,fO,dW (by rw [IQ];exact hlt),jE];exact List.getElem_mem _
def xU (ps:List (List UInt8)) (n:Nat) (i:Nat):Nat:=((ps.take i).map List.length).sum+i*n
theorem VX (ps:List (List UInt8)) (n:Nat):xU ps n 0=0:=by simp [xU]
theorem avG (x:List UInt8) (ps:List (List UInt8)) (n i:Nat):xU (x::ps) n (i+1)=x.length+n+xU ps n i:=by
 unfold xU;rw [wM,iR,List.sum_cons,BX];omega
theorem arU {ps:List (List UInt8)} {n i:Nat} {x:List UInt8} (h:ps[i]?=some x):xU ps n (i+1)=xU ps n i+x.length+n:=by
 obtain⟨hk,rfl⟩:=dO h;unfold xU;rw [Ja hk,gX,List.sum_append,BX];simp;omega
theorem afx (l:List (List UInt8)) (sep:List UInt8):∀ (i f a b:Nat),b<=a->a<=l.length->l.length<=a+f->∀ x,(mY l sep f a b)[i]?=some x ->
  ∃ e,e<=l.length/\(l.take b).flatten.length+xU (mY l sep f a b) sep.length i+x.length=(l.take e).flatten.length
 | i,f,a,b,h1,h2,h3,x,hx=>by
  obtain⟨e,g1,g2,g3⟩:=ajk l sep f a b h1 h2 h3;have hd:=congrArg List.length (QY l (show b<=e by omega));rw [bC] at hd
  rcases g3 with⟨g3,-⟩ | ⟨n,f',g3,g4,g5,g6,g7⟩
  ·rw [g3] at hx ⊢
   cases i with
   | zero =>
    simp only [rQ,iQ] at hx;subst hx;exact⟨e,g2,by rw [VX];omega⟩
   | succ i=>simp at hx
  rw [g7] at hx ⊢
  cases i with
  | zero =>
   simp only [rQ,iQ] at hx;subst hx;exact⟨e,g2,by rw [VX];omega⟩
  | succ i =>
   rw [List.getElem?_cons_succ] at hx;obtain⟨e',k1,k2⟩:=afx l sep i f' (e+n) (e+n) aU g4 g5 x hx;refine⟨e',k1,?_⟩;have ht:=congrArg List.length (ahH l e n);rw [bC,g6] at ht;rw [avG];omega
theorem apg {t:Tab} {s:List UInt8} (h:textE t s=0) (i j:Nat):U.valid (((bf t s).take i).drop j).flatten=true:=by
 rw [uO h,<- List.map_take,<- List.map_drop,zD];exact YN (λx hx=>by
  obtain⟨l,hl,hxl⟩:=List.mem_flatten.1 hx;exact EL l (List.mem_of_mem_take (List.mem_of_mem_drop hl)) x hxl)
theorem aua {k:Kt} {s e:List UInt8} (hk:bH k=true) (hs:s.length<=60) (he:e.length<=20) (h0:e≠[]) :
  qM k s e=0/\(mX k s e).length<=100/\1<=(mX k s e).length/\vg k (mX k s e) e=0/\CP k (mX k s e) e=M.fix s/\(∀ x∈mX k s e,x.length<=180) /\
  ∀ i x,(mX k s e)[i]?=some x->isA k.c s ((xU (mX k s e) (M.fix e).length i+x.length:Nat):Int)=true:=by
 have hte:textE k.c s=0:=wG (g:=kg k 0) (CY hk (by decide) (by decide)) (by omega);have hE:qM k s e=0:=by unfold qM;rw [aG (uV hk (by omega) (by omega)),aF h0]
 have hA:mX k s e=mY (bf k.c s) (M.fix e) (bf k.c s).length 0 0:=by unfold mX;rw [aG hE]
 have hcl:(bf k.c s).length<=60:=by
  rw [UQ hte,Gt];have h1:=(qg k.c s).2.len;have h2:=uJ s;omega
 have hfl:=qJ s;have hlen:(mX k s e).length<=100:=by
  rw [hA];have:=Z8 (bf k.c s) (M.fix e) (bf k.c s).length 0 0;omega
 have hmem:∀ x∈mX k s e,U.valid x=true/\x.length<=180:=λx hx=>by
  rw [hA] at hx;obtain⟨i,j,rfl⟩:=Yg _ _ _ _ _ x hx;refine⟨apg hte i j,?_⟩;have h1:=congrArg (λx=>x.flatten.length) (oN i (bf k.c s));have h2:=congrArg (λx=>x.flatten.length) (oN j ((bf k.c s).take i));simp only [rH,bC] at h1 h2;rw [DT hte] at h1;omega
 have hjE:vg k (mX k s e) e=0:=by
  unfold vg;rw [aF (by rw [hk];simp),aF (by omega),aF];rintro(h | h)
  ·omega
  rw [zO] at h;obtain⟨x,hx,h⟩:=h;have:=(hmem x hx).2;have:=of_decide_eq_true h;omega
 refine⟨hE,hlen,?_,hjE,?_,λx hx=>(hmem x hx).2,λi x hx=>?_⟩
 ·have:=Vh (bf k.c s) (M.fix e) (bf k.c s).length 0 0;rw [<- hA] at this;exact List.length_pos_iff.2 this
 ·unfold CP;rw [aG hjE,show (mX k s e).map M.fix=mX k s e from(List.map_congr_left (λx hx=>(M.VE x).2 (hmem x hx).1)).trans (List.map_id _),hA];have h:=Xr (bf k.c s) (M.fix e) (bf k.c s).length 0 0 aU (nK _) (by omega);rw [qN,List.flatten_nil,iJ] at h;rw [h,DT hte]
 rw [hA] at hx ⊢;obtain⟨e',h1,h2⟩:=afx (bf k.c s) (M.fix e) i (bf k.c s).length 0 0 aU (nK _) (by omega) x hx;rw [qN,List.flatten_nil,iG,Nat.zero_add] at h2;rw [h2];exact ara hte h1
end C
section
attribute [local go_sem] Oper.semAt_some
theorem dS.tabs {w:World} {n m:Int} {x1 x2 x3 x4 x5 x6 x7 x8 x9 x10 x11 x12 jY x14 x15 x16 x17 x18:Value} {b:Bool} {k:C.Kt}
  (h:dS w (.agg #[ah n,x1,x2,x3,x4,x5, ah m,x6,x7,x8,x9,x10,x11,x12, .bool b,jY,x14,x15,x16,x17,x18]) k):TabAt w (.agg #[ah n,x1,x2,x3,x4,x5]) k.c:=by
 obtain⟨_,_,_,_,_,_,_,_,_,_,_,_,_,_,_,_,_,_,_,_,_,e,h⟩:=h;injection e with e;simp only [Array.mk.injEq,jm,Value.int.injEq,Value.bool.injEq,true_and,and_true] at e;obtain⟨rfl,rfl,rfl,rfl,rfl,rfl,rfl,rfl,rfl,rfl,rfl,rfl,rfl,rfl,rfl,rfl,rfl,rfl,rfl,rfl,rfl⟩:=e;exact h.c
theorem awH (s:ByteArray) (w:World) :
  Calls prog 91 #[.string s] w λe w'=>e = .returned (.bool (decide ((600:Int)<(s.size:Int))))/\ak w w':=by
 go_in
 go_wp2
 go_ret
 exact⟨rfl,Below.refl _ _⟩
theorem am9 (v:Value) (ls:List (List UInt8)) (w:World) (hv:cZ w v ls) (hz:ls.length<=16777216) :
  Calls prog 162 #[v, .func (.func 91) #[] #[]] w λe w'=>(∃ i,e = .returned (ah i)/\decide (0<=i)=ls.any (λs=>decide (600<s.length)))/\ak w w':=by
 have HV:=bx hv;obtain⟨N,hN⟩:∃ N,ls.length=N:=⟨_,rfl⟩
 obtain⟨ao,cap,rfl,-⟩:=hv.slice;rw [hN] at hz HV ⊢;have HN:=bx hN;clear hv hN
 go_in
 go_wp2_with fail
 go_loopw [8] (λi wr=>∃ k:Nat,k<=N/\i = ah k/\Box ((ls.take k).any (λs=>decide (600<s.length))=false)/\Box (ak w wr)) (λi _=>N-(intOf i).toNat)
 ·exact⟨0,by omega,rfl,⟨rfl⟩,⟨Below.refl _ _⟩⟩
 obtain⟨k,hk,rfl,ha,hb⟩:=hrel
 by_cases hlt:k<N
 ·obtain⟨x,hx⟩:=bV ls k (by rw [HN.o];exact hlt);obtain⟨g,off,cap2,hg1,hg2,hg3,hg4,hg5⟩:=HV.o.get (by rintro rfl;simp at hx);rw [HN.o] at hg1 hg2;obtain⟨rfl,rfl⟩:=dQ hg1;have cx:=(hb.o.cell (p:=⟨g,off+k,none⟩) hg4).trans (hg5 k x hx);have HX:=bx hx;have hsz:=dN x;have tC:=bx (awH (bs x) wr);unfold maxLen at hg3;clear hx hg1 hg4 hg5
  by_cases hlong:600<x.length
  ·have FZ:=bx (show ls.any (λs=>decide (600<s.length))=true from zO.2 ⟨x,dB HX.o,bD hlong⟩);rw [bD (show (600:Int)<((bs x).size:Int) by omega)] at tC;clear hsz;go_wp2_with fail;refine dI tC.o hb.o λw1 HB1=>?_
   clear cx
   go_wp2
   go_ret
   exact⟨⟨_,rfl,by rw [FZ.o];exact bD (by omega)⟩,HB1.o⟩
  have FZ:=bx (show (ls.take (k+1)).any (λs=>decide (600<s.length))=false by
   rw [jw,HX.o,List.any_append,ha.o];simp [hlong])
  rw [dh (show ¬ (600:Int)<((bs x).size:Int) by omega)] at tC;clear hsz;go_wp2_with fail;refine dI tC.o hb.o λw1 HB1=>?_
  clear cx
  go_wp2
  go_roundw
  ·exact⟨k+1,by omega,by go_num,FZ,HB1⟩
  simp [intOf];omega
 have FZ:=bx (show ls.any (λs=>decide (600<s.length))=false by have h:=ha.o;rwa [gq (by rw [HN.o];omega)] at h)
 go_wp2
 go_ret
 exact⟨⟨_,rfl,by rw [FZ.o];rfl⟩,hb.o⟩
theorem axl (v:Value) (ls:List (List UInt8)) (w:World) (hv:cZ w v ls) (hz:ls.length<=16777216) :
  Calls prog 93 #[v, .func (.func 91) #[] #[]] w λe w'=>e = .returned (.bool (ls.any (λs=>decide (600<s.length))))/\ak w w':=by
 have HI:=bx (am9 v ls w hv hz);generalize ls.any (λs=>decide (600<s.length))=an at HI ⊢;clear hv
 go_in
 go_wp2_with fail;refine HI.o.mono ?_;rintro e w1 ⟨⟨i,rfl,hi⟩,hb1⟩;have HB1:=bx hb1;have HII:=bx hi;clear hb1 hi
 go_wp2
 go_ret
 exact⟨by rw [<- HII.o];rfl,HB1.o⟩
namespace C
theorem atX {k:Kt} {l:List (List UInt8)} {e:List UInt8} (h:bH k=false):CP k l e=[]/\vg k l e=160:=by
 have h0:vg k l e=160:=by unfold vg;rw [aG h]
 exact⟨by unfold CP;rw [h0];rfl,h0⟩
theorem ar6 {k:Kt} {l:List (List UInt8)} {e:List UInt8} (h:bH k=true) (hl:100<l.length):CP k l e=[]/\vg k l e=24:=by
 have h0:vg k l e=24:=by unfold vg;rw [aF (by rw [h];simp),aG hl]
 exact⟨by unfold CP;rw [h0];rfl,h0⟩
theorem auo {k:Kt} {l:List (List UInt8)} {e:List UInt8} (h:bH k=true) (hl:¬ 100<l.length) (h2:60<e.length\/l.any (λs=>decide (600<s.length))=true):CP k l e=[]/\vg k l e=121:=by
 have h0:vg k l e=121:=by unfold vg;rw [aF (by rw [h];simp),aF hl,aG h2]
 exact⟨by unfold CP;rw [h0];rfl,h0⟩
theorem apD {k:Kt} {l:List (List UInt8)} {e:List UInt8} (h:bH k=true) (hl:¬ 100<l.length) (h2:¬ (60<e.length\/l.any (λs=>decide (600<s.length))=true)):CP k l e=Lib.join (l.map M.fix) (M.fix e)/\vg k l e=0:=by
 have h0:vg k l e=0:=by unfold vg;rw [aF (by rw [h];simp),aF hl,aF h2]
 exact⟨by unfold CP;rw [aG h0],h0⟩
theorem ah9 (sep:List UInt8) (M:Nat) (hs:sep.length<=M):∀ l:List (List UInt8),(∀ x∈l,x.length<=M)->(Lib.join l sep).length<=l.length*(M+M)
 | [],_=>by simp [Lib.join]
 | [x],h=>by
  have h1:=h x (jZ ..);simp [Lib.join,List.intercalate];omega
 | x::y::t,h=>by
  have h1:=h x (jZ ..);have h2:=ah9 sep M hs (y::t) (λz hz=>h z (mZ _ hz));rw [join_cons x (by simp) sep,bC,bC,dY,BX];omega
end C
theorem atq (A:Nat->Addr) (B:Nat) (v lv:Value) (k:C.Kt) (l:List (List UInt8)) (e:ByteArray) (w:World) (hv:dS w v k) (hs:gY k) (hl:cZ w lv l) (hz:l.length<=100000) (hze:e.size<=60) (hS:Sw A B w) :
  Calls prog 36 #[v,lv, .string e] w λen w'=>en = .returned (.tuple #[.string (bs (C.CP k l e.data.toList)), ah (C.vg k l e.data.toList)])/\ak w w':=by
 obtain⟨ca,cp,cq,cr,cm,cf,wa,wp,wq,vr,wm,wf,iv,bv,wd,lo,ti,c1,c2,g1,g2,rfl,hk⟩:=hv;have qp:=bx (λW (h:ak w W)=>hk.below h);obtain⟨V,hV⟩:∃ V,V=w.alloc (.cells #[ah ca,cp,cq,cr,cm,cf, ah wa,wp,wq,vr,wm,wf,iv,bv, .bool wd,lo,ti,c1,c2,g1,g2] 38):=⟨_,rfl⟩
 have HB0:=bx (aB hV);have HK:=bx (aK hV);have aI:=bx (λW (h:ak V W)=>HK.o.below h HK.o.lt);have HV:=bx hV;clear hk hV;have HR1:=bx (aad A B _ k V (show dS V (.agg #[ah ca,cp,cq,cr,cm,cf, ah wa,wp,wq,vr,wm,wf,iv,bv, .bool wd,lo,ti,c1,c2,g1,g2]) k from⟨_,_,_,_,_,_,_,_,_,_,_,_,_,_,_,_,_,_,_,_,_,rfl,qp.o V HB0.o⟩) hs (hS.below HB0.o));have qG:=bx (λW (h:ak w W)=>hl.below h);have OW:=bx (λW (h:ak w W)=>axl lv l W (hl.below h) (by omega));have qF:=bx (λ(t:ByteArray) (ht:t.size<=100000) W (h:ak w W)=>show Calls prog 33 #[.string t] W λe' w'=>e' = .returned (.string (bs (M.fix t.data.toList)))/\ak W w' from wZ A B t W ht (hS.below h).e (hS.below h).le);obtain⟨la,lc,rfl,-⟩:=hl.slice;obtain⟨N,hN⟩:∃ N,l.length=N:=⟨_,rfl⟩
 have HN:=bx hN;rw [hN] at qG OW ⊢
 cases hb:C.bH k with
 | false =>
  have HR:=bx (C.atX (l:=l) (e:=e.data.toList) hb);rw [hb] at HR1;clear hb hs hS hl hN;have hld:=aI.o V aZ
  go_in
  go_upto_region 2 with(fail)
  rw [<- HV.o];go_wp2_with (refine eF rfl _ rfl _ rfl hld rfl ?_)
  refine dI HR1.o HB0.o λw1 HB1=>?_
  clear hld
  go_wp2
  go_ret2
  exact⟨by rw [HR.o.1,HR.o.2] <;> rfl,HB1.o⟩
 | true =>
  rw [hb] at HR1
  by_cases hm:100<N
  ·have HR:=bx (C.ar6 (l:=l) (e:=e.data.toList) hb (by rw [hN];exact hm));have d1:decide ((100:Int)<(N:Int))=true:=bD (by omega);clear hb hs hS hl hN hm;have hld:=aI.o V aZ
   go_in
   go_upto_region 2 with(fail)
   rw [<- HV.o];go_wp2_with (refine eF rfl _ rfl _ rfl hld rfl ?_)
   refine dI HR1.o HB0.o λw1 HB1=>?_
   clear hld
   go_wp2
   go_ret2
   exact⟨by rw [HR.o.1,HR.o.2] <;> rfl,HB1.o⟩
  have d1:decide ((100:Int)<(N:Int))=false:=dh (by omega);have d2:decide ((e.size:Int)<=60)=true:=bD (by omega)
  cases ha:l.any (λs=>decide (600<s.length)) with
  | true =>
   have HR:=bx (C.auo (l:=l) (e:=e.data.toList) hb (by omega) (.inr ha));rw [ha] at OW;clear hb hs hS hl hN hm ha;have hld:=aI.o V aZ
   go_in
   go_upto_region 2 with(fail)
   rw [<- HV.o];go_wp2_with (refine eF rfl _ rfl _ rfl hld rfl ?_)
   refine dI HR1.o HB0.o λw1 HB1=>?_
   clear hld;go_wp2_with fail;refine dI (Z9 e w1) HB1.o λw2 HB2=>?_
   rw [d2];go_wp2_with fail;refine dI (OW.o w2 HB2.o) HB2.o λw3 HB3=>?_
   go_wp2
   go_ret2
   exact⟨by rw [HR.o.1,HR.o.2] <;> rfl,HB3.o⟩
  | false =>
   have HR:=bx (C.apD (l:=l) (e:=e.data.toList) hb (by omega) (by rw [ha,<- size_eq];simp;omega));have qj:=bx (show ∀ x∈l,x.length<=600 from λx hx=>by
    have h:=List.any_eq_false.1 ha x hx
    simpa using h)
   rw [ha] at OW;clear hb hs hS hl hN ha;have hld:=aI.o V aZ
   go_in
   go_upto_region 2 with(fail)
   rw [<- HV.o];go_wp2_with (refine eF rfl _ rfl _ rfl hld rfl ?_)
   refine dI HR1.o HB0.o λw1 HB1=>?_
   clear hld;go_wp2_with fail;refine dI (Z9 e w1) HB1.o λw2 HB2=>?_
   rw [d2];go_wp2_with fail;refine dI (OW.o w2 HB2.o) HB2.o λw3 HB3=>?_
   obtain⟨cg,kN,hla,hcs⟩:=XQ (qG.o w3 HB3.o) HN.o;have uf:=bx hla;have yQ:=bx hcs;have bQ:=bx (abk w3.heap.size w3 rfl);clear hla hcs;go_wp2_with fail
   go_loopw [9,31] (λov iv wr=>∃ (j:Nat) (oa:Option Addr) (oc:Nat),j<=N/\ov = .slice oa j oc/\iv = ah j/\Box (Sep (nV w3.heap.size w3 (.slice oa j oc) ((l.map M.fix).take j)) wr)) (λ_ iv _=>N-(intOf iv).toNat)
   ·exact⟨0,none,0,by omega,rfl,rfl,by rw [qN];exact bQ⟩
   obtain⟨j,oa,oc,hj,rfl,rfl,hsep⟩:=hrel;have dL:=bx (HB3.o.trans ((GR hsep.o).mono HB3.o.size))
   by_cases hlt:j<N
   ·obtain⟨x,hx⟩:=bV l j (by rw [HN.o];exact hlt);have hcx:=yQ.o j x hx;obtain⟨rfl,hl1,hl2⟩:=uf.o (by omega);have cx:=((GR hsep.o).cell (p:=⟨cg,kN+j,none⟩) hcx.1).trans hcx.2;have hgl:=fC hcx.1 (GR hsep.o).size;unfold maxLen at hl2;have nH:=bx (show (l.map M.fix).take (j+1)=(l.map M.fix).take j++[M.fix x] by rw [jw,eX,hx];rfl);have HF:=bx (qF.o (bs x) (by rw [dN];have:=qj.o x (dB hx);omega) wr dL.o);rw [xZ] at HF;have um:=bx (show ((l.map M.fix).take j).length=j by rw [dw,aV,HN.o];omega);clear hx hcx;go_wp2_with fail;refine aT HF.o λw4 hb4=>?_
    have dJ:=bx (hsep.o.below hb4);clear hb4 cx;have au1:=bx (show Sep [Pc.row w3.heap.size 9 1 (.slice oa j oc) j (((l.map M.fix).take j).map gW),Pc.old w3.heap.size w3] w4 by
     have h:=dJ.o;unfold nV at h;rw [um.o] at h;exact h)
    have asX:w3.heap.size<=w4.heap.size:=(GR dJ.o).size;have hjN:j<=1000000000:=by omega
    go_wp2_with (at_builtin;refine vM (u:=gW (M.fix x)) rfl _ _ 49 rfl Em au1.o 0 rfl rfl rfl rfl hjN (by omega) asX ?_;rintro v5 w5 hS5 ⟨g5,c5,rfl,-,-⟩;have bG:=bx (ahY um.o hS5 nH.o);clear hS5)
    go_wp2
    go_roundw
    ·exact⟨j+1,_,_,by omega,rfl,by go_num,bG⟩
    simp [intOf];omega
   obtain rfl:N=j:=by omega
   have HF:=bx (qF.o e (by omega));have yG:=bx (show (l.map M.fix).take N=l.map M.fix from gq (by rw [aV,HN.o];exact bK _));have hfe:=C.qJ e.data.toList;rw [<- size_eq] at hfe;have hjl:=C.ah9 (M.fix e.data.toList) 2000 (by omega) (l.map M.fix) (λx hx=>by
    obtain⟨y,hy,rfl⟩:=jM.1 hx;have h1:=C.qJ y;have h2:=qj.o y hy;omega)
   rw [aV,HN.o] at hjl;have OY:=bx (show (Lib.join (l.map M.fix) (M.fix e.data.toList)).length<=140737488355328 by omega);clear hfe hjl;go_wp2_with fail;refine aT (HF.o wr dL.o) λw4 hb4=>?_
   have HB4:=aJ dL hb4;have hst:=VR (hsep.o.below hb4);rw [yG.o] at hst;have HJ:=bx (agh _ (l.map M.fix) (M.fix e.data.toList) w4 hst OY.o (by rw [aV,HN.o];omega));clear hb4 hst;go_wp2_with fail;refine dI HJ.o HB4.o λw5 bU=>?_
   go_wp2
   go_ret2
   exact⟨by rw [HR.o.1,HR.o.2] <;> rfl,bU.o⟩
theorem aqT (A:Nat->Addr) (B:Nat) (v:Value) (k:C.Kt) (s e:ByteArray) (w:World) (hv:dS w v k) (hzs:s.size<=9223372036854775807) (hze:e.size<=9223372036854775807) (hS:Sw A B w) :
  Calls prog 10 #[v, .string s, .string e] w λx w'=>x = .returned (.bool true)/\ak w w':=by
 have HS:=bx hS;have oI:=bx hv;obtain⟨x1,z1,x2,z2,x3,z3,x4,z4,x5,z5,x6,z6,x7,z7,x8,z8,x9,z9,x10,z10,x11,z11,x12,z12,jY,z13,x14,sJ,x15,sO,x16,rZ,x17,z17,x18,rO,rfl⟩:=hv.slices;clear hv;generalize k.c.p.1.length=y1,k.c.p.2.length=y2,k.c.r.length=y3,k.c.m.1.length=y4,k.c.m.2.length=y5,k.w.p.1.length=y6,k.w.p.2.length=y7,k.w.r.length=y8,k.w.m.1.length=y9,k.w.m.2.length=uM,k.d.p.1.length=uj,k.d.p.2.length=vI,k.s.lo.length=y13,k.s.ti.length=vK,k.s.ca.1.length=vH,k.s.ca.2.length=vF,k.s.ig.1.length=uh,k.s.ig.2.length=uY,k.c.n=nt,k.w.n=nw,k.d.wide=wb at oI ⊢;have oU:=bx (λW=>FK s 60 60 W rfl hzs (by decide));have mM:=bx (EU s 60);generalize zL s 60=cs at oU mM;clear hzs;have Dw:=bx (λW=>FK e 20 20 W rfl hze (by decide));have Ht:=bx (EU e 20);generalize zL e 20=ce at Dw Ht;clear hze;obtain⟨V,hV⟩:∃ V,V=w.alloc (.cells #[ah nt, .slice x1 y1 z1, .slice x2 y2 z2, .slice x3 y3 z3, .slice x4 y4 z4, .slice x5 y5 z5, ah nw, .slice x6 y6 z6, .slice x7 y7 z7, .slice x8 y8 z8, .slice x9 y9 z9, .slice x10 uM z10, .slice x11 uj z11, .slice x12 vI z12, .bool wb, .slice jY y13 z13, .slice x14 vK sJ, .slice x15 vH sO, .slice x16 vF rZ, .slice x17 uh z17, .slice x18 uY rO] 38):=⟨_,rfl⟩
 have HB0:=bx (aB hV);have vw:=bx (show Sep [Pc.blk w.heap.size 38 #[ah nt, .slice x1 y1 z1, .slice x2 y2 z2, .slice x3 y3 z3, .slice x4 y4 z4, .slice x5 y5 z5, ah nw, .slice x6 y6 z6, .slice x7 y7 z7, .slice x8 y8 z8, .slice x9 y9 z9, .slice x10 uM z10, .slice x11 uj z11, .slice x12 vI z12, .bool wb, .slice jY y13 z13, .slice x14 vK sJ, .slice x15 vH sO, .slice x16 vF rZ, .slice x17 uh z17, .slice x18 uY rO],Pc.old w.heap.size w] V by rw [hV];exact(Sep.start w).eu _ _);have dU:=bx (show V.heap.size=w.heap.size+1 by rw [hV];simp);have HV:=bx hV;clear hS hV
 go_in
 go_wp2_with fail;rw [<- HV.o];refine aT (MH A B V (HS.o.below HB0.o)) λw1 hb1=>?_
 have HB1:=bx (bT HB0.o hb1);have o9:=bx (vw.o.below hb1);have eG:=bx (show w.heap.size<w1.heap.size by have:=dU.o;have:=hb1.size;omega);clear hb1 HV;have gG:=bx (KW _ k w w1 oI.o HB1.o);have hld:=o9.o.blk 0 rfl;go_wp2_with (refine eF rfl _ rfl _ rfl hld rfl ?_)
 refine gG.o.mono ?_;rintro ex w2 ⟨hb2,v',rfl,ji⟩;clear hld;have HB2:=bx (bT HB1.o hb2);have lZ:=bx (o9.o.below hb2);obtain⟨p1,r1,p2,r2,p3,r3,p4,r4,p5,r5,p6,r6,p7,r7,p8,r8,p9,r9,p10,r10,p11,r11,p12,r12,p13,r13,jP,jT,jK,jH,p16,r16,jL,jS,jI,jJ,rfl⟩:=(ji w2 (Turns.refl _ _) HB2.o).slices;have hks:=LM k;obtain⟨K,hK⟩:∃ K,K=G7 k:=⟨_,rfl⟩
 have lW:=bx (show gY K by rw [hK];exact hks);rw [<- hK] at ji ⊢;clear hb2 hK hks;generalize K.c.p.1.length=q1,K.c.p.2.length=q2,K.c.r.length=q3,K.c.m.1.length=q4,K.c.m.2.length=q5,K.w.p.1.length=q6,K.w.p.2.length=q7,K.w.r.length=q8,K.w.m.1.length=q9,K.w.m.2.length=q10,K.d.p.1.length=q11,K.d.p.2.length=q12,K.s.lo.length=q13,K.s.ti.length=jh,K.s.ca.1.length=iZ,K.s.ca.2.length=q16,K.s.ig.1.length=je,K.s.ig.2.length=jf,K.c.n=nu,K.w.n=nv,K.d.wide=we at ji ⊢;have uI:=bx ji;clear ji gG;have hld:=lZ.o.blk 0 rfl;have iL:=bx (show Sep [Pc.blk w.heap.size 38 #[ah nu, .slice p1 q1 r1, .slice p2 q2 r2, .slice p3 q3 r3, .slice p4 q4 r4, .slice p5 q5 r5, ah nv, .slice p6 q6 r6, .slice p7 q7 r7, .slice p8 q8 r8, .slice p9 q9 r9, .slice p10 q10 r10, .slice p11 q11 r11, .slice p12 q12 r12, .bool we, .slice p13 q13 r13, .slice jP jh jT, .slice jK iZ jH, .slice p16 q16 r16, .slice jL je jS, .slice jI jf jJ],Pc.old w.heap.size w] _ from lZ.o.setRow 0 rfl #[ah nu, .slice p1 q1 r1, .slice p2 q2 r2, .slice p3 q3 r3, .slice p4 q4 r4, .slice p5 q5 r5, ah nv, .slice p6 q6 r6, .slice p7 q7 r7, .slice p8 q8 r8, .slice p9 q9 r9, .slice p10 q10 r10, .slice p11 q11 r11, .slice p12 q12 r12, .bool we, .slice p13 q13 r13, .slice jP jh jT, .slice jK iZ jH, .slice p16 q16 r16, .slice jL je jS, .slice jI jf jJ]);have HT3:=bx (show Turns (λq=>q=w.heap.size) w2 _ from Turns.setRow (own:=λq=>q=w.heap.size) (g:=w.heap.size) rfl #[ah nu, .slice p1 q1 r1, .slice p2 q2 r2, .slice p3 q3 r3, .slice p4 q4 r4, .slice p5 q5 r5, ah nv, .slice p6 q6 r6, .slice p7 q7 r7, .slice p8 q8 r8, .slice p9 q9 r9, .slice p10 q10 r10, .slice p11 q11 r11, .slice p12 q12 r12, .bool we, .slice p13 q13 r13, .slice jP jh jT, .slice jK iZ jH, .slice p16 q16 r16, .slice jL je jS, .slice jI jf jJ])
 go_upto_region 3 with(refine Jl rfl _ _ rfl _ rfl rfl hld rfl (by rfl) (by kernel_rfl) ?_)
 generalize w2.setRow w.heap.size #[ah nu, .slice p1 q1 r1, .slice p2 q2 r2, .slice p3 q3 r3, .slice p4 q4 r4, .slice p5 q5 r5, ah nv, .slice p6 q6 r6, .slice p7 q7 r7, .slice p8 q8 r8, .slice p9 q9 r9, .slice p10 q10 r10, .slice p11 q11 r11, .slice p12 q12 r12, .bool we, .slice p13 q13 r13, .slice jP jh jT, .slice jK iZ jH, .slice p16 q16 r16, .slice jL je jS, .slice jI jf jJ]=w3 at iL HT3 ⊢;clear hld;have HB3:=bx (iL.o.bel (n:=w.heap.size) (W0:=w) (by simp));have iw:=bx (show dS w3 (.agg #[ah nu, .slice p1 q1 r1, .slice p2 q2 r2, .slice p3 q3 r3, .slice p4 q4 r4, .slice p5 q5 r5, ah nv, .slice p6 q6 r6, .slice p7 q7 r7, .slice p8 q8 r8, .slice p9 q9 r9, .slice p10 q10 r10, .slice p11 q11 r11, .slice p12 q12 r12, .bool we, .slice p13 q13 r13, .slice jP jh jT, .slice jK iZ jH, .slice p16 q16 r16, .slice jL je jS, .slice jI jf jJ]) K from uI.o w3 (HT3.o.mono (λk hk=>by have:=eG.o;omega)) HB3.o);have aS:=bx (HS.o.below HB3.o);have aI:=bx (λW (h:ak w3 W)=>(iL.o.blk 0 rfl).below h (iL.o.blk 0 rfl).lt);clear vw o9 lZ iL HT3 uI HB0 HB1 HB2 dU oI HS eG;go_wp2_with fail;refine aP (oU.o _) ?_;clear oU;go_wp2_with fail;refine aP (Dw.o _) ?_;clear Dw;have hcs:cs.size<=60:=mM.o;have hce:ce.size<=20:=Ht.o;have X1:=bx (λW (h:ak w3 W)=>awd A B _ K cs ce W (iw.o.below h) lW.o (by omega) (by omega) (aS.o.below h));obtain⟨ps,hps⟩:∃ p,p=C.mX K cs.data.toList ce.data.toList:=⟨_,rfl⟩
 obtain⟨er,her⟩:∃ r,r=C.qM K cs.data.toList ce.data.toList:=⟨_,rfl⟩
 rw [<- hps,<- her] at X1;have yh:=bx hps;have Ce:=bx her;obtain⟨N,hN⟩:∃ N,ps.length=N:=⟨_,rfl⟩
 have HN:=bx hN;clear hps her;have hld:=aI.o w3 (Below.refl _ w3);go_wp2_with (refine eF rfl _ rfl _ rfl hld rfl ?_)
 refine(X1.o w3 (Below.refl _ w3)).mono ?_;rintro ex w4 ⟨⟨vl,rfl,hvl⟩,hb⟩;clear hld;have HB4:=bx (bT (Below.refl _ w3) hb);have wV:=bx hvl;obtain⟨la,lc,rfl,-⟩:=hvl.slice;rw [hN] at wV ⊢;clear hb hvl
 cases hb:C.bH K with
 | false =>
  have hr:=C.ahW (s:=cs.data.toList) (e:=ce.data.toList) hb;obtain rfl:er=160:=Ce.o.trans hr.2;obtain rfl:N=0:=by rw [<- hN,yh.o,hr.1];rfl
  clear hr hb hcs hce hN
  go_wp2
  go_ret
  exact⟨rfl,bT HB3.o HB4.o⟩
 | true =>
  have h1:cs.data.toList.length<=60:=by rw [<- size_eq];omega
  have h2:ce.data.toList.length<=20:=by rw [<- size_eq];omega
  by_cases h0:ce.data.toList=[]
  ·have hr:=C.acX (s:=cs.data.toList) hb (by omega);rw [<- h0] at hr;obtain rfl:er=163:=Ce.o.trans hr.2;obtain rfl:N=0:=by rw [<- hN,yh.o,hr.1];rfl
   have e1:ce.toList.isEmpty=true:=by rw [MV,h0];rfl
   clear hr hb hcs hce hN h1 h2 h0
   go_wp2
   go_ret
   exact⟨rfl,bT HB3.o HB4.o⟩
  obtain⟨g1,g2,g3,g4,g5,g6,g7⟩:=C.aua hb h1 h2 h0;obtain rfl:er=0:=Ce.o.trans g1;rw [<- yh.o,hN] at g2 g3;rw [<- yh.o] at g4 g5 g6 g7;have hte:textE K.c cs.data.toList=0:=EC hb (by omega);have X2:=bx (λW (h:ak w4 W)=>atq A B _ _ K ps ce W (iw.o.below (bT HB4.o h)) lW.o (wV.o.below h) (by omega) (by omega) (aS.o.below (bT HB4.o h)));rw [g4,g5] at X2;have X4:=bx (λW (h:ak w3 W)=>show Calls prog 33 #[.string cs] W λe' w'=>e' = .returned (.string (bs (M.fix cs.data.toList)))/\ak W w' from wZ A B cs W (by omega) (aS.o.below h).e (aS.o.below h).le);have X5:=bx (λW (h:ak w3 W)=>show Calls prog 33 #[.string ce] W λe' w'=>e' = .returned (.string (bs (M.fix ce.data.toList)))/\ak W w' from wZ A B ce W (by omega) (aS.o.below h).e (aS.o.below h).le);have X6:=bx (λ(a:Int) W (h:ak w3 W)=>ag5 A B _ K.c cs a W (iw.o.below h).tabs lW.o.c (by omega) (aS.o.below h).e (aS.o.below h).d (aS.o.below h).g (aS.o.below h).le hte);have SG:=bx g7;have jq:=bx g6;have hfe:=C.qJ ce.data.toList;obtain⟨fe,Pz⟩:∃ f,f=M.fix ce.data.toList:=⟨_,rfl⟩
  rw [<- Pz] at X5 SG hfe;generalize M.fix cs.data.toList=fx at X2 X4;have q1:((bs fx).toList==(bs fx).toList)=true:=by simp
  have d1:decide ((N:Int)<1)=false:=dh (by omega);have d2:decide ((100:Int)<(N:Int))=false:=dh (by omega);have YC:=bx (show ∀ j,j<=N->C.xU ps fe.length j<=j*240 from λj hj=>by
   unfold C.xU;have h9:((ps.take j).map List.length).sum<=j*180:=by
    have h8:∀ l:List (List UInt8),(∀ x∈l,x.length<=180)->(l.map List.length).sum<=l.length*180:=λl hl=>by
     induction l with
     | nil=>simp
     | cons x t ih =>
      have i1:=hl x (jZ ..);have i2:=ih (λy hy=>hl y (mZ _ hy));rw [iR,List.sum_cons,dY];omega
    have h7:=h8 (ps.take j) (λx hx=>jq.o x (List.mem_of_mem_take hx));rw [dw] at h7;have h6:min j ps.length*180<=j*180:=Nat.mul_le_mul_right _ (by omega);omega
   have h5:j*fe.length<=j*60:=Nat.mul_le_mul_left _ (by omega);omega)
  obtain⟨cg,kN,hla,hcs2⟩:=XQ wV.o HN.o;have uf:=bx hla;have yQ:=bx hcs2;have lG:=bx (show fe.length<=60 by omega);clear hb hcs hce h1 h2 h0 g1 g4 g5 g6 g7 hte Pz hla hcs2 hfe;have hld:=aI.o w4 HB4.o;go_wp2_with (refine eF rfl _ rfl _ rfl hld rfl ?_)
  refine aT (X2.o w4 aZ) λw5 hb=>?_
  clear hld;have bU:=bx (bT HB4.o hb);have LJ:=bx hb;clear hb;go_wp2_with fail
  go_loopw [12,13] (λav iv wr=>∃ (j a:Nat),j<=N/\av = ah a/\iv = ah j/\Box (a=C.xU ps fe.length j)/\Box (ak w4 wr)) (λ_ iv _=>N-(intOf iv).toNat)
  ·exact⟨0,0,by omega,rfl,rfl,⟨by rw [C.VX]⟩,LJ⟩
  obtain⟨j,a,hj,rfl,rfl,ha,hbr⟩:=hrel;have dL:=bx (bT HB4.o hbr.o)
  by_cases hlt:j<N
  ·obtain⟨x,hx⟩:=bV ps j (by rw [HN.o];exact hlt);have hcx:=yQ.o j x hx;obtain⟨rfl,hl1,hl2⟩:=uf.o (by omega);have cx:=(hbr.o.cell (p:=⟨cg,kN+j,none⟩) hcx.1).trans hcx.2;have hgl:=fC hcx.1 hbr.o.size;unfold maxLen at hl2;have hxl:=jq.o x (dB hx);have hol:=YC.o j (by omega);rw [<- ha.o] at hol;have UA:=bx (C.arU (n:=fe.length) hx);have HIS:=bx (SG.o j x hx);obtain⟨b,hb⟩:∃ b,b=a+x.length:=⟨_,rfl⟩
   rw [<- ha.o,<- hb] at HIS;have X6:=bx (X6.o (b:Int));rw [HIS.o] at X6;have hsz:=dN x;have hadd:(a:Int)+((bs x).size:Int)=(b:Int):=by omega
   have Ak:b<=30000:=by omega
   have lK:=bx hb;clear hx hcx hxl hol hb hsz;have hld:=aI.o wr dL.o;obtain⟨e0,e1,e2,e3,e4,e5,e6,e7,e8,e9,e10,e11,e12,e13,e14,e15,e16,e17,e18,e19,e20,el⟩:=hld.c21 aZ;clear hld e6 e7 e8 e9 e10 e11 e12 e13 e14 e15 e16 e17 e18 e19 e20;go_wp2_with fail;refine aT (X6.o wr dL.o) λw6 hb6=>?_
   clear e0 e1 e2 e3 e4 e5 el;have eY:=bx (bT hbr.o hb6);clear hb6 cx hadd;go_wp2_with fail;refine aT (X5.o w6 (bT HB4.o eY.o)) λw7 hb7=>?_
   have bW:=bx (bT eY.o hb7);have hsz:=dN fe;have hfl:=lG.o;obtain⟨c,hc⟩:∃ c,c=b+fe.length:=⟨_,rfl⟩
   have hadd:(b:Int)+((bs fe).size:Int)=(c:Int):=by omega
   have hc9:c<=40000:=by omega
   have UH:=bx (show c=C.xU ps fe.length (j+1) by rw [UA.o,hc,lK.o,ha.o]);clear hb7 hsz hfl hc
   go_wp2
   go_roundw
   ·exact⟨j+1,c,by omega,rfl,by go_num,UH,bW⟩
   simp [intOf];omega
  obtain rfl:N=j:=by omega
  go_wp2_with fail;refine aT (X4.o wr dL.o) λw6 hb6=>?_
  have eY:=bx (bT dL.o hb6);clear hb6
  go_wp2
  go_ret
  exact⟨rfl,bT HB3.o eY.o⟩
end
end Go.Proofs.YtdponihkpomheaaGreatDoor
