/- Texts of this claim. -/
import Derived.Test.YtdponihkpomheaaGreatDoorH7
import Derived.Test.YtdponihkpomheaaGreatDoorH14

set_option maxHeartbeats 8000000
set_option maxRecDepth 100000
namespace Go.Proofs.YtdponihkpomheaaGreatDoor
open Go.RowKit
attribute [local go_sem] Oper.semAt_some
open Tryz
theorem aqG (t:Int) (w:World):Calls prog 280 #[ah t] w λe w'=>e = .returned (.bool (decide (t<0)||decide (31<t)))/\w=w':=by
 go_in
 go_wp2_with fail
 all_goals go_returns
 all_goals exact⟨aY (by first | rfl | (rw [ny];simp;done) | (rw [ny];simp;omega)),rfl⟩
theorem akc (t:Int) (bm:Nat) (na:Option Addr) (L nc:Nat) (w:World) (hc:w.cell? ⟨bm,1,none⟩=some (.slice na L nc)/\bm<w.heap.size) :
  Calls prog 214 #[ah t, aA bm] w λe w'=>e = .returned (.bool (decide (t<0)||decide ((L:Int)<=t)))/\w=w':=by
 obtain⟨hc,hlt⟩:=hc
 go_in
 rcases sZ t 0 with h | h
 ·go_wp2
  go_ret
  exact⟨aY (by simp [h]),rfl⟩
 have e0:decide (t<0)=false:=dh (by omega);clear h
 go_wp2
 go_ret
 exact⟨aY (by rw [e0,Bool.false_or]),rfl⟩
theorem U5 (t:Int) (w:World):Calls prog 219 #[ah t] w λe w'=>e = .returned (.bool (!U.right t))/\w=w':=by
 have HR:=bx (λW=>TG t W)
 go_in
 go_wp2_with fail;refine aP (HR.o _) ?_
 go_wp2
 go_ret
 exact⟨rfl,rfl⟩
theorem aq0 (v:Value) (xs:List Int) (w:World) (hv:aN w v xs) (hz:xs.length<=16777216) :
  Calls prog 279 #[v, .func (.func 280) #[] #[]] w λe w'=>(∃ i:Int,e = .returned (ah i)/\decide (0<=i)=xs.any (λt=>decide (t<0)||decide (31<t)))/\w=w':=by
 have mO:=bx hv;obtain⟨ao,cap,rfl⟩:=hv.slice;have HO:=bx (λt=>aqG t w);clear hv
 go_in
 go_wp2_with fail
 go_loop [8] (λi=>∃ k:Nat,k<=xs.length/\i = ah k/\Box ((xs.take k).any (λt=>decide (t<0)||decide (31<t))=false)) (λi=>xs.length-(intOf i).toNat)
 ·exact⟨0,by omega,rfl,⟨rfl⟩⟩
 obtain⟨k,hk,rfl,ha⟩:=hrel
 by_cases hlt':k<xs.length
 ·obtain⟨x,hx⟩:∃ x,xs[k]?=some x:=⟨_,dW hlt'⟩
  obtain⟨g,off,cap2,hg1,hg2,hg3,hg4,hg5⟩:=mO.o.get (by rintro rfl;simp at hlt');obtain⟨rfl,rfl⟩:=dQ hg1;have hcx:=hg5 k x hx;have HX:=bx hx;unfold maxLen at hg3;clear hx hg1 hg5
  cases hi:(λt=>decide (t<0)||decide (31<t)) x with
  | false =>
   have HT:=bx (show (xs.take (k+1)).any (λt=>decide (t<0)||decide (31<t))=false by rw [jw,HX.o,List.any_append,ha.o,Option.toList_some,List.any_cons,List.any_nil,Bool.or_false,Bool.false_or];exact hi);have HI:=bx hi;clear hi;go_wp2_with fail;refine aP (HO.o x) ?_;rw [HI.o];go_wp2_with fail
   go_round
   ·exact⟨k+1,hlt',by go_num,HT⟩
   simp [intOf];omega
  | true =>
   have HT:=bx (show xs.any (λt=>decide (t<0)||decide (31<t))=true by rw [zO];exact⟨x,dB HX.o,hi⟩);have HI:=bx hi;clear hi;go_wp2_with fail;refine aP (HO.o x) ?_;rw [HI.o]
   go_wp2
   go_ret
   exact⟨⟨k,rfl,by rw [HT.o];simp⟩,rfl⟩
 have HT:=bx (show xs.any (λt=>decide (t<0)||decide (31<t))=false by have:=ha.o;rwa [gq (by omega)] at this)
 go_wp2
 go_ret
 exact⟨⟨-1,rfl,by rw [HT.o];rfl⟩,rfl⟩
theorem au3 (v:Value) (xs:List Int) (w:World) (hv:aN w v xs) (hz:xs.length<=16777216) :
  Calls prog 215 #[v, .func (.func 280) #[] #[]] w λe w'=>e = .returned (.bool (xs.any (λt=>decide (t<0)||decide (31<t))))/\w=w':=by
 have HI:=bx (aq0 v xs w hv hz);clear hv
 go_in
 go_wp2_with fail;refine HI.o.mono ?_;rintro e w1 ⟨⟨i,rfl,hi⟩,rfl⟩;have HX:=bx hi;clear hi
 go_wp2
 go_ret
 exact⟨aY (by simpa using HX.o),rfl⟩
theorem asK (v:Value) (xs:List Int) (bm:Nat) (na:Option Addr) (L nc:Nat) (w:World) (hv:aN w v xs) (hz:xs.length<=16777216) (hc:w.cell? ⟨bm,1,none⟩=some (.slice na L nc)/\bm<w.heap.size) :
  Calls prog 279 #[v, .func (.func 214) #[] #[aA bm]] w λe w'=>(∃ i:Int,e = .returned (ah i)/\decide (0<=i)=xs.any (λt=>decide (t<0)||decide ((L:Int)<=t)))/\w=w':=by
 have mO:=bx hv;obtain⟨ao,cap,rfl⟩:=hv.slice;have HO:=bx (λt=>akc t bm na L nc w hc);clear hv hc
 go_in
 go_wp2_with fail
 go_loop [8] (λi=>∃ k:Nat,k<=xs.length/\i = ah k/\Box ((xs.take k).any (λt=>decide (t<0)||decide ((L:Int)<=t))=false)) (λi=>xs.length-(intOf i).toNat)
 ·exact⟨0,by omega,rfl,⟨rfl⟩⟩
 obtain⟨k,hk,rfl,ha⟩:=hrel
 by_cases hlt':k<xs.length
 ·obtain⟨x,hx⟩:∃ x,xs[k]?=some x:=⟨_,dW hlt'⟩
  obtain⟨g,off,cap2,hg1,hg2,hg3,hg4,hg5⟩:=mO.o.get (by rintro rfl;simp at hlt');obtain⟨rfl,rfl⟩:=dQ hg1;have hcx:=hg5 k x hx;have HX:=bx hx;unfold maxLen at hg3;clear hx hg1 hg5
  cases hi:(λt=>decide (t<0)||decide ((L:Int)<=t)) x with
  | false =>
   have HT:=bx (show (xs.take (k+1)).any (λt=>decide (t<0)||decide ((L:Int)<=t))=false by rw [jw,HX.o,List.any_append,ha.o,Option.toList_some,List.any_cons,List.any_nil,Bool.or_false,Bool.false_or];exact hi);have HI:=bx hi;clear hi;go_wp2_with fail;refine aP (HO.o x) ?_;rw [HI.o];go_wp2_with fail
   go_round
   ·exact⟨k+1,hlt',by go_num,HT⟩
   simp [intOf];omega
  | true =>
   have HT:=bx (show xs.any (λt=>decide (t<0)||decide ((L:Int)<=t))=true by rw [zO];exact⟨x,dB HX.o,hi⟩);have HI:=bx hi;clear hi;go_wp2_with fail;refine aP (HO.o x) ?_;rw [HI.o]
   go_wp2
   go_ret
   exact⟨⟨k,rfl,by rw [HT.o];simp⟩,rfl⟩
 have HT:=bx (show xs.any (λt=>decide (t<0)||decide ((L:Int)<=t))=false by have:=ha.o;rwa [gq (by omega)] at this)
 go_wp2
 go_ret
 exact⟨⟨-1,rfl,by rw [HT.o];rfl⟩,rfl⟩
theorem avQ (v:Value) (xs:List Int) (bm:Nat) (na:Option Addr) (L nc:Nat) (w:World) (hv:aN w v xs) (hz:xs.length<=16777216) (hc:w.cell? ⟨bm,1,none⟩=some (.slice na L nc)/\bm<w.heap.size) :
  Calls prog 215 #[v, .func (.func 214) #[] #[aA bm]] w λe w'=>e = .returned (.bool (xs.any (λt=>decide (t<0)||decide ((L:Int)<=t))))/\w=w':=by
 have HI:=bx (asK v xs bm na L nc w hv hz hc);clear hv hc
 go_in
 go_wp2_with fail;refine HI.o.mono ?_;rintro e w1 ⟨⟨i,rfl,hi⟩,rfl⟩;have HX:=bx hi;clear hi
 go_wp2
 go_ret
 exact⟨aY (by simpa using HX.o),rfl⟩
theorem ari (v:Value) (xs:List Int) (w:World) (hv:aN w v xs) (hz:xs.length<=16777216) :
  Calls prog 279 #[v, .func (.func 219) #[] #[]] w λe w'=>(∃ i:Int,e = .returned (ah i)/\decide (0<=i)=xs.any (λt=>!U.right t))/\w=w':=by
 have mO:=bx hv;obtain⟨ao,cap,rfl⟩:=hv.slice;have HO:=bx (λt=>U5 t w);clear hv
 go_in
 go_wp2_with fail
 go_loop [8] (λi=>∃ k:Nat,k<=xs.length/\i = ah k/\Box ((xs.take k).any (λt=>!U.right t)=false)) (λi=>xs.length-(intOf i).toNat)
 ·exact⟨0,by omega,rfl,⟨rfl⟩⟩
 obtain⟨k,hk,rfl,ha⟩:=hrel
 by_cases hlt':k<xs.length
 ·obtain⟨x,hx⟩:∃ x,xs[k]?=some x:=⟨_,dW hlt'⟩
  obtain⟨g,off,cap2,hg1,hg2,hg3,hg4,hg5⟩:=mO.o.get (by rintro rfl;simp at hlt');obtain⟨rfl,rfl⟩:=dQ hg1;have hcx:=hg5 k x hx;have HX:=bx hx;unfold maxLen at hg3;clear hx hg1 hg5
  cases hi:(λt=>!U.right t) x with
  | false =>
   have HT:=bx (show (xs.take (k+1)).any (λt=>!U.right t)=false by rw [jw,HX.o,List.any_append,ha.o,Option.toList_some,List.any_cons,List.any_nil,Bool.or_false,Bool.false_or];exact hi);have HI:=bx hi;clear hi;go_wp2_with fail;refine aP (HO.o x) ?_;rw [HI.o];go_wp2_with fail
   go_round
   ·exact⟨k+1,hlt',by go_num,HT⟩
   simp [intOf];omega
  | true =>
   have HT:=bx (show xs.any (λt=>!U.right t)=true by rw [zO];exact⟨x,dB HX.o,hi⟩);have HI:=bx hi;clear hi;go_wp2_with fail;refine aP (HO.o x) ?_;rw [HI.o]
   go_wp2
   go_ret
   exact⟨⟨k,rfl,by rw [HT.o];simp⟩,rfl⟩
 have HT:=bx (show xs.any (λt=>!U.right t)=false by have:=ha.o;rwa [gq (by omega)] at this)
 go_wp2
 go_ret
 exact⟨⟨-1,rfl,by rw [HT.o];rfl⟩,rfl⟩
theorem akj (v:Value) (xs:List Int) (w:World) (hv:aN w v xs) (hz:xs.length<=16777216) :
  Calls prog 215 #[v, .func (.func 219) #[] #[]] w λe w'=>e = .returned (.bool (xs.any (λt=>!U.right t)))/\w=w':=by
 have HI:=bx (ari v xs w hv hz);clear hv
 go_in
 go_wp2_with fail;refine HI.o.mono ?_;rintro e w1 ⟨⟨i,rfl,hi⟩,rfl⟩;have HX:=bx hi;clear hi
 go_wp2
 go_ret
 exact⟨aY (by simpa using HX.o),rfl⟩
theorem ML {α:Type} {p q:α->Bool} (h:∀ x,p x=!q x) (l:List α):(!l.any p)=l.all q:=by
 induction l with
 | nil=>rfl
 | cons x t ih=>rw [List.any_cons,List.all_cons,Bool.not_or,ih,h,Bool.not_not]
theorem apz (v:Value) (xs:List Int) (w:World) (hv:aN w v xs) (hz:xs.length<=16777216) :
  Calls prog 217 #[v] w λe w'=>e = .returned (.bool (F.sG xs))/\w=w':=by
 have HC:=bx (au3 v xs w hv hz);have HA:=bx (ML (p:=λt:Int=>decide (t<0)||decide (31<t)) (q:=λv=>decide (0<=v)&&decide (v<=31)) (λx=>by rw [ny];simp <;> omega) xs);obtain⟨a,cap,rfl⟩:=hv.slice;obtain⟨N,hN⟩:∃ N,xs.length=N:=⟨_,rfl⟩
 rw [hN] at HC ⊢;have HN:=bx hN;generalize xs.any (λt:Int=>decide (t<0)||decide (31<t))=b at HC HA;clear hv hN
 by_cases h:N=256
 ·have e1:((N:Int)==256)=true:=by rw [lN];omega
  have HB:=bx (show F.sG xs=!b by unfold F.sG;rw [HA.o,HN.o,bD h,Bool.true_and]);clear h
  go_in
  go_wp2_with fail;refine aP HC.o ?_
  go_wp2
  go_ret
  exact⟨aY (by rw [HB.o]),rfl⟩
 have e1:((N:Int)==256)=false:=by rw [fG];omega
 have HB:=bx (show F.sG xs=false by unfold F.sG;rw [HN.o,dh h,Bool.false_and]);clear h
 go_in
 go_wp2
 go_ret
 exact⟨aY HB.o.symm,rfl⟩
theorem apW (v:Value) (xs:List Int) (w:World) (hv:aN w v xs) (hz:xs.length<=16777216) :
  Calls prog 216 #[v] w λe w'=>e = .returned (.bool (!F.sG xs))/\w=w':=by
 have HC:=bx (apz v xs w hv hz);clear hv
 go_in
 go_wp2_with fail;refine aP HC.o ?_
 go_wp2
 go_ret
 exact⟨rfl,rfl⟩
theorem arn (v:Value) (bl:List (List Int)) (w:World) (hv:iF w v bl) (hz:bl.length<=16777216) (hzz:∀ r∈bl,r.length<=16777216) :
  Calls prog 218 #[v, .func (.func 216) #[] #[]] w λe w'=>(∃ i:Int,e = .returned (ah i)/\decide (0<=i)=bl.any (λr=>!F.sG r))/\w=w':=by
 have mO:=bx hv;obtain⟨ao,cap,rfl⟩:=hv.slice;have HO:=bx (λu r (h:aN w u r) (hr:r∈bl)=>apW u r w h (hzz r hr));clear hv hzz
 go_in
 go_wp2_with fail
 go_loop [8] (λi=>∃ k:Nat,k<=bl.length/\i = ah k/\Box ((bl.take k).any (λr=>!F.sG r)=false)) (λi=>bl.length-(intOf i).toNat)
 ·exact⟨0,by omega,rfl,⟨rfl⟩⟩
 obtain⟨k,hk,rfl,ha⟩:=hrel
 by_cases hlt':k<bl.length
 ·obtain⟨x,hx⟩:∃ x,bl[k]?=some x:=⟨_,dW hlt'⟩
  obtain⟨g,off,cap2,hg1,hg2,hg3,hg4,hg5⟩:=mO.o.get (by rintro rfl;simp at hlt');obtain⟨rfl,rfl⟩:=dQ hg1;obtain⟨u,hcx,Ou⟩:=hg5 k x hx;have HX:=bx hx;have tC:=bx (HO.o u x Ou (dB hx));unfold maxLen at hg3;clear hx hg1 hg5 Ou
  cases hi:F.sG x with
  | true =>
   have HT:=bx (show (bl.take (k+1)).any (λr=>!F.sG r)=false by rw [jw,HX.o,List.any_append,ha.o,Option.toList_some,List.any_cons,hi];rfl);have HI:=bx hi;clear hi;go_wp2_with fail;refine aP tC.o ?_;rw [HI.o];go_wp2_with fail
   go_round
   ·exact⟨k+1,hlt',by go_num,HT⟩
   simp [intOf];omega
  | false =>
   have HT:=bx (show bl.any (λr=>!F.sG r)=true by rw [zO];exact⟨x,dB HX.o,by rw [hi];rfl⟩);have HI:=bx hi;clear hi;go_wp2_with fail;refine aP tC.o ?_;rw [HI.o]
   go_wp2
   go_ret
   exact⟨⟨k,rfl,by rw [HT.o];simp⟩,rfl⟩
 have HT:=bx (show bl.any (λr=>!F.sG r)=false by have:=ha.o;rwa [gq (by omega)] at this)
 go_wp2
 go_ret
 exact⟨⟨-1,rfl,by rw [HT.o];rfl⟩,rfl⟩
theorem akQ (v:Value) (bl:List (List Int)) (w:World) (hv:iF w v bl) (hz:bl.length<=16777216) (hzz:∀ r∈bl,r.length<=16777216) :
  Calls prog 128 #[v, .func (.func 216) #[] #[]] w λe w'=>e = .returned (.bool (bl.any (λr=>!F.sG r)))/\w=w':=by
 have HI:=bx (arn v bl w hv hz hzz);clear hv hzz
 go_in
 go_wp2_with fail;refine HI.o.mono ?_;rintro e w1 ⟨⟨i,rfl,hi⟩,rfl⟩;have HX:=bx hi;clear hi
 go_wp2
 go_ret
 exact⟨aY (by simpa using HX.o),rfl⟩
theorem MZ (v:Value) (t:F.Trie) (w:World) (hv:Gf w v t) (h1:t.1.length<=100000) (h2:t.2.length<=100000) (hzz:∀ r∈t.2,r.length<=16777216) :
  Calls prog 125 #[v] w λe w'=>e = .returned (.bool (F.nT t))/\ak w w':=by
 rw [F.UR];obtain⟨xs,bl⟩:=t;obtain⟨iv,bv,rfl,hiv,hbv⟩:=hv;simp only at hiv hbv h1 h2 hzz ⊢;obtain⟨ia,ic,rfl⟩:=hiv.slice;obtain⟨ba,bc,rfl⟩:=hbv.slice;obtain⟨N,hN⟩:∃ N,xs.length=N:=⟨_,rfl⟩
 obtain⟨M,hM⟩:∃ M,bl.length=M:=⟨_,rfl⟩
 obtain⟨V,hV⟩:∃ V,V=w.alloc (.cells #[.slice ia N ic, .slice ba M bc] 25):=⟨_,rfl⟩
 have fV:=bx (aB hV);have hkk:aC V w.heap.size 25 #[.slice ia N ic, .slice ba M bc]:=by rw [hV];exact aC.new _ _ _
 rw [hN] at hiv ⊢;rw [hM] at hbv ⊢;have c0:V.cell? ⟨w.heap.size,0,none⟩=some (.slice ia N ic):=(hkk.cell 0).trans rfl;have c1:V.cell? ⟨w.heap.size,1,none⟩=some (.slice ba M bc):=(hkk.cell 1).trans rfl;have cl:=hkk.lt;have BH:=bx (avQ (.slice ia N ic) xs w.heap.size ba M bc V (hiv.below fV.o) (by omega) ⟨c1,cl⟩);have H7:=bx (akQ (.slice ba M bc) bl V (hbv.below fV.o) (by omega) hzz);have HA1:=bx (ML (p:=λt:Int=>decide (t<0)||decide ((M:Int)<=t)) (q:=λn=>decide (0<=n)&&decide (n<(M:Int))) (λx=>by rw [ny];simp <;> omega) xs);have HA2:=bx (ML (p:=λr=>!F.sG r) (q:=F.sG) (λ_=>rfl) bl);rw [<- HA1.o,<- HA2.o];generalize xs.any (λt:Int=>decide (t<0)||decide ((M:Int)<=t))=p1 at BH ⊢;generalize bl.any (λr=>!F.sG r)=p2 at H7 ⊢;have HV:=bx hV;clear hiv hbv hN hM hV hkk hzz
 by_cases h:N=4352
 ·have e1:((N:Int)==4352)=true:=by rw [lN];omega
  rw [bD h,Bool.true_and];clear h
  go_in
  go_upto_region 1 with(fail)
  rw [<- HV.o];go_wp2_with fail;refine aP BH.o ?_
  cases p1 with
  | true =>
   go_wp2
   go_ret
   exact⟨rfl,fV.o⟩
  | false =>
   go_wp2_with fail;refine aP H7.o ?_
   go_wp2
   go_ret
   exact⟨aY (by simp),fV.o⟩
 have e1:((N:Int)==4352)=false:=by rw [fG];omega
 rw [dh h,Bool.false_and,Bool.false_and];clear h
 go_in
 go_upto_region 1 with(fail)
 rw [<- HV.o]
 go_wp2
 go_ret
 exact⟨rfl,fV.o⟩
theorem ajw (v:Value) (xs:List Int) (w:World) (hv:aN w v xs) (hz:xs.length<=16777216) :
  Calls prog 220 #[v] w λe w'=>e = .returned (.bool (T.toB xs))/\w=w':=by
 have HC:=bx (akj v xs w hv hz);have HA:=bx (ML (p:=λt:Int=>!U.right t) (q:=U.right) (λ_=>rfl) xs);obtain⟨a,cap,rfl⟩:=hv.slice;obtain⟨N,hN⟩:∃ N,xs.length=N:=⟨_,rfl⟩
 rw [hN] at HC ⊢;have HN:=bx hN;generalize xs.any (λt:Int=>!U.right t)=b at HC HA;clear hv hN
 by_cases h:N<=3
 ·have e1:decide ((N:Int)<=3)=true:=bD (by omega);have HB:=bx (show T.toB xs=!b by unfold T.toB;rw [HA.o,HN.o,bD h,Bool.true_and]);clear h
  go_in
  go_wp2_with fail;refine aP HC.o ?_
  go_wp2
  go_ret
  exact⟨aY (by rw [HB.o]),rfl⟩
 have e1:decide ((N:Int)<=3)=false:=dh (by omega);have HB:=bx (show T.toB xs=false by unfold T.toB;rw [HN.o,dh h,Bool.false_and]);clear h
 go_in
 go_wp2
 go_ret
 exact⟨aY HB.o.symm,rfl⟩
theorem ahf {r:Int} (h:U.right r=true):0<=r:=by
 unfold U.right at h;simp only [dD,fD,Bool.or_eq_true] at h;omega
def MF (l:List F.Map) (k:Nat):Int:=if k=0 then -1 else (l.getD (k-1) (0,[])).1
theorem adn (v:Value) (l:List F.Map) (w:World) (hv:rF w v l) (hz:l.length<=100000) (Ph:∀ x∈l,x.2.length<=100000) :
  Calls prog 129 #[v] w λe w'=>e = .returned (.bool (T.uP 600 l))/\ak w w':=by
 have HV:=bx hv;obtain⟨a,cap,rfl,hc1,hc2⟩:=hv.slice;obtain⟨N,hN⟩:∃ N,l.length=N:=⟨_,rfl⟩
 rw [hN] at HV hz hc1 ⊢;have HN:=bx hN;have Yh:=bx Ph;clear hv hN Ph
 go_in
 go_wp2_with fail
 go_loopw [8,3] (λi la wr=>∃ k:Nat,k<=N/\i = ah k/\la = ah (MF l k)/\Box (∀ j,j<k->T.EF l j=true)/\Box (ak w wr)) (λi _ _=>N-(intOf i).toNat)
 ·exact⟨0,by omega,rfl,rfl,⟨λj h=>by omega⟩,⟨Below.refl _ _⟩⟩
 obtain⟨k,hk,rfl,rfl,hok,hb⟩:=hrel
 by_cases hlt:k<N
 ·obtain⟨x,hx⟩:=bV l k (by rw [HN.o];exact hlt);obtain⟨g,off,cap2,hg1,hg2,hg3,hg4,hg5⟩:=(HV.o.below hb.o).get (by rintro rfl;simp at hx);rw [HN.o] at hg1 hg2;obtain⟨rfl,rfl⟩:=dQ hg1;obtain⟨x0,u,x1,hu⟩:=hg5 k x hx;obtain⟨ua,uc,rfl⟩:=hu.slice;have hgd:l.getD k (0,[])=x:=by rw [fO,hx];rfl
  have Eu:=bx (show T.EF l k=(U.right x.1&&(decide (k=0)||decide ((l.getD (k-1) (0,[])).1<x.1))&&T.toB x.2) by unfold T.EF;rw [hgd]);have F8:=bx (show MF l (k+1)=x.1 by unfold MF;rw [aF (by omega),Nat.add_sub_cancel,hgd]);have aal:=bx (λ(h:T.EF l k=false)=>show T.uP 600 l=false by
   unfold T.uP;rw [T.acp,amJ (k:=k) (x:=k) (by rw [yj (by rw [HN.o];exact hlt)]) h,Bool.false_and])
  have jX:=bx (λW=>U5 x.1 W);have qK:=bx (λW (h:ak wr W)=>ajw (.slice ua x.2.length uc) x.2 W (hu.below h) (by have:=Yh.o x (dB hx);omega));have HB1:=bx (dA wr (.cells #[ah x.1, .slice ua x.2.length uc] 272));have bM:=bx (bt hb.o HB1.o);obtain⟨LA,Xm⟩:∃ LA,MF l k=LA:=⟨_,rfl⟩
  rw [Xm];have uf:=bx Xm;unfold maxLen at hg3;clear hx hg1 hg5 hgd hu Xm
  cases hr:U.right x.1 with
  | false =>
   rw [hr] at jX Eu;have HF:=bx (aal.o (by rw [Eu.o];rfl));clear hr;go_wp2_with fail;refine aP (jX.o _) ?_
   go_wp2
   go_ret
   exact⟨aY HF.o.symm,bM.o⟩
  | true =>
   rw [hr] at jX Eu;have hpos:=ahf hr
   by_cases hlo:LA<x.1
   ·have e1:decide (x.1<=LA)=false:=dh (by omega);have Og:=bx (show (decide (k=0)||decide ((l.getD (k-1) (0,[])).1<x.1))=true by
     rcases Ah k with h0 | h0
     ·rw [bD h0];rfl
     have h1:=uf.o;unfold MF at h1;rw [aF (by omega)] at h1;rw [h1,bD hlo,Bool.or_true])
    clear hr hpos hlo
    cases hto:T.toB x.2 with
    | true =>
     rw [hto] at qK Eu;have AP:=bx (show ∀ j,j<k+1->T.EF l j=true from λj hj=>by
      rcases gZ j k with h1 | h1
      ·exact hok.o j h1
      obtain rfl:j=k:=by omega
      rw [Eu.o,Og.o];rfl)
     clear hto;go_wp2_with fail;refine aP (jX.o _) ?_;go_wp2_with fail;refine aP (qK.o _ HB1.o) ?_
     go_wp2
     go_roundw
     ·exact⟨k+1,hlt,by go_num,by rw [F8.o],AP,bM⟩
     simp [intOf];omega
    | false =>
     rw [hto] at qK Eu;have HF:=bx (aal.o (by rw [Eu.o,Bool.and_false]));clear hto;go_wp2_with fail;refine aP (jX.o _) ?_;go_wp2_with fail;refine aP (qK.o _ HB1.o) ?_
     go_wp2
     go_ret
     exact⟨aY HF.o.symm,bM.o⟩
   have e1:decide (x.1<=LA)=true:=bD (by omega);have HF:=bx (aal.o (by
    have h1:=uf.o;unfold MF at h1
    by_cases h0:k=0
    ·rw [aG h0] at h1;omega
    rw [aF h0] at h1;rw [Eu.o,h1,dh hlo,dh h0];rfl))
   clear hr hpos hlo;go_wp2_with fail;refine aP (jX.o _) ?_
   go_wp2
   go_ret
   exact⟨aY HF.o.symm,bM.o⟩
 obtain rfl:k=N:=by omega
 have HA:=bx (show T.uP 600 l=decide (k<=600) by
  unfold T.uP;rw [T.acp,HN.o,show (List.range k).all (T.EF l)=true by rw [jG];exact λj hj=>hok.o j (oM.1 hj),Bool.true_and])
 go_wp2
 go_ret
 exact⟨aY (by rw [HA.o,ny];simp;omega),hb.o⟩
theorem ZF (v:Value) (c:T.Cs) (w:World) (hv:o8 w v c) (hs:T.Small c) :
  Calls prog 65 #[v] w λe w'=>e = .returned (.bool (T.lI 600 c))/\ak w w':=by
 rw [ae3];obtain⟨lv,tv,ci,cb,gi,gb,rfl,h1,h2,h3,h4,h5,h6⟩:=hv;have pF:=bx (λW (h:ak w W)=>adn lv c.lo W (h1.below h) hs.lo hs.loA);have E8:=bx (λW (h:ak w W)=>adn tv c.ti W (h2.below h) hs.ti hs.tiA);have HT1:=bx (λW (h:ak w W)=>MZ (.agg #[ci,cb]) c.ca W ⟨_,_,rfl,h3.below h,h4.below h⟩ hs.c1 hs.c2 hs.c3);have HT2:=bx (λW (h:ak w W)=>MZ (.agg #[gi,gb]) c.ig W ⟨_,_,rfl,h5.below h,h6.below h⟩ hs.g1 hs.g2 hs.g3);generalize T.uP 600 c.lo=b1 at pF ⊢;generalize T.uP 600 c.ti=b2 at E8 ⊢;generalize F.nT c.ca=b3 at HT1 ⊢;generalize F.nT c.ig=b4 at HT2 ⊢;obtain⟨V,hV⟩:∃ V,V=w.alloc (.cells #[lv,tv,ci,cb,gi,gb] 36):=⟨_,rfl⟩
 have HB0:=bx (aB hV);have HK:=bx (aK hV);have aI:=bx (λW (h:ak V W)=>HK.o.d6 h);have HV:=bx hV;clear h1 h2 h3 h4 h5 h6 hs hV
 go_in
 go_upto_region 1 with(fail)
 rw [<- HV.o];obtain⟨Q,hQ⟩:∃ Q,w.heap.size=Q:=⟨_,rfl⟩
 rw [hQ] at aI ⊢;clear hQ HV;have HW0:=bx (Below.refl V.heap.size V);obtain⟨k0,k1,k2,k3,k4,k5,kl⟩:=aI.o V HW0.o;go_wp2_with fail;refine dI (pF.o V (bt HB0.o HW0.o)) HW0.o λV1 HW1=>?_
 clear k0 k1 k2 k3 k4 k5 kl;obtain⟨k0,k1,k2,k3,k4,k5,kl⟩:=aI.o V1 HW1.o
 cases b1 with
 | false =>
  go_wp2
  go_ret
  exact⟨aY (by simp),bt HB0.o HW1.o⟩
 | true =>
  go_wp2_with fail;refine dI (E8.o V1 (bt HB0.o HW1.o)) HW1.o λV2 HW2=>?_
  clear k0 k1 k2 k3 k4 k5 kl;obtain⟨k0,k1,k2,k3,k4,k5,kl⟩:=aI.o V2 HW2.o
  cases b2 with
  | false =>
   go_wp2
   go_ret
   exact⟨aY (by simp),bt HB0.o HW2.o⟩
  | true =>
   go_wp2_with fail;refine dI (HT1.o V2 (bt HB0.o HW2.o)) HW2.o λV3 HW3=>?_
   clear k0 k1 k2 k3 k4 k5 kl;obtain⟨k0,k1,k2,k3,k4,k5,kl⟩:=aI.o V3 HW3.o
   cases b3 with
   | false =>
    go_wp2
    go_ret
    exact⟨aY (by simp),bt HB0.o HW3.o⟩
   | true =>
    go_wp2_with fail;refine dI (HT2.o V3 (bt HB0.o HW3.o)) HW3.o λV4 IG=>?_
    clear k0 k1 k2 k3 k4 k5 kl;obtain⟨k0,k1,k2,k3,k4,k5,kl⟩:=aI.o V4 IG.o
    go_wp2
    go_ret
    exact⟨aY (by simp),bt HB0.o IG.o⟩
theorem agt {w:World} {iv bv:Value} {t:F.Trie} (hi:aN w iv t.1) (hb:iF w bv t.2) (ht:F.nT t=true) (r:Nat) (hr:r<=1114111) :
  ∃ g off cap n g2 off2 cap2 g3 Eb cap3,iv = .slice (some ⟨g,off,none⟩) 4352 cap/\4352<=cap/\cap<=9223372036854775807/\g<w.heap.size/\w.cell? ⟨g,off+r / 256,none⟩=some (ah (n:Nat))/\n<t.2.length /\
   bv = .slice (some ⟨g2,off2,none⟩) t.2.length cap2/\t.2.length<=cap2/\cap2<=9223372036854775807/\g2<w.heap.size/\w.cell? ⟨g2,off2+n,none⟩=some (.slice (some ⟨g3,Eb,none⟩) 256 cap3)/\256<=cap3/\cap3<=9223372036854775807/\g3<w.heap.size/\w.cell? ⟨g3,Eb+r % 256,none⟩=some (ah (F.says t (r:Int))):=by
 rw [F.UR] at ht;simp only [dD,fD,jG] at ht;obtain⟨⟨h1,h2⟩,h3⟩:=ht;have hd:r / 256<4352:=by omega
 obtain⟨z,hz⟩:=bV t.1 (r / 256) (by omega);obtain⟨z0,z1⟩:=h2 z (dB hz);obtain⟨n,rfl⟩:=oJ z0;have hn:n<t.2.length:=by omega
 obtain⟨b,hbn⟩:=bV t.2 n hn;have hbb:=h3 b (dB hbn);unfold F.sG at hbb;rw [dD,fD] at hbb;obtain⟨y,hy⟩:=bV b (r % 256) (by rw [hbb.1];omega);have aly:F.says t (r:Int)=y:=by
  unfold F.says;rw [mG,fO (l:=t.1),hz,jE,mG,fO (l:=t.2),hbn,jE,fO,hy,jE]
 obtain⟨g,off,cap,a1,a2,a3,a4,a5⟩:=hi.get (by rintro e;rw [e] at h1;simp at h1);obtain⟨g2,off2,cap2,b1,b2,b3,b4,b5⟩:=hb.get (by rintro e;rw [e] at hn;simp at hn);obtain⟨x,hx,hxi⟩:=b5 n b hbn;obtain⟨g3,Eb,cap3,c1,c2,c3,c4,c5⟩:=hxi.get (by rintro rfl;simp at hbb);unfold maxLen at a3 b3 c3;rw [h1] at a1 a2;rw [hbb.1] at c1 c2;exact⟨g,off,cap,n,g2,off2,cap2,g3,Eb,cap3,a1,a2,by omega,a4,a5 _ _ hz,hn,b1,b2,by omega,b4,by rw [hx,c1],c2,by omega,c4,by rw [aly];exact c5 _ _ hy⟩
theorem aam (v:Value) (t:F.Trie) (r:Nat) (w:World) (hv:Gf w v t) (hs:t.1.length<=100000/\t.2.length<=100000/\∀ r∈t.2,r.length<=16777216) (ht:F.nT t=true) (hr:r<=1114111) :
  Calls prog 313 #[v, ah (r:Int)] w λe w'=>e = .returned (ah (F.says t (r:Int)))/\ak w w':=by
 obtain⟨iv,bv,rfl,hi,hb⟩:=hv;obtain⟨V,hV⟩:∃ V,V=w.alloc (.cells #[iv,bv] 25):=⟨_,rfl⟩
 have HB0:=bx (aB hV);have HK:=bx (aK hV);have iU:=bx (λW (h:ak w W)=>show Calls prog 125 #[.agg #[iv,bv]] W λe w'=>e = .returned (.bool true)/\ak W w' by
  have h9:=MZ (.agg #[iv,bv]) t W ⟨iv,bv,rfl,hi.below h,hb.below h⟩ hs.1 hs.2.1 hs.2.2;rw [ht] at h9;exact h9)
 have uH:=bx (λW (h:ak w W)=>agt (hi.below h) (hb.below h) ht r hr);have HV:=bx hV;have k0:=(HK.o.cell 0).trans (show _=some iv from rfl);have k1:=(HK.o.cell 1).trans (show _=some bv from rfl);have kl:=HK.o.lt;generalize F.says t (r:Int)=y at uH ⊢;generalize t.2.length=M at uH;have e0:decide ((r:Int)<0)=false:=dh (by omega);have e1:decide ((1114111:Int)<(r:Int))=false:=dh (by omega);clear hi hb hs ht hV
 go_in
 go_upto_region 1 with(fail)
 rw [<- HV.o];go_wp2_with fail;refine aT (iU.o _ HB0.o) λw1 hb1=>?_
 have HB1:=aJ HB0 hb1;obtain⟨g,off,cap,n,g2,off2,cap2,g3,Eb,cap3,rfl,a2,a3,a4,a5,a6,rfl,b2,b3,b4,b5,c2,c3,c4,c5⟩:=uH.o w1 HB1.o;have hk:=HK.o.below hb1 HK.o.lt;have m0:=(hk.cell 0).trans (show _=some (Value.slice (some ⟨g,off,none⟩) 4352 cap) from rfl);have m1:=(hk.cell 1).trans (show _=some (Value.slice (some ⟨g2,off2,none⟩) M cap2) from rfl);have ml:=hk.lt;clear hk hb1 k0 k1 kl;obtain⟨d,hd⟩:∃ d,r / 256=d:=⟨_,rfl⟩
 obtain⟨q,hq⟩:∃ q,r % 256=q:=⟨_,rfl⟩
 have hd1:d<4352:=by omega
 have hq1:q<256:=by omega
 have td:(r:Int).tdiv 256=(d:Int):=by rw [<- hd];rfl
 have tm:(r:Int).tmod 256=(q:Int):=by rw [<- hq];rfl
 rw [hd] at a5;rw [hq] at c5;clear hd hq;go_wp2_with fail;have HDR:=bx (λm=>HB1.o.trans ((uT w1 m).mono HB1.o.size))
 go_quiet (fail)
 go_wp2
 go_ret
 exact⟨rfl,HDR.o _⟩
structure wS (N:Nat) (ns:List Nat):Prop where
 up:∀ i,i+1<ns.length->ns.getD i 0<ns.getD (i+1) 0
 le:∀ i,i<ns.length->ns.getD i 0<=N
 ne:0<ns.length
 first:ns.getD 0 0=0
 last:ns.getD (ns.length-1) 0=N
theorem axq {ns:List Nat} (h:ns.Pairwise (·<·)) (i:Nat) (hi:i+1<ns.length):ns.getD i 0<ns.getD (i+1) 0:=by
 rw [fO,fO,dW (by omega),dW hi,jE,jE];exact List.pairwise_iff_getElem.1 h i (i+1) (by omega) hi (by omega)
theorem arh (R:List D.Rule) (M:D.gJ) (nn:Nat) (L:List Int) (k:Nat):(ER R M nn L k).Pairwise (·<·)/\∀ x∈ER R M nn L k,1<=x/\x<=k:=by
 unfold ER
 constructor
 ·refine List.Pairwise.filter _ ?_;rw [List.pairwise_map];exact List.pairwise_lt_range.imp (λh=>by omega)
 intro x hx;obtain⟨y,hy,rfl⟩:=jM.1 (List.mem_filter.1 hx).1;rw [oM] at hy;omega
theorem arq (R:List D.Rule) (M:D.gJ) (nn:Nat) (L:List Int):∃ ns:List Nat,Af R M nn L=ns.map (λn:Nat=>(n:Int))/\wS L.length ns:=by
 obtain⟨h1,h2⟩:=arh R M nn L (L.length-1);unfold Af;generalize ER R M nn L (L.length-1)=m at h1 h2
 by_cases h0:0<L.length
 ·refine⟨(0::m)++[L.length],by rw [aG h0,gX];rfl,?_⟩;have hp:((0::m)++[L.length]).Pairwise (·<·):=by
   rw [List.pairwise_append];refine⟨List.pairwise_cons.2 ⟨λx hx=>by have:=h2 x hx;omega,h1⟩,List.pairwise_singleton _ _,λx hx y hy=>?_⟩;rw [fU] at hy;subst hy
   rcases fB.1 hx with rfl | hx
   ·exact h0
   have:=h2 x hx;omega
  refine⟨axq hp,λi hi=>?_,by simp,rfl,?_⟩
  ·rw [fO,dW hi,jE];have hm:=List.getElem_mem hi
   rcases lM.1 hm with hm | hm
   ·rcases fB.1 hm with hm | hm
    ·omega
    have:=h2 _ hm;omega
   rw [fU] at hm;omega
  rw [fO,bC,List.length_singleton,Nat.add_sub_cancel,yD aU,Nat.sub_self]
  rfl
 have hm:m=[]:=by
  cases m with
  | nil=>rfl
  | cons x t=>have:=h2 x (jZ ..);omega
 refine⟨[0],by rw [aF h0,hm];rfl,⟨λi hi=>by simp at hi,λi hi=>?_,by simp,rfl,by simp;omega⟩⟩;simp at hi;subst hi;simp
namespace T
def Ap (c:Cs) (l:List Int) (ns:List Nat) (k:Nat):List Int:=(List.range k).flatMap λi=>word c l (ns.getD i 0) (ns.getD (i+1) 0)
theorem aa9 (c:Cs) (l:List Int) (ns:List Nat) (k:Nat):Ap c l ns (k+1)=Ap c l ns k++word c l (ns.getD k 0) (ns.getD (k+1) 0):=by
 unfold Ap;rw [List.range_succ,oz,pq,List.flatMap_nil,oG]
theorem aeX {m:Nat} {c:Cs} (h:lI m c=true) {l:List Int} (hl:∀ x∈l,U.right x=true) {ns:List Nat} (hn:wS l.length ns):∀ k,k+1<=ns.length->Fine (ns.getD k 0) (Ap c l ns k)
 | 0,_=>by rw [hn.first];exact Fine.nil
 | k+1,hk=>by
  rw [aa9];have h1:=hn.up k (by omega);have h2:=(aeX h hl hn k (by omega)).append (ao0 h hl (ns.getD k 0) (ns.getD (k+1) 0) (hn.le (k+1) (by omega)))
  rwa [show ns.getD k 0+(ns.getD (k+1) 0-ns.getD k 0)=ns.getD (k+1) 0 by omega] at h2
end T
namespace C
open Go.Proofs.YtdponihkpomheaaGreatDoor
def gQ (xs:List Int) (k:Nat):Nat:=(U.textOf (xs.take k)).length
theorem asU (xs:List Int):gQ xs 0=0:=rfl
theorem akY (xs:List Int):gQ xs xs.length=(U.textOf xs).length:=by unfold gQ;rw [mQ]
theorem aho (xs:List Int) (k:Nat):U.textOf xs=U.textOf (xs.take k)++U.textOf (xs.drop k):=by rw [<- U.Fq,oN]
theorem ahX (xs:List Int) (k:Nat):(U.textOf xs).drop (gQ xs k)=U.textOf (xs.drop k):=by
 unfold gQ
 conv=>lhs;rw [aho xs k]
 rw [List.drop_append,List.drop_length,Nat.sub_self]
 rfl
theorem aeC (xs:List Int) (k:Nat):(U.textOf xs).take (gQ xs k)=U.textOf (xs.take k):=by
 unfold gQ
 conv=>lhs;rw [aho xs k]
 rw [List.take_append,mQ,Nat.sub_self,qN,oG]
theorem P5 (xs:List Int) (a n:Nat):gQ xs (a+n)=gQ xs a+(U.textOf (T.part xs a n)).length:=by
 unfold gQ T.part;rw [List.take_add,U.Fq,bC]
theorem YG (xs:List Int) {a b:Nat} (h:a<=b):gQ xs a<=gQ xs b:=by
 obtain⟨n,rfl⟩:=Nat.exists_eq_add_of_le h;rw [P5];omega
theorem aex (xs:List Int) (k:Nat):gQ xs k<=(U.textOf xs).length:=by
 have:=aeC xs k;have h:=congrArg List.length this;rw [dw] at h;unfold gQ at *;omega
theorem aij {l:List Int} (h:l≠[]):1<=(U.textOf l).length:=by
 cases l with
 | nil=>exact absurd rfl h
 | cons x t =>
  unfold U.textOf;rw [pq,bC];have:=(U.Jo x).1;omega
theorem avX (xs:List Int) {a b:Nat} (h:a<b) (hb:b<=xs.length):gQ xs a<gQ xs b:=by
 obtain⟨n,rfl⟩:=Nat.exists_eq_add_of_le (G9 h);rw [P5];have:=aij (l:=T.part xs a n) (by
  intro h0;have:=congrArg List.length h0;unfold T.part at this;rw [dw,gy,iG] at this;omega)
 omega
theorem aiH (xs:List Int) {a b:Nat} (h:a<=b):((U.textOf xs).drop (gQ xs a)).take (gQ xs b-gQ xs a)=U.textOf (T.part xs a (b-a)):=by
 rw [ahX];obtain⟨n,rfl⟩:=Nat.exists_eq_add_of_le h;rw [P5,Nat.add_sub_cancel_left,Nat.add_sub_cancel_left];unfold T.part;have:=aeC (xs.drop a) n;unfold gQ at this;exact this
theorem av2 (xs:List Int) (hx:∀ x∈xs,U.right x=true) {k:Nat} (hk:k<xs.length):U.dec ((U.textOf xs).drop (gQ xs k))=some (xs.getD k 0,(U.enc (xs.getD k 0)).length):=by
 rw [ahX,zS hk];unfold U.textOf;rw [pq,fO,dW hk,jE];exact U.ahh _ (hx _ (List.getElem_mem hk)) _
theorem awc (xs:List Int) {k:Nat} (hk:k<xs.length):gQ xs (k+1)=gQ xs k+(U.enc (xs.getD k 0)).length:=by
 rw [P5];unfold T.part;rw [zS hk,wM,qN,fO,dW hk,jE];unfold U.textOf;rw [pq,List.flatMap_nil,oG]
def places (xs:List Int) (ns:List Nat):List Nat:=ns.map (gQ xs)
def piece (xs:List Int) (ns:List Nat) (i:Nat):List UInt8:=U.textOf (T.part xs (ns.getD i 0) (ns.getD (i+1) 0-ns.getD i 0))
def pieces (xs:List Int) (ns:List Nat):List (List UInt8):=(List.range (ns.length-1)).map (piece xs ns)
theorem IQ (xs:List Int) (ns:List Nat):(places xs ns).length=ns.length:=by unfold places;rw [aV]
theorem pieces_len (xs:List Int) (ns:List Nat):(pieces xs ns).length=ns.length-1:=by unfold pieces;rw [aV,wF]
theorem CZ (xs:List Int) (ns:List Nat) {i:Nat} (h:i<ns.length):(places xs ns).getD i 0=gQ xs (ns.getD i 0):=by
 unfold places;rw [fO,eX,dW h,Option.map_some,jE,fO,dW h,jE]
theorem avk (xs:List Int) (ns:List Nat) {i:Nat} (h:i+1<ns.length):(pieces xs ns).getD i []=piece xs ns i:=by
 unfold pieces;rw [fO,eX,yj (by omega)]
 rfl
theorem aom {xs:List Int} {ns:List Nat} (hr:wS xs.length ns) {i:Nat} (h:i+1<ns.length) :
  piece xs ns i=((U.textOf xs).drop ((places xs ns).getD i 0)).take ((places xs ns).getD (i+1) 0-(places xs ns).getD i 0):=by
 rw [CZ xs ns (i:=i) (by omega),CZ xs ns h,aiH xs (G9 (hr.up i h))]
 rfl
theorem ajs {xs:List Int} {ns:List Nat} (hr:wS xs.length ns) {i:Nat} (h:i+1<ns.length):(piece xs ns i).length=(places xs ns).getD (i+1) 0-(places xs ns).getD i 0:=by
 have h1:=hr.up i h;rw [CZ xs ns (i:=i) (by omega),CZ xs ns h];unfold piece;have:=P5 xs (ns.getD i 0) (ns.getD (i+1) 0-ns.getD i 0);rw [show ns.getD i 0+(ns.getD (i+1) 0-ns.getD i 0)=ns.getD (i+1) 0 by omega] at this;omega
theorem acF {xs:List Int} {ns:List Nat} (hr:wS xs.length ns):(places xs ns).getD 0 0=0:=by rw [CZ xs ns hr.ne,hr.first];rfl
theorem aiW {xs:List Int} {ns:List Nat} (hr:wS xs.length ns):(places xs ns).getD (ns.length-1) 0=(U.textOf xs).length:=by
 rw [CZ xs ns (by have:=hr.ne;omega),hr.last,akY]
theorem abn {xs:List Int} {ns:List Nat} (hr:wS xs.length ns) {i:Nat} (h:i+1<ns.length):(places xs ns).getD i 0<(places xs ns).getD (i+1) 0:=by
 rw [CZ xs ns (i:=i) (by omega),CZ xs ns h];exact avX xs (hr.up i h) (hr.le (i+1) h)
theorem Ns {xs:List Int} {ns:List Nat} {i:Nat} (h:i<ns.length):(places xs ns).getD i 0<=(U.textOf xs).length:=by
 rw [CZ xs ns h];exact aex xs _
theorem aah {xs:List Int} {ns:List Nat} (hr:wS xs.length ns):∀ k,k<ns.length->((pieces xs ns).take k).flatten=(U.textOf xs).take ((places xs ns).getD k 0)
 | 0,_=>by rw [acF hr];rfl
 | k+1,h=>by
  have ih:=aah hr k (by omega);have hl:k<(pieces xs ns).length:=by rw [pieces_len];omega
  rw [Ja hl,rH,ih];have hp:(pieces xs ns)[k]=piece xs ns k:=by
   have:=avk xs ns h;rw [fO,dW hl,jE] at this;exact this
  have hup:=abn hr h;rw [hp,aom hr h,pY,List.flatten_nil,oG];have:=List.take_add (l:=U.textOf xs) (i:=(places xs ns).getD k 0) (j:=(places xs ns).getD (k+1) 0-(places xs ns).getD k 0);rw [show (places xs ns).getD k 0+((places xs ns).getD (k+1) 0-(places xs ns).getD k 0)=(places xs ns).getD (k+1) 0 by omega] at this;exact this.symm
theorem abl {xs:List Int} {ns:List Nat} (hr:wS xs.length ns):(pieces xs ns).flatten=U.textOf xs:=by
 have:=aah hr (ns.length-1) (by have:=hr.ne;omega);rw [aiW hr,mQ,<- pieces_len xs ns,mQ] at this;exact this
theorem PI {xs:List Int} (hx:∀ x∈xs,U.right x=true) (a n:Nat):∀ x∈T.part xs a n,U.right x=true:=λx hx2=>by
 unfold T.part at hx2;exact hx x (List.mem_of_mem_drop (List.mem_of_mem_take hx2))
theorem amj {xs:List Int} (hx:∀ x∈xs,U.right x=true) (ns:List Nat) (i:Nat):U.scalars (piece xs ns i)=some (T.part xs (ns.getD i 0) (ns.getD (i+1) 0-ns.getD i 0)) :=
 (U.zJ _ _).2 ⟨rfl,PI hx _ _⟩
theorem alk {xs:List Int} {ns:List Nat} (hr:wS xs.length ns) {i:Nat} (h:i+1<ns.length):1<=(piece xs ns i).length:=by
 rw [ajs hr h];have:=abn hr h;omega
theorem qJ:∀ s:List UInt8,(M.fix s).length<=3*s.length:=by
 refine M.QJ (by simp [M.ali]) (λs hs ih=>?_);have hu:=M.Ku hs;rw [M.Nu hs,bC];rw [gy] at ih
 split
 ·rw [dw];omega
 rw [show M.mark.length=3 from rfl];omega
end C
theorem ap7 {l:List F.Map} {r:Int} (h:∀ (j:Nat) (y:F.Map),j<l.length->l[j]?=some y->y.1≠r):T.becomes l r=[r]:=by
 unfold T.becomes;have:l.find? (λx=>x.1==r)=none:=by
  rw [List.find?_eq_none];intro x hx;obtain⟨i,hi,e⟩:=List.getElem_of_mem hx;have:=h i x hi (by rw [dW hi,e])
  simpa using this
 rw [this]
theorem ajv {l:List F.Map} {r:Int} {k:Nat} {x:F.Map} (hx:l[k]?=some x) (hr:x.1=r) (h:∀ (j:Nat) (y:F.Map),j<k->l[j]?=some y->y.1≠r):T.becomes l r=x.2:=by
 unfold T.becomes;have:l.find? (λx=>x.1==r)=some x:=by
  rw [List.find?_eq_some_iff_getElem];obtain⟨hk,e⟩:=dO hx;refine⟨by simpa using hr,k,hk,e,λj hj=>?_⟩;have:=h j l[j] hj (dW (by omega))
  simpa using this
 rw [this]
theorem clone_any (v:Value) (xs:List Int) (w:World) (hv:aN w v xs) (hz:xs.length<=100000) :
  Calls prog 317 #[v] w λe w'=>(∃ v',e = .returned v'/\aN w' v' xs/\∀ g,v'.ownBlock=some g->w.heap.size<=g/\g<w'.heap.size)/\ak w w':=by
 obtain⟨a,cap,rfl⟩:=hv.slice
 cases a with
 | none =>
  obtain⟨rfl,rfl⟩:xs=[]/\cap=0:=by
   rcases hv with⟨h1,h2⟩ | ⟨b,off,sp,cap2,h1,_⟩
   ·injection h1 with _ _ h3;exact⟨h2,h3⟩
   injection h1 with h1;cases h1
  rw [iG];have hq:∀ W,(binOp .eql 22 (aj) (aj)).run prog W = .ok (.bool true) W:=λW=>by kernel_rfl
  go_in
  go_wp2
  go_ret
  exact⟨⟨_,rfl, .inl ⟨rfl,rfl⟩,λg hg=>by cases hg⟩,Below.refl _ _⟩
 | some ad =>
  have HU:=bx (MW (hv.below (dA w (.cells #[] 3))));have bQ:=bx (show Sep [Pc.row w.heap.size 3 1 (.slice (some ⟨w.heap.size,0,none⟩) 0 0) 0 [],Pc.old w.heap.size w] (w.alloc (.cells #[] 3)) from
   (Sep.start w).add (dA w _) (World.ownsRow_lit (base:=w.heap.size) (e:=3) (size:=1) w #[] 0 aU (by unfold maxLen;omega) rfl) (λk hk=>by simp [Pc.row,Value.ownBlock] at hk;omega))
  have hbs:w.heap.size<=(w.alloc (.cells #[] 3)).heap.size:=by simp
  have hq:∀ W,(binOp .eql 22 (.slice (some ad) xs.length cap) (aj)).run prog W = .ok (.bool false) W:=λW=>by kernel_rfl
  clear hv
  go_in
  go_wp2_with (at_builtin;refine Dv rfl _ _ 22 rfl Gz (by decide) bQ.o 0 rfl rfl rfl HU.o (by rw [aV,Nat.mul_one]) (by intro z hz;obtain⟨q,-,rfl⟩:=jM.1 hz;rfl) (by omega) (by omega) hbs ?_;rintro v7 w7 hS7)
  have hrow:=hS7.row 0 rfl;have HI:=bx (show aN w7 v7 xs by
   rw [Nat.zero_add,iJ] at hrow;exact aN.iy hrow rfl)
  have HF:=bx (λg hg=>hrow.lt g hg);have bW:=bx (hS7.bel (n:=w.heap.size) (W0:=w) (by simp));clear hS7 hrow
  go_wp2
  go_ret
  exact⟨⟨_,rfl,HI.o,HF.o⟩,bW.o⟩
theorem avi (x1 r:Int) (a:Option Addr) (n c b:Nat) (w:World) (hc:w.cell? ⟨b,0,none⟩=some (ah r)) (hl:b<w.heap.size) :
  Calls prog 316 #[.agg #[ah x1, .slice a n c], aA b] w λe w'=>e = .returned (.bool (x1==r))/\ak w w':=by
 have HB:=bx (dA w (.cells #[ah x1, .slice a n c] 272));have h1:=(HB.o.cell (p:=⟨b,0,none⟩) hl).trans hc;clear hc
 go_in
 go_wp2
 go_ret
 exact⟨rfl,HB.o⟩
def ZL (l:List F.Map) (r:Int) (i:Int):Prop:=(i=-1/\T.becomes l r=[r])\/∃ (k:Nat) (x:F.Map),i=(k:Int)/\l[k]?=some x/\T.becomes l r=x.2
theorem at1 (v:Value) (l:List F.Map) (r:Int) (b:Nat) (w:World) (hv:rF w v l) (hz:l.length<=100000) (hc:w.cell? ⟨b,0,none⟩=some (ah r)) (hl:b<w.heap.size) :
  Calls prog 315 #[v, .func (.func 316) #[] #[aA b]] w λe w'=>(∃ i,e = .returned (ah i)/\ZL l r i)/\ak w w':=by
 have HV:=bx hv;obtain⟨a,cap,rfl,hc1,hc2⟩:=hv.slice;obtain⟨N,hN⟩:∃ N,l.length=N:=⟨_,rfl⟩
 rw [hN] at HV hz hc1 ⊢;have HN:=bx hN;have lK:=bx (λx1 ua un uc W (h:ak w W)=>avi x1 r ua un uc b W ((h.cell (p:=⟨b,0,none⟩) hl).trans hc) (fC hl h.size));clear hv hN hc
 go_in
 go_wp2_with fail
 go_loopw [8] (λi wr=>∃ k:Nat,k<=N/\i = ah k/\Box (∀ (j:Nat) (y:F.Map),j<k->l[j]?=some y->y.1≠r)/\Box (ak w wr)) (λi _=>N-(intOf i).toNat)
 ·exact⟨0,by omega,rfl,⟨λj y h=>by omega⟩,⟨Below.refl _ _⟩⟩
 obtain⟨k,hk,rfl,hno,hb⟩:=hrel
 by_cases hlt:k<N
 ·obtain⟨x,hx⟩:=bV l k (by rw [HN.o];exact hlt);obtain⟨g,off,cap2,hg1,hg2,hg3,hg4,hg5⟩:=(HV.o.below hb.o).get (by rintro rfl;simp at hx);rw [HN.o] at hg1 hg2;obtain⟨rfl,rfl⟩:=dQ hg1;obtain⟨x0,u,x1,hu⟩:=hg5 k x hx;obtain⟨ua,uc,rfl⟩:=hu.slice;have HX:=bx hx;have HC:=bx (lK.o x.1 ua x.2.length uc wr hb.o);unfold maxLen at hg3;clear hx hg1 hg5 hu
  by_cases he:x.1=r
  ·have HT:=bx (show (x.1==r)=true by rw [lN];exact he);have HH:=bx (show ZL l r (k:Int) from .inr ⟨k,x,rfl,HX.o,ajv HX.o he hno.o⟩);clear he;rw [HT.o] at HC;go_wp2_with fail;refine dI HC.o hb.o λw1 HB1=>?_
   go_wp2
   go_ret
   exact⟨⟨_,rfl,HH.o⟩,HB1.o⟩
  have HT:=bx (show (x.1==r)=false by rw [fG];exact he);have AP:=bx (upto_succ hno.o HX.o he);clear he;rw [HT.o] at HC;go_wp2_with fail;refine dI HC.o hb.o λw1 HB1=>?_
  go_wp2
  go_roundw
  ·exact⟨k+1,by omega,by go_num,AP,HB1⟩
  simp [intOf];omega
 obtain rfl:k=N:=by omega
 have HH:=bx (show ZL l r (-1) from .inl ⟨rfl,ap7 (λj y hj hy=>hno.o j y (by rw [<- HN.o];exact hj) hy)⟩)
 go_wp2
 go_ret
 exact⟨⟨_,rfl,HH.o⟩,hb.o⟩
theorem aeB (v:Value) (l:List F.Map) (r:Int) (w:World) (hv:rF w v l) (hz:l.length<=100000) (Ph:∀ x∈l,x.2.length<=100000) :
  Calls prog 291 #[v, ah r] w λe w'=>(∃ v',e = .returned v'/\aN w' v' (T.becomes l r)/\∀ g,v'.ownBlock=some g->w.heap.size<=g/\g<w'.heap.size)/\ak w w':=by
 have HB0:=bx (dA w (.cells #[ah r] 3));have HK:=bx (aC.new w 3 #[ah r]);have HV:=bx hv;have HIX:=bx (at1 v l r w.heap.size (w.alloc (.cells #[ah r] 3)) (hv.below HB0.o) hz ((HK.o.cell 0).trans rfl) HK.o.lt);have Yh:=bx Ph;obtain⟨a,cap,rfl,hc1,hc2⟩:=hv.slice;obtain⟨N,hN⟩:∃ N,l.length=N:=⟨_,rfl⟩
 rw [hN] at HV HIX hz hc1 ⊢;have HN:=bx hN;clear hv hN Ph
 go_in
 go_wp2_with fail;refine HIX.o.mono ?_;rintro e w1 ⟨⟨i,rfl,hi⟩,hb1⟩;have HB1:=aJ HB0 hb1;have hk:=HK.o.below hb1 HK.o.lt;have k0:=(hk.cell 0).trans (show _=some (Value.int .i64 r) from rfl);have kl:=hk.lt;have dU:=bx HB1.o.size;clear hk hb1
 rcases hi with⟨rfl,hbe⟩ | ⟨k,x,rfl,hx,hbe⟩
 ·have lK:=bx hbe;have HI:=bx (af9 w1 r 3);have HB2:=bx (HB1.o.trans ((dA w1 (.cells #[ah r] 3)).mono HB1.o.size));clear hbe
  go_wp2
  go_ret
  exact⟨⟨_,rfl,by rw [lK.o];exact HI.o,λg hg=>by simp [Value.ownBlock] at hg;subst hg;exact⟨dU.o,by simp⟩⟩,HB2.o⟩
 have lK:=bx hbe;have hkN:k<N:=by rw [<- HN.o];exact(dO hx).1
 obtain⟨g,off,cap2,hg1,hg2,hg3,hg4,hg5⟩:=(HV.o.below HB1.o).get (by rintro rfl;simp at hx);rw [HN.o] at hg1 hg2;obtain⟨rfl,rfl⟩:=dQ hg1;obtain⟨x0,u,x1,hu⟩:=hg5 k x hx;have kK:=bx (clone_any u x.2 w1 hu (Yh.o x (dB hx)));have e0:decide ((k:Int)<0)=false:=dh (by omega);unfold maxLen at hg3;clear hbe hx hg1 hg5 hu k0 kl;go_wp2_with fail;refine kK.o.mono ?_;rintro e w2 ⟨⟨v',rfl,hv',hfr⟩,hb2⟩;have NG:=bx hv';have Dz:=bx hfr;have HB2:=aJ HB1 hb2;clear hv' hfr hb2
 go_wp2
 go_ret
 exact⟨⟨_,rfl,by rw [lK.o];exact NG.o,λg hg=>⟨bP dU.o (Dz.o g hg).1,(Dz.o g hg).2⟩⟩,HB2.o⟩
theorem XP (v:Value) (c:T.Cs) (r:Int) (w:World) (hv:o8 w v c) (hs:T.Small c) (hc:T.lI 600 c=true) (hr:U.right r=true) :
  Calls prog 290 #[v, ah r] w λe w'=>e = .returned (ah 0)/\ak w w':=by
 have lu:=bx (λW (h:ak w W)=>hv.below h);obtain⟨lv,tv,ci,cb,gi,gb,rfl,h1,h2,h3,h4,h5,h6⟩:=hv;obtain⟨V,hV⟩:∃ V,V=w.alloc (.cells #[lv,tv,ci,cb,gi,gb] 36):=⟨_,rfl⟩
 have HB0:=bx (aB hV);have HK:=bx (aK hV);have aI:=bx (λW (h:ak V W)=>HK.o.d6 h);have HV:=bx hV;have iU:=bx (λW (h:ak w W)=>hc▸ZF _ c W (lu.o W h) hs);have kX:=bx (λW=>U5 r W);rw [hr] at kX;clear h1 h2 h3 h4 h5 h6 hs hc hr hV;obtain⟨k0,k1,k2,k3,k4,k5,kl⟩:=aI.o V aZ
 go_in
 go_upto_region 1 with(fail)
 rw [<- HV.o];go_wp2_with fail;refine dI (iU.o _ HB0.o) HB0.o λw1 HB1=>?_
 clear k0 k1 k2 k3 k4 k5 kl;go_wp2_with fail;refine aP (kX.o _) ?_
 go_wp2
 go_ret
 exact⟨rfl,HB1.o⟩
theorem axy (v:Value) (c:T.Cs) (r:Int) (w:World) (hv:o8 w v c) (hs:T.Small c) (hc:T.lI 600 c=true) (hr:U.right r=true) :
  Calls prog 293 #[v, ah r] w λe w'=>(∃ v',e = .returned (.tuple #[v', ah 0])/\aN w' v' (T.becomes c.lo r)/\∀ g,v'.ownBlock=some g->w.heap.size<=g/\g<w'.heap.size)/\ak w w':=by
 have lu:=bx (λW (h:ak w W)=>hv.below h);obtain⟨lv,tv,ci,cb,gi,gb,rfl,h1,h2,h3,h4,h5,h6⟩:=hv;obtain⟨V,hV⟩:∃ V,V=w.alloc (.cells #[lv,tv,ci,cb,gi,gb] 36):=⟨_,rfl⟩
 have HB0:=bx (aB hV);have HK:=bx (aK hV);have aI:=bx (λW (h:ak V W)=>HK.o.d6 h);have HV:=bx hV;have H7:=bx (λW (h:ak w W)=>XP _ c r W (lu.o W h) hs hc hr);have lK:=bx (λW (h:ak w W)=>aeB lv c.lo r W (h1.below h) hs.lo hs.loA);clear h1 h2 h3 h4 h5 h6 hs hc hr hV;obtain⟨k0,k1,k2,k3,k4,k5,kl⟩:=aI.o V aZ
 go_in
 go_upto_region 1 with(fail)
 rw [<- HV.o];go_wp2_with fail;refine aT (H7.o _ HB0.o) λw1 hb1=>?_
 have HB1:=aJ HB0 hb1;clear k0 k1 k2 k3 k4 k5 kl;obtain⟨k0,k1,k2,k3,k4,k5,kl⟩:=aI.o w1 hb1;clear hb1;go_wp2_with fail;refine(lK.o _ HB1.o).mono ?_;rintro e w2 ⟨⟨v',rfl,hv',hfr⟩,hb2⟩;have NG:=bx hv';have Dz:=bx hfr;have dU:=bx HB1.o.size;have HB2:=aJ HB1 hb2;clear hv' hfr hb2
 go_wp2
 go_ret2
 exact⟨⟨_,rfl,NG.o,λg hg=>⟨bP dU.o (Dz.o g hg).1,(Dz.o g hg).2⟩⟩,HB2.o⟩
theorem aoc (v:Value) (c:T.Cs) (r:Int) (w:World) (hv:o8 w v c) (hs:T.Small c) (hc:T.lI 600 c=true) (hr:U.right r=true) :
  Calls prog 244 #[v, ah r] w λe w'=>(∃ v',e = .returned (.tuple #[v', ah 0])/\aN w' v' (T.becomes c.ti r)/\∀ g,v'.ownBlock=some g->w.heap.size<=g/\g<w'.heap.size)/\ak w w':=by
 have lu:=bx (λW (h:ak w W)=>hv.below h);obtain⟨lv,tv,ci,cb,gi,gb,rfl,h1,h2,h3,h4,h5,h6⟩:=hv;obtain⟨V,hV⟩:∃ V,V=w.alloc (.cells #[lv,tv,ci,cb,gi,gb] 36):=⟨_,rfl⟩
 have HB0:=bx (aB hV);have HK:=bx (aK hV);have aI:=bx (λW (h:ak V W)=>HK.o.d6 h);have HV:=bx hV;have H7:=bx (λW (h:ak w W)=>XP _ c r W (lu.o W h) hs hc hr);have lK:=bx (λW (h:ak w W)=>aeB tv c.ti r W (h2.below h) hs.ti hs.tiA);clear h1 h2 h3 h4 h5 h6 hs hc hr hV;obtain⟨k0,k1,k2,k3,k4,k5,kl⟩:=aI.o V aZ
 go_in
 go_upto_region 1 with(fail)
 rw [<- HV.o];go_wp2_with fail;refine aT (H7.o _ HB0.o) λw1 hb1=>?_
 have HB1:=aJ HB0 hb1;clear k0 k1 k2 k3 k4 k5 kl;obtain⟨k0,k1,k2,k3,k4,k5,kl⟩:=aI.o w1 hb1;clear hb1;go_wp2_with fail;refine(lK.o _ HB1.o).mono ?_;rintro e w2 ⟨⟨v',rfl,hv',hfr⟩,hb2⟩;have NG:=bx hv';have Dz:=bx hfr;have dU:=bx HB1.o.size;have HB2:=aJ HB1 hb2;clear hv' hfr hb2
 go_wp2
 go_ret2
 exact⟨⟨_,rfl,NG.o,λg hg=>⟨bP dU.o (Dz.o g hg).1,(Dz.o g hg).2⟩⟩,HB2.o⟩
theorem Xd {r:Int} (h:U.right r=true):∃ n:Nat,r=(n:Int)/\n<=1114111:=by
 have h0:=ahf h;unfold U.right at h;simp only [dD,fD,Bool.or_eq_true] at h;exact⟨r.toNat,by omega,by omega⟩
theorem alC (v:Value) (c:T.Cs) (r:Int) (w:World) (hv:o8 w v c) (hs:T.Small c) (hc:T.lI 600 c=true) (hr:U.right r=true) :
  Calls prog 289 #[v, ah r] w λe w'=>e = .returned (.tuple #[.bool (T.cased c r), .bool (T.fP c r), ah 0])/\ak w w':=by
 obtain⟨rn,hrn,hrz⟩:=Xd hr;have lu:=bx (λW (h:ak w W)=>hv.below h);obtain⟨lv,tv,ci,cb,gi,gb,rfl,h1,h2,h3,h4,h5,h6⟩:=hv;obtain⟨V,hV⟩:∃ V,V=w.alloc (.cells #[lv,tv,ci,cb,gi,gb] 36):=⟨_,rfl⟩
 have HB0:=bx (aB hV);have HK:=bx (aK hV);have aI:=bx (λW (h:ak V W)=>HK.o.d6 h);have HV:=bx hV;have H7:=bx (λW (h:ak w W)=>XP _ c r W (lu.o W h) hs hc hr);have htt:=hc;rw [ae3] at htt;simp only [dD] at htt;obtain⟨⟨-,ht1⟩,ht2⟩:=htt;have mV:=bx (λW (h:ak w W)=>hrn▸aam (.agg #[ci,cb]) c.ca rn W ⟨_,_,rfl,h3.below h,h4.below h⟩ ⟨hs.c1,hs.c2,hs.c3⟩ ht1 hrz);have iV:=bx (λW (h:ak w W)=>hrn▸aam (.agg #[gi,gb]) c.ig rn W ⟨_,_,rfl,h5.below h,h6.below h⟩ ⟨hs.g1,hs.g2,hs.g3⟩ ht2 hrz);unfold T.cased T.fP;generalize F.says c.ca r=y1 at mV ⊢;generalize F.says c.ig r=y2 at iV ⊢;clear h1 h2 h3 h4 h5 h6 hs hc hr hV ht1 ht2 hrn hrz;obtain⟨k0,k1,k2,k3,k4,k5,kl⟩:=aI.o V aZ
 go_in
 go_upto_region 1 with(fail)
 rw [<- HV.o];go_wp2_with fail;refine aT (H7.o _ HB0.o) λw1 hb1=>?_
 have HB1:=aJ HB0 hb1;have HW1:=bx hb1;clear k0 k1 k2 k3 k4 k5 kl hb1;obtain⟨Inv,hI1,hI2⟩:∃ Inv:World->Prop,(∀ W,Inv W->ak w1 W)/\(∀ W,ak w1 W->Inv W):=⟨_,λ_ h=>h,λ_ h=>h⟩
 have iT:=bx (show ∀ q:CW Inv,ak w1 q.w from λq=>hI1 _ q.h);have BK:=bx (show ∀ (q:CW Inv) w',Below q.w.heap.size q.w w'->Inv w' from λq w' h=>hI2 _ ((iT.o q).trans (h.mono (iT.o q).size)));have YU:=bx (λq:CW Inv=>HB1.o.trans ((iT.o q).mono HB1.o.size));have QM:=bx (λq:CW Inv=>HW1.o.trans ((iT.o q).mono HW1.o.size));have q2:∀ q:CW Inv,q.w.cell? ⟨w.heap.size,2,none⟩=some ci:=λq=>(aI.o _ (QM.o q)).2.2.1
 have q3:∀ q:CW Inv,q.w.cell? ⟨w.heap.size,3,none⟩=some cb:=λq=>(aI.o _ (QM.o q)).2.2.2.1
 have q4:∀ q:CW Inv,q.w.cell? ⟨w.heap.size,4,none⟩=some gi:=λq=>(aI.o _ (QM.o q)).2.2.2.2.1
 have q5:∀ q:CW Inv,q.w.cell? ⟨w.heap.size,5,none⟩=some gb:=λq=>(aI.o _ (QM.o q)).2.2.2.2.2.1
 have K1:=bx (λq:CW Inv=>PK (mV.o q.w (YU.o q)) rfl (BK.o q));have K2:=bx (λq:CW Inv=>PK (iV.o q.w (YU.o q)) rfl (BK.o q));have HDR:=bx (hI2 _ (jg w1 1));clear hI1 hI2;go_wp2_with fail;refine Aq Inv (by kernel_rfl) (by kernel_rfl) HDR.o (λhne=>?_)
 iterate 4 (first | go_big_quiet_step ((go_at_call 313;exact K1.o _)) | quiet_step ((go_at_call 313;exact K1.o _)))
 clear K1
 iterate 9 (first | go_big_quiet_step ((go_at_call 313;exact K2.o _)) | quiet_step ((go_at_call 313;exact K2.o _)))
 refine wpQuiet_nil ?_;rintro w7 ⟨q7,rfl⟩;have bW:=bx (YU.o q7);clear q2 q3 q4 q5 hne;go_wp2_with fail
 go_ret3
 exact⟨rfl,bW.o⟩
def T.wrong (c:T.Cs) (xs:List Int):Int:=if T.lI 600 c=false then 140 else if 2000<xs.length then 121 else if xs.all U.right=false then 10 else 0
theorem aN.part {w:World} {b off cap:Nat} {xs:List Int} (h:aN w (.slice (some ⟨b,off,none⟩) xs.length cap) xs) (i j cap':Nat) (hij:i<=j) (hj:j<=xs.length) (hc:j-i<=cap') (hz:cap'<=maxLen) (ad:Addr) (had:i<j->ad=(⟨b,off,none⟩:Addr).add i) :
  aN w (.slice (some ad) (j-i) cap') ((xs.take j).drop i):=by
 have hl:((xs.take j).drop i).length=j-i:=by rw [gy,dw,sH hj]
 rcases h with⟨h1,h2⟩ | ⟨b2,off2,sp2,cap2,h1,h2,h3,h4⟩
 ·cases h1
 injection h1 with e1 e2 e3;injection e1 with e1;injection e1 with e4 e5 e6;subst e4 e5 e6;obtain⟨ab,ao,as_⟩:=ad;refine .inr ⟨ab,ao,as_,cap',by rw [hl],by rw [hl];exact hc,hz,λhn=>?_⟩;have hlt:i<j:=by
  rcases gZ i j with h | h
  ·exact h
  exact absurd (nR (by rw [hl];omega)) hn
 have hxs:xs≠[]:=by rintro rfl;simp at hj;omega
 obtain⟨-,h5,h6⟩:=h4 hxs;have hd:=had hlt;unfold Addr.add at hd;have e7:ab=b/\ao=off+i/\as_=none:=by
  by_cases h0:i=0
  ·subst h0;simp at hd;exact⟨hd.1,by omega,hd.2.2⟩
  simp [h0] at hd;exact⟨hd.1,by omega,hd.2.2⟩
 obtain⟨rfl,rfl,rfl⟩:=e7;refine⟨rfl,h5,λk x hx=>?_⟩;rw [xY,wE] at hx
 split at hx
 ·have:=h6 (i+k) x hx;rw [show off+i+k=off+(i+k) by omega];exact this
 cases hx
def ED (n:Nat) (W0:World) (ov:Value) (l:List Int):List Pc:=[Pc.row n 3 1 ov l.length (l.map (Value.int .i64)),Pc.old n W0]
theorem T.aoY {c:T.Cs} {xs:List Int} (h:T.wrong c xs=0):T.lI 600 c=true/\xs.length<=2000/\∀ x∈xs,U.right x=true:=by
 unfold T.wrong at h
 split at h
 ·cases h
 rename_i h1
 split at h
 ·cases h
 rename_i h2
 split at h
 ·cases h
 rename_i h3
 exact⟨by simpa using h1,by omega,by simpa using h3⟩
theorem aei {P:Program} {T K E:TypeId} (hm:P.underlying T=some (.map K E)) (hk:P.underlying K=some (.int .i64)) (W:World) (es:Array MapEntry) (clk:Nat) (k:Int) (n:Nat) (hg:W.heap[n]?=some (.map es clk)) (hik:DJ es) (z:Value) (hz:(zeroValue E).run P W = .ok z W) :
  (Instr.lookup T (.map (some n)) (ah k) true).run P W = .ok (.tuple #[(Az es k).getD z, .bool (Az es k).isSome]) W:=by
 have h1:(Instr.checkKey es.isEmpty 10000 K (ah k)).run P W = .ok () W:=MapKept.run_checkKey hk (by simp [MapKept.IsKey]) _ 9999
 rcases Qd k es.toList 0 hik with⟨hf,hl⟩ | ⟨j,v,hf,hl,_⟩
 ·have h2:=MapKept.run_findKey (P:=P) (w:=W) hk hf;unfold Instr.lookup;rw [Ey hik,hl];simp only [Sem.run_bind,run_underlying hm,Result.andThen,MapKept.run_getObj_map hg,h1,h2,Sem.run_pure,if_true,hz,Option.getD_none,Option.isSome_none]
 have h2:=MapKept.run_findKey (P:=P) (w:=W) hk hf;unfold Instr.lookup;rw [Ey hik,hl];simp only [Sem.run_bind,run_underlying hm,Result.andThen,MapKept.run_getObj_map hg,h1,h2,Sem.run_pure,if_true,jE,Option.isSome_some]
def nS (W:World) (km:Nat) (c:T.Cs):Prop:=∃ es clk,W.heap[km]?=some (.map es clk)/\DJ es/\∀ q v,Az es q=some v->v = .agg #[.bool (T.cased c q), .bool (T.fP c q)]
theorem nS.lt {W:World} {km:Nat} {c:T.Cs} (h:nS W km c):km<W.heap.size:=by
 obtain⟨es,clk,h,-⟩:=h;exact(fF.1 h).1
theorem nS.block {W W':World} {km:Nat} {c:T.Cs} (h:nS W km c) (hb:W'.heap[km]?=W.heap[km]?):nS W' km c:=by
 obtain⟨es,clk,h1,h2,h3⟩:=h;exact⟨es,clk,hb.trans h1,h2,h3⟩
theorem nS.turns {own:Nat->Prop} {W W':World} {km:Nat} {c:T.Cs} (h:nS W km c) (ht:Turns own W W') (ho:¬ own km):nS W' km c:=h.block (ht.block _ h.lt ho)
def Pc.known (km:Nat) (c:T.Cs):Pc where
 fp k:=k=km
 ok W:=nS W km c
 keep:=λ{_ _ _} h ht ho=>h.turns ht (ho km rfl)
 lt:=λ{_ _} h hk=>hk▸h.lt
theorem LH {w:World} {k:Nat} {o:Obj} (h:w.heap[k]?=some o):k<w.heap.size:=(fF.1 h).1
theorem Xo {own:Nat->Prop} {W V w':World} (hb:ak W V) (ht:Turns (λk=>W.heap.size<=k\/own k) V w'):Turns own W w' :=
 ⟨ht.os.trans hb.os,ht.tape.trans hb.tape,ht.output.trans hb.output,bP hb.size ht.size,λk hk ho=>(ht.block k (fC hk hb.size) (by rintro(h | h);omega;exact ho h)).trans (hb.block k hk)⟩
theorem atA (W:World):(zeroValue 329).run prog W = .ok (.agg #[.bool false, .bool false]) W:=by kernel_rfl
theorem acY:(prog.info? 329).map (·.size)=some 2:=by kernel_rfl
theorem YJ (g km:Nat) (lv tv ci cb gi gb lval ov:Value) (c:T.Cs) (r:Int) (W:World) (hb:aC W g 232 #[lv,tv,ci,cb,gi,gb, .map (some km),lval,ov]) (hv:o8 W (.agg #[lv,tv,ci,cb,gi,gb]) c) (hs:T.Small c) (hc:T.lI 600 c=true) (hr:U.right r=true)
  (hk:nS W km c) :
  Calls prog 243 #[aA g, ah r] W λe w'=>e = .returned (.agg #[.bool (T.cased c r), .bool (T.fP c r)])/\Turns (λk=>k=km) W w'/\nS w' km c:=by
 obtain⟨es,clk,hm,hik,hes⟩:=hk;obtain⟨V,hV⟩:∃ V,V=W.alloc (.cells #[.bool false, .bool false] 329):=⟨_,rfl⟩
 have fV:=bx (aB hV);have dM:=bx (aK hV);have HV:=bx hV;have hml:=(fF.1 hm).1;have oC:=bx (show V.heap[km]?=some (.map es clk) from(fV.o.block km hml).trans hm);have HG:=bx (hb.below fV.o hb.lt);have g6:V.cell? ⟨g,6,none⟩=some (.map (some km)):=(HG.o.cell 6).trans rfl;have Hr:=bx (λW' (h:ak V W')=>alC _ c r W' (hv.below (bt fV.o h)) hs hc hr);have hlk:=aei underlying228 underlying3 V es clk r km oC.o hik _ (atA V);have hgl:=hb.lt;clear hV hm hb hv hs hc hr
 cases hq:Az es r with
 | some v =>
  rw [hq,jE,Option.isSome_some,hes r v hq] at hlk;have HQ:=bx (show nS V km c from⟨es,clk,oC.o,hik,hes⟩);clear hq hes hik;have v0:V.cell? ⟨W.heap.size,0,none⟩=some (.bool false):=(dM.o.cell 0).trans rfl;have v1:V.cell? ⟨W.heap.size,1,none⟩=some (.bool false):=(dM.o.cell 1).trans rfl;have f0:=dM.o.frozen 0;have f1:=dM.o.frozen 1;have vl:=dM.o.lt
  go_in
  go_upto_region 1 with(fail)
  rw [<- HV.o];go_wp2_with fail;have HT:=bx (show Turns (λk=>k=km) W (((V.setCell ⟨W.heap.size,0,none⟩ (.bool (T.cased c r))).setCell ⟨W.heap.size,1,none⟩ (.bool (T.fP c r))).alloc (.cells #[.bool (T.cased c r), .bool (T.fP c r)] 329)) from
   Xo fV.o (((Turns.setCell V (p:=⟨W.heap.size,0,none⟩) (.inl aU) _).trans (Turns.setCell _ (p:=⟨W.heap.size,1,none⟩) (.inl aU) _)).trans (Turns.alloc _ _)))
  have zZ:=bx (HQ.o.turns (own:=λk=>k=W.heap.size) (((Turns.setCell (own:=λk=>k=W.heap.size) V (p:=⟨W.heap.size,0,none⟩) rfl (.bool (T.cased c r))).trans (Turns.setCell (own:=λk=>k=W.heap.size) _ (p:=⟨W.heap.size,1,none⟩) rfl (.bool (T.fP c r)))).trans (Turns.alloc _ (.cells #[.bool (T.cased c r), .bool (T.fP c r)] 329))) (by omega));exact bodyPost_ret (v:=.agg #[.bool (T.cased c r), .bool (T.fP c r)]) (results_cell_row results243 _ _ W.heap.size 329 _ (0,0) _ rfl (((dM.o.bJ 0 (.bool (T.cased c r))).bJ 1 (.bool (T.fP c r))).alloc _) underlying329 rfl acY) rfl ⟨rfl,HT.o,zZ.o⟩
 | none =>
  rw [hq,Option.getD_none,Option.isSome_none] at hlk;have EO:=bx hes;clear hq hes;obtain⟨V2,hV2⟩:∃ V2,V2=V.alloc (.cells #[.bool false, .bool false] 329):=⟨_,rfl⟩
  have HB2:=bx (aB hV2);have iV:=bx hV2;have oh:=bx (aK hV2);have HC2:=bx (Hr.o V2 HB2.o);have HGC:=bx (λ(W':World) (h:ak V W')=>show ay W' g 0=some lv/\ay W' g 1=some tv/\ay W' g 2=some ci/\ay W' g 3=some cb/\ay W' g 4=some gi/\ay W' g 5=some gb/\ay W' g 6=some (.map (some km))/\g<W'.heap.size from by
   have hk:=HG.o.below h HG.o.lt;exact⟨(hk.cell 0).trans rfl,(hk.cell 1).trans rfl,(hk.cell 2).trans rfl,(hk.cell 3).trans rfl,(hk.cell 4).trans rfl,(hk.cell 5).trans rfl,(hk.cell 6).trans rfl,hk.lt⟩)
  clear hV2;obtain⟨c0,c1,c2,c3,c4,c5,c6,cl⟩:=HGC.o V2 HB2.o
  go_in
  go_upto_region 1 with(fail)
  rw [<- HV.o]
  go_upto_region 2 with(fail)
  rw [<- iV.o];go_wp2_with fail;refine aT HC2.o λw3 hb3=>?_
  have HB3:=aJ HB2 hb3;have mJ:=oh.ub hb3;have x0:w3.cell? ⟨V.heap.size,0,none⟩=some (.bool false):=(mJ.o.cell 0).trans rfl;have x1:w3.cell? ⟨V.heap.size,1,none⟩=some (.bool false):=(mJ.o.cell 1).trans rfl;have f0:=mJ.o.frozen 0;have f1:=mJ.o.frozen 1;have xl:=mJ.o.lt;clear hb3 c0 c1 c2 c3 c4 c5 c6 cl
  go_upto_region 4 with(fail)
  obtain⟨w4,hw4⟩:∃ w4,w4=(w3.setCell ⟨V.heap.size,0,none⟩ (.bool (T.cased c r))).setCell ⟨V.heap.size,1,none⟩ (.bool (T.fP c r)):=⟨_,rfl⟩
  rw [<- hw4];have HT4:=bx (show Turns (λk=>k=V.heap.size) w3 w4 by rw [hw4];exact(Turns.setCell (own:=λk=>k=V.heap.size) w3 (p:=⟨V.heap.size,0,none⟩) rfl _).trans (Turns.setCell (own:=λk=>k=V.heap.size) _ (p:=⟨V.heap.size,1,none⟩) rfl _));have HB4:=bx (show ak V w4 from HB3.o.trans (HT4.o.below HB3.o.size (λk hk=>by omega)));have BJ:=bx (show aC w4 V.heap.size 329 #[.bool (T.cased c r), .bool (T.fP c r)] by rw [hw4];exact(mJ.o.bJ 0 _).bJ 1 _);clear x0 x1 f0 f1 xl hw4;have aX:=bx (show ak V w4.drew from HB4.o.trans ((jg w4 1).mono HB4.o.size));have Dh:=bx (BJ.o.drewN 1);have Zo:=bx (show w4.drew.heap[km]?=some (.map es clk) from(aX.o.block km (LH oC.o)).trans oC.o);have dH:=bx (show w4.drew.cell? ⟨g,6,none⟩=some (.map (some km))/\w4.drew.cell? ⟨V.heap.size,0,none⟩=some (.bool (T.cased c r))/\w4.drew.cell? ⟨V.heap.size,1,none⟩=some (.bool (T.fP c r))/\V.heap.size<w4.drew.heap.size from
   ⟨(HGC.o _ aX.o).2.2.2.2.2.2.1,(Dh.o.cell 0).trans rfl,(Dh.o.cell 1).trans rfl,Dh.o.lt⟩)
  refine jl 6 (λW'=>ay W' g 6=some (.map (some km))/\ay W' V.heap.size 0=some (.bool (T.cased c r))/\ay W' V.heap.size 1=some (.bool (T.fP c r))/\V.heap.size<W'.heap.size) (by kernel_rfl) ?_;have Dh:=bx (show aC w4.drew V.heap.size 329 #[.bool (T.cased c r), .bool (T.fP c r)] from Dh.o);generalize w4.drew=WR at aX Dh Zo dH ⊢;obtain⟨es',lV,hu,hik',hes'⟩:=anb underlying228 underlying3 WR es clk r (.agg #[.bool (T.cased c r), .bool (T.fP c r)]) km Zo.o hik;have zZ:=bx (show ∀ q v,Az es' q=some v->v = .agg #[.bool (T.cased c q), .bool (T.fP c q)] from λq v hq=>by
   rw [hes'] at hq
   split at hq
   ·rename_i e;subst e;injection hq with hq;exact hq.symm
   exact EO.o q v hq)
  have HIK:=bx hik';clear hik hlk hes' hik';refine jB [0,1,2,3,4,5] ?_
  iterate 6 (refine jA ?_ rfl dH.o ?_ ?_;rotate_left;·rintro w ⟨q1,q2,q3,q4⟩;go_simp;try with_reducible rfl)
  refine jr ?_;refine kP 6 rfl λKK au=>?_
  go_simp;refine au.out _ _ (λh=>by cases h) ?_;clear au KK;refine kD ?_ _;have RJ:=bx (Turns.putObj (own:=λk=>k=km) WR rfl (.map es' lV));have HV5:=bx (RJ.o.blk (dM.o.below aX.o dM.o.lt) (by have:=LH oC.o;have:=fV.o.size;omega));have Cc:=bx (RJ.o.blk Dh.o (by have:=LH oC.o;omega));have OX:=bx (World.putObj_heap_same (o:=.map es' lV) (LH Zo.o));generalize WR.putObj km (.map es' lV)=w6 at RJ HV5 Cc OX ⊢;have v0:w6.cell? ⟨W.heap.size,0,none⟩=some (.bool false):=(HV5.o.cell 0).trans rfl;have v1:w6.cell? ⟨W.heap.size,1,none⟩=some (.bool false):=(HV5.o.cell 1).trans rfl;have f0:=HV5.o.frozen 0;have f1:=HV5.o.frozen 1;have vl:=HV5.o.lt;have x0:w6.cell? ⟨V.heap.size,0,none⟩=some (.bool (T.cased c r)):=(Cc.o.cell 0).trans rfl;have x1:w6.cell? ⟨V.heap.size,1,none⟩=some (.bool (T.fP c r)):=(Cc.o.cell 1).trans rfl;have xl:=Cc.o.lt;clear hu;go_wp2_with fail;have HT:=bx (show Turns (λk=>k=km) W ((w6.setCell ⟨W.heap.size,0,none⟩ (.bool (T.cased c r))).setCell ⟨W.heap.size,1,none⟩ (.bool (T.fP c r))) from
   Xo (bt fV.o aX.o) ((RJ.o.mono (λk hk=>.inr hk)).trans ((Turns.setCell w6 (p:=⟨W.heap.size,0,none⟩) (.inl aU) _).trans (Turns.setCell _ (p:=⟨W.heap.size,1,none⟩) (.inl aU) _))))
  have ao8:=bx (nS.turns (own:=λk=>k=W.heap.size) ⟨es',lV,OX.o,HIK.o,zZ.o⟩ ((Turns.setCell (own:=λk=>k=W.heap.size) w6 (p:=⟨W.heap.size,0,none⟩) rfl (.bool (T.cased c r))).trans (Turns.setCell (own:=λk=>k=W.heap.size) _ (p:=⟨W.heap.size,1,none⟩) rfl (.bool (T.fP c r)))) (by omega));exact bodyPost_ret (v:=.agg #[.bool (T.cased c r), .bool (T.fP c r)]) (results_cell_row results243 _ _ W.heap.size 329 _ (0,0) _ rfl ((HV5.o.bJ 0 (.bool (T.cased c r))).bJ 1 (.bool (T.fP c r))) underlying329 rfl acY) rfl ⟨rfl,HT.o,ao8.o⟩
end Go.Proofs.YtdponihkpomheaaGreatDoor
