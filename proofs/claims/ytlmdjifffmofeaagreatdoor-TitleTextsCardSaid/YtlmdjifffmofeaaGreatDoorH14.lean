/- Texts of this claim. -/
import Derived.Test.YtlmdjifffmofeaaGreatDoorH3
import Derived.Test.YtlmdjifffmofeaaGreatDoorH13

set_option maxHeartbeats 8000000
set_option maxRecDepth 100000
namespace Go.Proofs.YtlmdjifffmofeaaGreatDoor
section
open Go.RowKit
attribute [local go_sem] Oper.semAt_some
structure T.Small (c:T.Cs):Prop where
 lo:c.lo.length<=100000
 loA:∀ x∈c.lo,x.2.length<=100000
 ti:c.ti.length<=100000
 tiA:∀ x∈c.ti,x.2.length<=100000
 c1:c.ca.1.length<=100000
 c2:c.ca.2.length<=100000
 g1:c.ig.1.length<=100000
 g2:c.ig.2.length<=100000
 c3:∀ r∈c.ca.2,r.length<=16777216
 g3:∀ r∈c.ig.2,r.length<=16777216
theorem wE (m:Nat) (c:T.Cs):T.cu m c=(T.iI m c.lo&&T.iI m c.ti&&F.jK c.ca&&F.jK c.ig):=rfl
theorem amq (t:Int) (w:World):Calls Tryz.prog 173 #[.int .i64 t] w λe w'=>e = .returned (.bool (decide (t<0)||decide (31<t)))/\w=w':=by
 go_enter Tryz.func173,Tryz.ntmps173
 go_wp2_with fail
 all_goals go_returns
 all_goals exact⟨aI (by first | rfl | (rw [Bool.eq_iff_iff];simp;done) | (rw [Bool.eq_iff_iff];simp;omega)),rfl⟩
theorem aji (t:Int) (bm:Nat) (na:Option Addr) (L nc:Nat) (w:World) (hc:w.cell? ⟨bm,1,none⟩=some (.slice na L nc)/\bm<w.heap.size) :
  Calls Tryz.prog 132 #[.int .i64 t, .pointer (some ⟨bm,0,none⟩)] w λe w'=>e = .returned (.bool (decide (t<0)||decide ((L:Int)<=t)))/\w=w':=by
 obtain⟨hc,hlt⟩:=hc
 go_enter Tryz.func132,Tryz.ntmps132
 rcases Int.lt_or_le t 0 with h | h
 ·go_wp2_with fail;go_ret
  exact⟨aI (by simp [h]),rfl⟩
 ·have e0:decide (t<0)=false:=decide_eq_false (by omega);clear h;go_wp2_with fail;go_ret
  exact⟨aI (by rw [e0,Bool.false_or]),rfl⟩
theorem Wp (t:Int) (w:World):Calls Tryz.prog 103 #[.int .i64 t] w λe w'=>e = .returned (.bool (!U.right t))/\w=w':=by
 have HR:=bx (λW=>OL t W)
 go_enter Tryz.func103,Tryz.ntmps103
 go_wp2_with fail;refine(HR.o _).mono ?_;rintro e w1 ⟨rfl,rfl⟩;go_wp2_with fail;go_ret
 exact⟨rfl,rfl⟩
theorem al7 (v:Value) (xs:List Int) (w:World) (hv:ay w v xs) (hz:xs.length<=16777216) :
  Calls Tryz.prog 125 #[v, .func (.func 173) #[] #[]] w λe w'=>(∃ i:Int,e = .returned (.int .i64 i)/\decide (0<=i)=xs.any (λt=>decide (t<0)||decide (31<t)))/\w=w':=by
 have jw:=bx hv;obtain⟨ao,cap,rfl⟩:=hv.slice;have HO:=bx (λt=>amq t w);clear hv
 go_enter Tryz.func125,Tryz.ntmps125
 go_wp2_with fail
 go_loop [8] (λi=>∃ k:Nat,k<=xs.length/\i = .int .i64 k/\Box ((xs.take k).any (λt=>decide (t<0)||decide (31<t))=false)) (λi=>xs.length-(intOf i).toNat)
 case atStart=>exact⟨0,by omega,rfl,⟨rfl⟩⟩
 case round =>
  obtain⟨k,hk,rfl,ha⟩:=hrel
  by_cases hlt':k<xs.length
  ·obtain⟨x,hx⟩:∃ x,xs[k]?=some x:=⟨_,List.getElem?_eq_getElem hlt'⟩
   obtain⟨g,off,cap2,hg1,hg2,hg3,hg4,hg5⟩:=jw.o.get (by rintro rfl;simp at hlt');obtain⟨rfl,rfl⟩:ao=some ⟨g,off,none⟩/\cap=cap2:=by injection hg1 with h1 h2 h3;exact⟨h1,h3⟩
   have hcx:=hg5 k x hx;have HX:=bx hx;unfold maxLen at hg3;clear hx hg1 hg5
   cases hi:(λt=>decide (t<0)||decide (31<t)) x with
   | false =>
    have HT:=bx (show (xs.take (k+1)).any (λt=>decide (t<0)||decide (31<t))=false by rw [List.take_add_one,HX.o,List.any_append,ha.o,Option.toList_some,List.any_cons,List.any_nil,Bool.or_false,Bool.false_or];exact hi);have HI:=bx hi;clear hi;go_wp2_with fail;refine(HO.o x).mono ?_;rintro e w1 ⟨rfl,rfl⟩;rw [HI.o];go_wp2_with fail
    go_round
    case rel=>exact⟨k+1,hlt',by go_num,HT⟩
    case measure=>simp [intOf];omega
   | true =>
    have HT:=bx (show xs.any (λt=>decide (t<0)||decide (31<t))=true by rw [List.any_eq_true];exact⟨x,List.mem_of_getElem? HX.o,hi⟩);have HI:=bx hi;clear hi;go_wp2_with fail;refine(HO.o x).mono ?_;rintro e w1 ⟨rfl,rfl⟩;rw [HI.o];go_wp2_with fail;go_ret
    exact⟨⟨k,rfl,by rw [HT.o];simp⟩,rfl⟩
  ·have HT:=bx (show xs.any (λt=>decide (t<0)||decide (31<t))=false by have:=ha.o;rwa [List.take_of_length_le (by omega)] at this);go_wp2_with fail;go_ret
   exact⟨⟨-1,rfl,by rw [HT.o];rfl⟩,rfl⟩
theorem agS (v:Value) (xs:List Int) (w:World) (hv:ay w v xs) (hz:xs.length<=16777216) :
  Calls Tryz.prog 71 #[v, .func (.func 173) #[] #[]] w λe w'=>e = .returned (.bool (xs.any (λt=>decide (t<0)||decide (31<t))))/\w=w':=by
 have HI:=bx (al7 v xs w hv hz);clear hv
 go_enter Tryz.func71,Tryz.ntmps71
 go_wp2_with fail;refine HI.o.mono ?_;rintro e w1 ⟨⟨i,rfl,hi⟩,rfl⟩;have HX:=bx hi;clear hi;go_wp2_with fail;go_ret
 exact⟨aI (by simpa using HX.o),rfl⟩
theorem aiR (v:Value) (xs:List Int) (bm:Nat) (na:Option Addr) (L nc:Nat) (w:World) (hv:ay w v xs) (hz:xs.length<=16777216) (hc:w.cell? ⟨bm,1,none⟩=some (.slice na L nc)/\bm<w.heap.size) :
  Calls Tryz.prog 125 #[v, .func (.func 132) #[] #[.pointer (some ⟨bm,0,none⟩)]] w λe w'=>(∃ i:Int,e = .returned (.int .i64 i)/\decide (0<=i)=xs.any (λt=>decide (t<0)||decide ((L:Int)<=t)))/\w=w':=by
 have jw:=bx hv;obtain⟨ao,cap,rfl⟩:=hv.slice;have HO:=bx (λt=>aji t bm na L nc w hc);clear hv hc
 go_enter Tryz.func125,Tryz.ntmps125
 go_wp2_with fail
 go_loop [8] (λi=>∃ k:Nat,k<=xs.length/\i = .int .i64 k/\Box ((xs.take k).any (λt=>decide (t<0)||decide ((L:Int)<=t))=false)) (λi=>xs.length-(intOf i).toNat)
 case atStart=>exact⟨0,by omega,rfl,⟨rfl⟩⟩
 case round =>
  obtain⟨k,hk,rfl,ha⟩:=hrel
  by_cases hlt':k<xs.length
  ·obtain⟨x,hx⟩:∃ x,xs[k]?=some x:=⟨_,List.getElem?_eq_getElem hlt'⟩
   obtain⟨g,off,cap2,hg1,hg2,hg3,hg4,hg5⟩:=jw.o.get (by rintro rfl;simp at hlt');obtain⟨rfl,rfl⟩:ao=some ⟨g,off,none⟩/\cap=cap2:=by injection hg1 with h1 h2 h3;exact⟨h1,h3⟩
   have hcx:=hg5 k x hx;have HX:=bx hx;unfold maxLen at hg3;clear hx hg1 hg5
   cases hi:(λt=>decide (t<0)||decide ((L:Int)<=t)) x with
   | false =>
    have HT:=bx (show (xs.take (k+1)).any (λt=>decide (t<0)||decide ((L:Int)<=t))=false by rw [List.take_add_one,HX.o,List.any_append,ha.o,Option.toList_some,List.any_cons,List.any_nil,Bool.or_false,Bool.false_or];exact hi);have HI:=bx hi;clear hi;go_wp2_with fail;refine(HO.o x).mono ?_;rintro e w1 ⟨rfl,rfl⟩;rw [HI.o];go_wp2_with fail
    go_round
    case rel=>exact⟨k+1,hlt',by go_num,HT⟩
    case measure=>simp [intOf];omega
   | true =>
    have HT:=bx (show xs.any (λt=>decide (t<0)||decide ((L:Int)<=t))=true by rw [List.any_eq_true];exact⟨x,List.mem_of_getElem? HX.o,hi⟩);have HI:=bx hi;clear hi;go_wp2_with fail;refine(HO.o x).mono ?_;rintro e w1 ⟨rfl,rfl⟩;rw [HI.o];go_wp2_with fail;go_ret
    exact⟨⟨k,rfl,by rw [HT.o];simp⟩,rfl⟩
  ·have HT:=bx (show xs.any (λt=>decide (t<0)||decide ((L:Int)<=t))=false by have:=ha.o;rwa [List.take_of_length_le (by omega)] at this);go_wp2_with fail;go_ret
   exact⟨⟨-1,rfl,by rw [HT.o];rfl⟩,rfl⟩
theorem akB (v:Value) (xs:List Int) (bm:Nat) (na:Option Addr) (L nc:Nat) (w:World) (hv:ay w v xs) (hz:xs.length<=16777216) (hc:w.cell? ⟨bm,1,none⟩=some (.slice na L nc)/\bm<w.heap.size) :
  Calls Tryz.prog 71 #[v, .func (.func 132) #[] #[.pointer (some ⟨bm,0,none⟩)]] w λe w'=>e = .returned (.bool (xs.any (λt=>decide (t<0)||decide ((L:Int)<=t))))/\w=w':=by
 have HI:=bx (aiR v xs bm na L nc w hv hz hc);clear hv hc
 go_enter Tryz.func71,Tryz.ntmps71
 go_wp2_with fail;refine HI.o.mono ?_;rintro e w1 ⟨⟨i,rfl,hi⟩,rfl⟩;have HX:=bx hi;clear hi;go_wp2_with fail;go_ret
 exact⟨aI (by simpa using HX.o),rfl⟩
theorem aek (v:Value) (xs:List Int) (w:World) (hv:ay w v xs) (hz:xs.length<=16777216) :
  Calls Tryz.prog 125 #[v, .func (.func 103) #[] #[]] w λe w'=>(∃ i:Int,e = .returned (.int .i64 i)/\decide (0<=i)=xs.any (λt=>!U.right t))/\w=w':=by
 have jw:=bx hv;obtain⟨ao,cap,rfl⟩:=hv.slice;have HO:=bx (λt=>Wp t w);clear hv
 go_enter Tryz.func125,Tryz.ntmps125
 go_wp2_with fail
 go_loop [8] (λi=>∃ k:Nat,k<=xs.length/\i = .int .i64 k/\Box ((xs.take k).any (λt=>!U.right t)=false)) (λi=>xs.length-(intOf i).toNat)
 case atStart=>exact⟨0,by omega,rfl,⟨rfl⟩⟩
 case round =>
  obtain⟨k,hk,rfl,ha⟩:=hrel
  by_cases hlt':k<xs.length
  ·obtain⟨x,hx⟩:∃ x,xs[k]?=some x:=⟨_,List.getElem?_eq_getElem hlt'⟩
   obtain⟨g,off,cap2,hg1,hg2,hg3,hg4,hg5⟩:=jw.o.get (by rintro rfl;simp at hlt');obtain⟨rfl,rfl⟩:ao=some ⟨g,off,none⟩/\cap=cap2:=by injection hg1 with h1 h2 h3;exact⟨h1,h3⟩
   have hcx:=hg5 k x hx;have HX:=bx hx;unfold maxLen at hg3;clear hx hg1 hg5
   cases hi:(λt=>!U.right t) x with
   | false =>
    have HT:=bx (show (xs.take (k+1)).any (λt=>!U.right t)=false by rw [List.take_add_one,HX.o,List.any_append,ha.o,Option.toList_some,List.any_cons,List.any_nil,Bool.or_false,Bool.false_or];exact hi);have HI:=bx hi;clear hi;go_wp2_with fail;refine(HO.o x).mono ?_;rintro e w1 ⟨rfl,rfl⟩;rw [HI.o];go_wp2_with fail
    go_round
    case rel=>exact⟨k+1,hlt',by go_num,HT⟩
    case measure=>simp [intOf];omega
   | true =>
    have HT:=bx (show xs.any (λt=>!U.right t)=true by rw [List.any_eq_true];exact⟨x,List.mem_of_getElem? HX.o,hi⟩);have HI:=bx hi;clear hi;go_wp2_with fail;refine(HO.o x).mono ?_;rintro e w1 ⟨rfl,rfl⟩;rw [HI.o];go_wp2_with fail;go_ret
    exact⟨⟨k,rfl,by rw [HT.o];simp⟩,rfl⟩
  ·have HT:=bx (show xs.any (λt=>!U.right t)=false by have:=ha.o;rwa [List.take_of_length_le (by omega)] at this);go_wp2_with fail;go_ret
   exact⟨⟨-1,rfl,by rw [HT.o];rfl⟩,rfl⟩
theorem aob (v:Value) (xs:List Int) (w:World) (hv:ay w v xs) (hz:xs.length<=16777216) :
  Calls Tryz.prog 71 #[v, .func (.func 103) #[] #[]] w λe w'=>e = .returned (.bool (xs.any (λt=>!U.right t)))/\w=w':=by
 have HI:=bx (aek v xs w hv hz);clear hv
 go_enter Tryz.func71,Tryz.ntmps71
 go_wp2_with fail;refine HI.o.mono ?_;rintro e w1 ⟨⟨i,rfl,hi⟩,rfl⟩;have HX:=bx hi;clear hi;go_wp2_with fail;go_ret
 exact⟨aI (by simpa using HX.o),rfl⟩
theorem JY {α:Type} {p q:α->Bool} (h:∀ x,p x=!q x) (l:List α):(!l.any p)=l.all q:=by
 induction l with
 | nil=>rfl
 | cons x t ih=>rw [List.any_cons,List.all_cons,Bool.not_or,ih,h,Bool.not_not]
theorem agY (v:Value) (xs:List Int) (w:World) (hv:ay w v xs) (hz:xs.length<=16777216) :
  Calls Tryz.prog 135 #[v] w λe w'=>e = .returned (.bool (F.fK xs))/\w=w':=by
 have HC:=bx (agS v xs w hv hz);have HA:=bx (JY (p:=λt:Int=>decide (t<0)||decide (31<t)) (q:=λv=>decide (0<=v)&&decide (v<=31)) (λx=>by rw [Bool.eq_iff_iff];simp <;> omega) xs);obtain⟨a,cap,rfl⟩:=hv.slice;obtain⟨N,hN⟩:∃ N,xs.length=N:=⟨_,rfl⟩
 rw [hN] at HC ⊢;have HN:=bx hN;generalize xs.any (λt:Int=>decide (t<0)||decide (31<t))=b at HC HA;clear hv hN
 by_cases h:N=256
 ·have e1:((N:Int)==256)=true:=by rw [beq_iff_eq];omega
  have HB:=bx (show F.fK xs=!b by unfold F.fK;rw [HA.o,HN.o,decide_eq_true h,Bool.true_and]);clear h
  go_enter Tryz.func135,Tryz.ntmps135
  go_wp2_with fail;refine HC.o.mono ?_;rintro e w1 ⟨rfl,rfl⟩;go_wp2_with fail;go_ret
  exact⟨aI (by rw [HB.o]),rfl⟩
 ·have e1:((N:Int)==256)=false:=by rw [beq_eq_false_iff_ne];omega
  have HB:=bx (show F.fK xs=false by unfold F.fK;rw [HN.o,decide_eq_false h,Bool.false_and]);clear h
  go_enter Tryz.func135,Tryz.ntmps135
  go_wp2_with fail;go_ret
  exact⟨aI HB.o.symm,rfl⟩
theorem anv (v:Value) (xs:List Int) (w:World) (hv:ay w v xs) (hz:xs.length<=16777216) :
  Calls Tryz.prog 134 #[v] w λe w'=>e = .returned (.bool (!F.fK xs))/\w=w':=by
 have HC:=bx (agY v xs w hv hz);clear hv
 go_enter Tryz.func134,Tryz.ntmps134
 go_wp2_with fail;refine HC.o.mono ?_;rintro e w1 ⟨rfl,rfl⟩;go_wp2_with fail;go_ret
 exact⟨rfl,rfl⟩
theorem ahX (v:Value) (bl:List (List Int)) (w:World) (hv:iq w v bl) (hz:bl.length<=16777216) (hzz:∀ r∈bl,r.length<=16777216) :
  Calls Tryz.prog 172 #[v, .func (.func 134) #[] #[]] w λe w'=>(∃ i:Int,e = .returned (.int .i64 i)/\decide (0<=i)=bl.any (λr=>!F.fK r))/\w=w':=by
 have jw:=bx hv;obtain⟨ao,cap,rfl⟩:=hv.slice;have HO:=bx (λu r (h:ay w u r) (hr:r∈bl)=>anv u r w h (hzz r hr));clear hv hzz
 go_enter Tryz.func172,Tryz.ntmps172
 go_wp2_with fail
 go_loop [8] (λi=>∃ k:Nat,k<=bl.length/\i = .int .i64 k/\Box ((bl.take k).any (λr=>!F.fK r)=false)) (λi=>bl.length-(intOf i).toNat)
 case atStart=>exact⟨0,by omega,rfl,⟨rfl⟩⟩
 case round =>
  obtain⟨k,hk,rfl,ha⟩:=hrel
  by_cases hlt':k<bl.length
  ·obtain⟨x,hx⟩:∃ x,bl[k]?=some x:=⟨_,List.getElem?_eq_getElem hlt'⟩
   obtain⟨g,off,cap2,hg1,hg2,hg3,hg4,hg5⟩:=jw.o.get (by rintro rfl;simp at hlt');obtain⟨rfl,rfl⟩:ao=some ⟨g,off,none⟩/\cap=cap2:=by injection hg1 with h1 h2 h3;exact⟨h1,h3⟩
   obtain⟨u,hcx,hui⟩:=hg5 k x hx;have HX:=bx hx;have Zb:=bx (HO.o u x hui (List.mem_of_getElem? hx));unfold maxLen at hg3;clear hx hg1 hg5 hui
   cases hi:F.fK x with
   | true =>
    have HT:=bx (show (bl.take (k+1)).any (λr=>!F.fK r)=false by rw [List.take_add_one,HX.o,List.any_append,ha.o,Option.toList_some,List.any_cons,hi];rfl);have HI:=bx hi;clear hi;go_wp2_with fail;refine Zb.o.mono ?_;rintro e w1 ⟨rfl,rfl⟩;rw [HI.o];go_wp2_with fail
    go_round
    case rel=>exact⟨k+1,hlt',by go_num,HT⟩
    case measure=>simp [intOf];omega
   | false =>
    have HT:=bx (show bl.any (λr=>!F.fK r)=true by rw [List.any_eq_true];exact⟨x,List.mem_of_getElem? HX.o,by rw [hi];rfl⟩);have HI:=bx hi;clear hi;go_wp2_with fail;refine Zb.o.mono ?_;rintro e w1 ⟨rfl,rfl⟩;rw [HI.o];go_wp2_with fail;go_ret
    exact⟨⟨k,rfl,by rw [HT.o];simp⟩,rfl⟩
  ·have HT:=bx (show bl.any (λr=>!F.fK r)=false by have:=ha.o;rwa [List.take_of_length_le (by omega)] at this);go_wp2_with fail;go_ret
   exact⟨⟨-1,rfl,by rw [HT.o];rfl⟩,rfl⟩
theorem al5 (v:Value) (bl:List (List Int)) (w:World) (hv:iq w v bl) (hz:bl.length<=16777216) (hzz:∀ r∈bl,r.length<=16777216) :
  Calls Tryz.prog 133 #[v, .func (.func 134) #[] #[]] w λe w'=>e = .returned (.bool (bl.any (λr=>!F.fK r)))/\w=w':=by
 have HI:=bx (ahX v bl w hv hz hzz);clear hv hzz
 go_enter Tryz.func133,Tryz.ntmps133
 go_wp2_with fail;refine HI.o.mono ?_;rintro e w1 ⟨⟨i,rfl,hi⟩,rfl⟩;have HX:=bx hi;clear hi;go_wp2_with fail;go_ret
 exact⟨aI (by simpa using HX.o),rfl⟩
theorem OB (v:Value) (t:F.Trie) (w:World) (hv:uU w v t) (h1:t.1.length<=100000) (h2:t.2.length<=100000) (hzz:∀ r∈t.2,r.length<=16777216) :
  Calls Tryz.prog 84 #[v] w λe w'=>e = .returned (.bool (F.jK t))/\Below w.heap.size w w':=by
 rw [F.La];obtain⟨xs,bl⟩:=t;obtain⟨iv,bv,rfl,hiv,hbv⟩:=hv;simp only at hiv hbv h1 h2 hzz ⊢;obtain⟨ia,ic,rfl⟩:=hiv.slice;obtain⟨ba,bc,rfl⟩:=hbv.slice;obtain⟨N,hN⟩:∃ N,xs.length=N:=⟨_,rfl⟩
 obtain⟨M,hM⟩:∃ M,bl.length=M:=⟨_,rfl⟩
 obtain⟨V,hV⟩:∃ V,V=w.alloc (.cells #[.slice ia N ic, .slice ba M bc] 26):=⟨_,rfl⟩
 have bG:=bx (show Below w.heap.size w V by rw [hV];exact aS _ _);have hkk:ak V w.heap.size 26 #[.slice ia N ic, .slice ba M bc]:=by rw [hV];exact ak.new _ _ _
 rw [hN] at hiv ⊢;rw [hM] at hbv ⊢;have c0:V.cell? ⟨w.heap.size,0,none⟩=some (.slice ia N ic):=(hkk.cell 0).trans rfl;have c1:V.cell? ⟨w.heap.size,1,none⟩=some (.slice ba M bc):=(hkk.cell 1).trans rfl;have cl:=hkk.lt;have yY:=bx (akB (.slice ia N ic) xs w.heap.size ba M bc V (hiv.below bG.o) (by omega) ⟨c1,cl⟩);have iT:=bx (al5 (.slice ba M bc) bl V (hbv.below bG.o) (by omega) hzz);have HA1:=bx (JY (p:=λt:Int=>decide (t<0)||decide ((M:Int)<=t)) (q:=λn=>decide (0<=n)&&decide (n<(M:Int))) (λx=>by rw [Bool.eq_iff_iff];simp <;> omega) xs);have HA2:=bx (JY (p:=λr=>!F.fK r) (q:=F.fK) (λ_=>rfl) bl);rw [<- HA1.o,<- HA2.o];generalize xs.any (λt:Int=>decide (t<0)||decide ((M:Int)<=t))=p1 at yY ⊢;generalize bl.any (λr=>!F.fK r)=p2 at iT ⊢;have HV:=bx hV;clear hiv hbv hN hM hV hkk hzz
 by_cases h:N=4352
 ·have e1:((N:Int)==4352)=true:=by rw [beq_iff_eq];omega
  rw [decide_eq_true h,Bool.true_and];clear h
  go_enter Tryz.func84,Tryz.ntmps84
  go_upto_region 1 with(fail)
  rw [<- HV.o];go_wp2_with fail;refine yY.o.mono ?_;rintro e w1 ⟨rfl,rfl⟩
  cases p1 with
  | true =>
   go_wp2_with fail;go_ret
   exact⟨rfl,bG.o⟩
  | false =>
   go_wp2_with fail;refine iT.o.mono ?_;rintro e w2 ⟨rfl,rfl⟩;go_wp2_with fail;go_ret
   exact⟨aI (by simp),bG.o⟩
 ·have e1:((N:Int)==4352)=false:=by rw [beq_eq_false_iff_ne];omega
  rw [decide_eq_false h,Bool.false_and,Bool.false_and];clear h
  go_enter Tryz.func84,Tryz.ntmps84
  go_upto_region 1 with(fail)
  rw [<- HV.o];go_wp2_with fail;go_ret
  exact⟨rfl,bG.o⟩
theorem agJ (v:Value) (xs:List Int) (w:World) (hv:ay w v xs) (hz:xs.length<=16777216) :
  Calls Tryz.prog 131 #[v] w λe w'=>e = .returned (.bool (T.toB xs))/\w=w':=by
 have HC:=bx (aob v xs w hv hz);have HA:=bx (JY (p:=λt:Int=>!U.right t) (q:=U.right) (λ_=>rfl) xs);obtain⟨a,cap,rfl⟩:=hv.slice;obtain⟨N,hN⟩:∃ N,xs.length=N:=⟨_,rfl⟩
 rw [hN] at HC ⊢;have HN:=bx hN;generalize xs.any (λt:Int=>!U.right t)=b at HC HA;clear hv hN
 by_cases h:N<=3
 ·have e1:decide ((N:Int)<=3)=true:=decide_eq_true (by omega);have HB:=bx (show T.toB xs=!b by unfold T.toB;rw [HA.o,HN.o,decide_eq_true h,Bool.true_and]);clear h
  go_enter Tryz.func131,Tryz.ntmps131
  go_wp2_with fail;refine HC.o.mono ?_;rintro e w1 ⟨rfl,rfl⟩;go_wp2_with fail;go_ret
  exact⟨aI (by rw [HB.o]),rfl⟩
 ·have e1:decide ((N:Int)<=3)=false:=decide_eq_false (by omega);have HB:=bx (show T.toB xs=false by unfold T.toB;rw [HN.o,decide_eq_false h,Bool.false_and]);clear h
  go_enter Tryz.func131,Tryz.ntmps131
  go_wp2_with fail;go_ret
  exact⟨aI HB.o.symm,rfl⟩
theorem Ze {r:Int} (h:U.right r=true):0<=r:=by
 unfold U.right at h;simp only [Bool.and_eq_true,decide_eq_true_eq,Bool.or_eq_true] at h;omega
def Ji (l:List F.Map) (k:Nat):Int:=if k=0 then -1 else (l.getD (k-1) (0,[])).1
theorem aa0 (v:Value) (l:List F.Map) (w:World) (hv:lK w v l) (hz:l.length<=100000) (mY:∀ x∈l,x.2.length<=100000) :
  Calls Tryz.prog 83 #[v] w λe w'=>e = .returned (.bool (T.iI 600 l))/\Below w.heap.size w w':=by
 have HV:=bx hv;obtain⟨a,cap,rfl,hc1,hc2⟩:=hv.slice;obtain⟨N,hN⟩:∃ N,l.length=N:=⟨_,rfl⟩
 rw [hN] at HV hz hc1 ⊢;have HN:=bx hN;have tK:=bx mY;clear hv hN mY
 go_enter Tryz.func83,Tryz.ntmps83
 go_wp2_with fail
 go_loopw [8,3] (λi la wr=>∃ k:Nat,k<=N/\i = .int .i64 k/\la = .int .i64 (Ji l k)/\Box (∀ j,j<k->T.jY l j=true)/\Box (Below w.heap.size w wr)) (λi _ _=>N-(intOf i).toNat)
 case atStart=>exact⟨0,by omega,rfl,rfl,⟨λj h=>by omega⟩,⟨Below.refl _ _⟩⟩
 case round =>
  obtain⟨k,hk,rfl,rfl,hok,hb⟩:=hrel
  by_cases hlt:k<N
  ·obtain⟨x,hx⟩:∃ x,l[k]?=some x:=⟨_,List.getElem?_eq_getElem (by rw [HN.o];exact hlt)⟩
   obtain⟨g,off,cap2,hg1,hg2,hg3,hg4,hg5⟩:=(HV.o.below hb.o).get (by rintro rfl;simp at hx);rw [HN.o] at hg1 hg2;obtain⟨rfl,rfl⟩:a=some ⟨g,off,none⟩/\cap=cap2:=by injection hg1 with h1 h2 h3;exact⟨h1,h3⟩
   obtain⟨x0,u,x1,hu⟩:=hg5 k x hx;obtain⟨ua,uc,rfl⟩:=hu.slice;have hgd:l.getD k (0,[])=x:=by rw [List.getD_eq_getElem?_getD,hx];rfl
   have fH:=bx (show T.jY l k=(U.right x.1&&(decide (k=0)||decide ((l.getD (k-1) (0,[])).1<x.1))&&T.toB x.2) by unfold T.jY;rw [hgd]);have JE:=bx (show Ji l (k+1)=x.1 by unfold Ji;rw [if_neg (by omega),Nat.add_sub_cancel,hgd]);have qR:=bx (λ(h:T.jY l k=false)=>show T.iI 600 l=false by
    unfold T.iI;rw [T.Ei,jk (k:=k) (x:=k) (by rw [List.getElem?_range (by rw [HN.o];exact hlt)]) h,Bool.false_and])
   have bI:=bx (λW=>Wp x.1 W);have fC:=bx (λW (h:Below wr.heap.size wr W)=>agJ (.slice ua x.2.length uc) x.2 W (hu.below h) (by have:=tK.o x (List.mem_of_getElem? hx);omega));have HB1:=bx (aS wr (.cells #[.int .i64 x.1, .slice ua x.2.length uc] 130));have aJ:=bx (bt hb.o HB1.o);obtain⟨LA,TJ⟩:∃ LA,Ji l k=LA:=⟨_,rfl⟩
   rw [TJ];have sG:=bx TJ;unfold maxLen at hg3;clear hx hg1 hg5 hgd hu TJ
   cases hr:U.right x.1 with
   | false =>
    rw [hr] at bI fH;have HF:=bx (qR.o (by rw [fH.o];rfl));clear hr;go_wp2_with fail;refine(bI.o _).mono ?_;rintro e w1 ⟨rfl,rfl⟩;go_wp2_with fail;go_ret
    exact⟨aI HF.o.symm,aJ.o⟩
   | true =>
    rw [hr] at bI fH;have hpos:=Ze hr
    by_cases hlo:LA<x.1
    ·have e1:decide (x.1<=LA)=false:=decide_eq_false (by omega);have wY:=bx (show (decide (k=0)||decide ((l.getD (k-1) (0,[])).1<x.1))=true by
      rcases Nat.eq_zero_or_pos k with h0 | h0
      ·rw [decide_eq_true h0];rfl
      ·have h1:=sG.o;unfold Ji at h1;rw [if_neg (by omega)] at h1;rw [h1,decide_eq_true hlo,Bool.or_true])
     clear hr hpos hlo
     cases hto:T.toB x.2 with
     | true =>
      rw [hto] at fC fH;have bZ:=bx (show ∀ j,j<k+1->T.jY l j=true from λj hj=>by
       rcases Nat.lt_or_ge j k with h1 | h1
       ·exact hok.o j h1
       ·obtain rfl:j=k:=by omega
        rw [fH.o,wY.o];rfl)
      clear hto;go_wp2_with fail;refine(bI.o _).mono ?_;rintro e w1 ⟨rfl,rfl⟩;go_wp2_with fail;refine(fC.o _ HB1.o).mono ?_;rintro e w1 ⟨rfl,rfl⟩;go_wp2_with fail
      go_roundw
      case rel=>exact⟨k+1,hlt,by go_num,by rw [JE.o],bZ,aJ⟩
      case measure=>simp [intOf];omega
     | false =>
      rw [hto] at fC fH;have HF:=bx (qR.o (by rw [fH.o,Bool.and_false]));clear hto;go_wp2_with fail;refine(bI.o _).mono ?_;rintro e w1 ⟨rfl,rfl⟩;go_wp2_with fail;refine(fC.o _ HB1.o).mono ?_;rintro e w1 ⟨rfl,rfl⟩;go_wp2_with fail;go_ret
      exact⟨aI HF.o.symm,aJ.o⟩
    ·have e1:decide (x.1<=LA)=true:=decide_eq_true (by omega);have HF:=bx (qR.o (by
      have h1:=sG.o;unfold Ji at h1
      by_cases h0:k=0
      ·rw [if_pos h0] at h1;omega
      ·rw [if_neg h0] at h1;rw [fH.o,h1,decide_eq_false hlo,decide_eq_false h0];rfl))
     clear hr hpos hlo;go_wp2_with fail;refine(bI.o _).mono ?_;rintro e w1 ⟨rfl,rfl⟩;go_wp2_with fail;go_ret
     exact⟨aI HF.o.symm,aJ.o⟩
  ·obtain rfl:k=N:=by omega
   have HA:=bx (show T.iI 600 l=decide (k<=600) by
    unfold T.iI;rw [T.Ei,HN.o,show (List.range k).all (T.jY l)=true by rw [List.all_eq_true];exact λj hj=>hok.o j (List.mem_range.1 hj),Bool.true_and])
   go_wp2_with fail;go_ret
   exact⟨aI (by rw [HA.o,Bool.eq_iff_iff];simp;omega),hb.o⟩
theorem Qn (v:Value) (c:T.Cs) (w:World) (hv:bC w v c) (hs:T.Small c) :
  Calls Tryz.prog 46 #[v] w λe w'=>e = .returned (.bool (T.cu 600 c))/\Below w.heap.size w w':=by
 rw [wE];obtain⟨lv,tv,ci,cb,gi,gb,rfl,h1,h2,h3,h4,h5,h6⟩:=hv;have fD:=bx (λW (h:Below w.heap.size w W)=>aa0 lv c.lo W (h1.below h) hs.lo hs.loA);have kZ:=bx (λW (h:Below w.heap.size w W)=>aa0 tv c.ti W (h2.below h) hs.ti hs.tiA);have HT1:=bx (λW (h:Below w.heap.size w W)=>OB (.agg #[ci,cb]) c.ca W ⟨_,_,rfl,h3.below h,h4.below h⟩ hs.c1 hs.c2 hs.c3);have HT2:=bx (λW (h:Below w.heap.size w W)=>OB (.agg #[gi,gb]) c.ig W ⟨_,_,rfl,h5.below h,h6.below h⟩ hs.g1 hs.g2 hs.g3);generalize T.iI 600 c.lo=b1 at fD ⊢;generalize T.iI 600 c.ti=b2 at kZ ⊢;generalize F.jK c.ca=b3 at HT1 ⊢;generalize F.jK c.ig=b4 at HT2 ⊢;obtain⟨V,hV⟩:∃ V,V=w.alloc (.cells #[lv,tv,ci,cb,gi,gb] 28):=⟨_,rfl⟩
 have HB0:=bx (show Below w.heap.size w V by rw [hV];exact aS _ _);have HK:=bx (show ak V w.heap.size 28 #[lv,tv,ci,cb,gi,gb] by rw [hV];exact ak.new _ _ _);have aB:=bx (λW (h:Below V.heap.size V W)=>HK.o.c6 h);have HV:=bx hV;clear h1 h2 h3 h4 h5 h6 hs hV
 go_enter Tryz.func46,Tryz.ntmps46
 go_upto_region 1 with(fail)
 rw [<- HV.o];obtain⟨Q,hQ⟩:∃ Q,w.heap.size=Q:=⟨_,rfl⟩
 rw [hQ] at aB ⊢;clear hQ HV;have HW0:=bx (Below.refl V.heap.size V);obtain⟨k0,k1,k2,k3,k4,k5,kl⟩:=aB.o V HW0.o;go_wp2_with fail;refine(fD.o V (bt HB0.o HW0.o)).mono ?_;rintro e V1 ⟨rfl,hb1⟩;have HW1:=bx (bt HW0.o hb1);clear k0 k1 k2 k3 k4 k5 kl hb1;obtain⟨k0,k1,k2,k3,k4,k5,kl⟩:=aB.o V1 HW1.o
 cases b1 with
 | false =>
  go_wp2_with fail;go_ret
  exact⟨aI (by simp),bt HB0.o HW1.o⟩
 | true =>
  go_wp2_with fail;refine(kZ.o V1 (bt HB0.o HW1.o)).mono ?_;rintro e V2 ⟨rfl,hb2⟩;have HW2:=bx (bt HW1.o hb2);clear k0 k1 k2 k3 k4 k5 kl hb2;obtain⟨k0,k1,k2,k3,k4,k5,kl⟩:=aB.o V2 HW2.o
  cases b2 with
  | false =>
   go_wp2_with fail;go_ret
   exact⟨aI (by simp),bt HB0.o HW2.o⟩
  | true =>
   go_wp2_with fail;refine(HT1.o V2 (bt HB0.o HW2.o)).mono ?_;rintro e V3 ⟨rfl,hb3⟩;have HW3:=bx (bt HW2.o hb3);clear k0 k1 k2 k3 k4 k5 kl hb3;obtain⟨k0,k1,k2,k3,k4,k5,kl⟩:=aB.o V3 HW3.o
   cases b3 with
   | false =>
    go_wp2_with fail;go_ret
    exact⟨aI (by simp),bt HB0.o HW3.o⟩
   | true =>
    go_wp2_with fail;refine(HT2.o V3 (bt HB0.o HW3.o)).mono ?_;rintro e V4 ⟨rfl,hb4⟩;have rZ:=bx (bt HW3.o hb4);clear k0 k1 k2 k3 k4 k5 kl hb4;obtain⟨k0,k1,k2,k3,k4,k5,kl⟩:=aB.o V4 rZ.o;go_wp2_with fail;go_ret
    exact⟨aI (by simp),bt HB0.o rZ.o⟩
theorem Il {w:World} {iv bv:Value} {t:F.Trie} (hi:ay w iv t.1) (hb:iq w bv t.2) (ht:F.jK t=true) (r:Nat) (hr:r<=1114111) :
  ∃ g off cap n g2 off2 cap2 g3 qU cap3,iv = .slice (some ⟨g,off,none⟩) 4352 cap/\4352<=cap/\cap<=9223372036854775807/\g<w.heap.size/\w.cell? ⟨g,off+r / 256,none⟩=some (.int .i64 (n:Nat))/\n<t.2.length /\
   bv = .slice (some ⟨g2,off2,none⟩) t.2.length cap2/\t.2.length<=cap2/\cap2<=9223372036854775807/\g2<w.heap.size/\w.cell? ⟨g2,off2+n,none⟩=some (.slice (some ⟨g3,qU,none⟩) 256 cap3)/\256<=cap3/\cap3<=9223372036854775807/\g3<w.heap.size/\w.cell? ⟨g3,qU+r % 256,none⟩=some (.int .i64 (F.says t (r:Int))):=by
 rw [F.La] at ht;simp only [Bool.and_eq_true,decide_eq_true_eq,List.all_eq_true] at ht;obtain⟨⟨h1,h2⟩,h3⟩:=ht;have hd:r / 256<4352:=by omega
 obtain⟨z,hz⟩:∃ z,t.1[r / 256]?=some z:=⟨_,List.getElem?_eq_getElem (by omega)⟩
 obtain⟨z0,z1⟩:=h2 z (List.mem_of_getElem? hz);obtain⟨n,rfl⟩:=Int.eq_ofNat_of_zero_le z0;have hn:n<t.2.length:=by omega
 obtain⟨b,hbn⟩:∃ b,t.2[n]?=some b:=⟨_,List.getElem?_eq_getElem hn⟩
 have hbb:=h3 b (List.mem_of_getElem? hbn);unfold F.fK at hbb;rw [Bool.and_eq_true,decide_eq_true_eq] at hbb;obtain⟨y,hy⟩:∃ y,b[r % 256]?=some y:=⟨_,List.getElem?_eq_getElem (by rw [hbb.1];omega)⟩
 have afZ:F.says t (r:Int)=y:=by
  unfold F.says;rw [Int.toNat_natCast,List.getD_eq_getElem?_getD (l:=t.1),hz,Option.getD_some,Int.toNat_natCast,List.getD_eq_getElem?_getD (l:=t.2),hbn,Option.getD_some,List.getD_eq_getElem?_getD,hy,Option.getD_some]
 obtain⟨g,off,cap,a1,a2,a3,a4,a5⟩:=hi.get (by rintro e;rw [e] at h1;simp at h1);obtain⟨g2,off2,cap2,b1,b2,b3,b4,b5⟩:=hb.get (by rintro e;rw [e] at hn;simp at hn);obtain⟨x,hx,hxi⟩:=b5 n b hbn;obtain⟨g3,qU,cap3,c1,c2,c3,c4,c5⟩:=hxi.get (by rintro rfl;simp at hbb);unfold maxLen at a3 b3 c3;rw [h1] at a1 a2;rw [hbb.1] at c1 c2;exact⟨g,off,cap,n,g2,off2,cap2,g3,qU,cap3,a1,a2,by omega,a4,a5 _ _ hz,hn,b1,b2,by omega,b4,by rw [hx,c1],c2,by omega,c4,by rw [afZ];exact c5 _ _ hy⟩
theorem aau (v:Value) (t:F.Trie) (r:Nat) (w:World) (hv:uU w v t) (hs:t.1.length<=100000/\t.2.length<=100000/\∀ r∈t.2,r.length<=16777216) (ht:F.jK t=true) (hr:r<=1114111) :
  Calls Tryz.prog 61 #[v, .int .i64 (r:Int)] w λe w'=>e = .returned (.int .i64 (F.says t (r:Int)))/\Below w.heap.size w w':=by
 obtain⟨iv,bv,rfl,hi,hb⟩:=hv;obtain⟨V,hV⟩:∃ V,V=w.alloc (.cells #[iv,bv] 26):=⟨_,rfl⟩
 have HB0:=bx (show Below w.heap.size w V by rw [hV];exact aS _ _);have HK:=bx (show ak V w.heap.size 26 #[iv,bv] by rw [hV];exact ak.new _ _ _);have dK:=bx (λW (h:Below w.heap.size w W)=>show Calls Tryz.prog 84 #[.agg #[iv,bv]] W λe w'=>e = .returned (.bool true)/\Below W.heap.size W w' by
  have h9:=OB (.agg #[iv,bv]) t W ⟨iv,bv,rfl,hi.below h,hb.below h⟩ hs.1 hs.2.1 hs.2.2;rw [ht] at h9;exact h9)
 have rQ:=bx (λW (h:Below w.heap.size w W)=>Il (hi.below h) (hb.below h) ht r hr);have HV:=bx hV;have k0:=(HK.o.cell 0).trans (show _=some iv from rfl);have k1:=(HK.o.cell 1).trans (show _=some bv from rfl);have kl:=HK.o.lt;generalize F.says t (r:Int)=y at rQ ⊢;generalize t.2.length=M at rQ;have e0:decide ((r:Int)<0)=false:=decide_eq_false (by omega);have e1:decide ((1114111:Int)<(r:Int))=false:=decide_eq_false (by omega);clear hi hb hs ht hV
 go_enter Tryz.func61,Tryz.ntmps61
 go_upto_region 1 with(fail)
 rw [<- HV.o];go_wp2_with fail;refine(dK.o _ HB0.o).mono ?_;rintro e w1 ⟨rfl,hb1⟩;have HB1:=bx (bt HB0.o hb1);obtain⟨g,off,cap,n,g2,off2,cap2,g3,qU,cap3,rfl,a2,a3,a4,a5,a6,rfl,b2,b3,b4,b5,c2,c3,c4,c5⟩:=rQ.o w1 HB1.o;have hk:=HK.o.below hb1 HK.o.lt;have m0:=(hk.cell 0).trans (show _=some (Value.slice (some ⟨g,off,none⟩) 4352 cap) from rfl);have m1:=(hk.cell 1).trans (show _=some (Value.slice (some ⟨g2,off2,none⟩) M cap2) from rfl);have ml:=hk.lt;clear hk hb1 k0 k1 kl;obtain⟨d,hd⟩:∃ d,r / 256=d:=⟨_,rfl⟩
 obtain⟨q,hq⟩:∃ q,r % 256=q:=⟨_,rfl⟩
 have hd1:d<4352:=by omega
 have hq1:q<256:=by omega
 have td:(r:Int).tdiv 256=(d:Int):=by rw [<- hd];rfl
 have tm:(r:Int).tmod 256=(q:Int):=by rw [<- hq];rfl
 rw [hd] at a5;rw [hq] at c5;clear hd hq;go_wp2_with fail;have HDR:=bx (λm=>HB1.o.trans ((jG w1 m).mono HB1.o.size))
 go_quiet (fail)
 go_wp2_with fail;go_ret
 exact⟨rfl,HDR.o _⟩
theorem NH {l:List F.Map} {r:Int} (h:∀ (j:Nat) (y:F.Map),j<l.length->l[j]?=some y->y.1≠r):T.becomes l r=[r]:=by
 unfold T.becomes;have:l.find? (λx=>x.1==r)=none:=by
  rw [List.find?_eq_none];intro x hx;obtain⟨i,hi,e⟩:=List.getElem_of_mem hx;have:=h i x hi (by rw [List.getElem?_eq_getElem hi,e])
  simpa using this
 rw [this]
theorem NI {l:List F.Map} {r:Int} {k:Nat} {x:F.Map} (hx:l[k]?=some x) (hr:x.1=r) (h:∀ (j:Nat) (y:F.Map),j<k->l[j]?=some y->y.1≠r):T.becomes l r=x.2:=by
 unfold T.becomes;have:l.find? (λx=>x.1==r)=some x:=by
  rw [List.find?_eq_some_iff_getElem];obtain⟨hk,e⟩:=List.getElem?_eq_some_iff.1 hx;refine⟨by simpa using hr,k,hk,e,λj hj=>?_⟩;have:=h j l[j] hj (List.getElem?_eq_getElem (by omega))
  simpa using this
 rw [this]
theorem clone_any (v:Value) (xs:List Int) (w:World) (hv:ay w v xs) (hz:xs.length<=100000) :
  Calls Tryz.prog 171 #[v] w λe w'=>(∃ v',e = .returned v'/\ay w' v' xs/\∀ g,v'.ownBlock=some g->w.heap.size<=g/\g<w'.heap.size)/\Below w.heap.size w w':=by
 obtain⟨a,cap,rfl⟩:=hv.slice
 cases a with
 | none =>
  obtain⟨rfl,rfl⟩:xs=[]/\cap=0:=by
   rcases hv with⟨h1,h2⟩ | ⟨b,off,sp,cap2,h1,_⟩
   ·injection h1 with _ _ h3;exact⟨h2,h3⟩
   ·injection h1 with h1;cases h1
  rw [List.length_nil];have hq:∀ W,(binOp .eql 23 (.slice none 0 0) (.slice none 0 0)).run Tryz.prog W = .ok (.bool true) W:=λW=>by kernel_rfl
  go_enter Tryz.func171,Tryz.ntmps171
  go_wp2_with fail;go_ret
  exact⟨⟨_,rfl, .inl ⟨rfl,rfl⟩,λg hg=>by cases hg⟩,Below.refl _ _⟩
 | some ad =>
  have HU:=bx (pG (hv.below (aS w (.cells #[] 3))));have aU:=bx (show Sep [Pc.row w.heap.size 3 1 (.slice (some ⟨w.heap.size,0,none⟩) 0 0) 0 [],Pc.old w.heap.size w] (w.alloc (.cells #[] 3)) from
   (Sep.start w).add (aS w _) (World.ownsRow_lit (base:=w.heap.size) (e:=3) (size:=1) w #[] 0 (Nat.le_refl _) (by unfold maxLen;omega) rfl) (λk hk=>by simp [Pc.row,Value.ownBlock] at hk;omega))
  have hbs:w.heap.size<=(w.alloc (.cells #[] 3)).heap.size:=by simp
  have hq:∀ W,(binOp .eql 23 (.slice (some ad) xs.length cap) (.slice none 0 0)).run Tryz.prog W = .ok (.bool false) W:=λW=>by kernel_rfl
  clear hv
  go_enter Tryz.func171,Tryz.ntmps171
  go_wp2_with (at_builtin;refine lX rfl _ _ 23 rfl lQ (by decide) aU.o 0 rfl rfl rfl HU.o (by rw [List.length_map,Nat.mul_one]) (by intro z hz;obtain⟨q,-,rfl⟩:=List.mem_map.1 hz;rfl) (by omega) (by omega) hbs ?_;rintro v7 w7 hS7)
  have hrow:=hS7.row 0 rfl;have HI:=bx (show ay w7 v7 xs by
   rw [Nat.zero_add,List.nil_append] at hrow;exact ay.dL hrow rfl)
  have HF:=bx (λg hg=>hrow.lt g hg);have aH:=bx (hS7.bel (n:=w.heap.size) (W0:=w) (by simp));clear hS7 hrow;go_wp2_with fail;go_ret
  exact⟨⟨_,rfl,HI.o,HF.o⟩,aH.o⟩
theorem al8 (x1 r:Int) (a:Option Addr) (n c b:Nat) (w:World) (hc:w.cell? ⟨b,0,none⟩=some (.int .i64 r)) (hl:b<w.heap.size) :
  Calls Tryz.prog 170 #[.agg #[.int .i64 x1, .slice a n c], .pointer (some ⟨b,0,none⟩)] w λe w'=>e = .returned (.bool (x1==r))/\Below w.heap.size w w':=by
 have HB:=bx (aS w (.cells #[.int .i64 x1, .slice a n c] 130));have h1:=(HB.o.cell (p:=⟨b,0,none⟩) hl).trans hc;clear hc
 go_enter Tryz.func170,Tryz.ntmps170
 go_wp2_with fail;go_ret
 exact⟨rfl,HB.o⟩
def SG (l:List F.Map) (r:Int) (i:Int):Prop:=(i=-1/\T.becomes l r=[r])\/∃ (k:Nat) (x:F.Map),i=(k:Int)/\l[k]?=some x/\T.becomes l r=x.2
theorem akW (v:Value) (l:List F.Map) (r:Int) (b:Nat) (w:World) (hv:lK w v l) (hz:l.length<=100000) (hc:w.cell? ⟨b,0,none⟩=some (.int .i64 r)) (hl:b<w.heap.size) :
  Calls Tryz.prog 169 #[v, .func (.func 170) #[] #[.pointer (some ⟨b,0,none⟩)]] w λe w'=>(∃ i,e = .returned (.int .i64 i)/\SG l r i)/\Below w.heap.size w w':=by
 have HV:=bx hv;obtain⟨a,cap,rfl,hc1,hc2⟩:=hv.slice;obtain⟨N,hN⟩:∃ N,l.length=N:=⟨_,rfl⟩
 rw [hN] at HV hz hc1 ⊢;have HN:=bx hN;have dJ:=bx (λx1 ua un uc W (h:Below w.heap.size w W)=>al8 x1 r ua un uc b W ((h.cell (p:=⟨b,0,none⟩) hl).trans hc) (Nat.lt_of_lt_of_le hl h.size));clear hv hN hc
 go_enter Tryz.func169,Tryz.ntmps169
 go_wp2_with fail
 go_loopw [8] (λi wr=>∃ k:Nat,k<=N/\i = .int .i64 k/\Box (∀ (j:Nat) (y:F.Map),j<k->l[j]?=some y->y.1≠r)/\Box (Below w.heap.size w wr)) (λi _=>N-(intOf i).toNat)
 case atStart=>exact⟨0,by omega,rfl,⟨λj y h=>by omega⟩,⟨Below.refl _ _⟩⟩
 case round =>
  obtain⟨k,hk,rfl,hno,hb⟩:=hrel
  by_cases hlt:k<N
  ·obtain⟨x,hx⟩:∃ x,l[k]?=some x:=⟨_,List.getElem?_eq_getElem (by rw [HN.o];exact hlt)⟩
   obtain⟨g,off,cap2,hg1,hg2,hg3,hg4,hg5⟩:=(HV.o.below hb.o).get (by rintro rfl;simp at hx);rw [HN.o] at hg1 hg2;obtain⟨rfl,rfl⟩:a=some ⟨g,off,none⟩/\cap=cap2:=by injection hg1 with h1 h2 h3;exact⟨h1,h3⟩
   obtain⟨x0,u,x1,hu⟩:=hg5 k x hx;obtain⟨ua,uc,rfl⟩:=hu.slice;have HX:=bx hx;have HC:=bx (dJ.o x.1 ua x.2.length uc wr hb.o);unfold maxLen at hg3;clear hx hg1 hg5 hu
   by_cases he:x.1=r
   ·have HT:=bx (show (x.1==r)=true by rw [beq_iff_eq];exact he);have HH:=bx (show SG l r (k:Int) from .inr ⟨k,x,rfl,HX.o,NI HX.o he hno.o⟩);clear he;rw [HT.o] at HC;go_wp2_with fail;refine HC.o.mono ?_;rintro e w1 ⟨rfl,hb1⟩;have HB1:=bx (bt hb.o hb1);clear hb1;go_wp2_with fail;go_ret
    exact⟨⟨_,rfl,HH.o⟩,HB1.o⟩
   ·have HT:=bx (show (x.1==r)=false by rw [beq_eq_false_iff_ne];exact he);have bZ:=bx (upto_succ hno.o HX.o he);clear he;rw [HT.o] at HC;go_wp2_with fail;refine HC.o.mono ?_;rintro e w1 ⟨rfl,hb1⟩;have HB1:=bx (bt hb.o hb1);clear hb1;go_wp2_with fail
    go_roundw
    case rel=>exact⟨k+1,by omega,by go_num,bZ,HB1⟩
    case measure=>simp [intOf];omega
  ·obtain rfl:k=N:=by omega
   have HH:=bx (show SG l r (-1) from .inl ⟨rfl,NH (λj y hj hy=>hno.o j y (by rw [<- HN.o];exact hj) hy)⟩);go_wp2_with fail;go_ret
   exact⟨⟨_,rfl,HH.o⟩,hb.o⟩
theorem adp (v:Value) (l:List F.Map) (r:Int) (w:World) (hv:lK w v l) (hz:l.length<=100000) (mY:∀ x∈l,x.2.length<=100000) :
  Calls Tryz.prog 130 #[v, .int .i64 r] w λe w'=>(∃ v',e = .returned v'/\ay w' v' (T.becomes l r)/\∀ g,v'.ownBlock=some g->w.heap.size<=g/\g<w'.heap.size)/\Below w.heap.size w w':=by
 have HB0:=bx (aS w (.cells #[.int .i64 r] 3));have HK:=bx (ak.new w 3 #[.int .i64 r]);have HV:=bx hv;have YZ:=bx (akW v l r w.heap.size (w.alloc (.cells #[.int .i64 r] 3)) (hv.below HB0.o) hz ((HK.o.cell 0).trans rfl) HK.o.lt);have tK:=bx mY;obtain⟨a,cap,rfl,hc1,hc2⟩:=hv.slice;obtain⟨N,hN⟩:∃ N,l.length=N:=⟨_,rfl⟩
 rw [hN] at HV YZ hz hc1 ⊢;have HN:=bx hN;clear hv hN mY
 go_enter Tryz.func130,Tryz.ntmps130
 go_wp2_with fail;refine YZ.o.mono ?_;rintro e w1 ⟨⟨i,rfl,hi⟩,hb1⟩;have HB1:=bx (bt HB0.o hb1);have hk:=HK.o.below hb1 HK.o.lt;have k0:=(hk.cell 0).trans (show _=some (Value.int .i64 r) from rfl);have kl:=hk.lt;have bK:=bx HB1.o.size;clear hk hb1
 rcases hi with⟨rfl,hbe⟩ | ⟨k,x,rfl,hx,hbe⟩
 ·have dJ:=bx hbe;have HI:=bx (DN w1 r 3);have HB2:=bx (HB1.o.trans ((aS w1 (.cells #[.int .i64 r] 3)).mono HB1.o.size));clear hbe;go_wp2_with fail;go_ret
  exact⟨⟨_,rfl,by rw [dJ.o];exact HI.o,λg hg=>by simp [Value.ownBlock] at hg;subst hg;exact⟨bK.o,by simp⟩⟩,HB2.o⟩
 ·have dJ:=bx hbe;have hkN:k<N:=by rw [<- HN.o];exact(List.getElem?_eq_some_iff.1 hx).1
  obtain⟨g,off,cap2,hg1,hg2,hg3,hg4,hg5⟩:=(HV.o.below HB1.o).get (by rintro rfl;simp at hx);rw [HN.o] at hg1 hg2;obtain⟨rfl,rfl⟩:a=some ⟨g,off,none⟩/\cap=cap2:=by injection hg1 with h1 h2 h3;exact⟨h1,h3⟩
  obtain⟨x0,u,x1,hu⟩:=hg5 k x hx;have lC:=bx (clone_any u x.2 w1 hu (tK.o x (List.mem_of_getElem? hx)));have e0:decide ((k:Int)<0)=false:=decide_eq_false (by omega);unfold maxLen at hg3;clear hbe hx hg1 hg5 hu k0 kl;go_wp2_with fail;refine lC.o.mono ?_;rintro e w2 ⟨⟨v',rfl,hv',hfr⟩,hb2⟩;have KI:=bx hv';have DF:=bx hfr;have HB2:=bx (bt HB1.o hb2);clear hv' hfr hb2;go_wp2_with fail;go_ret
  exact⟨⟨_,rfl,by rw [dJ.o];exact KI.o,λg hg=>⟨Nat.le_trans bK.o (DF.o g hg).1,(DF.o g hg).2⟩⟩,HB2.o⟩
theorem U7 (v:Value) (c:T.Cs) (r:Int) (w:World) (hv:bC w v c) (hs:T.Small c) (hc:T.cu 600 c=true) (hr:U.right r=true) :
  Calls Tryz.prog 60 #[v, .int .i64 r] w λe w'=>e = .returned (.int .i64 0)/\Below w.heap.size w w':=by
 obtain⟨lv,tv,ci,cb,gi,gb,rfl,h1,h2,h3,h4,h5,h6⟩:=hv;obtain⟨V,hV⟩:∃ V,V=w.alloc (.cells #[lv,tv,ci,cb,gi,gb] 28):=⟨_,rfl⟩
 have HB0:=bx (show Below w.heap.size w V by rw [hV];exact aS _ _);have HK:=bx (show ak V w.heap.size 28 #[lv,tv,ci,cb,gi,gb] by rw [hV];exact ak.new _ _ _);have bU:=bx (λW (h:Below w.heap.size w W)=>show bC W (.agg #[lv,tv,ci,cb,gi,gb]) c from⟨lv,tv,ci,cb,gi,gb,rfl,h1.below h,h2.below h,h3.below h,h4.below h,h5.below h,h6.below h⟩);have aB:=bx (λW (h:Below V.heap.size V W)=>HK.o.c6 h);have HV:=bx hV;have dK:=bx (λW (h:Below w.heap.size w W)=>hc▸Qn _ c W (bU.o W h) hs);have gV:=bx (λW=>Wp r W);rw [hr] at gV;clear h1 h2 h3 h4 h5 h6 hs hc hr hV;obtain⟨k0,k1,k2,k3,k4,k5,kl⟩:=aB.o V (Below.refl _ _)
 go_enter Tryz.func60,Tryz.ntmps60
 go_upto_region 1 with(fail)
 rw [<- HV.o];go_wp2_with fail;refine(dK.o _ HB0.o).mono ?_;rintro e w1 ⟨rfl,hb1⟩;have HB1:=bx (bt HB0.o hb1);clear hb1 k0 k1 k2 k3 k4 k5 kl;go_wp2_with fail;refine(gV.o _).mono ?_;rintro e w2 ⟨rfl,rfl⟩;go_wp2_with fail;go_ret
 exact⟨rfl,HB1.o⟩
theorem afF (v:Value) (c:T.Cs) (r:Int) (w:World) (hv:bC w v c) (hs:T.Small c) (hc:T.cu 600 c=true) (hr:U.right r=true) :
  Calls Tryz.prog 78 #[v, .int .i64 r] w λe w'=>(∃ v',e = .returned (.tuple #[v', .int .i64 0])/\ay w' v' (T.becomes c.lo r)/\∀ g,v'.ownBlock=some g->w.heap.size<=g/\g<w'.heap.size)/\Below w.heap.size w w':=by
 obtain⟨lv,tv,ci,cb,gi,gb,rfl,h1,h2,h3,h4,h5,h6⟩:=hv;obtain⟨V,hV⟩:∃ V,V=w.alloc (.cells #[lv,tv,ci,cb,gi,gb] 28):=⟨_,rfl⟩
 have HB0:=bx (show Below w.heap.size w V by rw [hV];exact aS _ _);have HK:=bx (show ak V w.heap.size 28 #[lv,tv,ci,cb,gi,gb] by rw [hV];exact ak.new _ _ _);have bU:=bx (λW (h:Below w.heap.size w W)=>show bC W (.agg #[lv,tv,ci,cb,gi,gb]) c from⟨lv,tv,ci,cb,gi,gb,rfl,h1.below h,h2.below h,h3.below h,h4.below h,h5.below h,h6.below h⟩);have aB:=bx (λW (h:Below V.heap.size V W)=>HK.o.c6 h);have HV:=bx hV;have iT:=bx (λW (h:Below w.heap.size w W)=>U7 _ c r W (bU.o W h) hs hc hr);have dJ:=bx (λW (h:Below w.heap.size w W)=>adp lv c.lo r W (h1.below h) hs.lo hs.loA);clear h1 h2 h3 h4 h5 h6 hs hc hr hV;obtain⟨k0,k1,k2,k3,k4,k5,kl⟩:=aB.o V (Below.refl _ _)
 go_enter Tryz.func78,Tryz.ntmps78
 go_upto_region 1 with(fail)
 rw [<- HV.o];go_wp2_with fail;refine(iT.o _ HB0.o).mono ?_;rintro e w1 ⟨rfl,hb1⟩;have HB1:=bx (bt HB0.o hb1);clear k0 k1 k2 k3 k4 k5 kl;obtain⟨k0,k1,k2,k3,k4,k5,kl⟩:=aB.o w1 hb1;clear hb1;go_wp2_with fail;refine(dJ.o _ HB1.o).mono ?_;rintro e w2 ⟨⟨v',rfl,hv',hfr⟩,hb2⟩;have KI:=bx hv';have DF:=bx hfr;have bK:=bx HB1.o.size;have HB2:=bx (bt HB1.o hb2);clear hv' hfr hb2;go_wp2_with fail;go_ret2
 exact⟨⟨_,rfl,KI.o,λg hg=>⟨Nat.le_trans bK.o (DF.o g hg).1,(DF.o g hg).2⟩⟩,HB2.o⟩
theorem ajC (v:Value) (c:T.Cs) (r:Int) (w:World) (hv:bC w v c) (hs:T.Small c) (hc:T.cu 600 c=true) (hr:U.right r=true) :
  Calls Tryz.prog 81 #[v, .int .i64 r] w λe w'=>(∃ v',e = .returned (.tuple #[v', .int .i64 0])/\ay w' v' (T.becomes c.ti r)/\∀ g,v'.ownBlock=some g->w.heap.size<=g/\g<w'.heap.size)/\Below w.heap.size w w':=by
 obtain⟨lv,tv,ci,cb,gi,gb,rfl,h1,h2,h3,h4,h5,h6⟩:=hv;obtain⟨V,hV⟩:∃ V,V=w.alloc (.cells #[lv,tv,ci,cb,gi,gb] 28):=⟨_,rfl⟩
 have HB0:=bx (show Below w.heap.size w V by rw [hV];exact aS _ _);have HK:=bx (show ak V w.heap.size 28 #[lv,tv,ci,cb,gi,gb] by rw [hV];exact ak.new _ _ _);have bU:=bx (λW (h:Below w.heap.size w W)=>show bC W (.agg #[lv,tv,ci,cb,gi,gb]) c from⟨lv,tv,ci,cb,gi,gb,rfl,h1.below h,h2.below h,h3.below h,h4.below h,h5.below h,h6.below h⟩);have aB:=bx (λW (h:Below V.heap.size V W)=>HK.o.c6 h);have HV:=bx hV;have iT:=bx (λW (h:Below w.heap.size w W)=>U7 _ c r W (bU.o W h) hs hc hr);have dJ:=bx (λW (h:Below w.heap.size w W)=>adp tv c.ti r W (h2.below h) hs.ti hs.tiA);clear h1 h2 h3 h4 h5 h6 hs hc hr hV;obtain⟨k0,k1,k2,k3,k4,k5,kl⟩:=aB.o V (Below.refl _ _)
 go_enter Tryz.func81,Tryz.ntmps81
 go_upto_region 1 with(fail)
 rw [<- HV.o];go_wp2_with fail;refine(iT.o _ HB0.o).mono ?_;rintro e w1 ⟨rfl,hb1⟩;have HB1:=bx (bt HB0.o hb1);clear k0 k1 k2 k3 k4 k5 kl;obtain⟨k0,k1,k2,k3,k4,k5,kl⟩:=aB.o w1 hb1;clear hb1;go_wp2_with fail;refine(dJ.o _ HB1.o).mono ?_;rintro e w2 ⟨⟨v',rfl,hv',hfr⟩,hb2⟩;have KI:=bx hv';have DF:=bx hfr;have bK:=bx HB1.o.size;have HB2:=bx (bt HB1.o hb2);clear hv' hfr hb2;go_wp2_with fail;go_ret2
 exact⟨⟨_,rfl,KI.o,λg hg=>⟨Nat.le_trans bK.o (DF.o g hg).1,(DF.o g hg).2⟩⟩,HB2.o⟩
theorem yw {r:Int} (h:U.right r=true):∃ n:Nat,r=(n:Int)/\n<=1114111:=by
 have h0:=Ze h;unfold U.right at h;simp only [Bool.and_eq_true,decide_eq_true_eq,Bool.or_eq_true] at h;exact⟨r.toNat,by omega,by omega⟩
theorem PW (v:Value) (c:T.Cs) (r:Int) (w:World) (hv:bC w v c) (hs:T.Small c) (hc:T.cu 600 c=true) (hr:U.right r=true) :
  Calls Tryz.prog 29 #[v, .int .i64 r] w λe w'=>e = .returned (.tuple #[.bool (T.cased c r), .bool (T.aX c r), .int .i64 0])/\Below w.heap.size w w':=by
 obtain⟨rn,hrn,hrz⟩:=yw hr;obtain⟨lv,tv,ci,cb,gi,gb,rfl,h1,h2,h3,h4,h5,h6⟩:=hv;obtain⟨V,hV⟩:∃ V,V=w.alloc (.cells #[lv,tv,ci,cb,gi,gb] 28):=⟨_,rfl⟩
 have HB0:=bx (show Below w.heap.size w V by rw [hV];exact aS _ _);have HK:=bx (show ak V w.heap.size 28 #[lv,tv,ci,cb,gi,gb] by rw [hV];exact ak.new _ _ _);have bU:=bx (λW (h:Below w.heap.size w W)=>show bC W (.agg #[lv,tv,ci,cb,gi,gb]) c from⟨lv,tv,ci,cb,gi,gb,rfl,h1.below h,h2.below h,h3.below h,h4.below h,h5.below h,h6.below h⟩);have aB:=bx (λW (h:Below V.heap.size V W)=>HK.o.c6 h);have HV:=bx hV;have iT:=bx (λW (h:Below w.heap.size w W)=>U7 _ c r W (bU.o W h) hs hc hr);have htt:=hc;rw [wE] at htt;simp only [Bool.and_eq_true] at htt;obtain⟨⟨-,ht1⟩,ht2⟩:=htt;have dU:=bx (λW (h:Below w.heap.size w W)=>hrn▸aau (.agg #[ci,cb]) c.ca rn W ⟨_,_,rfl,h3.below h,h4.below h⟩ ⟨hs.c1,hs.c2,hs.c3⟩ ht1 hrz);have eY:=bx (λW (h:Below w.heap.size w W)=>hrn▸aau (.agg #[gi,gb]) c.ig rn W ⟨_,_,rfl,h5.below h,h6.below h⟩ ⟨hs.g1,hs.g2,hs.g3⟩ ht2 hrz);unfold T.cased T.aX;generalize F.says c.ca r=y1 at dU ⊢;generalize F.says c.ig r=y2 at eY ⊢;clear h1 h2 h3 h4 h5 h6 hs hc hr hV ht1 ht2 hrn hrz;obtain⟨k0,k1,k2,k3,k4,k5,kl⟩:=aB.o V (Below.refl _ _)
 go_enter Tryz.func29,Tryz.ntmps29
 go_upto_region 1 with(fail)
 rw [<- HV.o];go_wp2_with fail;refine(iT.o _ HB0.o).mono ?_;rintro e w1 ⟨rfl,hb1⟩;have HB1:=bx (bt HB0.o hb1);have HW1:=bx hb1;clear k0 k1 k2 k3 k4 k5 kl hb1;obtain⟨Inv,hI1,hI2⟩:∃ Inv:World->Prop,(∀ W,Inv W->Below w1.heap.size w1 W)/\(∀ W,Below w1.heap.size w1 W->Inv W):=⟨_,λ_ h=>h,λ_ h=>h⟩
 have aZ:=bx (show ∀ q:CW Inv,Below w1.heap.size w1 q.w from λq=>hI1 _ q.h);have eH:=bx (show ∀ (q:CW Inv) w',Below q.w.heap.size q.w w'->Inv w' from λq w' h=>hI2 _ ((aZ.o q).trans (h.mono (aZ.o q).size)));have fQ:=bx (λq:CW Inv=>HB1.o.trans ((aZ.o q).mono HB1.o.size));have bf:=bx (λq:CW Inv=>HW1.o.trans ((aZ.o q).mono HW1.o.size));have q2:∀ q:CW Inv,q.w.cell? ⟨w.heap.size,2,none⟩=some ci:=λq=>(aB.o _ (bf.o q)).2.2.1
 have q3:∀ q:CW Inv,q.w.cell? ⟨w.heap.size,3,none⟩=some cb:=λq=>(aB.o _ (bf.o q)).2.2.2.1
 have q4:∀ q:CW Inv,q.w.cell? ⟨w.heap.size,4,none⟩=some gi:=λq=>(aB.o _ (bf.o q)).2.2.2.2.1
 have q5:∀ q:CW Inv,q.w.cell? ⟨w.heap.size,5,none⟩=some gb:=λq=>(aB.o _ (bf.o q)).2.2.2.2.2.1
 have K1:=bx (λq:CW Inv=>ji (dU.o q.w (fQ.o q)) rfl (eH.o q));have K2:=bx (λq:CW Inv=>ji (eY.o q.w (fQ.o q)) rfl (eH.o q));have HDR:=bx (hI2 _ (eu w1 1));clear hI1 hI2;go_wp2_with fail;refine gK Inv (by kernel_rfl) (by kernel_rfl) HDR.o (λhne=>?_)
 iterate 4 (first | go_big_quiet_step ((go_at_call 61;exact K1.o _)) | quiet_step ((go_at_call 61;exact K1.o _)))
 clear K1
 iterate 9 (first | go_big_quiet_step ((go_at_call 61;exact K2.o _)) | quiet_step ((go_at_call 61;exact K2.o _)))
 refine wpQuiet_nil ?_;rintro w7 ⟨q7,rfl⟩;have aH:=bx (fQ.o q7);clear q2 q3 q4 q5 hne;go_wp2_with fail
 go_ret3
 exact⟨rfl,aH.o⟩
def T.wrong (c:T.Cs) (xs:List Int):Int:=if T.cu 600 c=false then 140 else if 2000<xs.length then 121 else if xs.all U.right=false then 10 else 0
end
namespace T
open Go.Proofs.YtlmdjifffmofeaaGreatDoor
theorem Jh (c:Cs) (l:List Int) (k:Nat):(List.range (k+1)).flatMap (small c l)=(List.range k).flatMap (small c l)++small c l k:=by
 rw [List.range_succ,List.flatMap_append,List.flatMap_cons,List.flatMap_nil,List.append_nil]
def lV (c:Cs) (l:List Int) (a k:Nat):Bool:=(List.range k).any λi=>cased c (l.getD (a+i) 0)
def kR (c:Cs) (l:List Int) (a:Nat):Nat->List Int
 | 0=>[]
 | k+1=>kR c l a k++(if lV c l a k=true then small c l (a+k) else if cased c (l.getD (a+k) 0)=true then becomes c.ti (l.getD (a+k) 0) else [l.getD (a+k) 0])
theorem Iw (c:Cs) (l:List Int) (a k:Nat):lV c l a (k+1)=(lV c l a k||cased c (l.getD (a+k) 0)):=by
 unfold lV;rw [List.range_succ,List.any_append,List.any_cons,List.any_nil,Bool.or_false]
theorem RH (c:Cs) (l:List Int) (a:Nat):∀ (n k:Nat),kR c l a (k+n)=kR c l a k++uM c l n (a+k) (lV c l a k)
 | 0,k=>by
  cases lV c l a k <;> simp [uM]
 | n+1,k=>by
  have ih:=RH c l a n (k+1);rw [show k+(n+1)=k+1+n by omega,ih,Iw];simp only [kR];rw [List.append_assoc]
  congr 1
  cases hm:lV c l a k with
  | true =>
   rw [if_pos rfl,Bool.true_or];simp only [uM]
   rfl
  | false =>
   rw [if_neg (by simp),Bool.false_or]
   cases hc:cased c (l.getD (a+k) 0) with
   | true =>
    rw [if_pos rfl];simp only [uM];rw [if_pos hc]
    rfl
   | false =>
    rw [if_neg (by simp)];simp only [uM];rw [if_neg (by rw [hc];simp)]
    rfl
theorem KA (c:Cs) (l:List Int) (a b:Nat):kR c l a (b-a)=word c l a b:=by
 have:=RH c l a (b-a) 0;rw [Nat.zero_add] at this;rw [this]
 rfl
end T
namespace T
open Go.Proofs.YtlmdjifffmofeaaGreatDoor
def Fine (n:Nat) (m:List Int):Prop:=m.length<=3*n/\∀ x∈m,U.right x=true
theorem Fine.nil:Fine 0 []:=⟨by simp,by simp⟩
theorem Fine.append {a b:Nat} {m n:List Int} (h:Fine a m) (k:Fine b n):Fine (a+b) (m++n):=by
 refine⟨?_,λx hx=>?_⟩
 ·rw [List.length_append];have:=h.1;have:=k.1;omega
 ·rcases List.mem_append.1 hx with hx | hx
  ·exact h.2 x hx
  ·exact k.2 x hx
theorem Fine.one {r:Int} (h:U.right r=true):Fine 1 [r]:=⟨by simp,λx hx=>by rw [List.mem_singleton] at hx;rw [hx];exact h⟩
theorem acI:∀ (l:List F.Map) (last:Int),CY last l=true->∀ x∈l,toB x.2=true
 | [],_,_,x,hx=>by simp at hx
 | y::t,last,h,x,hx=>by
  unfold CY at h;simp only [Bool.and_eq_true] at h
  rcases List.mem_cons.1 hx with rfl | hx
  ·exact h.1.2
  ·exact acI t y.1 h.2 x hx
theorem GX {m:Nat} {l:List F.Map} (h:iI m l=true) {r:Int} (hr:U.right r=true):Fine 1 (becomes l r):=by
 unfold becomes
 split
 ·rename_i x hx
  unfold iI at h;rw [Bool.and_eq_true] at h;have ht:=acI l _ h.1 x (List.mem_of_find?_eq_some hx);unfold toB at ht;simp only [Bool.and_eq_true,decide_eq_true_eq,List.all_eq_true] at ht;exact⟨by omega,ht.2⟩
 ·exact Fine.one hr
theorem IX {m:Nat} {c:Cs} (h:cu m c=true):iI m c.lo=true/\iI m c.ti=true:=by
 unfold cu at h;simp only [Bool.and_eq_true] at h;exact⟨h.1.1.1,h.1.1.2⟩
theorem Xr {l:List Int} (h:∀ x∈l,U.right x=true) {i:Nat} (hi:i<l.length):U.right (l.getD i 0)=true:=by
 rw [List.getD_eq_getElem?_getD,List.getElem?_eq_getElem hi,Option.getD_some];exact h _ (List.getElem_mem hi)
theorem A8 {m:Nat} {c:Cs} (h:cu m c=true) {l:List Int} (hl:∀ x∈l,U.right x=true) {i:Nat} (hi:i<l.length):Fine 1 (small c l i):=by
 unfold small
 split
 ·exact Fine.one (by decide)
 ·exact GX (IX h).1 (Xr hl hi)
theorem Fa {m:Nat} {c:Cs} (h:cu m c=true) {l:List Int} (hl:∀ x∈l,U.right x=true):Fine l.length (lower c l):=by
 have key:∀ k,k<=l.length->Fine k ((List.range k).flatMap (small c l)):=by
  intro k
  induction k with
  | zero=>intro _;exact Fine.nil
  | succ k ih =>
   intro hk;rw [Jh];exact(ih (by omega)).append (A8 h hl (by omega))
 exact key _ (Nat.le_refl _)
theorem QC {m:Nat} {c:Cs} (h:cu m c=true) {l:List Int} (hl:∀ x∈l,U.right x=true) (a:Nat):∀ k,a+k<=l.length->Fine k (kR c l a k)
 | 0,_=>Fine.nil
 | k+1,hk=>by
  refine(QC h hl a k (by omega)).append ?_
  split
  ·exact A8 h hl (by omega)
  ·split
   ·exact GX (IX h).2 (Xr hl (by omega))
   ·exact Fine.one (Xr hl (by omega))
theorem NM {m:Nat} {c:Cs} (h:cu m c=true) {l:List Int} (hl:∀ x∈l,U.right x=true) (a b:Nat) (hb:b<=l.length):Fine (b-a) (word c l a b):=by
 rw [<- KA]
 rcases Nat.le_total a b with hab | hab
 ·exact QC h hl a _ (by omega)
 ·rw [show b-a=0 by omega];exact Fine.nil
def part (l:List Int) (a k:Nat):List Int:=(l.drop a).take k
theorem YG {l:List Int} {a k:Nat} (h:a+k<l.length):part l a (k+1)=part l a k++[l.getD (a+k) 0]:=by
 unfold part;rw [List.take_succ_eq_append_getElem (by rw [List.length_drop];omega),List.getElem_drop,List.getD_eq_getElem?_getD,List.getElem?_eq_getElem h,Option.getD_some]
theorem TY {c:Cs} {l:List Int} {a:Nat}:∀ {k:Nat},a+k<=l.length->lV c l a k=false->kR c l a k=part l a k
 | 0,_,_=>by simp [kR,part]
 | k+1,hk,hm=>by
  rw [Iw,Bool.or_eq_false_iff] at hm;rw [YG (by omega)];simp only [kR];rw [TY (by omega) hm.1,hm.1,hm.2,if_neg (by simp),if_neg (by simp)]
theorem O7 {c:Cs} {l:List Int} {a k b:Nat} (h:a+k<=b) (hb:b<=l.length) (hm:lV c l a k=false):word c l a b=part l a k++word c l (a+k) b:=by
 rw [<- KA];have:=RH c l a (b-a-k) k;rw [show k+(b-a-k)=b-a by omega] at this;rw [this,TY (by omega) hm,hm]
 congr 1
 unfold word;rw [show b-(a+k)=b-a-k by omega]
end T
section
open Go.RowKit
attribute [local go_sem] Oper.semAt_some
theorem ay.part {w:World} {b off cap:Nat} {xs:List Int} (h:ay w (.slice (some ⟨b,off,none⟩) xs.length cap) xs) (i j cap':Nat) (hij:i<=j) (hj:j<=xs.length) (hc:j-i<=cap') (hz:cap'<=maxLen) (ad:Addr) (had:i<j->ad=(⟨b,off,none⟩:Addr).add i) :
  ay w (.slice (some ad) (j-i) cap') ((xs.take j).drop i):=by
 have hl:((xs.take j).drop i).length=j-i:=by rw [List.length_drop,List.length_take,Nat.min_eq_left hj]
 rcases h with⟨h1,h2⟩ | ⟨b2,off2,sp2,cap2,h1,h2,h3,h4⟩
 ·cases h1
 ·injection h1 with e1 e2 e3;injection e1 with e1;injection e1 with e4 e5 e6;subst e4 e5 e6;obtain⟨ab,ao,as_⟩:=ad;refine .inr ⟨ab,ao,as_,cap',by rw [hl],by rw [hl];exact hc,hz,λhn=>?_⟩;have hlt:i<j:=by
   rcases Nat.lt_or_ge i j with h | h
   ·exact h
   ·exact absurd (List.eq_nil_of_length_eq_zero (by rw [hl];omega)) hn
  have hxs:xs≠[]:=by rintro rfl;simp at hj;omega
  obtain⟨-,h5,h6⟩:=h4 hxs;have hd:=had hlt;unfold Addr.add at hd;have e7:ab=b/\ao=off+i/\as_=none:=by
   by_cases h0:i=0
   ·subst h0;simp at hd;exact⟨hd.1,by omega,hd.2.2⟩
   ·simp [h0] at hd;exact⟨hd.1,by omega,hd.2.2⟩
  obtain⟨rfl,rfl,rfl⟩:=e7;refine⟨rfl,h5,λk x hx=>?_⟩;rw [List.getElem?_drop,List.getElem?_take] at hx
  split at hx
  ·have:=h6 (i+k) x hx;rw [show off+i+k=off+(i+k) by omega];exact this
  ·cases hx
theorem T.pI {c:T.Cs} {xs:List Int} (h:T.wrong c xs=0):T.cu 600 c=true/\xs.length<=2000/\∀ x∈xs,U.right x=true:=by
 unfold T.wrong at h
 split at h
 ·cases h
 ·rename_i h1
  split at h
  ·cases h
  ·rename_i h2
   split at h
   ·cases h
   ·rename_i h3
    exact⟨by simpa using h1,by omega,by simpa using h3⟩
def T.jW (c:T.Cs) (xs:List Int) (a:Int):Int:=if T.wrong c xs≠0 then T.wrong c xs else if 0<=a/\a<xs.length then 0 else 12
def T.kK (c:T.Cs) (xs:List Int) (a b:Int):Int:=if T.wrong c xs≠0 then T.wrong c xs else if 0<=a/\a<=b/\b<=xs.length then 0 else 12
def T.jL (c:T.Cs) (xs:List Int) (a:Int):Bool:=decide (T.jW c xs a=0)&&T.final c xs a.toNat
def T.gy (c:T.Cs) (xs:List Int):List Int:=if T.wrong c xs=0 then T.lower c xs else []
def T.lM (c:T.Cs) (xs:List Int) (a b:Int):List Int:=if T.kK c xs a b=0 then T.word c xs a.toNat b.toNat else []
end
end Go.Proofs.YtlmdjifffmofeaaGreatDoor
