/-
  Texts of this claim, one behind the other: SgI, SgL, SgN, SgK, SgO, SgR, SgS, SgT.
-/
import Derived.Test.YtbpcipobdokcfaaGreatDoorH9
import Derived.Test.YtbpcipobdokcfaaGreatDoorH7
import Derived.RegionTactic
import Derived.BigQuiet
import Derived.Test.YtbpcipobdokcfaaGreatDoorH3
import Derived.Laws.MakeOwn
import Derived.Laws.CopyRow
import Derived.Laws.IdiomCopy
import Derived.Test.YtbpcipobdokcfaaGreatDoorH6
import Derived.Test.YtbpcipobdokcfaaGreatDoorH8

/- THE WALKS OF package seg: whether all fits are of some rules. -/
namespace Go.Proofs.YtbpcipobdokcfaaGreatDoor
open Go.RowKit

def inB (L : Nat) (f : Int) : Bool := decide (f < 2 ^ L)
theorem div_pow (q L : Nat) : ((q : Int) / 2 ^ L == 0) = inB L (q : Int) := by
  unfold inB
  rw [show (2 : Int) ^ L = ((2 ^ L : Nat) : Int) by simp, Bool.eq_iff_iff, beq_iff_eq, decide_eq_true_iff]
  have hp : 0 < 2 ^ L := Nat.two_pow_pos L
  constructor
  · intro h
    have h1 : ((q / 2 ^ L : Nat) : Int) = 0 := by rw [← h]; simp
    have h2 : q / 2 ^ L = 0 := by omega
    have := (Nat.div_eq_zero_iff_lt hp).1 h2
    omega
  · intro h
    have h2 : q < 2 ^ L := by omega
    have := Nat.div_eq_of_lt h2
    rw [show (q : Int) / ((2 ^ L : Nat) : Int) = ((q / 2 ^ L : Nat) : Int) by simp, this]
    rfl
theorem inother_any (q : Nat) (hq : q < 1099511627776) (bm : Nat) (na : Option Addr) (L nc : Nat) (hL : L ≤ 40) (w : World) (hc : w.cell? ⟨bm, 0, none⟩ = some (.slice na L nc)) (_hlt : bm < w.heap.size) :
    Calls Tryz.prog 58 #[.int .i64 q, .pointer (some ⟨bm, 0, none⟩)] w fun e w' => e = .returned (.bool (!inB L q)) ∧ w = w' := by
  have HD := Box.mk (div_pow q L)
  go_enter Tryz.func58, Tryz.ntmps58
  go_wp2_with fail
  go_ret
  refine ⟨ret_bool ?_, rfl⟩
  rw [← HD.out]
  simp [bne]

set_option maxHeartbeats 2000000 in
theorem indexS_any (v : Value) (xs : List Int) (hx : ∀ x ∈ xs, 0 ≤ x ∧ x < 1099511627776) (bm : Nat) (na : Option Addr) (L nc : Nat) (hL : L ≤ 40) (w : World) (hv : IntsAt w v xs) (hz : xs.length ≤ 16777216) (hc : w.cell? ⟨bm, 0, none⟩ = some (.slice na L nc)) (hlt : bm < w.heap.size) :
    Calls Tryz.prog 85 #[v, .func (.func 58) #[] #[.pointer (some ⟨bm, 0, none⟩)]] w fun e w' => (∃ i : Int, e = .returned (.int .i64 i) ∧ decide (0 ≤ i) = !xs.all (inB L)) ∧ w = w' := by
  have HVB := Box.mk hv
  obtain ⟨ao, cap, rfl⟩ := hv.slice
  have HO := Box.mk (fun t ht => inother_any t ht bm na L nc hL w hc hlt)
  have HXX := Box.mk hx
  clear hv hc hx
  go_enter Tryz.func85, Tryz.ntmps85
  go_wp2
  go_loop [8] (fun i => ∃ k : Nat, k ≤ xs.length ∧ i = .int .i64 k ∧ Box ((xs.take k).all (inB L) = true)) (fun i => xs.length - (intOf i).toNat)
  case atStart => exact ⟨0, by omega, rfl, ⟨rfl⟩⟩
  case round =>
    obtain ⟨k, hk, rfl, ha⟩ := hrel
    by_cases hlt' : k < xs.length
    · obtain ⟨x, hx⟩ : ∃ x, xs[k]? = some x := ⟨_, List.getElem?_eq_getElem hlt'⟩
      obtain ⟨g, off, cap2, hg1, hg2, hg3, hg4, hg5⟩ := HVB.out.get (by rintro rfl; simp at hlt')
      obtain ⟨rfl, rfl⟩ : ao = some ⟨g, off, none⟩ ∧ cap = cap2 := by injection hg1 with h1 h2 h3; exact ⟨h1, h3⟩
      obtain ⟨x0, x1⟩ := HXX.out x (List.mem_of_getElem? hx)
      obtain ⟨q, rfl⟩ := Int.eq_ofNat_of_zero_le x0
      have hq : q < 1099511627776 := by omega
      have hcx := hg5 k _ hx
      have HX := Box.mk hx
      unfold maxLen at hg3
      clear hx hg1 hg5 x0 x1
      cases hi : inB L (q : Int) with
      | true =>
        have HT := Box.mk (show (xs.take (k + 1)).all (inB L) = true by rw [List.take_add_one, HX.out, List.all_append, ha.out]; simp [hi])
        have HI := Box.mk (show (!inB L (q : Int)) = false by rw [hi]; rfl)
        clear hi
        go_wp2_with fail
        refine (HO.out q hq).mono ?_; rintro e w1 ⟨rfl, rfl⟩; rw [HI.out]
        go_wp2_with fail
        go_round
        case rel => exact ⟨k + 1, hlt', by go_num, HT⟩
        case measure => simp [intOf]; omega
      | false =>
        have HT := Box.mk (show xs.all (inB L) = false by
          rw [Bool.eq_false_iff]
          intro h
          rw [List.all_eq_true] at h
          rw [h _ (List.mem_of_getElem? HX.out)] at hi
          cases hi)
        have HI := Box.mk (show (!inB L (q : Int)) = true by rw [hi]; rfl)
        clear hi
        go_wp2_with fail
        refine (HO.out q hq).mono ?_; rintro e w1 ⟨rfl, rfl⟩; rw [HI.out]
        go_wp2_with fail
        go_ret
        exact ⟨⟨k, rfl, by rw [HT.out]; simp⟩, rfl⟩
    · have HT := Box.mk (show xs.all (inB L) = true by have := ha.out; rwa [List.take_of_length_le (by omega)] at this)
      go_wp2_with fail
      go_ret
      exact ⟨⟨-1, rfl, by rw [HT.out]; rfl⟩, rfl⟩
theorem containsS_any (v : Value) (xs : List Int) (hx : ∀ x ∈ xs, 0 ≤ x ∧ x < 1099511627776) (bm : Nat) (na : Option Addr) (L nc : Nat) (hL : L ≤ 40) (w : World) (hv : IntsAt w v xs) (hz : xs.length ≤ 16777216) (hc : w.cell? ⟨bm, 0, none⟩ = some (.slice na L nc)) (hlt : bm < w.heap.size) :
    Calls Tryz.prog 57 #[v, .func (.func 58) #[] #[.pointer (some ⟨bm, 0, none⟩)]] w fun e w' => e = .returned (.bool (!xs.all (inB L))) ∧ w = w' := by
  have HI := Box.mk (indexS_any v xs hx bm na L nc hL w hv hz hc hlt)
  clear hv hc hx
  go_enter Tryz.func57, Tryz.ntmps57
  go_wp2_with fail
  refine HI.out.mono ?_; rintro e w1 ⟨⟨i, rfl, hi⟩, rfl⟩
  have HX := Box.mk hi
  clear hi
  go_wp2_with fail
  go_ret
  exact ⟨ret_bool (by simpa using HX.out), rfl⟩
theorem areIn_any (v : Value) (xs : List Int) (hx : ∀ x ∈ xs, 0 ≤ x ∧ x < 1099511627776) (na : Option Addr) (L nc : Nat) (hL : L ≤ 40) (w : World) (hv : IntsAt w v xs) (hz : xs.length ≤ 16777216) :
    Calls Tryz.prog 33 #[v, .slice na L nc] w fun e w' => e = .returned (.bool (xs.all (inB L))) ∧ Below w.heap.size w w' := by
  obtain ⟨W, hW⟩ : ∃ W, W = w.alloc (.cells #[.slice na L nc] 22) := ⟨_, rfl⟩
  have hbW : Below w.heap.size w W := by rw [hW]; exact alloc_below w _
  have hbk : Blk W w.heap.size 22 #[.slice na L nc] := by rw [hW]; exact Blk.new _ _ _
  have HC := Box.mk (containsS_any v xs hx w.heap.size na L nc hL W (hv.below hbW) hz ((hbk.cell 0).trans rfl) hbk.lt)
  have HW := Box.mk hW
  have HB := Box.mk hbW
  obtain ⟨ao, cap, rfl⟩ := hv.slice
  clear hv hx hW hbW hbk
  go_enter Tryz.func33, Tryz.ntmps33
  go_wp2_with fail
  rw [← HW.out]
  refine HC.out.mono ?_; rintro e w1 ⟨rfl, rfl⟩
  go_wp2_with fail
  go_ret
  exact ⟨ret_bool (by simp), HB.out⟩
end Go.Proofs.YtbpcipobdokcfaaGreatDoor

/- THE WALKS OF package seg: whether there is a boundary at a place. -/
namespace Go.Proofs.YtbpcipobdokcfaaGreatDoor
open Go.RowKit

theorem class_codeS {P : Program} {f : FuncId} {args : Array Value} {v v' : Value} {W : World} {Inv : World → Prop} (h : Calls P f args W fun e w' => e = .returned v ∧ Below W.heap.size W w') (hv : v = v') (hI : ∀ w', Below W.heap.size W w' → Inv w') :
    Calls P f args W fun e w'' => e = .returned v' ∧ ∃ m : CW Inv, w'' = m.w := hv ▸ class_call h hI
theorem hit_no {R : List D.Rule} {ks : List Int} {f : Nat} {p : Int} {k : Nat} {x : D.Rule} (hx : R[k]? = some x) (h : f.testBit k = false ∨ aheadB x.2.1.1 x.2.1.2 ks p = false) : G.hit R ks f p k = false := by
  unfold G.hit
  rw [hx]
  rcases h with h | h <;> simp [h]
theorem hit_yes {R : List D.Rule} {ks : List Int} {f : Nat} {p : Int} {k : Nat} {x : D.Rule} (hx : R[k]? = some x) (h : f.testBit k = true) (h2 : aheadB x.2.1.1 x.2.1.2 ks p = true) : G.hit R ks f p k = true := by
  unfold G.hit
  rw [hx]
  simp [h, h2]

set_option maxRecDepth 10000 in
set_option maxHeartbeats 4000000 in
theorem isCut_any (cb : Nat) (nv fv rv lv : Value) (R : List D.Rule) (ks : List Int) (p : Int) (f : Nat) (w : World) (hC : Blk w cb 55 #[nv, fv, rv, lv]) (hR : RulesAt w rv R) (hL : IntsAt w lv ks) (hf : ∀ x ∈ R, ruleFit x) (hks : ks.length ≤ 900) (hfl : f < 1099511627776) (hRl : R.length ≤ 40) :
    Calls Tryz.prog 37 #[.pointer (some ⟨cb, 0, none⟩), .int .i64 p, .int .i64 f] w fun e w' => e = .returned (.bool (G.isCut R ks f p)) ∧ Below w.heap.size w w' := by
  have HC := Box.mk hC
  have HR := Box.mk hR
  have HL := Box.mk hL
  have HF := Box.mk hf
  have hcl := hC.lt
  obtain ⟨ro, rc, rfl⟩ := hR.slice
  have c0 : w.cell? ⟨cb, 2, none⟩ = some (.slice ro R.length rc) := (hC.cell 2).trans rfl
  clear hC hR hL hf
  go_enter Tryz.func37, Tryz.ntmps37
  go_wp2_with fail
  go_loopw [14] (fun i wr => ∃ k : Nat, k ≤ R.length ∧ i = .int .i64 k ∧ Box (∀ i, i < k → G.hit R ks f p i = false) ∧ Box (Below w.heap.size w wr)) (fun i _ => R.length - (intOf i).toNat)
  case atStart => exact ⟨0, Nat.zero_le _, rfl, ⟨fun i hi => by omega⟩, ⟨Below.refl _ _⟩⟩
  case round =>
    obtain ⟨k, hk, rfl, hno, hb⟩ := hrel
    clear c0
    by_cases hlt : k < R.length
    · obtain ⟨x, hx⟩ : ∃ x, R[k]? = some x := ⟨_, List.getElem?_eq_getElem hlt⟩
      obtain ⟨g, off, cap, k1, k2, k3, k4, k5⟩ := (HR.out.below hb.out).get (by rintro rfl; simp at hlt)
      obtain ⟨rfl, rfl⟩ : ro = some ⟨g, off, none⟩ ∧ rc = cap := by injection k1 with h1 h2 h3; exact ⟨h1, h3⟩
      obtain ⟨vl, vr, r0, r1, r2, r3, r4, hil, hir⟩ := k5 k x hx
      obtain ⟨al, acl, rfl⟩ := hil.slice
      obtain ⟨ar, acr, rfl⟩ := hir.slice
      have hfit := (HF.out x (List.mem_of_getElem? hx)).2
      obtain ⟨V, hV⟩ : ∃ V, V = wr.alloc (.cells #[.bool x.1.1, (.slice al x.1.2.length acl), .bool x.2.1.1, (.slice ar x.2.1.2.length acr), .bool x.2.2] 44) := ⟨_, rfl⟩
      have hbV : Below wr.heap.size wr V := by rw [hV]; exact alloc_below wr _
      have HBK := Box.mk (show Blk V wr.heap.size 44 #[.bool x.1.1, (.slice al x.1.2.length acl), .bool x.2.1.1, (.slice ar x.2.1.2.length acr), .bool x.2.2] by rw [hV]; exact Blk.new _ _ _)
      have HBV := Box.mk (show Below w.heap.size w V from hb.out.trans (hbV.mono hb.out.size))
      have HAH := Box.mk (fun (W : World) (h : Below V.heap.size V W) => ahead_any x.2.1.1 (.slice ar x.2.1.2.length acr) x.2.1.2 lv ks p W ((hir.below hbV).below h) hfit ((HL.out.below HBV.out).below h) hks)
      have HX := Box.mk hx
      have ht := test_bit f k (by omega)
      have HNO := Box.mk (show G.hit R ks f p k = false → ∀ i, i < k + 1 → G.hit R ks f p i = false from fun h i hi => by
        rcases Nat.lt_or_ge i k with h1 | h1
        · exact hno.out i h1
        · obtain rfl : i = k := by omega
          exact h)
      have hcV := HC.out.below HBV.out hcl
      have cl3 : V.cell? ⟨cb, 3, none⟩ = some lv := (hcV.cell 3).trans rfl
      have b2 : V.cell? ⟨wr.heap.size, 2, none⟩ = some (.bool x.2.1.1) := (HBK.out.cell 2).trans rfl
      have b3 : V.cell? ⟨wr.heap.size, 3, none⟩ = some (.slice ar x.2.1.2.length acr) := (HBK.out.cell 3).trans rfl
      have HVS := Box.mk hV
      have HCL := Box.mk hcV.lt
      have hk40 : k < 40 := by omega
      unfold maxLen at k3
      clear k1 k5 hx hil hir hV hbV hcV
      cases hbit : f.testBit k with
      | false =>
        have HN := Box.mk (HNO.out (hit_no HX.out (.inl hbit)))
        have HDR := Box.mk (fun m => HBV.out.trans ((below_drewN (Below.refl V.heap.size V) m).mono HBV.out.size))
        rw [hbit] at ht
        clear hbit
        go_upto_region 4 with (fail)
        rw [← HVS.out]
        go_quiet (fail)
        go_wp2_with fail
        go_roundw
        case rel => exact ⟨k + 1, hlt, by go_num, HN, ⟨HDR.out _⟩⟩
        case measure => simp [intOf]; omega
      | true =>
        rw [hbit] at ht
        cases hah : aheadB x.2.1.1 x.2.1.2 ks p with
        | false =>
          have HN := Box.mk (HNO.out (hit_no HX.out (.inr hah)))
          obtain ⟨Inv, hI1, hI2⟩ : ∃ Inv : World → Prop, (∀ W, Inv W → Below V.heap.size V W) ∧ (∀ W, Below V.heap.size V W → Inv W) := ⟨_, fun _ h => h, fun _ h => h⟩
          have HIN := Box.mk (show ∀ q : CW Inv, Below V.heap.size V q.w from fun q => hI1 _ q.h)
          have HUP := Box.mk (show ∀ (q : CW Inv) w', Below q.w.heap.size q.w w' → Inv w' from fun q w' h => hI2 _ ((HIN.out q).trans (h.mono (HIN.out q).size)))
          have q0 : ∀ q : CW Inv, q.w.cell? ⟨cb, 3, none⟩ = some lv := fun q => ((HIN.out q).cell (p := ⟨cb, 3, none⟩) HCL.out).trans cl3
          have q1 : ∀ q : CW Inv, q.w.cell? ⟨wr.heap.size, 2, none⟩ = some (.bool x.2.1.1) := fun q => ((HIN.out q).cell (p := ⟨wr.heap.size, 2, none⟩) HBK.out.lt).trans b2
          have q2 : ∀ q : CW Inv, q.w.cell? ⟨wr.heap.size, 3, none⟩ = some (.slice ar x.2.1.2.length acr) := fun q => ((HIN.out q).cell (p := ⟨wr.heap.size, 3, none⟩) HBK.out.lt).trans b3
          have K1 := Box.mk (fun q : CW Inv => class_codeS (HAH.out q.w (HIN.out q)) (show Value.bool (aheadB x.2.1.1 x.2.1.2 ks p) = .bool false by rw [hah]) (HUP.out q))
          have HDR := Box.mk (hI2 _ (drew_below V 1))
          clear hbit hah hI1 hI2
          go_upto_region 4 with (fail)
          rw [← HVS.out]
          clear cl3 b2 b3
          refine wp_region_class Inv (by kernel_rfl) (by kernel_rfl) HDR.out (fun hne => ?_)
          repeat (any_goals (first | go_big_quiet_step ((go_at_call 61; exact K1.out _)) | quiet_step ((go_at_call 61; exact K1.out _))))
          refine wpQuiet_nil ?_
          rintro w7 ⟨q7, rfl⟩
          have HB7 := Box.mk (HBV.out.trans ((HIN.out q7).mono HBV.out.size))
          clear q0 q1 q2 hne
          go_wp2_with fail
          go_roundw
          case rel => exact ⟨k + 1, hlt, by go_num, HN, HB7⟩
          case measure => simp [intOf]; omega
        | true =>
          have HN := Box.mk (G.isCut_hit HX.out (hit_yes HX.out hbit hah) hno.out)
          obtain ⟨Inv, hI1, hI2⟩ : ∃ Inv : World → Prop, (∀ W, Inv W → Below V.heap.size V W) ∧ (∀ W, Below V.heap.size V W → Inv W) := ⟨_, fun _ h => h, fun _ h => h⟩
          have HIN := Box.mk (show ∀ q : CW Inv, Below V.heap.size V q.w from fun q => hI1 _ q.h)
          have HUP := Box.mk (show ∀ (q : CW Inv) w', Below q.w.heap.size q.w w' → Inv w' from fun q w' h => hI2 _ ((HIN.out q).trans (h.mono (HIN.out q).size)))
          have q0 : ∀ q : CW Inv, q.w.cell? ⟨cb, 3, none⟩ = some lv := fun q => ((HIN.out q).cell (p := ⟨cb, 3, none⟩) HCL.out).trans cl3
          have q1 : ∀ q : CW Inv, q.w.cell? ⟨wr.heap.size, 2, none⟩ = some (.bool x.2.1.1) := fun q => ((HIN.out q).cell (p := ⟨wr.heap.size, 2, none⟩) HBK.out.lt).trans b2
          have q2 : ∀ q : CW Inv, q.w.cell? ⟨wr.heap.size, 3, none⟩ = some (.slice ar x.2.1.2.length acr) := fun q => ((HIN.out q).cell (p := ⟨wr.heap.size, 3, none⟩) HBK.out.lt).trans b3
          have K1 := Box.mk (fun q : CW Inv => class_codeS (HAH.out q.w (HIN.out q)) (show Value.bool (aheadB x.2.1.1 x.2.1.2 ks p) = .bool true by rw [hah]) (HUP.out q))
          have HDR := Box.mk (hI2 _ (drew_below V 1))
          clear hbit hah hI1 hI2
          go_upto_region 4 with (fail)
          rw [← HVS.out]
          clear cl3 b2 b3
          refine wp_region_class Inv (by kernel_rfl) (by kernel_rfl) HDR.out (fun hne => ?_)
          repeat (any_goals (first | go_big_quiet_step ((go_at_call 61; exact K1.out _)) | quiet_step ((go_at_call 61; exact K1.out _))))
          refine wpQuiet_nil ?_
          rintro w7 ⟨q7, rfl⟩
          have HB7 := Box.mk (HBV.out.trans ((HIN.out q7).mono HBV.out.size))
          have b4 : q7.w.cell? ⟨wr.heap.size, 4, none⟩ = some (.bool x.2.2) := ((HIN.out q7).cell (p := ⟨wr.heap.size, 4, none⟩) HBK.out.lt).trans ((HBK.out.cell 4).trans rfl)
          clear q0 q1 q2 hne
          go_wp2_with fail
          go_ret
          exact ⟨ret_bool HN.out.symm, HB7.out⟩
    · have HN := Box.mk (G.isCut_none (R := R) (ks := ks) (f := f) (p := p) (fun i hi => hno.out i (by omega)))
      go_wp2_with fail
      go_ret
      exact ⟨ret_bool HN.out.symm, hb.out⟩
end Go.Proofs.YtbpcipobdokcfaaGreatDoor

/- THE WALKS OF package seg: the iterator over the places between classes, each with the fits there. -/
namespace Go.Proofs.YtbpcipobdokcfaaGreatDoor
open Go.RowKit Go.Shelf
attribute [local go_sem] Oper.semAt_some

theorem placesM_any (p : Option Addr) (v : Value) (w : World) (hv : ∃ a n c, v = .slice a n c) :
    Calls Tryz.prog 36 #[.pointer p, v] w fun e w' => e = .returned (.func (.func 60) #[] #[.pointer (some ⟨w.heap.size + 1, 0, none⟩), .pointer (some ⟨w.heap.size, 0, none⟩)]) ∧
      (w.alloc (.cells #[.pointer p] 53)).alloc (.cells #[v] 27) = w' := by
  obtain ⟨a, n, c, rfl⟩ := hv
  go_enter Tryz.func36, Tryz.ntmps36
  go_wp2
  go_ret
  exact ⟨rfl, rfl⟩

/-- what the iterator reads -/
structure Plc (cb sb xb sg so sc fg fo fc n kc : Nat) (ko : Option Addr) (nv rv : Value) (S F : List Int) (W : World) : Prop where
  c : Blk W cb 55 #[nv, .slice (some ⟨fg, fo, none⟩) F.length fc, rv, .slice ko n kc]
  s : Blk W sb 27 #[.slice (some ⟨sg, so, none⟩) S.length sc]
  x : Blk W xb 53 #[.pointer (some ⟨cb, 0, none⟩)]
  ss : ∀ i v, S[i]? = some v → W.cell? ⟨sg, so + i, none⟩ = some (.int .i64 v)
  ff : ∀ i v, F[i]? = some v → W.cell? ⟨fg, fo + i, none⟩ = some (.int .i64 v)
theorem Plc.same {cb sb xb sg so sc fg fo fc n kc : Nat} {ko : Option Addr} {nv rv : Value} {S F : List Int} {W W' : World} (h : Plc cb sb xb sg so sc fg fo fc n kc ko nv rv S F W) {K : Nat → Prop} (hk : K cb ∧ K sb ∧ K xb ∧ K sg ∧ K fg) (hb : ∀ k, K k → W'.heap[k]? = W.heap[k]?) : Plc cb sb xb sg so sc fg fo fc n kc ko nv rv S F W' :=
  ⟨(hb _ hk.1).trans h.c, (hb _ hk.2.1).trans h.s, (hb _ hk.2.2.1).trans h.x, fun i v hi => (World.cell?_of_block (hb sg hk.2.2.2.1)).trans (h.ss i v hi), fun i v hi => (World.cell?_of_block (hb fg hk.2.2.2.2)).trans (h.ff i v hi)⟩

/-- the places between n classes, one by one -/
def midP (n k : Nat) : List Nat := (List.range (min (k - 1) (n - 1))).map (· + 1)
theorem midP_yes {n k : Nat} (h1 : 0 < k) (h2 : k < n) : midP n (k + 1) = midP n k ++ [k] := by
  unfold midP
  rw [show min (k + 1 - 1) (n - 1) = min (k - 1) (n - 1) + 1 by omega, List.range_succ, List.map_append]
  simp
  omega
theorem midP_no {n k : Nat} (h : k = 0 ∨ n ≤ k) : midP n (k + 1) = midP n k := by
  unfold midP
  congr 2
  omega
theorem midP_len (n k : Nat) : (midP n k).length = min (k - 1) (n - 1) := by simp [midP]
def fitN (S F : List Int) (p : Nat) : Int := F.getD (S.getD p 0).toNat 0

set_option maxRecDepth 10000 in
set_option maxHeartbeats 4000000 in
theorem places1_iter (m : Nat) (K : Nat → Prop) (cb sb xb sg so sc fg fo fc n kc : Nat) (ko : Option Addr) (nv rv : Value) (S F : List Int) (hS : S.length = n + 1) (hsc : S.length ≤ sc ∧ sc ≤ 9223372036854775807) (hfc : F.length ≤ fc ∧ fc ≤ 9223372036854775807) (hn : n ≤ 1000000)
    (hSF : ∀ x ∈ S, 0 ≤ x ∧ x < F.length) (hK : K cb ∧ K sb ∧ K xb ∧ K sg ∧ K fg) (l : Nat) (W1 : World) (hP : Plc cb sb xb sg so sc fg fo fc n kc ko nv rv S F W1) :
    IterC (m + 1) Tryz.prog 60 #[.pointer (some ⟨sb, 0, none⟩), .pointer (some ⟨xb, 0, none⟩)] (fun x : Nat => #[.int .i64 x, .int .i64 (fitN S F x)]) (fun _ => False) K (fun pre x => x = pre.length + 1 ∧ x < n)
      (fun xs _ => xs = midP n (n + 1)) l W1 := by
  intro J Jx hJ hJx hY h0
  have HY := Box.mk hY
  have HJ := Box.mk hJ
  have HSF := Box.mk hSF
  have HK := Box.mk hK
  have HS := Box.mk hS
  have c0 : W1.cell? ⟨sb, 0, none⟩ = some (.slice (some ⟨sg, so, none⟩) S.length sc) := (hP.s.cell 0).trans rfl
  clear hY hJ hSF hK
  refine callsIn_of_wp Tryz.func60 rfl trivial ?_
  simp only [Tryz.ntmps60, List.size_toArray, List.length_cons, List.length_nil, Nat.reduceAdd, Nat.reduceSub, Array.replicate_succ, Array.replicate_zero, List.push_toArray, List.append_toArray, List.nil_append, List.cons_append]
  gi_wp2
  refine wpIn_wide.2 (wp_scope_straight ((wpIn_wide (n := m + 1)).1 ?_))
  gi_wp2
  refine wpIn_label ?_
  gi_wp2
  clear c0
  gi_loopw [8] (fun i wr => ∃ k : Nat, k ≤ n + 1 ∧ i = .int .i64 k ∧ Box (Plc cb sb xb sg so sc fg fo fc n kc ko nv rv S F wr) ∧ Box (J (midP n k) wr)) (fun i _ => n + 1 - (intOf i).toNat)
  case atStart => exact ⟨0, Nat.zero_le _, rfl, ⟨hP⟩, ⟨h0⟩⟩
  case round =>
    obtain ⟨k, hk, rfl, hp, hj⟩ := hrel
    clear hP h0
    by_cases hlt : k < n + 1
    · obtain ⟨s, hs⟩ : ∃ s, S[k]? = some s := ⟨_, List.getElem?_eq_getElem (by omega)⟩
      obtain ⟨s0, s1⟩ := HSF.out s (List.mem_of_getElem? hs)
      obtain ⟨q, rfl⟩ := Int.eq_ofNat_of_zero_le s0
      have hqF : q < F.length := by omega
      obtain ⟨f, hf⟩ : ∃ f, F[q]? = some f := ⟨_, List.getElem?_eq_getElem hqF⟩
      have d0 := hp.out.ss k _ hs
      have d1 := hp.out.ff q f hf
      have d2 : wr.cell? ⟨xb, 0, none⟩ = some (.pointer (some ⟨cb, 0, none⟩)) := (hp.out.x.cell 0).trans rfl
      have d3 : wr.cell? ⟨cb, 3, none⟩ = some (.slice ko n kc) := (hp.out.c.cell 3).trans rfl
      have d4 : wr.cell? ⟨cb, 1, none⟩ = some (.slice (some ⟨fg, fo, none⟩) F.length fc) := (hp.out.c.cell 1).trans rfl
      have hcl := hp.out.c.lt
      have HFN := Box.mk (show fitN S F k = f by
        unfold fitN
        rw [show S.getD k 0 = (q : Int) by rw [List.getD_eq_getElem?_getD, hs]; rfl, Int.toNat_natCast, List.getD_eq_getElem?_getD, hf]
        rfl)
      obtain ⟨sc1, sc2⟩ := hsc
      obtain ⟨fc1, fc2⟩ := hfc
      clear hs hf s0 s1
      rcases (show k = 0 ∨ (0 < k ∧ k = n) ∨ (0 < k ∧ k < n) by omega) with h | ⟨hk0, h⟩ | ⟨h, h'⟩
      · have HM := Box.mk (midP_no (n := n) (k := k) (.inl h))
        have d0' : wr.cell? ⟨sg, so, none⟩ = some (.int .i64 (q : Int)) := by rw [h, Nat.add_zero] at d0; exact d0
        clear d0
        subst h
        simp only [show ((0 : Nat) : Int) = 0 from rfl]
        gi_wp2
        go_roundw
        case rel => exact ⟨1, by omega, by go_num, hp, ⟨by rw [show (1 : Nat) = 0 + 1 from rfl, HM.out]; exact hj.out⟩⟩
        case measure => simp [intOf] <;> omega
      · have HM := Box.mk (midP_no (n := n) (k := k) (.inr (by omega)))
        have t0 : ((k : Int) == 0) = false := by rw [beq_eq_false_iff_ne]; omega
        have t1 : ((k : Int) == (n : Int)) = true := by rw [beq_iff_eq]; omega
        clear h hk0
        gi_wp2
        go_roundw
        case rel => exact ⟨k + 1, by omega, by go_num, hp, ⟨by rw [HM.out]; exact hj.out⟩⟩
        case measure => simp [intOf]; omega
      · have HM := Box.mk (midP_yes h h')
        have t0 : ((k : Int) == 0) = false := by rw [beq_eq_false_iff_ne]; omega
        have t1 : ((k : Int) == (n : Int)) = false := by rw [beq_eq_false_iff_ne]; omega
        have hy := HY.out (midP n k) k wr hj.out ⟨by rw [midP_len]; omega, h'⟩
        rw [HFN.out] at hy
        obtain ⟨fn, tmps, assign, body, hy, hRd⟩ := hy
        have HRD := Box.mk hRd
        clear hRd h h'
        gi_wp2
        refine HRD.out.mono ?_
        rintro e W3 (⟨rfl, hj3, hk3⟩ | ⟨rfl, hx3⟩)
        · have HP3 := Box.mk (hp.out.same HK.out (fun k hk => hk3.block k hk))
          have HJ3 := Box.mk hj3
          clear hj3 hk3
          gi_wp2
          go_roundw
          case rel => exact ⟨k + 1, by omega, by go_num, HP3, ⟨by rw [HM.out]; exact HJ3.out⟩⟩
          case measure => simp [intOf]; omega
        · gi_wp2
          rw [Exit.noGoto_normal]
          go_end0
          exact ⟨⟨_, rfl⟩, .inr ⟨_, hx3⟩⟩
    · obtain rfl : k = n + 1 := by omega
      gi_wp2
      rw [Exit.noGoto_normal]
      go_end0
      exact ⟨⟨_, rfl⟩, .inl ⟨_, rfl, hj.out⟩⟩
end Go.Proofs.YtbpcipobdokcfaaGreatDoor

/- THE WALKS OF package seg: numbers, none where they are no class. -/
namespace Go.Proofs.YtbpcipobdokcfaaGreatDoor
open Go.RowKit

/-- the first k numbers cut, the others as they were -/
def mixC (n : Nat) (L : List Int) (k : Nat) : Array Value := ((D.cuts n (L.take k) ++ L.drop k).map (Value.int .i64)).toArray
theorem mixC_zero (n : Nat) (L : List Int) : mixC n L 0 = (L.map (Value.int .i64)).toArray := by simp [mixC, D.cuts]
theorem mixC_all (n : Nat) (L : List Int) : mixC n L L.length = ((D.cuts n L).map (Value.int .i64)).toArray := by simp [mixC]
theorem mixC_get {n : Nat} {L : List Int} {k : Nat} {c : Int} (h : L[k]? = some c) : (mixC n L k)[k]? = some (.int .i64 c) := by
  have hk := (List.getElem?_eq_some_iff.1 h).1
  unfold mixC
  rw [List.getElem?_toArray, List.getElem?_map, List.getElem?_append_right (by unfold D.cuts; rw [List.length_map, List.length_take]; omega)]
  rw [show k - (D.cuts n (L.take k)).length = 0 by unfold D.cuts; rw [List.length_map, List.length_take]; omega, List.getElem?_drop, Nat.add_zero, h]
  rfl
theorem mixC_next {n : Nat} {L : List Int} {k : Nat} {c : Int} (h : L[k]? = some c) : (mixC n L k).setIfInBounds k (.int .i64 (D.cut n c)) = mixC n L (k + 1) := by
  have hk := (List.getElem?_eq_some_iff.1 h).1
  have hd : L.drop k = c :: L.drop (k + 1) := by
    rw [List.drop_eq_getElem_cons hk]
    congr 1
    exact (List.getElem?_eq_some_iff.1 h).2
  have ht : D.cuts n (L.take (k + 1)) = D.cuts n (L.take k) ++ [D.cut n c] := by
    unfold D.cuts
    rw [List.take_add_one, h, List.map_append]
    rfl
  have hl : (D.cuts n (L.take k)).length = k := by unfold D.cuts; rw [List.length_map, List.length_take]; omega
  unfold mixC
  rw [ht, hd, List.setIfInBounds_toArray, List.map_append, List.map_cons, List.map_append, List.map_append, List.append_assoc]
  congr 1
  rw [List.set_append_right _ _ (by rw [List.length_map, hl]; exact Nat.le_refl _), List.length_map, hl, Nat.sub_self]
  rfl
theorem mixC_same {n : Nat} {L : List Int} {k : Nat} {c : Int} (h : L[k]? = some c) (hc : D.cut n c = c) : mixC n L k = mixC n L (k + 1) := by
  rw [← mixC_next h, hc]
  have hg := mixC_get (n := n) h
  apply Array.ext'
  rw [Array.toList_setIfInBounds]
  apply List.ext_getElem?
  intro j
  rw [List.getElem?_set]
  split
  · rename_i e
    subst e
    rw [Array.getElem?_toList, hg]
    split
    · rfl
    · rename_i hn
      exact absurd (by have := (Array.getElem?_eq_some_iff.1 hg).1; simpa using this) hn
  · rfl
theorem ints_blk {w : World} {g : Nat} {T : TypeId} {xs : List Int} (h : Blk w g T (xs.map (Value.int .i64)).toArray) (hz : xs.length ≤ 1000000) : IntsAt w (.slice (some ⟨g, 0, none⟩) xs.length xs.length) xs :=
  .inr ⟨g, 0, none, xs.length, rfl, Nat.le_refl _, by unfold maxLen; omega, fun _ => ⟨rfl, h.lt, fun i x hx => by
    rw [Nat.zero_add]
    refine (h.cell i).trans ?_
    rw [List.getElem?_toArray, List.getElem?_map, hx]
    rfl⟩⟩
theorem below_setRowS {n g : Nat} {w W : World} (h : Below n w W) (hg : n ≤ g) (cs : Array Value) : Below n w (W.setRow g cs) :=
  h.trans ⟨rfl, rfl, rfl, by simp [World.setRow], fun k hk => setRow_other W g k cs (by omega)⟩
theorem make_ints (L : Nat) (h : L ≤ 1000000) (w : World) : (Instr.makeSlice 27 (.int .i64 (L : Int)) (.int .i64 (L : Int))).run Tryz.prog w = .ok (.slice (some ⟨w.heap.size, 0, none⟩) L L) (w.alloc (.cells (Array.replicate L (.int .i64 0)) 3)) := by
  have hi : (Tryz.prog.info? 3).map (fun i => (i.zero, i.size, i.bytes)) = some (some (.int .i64 0), 1, 8) := by kernel_rfl
  obtain ⟨z, hz, hz2⟩ := Option.map_eq_some_iff.1 hi
  simp only [Prod.mk.injEq] at hz2
  have hz := And.intro hz hz2
  have := run_makeSlice (P := Tryz.prog) (w := w) 27 3 z (.int .i64 0) Tryz.underlying27 hz.1 hz.2.1 .i64 .i64 L L (by omega) (by omega) (by rw [hz.2.2.1]; simp; omega) (by rw [hz.2.2.2]; omega) (by omega)
  have e : madeCells (Value.int .i64 0).cells ((L : Int).toNat * z.size) = Array.replicate L (.int .i64 0) := by
    rw [hz.2.2.1, Int.toNat_natCast, Nat.mul_one]
    apply Array.ext'
    rw [Array.toList_replicate]
    exact toList_madeCells_one (Value.int .i64 0) L
  rw [this, e, Int.toNat_natCast]
theorem copy_ints (v : Value) (L : List Int) (w : World) (hv : IntsAt w v L) (_hz : L.length ≤ 1000000) : ∃ W2 q, (∀ ty, (Builtin.copy_ #[27, 27] ty #[.slice (some ⟨w.heap.size, 0, none⟩) L.length L.length, v]).run Tryz.prog (w.alloc (.cells (Array.replicate L.length (.int .i64 0)) 3)) = .ok (goInt q) W2) ∧ Blk W2 w.heap.size 3 (L.map (Value.int .i64)).toArray ∧ Below w.heap.size w W2 := by
  have hs : (Tryz.prog.info? 3).map (·.size) = some 1 := by kernel_rfl
  have hb0 := alloc_below w (.cells (Array.replicate L.length (.int .i64 0)) 3)
  have hk0 := Blk.new w 3 (Array.replicate L.length (.int .i64 0))
  have hv1 := hv.below hb0
  rcases hv1 with ⟨rfl, rfl⟩ | ⟨b, off, sp, cap, rfl, h2, h3, h4⟩
  · exact ⟨_, 0, fun ty => run_copy_none _ _ _ ty _ _ _ _ _ _ _ Tryz.underlying27 hs (by simp), hk0, hb0⟩
  · by_cases hn : L = []
    · subst hn
      exact ⟨_, 0, fun ty => run_copy_none _ _ _ ty _ _ _ _ _ _ _ Tryz.underlying27 hs (by simp), hk0, hb0⟩
    · obtain ⟨rfl, h5, h6⟩ := h4 hn
      have hsz : (Array.replicate L.length (Value.int .i64 0)).size = L.length := Array.size_replicate
      refine ⟨_, _, fun ty => run_copy_row (P := Tryz.prog) _ _ _ ty _ w.heap.size 0 L.length L.length ⟨b, off, none⟩ L.length cap (Array.replicate L.length (.int .i64 0)) 3 (L.map (Value.int .i64)) Tryz.underlying27 hs hk0 (by simp) (fun j u hu => ?_) (by rw [List.length_map, hsz]; omega) (fun u hu => ?_), ?_, below_setRowS hb0 (Nat.le_refl _) _⟩
      · rw [List.getElem?_map] at hu
        cases hx : L[j]? with
        | none => rw [hx] at hu; cases hu
        | some x =>
          rw [hx] at hu
          cases hu
          rw [show (⟨b, off, none⟩ : Addr).add j = ⟨b, off + j, none⟩ by unfold Addr.add; by_cases h0 : j = 0 <;> simp [h0]]
          exact h6 j x hx
      · obtain ⟨y, -, rfl⟩ := List.mem_map.1 hu
        rfl
      · have e : ((Array.replicate L.length (Value.int .i64 0)).toList.take 0 ++ L.map (Value.int .i64) ++ (Array.replicate L.length (Value.int .i64 0)).toList.drop (0 + (L.map (Value.int .i64)).length)) = L.map (Value.int .i64) := by simp
        rw [e]
        exact setRow_heap _ w.heap.size _ _ 3 (0, 0) hk0

set_option maxHeartbeats 2000000 in
theorem known_any (v : Value) (L : List Int) (nn : Nat) (w : World) (hv : IntsAt w v L) (hz : L.length ≤ 1000000) :
    Calls Tryz.prog 34 #[v, .int .i64 nn] w fun e w' => e = .returned (.slice (some ⟨w.heap.size, 0, none⟩) L.length L.length) ∧ Blk w' w.heap.size 3 ((D.cuts nn L).map (Value.int .i64)).toArray ∧ Below w.heap.size w w' := by
  have hmk := make_ints L.length hz w
  obtain ⟨W2, q, hcp, hk2, hb2⟩ := copy_ints v L w hv hz
  have HK2 := Box.mk hk2
  have HB2 := Box.mk hb2
  obtain ⟨ao, cap, rfl⟩ := hv.slice
  clear hv hk2 hb2
  go_enter Tryz.func34, Tryz.ntmps34
  go_wp2_with fail
  clear hmk hcp
  go_loopw [16] (fun i wr => ∃ k : Nat, k ≤ L.length ∧ i = .int .i64 k ∧ Box (Blk wr w.heap.size 3 (mixC nn L k)) ∧ Box (Below w.heap.size w wr)) (fun i _ => L.length - (intOf i).toNat)
  case atStart => exact ⟨0, Nat.zero_le _, rfl, ⟨by rw [mixC_zero]; exact HK2.out⟩, HB2⟩
  case round =>
    obtain ⟨k, hk, rfl, hbk, hb⟩ := hrel
    clear HK2
    by_cases hlt : k < L.length
    · obtain ⟨c, hc⟩ : ∃ c, L[k]? = some c := ⟨_, List.getElem?_eq_getElem hlt⟩
      have hcc := (hbk.out.cell k).trans (mixC_get hc)
      have hfz := hbk.out.frozen k
      have HC := Box.mk hc
      clear hc
      rcases Int.lt_or_le c 0 with h0 | h0
      · have HN := Box.mk (show (mixC nn L k).setIfInBounds k (.int .i64 (-1)) = mixC nn L (k + 1) by rw [← mixC_next HC.out]; unfold D.cut; rw [if_pos (.inl h0)])
        go_wp2_with fail
        go_roundw
        case rel => exact ⟨k + 1, hlt, by go_num, ⟨by rw [← HN.out]; exact hbk.out.set_ k _⟩, ⟨hb.out.setCell (Nat.le_refl _) _⟩⟩
        case measure => simp [intOf]; omega
      rcases Int.lt_or_le c nn with h1 | h1
      · have HN := Box.mk (mixC_same (n := nn) HC.out (by unfold D.cut; rw [if_neg (by omega)]))
        go_wp2_with fail
        go_roundw
        case rel => exact ⟨k + 1, hlt, by go_num, ⟨by rw [← HN.out]; exact hbk.out⟩, hb⟩
        case measure => simp [intOf]; omega
      · have HN := Box.mk (show (mixC nn L k).setIfInBounds k (.int .i64 (-1)) = mixC nn L (k + 1) by rw [← mixC_next HC.out]; unfold D.cut; rw [if_pos (.inr h1)])
        go_wp2_with fail
        go_roundw
        case rel => exact ⟨k + 1, hlt, by go_num, ⟨by rw [← HN.out]; exact hbk.out.set_ k _⟩, ⟨hb.out.setCell (Nat.le_refl _) _⟩⟩
        case measure => simp [intOf]; omega
    · have HI := Box.mk (show Blk wr w.heap.size 3 ((D.cuts nn L).map (Value.int .i64)).toArray by
        have h1 : k = L.length := by omega
        have h2 := hbk.out
        rwa [h1, mixC_all] at h2)
      go_wp2_with fail
      go_ret
      exact ⟨rfl, HI.out, hb.out⟩
end Go.Proofs.YtbpcipobdokcfaaGreatDoor

/- THE WALKS OF package seg: boundaries by a machine. -/
namespace Go.Proofs.YtbpcipobdokcfaaGreatDoor
open Go.RowKit Go.Shelf
attribute [local go_sem] Oper.semAt_some

def areC (R : List D.Rule) (M : D.Mach) (n : Int) : Bool := rulesB n R && machR n M && M.2.all (inB R.length)
def cutsPost (R : List D.Rule) (M : D.Mach) (n : Int) (L : List Int) (w : World) (e : Ending) (w' : World) : Prop :=
  Below w.heap.size w w' ∧ ((areC R M n = true ∧ ∃ v, e = .returned (.tuple #[v, .int .i64 0]) ∧ IntsAt w' v (cutsL R M n.toNat L)) ∨ (areC R M n = false ∧ e = .returned (.tuple #[.slice none 0 0, .int .i64 110])))
theorem fiveP (w : World) (c0 c1 c2 c3 c4 : Array Value) (T0 T1 T2 T3 T4 : TypeId) (W : World) (hW : W = ((((w.alloc (.cells c0 T0)).alloc (.cells c1 T1)).alloc (.cells c2 T2)).alloc (.cells c3 T3)).alloc (.cells c4 T4)) :
    Blk W w.heap.size T0 c0 ∧ Blk W (w.heap.size + 1) T1 c1 ∧ Blk W (w.heap.size + 1 + 1) T2 c2 ∧ Blk W (w.heap.size + 1 + 1 + 1) T3 c3 ∧ Blk W (w.heap.size + 1 + 1 + 1 + 1) T4 c4 ∧ Below w.heap.size w W ∧ W.heap.size = w.heap.size + 5 := by
  obtain ⟨h0, h1, h2, h3, hb, hs⟩ := four w c0 c1 c2 c3 T0 T1 T2 T3
  have hn := Blk.new ((((w.alloc (.cells c0 T0)).alloc (.cells c1 T1)).alloc (.cells c2 T2)).alloc (.cells c3 T3)) T4 c4
  rw [hs] at hn
  subst hW
  exact ⟨h0.alloc _, h1.alloc _, h2.alloc _, h3.alloc _, hn, hb.alloc hb.size _, by simp⟩

theorem fits_bound {n : Int} {M : D.Mach} (h : machR n M = true) : ∀ x ∈ M.2, 0 ≤ x ∧ x < 1099511627776 := by
  intro x hx
  obtain ⟨i, hi, e⟩ := List.getElem_of_mem hx
  obtain ⟨h1, h2, h3, h4, h5⟩ := machR_parts h
  obtain ⟨nn, rfl⟩ := Int.eq_ofNat_of_zero_le (show 0 ≤ n by omega)
  obtain ⟨r, -, -, -, f, k1, k2, k3⟩ := machR_row h (a := i) (by omega)
  rw [List.getElem?_eq_getElem hi, e] at k1
  cases k1
  exact ⟨k2, k3⟩

set_option maxRecDepth 100000 in
set_option maxHeartbeats 8000000 in
theorem cuts_no (A : Nat → Addr) (B : Nat) (rv : Value) (R : List D.Rule) (mv : Value) (M : D.Mach) (n : Int) (lv : Value) (L : List Int) (w : World) (hR : RulesAt w rv R) (hf : ∀ x ∈ R, ruleFit x) (hRz : R.length ≤ 16777216) (hM : MachAt w mv M) (hMf : MachFit M) (hL : IntsAt w lv L) (hLz : L.length ≤ 900) (hD : Ed A B w) (hE : Eg A B w) (hB : B ≤ w.heap.size) (hno : areC R M n = false) :
    Calls Tryz.prog 14 #[rv, mv, .int .i64 n, lv] w fun e w' => e = .returned (.tuple #[.slice none 0 0, .int .i64 110]) ∧ Below w.heap.size w w' := by
  have HR := Box.mk hR
  have HM := Box.mk hM
  have HL := Box.mk hL
  have HD := Box.mk hD
  have HE := Box.mk hE
  have HF := Box.mk hf
  have HMF := Box.mk hMf
  obtain ⟨ro, rc, rfl⟩ := hR.slice
  obtain ⟨NV, FV, rfl, hra, hia⟩ := hM
  obtain ⟨no, nc, rfl⟩ := hra.slice
  obtain ⟨fo, fc, rfl⟩ := hia.slice
  obtain ⟨lo, lc, rfl⟩ := hL.slice
  have HFI := Box.mk hia
  obtain ⟨W, hW⟩ : ∃ W, W = ((((w.alloc (.cells #[.slice no M.1.length nc, .slice fo M.2.length fc] 26)).alloc (.cells #[.slice no M.1.length nc, .slice fo M.2.length fc, .slice ro R.length rc, .slice none 0 0] 55)).alloc (.cells #[.pointer (some ⟨w.heap.size + 1, 0, none⟩)] 53)).alloc (.cells #[.int .i64 0] 3)).alloc (.cells #[.slice (some ⟨w.heap.size + 1 + 1 + 1, 0, none⟩) 1 1] 27) := ⟨_, rfl⟩
  obtain ⟨h0, h1, h2, h3, h4, hbW, hszW⟩ := fiveP w _ _ _ _ _ _ _ _ _ _ W hW
  have HW := Box.mk hW
  have H0 := Box.mk h0
  have H1 := Box.mk h1
  have H2 := Box.mk h2
  have H3 := Box.mk h3
  have H4 := Box.mk h4
  have HBW := Box.mk hbW
  have HSZ := Box.mk hszW
  have HRR := Box.mk (rulesRight_any _ R n W hf (hR.below hbW) hRz)
  have c0 : W.cell? ⟨w.heap.size, 0, none⟩ = some (.slice no M.1.length nc) := (h0.cell 0).trans rfl
  have c1 : W.cell? ⟨w.heap.size, 1, none⟩ = some (.slice fo M.2.length fc) := (h0.cell 1).trans rfl
  clear hR hra hia hL hD hE hW h0 h1 h2 h3 h4 hbW hszW hf hMf
  have HNO := Box.mk hno
  clear hno
  go_enter Tryz.func14, Tryz.ntmps14
  go_wp2_with fail
  refine wp_scope_fwd 0 rfl ?_
  go_wp2_with fail
  rw [← HW.out]
  refine HRR.out.mono ?_; rintro e w1 ⟨rfl, hb1⟩
  have HB1 := Box.mk (HBW.out.trans (hb1.mono HBW.out.size))
  have k0 := H0.out.below hb1 H0.out.lt
  have K0 := Box.mk k0
  have K1 := Box.mk (H1.out.below hb1 H1.out.lt)
  have K2 := Box.mk (H2.out.below hb1 H2.out.lt)
  have d0 : w1.cell? ⟨w.heap.size, 0, none⟩ = some (.slice no M.1.length nc) := (k0.cell 0).trans rfl
  have d1 : w1.cell? ⟨w.heap.size, 1, none⟩ = some (.slice fo M.2.length fc) := (k0.cell 1).trans rfl
  clear hb1 c0 c1 k0
  cases hr : rulesB n R with
  | false =>
    have hg := (HE.out.below (HB1.out.mono hB)).cell
    have HT := Box.mk (stold_any A B w1 (HE.out.below (HB1.out.mono hB)))
    unfold cutE errV at HT
    clear hr
    go_wp2_with fail
    go_step3
    refine ⟨rfl, ?_⟩
    go_wp2_with fail
    refine HT.out.mono ?_; rintro e w2 ⟨rfl, rfl⟩
    go_wp2_with fail
    rw [Exit.noGoto_ret]
    go_ret2
    exact ⟨rfl, HB1.out⟩
  | true =>
    have HRB := Box.mk hr
    clear hr
    have HMR := Box.mk (mright_any _ M n w1 (HM.out.below HB1.out) HMF.out)
    go_wp2_with fail
    refine HMR.out.mono ?_; rintro e w2 ⟨rfl, hb2⟩
    have HB2 := Box.mk (HB1.out.trans (hb2.mono HB1.out.size))
    have k1 := K1.out.below hb2 K1.out.lt
    have k2 := K2.out.below hb2 K2.out.lt
    have e1 : w2.cell? ⟨w.heap.size + 1, 1, none⟩ = some (.slice fo M.2.length fc) := (k1.cell 1).trans rfl
    have e2 : w2.cell? ⟨w.heap.size + 1 + 1, 0, none⟩ = some (.pointer (some ⟨w.heap.size + 1, 0, none⟩)) := (k2.cell 0).trans rfl
    have l1 := k1.lt
    clear d0 d1 hb2 k1 k2
    cases hm : machR n M with
    | false =>
      have hg := (HE.out.below (HB2.out.mono hB)).cell
      have HT := Box.mk (stold_any A B w2 (HE.out.below (HB2.out.mono hB)))
      unfold cutE errV at HT
      clear hm
      go_wp2_with fail
      go_step3
      refine ⟨rfl, ?_⟩
      go_wp2_with fail
      refine HT.out.mono ?_; rintro e w3 ⟨rfl, rfl⟩
      go_wp2_with fail
      rw [Exit.noGoto_ret]
      go_ret2
      exact ⟨rfl, HB2.out⟩
    | true =>
      have HAI := Box.mk (areIn_any (.slice fo M.2.length fc) M.2 (fits_bound hm) ro R.length rc (rulesB_parts HRB.out).2.2.1 w2 (HFI.out.below HB2.out) (by have := (machR_parts hm); omega))
      have HAN := Box.mk (show M.2.all (inB R.length) = false by
        have := HNO.out
        unfold areC at this
        rw [HRB.out, hm] at this
        simpa using this)
      clear hm
      go_wp2_with fail
      refine HAI.out.mono ?_; rintro e w3 ⟨rfl, hb3⟩
      rw [HAN.out]
      have HB3 := Box.mk (HB2.out.trans (hb3.mono HB2.out.size))
      clear hb3
      have hg := (HE.out.below (HB3.out.mono hB)).cell
      have HT := Box.mk (stold_any A B w3 (HE.out.below (HB3.out.mono hB)))
      unfold cutE errV at HT
      go_wp2_with fail
      go_step3
      refine ⟨rfl, ?_⟩
      go_wp2_with fail
      refine HT.out.mono ?_; rintro e w4 ⟨rfl, rfl⟩
      go_wp2_with fail
      rw [Exit.noGoto_ret]
      go_ret2
      exact ⟨rfl, HB3.out⟩
end Go.Proofs.YtbpcipobdokcfaaGreatDoor

/- THE WALKS OF package seg: boundaries by a machine that may be cut by. -/
namespace Go.Proofs.YtbpcipobdokcfaaGreatDoor
open Go.RowKit Go.Shelf
attribute [local go_sem] Oper.semAt_some

theorem Turns.narrow {own own' : Nat → Prop} {A B : World} (h : Turns own A B) (hm : ∀ k, own k → k < A.heap.size → own' k) : Turns own' A B := ⟨h.os, h.tape, h.output, h.size, fun i hi ho => h.block i hi (fun e => ho (hm i e hi))⟩
theorem areC_parts {R : List D.Rule} {M : D.Mach} {n : Int} (h : areC R M n = true) : rulesB n R = true ∧ machR n M = true ∧ M.2.all (inB R.length) = true := by
  unfold areC at h
  simp only [Bool.and_eq_true] at h
  exact ⟨h.1.1, h.1.2, h.2⟩

set_option maxRecDepth 100000 in
set_option maxHeartbeats 8000000 in
theorem cuts_yes (A : Nat → Addr) (B : Nat) (rv : Value) (R : List D.Rule) (mv : Value) (M : D.Mach) (n : Int) (lv : Value) (L : List Int) (w : World) (hR : RulesAt w rv R) (hf : ∀ x ∈ R, ruleFit x) (hRz : R.length ≤ 16777216) (hM : MachAt w mv M) (hMf : MachFit M) (hL : IntsAt w lv L) (hLz : L.length ≤ 900) (hD : Ed A B w) (hE : Eg A B w) (hB : B ≤ w.heap.size) (hyes : areC R M n = true) :
    Calls Tryz.prog 14 #[rv, mv, .int .i64 n, lv] w fun e w' => (∃ v, e = .returned (.tuple #[v, .int .i64 0]) ∧ IntsAt w' v (cutsL R M n.toNat L)) ∧ Below w.heap.size w w' := by
  obtain ⟨hrb, hmr, hai⟩ := areC_parts hyes
  obtain ⟨n1, n2, hR40, -⟩ := rulesB_parts hrb
  obtain ⟨nn, rfl⟩ := Int.eq_ofNat_of_zero_le (show 0 ≤ n by omega)
  have HR := Box.mk hR
  have HM := Box.mk hM
  have HL := Box.mk hL
  have HD := Box.mk hD
  have HE := Box.mk hE
  have HF := Box.mk hf
  have HMF := Box.mk hMf
  obtain ⟨ro, rc, rfl⟩ := hR.slice
  obtain ⟨NV, FV, rfl, hra, hia⟩ := hM
  obtain ⟨no, nc, rfl⟩ := hra.slice
  obtain ⟨fo, fc, rfl⟩ := hia.slice
  obtain ⟨lo, lc, rfl⟩ := hL.slice
  have HFI := Box.mk hia
  obtain ⟨W, hW⟩ : ∃ W, W = ((((w.alloc (.cells #[.slice no M.1.length nc, .slice fo M.2.length fc] 26)).alloc (.cells #[.slice no M.1.length nc, .slice fo M.2.length fc, .slice ro R.length rc, .slice none 0 0] 55)).alloc (.cells #[.pointer (some ⟨w.heap.size + 1, 0, none⟩)] 53)).alloc (.cells #[.int .i64 0] 3)).alloc (.cells #[.slice (some ⟨w.heap.size + 1 + 1 + 1, 0, none⟩) 1 1] 27) := ⟨_, rfl⟩
  obtain ⟨h0, h1, h2, h3, h4, hbW, hszW⟩ := fiveP w _ _ _ _ _ _ _ _ _ _ W hW
  have HW := Box.mk hW
  have H0 := Box.mk h0
  have H1 := Box.mk h1
  have H2 := Box.mk h2
  have H3 := Box.mk h3
  have H4 := Box.mk h4
  have HBW := Box.mk hbW
  have HSZ := Box.mk hszW
  have HRR := Box.mk (rulesRight_any _ R (nn : Int) W hf (hR.below hbW) hRz)
  have c0 : W.cell? ⟨w.heap.size, 0, none⟩ = some (.slice no M.1.length nc) := (h0.cell 0).trans rfl
  have c1 : W.cell? ⟨w.heap.size, 1, none⟩ = some (.slice fo M.2.length fc) := (h0.cell 1).trans rfl
  clear hR hra hia hL hD hE hW h0 h1 h2 h3 h4 hbW hszW hf hMf
  have HRB := Box.mk hrb
  have HMRB := Box.mk hmr
  have HAIB := Box.mk hai
  clear hyes hrb hmr hai
  refine (callsIn_wide (n := 9)).1 (callsIn_of_wp_marks Tryz.func14 rfl trivial (wpIn_wide.2 ?_))
  simp only [Tryz.ntmps14, List.size_toArray, List.length_cons, List.length_nil, Nat.reduceAdd, Nat.reduceSub, Array.replicate_succ, Array.replicate_zero, List.push_toArray, List.append_toArray, List.nil_append, List.cons_append]
  go_wp2_with fail
  refine wp_scope_fwd 0 rfl ?_
  go_wp2_with fail
  rw [← HW.out]
  refine HRR.out.mono ?_; rintro e w1 ⟨rfl, hb1⟩
  rw [HRB.out]
  have HB1 := Box.mk (HBW.out.trans (hb1.mono HBW.out.size))
  have k0 := H0.out.below hb1 H0.out.lt
  have K0 := Box.mk k0
  have K1 := Box.mk (H1.out.below hb1 H1.out.lt)
  have K2 := Box.mk (H2.out.below hb1 H2.out.lt)
  have K3 := Box.mk (H3.out.below hb1 H3.out.lt)
  have K4 := Box.mk (H4.out.below hb1 H4.out.lt)
  have d0 : w1.cell? ⟨w.heap.size, 0, none⟩ = some (.slice no M.1.length nc) := (k0.cell 0).trans rfl
  have d1 : w1.cell? ⟨w.heap.size, 1, none⟩ = some (.slice fo M.2.length fc) := (k0.cell 1).trans rfl
  have HMR := Box.mk (mright_any _ M nn w1 (HM.out.below HB1.out) HMF.out)
  clear hb1 c0 c1 k0
  go_wp2_with fail
  refine HMR.out.mono ?_; rintro e w2 ⟨rfl, hb2⟩
  rw [HMRB.out]
  have HB2 := Box.mk (HB1.out.trans (hb2.mono HB1.out.size))
  have k1 := K1.out.below hb2 K1.out.lt
  have k2 := K2.out.below hb2 K2.out.lt
  have e1 : w2.cell? ⟨w.heap.size + 1, 1, none⟩ = some (.slice fo M.2.length fc) := (k1.cell 1).trans rfl
  have e2 : w2.cell? ⟨w.heap.size + 1 + 1, 0, none⟩ = some (.pointer (some ⟨w.heap.size + 1, 0, none⟩)) := (k2.cell 0).trans rfl
  have l1 := k1.lt
  have J0 := Box.mk (K0.out.below hb2 K0.out.lt)
  have J1 := Box.mk k1
  have J2 := Box.mk k2
  have J3 := Box.mk (K3.out.below hb2 K3.out.lt)
  have J4 := Box.mk (K4.out.below hb2 K4.out.lt)
  have HAI := Box.mk (areIn_any (.slice fo M.2.length fc) M.2 (fits_bound HMRB.out) ro R.length rc hR40 w2 (HFI.out.below HB2.out) (by have := (machR_parts HMRB.out); omega))
  clear d0 d1 hb2 k1 k2
  go_wp2_with fail
  refine HAI.out.mono ?_; rintro e w3 ⟨rfl, hb3⟩
  rw [HAIB.out]
  have HB3 := Box.mk (HB2.out.trans (hb3.mono HB2.out.size))
  have I0 := Box.mk (J0.out.below hb3 J0.out.lt)
  have I1 := Box.mk (J1.out.below hb3 J1.out.lt)
  have I2 := Box.mk (J2.out.below hb3 J2.out.lt)
  have I3 := Box.mk (J3.out.below hb3 J3.out.lt)
  have I4 := Box.mk (J4.out.below hb3 J4.out.lt)
  have f2 : w3.cell? ⟨w.heap.size + 1 + 1, 0, none⟩ = some (.pointer (some ⟨w.heap.size + 1, 0, none⟩)) := (I2.out.cell 0).trans rfl
  have l3 := I1.out.lt
  have HKN := Box.mk (fun (W : World) (h : Below w3.heap.size w3 W) => known_any (.slice lo L.length lc) L nn W ((HL.out.below HB3.out).below h) (by omega))
  clear hb3 e1 e2 l1
  go_upto_region 5 with (fail)
  go_cut [] from 40 to 45 (fun wx => ∃ kg : Nat, w3.heap.size ≤ kg ∧ Box (Blk wx kg 3 ((D.cuts nn L).map (Value.int .i64)).toArray) ∧ Box (Blk wx (w.heap.size + 1) 55 #[.slice no M.1.length nc, .slice fo M.2.length fc, .slice ro R.length rc, .slice (some ⟨kg, 0, none⟩) L.length L.length]) ∧ Box (Turns (fun k => k = w.heap.size + 1) w3 wx))
  case first =>
    have HDR := Box.mk (show Below w3.heap.size w3 w3.drew from drew_below w3 1)
    have HF0 := Box.mk (show w3.drew.cell? ⟨w.heap.size + 1 + 1, 0, none⟩ = some (.pointer (some ⟨w.heap.size + 1, 0, none⟩)) from (HDR.out.cell (p := ⟨w.heap.size + 1 + 1, 0, none⟩) I2.out.lt).trans f2)
    refine wp_region_K 4 (fun W => W.cell? ⟨w.heap.size + 1 + 1, 0, none⟩ = some (.pointer (some ⟨w.heap.size + 1, 0, none⟩))) (by kernel_rfl) ?_
    have HKD := Box.mk (HKN.out _ HDR.out)
    generalize w3.drew = WR at HDR HF0 HKD ⊢
    refine wpAnyK_take (i := 0) (v := ?_) rfl (by kernel_rfl) (fun _ _ _ h => h) (Or.inl ⟨by kernel_rfl, ?_⟩) HF0.out ?_
    rotate_left
    · first | (intro w hw; have q1 := hw; go_simp; done) | (intro w hw; have q1 := hw; go_simp; with_reducible rfl)
    refine wpAnyK_take (i := 1) (v := ?_) rfl (by kernel_rfl) (fun _ _ _ h => h) (Or.inl ⟨by kernel_rfl, ?_⟩) HF0.out ?_
    rotate_left
    · first | (intro w hw; have q1 := hw; go_simp; done) | (intro w hw; have q1 := hw; go_simp; with_reducible rfl)
    refine wpAnyK_take (i := 2) (v := ?_) rfl (by kernel_rfl) (fun _ _ _ h => h) (Or.inl ⟨by kernel_rfl, ?_⟩) HF0.out ?_
    rotate_left
    · first | (intro w hw; have q1 := hw; go_simp; done) | (intro w hw; have q1 := hw; go_simp; with_reducible rfl)
    refine wpAnyK_one (i := 3) (by kernel_rfl) rfl (fun KK hKK => ?_)
    go_simp
    go_wp2_with (go_at_call 34; refine HKD.out.mono ?_; rintro e w4 ⟨rfl, hk4, hb4⟩)
    have HB4 := Box.mk (show Below w3.heap.size w3 w4 from HDR.out.trans (hb4.mono HDR.out.size))
    have HK4 := Box.mk hk4
    have g4 := (I1.out.below HB4.out I1.out.lt).frozen 3
    have x4 := ((I1.out.below HB4.out I1.out.lt).cell 3).trans (show _ = some (Value.slice none 0 0) from rfl)
    have l4 := (I1.out.below HB4.out I1.out.lt).lt
    have HWS := Box.mk HDR.out.size
    clear hb4 hk4
    refine hKK.out _ _ (fun _ => (HB4.out.cell (p := ⟨w.heap.size + 1 + 1, 0, none⟩) I2.out.lt).trans f2) ?_
    clear hKK KK
    refine wpAnyK_one (i := 4) (by kernel_rfl) rfl (fun KK hKK => ?_)
    go_simp
    refine hKK.out _ _ (fun h => by cases h) ?_
    clear hKK KK
    refine wpAnyK_one (i := 5) (by kernel_rfl) rfl (fun KK hKK => ?_)
    go_simp
    refine hKK.out _ _ (fun h => by cases h) ?_
    clear hKK KK
    refine wpAnyK_one (i := 6) (by kernel_rfl) rfl (fun KK hKK => ?_)
    go_simp
    refine hKK.out _ _ (fun h => by cases h) ?_
    clear hKK KK
    refine wpAnyK_done (by kernel_rfl) ?_ _
    refine NoPanic.normal ?_
    go_wp2_with fail
    go_meet
    have hT := Turns.setCell (own := fun k => k = w.heap.size + 1) w4 (p := ⟨w.heap.size + 1, 3, none⟩) rfl (.slice (some ⟨WR.heap.size, 0, none⟩) L.length L.length)
    exact ⟨WR.heap.size, HWS.out, ⟨hT.blk HK4.out (by have := I1.out.lt; have := HWS.out; omega)⟩, ⟨(I1.out.below HB4.out I1.out.lt).set_ 3 _⟩, ⟨(Turns.of_below HB4.out).trans hT⟩⟩
  case rest =>
    obtain ⟨kg, hkg, hkb, hcb, hT⟩ := hcut
    have C0 := Box.mk (hT.out.blk I0.out (by omega))
    have C2 := Box.mk (hT.out.blk I2.out (by omega))
    have C3 := Box.mk (hT.out.blk I3.out (by omega))
    have C4 := Box.mk (hT.out.blk I4.out (by omega))
    have HBC := Box.mk (show Below w.heap.size w wc from HB3.out.trans (hT.out.below HB3.out.size (fun k hk => by omega)))
    have d0 : wc.cell? ⟨w.heap.size, 0, none⟩ = some (.slice no M.1.length nc) := (C0.out.cell 0).trans rfl
    have d1 : wc.cell? ⟨w.heap.size, 1, none⟩ = some (.slice fo M.2.length fc) := (C0.out.cell 1).trans rfl
    have HGO := Box.mk (mgo_any A B _ (.slice lo L.length lc) M nn L wc (HM.out.below HBC.out) HMF.out (HL.out.below HBC.out) (by omega) (HD.out.below (HBC.out.mono hB)) (Nat.le_trans hB HBC.out.size))
    have hC4l := C4.out.lt
    have hkgl := hkb.out.lt
    clear f2 l3 hT
    go_wp2_with fail
    refine HGO.out.mono ?_; rintro e w5 ⟨hb5, gv, rfl, hown⟩
    rw [show goCode nn M = 0 by unfold goCode; rw [HMRB.out]; rfl]
    rw [HMRB.out, if_pos rfl, if_pos rfl, Int.toNat_natCast] at hown
    have hlt := hown.lt
    obtain ⟨sg, sc, rfl⟩ := ownsRow_succ hown
    have HGW := Box.mk hown
    have hsgl := hlt sg rfl
    have D0 := Box.mk (C0.out.below hb5 C0.out.lt)
    have D1 := Box.mk (hcb.out.below hb5 hcb.out.lt)
    have D2 := Box.mk (C2.out.below hb5 C2.out.lt)
    have D3 := Box.mk (C3.out.below hb5 C3.out.lt)
    have D4 := Box.mk (C4.out.below hb5 C4.out.lt)
    have DK := Box.mk (hkb.out.below hb5 hkb.out.lt)
    have HBD := Box.mk (show Below w.heap.size w w5 from HBC.out.trans (hb5.mono HBC.out.size))
    have h5s := hb5.size
    have f2 : w5.cell? ⟨w.heap.size + 1 + 1, 0, none⟩ = some (.pointer (some ⟨w.heap.size + 1, 0, none⟩)) := (D2.out.cell 0).trans rfl
    clear d0 d1 hb5 hown hlt
    go_wp2_with (go_at_call 36; refine (placesM_any _ _ _ ⟨_, _, _, rfl⟩).mono ?_; rintro e w' ⟨rfl, rfl⟩)
    clear f2
    obtain ⟨wL, hwL⟩ : ∃ wL, wL = (w5.alloc (.cells #[.pointer (some ⟨w.heap.size + 1, 0, none⟩)] 53)).alloc (.cells #[.slice (some ⟨sg, 0, none⟩) (L.length + 1) sc] 27) := ⟨_, rfl⟩
    rw [← hwL]
    have hszL : wL.heap.size = w5.heap.size + 2 := by rw [hwL]; simp
    have hbL : Below w5.heap.size w5 wL := by rw [hwL]; exact ((Below.refl _ _).alloc (Nat.le_refl _) _).alloc (by simp) _
    have hxb : Blk wL w5.heap.size 53 #[.pointer (some ⟨w.heap.size + 1, 0, none⟩)] := by rw [hwL]; exact (Blk.new w5 _ _).alloc _
    have hsb : Blk wL (w5.heap.size + 1) 27 #[.slice (some ⟨sg, 0, none⟩) (L.length + 1) sc] := by
      rw [hwL]
      have := Blk.new (w5.alloc (.cells #[.pointer (some ⟨w.heap.size + 1, 0, none⟩)] 53)) 27 #[.slice (some ⟨sg, 0, none⟩) (L.length + 1) sc]
      simpa using this
    obtain ⟨SL, hSL⟩ : ∃ SL, SL = (goM nn M L).map fun x : Nat => (x : Int) := ⟨_, rfl⟩
    have hSl : SL.length = L.length + 1 := by rw [hSL]; unfold goM; simp
    obtain ⟨m1, m2, m3, m4, m5⟩ := machR_parts HMRB.out
    obtain ⟨fg, foff, fcap, kf1, kf2, kf3, kf4, kf5⟩ := (HFI.out.below (HBD.out.trans (hbL.mono HBD.out.size))).get (by intro e; rw [e] at m5; simp at m5; omega)
    obtain ⟨rfl, rfl⟩ : fo = some ⟨fg, foff, none⟩ ∧ fc = fcap := by injection kf1 with h1 h2 h3; exact ⟨h1, h3⟩
    have hfg : fg < w.heap.size := by
      obtain ⟨fg', foff', fcap', q1, q2, q3, q4, q5⟩ := HFI.out.get (by intro e; rw [e] at m5; simp at m5; omega)
      injection q1 with h1 h2 h3
      injection h1 with h1
      injection h1 with h1 h4 h5
      rw [h1]
      exact q4
    have hrowL := own_below HGW.out hbL
    have hPlc : Plc (w.heap.size + 1) (w5.heap.size + 1) w5.heap.size sg 0 sc fg foff fc L.length L.length (some ⟨kg, 0, none⟩) (.slice no M.1.length nc) (.slice ro R.length rc) SL M.2 wL := by
      refine ⟨D1.out.below hbL D1.out.lt, by rw [hSl]; exact hsb, hxb, fun i v hi => ?_, kf5⟩
      have hc := hrowL.cells (g := sg) rfl i (.int .i64 v) (by
        rw [hSL] at hi
        rw [List.getElem?_map] at hi ⊢
        cases hgi : (goM nn M L)[i]? with
        | none => rw [hgi] at hi; cases hi
        | some y => rw [hgi] at hi; cases hi; rfl)
      rw [show (⟨sg, 0 + i, none⟩ : Addr) = (⟨sg, 0, none⟩ : Addr).add i by unfold Addr.add; by_cases h0 : i = 0 <;> simp [h0]]
      exact hc
    have hscb : L.length + 1 ≤ sc ∧ sc ≤ 9223372036854775807 := by
      rcases hrowL.2 with ⟨h1, h2⟩ | ⟨g', cap', cur', h1, h2, h3, h4, h5, h6⟩
      · cases h1
      · injection h1 with h7 h8 h9; subst h9; unfold maxLen at h5; exact ⟨h4, by omega⟩
    have hSF : ∀ x ∈ SL, 0 ≤ x ∧ x < M.2.length := by
      intro x hx
      rw [hSL] at hx
      obtain ⟨y, hy, rfl⟩ := List.mem_map.1 hx
      unfold goM at hy
      obtain ⟨i, -, rfl⟩ := List.mem_map.1 hy
      have := stM_lt HMRB.out L i
      omega
    have hfitN : ∀ x, x ≤ L.length → fitN SL M.2 x = fitM M (stM nn M L x) := by
      intro x hx
      unfold fitN fitM
      have : SL[x]? = some ((stM nn M L x : Nat) : Int) := by
        rw [hSL]
        unfold goM
        rw [List.getElem?_map, List.getElem?_map, List.getElem?_range (by omega)]
        rfl
      rw [show SL.getD x 0 = ((stM nn M L x : Nat) : Int) by rw [List.getD_eq_getElem?_getD, this]; rfl, Int.toNat_natCast]
    have HFN := Box.mk hfitN
    have L2 := Box.mk (D2.out.below hbL D2.out.lt)
    have L3 := Box.mk (D3.out.below hbL D3.out.lt)
    have L4 := Box.mk (D4.out.below hbL D4.out.lt)
    have LK := Box.mk (DK.out.below hbL DK.out.lt)
    have HBL := Box.mk (show Below w.heap.size w wL from HBD.out.trans (hbL.mono HBD.out.size))
    have hr0 : wL.ownsRow (w.heap.size + 1 + 1 + 1) 3 1 (.slice (some ⟨w.heap.size + 1 + 1 + 1, 0, none⟩) 1 1) 1 [.int .i64 0] :=
      ⟨rfl, .inr ⟨w.heap.size + 1 + 1 + 1, 1, #[.int .i64 0], rfl, Nat.le_refl _, L3.out, Nat.le_refl _, by unfold maxLen; omega, rfl, rfl⟩⟩
    have hkgb : w3.heap.size ≤ kg ∧ kg < wL.heap.size := ⟨hkg, LK.out.lt⟩
    have hw3 := HB3.out.size
    have hsz3 := HSZ.out
    have hi4 := I4.out.lt
    have hwc := HBC.out.size
    have KB := Box.mk (show ∀ g, g < w.heap.size ∨ g = w.heap.size + 1 ∨ w3.heap.size ≤ g → g ≠ w.heap.size + 1 + 1 + 1 ∧ g ≠ w.heap.size + 1 + 1 + 1 + 1 from fun g h => by omega)
    have hwcs : wc.heap.size ≤ w5.heap.size := h5s
    have hw3c : w3.heap.size ≤ wc.heap.size := by omega
    have hKK : ∀ g, g < wL.heap.size → (g < w.heap.size ∨ g = w.heap.size + 1 ∨ w3.heap.size ≤ g) → g < wL.heap.size ∧ g ≠ w.heap.size + 1 + 1 + 1 ∧ g ≠ w.heap.size + 1 + 1 + 1 + 1 := fun g h1 h2 => ⟨h1, KB.out g h2⟩
    have HK := Box.mk (show (w.heap.size + 1 < wL.heap.size ∧ w.heap.size + 1 ≠ w.heap.size + 1 + 1 + 1 ∧ w.heap.size + 1 ≠ w.heap.size + 1 + 1 + 1 + 1) ∧ (w5.heap.size + 1 < wL.heap.size ∧ w5.heap.size + 1 ≠ w.heap.size + 1 + 1 + 1 ∧ w5.heap.size + 1 ≠ w.heap.size + 1 + 1 + 1 + 1) ∧ (w5.heap.size < wL.heap.size ∧ w5.heap.size ≠ w.heap.size + 1 + 1 + 1 ∧ w5.heap.size ≠ w.heap.size + 1 + 1 + 1 + 1) ∧ (sg < wL.heap.size ∧ sg ≠ w.heap.size + 1 + 1 + 1 ∧ sg ≠ w.heap.size + 1 + 1 + 1 + 1) ∧ (fg < wL.heap.size ∧ fg ≠ w.heap.size + 1 + 1 + 1 ∧ fg ≠ w.heap.size + 1 + 1 + 1 + 1) from
      ⟨hKK _ (by omega) (by omega), hKK _ (by omega) (by omega), hKK _ (by omega) (by omega), hKK _ (by omega) (by omega), hKK _ (by omega) (by omega)⟩)
    have HPLC := Box.mk hPlc
    have HR0 := Box.mk hr0
    have HKG := Box.mk hkgb
    have HFB := Box.mk (fits_bound HMRB.out)
    have HSLB := Box.mk hSF
    have HRL := Box.mk (HR.out.below HBL.out)
    have hLb : w.heap.size + 1 + 1 + 1 + 1 + 1 ≤ wL.heap.size := by omega
    have HM5 := Box.mk m5
    have HSL := Box.mk hSL
    have HSl := Box.mk hSl
    unfold maxLen at kf3
    clear m5 hSL hSl hSF m1 m2 m3 m4 hwL hbL hxb hsb hrowL hPlc hr0 hkgb hKK hfitN hwc hwcs hw3c hsz3 hi4 hw3 hsgl h5s hC4l hkgl kf1 kf5 kf4 hfg hkg hkb hcb hszL
    refine (wpIn_wide (n := 9)).1 (range_law (α := Nat) (gf := 60) (lb := #[.pointer (some ⟨w5.heap.size + 1, 0, none⟩), .pointer (some ⟨w5.heap.size, 0, none⟩)]) rfl (enters_of Tryz.func60 (by kernel_rfl) rfl)
      (encs := fun x : Nat => #[.int .i64 x, .int .i64 (fitN SL M.2 x)]) (own := fun _ => False) (keep := fun k => k < wL.heap.size ∧ k ≠ w.heap.size + 1 + 1 + 1 ∧ k ≠ w.heap.size + 1 + 1 + 1 + 1) (ok := fun pre x => x = pre.length + 1 ∧ x < L.length) (S := fun xs _ => xs = midP L.length (L.length + 1))
      (fun k hk => by rcases hk with h | h; exact h.elim; exact h.1)
      (fun W1 ht => places1_iter 7 _ (w.heap.size + 1) (w5.heap.size + 1) w5.heap.size sg 0 sc fg foff fc L.length L.length (some ⟨kg, 0, none⟩) (.slice no M.1.length nc) (.slice ro R.length rc) SL M.2 HSl.out ⟨by rw [HSl.out]; exact hscb.1, hscb.2⟩ ⟨kf2, by omega⟩ (by omega) HSLB.out HK.out _ W1
        (HPLC.out.same (K := fun k => k < wL.heap.size) ⟨HK.out.1.1, HK.out.2.1.1, HK.out.2.2.1.1, HK.out.2.2.2.1.1, HK.out.2.2.2.2.1⟩ (fun k hk => ht.block k hk (fun h => h))))
      (fun _ => rfl)
      (fun pre W => (∃ v, Blk W (w.heap.size + 1 + 1 + 1 + 1) 27 #[v] ∧ W.ownsRow (w.heap.size + 1 + 1 + 1) 3 1 v ((pre.filter (cutAt R M nn L)).length + 1) (valsP (0 :: pre.filter (cutAt R M nn L))) ∧ ∀ g, v.ownBlock = some g → g = w.heap.size + 1 + 1 + 1 ∨ wL.heap.size + 2 ≤ g) ∧ Turns (fun k => k = w.heap.size + 1 + 1 + 1 ∨ k = w.heap.size + 1 + 1 + 1 + 1) wL W)
      (fun _ _ _ => False) ?hI (fun _ _ _ _ h _ => h) ⟨⟨_, L4.out, HR0.out, fun g hg => by cases hg; exact .inl rfl⟩, Turns.refl _ _⟩
      (fun x a1 _ => a1 = { tmps := #[Value.slice ro R.length rc, Value.agg #[Value.slice no M.fst.length nc, Value.slice (some ⟨fg, foff, none⟩) M.snd.length fc], Value.int IntKind.i64 (nn : Int), Value.slice lo L.length lc, undef, Value.pointer (some ⟨w.heap.size, 0, none⟩), undef, undef, Value.slice none 0 0, Value.int IntKind.i64 0, Value.pointer (some ⟨w.heap.size + 1 + 1, 0, none⟩), Value.pointer (some ⟨w.heap.size + 1 + 1 + 1 + 1, 0, none⟩), Value.slice (some ⟨sg, 0, none⟩) (L.length + 1) sc, .int .i64 (x : Int), .int .i64 (fitN SL M.2 x), Value.agg #[Value.slice no M.fst.length nc, Value.slice (some ⟨fg, foff, none⟩) M.snd.length fc], Value.slice ro R.length rc, Value.agg #[Value.slice no M.fst.length nc, Value.slice (some ⟨fg, foff, none⟩) M.snd.length fc, Value.slice ro R.length rc, Value.slice none 0 0], Value.pointer (some ⟨w.heap.size + 1, 0, none⟩), Value.slice (some ⟨w.heap.size + 1 + 1 + 1, 0, none⟩) 1 1, Value.slice ro R.length rc, Value.int IntKind.i64 (nn : Int), Value.bool true, Value.bool false, Value.bool false, Value.agg #[Value.slice no M.fst.length nc, Value.slice (some ⟨fg, foff, none⟩) M.snd.length fc], Value.int IntKind.i64 (nn : Int), Value.bool true, Value.bool false, Value.bool false, Value.bool false, Value.pointer (some ⟨w.heap.size + 1, 0, none⟩), Value.pointer (some ⟨w.heap.size + 1, 0, none⟩), Value.pointer (some ⟨w.heap.size + 1, 0, none⟩), Value.pointer (some ⟨w.heap.size + 1, 1, none⟩), Value.slice (some ⟨fg, foff, none⟩) M.snd.length fc, Value.slice ro R.length rc, Value.bool true, Value.bool false, Value.bool false, u40, u41, u42, u43, u44, u45, Value.tuple #[Value.slice (some ⟨sg, 0, none⟩) (L.length + 1) sc, Value.int IntKind.i64 0], Value.agg #[Value.slice no M.fst.length nc, Value.slice (some ⟨fg, foff, none⟩) M.snd.length fc], Value.int IntKind.i64 (nn : Int), Value.slice lo L.length lc, Value.tuple #[Value.slice (some ⟨sg, 0, none⟩) (L.length + 1) sc, Value.int IntKind.i64 0], Value.slice (some ⟨sg, 0, none⟩) (L.length + 1) sc, Value.int IntKind.i64 0, Value.pointer (some ⟨w.heap.size + 1, 0, none⟩), Value.slice (some ⟨sg, 0, none⟩) (L.length + 1) sc, Value.func (Fn.func 60) #[] #[Value.pointer (some ⟨w5.heap.size + 1, 0, none⟩), Value.pointer (some ⟨w5.heap.size, 0, none⟩)], .int .i64 (x : Int), .int .i64 (fitN SL M.2 x), undef, undef, undef, undef, undef, undef, undef, undef, undef, undef, undef, undef, undef, undef, undef, undef, undef, undef, undef], defers := [] })
      (fun _ _ _ _ h _ => h) ?assign ?body ?done (fun _ _ _ _ h _ => h.elim) (fun _ _ _ h _ => h))
    case hI =>
      rintro pre W W' ⟨⟨v, h1, h2, h3⟩, h4⟩ ht
      have h5 : Turns (fun k => k = w.heap.size + 1 + 1 + 1 ∨ k = w.heap.size + 1 + 1 + 1 + 1 ∨ k = wL.heap.size + 1) wL W' := (h4.mono fun k hk => by
        rcases hk with h | h
        · exact .inl h
        · exact .inr (.inl h)).trans (ht.mono fun k hk => by
        rcases hk with h | h
        · exact h.elim
        · exact .inr (.inr h))
      exact ⟨⟨v, ht.blk h1 (by rintro (h | h); exact h; omega), ht.row h2 (fun k hk => by have := h3 k hk; rintro (h | h); exact h; omega), h3⟩, h5.narrow fun k hk hl => by
        rcases hk with h | h | h
        · exact .inl h
        · exact .inr h
        · omega⟩
    case assign =>
      intro x W K _ hK
      gi_wp2
      exact hK _ _ (Turns.refl _ _) rfl
    case body =>
      rintro pre x a1 W hW ⟨⟨v, h1, h2, h3⟩, h4⟩ ⟨hx, hxl⟩ rfl
      obtain ⟨f0, f1⟩ : 0 ≤ fitN SL M.2 x ∧ fitN SL M.2 x < 1099511627776 := by
        rw [HFN.out x (by omega)]
        unfold fitM
        cases hq : M.2[stM nn M L x]? with
        | none => rw [List.getD_eq_getElem?_getD, hq]; simp
        | some y => rw [List.getD_eq_getElem?_getD, hq]; exact HFB.out y (List.mem_of_getElem? hq)
      obtain ⟨fN, hfN⟩ := Int.eq_ofNat_of_zero_le f0
      have hfl : fN < 1099511627776 := by omega
      have HCV := Box.mk (show cutAt R M nn L x = G.isCut R (D.cuts nn L) fN (x : Int) by
        unfold cutAt
        rw [← HFN.out x (by omega), hfN, Int.toNat_natCast])
      rw [hfN]
      have hkk : ∀ k, k < wL.heap.size ∧ k ≠ w.heap.size + 1 + 1 + 1 ∧ k ≠ w.heap.size + 1 + 1 + 1 + 1 → W.heap[k]? = wL.heap[k]? := fun k hk => h4.block k hk.1 (fun e => by rcases e with e | e; exact hk.2.1 e; exact hk.2.2 e)
      have hkl : ∀ k t cs, k < wL.heap.size ∧ k ≠ w.heap.size + 1 + 1 + 1 ∧ k ≠ w.heap.size + 1 + 1 + 1 + 1 → Blk wL k t cs → Blk W k t cs := fun k t cs hk hb => (hkk k hk).trans hb
      have h2b : w.heap.size + 1 + 1 + 1 ≤ wL.heap.size := by omega
      have hBW2 : Below w.heap.size w W := HBL.out.trans (h4.below HBL.out.size (fun k hk => by omega))
      have HIC := Box.mk ((callsIn_wide (n := 9 - 1 - 1 - 1)).2 (isCut_any (w.heap.size + 1) (.slice no M.1.length nc) (.slice (some ⟨fg, foff, none⟩) M.2.length fc) (.slice ro R.length rc) (.slice (some ⟨kg, 0, none⟩) L.length L.length) R (D.cuts nn L) (x : Int) fN W
        (hkl _ _ _ HK.out.1 HPLC.out.c) (HR.out.below hBW2)
        (by
          have hb := hkl kg _ _ ⟨HKG.out.2, KB.out kg (.inr (.inr HKG.out.1))⟩ LK.out
          have hl : (D.cuts nn L).length = L.length := by unfold D.cuts; rw [List.length_map]
          have := ints_blk hb (by rw [hl]; omega)
          rwa [hl] at this) HF.out (by unfold D.cuts; rw [List.length_map]; exact hLz) hfl hR40))
      have c2 : W.cell? ⟨w.heap.size + 1 + 1, 0, none⟩ = some (.pointer (some ⟨w.heap.size + 1, 0, none⟩)) := ((hkl (w.heap.size + 1 + 1) _ _ ⟨by omega, by omega, by omega⟩ L2.out).cell 0).trans rfl
      have hlt := h2.lt
      have hs4 := h4.size
      have hpl : (pre.filter (cutAt R M nn L)).length < 1000000 := by
        have := List.length_filter_le (cutAt R M nn L) pre
        omega
      have HX := Box.mk hx
      have H1 := Box.mk h1
      have H2 := Box.mk h2
      have H3 := Box.mk h3
      have H4 := Box.mk h4
      have HL0 := Box.mk hlt
      have HFNX := Box.mk hfN
      clear h1 h2 h3 h4 hx hfN f0 f1 hkk hkl hBW2 hlt
      gi_wp2
      refine ⟨trivial, HIC.out.mono ?_⟩
      rintro e w4 ⟨rfl, hb4⟩
      rw [← HCV.out]
      have HB4 := Box.mk hb4
      have hs44 := hb4.size
      clear c2 hb4
      cases hcv : cutAt R M nn L x with
      | false =>
        have HFI2 := Box.mk (show (pre ++ [x]).filter (cutAt R M nn L) = pre.filter (cutAt R M nn L) by rw [List.filter_append]; simp [hcv])
        clear hcv
        gi_wp2
        have hT4 : Turns (fun _ => False) W w4 := Turns.of_below HB4.out
        refine ⟨Holds.of_turns (own := fun k => (k < wL.heap.size ∧ k ≠ w.heap.size + 1 + 1 + 1 ∧ k ≠ w.heap.size + 1 + 1 + 1 + 1) ∨ k = wL.heap.size + 1 ∨ k = wL.heap.size) hT4 (fun k hk => by omega) (fun k hk h => h), ⟨v, hT4.blk H1.out (fun h => h), ?_, H3.out⟩, H4.out.trans (hT4.mono fun _ h => h.elim)⟩
        rw [HFI2.out]
        exact hT4.row H2.out (fun _ _ h => h)
      | true =>
        have HFI2 := Box.mk (show (pre ++ [x]).filter (cutAt R M nn L) = pre.filter (cutAt R M nn L) ++ [x] by rw [List.filter_append]; simp [hcv])
        have HSN := Box.mk (valsP_snoc (0 :: pre.filter (cutAt R M nn L)) x)
        clear hcv
        have hT4 : Turns (fun _ => False) W w4 := Turns.of_below HB4.out
        have hrow4 := hT4.row H2.out (fun _ _ h => h)
        have hblk4 := hT4.blk H1.out (fun h => h)
        have hc : w4.cell? ⟨w.heap.size + 1 + 1 + 1 + 1, 0, none⟩ = some v := (hblk4.cell 0).trans rfl
        have hf := hblk4.frozen 0
        obtain ⟨i0, hi, hz0, hz1, hz2⟩ := info_parts int_infoP
        have HNB := Box.mk (show v.ownBlock ≠ some (w.heap.size + 1 + 1 + 1 + 1) from fun e => by rcases H3.out _ e with h | h <;> omega)
        have HV := Box.mk hblk4
        have HRW := Box.mk hrow4
        have HT4 := Box.mk hT4
        have HLW := Box.mk hrow4.lt
        obtain ⟨og, oc, rfl⟩ := ownsRow_succ hrow4
        clear hrow4 hblk4 hT4
        gi_wp2_with (gi_at_builtin; refine wpListIn_append_own_at _ rfl _ _ 27 rfl (w.heap.size + 1 + 1 + 1) 3 i0 (.int .i64 0) 1 8 Tryz.underlying27 hi hz0 hz1 hz2 rfl (by decide) (.slice (some ⟨og, 0, none⟩) ((pre.filter (cutAt R M nn L)).length + 1) oc) _ _ rfl (HRW.out.alloc _) ⟨w4.heap.size, 0, none⟩ 1 1 [.int .i64 (x : Int)] rfl rfl (cell_one_new _ _ _) (by simp [Value.oneCell']) (by unfold maxLen; omega) (by omega) (by simp; omega) ?_; intro v' w1 hown' hgrow _ hat; obtain ⟨g', cap', rfl⟩ := ownsRow_succ hown'; have hv1 := (HV.out.alloc _).grown hgrow (Ne.symm HNB.out); have hc1 := hv1.cell 0; have hf1 := hv1.frozen 0; simp at hc1)
        have hg' : g' = og ∨ g' = w4.heap.size + 1 := by
          rcases hat with h | h
          · left; simpa [Value.ownBlock] using h
          · right; simpa [Value.ownBlock] using h
        have hog := H3.out og rfl
        have hogl := (HLW.out og rfl).2
        have hT : Turns (fun k => k = og ∨ k = w.heap.size + 1 + 1 + 1 + 1) W (w1.setCell ⟨w.heap.size + 1 + 1 + 1 + 1, 0, none⟩ (.slice (some ⟨g', 0, none⟩) ((pre.filter (cutAt R M nn L)).length + 1 + 1) cap')) :=
          (((HT4.out.mono fun _ h => h.elim).trans (Turns.alloc w4 _)).trans (turns_grown' hgrow (fun k hk => .inl (by simpa [Value.ownBlock] using hk.symm)))).trans (Turns.setCell _ (.inr rfl) _)
        refine ⟨Holds.of_turns (own := fun k => (k < wL.heap.size ∧ k ≠ w.heap.size + 1 + 1 + 1 ∧ k ≠ w.heap.size + 1 + 1 + 1 + 1) ∨ k = wL.heap.size + 1 ∨ k = wL.heap.size) hT (fun k hk => by omega) (fun k hk h => by omega), ⟨_, hv1.set_ 0 _, ?_, fun g hg => ?_⟩, (H4.out.mono (own' := fun k => k = w.heap.size + 1 + 1 + 1 ∨ k = w.heap.size + 1 + 1 + 1 + 1 ∨ k = og) (fun k hk => by omega)).trans (hT.mono (fun k hk => by omega)) |>.narrow (fun k hk hl => by omega)⟩
        · rw [HFI2.out, ← List.cons_append, HSN.out]
          have := (Turns.setCell (own := fun k => k = w.heap.size + 1 + 1 + 1 + 1) w1 (p := ⟨w.heap.size + 1 + 1 + 1 + 1, 0, none⟩) rfl (.slice (some ⟨g', 0, none⟩) ((pre.filter (cutAt R M nn L)).length + 1 + 1) cap')).row hown' (fun k hk => by simp [Value.ownBlock] at hk; omega)
          simpa using this
        · have : g = g' := by simpa [Value.ownBlock] using hg.symm
          omega
    case done =>
      intro xs W hW hS ⟨⟨v, h1, h2, h3⟩, h4⟩ hD
      have hxs : xs.filter (cutAt R M nn L) = midL R M nn L (L.length - 1) := by
        rw [hS]
        unfold midP midL
        rw [show min (L.length + 1 - 1) (L.length - 1) = L.length - 1 by omega]
      rw [hxs] at h2
      obtain ⟨Q, hQ⟩ : ∃ Q, midL R M nn L (L.length - 1) = Q := ⟨_, rfl⟩
      have hQl : Q.length ≤ 900 := by
        rw [← hQ]
        unfold midL
        have := List.length_filter_le (cutAt R M nn L) ((List.range (L.length - 1)).map (· + 1))
        simp only [List.length_map, List.length_range] at this
        omega
      rw [hQ] at h2
      have HCL := Box.mk (show cutsL R M nn L = (0 :: Q).map (fun n : Nat => (n : Int)) ++ if 0 < L.length then [(L.length : Int)] else [] by unfold cutsL; rw [hQ])
      have c0 : W.cell? ⟨w.heap.size + 1 + 1 + 1 + 1, 0, none⟩ = some v := (h1.cell 0).trans rfl
      have cf := h1.frozen 0
      have cl := h1.lt
      have hlt := h2.lt
      have hs4 := h4.size
      have H1 := Box.mk h1
      have H2 := Box.mk h2
      have H3 := Box.mk h3
      have H4 := Box.mk h4
      have HD2 := Box.mk hD
      have HLW := Box.mk hlt
      have HWB := Box.mk (show Below w.heap.size w W from HBL.out.trans (h4.below HBL.out.size (fun k hk => by omega)))
      clear h1 h2 h3 h4 hD hlt hxs hQ hS
      by_cases h0 : 0 < L.length
      · obtain ⟨i0, hi, hz0, hz1, hz2⟩ := info_parts int_infoP
        have HNB := Box.mk (show v.ownBlock ≠ some (w.heap.size + 1 + 1 + 1 + 1) from fun e => by rcases H3.out _ e with h | h <;> omega)
        obtain ⟨og, oc, rfl⟩ := ownsRow_succ H2.out
        go_wp2_with (at_builtin; refine wpList_append_own_at _ rfl _ _ 27 rfl (w.heap.size + 1 + 1 + 1) 3 i0 (.int .i64 0) 1 8 Tryz.underlying27 hi hz0 hz1 hz2 rfl (by decide) (.slice (some ⟨og, 0, none⟩) (Q.length + 1) oc) _ _ rfl (H2.out.alloc _) ⟨W.heap.size, 0, none⟩ 1 1 [.int .i64 (L.length : Int)] rfl rfl (cell_one_new _ _ _) (by simp [Value.oneCell']) (by unfold maxLen; omega) (by omega) (by simp; omega) ?_; intro v' w1 hown' hgrow _ hat; obtain ⟨g', cap', rfl⟩ := ownsRow_succ hown'; have hv1 := (H1.out.alloc _).grown hgrow (Ne.symm HNB.out); have hc1 := hv1.cell 0; have hf1 := hv1.frozen 0; have hl1 := hv1.lt; simp at hc1)
        rw [fwd_ret]
        have hg' : g' = og ∨ g' = W.heap.size + 1 := by
          rcases hat with h | h
          · left; simpa [Value.ownBlock] using h
          · right; simpa [Value.ownBlock] using h
        have hog := H3.out og rfl
        have hogl := (HLW.out og rfl).2
        have hT : Turns (fun k => k = og ∨ k = w.heap.size + 1 + 1 + 1 + 1) W (w1.setCell ⟨w.heap.size + 1 + 1 + 1 + 1, 0, none⟩ (.slice (some ⟨g', 0, none⟩) (Q.length + 1 + 1) cap')) :=
          ((Turns.alloc W _).trans (turns_grown' hgrow (fun k hk => .inl (by simpa [Value.ownBlock] using hk.symm)))).trans (Turns.setCell _ (.inr rfl) _)
        have hrowf := (Turns.setCell (own := fun k => k = w.heap.size + 1 + 1 + 1 + 1) w1 (p := ⟨w.heap.size + 1 + 1 + 1 + 1, 0, none⟩) rfl (.slice (some ⟨g', 0, none⟩) (Q.length + 1 + 1) cap')).row hown' (fun k hk => by simp [Value.ownBlock] at hk; omega)
        have hWB := HWB.out.trans (hT.below HWB.out.size (fun k hk => by omega))
        generalize hWf : w1.setCell ⟨w.heap.size + 1 + 1 + 1 + 1, 0, none⟩ (.slice (some ⟨g', 0, none⟩) (Q.length + 1 + 1) cap') = Wf at hT hrowf hWB ⊢
        have hDf := (hT.block wL.heap.size (by omega) (by omega)).trans HD2.out
        refine ⟨by simp, .inl ⟨_, _, rfl, run_takeDeferred hDf, ?_⟩⟩
        refine ⟨_, results_tmp2 rfl _ _ _, ?_⟩
        have hTp : Turns (fun k => k = wL.heap.size) Wf (Wf.putObj wL.heap.size (.deferred none)) := Turns.putObj (own := fun k => k = wL.heap.size) Wf rfl (.deferred none)
        have hrowp := hTp.row hrowf (fun k hk => by simp [Value.ownBlock] at hk; omega)
        refine ⟨⟨.slice (some ⟨g', 0, none⟩) (Q.length + 1 + 1) cap', rfl, ?_⟩, hWB.trans (hTp.below hWB.size (fun k hk => by omega))⟩
        rw [show ((nn : Int)).toNat = nn from Int.toNat_natCast nn, HCL.out, if_pos h0]
        refine IntsAt.of_own (n := Q.length + 1 + 1) (T := 3) (base := w.heap.size + 1 + 1 + 1) ?_ (by simp)
        have e : ((0 :: Q).map (fun n : Nat => (n : Int)) ++ [(L.length : Int)]).map (Value.int .i64) = valsP (0 :: Q) ++ [.int .i64 (L.length : Int)] := by
          unfold valsP
          rw [List.map_append, List.map_map]
          rfl
        rw [e]
        exact hrowp
      · obtain ⟨og, oc, rfl⟩ := ownsRow_succ H2.out
        go_wp2_with fail
        rw [fwd_ret]
        have hog := H3.out og rfl
        refine ⟨by simp, .inl ⟨_, _, rfl, run_takeDeferred HD2.out, ?_⟩⟩
        refine ⟨_, results_tmp2 rfl _ _ _, ?_⟩
        have hTp : Turns (fun k => k = wL.heap.size) W (W.putObj wL.heap.size (.deferred none)) := Turns.putObj (own := fun k => k = wL.heap.size) W rfl (.deferred none)
        have hrowp := hTp.row H2.out (fun k hk => by simp [Value.ownBlock] at hk; omega)
        refine ⟨⟨.slice (some ⟨og, 0, none⟩) (Q.length + 1) oc, rfl, ?_⟩, HWB.out.trans (hTp.below HWB.out.size (fun k hk => by omega))⟩
        rw [show ((nn : Int)).toNat = nn from Int.toNat_natCast nn, HCL.out, if_neg h0, List.append_nil]
        exact ints_vals hrowp (by simp)
end Go.Proofs.YtbpcipobdokcfaaGreatDoor

/- CUTS, JOINED; CUTS THAT ARE MOVED; what the laws cut of their arguments. -/
namespace Go.Proofs.YtbpcipobdokcfaaGreatDoor
open Go.RowKit Go.Shelf
attribute [local go_sem] Oper.semAt_some

theorem cuts_any (A : Nat → Addr) (B : Nat) (rv : Value) (R : List D.Rule) (mv : Value) (M : D.Mach) (n : Int) (lv : Value) (L : List Int) (w : World) (hR : RulesAt w rv R) (hf : ∀ x ∈ R, ruleFit x) (hRz : R.length ≤ 16777216) (hM : MachAt w mv M) (hMf : MachFit M) (hL : IntsAt w lv L) (hLz : L.length ≤ 900) (hD : Ed A B w) (hE : Eg A B w) (hB : B ≤ w.heap.size) :
    Calls Tryz.prog 14 #[rv, mv, .int .i64 n, lv] w (cutsPost R M n L w) := by
  cases h : areC R M n with
  | true =>
    refine (cuts_yes A B rv R mv M n lv L w hR hf hRz hM hMf hL hLz hD hE hB h).mono ?_
    rintro e w' ⟨h1, h2⟩
    exact ⟨h2, .inl ⟨h, h1⟩⟩
  | false =>
    refine (cuts_no A B rv R mv M n lv L w hR hf hRz hM hMf hL hLz hD hE hB h).mono ?_
    rintro e w' ⟨h1, h2⟩
    exact ⟨h2, .inr ⟨h, h1⟩⟩

def shiftC (cs : List Int) (b : Int) : List Int := cs.map fun c => wrap64 (c + b)

set_option maxHeartbeats 4000000 in
theorem shift_any (v : Value) (cs : List Int) (b : Int) (w : World) (hv : IntsAt w v cs) (hz : cs.length ≤ 1000000) :
    Calls Tryz.prog 25 #[v, .int .i64 b] w fun e w' => (∃ v', e = .returned v' ∧ IntsAt w' v' (shiftC cs b)) ∧ Below w.heap.size w w' := by
  have HV := Box.mk hv
  obtain ⟨ao, cap, rfl⟩ := hv.slice
  have HS0 := Box.mk (show Sep [Pc.row w.heap.size 3 1 (.slice none 0 0) 0 (((shiftC cs b).take 0).map (Value.int .i64)), Pc.old w.heap.size w] w from (Sep.start w).nil_row w.heap.size 1 3)
  clear hv
  go_enter Tryz.func25, Tryz.ntmps25
  go_wp2_with fail
  go_loopw [5, 10] (fun o i wr => ∃ k : Nat, k ≤ cs.length ∧ i = .int .i64 k ∧ Box (Sep [Pc.row w.heap.size 3 1 o k (((shiftC cs b).take k).map (Value.int .i64)), Pc.old w.heap.size w] wr)) (fun _ i _ => cs.length - (intOf i).toNat)
  case atStart => exact ⟨0, by omega, rfl, HS0⟩
  case round =>
    obtain ⟨k, hk, rfl, hsep⟩ := hrel
    have HBR := Box.mk (show Below w.heap.size w wr from hsep.out.bel (by simp))
    obtain ⟨oo, oc, rfl, ho1, ho2⟩ := own_shape (hsep.out.row 0 rfl)
    by_cases hlt : k < cs.length
    · obtain ⟨c, hc⟩ : ∃ c, cs[k]? = some c := ⟨_, List.getElem?_eq_getElem hlt⟩
      obtain ⟨g, off, cap2, hg1, hg2, hg3, hg4, hg5⟩ := (HV.out.below HBR.out).get (by rintro rfl; simp at hlt)
      obtain ⟨rfl, rfl⟩ : ao = some ⟨g, off, none⟩ ∧ cap = cap2 := by injection hg1 with h1 h2 h3; exact ⟨h1, h3⟩
      have hcx := hg5 k c hc
      have HTK := Box.mk (show (shiftC cs b).take (k + 1) = (shiftC cs b).take k ++ [wrap64 (c + b)] by
        rw [List.take_add_one]; congr 1; unfold shiftC; rw [List.getElem?_map, hc]; rfl)
      have hbs : w.heap.size ≤ wr.heap.size := HBR.out.size
      unfold maxLen at hg3
      clear hc hg1 hg5
      go_wp2_with (at_builtin; refine wpList_push rfl _ _ 27 rfl pushInt hsep.out 0 rfl rfl rfl rfl (by omega) (by omega) hbs ?_; rintro v' w4 hS4 -)
      have HS4 := Box.mk (show Sep [Pc.row w.heap.size 3 1 v' (k + 1) (((shiftC cs b).take (k + 1)).map (Value.int .i64)), Pc.old w.heap.size w] w4 by
        rw [HTK.out, List.map_append]; exact hS4)
      clear hS4
      go_wp2_with fail
      go_roundw
      case rel => exact ⟨k + 1, hlt, by go_num, HS4⟩
      case measure => simp [intOf]; omega
    · have hkl : k = cs.length := by omega
      have HO := Box.mk (show IntsAt wr (.slice oo k oc) (shiftC cs b) by
        have h := hsep.out.row 0 rfl
        have hl : (shiftC cs b).length = k := by unfold shiftC; rw [List.length_map, hkl]
        rw [List.take_of_length_le (by omega)] at h
        exact IntsAt.of_own h hl.symm)
      clear hkl
      go_wp2_with fail
      go_ret
      exact ⟨⟨_, rfl, HO.out⟩, HBR.out⟩

theorem list13_any (v : Value) (l : List Int) (w : World) (hv : IntsAt w v l) :
    Calls Tryz.prog 13 #[v] w fun e w' => (∃ v', e = .returned v' ∧ IntsAt w v' (list12 l)) ∧ w = w' := by
  obtain ⟨ao, cap, rfl⟩ := hv.slice
  obtain ⟨hc1, hc2⟩ := ints_cap hv
  have HT := Box.mk (ints_take hv 30)
  clear hv
  unfold list12
  rcases Nat.lt_or_ge 30 l.length with h | h
  · go_enter Tryz.func13, Tryz.ntmps13
    go_wp2_with fail
    go_ret
    refine ⟨⟨_, rfl, ?_⟩, rfl⟩
    have := HT.out
    rw [show (l.take 30).length = 30 by rw [List.length_take]; omega] at this
    show IntsAt w (.slice ao (min (l.length : Int) 30).toNat cap) _
    rw [show (min (l.length : Int) 30).toNat = 30 by omega]
    exact this
  · go_enter Tryz.func13, Tryz.ntmps13
    go_wp2_with fail
    go_ret
    refine ⟨⟨_, rfl, ?_⟩, rfl⟩
    have := HT.out
    rw [List.take_of_length_le h] at this ⊢
    show IntsAt w (.slice ao (min (l.length : Int) 30).toNat cap) _
    rw [show (min (l.length : Int) 30).toNat = l.length by omega]
    exact this

set_option maxHeartbeats 2000000 in
theorem few13_any (v : Value) (l : List D.Rule) (w : World) (hv : RulesAt w v l) :
    Calls Tryz.prog 11 #[v] w fun e w' => Below w.heap.size w w' ∧ ∃ v', e = .returned v' ∧ RulesAt w' v' (few12 l) := by
  have HF := Box.mk (few11_any v l w hv)
  obtain ⟨ao, cap, rfl⟩ := hv.slice
  clear hv
  go_enter Tryz.func11, Tryz.ntmps11
  go_wp2_with fail
  refine HF.out.mono ?_; rintro e w1 ⟨hb, v1, rfl, L, hL, hV, hown⟩
  have hra : RulesAt w1 v1 (few11 l) := by
    rw [← hL]
    exact rules_own hown rfl (fun y hy => ⟨(hV y hy).1.below hb, (hV y hy).2.below hb⟩)
  have HB := Box.mk hb
  obtain ⟨oo, oc, rfl, ho1, ho2⟩ := own_shape hown
  have HLL := Box.mk (show L.length = (few11 l).length by rw [← hL, List.length_map])
  rw [HLL.out] at ho1 hra ⊢
  have HR := Box.mk hra
  clear hb hV hown hL hra
  generalize hn : (few11 l).length = n at *
  have HN := Box.mk hn
  have HT := Box.mk (show ∀ q : Nat, q = (few12 l).length → RulesAt w1 (.slice oo q oc) (few12 l) from fun q hq => by
    have h := HR.out
    rw [← hn] at h ho1
    have hl := h.take 6 (cap' := oc) (by rw [List.length_take]; omega) (Nat.le_refl _)
    rw [hq]
    exact hl)
  have HQ := Box.mk (show (few12 l).length = min 6 n by unfold few12; rw [List.length_take, hn])
  clear hn HLL
  rcases Nat.lt_or_ge 6 n with h6 | h6
  · go_wp2_with fail
    go_ret
    refine ⟨HB.out, _, rfl, ?_⟩
    show RulesAt w1 (.slice oo (min (n : Int) 6).toNat oc) _
    exact HT.out _ (by rw [HQ.out]; omega)
  · go_wp2_with fail
    go_ret
    refine ⟨HB.out, _, rfl, ?_⟩
    show RulesAt w1 (.slice oo (min (n : Int) 6).toNat oc) _
    exact HT.out _ (by rw [HQ.out]; omega)
end Go.Proofs.YtbpcipobdokcfaaGreatDoor

/- ARE CUTS KNOWN? The laws' shown of layer 13. -/
namespace Go.Proofs.YtbpcipobdokcfaaGreatDoor
open Go.RowKit Go.Shelf
attribute [local go_sem] Oper.semAt_some

theorem yes13_a : areC [one12] M012 2 = true := by decide +kernel
theorem yes13_b : cutsL [one12] M012 (2 : Int).toNat [0, 1, 1, 0] = [0, 2, 3, 4] := by decide +kernel
theorem yes13_c : partC [0, 2, 3, 4] 1 = (0, 0) := by decide +kernel
theorem yes13_d : nextC [0, 2, 3, 4] 0 = (2, 0) := by decide +kernel
theorem yes13_e : backC [0, 2, 3, 4] 3 = (2, 0) := by decide +kernel
theorem yes13_f : nextC [0, 2, 3, 4] 4 = (0, 110) := by decide +kernel
/-- the errors of this layer, and the world that they lie in -/
structure Sg (A : Nat → Addr) (B : Nat) (w : World) : Prop where
  d : Ed A B w
  g : Eg A B w
  le : B ≤ w.heap.size
theorem Sg.below {A : Nat → Addr} {B : Nat} {w w' : World} (h : Sg A B w) (hb : Below w.heap.size w w') : Sg A B w' := ⟨h.d.below (hb.mono h.le), h.g.below (hb.mono h.le), Nat.le_trans h.le hb.size⟩

set_option maxRecDepth 100000 in
set_option maxHeartbeats 8000000 in
theorem shown13_any (A : Nat → Addr) (B : Nat) (w : World) (hS : Sg A B w) :
    Calls Tryz.prog 10 #[] w fun e w' => e = .returned (.bool true) ∧ Below w.heap.size w w' := by
  have HS := Box.mk hS
  clear hS
  obtain ⟨V1, hV1⟩ : ∃ V1, V1 = w.alloc (.cells #[.int .i64 1, .int .i64 0] 52) := ⟨_, rfl⟩
  obtain ⟨V2, hV2⟩ : ∃ V2, V2 = V1.alloc (.cells #[.int .i64 2, .int .i64 0] 52) := ⟨_, rfl⟩
  obtain ⟨V3, hV3⟩ : ∃ V3, V3 = V2.alloc (.cells #[.bool false, .slice (some ⟨w.heap.size, 0, none⟩) 1 1, .bool false, .slice (some ⟨w.heap.size + 1, 0, none⟩) 1 1, .bool false] 44) := ⟨_, rfl⟩
  have s1 : V1.heap.size = w.heap.size + 1 := by rw [hV1]; simp
  have s2 : V2.heap.size = w.heap.size + 1 + 1 := by rw [hV2]; simp [s1]
  have b1 : Below w.heap.size w V1 := by rw [hV1]; exact alloc_below _ _
  have b2 : Below V1.heap.size V1 V2 := by rw [hV2]; exact alloc_below _ _
  have b3 : Below V2.heap.size V2 V3 := by rw [hV3]; exact alloc_below _ _
  have i1 : ItemsAt V2 (.slice (some ⟨w.heap.size, 0, none⟩) 1 1) [(1, 0)] := by
    have h := items_one w 1 52
    rw [← hV1] at h
    exact h.below b2
  have i2 : ItemsAt V2 (.slice (some ⟨w.heap.size + 1, 0, none⟩) 1 1) [(2, 0)] := by
    have h := items_one V1 2 52
    rw [← hV2, s1] at h
    exact h
  have HR3 := Box.mk (show RulesAt V3 (.slice (some ⟨w.heap.size + 1 + 1, 0, none⟩) 1 1) [one12] by
    have h := rules_one (x := one12) i1 i2 44
    rw [s2] at h
    rw [hV3]
    exact h)
  have HB3 := Box.mk (below_tr b1 (below_tr b2 b3))
  have HC3 := Box.mk (compile12_any _ [one12] 2 V3 rule12 HR3.out (by simp))
  have HVV := Box.mk (show V3 = ((w.alloc (.cells #[.int .i64 1, .int .i64 0] 52)).alloc (.cells #[.int .i64 2, .int .i64 0] 52)).alloc (.cells #[.bool false, .slice (some ⟨w.heap.size, 0, none⟩) 1 1, .bool false, .slice (some ⟨w.heap.size + 1, 0, none⟩) 1 1, .bool false] 44) by rw [hV3, hV2, hV1])
  clear hV1 hV2 hV3 s1 s2 b1 b2 b3 i1 i2
  go_enter Tryz.func10, Tryz.ntmps10
  go_wp2_with fail
  rw [← HVV.out]
  refine HC3.out.mono ?_; rintro e w2 ⟨hb2, mv, rfl, hm⟩
  rw [code12_a.1]
  rw [code12_a.2] at hm
  have HM2 := Box.mk hm
  obtain ⟨NV0, FV0, rfl, hra, hia⟩ := hm
  obtain ⟨na, nc, rfl⟩ : ∃ na nc, NV0 = .slice na 2 nc := hra.slice
  obtain ⟨fa, fc, rfl⟩ : ∃ fa fc, FV0 = .slice fa 2 fc := hia.slice
  clear hra hia
  have HB2 := Box.mk (below_tr HB3.out hb2)
  have HR2 := Box.mk (HR3.out.below hb2)
  obtain ⟨V4, hV4⟩ : ∃ V4, V4 = w2.alloc (.cells #[.slice na 2 nc, .slice fa 2 fc] 26) := ⟨_, rfl⟩
  have k4 : Below w2.heap.size w2 V4 := by rw [hV4]; exact alloc_below _ _
  have s4 : V4.heap.size = w2.heap.size + 1 := by rw [hV4]; simp
  obtain ⟨V5, hV5⟩ : ∃ V5, V5 = V4.alloc (.cells #[.int .i64 0, .int .i64 1, .int .i64 1, .int .i64 0] 3) := ⟨_, rfl⟩
  have k5 : Below V4.heap.size V4 V5 := by rw [hV5]; exact alloc_below _ _
  have HI5 := Box.mk (show IntsAt V5 (.slice (some ⟨w2.heap.size + 1, 0, none⟩) 4 4) [0, 1, 1, 0] by rw [hV5, ← s4]; exact ints_lit V4 [0, 1, 1, 0] 3 4 rfl (by omega) _ rfl)
  have k25 := below_tr k4 k5
  have HB5 := Box.mk (below_tr HB2.out k25)
  have HC5 := Box.mk (cuts_any A B _ [one12] _ M012 2 _ [0, 1, 1, 0] V5 (HR2.out.below k25) rule12 (by simp) (HM2.out.below k25) fit12 HI5.out (by simp) (HS.out.below HB5.out).d (HS.out.below HB5.out).g (HS.out.below HB5.out).le)
  have HVV5 := Box.mk (show V5 = (w2.alloc (.cells #[.slice na 2 nc, .slice fa 2 fc] 26)).alloc (.cells #[.int .i64 0, .int .i64 1, .int .i64 1, .int .i64 0] 3) by rw [hV5, hV4])
  clear hb2 hV4 hV5 k4 s4 k5 k25
  go_wp2_with fail
  rw [← HVV5.out]
  refine HC5.out.mono ?_; rintro e w3 ⟨hb3, ⟨-, cv, rfl, hc⟩ | ⟨hno, -⟩⟩
  rotate_left
  · rw [yes13_a] at hno; cases hno
  rw [yes13_b] at hc
  obtain ⟨co, cc, rfl⟩ : ∃ co cc, cv = .slice co 4 cc := hc.slice
  have HC := Box.mk hc
  have HB6 := Box.mk (below_tr HB5.out hb3)
  have HP := Box.mk (fun W (h : Below w3.heap.size w3 W) => yes13_c ▸ sPart_any A B _ [0, 2, 3, 4] 1 W (hc.below h) (by simp) (HS.out.below (below_tr HB6.out h)).g (HS.out.below (below_tr HB6.out h)).le)
  have HN := Box.mk (fun W (h : Below w3.heap.size w3 W) => yes13_d ▸ sNext_any A B _ [0, 2, 3, 4] 0 W (hc.below h) (by simp) (HS.out.below (below_tr HB6.out h)).g (HS.out.below (below_tr HB6.out h)).le)
  have HBK := Box.mk (fun W (h : Below w3.heap.size w3 W) => yes13_e ▸ sBack_any A B _ [0, 2, 3, 4] 3 W (hc.below h) (by simp) (HS.out.below (below_tr HB6.out h)).g (HS.out.below (below_tr HB6.out h)).le (by omega))
  have HNO := Box.mk (fun W (h : Below w3.heap.size w3 W) => yes13_f ▸ sNext_any A B _ [0, 2, 3, 4] 4 W (hc.below h) (by simp) (HS.out.below (below_tr HB6.out h)).g (HS.out.below (below_tr HB6.out h)).le)
  clear hb3 hc
  go_wp2_with fail
  refine (HP.out w3 (Below.refl _ _)).mono ?_; rintro e w4 ⟨rfl, hb4⟩
  have HB4 := Box.mk hb4
  clear hb4
  unfold twoV
  go_wp2_with fail
  refine (HN.out w4 HB4.out).mono ?_; rintro e w5 ⟨rfl, hb5⟩
  have HB45 := Box.mk (below_tr HB4.out hb5)
  clear hb5
  unfold twoV
  go_wp2_with fail
  refine (HBK.out w5 HB45.out).mono ?_; rintro e w6 ⟨rfl, hb6⟩
  have HB46 := Box.mk (below_tr HB45.out hb6)
  clear hb6
  unfold twoV
  go_wp2_with fail
  refine (HNO.out w6 HB46.out).mono ?_; rintro e w7 ⟨rfl, hb7⟩
  have HB47 := Box.mk (below_tr HB46.out hb7)
  clear hb7
  unfold twoV
  obtain ⟨V8, hV8⟩ : ∃ V8, V8 = w7.alloc (.cells #[.int .i64 0, .int .i64 2, .int .i64 3, .int .i64 4] 3) := ⟨_, rfl⟩
  have k8 : Below w7.heap.size w7 V8 := by rw [hV8]; exact alloc_below _ _
  have HI8 := Box.mk (show IntsAt V8 (.slice (some ⟨w7.heap.size, 0, none⟩) 4 4) [0, 2, 3, 4] by rw [hV8]; exact ints_lit w7 [0, 2, 3, 4] 3 4 rfl (by omega) _ rfl)
  have HB48 := Box.mk (below_tr HB47.out k8)
  have HEQ := Box.mk (yes_of (ints_eq (.slice co 4 cc) (.slice (some ⟨w7.heap.size, 0, none⟩) 4 4) [0, 2, 3, 4] [0, 2, 3, 4] V8 (HC.out.below HB48.out) HI8.out (by simp) (by simp)) rfl)
  have HVV8 := Box.mk hV8
  clear hV8 k8
  go_wp2_with fail
  rw [← HVV8.out]
  refine HEQ.out.mono ?_; rintro e w8 ⟨rfl, hb8⟩
  have HB8 := Box.mk (below_tr HB6.out (below_tr HB48.out hb8))
  clear hb8
  go_wp2_with fail
  go_ret
  exact ⟨rfl, HB8.out⟩
end Go.Proofs.YtbpcipobdokcfaaGreatDoor
