/-
  THE WALKS OF package scalar: a row's tests; the reader's steps; Decode.
-/
import Derived.Test.YtbagecjkfcoapaaDoorScRow
import Derived.Test.YtbagecjkfcoapaaDoorEnv
namespace Go.Proofs.YtbagecjkfcoapaaDoor
open Go.RowKit
attribute [local go_sem] run_store_float run_store_complex

theorem lo_zero (c : Int) : U.rowLo c = 0 ↔ U.rowN c < 0 := by unfold U.rowLo; repeat' (first | omega | split)
theorem hi_zero (c : Int) : U.rowHi c = 0 ↔ U.rowN c < 0 := by unfold U.rowHi; repeat' (first | omega | split)
theorem eq_complex {P : Program} {T : TypeId} (hT : P.underlying T = some (.complex .f64)) (a b x y : Nat) (W : World) (d : Nat) :
    (Op.equalIn (d + 1) T (.complex .f64 a b) (.complex .f64 x y)).run P W = .ok ((FloatKind.f64.format.order a x == some .eq) && (FloatKind.f64.format.order b y == some .eq)) W := by
  simp [Op.equalIn, run_underlying hT, Op.floatEq]
theorem eq_ends (c : Int) (W : World) :
    (Op.equalIn 9999 40 (.complex .f64 (fbits (U.rowLo c)) (fbits (U.rowHi c))) (.complex .f64 0 0)).run Tryd.prog W = .ok (decide (U.rowN c < 0)) W := by
  rw [eq_complex (d := 9998) Tryd.underlying40, ends_zero _ (lo_mem c), ends_zero _ (hi_mem c)]
  congr 1
  rw [Bool.eq_iff_iff]; simp [lo_zero, hi_zero]

set_option maxRecDepth 100000 in
set_option maxHeartbeats 1000000 in
theorem isRow_any (c : Int) (w : World) :
    Calls Tryd.prog 51 #[rowV c] w fun e w' => e = .returned (.bool (decide (0 ≤ U.rowN c))) ∧ Below w.heap.size w w' := by
  unfold rowV
  have he := eq_ends c
  have hm : ¬ U.rowM c = 0 → 0 ≤ U.rowN c := by unfold U.rowM; repeat' (first | omega | split)
  have hn : ¬ rowNN c = 0 → 0 ≤ U.rowN c := by unfold rowNN; repeat' (first | omega | split)
  have HM := Box.mk hm
  have HN := Box.mk hn
  clear hm hn
  go_enter Tryd.func51, Tryd.ntmps51
  go_wp2
  all_goals go_returns
  all_goals
    have a1 := HM.out
    have a2 := HN.out
    exact ⟨ret_bool (by first | (rw [eq_comm, decide_eq_true_eq]; omega) | (rw [eq_comm, decide_eq_false_iff_not]; omega)), ((Below.refl _ _).alloc (Nat.le_refl _) _).alloc (by simp) _⟩

set_option maxRecDepth 100000 in
set_option maxHeartbeats 1000000 in
theorem isSecond_any (c d : Int) (h0 : 0 ≤ d) (h1 : d < 256) (w : World) :
    Calls Tryd.prog 52 #[rowV c, .int .u8 d] w fun e w' => e = .returned (.bool (decide (U.rowLo c ≤ d) && decide (d ≤ U.rowHi c))) ∧ Below w.heap.size w w' := by
  unfold rowV
  have e1 := ends_ge ⟨d.toNat, by omega⟩ _ (lo_mem c)
  have e2 := ends_le ⟨d.toNat, by omega⟩ _ (hi_mem c)
  have e3 : ((d.toNat : Nat) : Int) = d := by omega
  simp only [e3] at e1 e2
  have hf : floatOfInt FloatKind.f64 d = FloatKind.f64.nearest d := rfl
  clear e3
  go_enter Tryd.func52, Tryd.ntmps52
  go_wp2
  all_goals go_returns
  all_goals exact ⟨ret_bool (by first | (simp [*]; done) | (simp; omega)), (Below.refl _ _).alloc (Nat.le_refl _) _⟩

/- WHAT IS TOLD OF AN ERROR. -/
set_option maxHeartbeats 400000 in
theorem told_nil (A : Nat → Addr) (B : Nat) (w : World) (hE : E A B w) :
    Calls Tryd.prog 38 #[.nilIface] w fun e w' => e = .returned (.int .i64 0) ∧ w = w' := by
  have c0 := hE.cell 1 (by decide)
  have c1 := hE.cell 2 (by decide)
  go_enter Tryd.func38, Tryd.ntmps38
  go_wp2_with fail
  refine (is_nil _ _).mono ?_; rintro e w' ⟨rfl, rfl⟩
  go_wp2_with fail
  refine (is_nil _ _).mono ?_; rintro e w' ⟨rfl, rfl⟩
  go_wp2
  go_ret
  exact ⟨rfl, rfl⟩
set_option maxHeartbeats 400000 in
theorem told_scalar (A : Nat → Addr) (B : Nat) (w : World) (hE : E A B w) :
    Calls Tryd.prog 38 #[errV A 1] w fun e w' => e = .returned (.int .i64 10) ∧ w = w' := by
  have c0 := hE.cell 1 (by decide)
  have c1 := hE.cell 2 (by decide)
  unfold errV
  go_enter Tryd.func38, Tryd.ntmps38
  go_wp2_with fail
  refine (is_same _ _).mono ?_; rintro e w' ⟨rfl, rfl⟩
  go_wp2
  go_ret
  exact ⟨rfl, rfl⟩
set_option maxHeartbeats 400000 in
theorem told_utf (A : Nat → Addr) (B : Nat) (w : World) (hE : E A B w) :
    Calls Tryd.prog 38 #[errV A 2] w fun e w' => e = .returned (.int .i64 11) ∧ w = w' := by
  have c0 := hE.cell 1 (by decide)
  have c1 := hE.cell 2 (by decide)
  have H := Box.mk (is_sents hE 2 1 (by decide) (by decide))
  unfold errV
  go_enter Tryd.func38, Tryd.ntmps38
  go_wp2_with fail
  refine H.out.mono ?_; rintro e w' ⟨rfl, rfl⟩
  go_wp2_with fail
  refine (is_same _ _).mono ?_; rintro e w' ⟨rfl, rfl⟩
  go_wp2
  go_ret
  exact ⟨rfl, rfl⟩

/- THE READER. -/
set_option maxHeartbeats 400000 in
theorem take_any (b o : Nat) (s : ByteArray) (n : Nat) (w : World) (hn : n ≤ s.size) (hs : s.size ≤ maxLen) (hc : w.cell? ⟨b, o, none⟩ = some (.string s)) (hf : w.frozen? ⟨b, o, none⟩ = false) :
    Calls Tryd.prog 53 #[.pointer (some ⟨b, o, none⟩), .int .i64 (n : Int)] w fun e w' => e = .returned (.string (s.extract 0 n)) ∧ w.setCell ⟨b, o, none⟩ (.string (s.extract n s.size)) = w' := by
  unfold maxLen at hs
  go_enter Tryd.func53, Tryd.ntmps53
  go_wp2
  all_goals go_ways
  go_ret
  exact ⟨rfl, rfl⟩
end Go.Proofs.YtbagecjkfcoapaaDoor
