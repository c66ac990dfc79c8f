/-
  SETS OF CLASSES AND OF STATES, BIT BY BIT: the leaves that layers 8 and 10, and the document's, reckon with.
-/
import Derived.Test.YtonpgokgbaemfaaDoorEnv
import Derived.Test.YtonpgokgbaemfaaDoorNfaP
namespace Go.Proofs.YtonpgokgbaemfaaDoor
open Go.RowKit

def setB (set : Int) : Bool := decide (0 ≤ set) && decide (set < 4294967296)

theorem pow_le (k : Nat) (h : k ≤ 40) : (2 : Int) ^ k ≤ 1099511627776 := by
  have h2 : 2 ^ k ≤ 2 ^ 40 := Nat.pow_le_pow_right (by omega) h
  rw [show (2 : Int) ^ k = ((2 ^ k : Nat) : Int) by simp]
  omega
theorem bit_any (n : Nat) (w : World) (hn : n ≤ 40) :
    Calls Tryd.prog 36 #[.int .i64 n] w fun e w' => e = .returned (.int .i64 ((2 ^ n : Nat) : Int)) ∧ w = w' := by
  go_enter Tryd.func36, Tryd.ntmps36
  go_wp2
  go_loop [4, 3] (fun i o => ∃ (k : Nat) (x : Int), k ≤ n ∧ i = .int .i64 k ∧ o = .int .i64 x ∧ 0 ≤ x ∧ x ≤ 1099511627776 ∧ Box (x = 2 ^ k)) (fun i _ => n - (intOf i).toNat)
  case atStart => exact ⟨0, 1, by omega, rfl, rfl, by omega, by omega, ⟨rfl⟩⟩
  case round =>
    obtain ⟨k, x, hk, rfl, rfl, hx0, hx1, hx⟩ := hrel
    by_cases hlt : k < n
    · have h2 := pow_le (k + 1) (by omega)
      have HX := Box.mk (show 2 * x = 2 ^ (k + 1) by rw [hx.out, Int.pow_succ]; omega)
      have HY := Box.mk (show 2 * x ≤ 1099511627776 by rw [HX.out]; exact h2)
      clear h2
      go_wp2
      go_round
      case rel => exact ⟨k + 1, 2 * x, hlt, by go_num, rfl, by omega, HY.out, HX⟩
      case measure => simp [intOf]; omega
    · obtain rfl : k = n := by omega
      go_wp2
      go_ret
      exact ⟨by rw [hx.out]; simp, rfl⟩
theorem worth_any (n : Nat) (w : World) (hn : n ≤ 40) :
    Calls Tryd.prog 52 #[.int .i64 n] w fun e w' => e = .returned (.int .i64 ((2 ^ n : Nat) : Int)) ∧ w = w' := by
  go_enter Tryd.func52, Tryd.ntmps52
  go_wp2
  go_loop [4, 3] (fun i o => ∃ (k : Nat) (x : Int), k ≤ n ∧ i = .int .i64 k ∧ o = .int .i64 x ∧ 0 ≤ x ∧ x ≤ 1099511627776 ∧ Box (x = 2 ^ k)) (fun i _ => n - (intOf i).toNat)
  case atStart => exact ⟨0, 1, by omega, rfl, rfl, by omega, by omega, ⟨rfl⟩⟩
  case round =>
    obtain ⟨k, x, hk, rfl, rfl, hx0, hx1, hx⟩ := hrel
    by_cases hlt : k < n
    · have h2 := pow_le (k + 1) (by omega)
      have HX := Box.mk (show 2 * x = 2 ^ (k + 1) by rw [hx.out, Int.pow_succ]; omega)
      have HY := Box.mk (show 2 * x ≤ 1099511627776 by rw [HX.out]; exact h2)
      clear h2
      go_wp2
      go_round
      case rel => exact ⟨k + 1, 2 * x, hlt, by go_num, rfl, by omega, HY.out, HX⟩
      case measure => simp [intOf]; omega
    · obtain rfl : k = n := by omega
      go_wp2
      go_ret
      exact ⟨by rw [hx.out]; simp, rfl⟩

theorem cright_any (set : Int) (w : World) :
    Calls Tryd.prog 46 #[.int .i64 set, .int .i64 32] w fun e w' => e = .returned (.bool (setB set)) ∧ w = w' := by
  unfold setB
  by_cases h0 : 0 ≤ set
  · go_enter Tryd.func46, Tryd.ntmps46
    go_wp2
    all_goals go_ret
    all_goals refine ⟨ret_bool ?_, rfl⟩
    all_goals (rw [Bool.eq_iff_iff]; simp; omega)
  · go_enter Tryd.func46, Tryd.ntmps46
    go_wp2
    go_ret
    exact ⟨ret_bool (by simp; omega), rfl⟩
theorem and_1 (x : Int) (h0 : 0 ≤ x) (h1 : x < 9223372036854775808) : bits .and .i64 x 1 = x % 2 := by
  obtain ⟨k, rfl⟩ := Int.eq_ofNat_of_zero_le h0
  have := i64_and_nat k 1 (by omega) (by omega)
  rw [show ((1 : Nat) : Int) = 1 from rfl] at this
  rw [this, Nat.and_one_is_mod]
  omega
theorem test_bit (S n : Nat) (h : S < 9223372036854775808) : (bits .and .i64 ((S : Int) / 2 ^ n) 1 == 1) = S.testBit n := by
  have hd : (S : Int) / 2 ^ n = ((S / 2 ^ n : Nat) : Int) := by simp
  have hle : S / 2 ^ n ≤ S := Nat.div_le_self _ _
  rw [hd, Nat.testBit_eq_decide_div_mod_eq]
  generalize S / 2 ^ n = z at hle
  rw [and_1 _ (by omega) (by omega), Bool.eq_iff_iff]
  simp only [beq_iff_eq, decide_eq_true_eq]
  omega
theorem chas_any (set n : Int) (w : World) : Calls Tryd.prog 51 #[.int .i64 set, .int .i64 n] w fun e w' => e = .returned (.bool (N.hasC set n)) ∧ w = w' := by
  unfold N.hasC
  by_cases hs : setB set = true
  · have HS := Box.mk hs
    unfold setB at hs
    simp only [Bool.and_eq_true, decide_eq_true_eq] at hs
    obtain ⟨h0, h1⟩ := hs
    by_cases hn : 0 ≤ n ∧ n < 32
    · obtain ⟨h2, h3⟩ := hn
      go_enter Tryd.func51, Tryd.ntmps51
      go_wp2_with fail
      refine (cright_any set _).mono ?_; rintro e w1 ⟨rfl, rfl⟩; rw [HS.out]
      go_wp2_with fail
      go_ret
      refine ⟨ret_bool ?_, rfl⟩
      obtain ⟨S, rfl⟩ := Int.eq_ofNat_of_zero_le h0
      rw [test_bit S _ (by omega)]
      simp [h1, h2, h3]
    · have hn' : n < 0 ∨ (0 ≤ n ∧ 32 ≤ n) := by omega
      rcases hn' with h | ⟨h, h'⟩
      all_goals
        go_enter Tryd.func51, Tryd.ntmps51
        go_wp2_with fail
        refine (cright_any set _).mono ?_; rintro e w1 ⟨rfl, rfl⟩; rw [HS.out]
        go_wp2_with fail
        go_ret
        refine ⟨ret_bool ?_, rfl⟩
        simp
        omega
  · have HS := Box.mk (show setB set = false by simpa using hs)
    go_enter Tryd.func51, Tryd.ntmps51
    go_wp2_with fail
    refine (cright_any set _).mono ?_; rintro e w1 ⟨rfl, rfl⟩; rw [HS.out]
    go_wp2_with fail
    go_ret
    refine ⟨ret_bool ?_, rfl⟩
    have := HS.out
    unfold setB at this
    rw [this]; rfl

theorem rcright_any (set : Int) (w : World) :
    Calls Tryd.prog 44 #[.int .i64 set, .int .i64 32] w fun e w' => e = .returned (.bool (setB set)) ∧ w = w' := by
  unfold setB
  by_cases h0 : 0 ≤ set
  · go_enter Tryd.func44, Tryd.ntmps44
    go_wp2_with fail
    refine (worth_any 32 _ (by omega)).mono ?_; rintro e w1 ⟨rfl, rfl⟩
    go_wp2_with fail
    go_ret
    refine ⟨ret_bool ?_, rfl⟩
    rw [Bool.eq_iff_iff]; simp; omega
  · go_enter Tryd.func44, Tryd.ntmps44
    go_wp2_with fail
    go_ret
    exact ⟨ret_bool (by simp; omega), rfl⟩
theorem div_bit (S n : Nat) : ((S : Int) / ((2 ^ n : Nat) : Int) % 2 == 1) = S.testBit n := by
  have hd : (S : Int) / ((2 ^ n : Nat) : Int) = ((S / 2 ^ n : Nat) : Int) := by simp
  rw [hd, Nat.testBit_eq_decide_div_mod_eq, Bool.eq_iff_iff]
  generalize S / 2 ^ n = z
  simp only [beq_iff_eq, decide_eq_true_eq]
  omega
theorem div_le (S q : Nat) : 0 ≤ (S : Int) / (q : Int) ∧ (S : Int) / (q : Int) ≤ S := by
  have h := Nat.div_le_self S q
  rw [show (S : Int) / (q : Int) = ((S / q : Nat) : Int) by simp]
  exact ⟨Int.natCast_nonneg _, by exact_mod_cast h⟩
theorem rchas_any (set n : Int) (w : World) : Calls Tryd.prog 43 #[.int .i64 set, .int .i64 n] w fun e w' => e = .returned (.bool (N.hasC set n)) ∧ w = w' := by
  unfold N.hasC
  by_cases hs : setB set = true
  · have HS := Box.mk hs
    unfold setB at hs
    simp only [Bool.and_eq_true, decide_eq_true_eq] at hs
    obtain ⟨h0, h1⟩ := hs
    by_cases hn : 0 ≤ n ∧ n < 32
    · obtain ⟨h2, h3⟩ := hn
      obtain ⟨m, rfl⟩ := Int.eq_ofNat_of_zero_le h2
      have hp : 0 < 2 ^ m := Nat.two_pow_pos m
      obtain ⟨q, hq⟩ : ∃ q, 2 ^ m = q := ⟨_, rfl⟩
      have hq0 : 0 < q := by rw [← hq]; exact hp
      have HQ := Box.mk hq
      obtain ⟨S, rfl⟩ := Int.eq_ofNat_of_zero_le h0
      obtain ⟨d0, d1⟩ := div_le S q
      have d2 : (S : Int) / (q : Int) < 4294967296 := by omega
      clear hq hp
      go_enter Tryd.func43, Tryd.ntmps43
      go_wp2_with fail
      refine (rcright_any S _).mono ?_; rintro e w1 ⟨rfl, rfl⟩; rw [HS.out]
      go_wp2_with fail
      refine (worth_any m _ (by omega)).mono ?_; rintro e w1 ⟨rfl, rfl⟩; rw [HQ.out]
      go_wp2_with fail
      go_ret
      refine ⟨ret_bool ?_, rfl⟩
      rw [← HQ.out, div_bit]
      simp [h1, h3]
    · have hn' : n < 0 ∨ (0 ≤ n ∧ 32 ≤ n) := by omega
      rcases hn' with h | ⟨h, h'⟩
      all_goals
        go_enter Tryd.func43, Tryd.ntmps43
        go_wp2_with fail
        refine (rcright_any set _).mono ?_; rintro e w1 ⟨rfl, rfl⟩; rw [HS.out]
        go_wp2_with fail
        go_ret
        refine ⟨ret_bool ?_, rfl⟩
        simp
        omega
  · have HS := Box.mk (show setB set = false by simpa using hs)
    go_enter Tryd.func43, Tryd.ntmps43
    go_wp2_with fail
    refine (rcright_any set _).mono ?_; rintro e w1 ⟨rfl, rfl⟩; rw [HS.out]
    go_wp2_with fail
    go_ret
    refine ⟨ret_bool ?_, rfl⟩
    have := HS.out
    unfold setB at this
    rw [this]; rfl
theorem has_any (S n : Nat) (w : World) (hn : n ≤ 40) (hS : S < 4611686018427387904) : Calls Tryd.prog 35 #[.int .i64 S, .int .i64 n] w fun e w' => e = .returned (.bool (S.testBit n)) ∧ w = w' := by
  have hp : 0 < 2 ^ n := Nat.two_pow_pos n
  obtain ⟨q, hq⟩ : ∃ q, 2 ^ n = q := ⟨_, rfl⟩
  have hq0 : 0 < q := by rw [← hq]; exact hp
  have HQ := Box.mk hq
  obtain ⟨d0, d1⟩ := div_le S q
  have d2 : (S : Int) / (q : Int) < 4611686018427387904 := by omega
  clear hq hp
  go_enter Tryd.func35, Tryd.ntmps35
  go_wp2_with fail
  refine (bit_any n _ hn).mono ?_; rintro e w1 ⟨rfl, rfl⟩; rw [HQ.out]
  go_wp2_with fail
  go_ret
  refine ⟨ret_bool ?_, rfl⟩
  rw [← HQ.out, div_bit]
end Go.Proofs.YtonpgokgbaemfaaDoor
