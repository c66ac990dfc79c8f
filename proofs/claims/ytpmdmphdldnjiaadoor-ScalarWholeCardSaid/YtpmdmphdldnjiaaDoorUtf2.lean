/-
  PLAIN. A greater scalar's bytes are greater, byte by byte, and no fewer; nothing of any program.
-/
import Derived.RowKit
import Derived.Test.YtpmdmphdldnjiaaDoorUtf
namespace Go.Proofs.YtpmdmphdldnjiaaDoor.U

theorem byte_lt {n m : Int} (h0 : 0 ≤ n) (h : n < m) (h1 : m < 256) : byte n < byte m := by
  rw [UInt8.lt_iff_toNat_lt]
  have a := b2i_byte n h0 (by omega)
  have b := b2i_byte m (by omega) h1
  unfold b2i at a b
  omega
theorem less_lt {n m : Int} (h0 : 0 ≤ n) (h : n < m) (h1 : m < 256) (x y : List UInt8) : Op.bytesLess (byte n :: x) (byte m :: y) = true := by
  simp [Op.bytesLess, byte_lt h0 h h1]
theorem less_eq {n m : Int} (h : n = m) (x y : List UInt8) : Op.bytesLess (byte n :: x) (byte m :: y) = Op.bytesLess x y := by
  subst h; simp [Op.bytesLess]
theorem less_same : ∀ x : List UInt8, Op.bytesLess x x = false
  | [] => rfl
  | a :: x => by simp [Op.bytesLess, less_same x]
theorem less_asymm : ∀ x y : List UInt8, Op.bytesLess x y = true → Op.bytesLess y x = false
  | [], _, h => by unfold Op.bytesLess; cases ‹List UInt8› <;> rfl
  | _ :: _, [], h => by simp [Op.bytesLess] at h
  | a :: x, b :: y, h => by
    simp only [Op.bytesLess, Bool.or_eq_true, decide_eq_true_eq, Bool.and_eq_true, beq_iff_eq] at h
    rcases h with h | ⟨rfl, h⟩
    · have hb : ¬ b < a := by rw [UInt8.lt_iff_toNat_lt] at h ⊢; omega
      have hn : ¬ b = a := by intro e; subst e; rw [UInt8.lt_iff_toNat_lt] at h; omega
      simp [Op.bytesLess, hb, hn]
    · simp [Op.bytesLess, less_asymm x y h]

theorem enc_less (a b : Int) (ha : right a = true) (hb : right b = true) (hlt : a < b) : Op.bytesLess (enc a) (enc b) = true ∧ (enc a).length ≤ (enc b).length := by
  rw [right_iff] at ha hb
  obtain ⟨a0, a1, -⟩ := ha
  obtain ⟨b0, b1, -⟩ := hb
  unfold enc
  by_cases a2 : a < 128
  · rw [if_pos a2]
    by_cases b2 : b < 128
    · rw [if_pos b2]; exact ⟨less_lt a0 hlt (by omega) _ _, by simp⟩
    rw [if_neg b2]
    by_cases b3 : b < 2048
    · rw [if_pos b3]; exact ⟨less_lt a0 (by omega) (by omega) _ _, by simp⟩
    rw [if_neg b3]
    by_cases b4 : b < 65536
    · rw [if_pos b4]; exact ⟨less_lt a0 (by omega) (by omega) _ _, by simp⟩
    · rw [if_neg b4]; exact ⟨less_lt a0 (by omega) (by omega) _ _, by simp⟩
  rw [if_neg a2, if_neg (by omega : ¬ b < 128)]
  by_cases a3 : a < 2048
  · rw [if_pos a3]
    by_cases b3 : b < 2048
    · rw [if_pos b3]
      refine ⟨?_, by simp⟩
      by_cases e : a / 64 < b / 64
      · exact less_lt (by omega) (by omega) (by omega) _ _
      · rw [less_eq (by omega)]; exact less_lt (by omega) (by omega) (by omega) _ _
    rw [if_neg b3]
    by_cases b4 : b < 65536
    · rw [if_pos b4]; exact ⟨less_lt (by omega) (by omega) (by omega) _ _, by simp⟩
    · rw [if_neg b4]; exact ⟨less_lt (by omega) (by omega) (by omega) _ _, by simp⟩
  rw [if_neg a3, if_neg (by omega : ¬ b < 2048)]
  by_cases a4 : a < 65536
  · rw [if_pos a4]
    by_cases b4 : b < 65536
    · rw [if_pos b4]
      refine ⟨?_, by simp⟩
      by_cases e : a / 4096 < b / 4096
      · exact less_lt (by omega) (by omega) (by omega) _ _
      rw [less_eq (by omega)]
      by_cases e2 : a / 64 < b / 64
      · exact less_lt (by omega) (by omega) (by omega) _ _
      · rw [less_eq (by omega)]; exact less_lt (by omega) (by omega) (by omega) _ _
    · rw [if_neg b4]; exact ⟨less_lt (by omega) (by omega) (by omega) _ _, by simp⟩
  rw [if_neg a4, if_neg (by omega : ¬ b < 65536)]
  refine ⟨?_, by simp⟩
  by_cases e : a / 262144 < b / 262144
  · exact less_lt (by omega) (by omega) (by omega) _ _
  rw [less_eq (by omega)]
  by_cases e1 : a / 4096 < b / 4096
  · exact less_lt (by omega) (by omega) (by omega) _ _
  rw [less_eq (by omega)]
  by_cases e2 : a / 64 < b / 64
  · exact less_lt (by omega) (by omega) (by omega) _ _
  · rw [less_eq (by omega)]; exact less_lt (by omega) (by omega) (by omega) _ _
theorem enc_order (a b : Int) (ha : right a = true) (hb : right b = true) : Op.bytesLess (enc a) (enc b) = decide (a < b) ∧ (¬ a > b → (enc a).length ≤ (enc b).length) := by
  rcases Int.lt_trichotomy a b with h | rfl | h
  · obtain ⟨h1, h2⟩ := enc_less a b ha hb h
    exact ⟨by rw [h1]; simp [h], fun _ => h2⟩
  · exact ⟨by rw [less_same]; simp, fun _ => Nat.le_refl _⟩
  · obtain ⟨h1, h2⟩ := enc_less b a hb ha h
    refine ⟨by rw [less_asymm _ _ h1]; simp; omega, fun h' => by omega⟩
end Go.Proofs.YtpmdmphdldnjiaaDoor.U
