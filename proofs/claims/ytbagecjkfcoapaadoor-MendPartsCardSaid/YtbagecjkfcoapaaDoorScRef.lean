/-
  THE WALKS OF THE REFERENCE'S LAYER 1: Right, Row, Decode.
-/
import Derived.Test.YtbagecjkfcoapaaDoorBase
namespace Go.Proofs.YtbagecjkfcoapaaDoor
open Go.RowKit

def decO : Option (Int × Nat) → Value
  | none => .tuple #[.int .i64 0, .int .i64 0, .bool false]
  | some (r, n) => .tuple #[.int .i64 r, .int .i64 (n : Int), .bool true]
def decV (l : List UInt8) : Value := decO (U.dec l)

set_option maxHeartbeats 400000 in
theorem rrow_any (c : Int) (h0 : 0 ≤ c) (h1 : c < 256) (w : World) :
    Calls Tryd.prog 31 #[.int .u8 c] w fun e w' => e = .returned (.tuple #[.int .i64 (U.rowN c), .int .u8 (U.rowLo c), .int .u8 (U.rowHi c)]) ∧ w = w' := by
  go_enter Tryd.func31, Tryd.ntmps31
  go_wp2
  all_goals (try simp only [beq_iff_eq, beq_eq_false_iff_ne, ne_eq] at *)
  all_goals go_ret3
  all_goals exact ⟨ret3 (vint (by unfold U.rowN; repeat' (first | omega | split))) (vint (by unfold U.rowLo U.rowN; repeat' (first | omega | split))) (vint (by unfold U.rowHi U.rowN; repeat' (first | omega | split))), rfl⟩

theorem isEmpty_nil {s : ByteArray} (h : s.data.toList = []) : s.toList.isEmpty = true := by rw [ByteArray.toList_eq, h]; rfl
theorem isEmpty_cons {s : ByteArray} {c : UInt8} {t : List UInt8} (h : s.data.toList = c :: t) : s.toList.isEmpty = false := by rw [ByteArray.toList_eq, h]; rfl
theorem ret3o {o : Option (Int × Nat)} {a b c : Value} (h : decO o = .tuple #[a, b, c]) : Ending.returned (.tuple #[a, b, c]) = .returned (decO o) := by rw [h]

/-- the empty text, a byte that is no first one, too few bytes -/
theorem rdec_bad (s : ByteArray) (w : World) (h : s.data.toList = [] ∨ ∃ c t, s.data.toList = c :: t ∧ (U.rowN (U.b2i c) < 0 ∨ (t.length : Int) < U.rowN (U.b2i c))) :
    Calls Tryd.prog 30 #[.string s] w fun e w' => e = .returned (.tuple #[.int .i64 0, .int .i64 0, .bool false]) ∧ w = w' := by
  rcases h with h | ⟨c, t, h, hc⟩
  · have hz := isEmpty_nil h
    clear h
    go_enter Tryd.func30, Tryd.ntmps30
    go_wp2
    go_ret3
    exact ⟨rfl, rfl⟩
  · have hz := isEmpty_cons h
    have hi := idx_of Tryd.underlying9 s 0 (d := c) (by rw [h]; rfl) 0 rfl
    have hc0 := U.b2i_nonneg c
    have hc1 := U.b2i_lt c
    have hsz : (s.size : Int) = t.length + 1 := by rw [size_eq, h]; simp
    have hc2 : U.rowN (U.b2i c) < 0 ∨ (s.size : Int) ≤ U.rowN (U.b2i c) := by omega
    clear h hc hsz
    generalize U.b2i c = x at *
    rcases hc2 with hc | hc
    · go_enter Tryd.func30, Tryd.ntmps30
      go_wp2_with (first | (go_at_call 31; refine (rrow_any _ (by omega) (by omega) _).mono ?_; rintro e w' ⟨rfl, rfl⟩))
      all_goals go_ret3
      all_goals exact ⟨rfl, rfl⟩
    · have hge : 0 ≤ U.rowN x ∨ U.rowN x < 0 := by omega
      rcases hge with hge | hge
      all_goals
        go_enter Tryd.func30, Tryd.ntmps30
        go_wp2_with (first | (go_at_call 31; refine (rrow_any _ (by omega) (by omega) _).mono ?_; rintro e w' ⟨rfl, rfl⟩))
        all_goals go_ret3
        all_goals exact ⟨rfl, rfl⟩

set_option maxHeartbeats 1000000 in
theorem rdec_any (s : ByteArray) (w : World) (hs : s.size ≤ maxLen) :
    Calls Tryd.prog 30 #[.string s] w fun e w' => e = .returned (decV s.data.toList) ∧ w = w' := by
  unfold maxLen at hs
  cases hl : s.data.toList with
  | nil => exact rdec_bad s w (.inl hl)
  | cons c t =>
  by_cases h1 : U.rowN (U.b2i c) < 0
  · refine (rdec_bad s w (.inr ⟨c, t, hl, .inl h1⟩)).mono fun e w' h => ?_
    rw [decV, U.dec_bad h1]; exact h
  by_cases h2 : (t.length : Int) < U.rowN (U.b2i c)
  · refine (rdec_bad s w (.inr ⟨c, t, hl, .inr h2⟩)).mono fun e w' h => ?_
    rw [decV, U.dec_short h2]; exact h
  have hz := isEmpty_cons hl
  have hi := idx_of Tryd.underlying9 s 0 (d := c) (by rw [hl]; rfl) 0 rfl
  have hc0 := U.b2i_nonneg c
  have hc1 := U.b2i_lt c
  have hsz : (s.size : Int) = t.length + 1 := by rw [size_eq, hl]; simp
  have hrow := rrow_any (U.b2i c) hc0 hc1
  rcases U.rowN_cases (U.b2i c) with e | e | e | e | e
  · omega
  · have hx := U.rowN_zero _ e
    have HD := Box.mk (U.dec_zero (t := t) e)
    rw [e] at hrow
    have Hrow := Box.mk hrow
    have hz3 : 0 < s.size := by omega
    have hne : ¬ (s = ByteArray.empty) := by rintro rfl; simp at hz3
    clear hrow hl hsz e h1 h2
    generalize U.b2i c = x at *
    go_enter Tryd.func30, Tryd.ntmps30
    go_wp2_with (first | (go_at_call 31; refine (Hrow.out _).mono ?_; rintro e w' ⟨rfl, rfl⟩))
    go_rounds 1
    all_goals go_ret3
    all_goals exact ⟨ret3o (by rw [HD.out]; rfl), rfl⟩
  · rcases t with _ | ⟨d1, t⟩
    · simp at h2; omega
    have i1 := idx_of Tryd.underlying9 s 1 (d := d1) (by rw [hl]; rfl) 1 rfl
    have hx := U.rowN_one _ e
    have HD := Box.mk (U.dec_one (d1 := d1) (t := t) e)
    rw [e] at hrow
    have Hrow := Box.mk hrow
    have hz3 : 1 < s.size := by simp at hsz; omega
    have b1 := U.b2i_lt d1
    have a1 := U.b2i_nonneg d1
    clear hrow hl hsz e h1 h2
    generalize U.b2i c = x at *
    generalize U.b2i d1 = y1 at *
    go_enter Tryd.func30, Tryd.ntmps30
    go_wp2_with (first | (go_at_call 31; refine (Hrow.out _).mono ?_; rintro e w' ⟨rfl, rfl⟩))
    go_rounds 2
    all_goals go_ret3
    all_goals first
      | exact ⟨ret3o (by rw [HD.out, if_neg (by omega)]; rfl), rfl⟩
      | exact ⟨ret3o (by rw [HD.out, if_pos (by omega)]; rfl), rfl⟩
  · rcases t with _ | ⟨d1, _ | ⟨d2, t⟩⟩
    · simp at h2; omega
    · simp at h2; omega
    have i1 := idx_of Tryd.underlying9 s 1 (d := d1) (by rw [hl]; rfl) 1 rfl
    have i2 := idx_of Tryd.underlying9 s 2 (d := d2) (by rw [hl]; rfl) 2 rfl
    have hx := U.rowN_two _ e
    have HD := Box.mk (U.dec_two (d1 := d1) (d2 := d2) (t := t) e)
    rw [e] at hrow
    have Hrow := Box.mk hrow
    have hz3 : 2 < s.size := by simp at hsz; omega
    have b1 := U.b2i_lt d1
    have a1 := U.b2i_nonneg d1
    have b2 := U.b2i_lt d2
    have a2 := U.b2i_nonneg d2
    clear hrow hl hsz e h1 h2
    generalize U.b2i c = x at *
    generalize U.b2i d1 = y1 at *
    generalize U.b2i d2 = y2 at *
    go_enter Tryd.func30, Tryd.ntmps30
    go_wp2_with (first | (go_at_call 31; refine (Hrow.out _).mono ?_; rintro e w' ⟨rfl, rfl⟩))
    go_rounds 3
    all_goals go_ret3
    all_goals first
      | exact ⟨ret3o (by rw [HD.out, if_neg (by omega)]; rfl), rfl⟩
      | exact ⟨ret3o (by rw [HD.out, if_pos (by omega)]; rfl), rfl⟩
  · rcases t with _ | ⟨d1, _ | ⟨d2, _ | ⟨d3, t⟩⟩⟩
    · simp at h2; omega
    · simp at h2; omega
    · simp at h2; omega
    have i1 := idx_of Tryd.underlying9 s 1 (d := d1) (by rw [hl]; rfl) 1 rfl
    have i2 := idx_of Tryd.underlying9 s 2 (d := d2) (by rw [hl]; rfl) 2 rfl
    have i3 := idx_of Tryd.underlying9 s 3 (d := d3) (by rw [hl]; rfl) 3 rfl
    have hx := U.rowN_three _ e
    have HD := Box.mk (U.dec_three (d1 := d1) (d2 := d2) (d3 := d3) (t := t) e)
    rw [e] at hrow
    have Hrow := Box.mk hrow
    have hz3 : 3 < s.size := by simp at hsz; omega
    have b1 := U.b2i_lt d1
    have a1 := U.b2i_nonneg d1
    have b2 := U.b2i_lt d2
    have a2 := U.b2i_nonneg d2
    have b3 := U.b2i_lt d3
    have a3 := U.b2i_nonneg d3
    clear hrow hl hsz e h1 h2
    generalize U.b2i c = x at *
    generalize U.b2i d1 = y1 at *
    generalize U.b2i d2 = y2 at *
    generalize U.b2i d3 = y3 at *
    go_enter Tryd.func30, Tryd.ntmps30
    go_wp2_with (first | (go_at_call 31; refine (Hrow.out _).mono ?_; rintro e w' ⟨rfl, rfl⟩))
    go_rounds 4
    all_goals go_ret3
    all_goals first
      | exact ⟨ret3o (by rw [HD.out, if_neg (by omega)]; rfl), rfl⟩
      | exact ⟨ret3o (by rw [HD.out, if_pos (by omega)]; rfl), rfl⟩

/-- a scalar's bytes, and that it is one -/
def encV (r : Int) : Value := if U.right r = true then .tuple #[.string ⟨(U.enc r).toArray⟩, .int .i64 0] else .tuple #[.string ⟨#[]⟩, .int .i64 10]
theorem encV_no {r : Int} (h : U.right r = false) : encV r = .tuple #[.string ⟨#[]⟩, .int .i64 10] := by unfold encV; rw [if_neg (by rw [h]; decide)]
theorem encV_yes {r : Int} {l : List Int} (h : U.right r = true) (hl : l.map U.byte = U.enc r) : Value.tuple #[.string (strOfNums l), .int .i64 0] = encV r := by
  unfold encV; rw [if_pos h, ← hl]; rfl

end Go.Proofs.YtbagecjkfcoapaaDoor
