/-
  THE LAW MendSteps, WALKED.
-/
import Derived.Test.YtbagecjkfcoapaaDoorMnI
namespace Go.Proofs.YtbagecjkfcoapaaDoor
open Go.RowKit

theorem next_yes {l : List UInt8} {q : Int} {x : M.Place} (h : M.fwd (M.places l) q = some x) : nextV l q = .tuple #[.int .i64 (q + x.2.1), .int .i64 0] := by
  unfold nextV; rw [h, ← (M.fwd_some h).2]
theorem next_no {l : List UInt8} {q : Int} (h : M.fwd (M.places l) q = none) : nextV l q = .tuple #[.int .i64 0, .int .i64 12] := by unfold nextV; rw [h]
theorem back_yes {l : List UInt8} {q : Int} {x : M.Place} (h : M.bwd (M.places l) q = some x) : backV l q = .tuple #[.int .i64 (x.1 : Int), .int .i64 0] := by unfold backV; rw [h]
theorem back_no {l : List UInt8} {q : Int} (h : M.bwd (M.places l) q = none) : backV l q = .tuple #[.int .i64 0, .int .i64 12] := by unfold backV; rw [h]

section
variable (A : Nat → Addr) (B : Nat) (s c : ByteArray) (q t f : Int) (w : World) (hc : Box (s.size ≤ maxLen ∧ cutS s = c)) (zc : Box (c.size ≤ 100000))
include hc zc
set_option maxHeartbeats 1000000 in
theorem steps_yy (zz : c.size ≤ 300) (hf : Box (nextV c.data.toList q = .tuple #[.int .i64 t, .int .i64 0])) (hfb : Box (backV c.data.toList t = .tuple #[.int .i64 q, .int .i64 0])) (hb : Box (backV c.data.toList q = .tuple #[.int .i64 f, .int .i64 0])) (hbf : Box (nextV c.data.toList f = .tuple #[.int .i64 q, .int .i64 0]))
    (k1 : 0 < q) (k2 : q < c.size) (k3 : q < t) (k4 : t ≤ q + 4) (h0 : St A B w w) :
    Calls Tryd.prog 3 #[.string s, .int .i64 q] w fun e w' => e = .returned (.bool true) ∧ St A B w w' := by
  have k5 : ¬ q = 0 := by omega
  have k7 : (q == 0) = false := by rw [beq_eq_false_iff_ne]; omega
  have k6 : ¬ q = (c.size : Int) := by omega
  have k8 : (q == (c.size : Int)) = false := by rw [beq_eq_false_iff_ne]; omega
  go_enter Tryd.func3, Tryd.ntmps3
  go_wp2_with fail
  refine (shown_st A B w _ h0).mono ?_; rintro e w1 ⟨rfl, h1⟩
  go_wp2_with fail
  refine (cut_b s _ _ hc).mono ?_; rintro e w2 ⟨rfl, rfl⟩
  go_wp2_with fail
  refine (next_b _ _ _ hf zc h1).mono ?_; rintro e w2 ⟨rfl, h2⟩
  go_wp2_with fail
  refine (back_b _ _ _ hb zc h2).mono ?_; rintro e w3 ⟨rfl, h3⟩
  go_wp2_with fail
  refine (back_b _ _ _ hfb zc h3).mono ?_; rintro e w4 ⟨rfl, h4⟩
  go_wp2_with fail
  refine (next_b _ _ _ hbf zc h4).mono ?_; rintro e w5 ⟨rfl, h5⟩
  go_wp2_with fail
  go_ret
  exact ⟨rfl, h5⟩
set_option maxHeartbeats 1000000 in
theorem steps_yn (zz : c.size ≤ 300) (hf : Box (nextV c.data.toList q = .tuple #[.int .i64 t, .int .i64 0])) (hfb : Box (backV c.data.toList t = .tuple #[.int .i64 q, .int .i64 0])) (hb : Box (backV c.data.toList q = .tuple #[.int .i64 0, .int .i64 12]))
    (k1 : 0 ≤ q) (k2 : q < c.size) (k3 : q < t) (k4 : t ≤ q + 4) (h0 : St A B w w) :
    Calls Tryd.prog 3 #[.string s, .int .i64 q] w fun e w' => e = .returned (.bool true) ∧ St A B w w' := by
  have k6 : ¬ q = (c.size : Int) := by omega
  have k8 : (q == (c.size : Int)) = false := by rw [beq_eq_false_iff_ne]; omega
  go_enter Tryd.func3, Tryd.ntmps3
  go_wp2_with fail
  refine (shown_st A B w _ h0).mono ?_; rintro e w1 ⟨rfl, h1⟩
  go_wp2_with fail
  refine (cut_b s _ _ hc).mono ?_; rintro e w2 ⟨rfl, rfl⟩
  go_wp2_with fail
  refine (next_b _ _ _ hf zc h1).mono ?_; rintro e w2 ⟨rfl, h2⟩
  go_wp2_with fail
  refine (back_b _ _ _ hb zc h2).mono ?_; rintro e w3 ⟨rfl, h3⟩
  go_wp2_with fail
  refine (back_b _ _ _ hfb zc h3).mono ?_; rintro e w4 ⟨rfl, h4⟩
  go_wp2_with fail
  all_goals
    go_ret
    exact ⟨rfl, h4⟩
set_option maxHeartbeats 1000000 in
theorem steps_ny (hf : Box (nextV c.data.toList q = .tuple #[.int .i64 0, .int .i64 12])) (hb : Box (backV c.data.toList q = .tuple #[.int .i64 f, .int .i64 0])) (hbf : Box (nextV c.data.toList f = .tuple #[.int .i64 q, .int .i64 0]))
    (k1 : 0 < q) (h0 : St A B w w) :
    Calls Tryd.prog 3 #[.string s, .int .i64 q] w fun e w' => e = .returned (.bool true) ∧ St A B w w' := by
  have k5 : ¬ q = 0 := by omega
  have k7 : (q == 0) = false := by rw [beq_eq_false_iff_ne]; omega
  go_enter Tryd.func3, Tryd.ntmps3
  go_wp2_with fail
  refine (shown_st A B w _ h0).mono ?_; rintro e w1 ⟨rfl, h1⟩
  go_wp2_with fail
  refine (cut_b s _ _ hc).mono ?_; rintro e w2 ⟨rfl, rfl⟩
  go_wp2_with fail
  refine (next_b _ _ _ hf zc h1).mono ?_; rintro e w2 ⟨rfl, h2⟩
  go_wp2_with fail
  refine (back_b _ _ _ hb zc h2).mono ?_; rintro e w3 ⟨rfl, h3⟩
  go_wp2_with fail
  refine (next_b _ _ _ hbf zc h3).mono ?_; rintro e w4 ⟨rfl, h4⟩
  go_wp2_with fail
  all_goals
    go_ret
    exact ⟨rfl, h4⟩
set_option maxHeartbeats 1000000 in
theorem steps_nn (hf : Box (nextV c.data.toList q = .tuple #[.int .i64 0, .int .i64 12])) (hb : Box (backV c.data.toList q = .tuple #[.int .i64 0, .int .i64 12])) (h0 : St A B w w) :
    Calls Tryd.prog 3 #[.string s, .int .i64 q] w fun e w' => e = .returned (.bool true) ∧ St A B w w' := by
  go_enter Tryd.func3, Tryd.ntmps3
  go_wp2_with fail
  refine (shown_st A B w _ h0).mono ?_; rintro e w1 ⟨rfl, h1⟩
  go_wp2_with fail
  refine (cut_b s _ _ hc).mono ?_; rintro e w2 ⟨rfl, rfl⟩
  go_wp2_with fail
  refine (next_b _ _ _ hf zc h1).mono ?_; rintro e w2 ⟨rfl, h2⟩
  go_wp2_with fail
  refine (back_b _ _ _ hb zc h2).mono ?_; rintro e w3 ⟨rfl, h3⟩
  by_cases hq : q = 0
  · subst hq
    by_cases hn : (c.size : Int) = 0
    · go_wp2_with fail
      all_goals
        go_ret
        exact ⟨rfl, h3⟩
    · have hn' : ¬ (0 : Int) = (c.size : Int) := fun e => hn e.symm
      go_wp2_with fail
      all_goals
        go_ret
        exact ⟨rfl, h3⟩
  · go_wp2_with fail
    all_goals
      go_ret
      exact ⟨rfl, h3⟩
end

theorem law_MendSteps (A : Nat → Addr) (B : Nat) (s : ByteArray) (q : Int) (w : World) (hs : s.size ≤ maxLen) (hE : E A B w) (hB : B ≤ w.heap.size) :
    Calls Tryd.prog 3 #[.string s, .int .i64 q] w fun e w' => e = .returned (.bool true) ∧ Below w.heap.size w w' := by
  have hz := cutS_size s
  have hze := size_eq (cutS s)
  have h0 := St.start hE hB
  suffices h : Calls Tryd.prog 3 #[.string s, .int .i64 q] w fun e w' => e = .returned (.bool true) ∧ St A B w w' from h.mono fun e w' ⟨he, h⟩ => ⟨he, h.b⟩
  cases hf : M.fwd (M.places (cutS s).data.toList) q with
  | none =>
    cases hb : M.bwd (M.places (cutS s).data.toList) q with
    | none => exact steps_nn A B s _ q w ⟨⟨hs, rfl⟩⟩ ⟨by omega⟩ ⟨next_no hf⟩ ⟨back_no hb⟩ h0
    | some y =>
      obtain ⟨h1, h2, h3⟩ := M.back_forth hb
      refine steps_ny A B s _ q _ w ⟨⟨hs, rfl⟩⟩ ⟨by omega⟩ ⟨next_no hf⟩ ⟨back_yes hb⟩ ⟨?_⟩ (by omega) h0
      rw [next_yes h1, ← h2]; simp
  | some x =>
    obtain ⟨h1, h2, h3, h4, h5⟩ := M.forth_back hf
    have hfb : backV (cutS s).data.toList (q + x.2.1) = .tuple #[.int .i64 q, .int .i64 0] := by
      rw [← h2] at *
      rw [show (x.1 : Int) + (x.2.1 : Int) = ((x.1 + x.2.1 : Nat) : Int) by omega, back_yes h1]
    cases hb : M.bwd (M.places (cutS s).data.toList) q with
    | none => exact steps_yn A B s _ q _ w ⟨⟨hs, rfl⟩⟩ ⟨by omega⟩ hz ⟨next_yes hf⟩ ⟨hfb⟩ ⟨back_no hb⟩ (by omega) (by omega) (by omega) (by omega) h0
    | some y =>
      obtain ⟨g1, g2, g3⟩ := M.back_forth hb
      refine steps_yy A B s _ q _ _ w ⟨⟨hs, rfl⟩⟩ ⟨by omega⟩ hz ⟨next_yes hf⟩ ⟨hfb⟩ ⟨back_yes hb⟩ ⟨?_⟩ (by omega) (by omega) (by omega) (by omega) h0
      rw [next_yes g1, ← g2]; simp
end Go.Proofs.YtbagecjkfcoapaaDoor
