/-
  PLAIN. Runs of patterns' machines, place by place: what the laws of layer 10 say of them; nothing of any program.
-/
import Derived.Test.YtonpgokgbaemfaaDoorNfaP
namespace Go.Proofs.YtonpgokgbaemfaaDoor.N

theorem drop_at (l : List Item) (i : Nat) (h : i < l.length) : l.drop i = (l.getD i (0, 0)) :: l.drop (i + 1) := by
  rw [List.drop_eq_getElem_cons h]
  simp [List.getD, List.getElem?_eq_getElem h]
theorem clo_odd (l : List Item) (n : Nat) (h : n % 2 = 1) : clo l n = 2 ^ n := by unfold clo; rw [if_pos h]
theorem clo_end (l : List Item) (n : Nat) (h : l.length ≤ n / 2) : clo l n = 2 ^ n := by
  unfold clo
  split
  · rfl
  · rw [List.drop_eq_nil_of_le h]; rfl
theorem clo_once (l : List Item) (n : Nat) (h : howAt l (n / 2) = 0) : clo l n = 2 ^ n := by
  by_cases hl : n / 2 < l.length
  · unfold clo
    split
    · rfl
    · rw [drop_at l _ hl]; unfold cloS; unfold howAt at h; rw [if_pos h]
  · exact clo_end l n (by omega)
theorem clo_next (l : List Item) (n : Nat) (h0 : n % 2 = 0) (hl : n / 2 < l.length) (h : howAt l (n / 2) ≠ 0) : clo l n = 2 ^ n ||| clo l (n + 2) := by
  unfold clo
  rw [if_neg (by omega), if_neg (by omega), drop_at l _ hl, show (n + 2) / 2 = n / 2 + 1 by omega]
  unfold howAt at h
  rw [cloS, if_neg h]

/-- the set behind the first k numbers -/
def at' (l : List Item) (st : Bool) (S : Nat) (cs : List Int) (k : Nat) : Nat := (cs.take k).foldl (step l st) S
/-- the sets behind none, one, two .. of k numbers -/
def runs (l : List Item) (st : Bool) (S : Nat) (cs : List Int) (k : Nat) : List Nat := (List.range (k + 1)).map (at' l st S cs)
theorem at_zero (l : List Item) (st : Bool) (S : Nat) (cs : List Int) : at' l st S cs 0 = S := by simp [at']
theorem at_succ (l : List Item) (st : Bool) (S : Nat) (cs : List Int) (k : Nat) (c : Int) (h : cs[k]? = some c) : at' l st S cs (k + 1) = step l st (at' l st S cs k) c := by
  unfold at'
  rw [List.take_add_one, h, List.foldl_append]
  rfl
theorem runs_zero (l : List Item) (st : Bool) (S : Nat) (cs : List Int) : runs l st S cs 0 = [S] := by simp [runs, at_zero]
theorem runs_succ (l : List Item) (st : Bool) (S : Nat) (cs : List Int) (k : Nat) : runs l st S cs (k + 1) = runs l st S cs k ++ [at' l st S cs (k + 1)] := by
  unfold runs
  rw [List.range_succ, List.map_append]
  rfl
theorem runs_len (l : List Item) (st : Bool) (S : Nat) (cs : List Int) (k : Nat) : (runs l st S cs k).length = k + 1 := by simp [runs]
theorem runs_get (l : List Item) (st : Bool) (S : Nat) (cs : List Int) (k i : Nat) (h : i ≤ k) : (runs l st S cs k)[i]? = some (at' l st S cs i) := by
  unfold runs
  rw [List.getElem?_map, List.getElem?_range (by omega)]
  rfl
theorem at_take (l : List Item) (st : Bool) (S : Nat) (cs : List Int) (n k : Nat) (h : k ≤ n) : at' l st S (cs.take n) k = at' l st S cs k := by
  unfold at'
  rw [List.take_take, Nat.min_eq_left h]
theorem runs_take (l : List Item) (st : Bool) (S : Nat) (cs : List Int) (n k : Nat) (h : n ≤ k) : (runs l st S cs k).take (n + 1) = runs l st S (cs.take n) n := by
  apply List.ext_getElem?
  intro i
  rw [List.getElem?_take]
  split
  · rename_i hi
    rw [runs_get _ _ _ _ _ _ (by omega), runs_get _ _ _ _ _ _ (by omega), at_take _ _ _ _ _ _ (by omega)]
  · rename_i hi
    rw [List.getElem?_eq_none (by rw [runs_len]; omega)]
theorem at_lt (l : List Item) (st : Bool) (S : Nat) (cs : List Int) (hS : S < 2 ^ (2 * l.length + 1)) : ∀ k, k ≤ cs.length → at' l st S cs k < 2 ^ (2 * l.length + 1)
  | 0, _ => by rw [at_zero]; exact hS
  | k + 1, h => by
    rw [at_succ l st S cs k _ (List.getElem?_eq_getElem (by omega))]
    exact step_lt _ _ _ _
theorem clo_self (l : List Item) (n : Nat) : (clo l n).testBit n = true := by
  by_cases h : n % 2 = 1
  · rw [clo_odd l n h]; exact Nat.testBit_two_pow_self
  · by_cases hl : n / 2 < l.length
    · by_cases h0 : howAt l (n / 2) = 0
      · rw [clo_once l n h0]; exact Nat.testBit_two_pow_self
      · rw [clo_next l n (by omega) hl h0, Nat.testBit_or, Nat.testBit_two_pow_self]; rfl
    · rw [clo_end l n (by omega)]; exact Nat.testBit_two_pow_self
theorem step_zero (l : List Item) (S : Nat) (c : Int) : (step l false S c).testBit 0 = true := by
  unfold step
  rw [fill_bit]
  exact .inl (by unfold init; rw [if_neg (by simp)]; exact clo_self l 0)
/-- each set has state 0; with Start the first one -/
theorem at_odd (l : List Item) (st : Bool) (cs : List Int) (k : Nat) (hk : k ≤ cs.length) (h : st = false ∨ k = 0) : at' l st (clo l 0) cs k % 2 = 1 := by
  have key : (at' l st (clo l 0) cs k).testBit 0 = true := by
    rcases k with - | k
    · rw [at_zero]; exact clo_self l 0
    · rw [at_succ l st _ cs k _ (List.getElem?_eq_getElem (by omega))]
      obtain rfl : st = false := by rcases h with h | h; exact h; omega
      exact step_zero _ _ _
  rw [Nat.testBit_zero] at key
  simpa using key
theorem at_mono (l : List Item) (cs : List Int) (S : Nat) (i : Nat) : ∀ k, k ≤ cs.length → (at' l true S cs k).testBit i = true → (at' l false S cs k).testBit i = true := by
  intro k
  induction k generalizing i with
  | zero => intro _ h; rw [at_zero] at h ⊢; exact h
  | succ k ih =>
    intro hk h
    rw [at_succ l _ S cs k _ (List.getElem?_eq_getElem (by omega))] at h ⊢
    exact step_mono l true false (fun h => by cases h) _ _ _ (fun j hj => ih j (by omega) hj) i h
theorem done_mono (l : List Item) (cs : List Int) (S k : Nat) (hk : k ≤ cs.length) (h : doneB l (at' l true S cs k) = true) : doneB l (at' l false S cs k) = true := at_mono l cs S _ k hk h
theorem or_lt (a b n : Nat) (ha : a < 2 ^ n) (hb : b < 2 ^ n) : a ||| b < 2 ^ n := Nat.or_lt_two_pow ha hb
theorem done_or (l : List Item) (a b : Nat) : doneB l (a ||| b) = (doneB l a || doneB l b) := by unfold doneB; rw [Nat.testBit_or]
end Go.Proofs.YtonpgokgbaemfaaDoor.N
