/-
  PLAIN. Patterns of classes as machines: states closed, steps, runs; nothing of any program. Sets of states are natural numbers, a bit a state.
-/
import Derived.KernelRfl
namespace Go.Proofs.YtonpgokgbaemfaaDoor.N

/-- an item: its set of classes, how often it stands -/
abbrev Item := Int × Int

/-- the states that one stands for, from item n/2 on (state n is even) -/
def cloS : List Item → Nat → Nat
  | [], n => 2 ^ n
  | x :: t, n => if x.2 = 0 then 2 ^ n else 2 ^ n ||| cloS t (n + 2)
/-- a state, closed -/
def clo (l : List Item) (n : Nat) : Nat := if n % 2 = 1 then 2 ^ n else cloS (l.drop (n / 2)) n

def hasC (set c : Int) : Bool := decide (0 ≤ set) && decide (set < 4294967296) && decide (0 ≤ c) && decide (c < 32) && decide (set.toNat.testBit c.toNat = true)
def setAt (l : List Item) (i : Nat) : Int := (l.getD i (0, 0)).1
def howAt (l : List Item) (i : Nat) : Int := (l.getD i (0, 0)).2
def goto (l : List Item) (n : Nat) : Nat := if n % 2 = 1 then n - 1 else if howAt l (n / 2) = 0 then n + 2 else if howAt l (n / 2) = 1 then n else n + 1
def goes (l : List Item) (S : Nat) (c : Int) (n : Nat) : Bool := S.testBit n && hasC (setAt l (n / 2)) c
def fill (l : List Item) (S : Nat) (c : Int) (init : Nat) (k : Nat) : Nat := (List.range k).foldl (fun out n => if goes l S c n = true then out ||| clo l (goto l n) else out) init
def init (l : List Item) (start : Bool) : Nat := if start then 0 else clo l 0
def step (l : List Item) (start : Bool) (S : Nat) (c : Int) : Nat := fill l S c (init l start) (2 * l.length)
def most (l : List Item) : Nat := 2 ^ (2 * l.length + 1) - 1
def doneB (l : List Item) (S : Nat) : Bool := S.testBit (2 * l.length)
def run (l : List Item) (start : Bool) : Nat → List Int → List Nat
  | S, [] => [S]
  | S, c :: t => S :: run l start (step l start S c) t

theorem fill_succ (l : List Item) (S : Nat) (c : Int) (a k : Nat) : fill l S c a (k + 1) = if goes l S c k = true then fill l S c a k ||| clo l (goto l k) else fill l S c a k := by
  unfold fill
  rw [List.range_succ, List.foldl_append]
  rfl
theorem fill_or (l : List Item) (S : Nat) (c : Int) (a b : Nat) : ∀ k, fill l S c (a ||| b) k = fill l S c a k ||| b
  | 0 => rfl
  | k + 1 => by
    rw [fill_succ, fill_succ, fill_or l S c a b k]
    split
    · rw [Nat.or_assoc, Nat.or_comm b, ← Nat.or_assoc]
    · rfl
/-- the document adds the first states last -/
theorem fill_last (l : List Item) (S : Nat) (c : Int) (b k : Nat) : fill l S c 0 k ||| b = fill l S c b k := by
  have := fill_or l S c 0 b k
  rw [Nat.zero_or] at this
  exact this.symm
theorem fill_bit (l : List Item) (S : Nat) (c : Int) (a i : Nat) : ∀ k, (fill l S c a k).testBit i = true ↔ a.testBit i = true ∨ ∃ n, n < k ∧ goes l S c n = true ∧ (clo l (goto l n)).testBit i = true
  | 0 => by simp [fill]
  | k + 1 => by
    rw [fill_succ]
    have ih := fill_bit l S c a i k
    constructor
    · intro h
      split at h
      · rename_i hg
        rw [Nat.testBit_or, Bool.or_eq_true] at h
        rcases h with h | h
        · rcases ih.1 h with h | ⟨n, h1, h2⟩
          · exact .inl h
          · exact .inr ⟨n, by omega, h2⟩
        · exact .inr ⟨k, by omega, hg, h⟩
      · rcases ih.1 h with h | ⟨n, h1, h2⟩
        · exact .inl h
        · exact .inr ⟨n, by omega, h2⟩
    · intro h
      have key : (fill l S c a k).testBit i = true ∨ (goes l S c k = true ∧ (clo l (goto l k)).testBit i = true) := by
        rcases h with h | ⟨n, h1, h2, h3⟩
        · exact .inl (ih.2 (.inl h))
        · by_cases e : n = k
          · subst e; exact .inr ⟨h2, h3⟩
          · exact .inl (ih.2 (.inr ⟨n, by omega, h2, h3⟩))
      split
      · rw [Nat.testBit_or, Bool.or_eq_true]
        rcases key with h | ⟨_, h⟩
        · exact .inl h
        · exact .inr h
      · rename_i hg
        rcases key with h | ⟨h, _⟩
        · exact h
        · exact absurd h hg

/-- steps of two sets together are both's steps together -/
theorem step_or (l : List Item) (start : Bool) (a b : Nat) (c : Int) : step l start (a ||| b) c = step l start a c ||| step l start b c := by
  apply Nat.eq_of_testBit_eq
  intro i
  rw [Nat.testBit_or, Bool.eq_iff_iff, Bool.or_eq_true]
  unfold step
  rw [fill_bit, fill_bit, fill_bit]
  have hg : ∀ n, goes l (a ||| b) c n = true ↔ goes l a c n = true ∨ goes l b c n = true := by
    intro n
    unfold goes
    rw [Nat.testBit_or]
    cases a.testBit n <;> cases b.testBit n <;> simp
  constructor
  · rintro (h | ⟨n, h1, h2, h3⟩)
    · exact .inl (.inl h)
    · rcases (hg n).1 h2 with h | h
      · exact .inl (.inr ⟨n, h1, h, h3⟩)
      · exact .inr (.inr ⟨n, h1, h, h3⟩)
  · rintro ((h | ⟨n, h1, h2, h3⟩) | (h | ⟨n, h1, h2, h3⟩))
    · exact .inl h
    · exact .inr ⟨n, h1, (hg n).2 (.inl h2), h3⟩
    · exact .inl h
    · exact .inr ⟨n, h1, (hg n).2 (.inr h2), h3⟩
theorem step_mono (l : List Item) (s t : Bool) (hst : t = true → s = true) (a b : Nat) (c : Int) (hab : ∀ i, a.testBit i = true → b.testBit i = true) (i : Nat) (h : (step l s a c).testBit i = true) : (step l t b c).testBit i = true := by
  unfold step at h ⊢
  rw [fill_bit] at h ⊢
  rcases h with h | ⟨n, h1, h2, h3⟩
  · left
    unfold init at h ⊢
    cases s <;> cases t <;> simp_all
  · right
    refine ⟨n, h1, ?_, h3⟩
    unfold goes at h2 ⊢
    rw [Bool.and_eq_true] at h2 ⊢
    exact ⟨hab n h2.1, h2.2⟩

/- BOUNDS: no state that there is not. -/
theorem cloS_lt (l : List Item) : ∀ n k, n + 2 * l.length ≤ k → cloS l n < 2 ^ (k + 1) := by
  induction l with
  | nil => intro n k h; exact Nat.pow_lt_pow_right (by omega) (by simp at h; omega)
  | cons x t ih =>
    intro n k h
    simp only [List.length_cons] at h
    have h0 : 2 ^ n < 2 ^ (k + 1) := Nat.pow_lt_pow_right (by omega) (by omega)
    unfold cloS
    split
    · exact h0
    · exact Nat.or_lt_two_pow h0 (ih (n + 2) k (by omega))
theorem clo_lt (l : List Item) (n : Nat) (h : n ≤ 2 * l.length) : clo l n < 2 ^ (2 * l.length + 1) := by
  unfold clo
  split
  · exact Nat.pow_lt_pow_right (by omega) (by omega)
  · exact cloS_lt _ _ _ (by rw [List.length_drop]; omega)
theorem goto_le (l : List Item) (n : Nat) (h : n < 2 * l.length) : goto l n ≤ 2 * l.length := by
  unfold goto; repeat' (first | omega | split)
theorem fill_lt (l : List Item) (S : Nat) (c : Int) (a : Nat) (ha : a < 2 ^ (2 * l.length + 1)) : ∀ k, k ≤ 2 * l.length → fill l S c a k < 2 ^ (2 * l.length + 1)
  | 0, _ => ha
  | k + 1, h => by
    rw [fill_succ]
    have ih := fill_lt l S c a ha k (by omega)
    split
    · exact Nat.or_lt_two_pow ih (clo_lt l _ (goto_le l k (by omega)))
    · exact ih
theorem init_lt (l : List Item) (start : Bool) : init l start < 2 ^ (2 * l.length + 1) := by
  unfold init
  split
  · exact Nat.pow_pos (by omega)
  · exact clo_lt l 0 (by omega)
theorem step_lt (l : List Item) (start : Bool) (S : Nat) (c : Int) : step l start S c < 2 ^ (2 * l.length + 1) := fill_lt l S c _ (init_lt l start) _ (Nat.le_refl _)
end Go.Proofs.YtonpgokgbaemfaaDoor.N
