/-
  PLAIN. Units of a text: a scalar's bytes, or what is ill-formed; where they stand; what is mended. Nothing of any program.
-/
import Derived.Test.YtbagecjkfcoapaaDoorUtf
namespace Go.Proofs.YtbagecjkfcoapaaDoor.M
open U

/-- may the second byte stand behind the first one? -/
def rng (c d : UInt8) : Bool := decide (rowLo (b2i c) ≤ b2i d) && decide (b2i d ≤ rowHi (b2i c))
/-- how many bytes an ill-formed unit has -/
def badLen : List UInt8 → Nat
  | c :: d :: t => if decide (2 ≤ rowN (b2i c)) && rng c d then (match t with | e :: _ => if decide (rowN (b2i c) = 3) && isTail e then 3 else 2 | [] => 2) else 1
  | [_] => 1
  | [] => 0
theorem bad_one {c d : UInt8} (t : List UInt8) (h : (decide (2 ≤ rowN (b2i c)) && rng c d) = false) : badLen (c :: d :: t) = 1 := by
  simp only [badLen]; rw [if_neg (by rw [h]; decide)]
theorem bad_two {c d : UInt8} (h : (decide (2 ≤ rowN (b2i c)) && rng c d) = true) : badLen [c, d] = 2 := by
  simp only [badLen]; rw [if_pos h]
theorem bad_not {c d e : UInt8} (t : List UInt8) (h : (decide (2 ≤ rowN (b2i c)) && rng c d) = true) (h2 : (decide (rowN (b2i c) = 3) && isTail e) = false) : badLen (c :: d :: e :: t) = 2 := by
  simp only [badLen]; rw [if_pos h, if_neg (by rw [h2]; decide)]
theorem bad_three {c d e : UInt8} (t : List UInt8) (h : (decide (2 ≤ rowN (b2i c)) && rng c d) = true) (h2 : (decide (rowN (b2i c) = 3) && isTail e) = true) : badLen (c :: d :: e :: t) = 3 := by
  simp only [badLen]; rw [if_pos h, if_pos h2]
/-- the first unit: how many bytes, and is it a scalar's? -/
def unit (s : List UInt8) : Nat × Bool :=
  match dec s with
  | some (_, n) => (n, true)
  | none => (badLen s, false)

/-- do the bytes of some scalar begin so? (as the program asks) -/
def begB (p : List UInt8) : Bool :=
  (match dec (p ++ [128]) with | some (_, n) => n == p.length + 1 | none => false) || (match dec (p ++ [128, 128]) with | some (_, n) => n == p.length + 2 | none => false)

theorem rng_iff (c d : UInt8) : rng c d = true ↔ rowLo (b2i c) ≤ b2i d ∧ b2i d ≤ rowHi (b2i c) := by unfold rng; simp
theorem mif (p : Prop) [Decidable p] (x : Int) (m k : Nat) (h : (m == k) = false) : (match (if p then some (x, m) else none : Option (Int × Nat)) with | some (_, n) => n == k | none => false) = false := by
  by_cases h' : p
  · rw [if_pos h']; exact h
  · rw [if_neg h']
theorem b2i_128 : b2i 128 = 128 := rfl
theorem isTail_128 : isTail 128 = true := rfl
theorem beg_two (c d : UInt8) : begB [c, d] = (decide (2 ≤ rowN (b2i c)) && rng c d) := by
  have hr := rng_iff c d
  unfold begB
  simp only [List.cons_append, List.nil_append, List.length_cons, List.length_nil]
  rcases rowN_cases (b2i c) with e | e | e | e | e
  · rw [dec_bad (by omega), dec_bad (by omega), e]; rfl
  · rw [dec_zero e, dec_zero e, e]; rfl
  · rw [dec_one e, dec_one e, e, mif _ _ _ _ rfl, mif _ _ _ _ rfl]; rfl
  · have hlo := rowLo_ge (b2i c) (by omega)
    have hhi := rowHi_le (b2i c) (by omega)
    rw [dec_two e, dec_two e, e]
    by_cases h : rowLo (b2i c) ≤ b2i d ∧ b2i d ≤ rowHi (b2i c)
    · rw [if_pos (by rw [b2i_128]; omega), hr.2 h]; rfl
    · rw [if_neg (by omega), show rng c d = false by rw [← Bool.not_eq_true, hr]; exact h]; rfl
  · have hlo := rowLo_ge (b2i c) (by omega)
    have hhi := rowHi_le (b2i c) (by omega)
    rw [dec_short (by simp; omega), dec_three e, e]
    by_cases h : rowLo (b2i c) ≤ b2i d ∧ b2i d ≤ rowHi (b2i c)
    · rw [if_pos (by rw [b2i_128]; omega), hr.2 h]; rfl
    · rw [if_neg (by omega), show rng c d = false by rw [← Bool.not_eq_true, hr]; exact h]; rfl
theorem beg_three (c d e : UInt8) : begB [c, d, e] = (decide (rowN (b2i c) = 3) && rng c d && isTail e) := by
  have hr := rng_iff c d
  have ht := isTail_iff e
  unfold begB
  simp only [List.cons_append, List.nil_append, List.length_cons, List.length_nil]
  rcases rowN_cases (b2i c) with k | k | k | k | k
  · rw [dec_bad (by omega), dec_bad (by omega), k]; rfl
  · rw [dec_zero k, dec_zero k, k]; rfl
  · rw [dec_one k, dec_one k, k, mif _ _ _ _ rfl, mif _ _ _ _ rfl]; rfl
  · rw [dec_two k, dec_two k, k, mif _ _ _ _ rfl, mif _ _ _ _ rfl]; rfl
  · have hlo := rowLo_ge (b2i c) (by omega)
    have hhi := rowHi_le (b2i c) (by omega)
    rw [dec_three k, dec_three k, k]
    by_cases h : (rowLo (b2i c) ≤ b2i d ∧ b2i d ≤ rowHi (b2i c)) ∧ (128 ≤ b2i e ∧ b2i e ≤ 191)
    · rw [if_pos (by rw [b2i_128]; omega), hr.2 h.1, ht.2 h.2]; rfl
    · rw [if_neg (by omega)]
      have : (rng c d && isTail e) = false := by
        rw [← Bool.not_eq_true, Bool.and_eq_true, hr, ht]; exact h
      rw [show (decide ((3 : Int) = 3) && rng c d && isTail e) = (rng c d && isTail e) by simp, this]; rfl

theorem unit_some {s : List UInt8} {r : Int} {n : Nat} (h : dec s = some (r, n)) : unit s = (n, true) := by unfold unit; rw [h]
theorem unit_none {s : List UInt8} (h : dec s = none) : unit s = (badLen s, false) := by unfold unit; rw [h]
theorem badLen_le (s : List UInt8) : badLen s ≤ s.length ∧ badLen s ≤ 3 ∧ (s ≠ [] → 1 ≤ badLen s) := by
  match s with
  | [] => simp [badLen]
  | [_] => simp [badLen]
  | c :: d :: [] => simp only [badLen, List.length_cons, List.length_nil]; split <;> simp
  | c :: d :: e :: t => simp only [badLen, List.length_cons]; split <;> (try split) <;> simp <;> omega
theorem unit_le {s : List UInt8} (hs : s ≠ []) : 1 ≤ (unit s).1 ∧ (unit s).1 ≤ 4 ∧ (unit s).1 ≤ s.length := by
  cases h : dec s with
  | some p =>
    obtain ⟨r, n⟩ := p
    obtain ⟨_, _, h1, h2, h3⟩ := dec_some h
    rw [unit_some h]; exact ⟨h1, h2, h3⟩
  | none =>
    have := badLen_le s
    rw [unit_none h]
    exact ⟨this.2.2 hs, by omega, this.1⟩

/-- all units of a text -/
def unitsF : Nat → List UInt8 → List (Nat × Bool)
  | 0, _ => []
  | k + 1, s => if s = [] then [] else unit s :: unitsF k (s.drop (unit s).1)
def units (s : List UInt8) : List (Nat × Bool) := unitsF s.length s
theorem unitsF_more : ∀ (k j : Nat) (s : List UInt8), s.length ≤ k → s.length ≤ j → unitsF k s = unitsF j s
  | 0, j, s, h, _ => by
    have : s = [] := List.eq_nil_of_length_eq_zero (by omega)
    subst this; cases j <;> rfl
  | k + 1, 0, s, _, h => by
    have : s = [] := List.eq_nil_of_length_eq_zero (by omega)
    subst this; rfl
  | k + 1, j + 1, s, h, h' => by
    simp only [unitsF]
    split
    · rfl
    · rename_i hs
      have := unit_le hs
      rw [unitsF_more k j _ (by rw [List.length_drop]; omega) (by rw [List.length_drop]; omega)]
theorem units_nil : units [] = [] := rfl
theorem units_cons {s : List UInt8} (hs : s ≠ []) : units s = unit s :: units (s.drop (unit s).1) := by
  have h1 := unit_le hs
  unfold units
  cases hl : s.length with
  | zero => exact absurd (List.eq_nil_of_length_eq_zero hl) hs
  | succ k =>
    simp only [unitsF]
    rw [if_neg hs, unitsF_more k _ _ (by rw [List.length_drop]; omega) (Nat.le_refl _)]

/-- a unit, and where it begins -/
abbrev Place := Nat × Nat × Bool
def place : Nat → List (Nat × Bool) → List Place
  | _, [] => []
  | a, u :: us => (a, u.1, u.2) :: place (a + u.1) us
def places (s : List UInt8) : List Place := place 0 (units s)
/-- the places from one on -/
def rest (s : List UInt8) (a : Nat) : List Place := place a (units (s.drop a))
theorem rest_zero (s : List UInt8) : rest s 0 = places s := by unfold rest places; rw [List.drop_zero]
theorem rest_end (s : List UInt8) (a : Nat) (h : s.length ≤ a) : rest s a = [] := by unfold rest; rw [List.drop_eq_nil_of_le h]; rfl
theorem rest_cons (s : List UInt8) (a : Nat) (h : a < s.length) : rest s a = (a, (unit (s.drop a)).1, (unit (s.drop a)).2) :: rest s (a + (unit (s.drop a)).1) := by
  have hs : s.drop a ≠ [] := by intro e; rw [List.drop_eq_nil_iff] at e; omega
  unfold rest
  rw [units_cons hs, List.drop_drop]
  rfl

/-- where all units begin, and the end -/
def cuts (pl : List Place) : List Nat := 0 :: pl.map fun x => x.1 + x.2.1
/-- what stands for an ill-formed unit -/
def mark : List UInt8 := [239, 191, 189]
def mended (s : List UInt8) (x : Place) : List UInt8 := if x.2.2 then (s.drop x.1).take x.2.1 else mark
def repair (s : List UInt8) (pl : List Place) : List UInt8 := pl.flatMap (mended s)
def bad (pl : List Place) : Nat := (pl.filter fun x => !x.2.2).length
/-- the unit that begins at a place, that ends at one -/
def fwd (pl : List Place) (q : Int) : Option Place := pl.find? fun x => (x.1 : Int) == q
def bwd (pl : List Place) (q : Int) : Option Place := pl.find? fun x => ((x.1 + x.2.1 : Nat) : Int) == q
end Go.Proofs.YtbagecjkfcoapaaDoor.M
