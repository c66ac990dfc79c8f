/-
  PLAIN. The places that items may end at, as the document makes them: one truth for each place. Nothing of any program.
-/
import Derived.Test.YtbpcipobdokcfaaGreatDoorH9
namespace Go.Proofs.YtbpcipobdokcfaaGreatDoor
open Go.RowKit

namespace N
/-- what has been laid at a place ahead of its own turn, and of halves -/
def goR (x : Item) (cs : List Int) (F : List Bool) : Nat → Bool × Bool
  | 0 => (false, false)
  | i + 1 =>
    let fo := (goR x cs F i).1 || (F.getD i false && decide (x.2 ≠ 0))
    if hasC x.1 (cs.getD i (-1)) = true then (if x.2 = 0 then (F.getD i false, false) else if x.2 = 1 then (fo, false) else ((goR x cs F i).2, fo)) else (false, false)
def foR (x : Item) (cs : List Int) (F : List Bool) (i : Nat) : Bool := (goR x cs F i).1 || (F.getD i false && decide (x.2 ≠ 0))
def outR (x : Item) (cs : List Int) (F : List Bool) : List Bool := (List.range (cs.length + 1)).map (foR x cs F)
def reachR (cs : List Int) : List Item → List Bool → List Bool
  | [], F => F
  | x :: t, F => reachR cs t (outR x cs F)
theorem outR_len (x : Item) (cs : List Int) (F : List Bool) : (outR x cs F).length = cs.length + 1 := by unfold outR; simp
theorem outR_get {x : Item} {cs : List Int} {F : List Bool} {i : Nat} (h : i ≤ cs.length) : (outR x cs F).getD i false = foR x cs F i := by
  unfold outR
  rw [List.getD_eq_getElem?_getD, List.getElem?_map, List.getElem?_range (by omega)]
  rfl
theorem reachR_len {cs : List Int} : ∀ {l : List Item} {F : List Bool}, F.length = cs.length + 1 → (reachR cs l F).length = cs.length + 1
  | [], _, h => h
  | x :: t, F, _ => by
    show (reachR cs t (outR x cs F)).length = _
    exact reachR_len (outR_len x cs F)
theorem reachR_snoc (cs : List Int) (y : Item) : ∀ (l : List Item) (F : List Bool), reachR cs (l ++ [y]) F = outR y cs (reachR cs l F)
  | [], _ => rfl
  | _ :: t, _ => reachR_snoc cs y t _
theorem okAt_get {l : List Item} {cs : List Int} {k i : Nat} (hi : i < cs.length) : okAt l cs k i ↔ hasC (l.getD k (0, 0)).1 (cs.getD i (-1)) = true := by
  unfold okAt
  rw [List.getD_eq_getElem?_getD (l := cs), List.getElem?_eq_getElem hi]
  constructor
  · rintro ⟨c, hc, h⟩
    injection hc with hc
    rw [hc]
    exact h
  · intro h
    exact ⟨_, rfl, h⟩
theorem goR_iff {l : List Item} {cs : List Int} {k : Nat} {F : List Bool} (hh : howAt l k = 0 ∨ howAt l k = 1 ∨ howAt l k = 2) :
    ∀ i, i ≤ cs.length → ((goR (l.getD k (0, 0)) cs F i).1 = true ↔ ∃ b, b < i ∧ F.getD b false = true ∧ full l cs k b i) ∧ ((goR (l.getD k (0, 0)) cs F i).2 = true ↔ howAt l k = 2 ∧ ∃ b, b < i ∧ F.getD b false = true ∧ okOn l cs k b i ∧ (i - b) % 2 = 1)
  | 0, _ => by
    refine ⟨⟨fun h => by simp [goR] at h, fun ⟨b, h, _⟩ => by omega⟩, ⟨fun h => by simp [goR] at h, fun ⟨_, b, h, _⟩ => by omega⟩⟩
  | i + 1, hi => by
    obtain ⟨ih1, ih2⟩ := goR_iff (cs := cs) (F := F) hh i (by omega)
    have hok := okAt_get (l := l) (cs := cs) (k := k) (show i < cs.length by omega)
    have hfo : foR (l.getD k (0, 0)) cs F i = true ↔ ∃ b, b ≤ i ∧ F.getD b false = true ∧ full l cs k b i := by
      unfold foR
      rw [Bool.or_eq_true, ih1, Bool.and_eq_true, decide_eq_true_eq]
      constructor
      · rintro (⟨b, h1, h2, h3⟩ | ⟨h1, h2⟩)
        · exact ⟨b, by omega, h2, h3⟩
        · exact ⟨i, Nat.le_refl _, h1, Nat.le_refl _, fun j h3 h4 => by omega, fun h => absurd h h2, fun _ => by simp⟩
      · rintro ⟨b, h1, h2, h3⟩
        rcases Nat.eq_or_lt_of_le h1 with e | e
        · subst e
          refine .inr ⟨h2, fun h0 => ?_⟩
          have := h3.2.2.1 h0
          omega
        · exact .inl ⟨b, e, h2, h3⟩
    have hon : ∀ b, b ≤ i → (okOn l cs k b (i + 1) ↔ okOn l cs k b i ∧ okAt l cs k i) := fun b hb =>
      ⟨fun h => ⟨fun j h1 h2 => h j h1 (by omega), h i hb (by omega)⟩, fun ⟨h, h'⟩ j h1 h2 => by
        rcases Nat.eq_or_lt_of_le (show j ≤ i by omega) with e | e
        · rw [e]; exact h'
        · exact h j h1 e⟩
    have hhow : (l.getD k (0, 0)).2 = howAt l k := rfl
    have e : goR (l.getD k (0, 0)) cs F (i + 1) = if hasC (l.getD k (0, 0)).1 (cs.getD i (-1)) = true then (if howAt l k = 0 then (F.getD i false, false) else if howAt l k = 1 then (foR (l.getD k (0, 0)) cs F i, false) else ((goR (l.getD k (0, 0)) cs F i).2, foR (l.getD k (0, 0)) cs F i)) else (false, false) := rfl
    rw [e]
    by_cases hc : hasC (l.getD k (0, 0)).1 (cs.getD i (-1)) = true
    rotate_left
    · rw [if_neg hc]
      have hno : ¬ okAt l cs k i := fun h => hc (hok.1 h)
      refine ⟨⟨fun h => absurd h Bool.false_ne_true, fun ⟨b, h1, _, h3⟩ => absurd (h3.2.1 i (by omega) (by omega)) hno⟩, ⟨fun h => absurd h Bool.false_ne_true, fun ⟨_, b, h1, _, h3, _⟩ => absurd (h3 i (by omega) (by omega)) hno⟩⟩
    rw [if_pos hc]
    have hyes := hok.2 hc
    rcases hh with h0 | h1 | h2
    · rw [if_pos h0]
      refine ⟨⟨fun h => ⟨i, by omega, h, by omega, fun j h3 h4 => ?_, fun _ => rfl, fun h => by omega⟩, fun ⟨b, h3, h4, h5⟩ => ?_⟩, ⟨fun h => absurd h Bool.false_ne_true, fun ⟨h, _⟩ => by omega⟩⟩
      · obtain rfl : j = i := by omega
        exact hyes
      · have := h5.2.2.1 h0
        obtain rfl : b = i := by omega
        exact h4
    · rw [if_neg (by omega), if_pos h1]
      refine ⟨?_, ⟨fun h => absurd h Bool.false_ne_true, fun ⟨h, _⟩ => by omega⟩⟩
      rw [hfo]
      constructor
      · rintro ⟨b, h3, h4, h5⟩
        exact ⟨b, by omega, h4, by omega, (hon b h3).2 ⟨h5.2.1, hyes⟩, fun h => by omega, fun h => by omega⟩
      · rintro ⟨b, h3, h4, h5⟩
        exact ⟨b, by omega, h4, by omega, ((hon b (by omega)).1 h5.2.1).1, fun h => by omega, fun h => by omega⟩
    · rw [if_neg (by omega), if_neg (by omega)]
      refine ⟨?_, ?_⟩
      · rw [ih2]
        constructor
        · rintro ⟨-, b, h3, h4, h5, h6⟩
          exact ⟨b, by omega, h4, by omega, (hon b (by omega)).2 ⟨h5, hyes⟩, fun h => by omega, fun _ => by omega⟩
        · rintro ⟨b, h3, h4, h5⟩
          have hp := h5.2.2.2 h2
          refine ⟨h2, b, by omega, h4, ((hon b (by omega)).1 h5.2.1).1, by omega⟩
      · rw [hfo]
        constructor
        · rintro ⟨b, h3, h4, h5⟩
          have hp := h5.2.2.2 h2
          exact ⟨h2, b, by omega, h4, (hon b h3).2 ⟨h5.2.1, hyes⟩, by omega⟩
        · rintro ⟨-, b, h3, h4, h5, h6⟩
          exact ⟨b, by omega, h4, by omega, ((hon b (by omega)).1 h5).1, fun h => by omega, fun _ => by omega⟩
theorem foR_iff {l : List Item} {cs : List Int} {k : Nat} {F : List Bool} (hh : howAt l k = 0 ∨ howAt l k = 1 ∨ howAt l k = 2) {i : Nat} (hi : i ≤ cs.length) :
    foR (l.getD k (0, 0)) cs F i = true ↔ ∃ b, b ≤ i ∧ F.getD b false = true ∧ full l cs k b i := by
  unfold foR
  rw [Bool.or_eq_true, (goR_iff (F := F) hh i hi).1, Bool.and_eq_true, decide_eq_true_eq]
  constructor
  · rintro (⟨b, h1, h2, h3⟩ | ⟨h1, h2⟩)
    · exact ⟨b, by omega, h2, h3⟩
    · exact ⟨i, Nat.le_refl _, h1, Nat.le_refl _, fun j h3 h4 => by omega, fun h => absurd h h2, fun _ => by simp⟩
  · rintro ⟨b, h1, h2, h3⟩
    rcases Nat.eq_or_lt_of_le h1 with e | e
    · subst e
      refine .inr ⟨h2, fun h0 => ?_⟩
      have := h3.2.2.1 h0
      omega
    · exact .inl ⟨b, e, h2, h3⟩
/-- where a pattern's items may begin: at one place -/
def oneR (n p : Nat) : List Bool := (List.range n).map fun i => i == p
theorem oneR_len (n p : Nat) : (oneR n p).length = n := by unfold oneR; simp
theorem oneR_get {n p i : Nat} (h : i < n) : (oneR n p).getD i false = (i == p) := by
  unfold oneR
  rw [List.getD_eq_getElem?_getD, List.getElem?_map, List.getElem?_range h]
  rfl
theorem reachR_iff {l : List Item} {cs : List Int} (hh : ∀ i, howAt l i = 0 ∨ howAt l i = 1 ∨ howAt l i = 2) {p : Nat} (hp : p ≤ cs.length) :
    ∀ k, k ≤ l.length → ∀ i, i ≤ cs.length → ((reachR cs (l.take k) (oneR (cs.length + 1) p)).getD i false = true ↔ Ends l cs k p i)
  | 0, _, i, hi => by
    rw [List.take_zero, reachR, oneR_get (by omega), beq_iff_eq]
    exact Iff.rfl
  | k + 1, hk, i, hi => by
    have ih := reachR_iff (cs := cs) hh hp k (by omega)
    have hx : l[k]? = some (l.getD k (0, 0)) := by
      rw [List.getD_eq_getElem?_getD, List.getElem?_eq_getElem (by omega)]
      rfl
    have ht : l.take (k + 1) = l.take k ++ [l.getD k (0, 0)] := by
      rw [List.take_add_one, hx]
      rfl
    rw [ht, reachR_snoc, outR_get hi, foR_iff (hh k) hi]
    constructor
    · rintro ⟨b, h1, h2, h3⟩
      exact ⟨b, (ih b (by omega)).1 h2, h3⟩
    · rintro ⟨b, h1, h2⟩
      exact ⟨b, h2.1, (ih b (by have := h2.1; omega)).2 h1, h2⟩
theorem Ends.top {l : List Item} {cs : List Int} : ∀ {i f a : Nat}, f ≤ cs.length → Ends l cs i f a → a ≤ cs.length
  | 0, f, a, hf, h => by unfold Ends at h; omega
  | i + 1, f, a, hf, h => by
    obtain ⟨b, h1, h2⟩ := h
    have hb := h1.top hf
    rcases Nat.eq_or_lt_of_le h2.1 with e | e
    · omega
    · obtain ⟨c, hc, -⟩ := h2.2.1 (a - 1) (by omega) (by omega)
      have := (List.getElem?_eq_some_iff.1 hc).1
      omega
end N

/-- the document's answer whether a pattern fits from a place on -/
def aheadR (st : Bool) (l : List N.Item) (cs : List Int) (p : Int) : Bool :=
  rightB l && decide (0 ≤ p) && decide (p ≤ cs.length) && !(st && decide (0 < p)) && (N.reachR cs l (N.oneR (cs.length + 1) p.toNat)).any id
theorem ahead_same (st : Bool) (l : List N.Item) (cs : List Int) (p : Int) : aheadR st l cs p = aheadB st l cs p := by
  unfold aheadR aheadB
  cases hr : rightB l with
  | false => rfl
  | true =>
    by_cases h0 : 0 ≤ p ∧ p ≤ cs.length
    rotate_left
    · by_cases h1 : 0 ≤ p
      · rw [decide_eq_false (show ¬ p ≤ cs.length by omega)]
        simp
      · rw [decide_eq_false h1]
        simp
    obtain ⟨n, rfl⟩ := Int.eq_ofNat_of_zero_le h0.1
    have hn : n ≤ cs.length := by omega
    congr 1
    rw [Int.toNat_natCast, Bool.eq_iff_iff, decide_eq_true_eq, List.any_eq_true]
    have hi := N.reachR_iff (l := l) (cs := cs) (hows hr) hn l.length (Nat.le_refl _)
    have ho := outI_iff (l := l) (cs := cs) (hows hr) n l.length (Nat.le_refl _)
    rw [List.take_length] at hi
    have hlen : (N.reachR cs l (N.oneR (cs.length + 1) n)).length = cs.length + 1 := N.reachR_len (N.oneR_len _ _)
    constructor
    · rintro ⟨b, hb, hb2⟩
      obtain ⟨i, hi1, hi2⟩ := List.getElem_of_mem hb
      have he := (hi i (by omega)).1 (by rw [List.getD_eq_getElem?_getD, List.getElem?_eq_getElem hi1, hi2]; exact hb2)
      have hm := (ho (i : Int)).2 ⟨i, rfl, he⟩
      exact List.length_pos_of_mem hm
    · intro hpos
      obtain ⟨b, hb⟩ := List.exists_mem_of_length_pos hpos
      obtain ⟨i, rfl, he⟩ := (ho b).1 hb
      have htop := he.top hn
      have hg := (hi i htop).2 he
      refine ⟨_, List.getElem_mem (l := N.reachR cs l (N.oneR (cs.length + 1) n)) (n := i) (by omega), ?_⟩
      rw [List.getD_eq_getElem?_getD, List.getElem?_eq_getElem (by omega)] at hg
      exact hg
end Go.Proofs.YtbpcipobdokcfaaGreatDoor
