/-
  Texts of this claim, one behind the other: NfaS, NfaT, NfaU, Held3, Df5, Df10.
-/
import Derived.Test.YtjemdepcaaadiaaGreatDoorH1
import Derived.Test.YtjemdepcaaadiaaGreatDoorH2
import Derived.Laws.AppendOwnNone
import Derived.Test.YtjemdepcaaadiaaGreatDoorH6
import Derived.Test.YtjemdepcaaadiaaGreatDoorH3

/- PLAIN. Where items end, and the states that say so: what a closed state holds. Nothing of any program. -/
namespace Go.Proofs.YtjemdepcaaadiaaGreatDoor.N

/-- the states that an even one stands for: the even ones from it on, over items that may be left out -/
theorem clo_bit (l : List Item) : ∀ (d n m : Nat), n % 2 = 0 → 2 * l.length ≤ n + 2 * d →
    ((clo l n).testBit m = true ↔ m = n ∨ (n ≤ m ∧ m % 2 = 0 ∧ m / 2 ≤ l.length ∧ ∀ i, n / 2 ≤ i → i < m / 2 → howAt l i ≠ 0)) := by
  intro d
  induction d with
  | zero =>
    intro n m hn hd
    rw [clo_end l n (by omega), Nat.testBit_two_pow]
    simp only [decide_eq_true_eq]
    constructor
    · intro h; exact .inl h.symm
    · rintro (h | ⟨h1, h2, h3, -⟩)
      · exact h.symm
      · omega
  | succ d ih =>
    intro n m hn hd
    by_cases hl : n / 2 < l.length
    · by_cases h0 : howAt l (n / 2) = 0
      · rw [clo_once l n h0, Nat.testBit_two_pow]
        simp only [decide_eq_true_eq]
        constructor
        · intro h; exact .inl h.symm
        · rintro (h | ⟨h1, h2, h3, h4⟩)
          · exact h.symm
          · rcases Nat.eq_or_lt_of_le h1 with h | h
            · exact h
            · exact absurd h0 (h4 (n / 2) (Nat.le_refl _) (by omega))
      · rw [clo_next l n hn hl h0, Nat.testBit_or, Nat.testBit_two_pow, Bool.or_eq_true, decide_eq_true_eq, ih (n + 2) m (by omega) (by omega)]
        constructor
        · rintro (h | h | ⟨h1, h2, h3, h4⟩)
          · exact .inl h.symm
          · exact .inr ⟨by omega, by omega, by omega, fun i h1 h2 => by
              obtain rfl : i = n / 2 := by omega
              exact h0⟩
          · refine .inr ⟨by omega, h2, h3, fun i h5 h6 => ?_⟩
            by_cases hi : i = n / 2
            · subst hi; exact h0
            · exact h4 i (by omega) h6
        · rintro (h | ⟨h1, h2, h3, h4⟩)
          · exact .inl h.symm
          · rcases Nat.eq_or_lt_of_le h1 with h | h
            · exact .inl h
            · by_cases h5 : m = n + 2
              · exact .inr (.inl h5)
              · exact .inr (.inr ⟨by omega, h2, h3, fun i h6 h7 => h4 i (by omega) h7⟩)
    · rw [clo_end l n (by omega), Nat.testBit_two_pow]
      simp only [decide_eq_true_eq]
      constructor
      · intro h; exact .inl h.symm
      · rintro (h | ⟨h1, h2, h3, -⟩)
        · exact h.symm
        · omega
theorem clo_even (l : List Item) (n m : Nat) (hn : n % 2 = 0) : (clo l n).testBit m = true ↔ m = n ∨ (n ≤ m ∧ m % 2 = 0 ∧ m / 2 ≤ l.length ∧ ∀ i, n / 2 ≤ i → i < m / 2 → howAt l i ≠ 0) :=
  clo_bit l l.length n m hn (by omega)

/-- a number at a place lies in an item's set -/
def okAt (l : List Item) (cs : List Int) (i j : Nat) : Prop := ∃ c, cs[j]? = some c ∧ hasC (setAt l i) c = true
def okOn (l : List Item) (cs : List Int) (i a k : Nat) : Prop := ∀ j, a ≤ j → j < k → okAt l cs i j
/-- an item goes from one place to another -/
def full (l : List Item) (cs : List Int) (i a b : Nat) : Prop := a ≤ b ∧ okOn l cs i a b ∧ (howAt l i = 0 → b = a + 1) ∧ (howAt l i = 2 → (b - a) % 2 = 0)
/-- the first items go from one place to another -/
def Ends (l : List Item) (cs : List Int) : Nat → Nat → Nat → Prop
  | 0, f, a => a = f
  | i + 1, f, a => ∃ b, Ends l cs i f b ∧ full l cs i b a
theorem Ends.le {l : List Item} {cs : List Int} : ∀ {i f a : Nat}, Ends l cs i f a → f ≤ a
  | 0, _, _, h => by unfold Ends at h; omega
  | i + 1, f, a, h => by obtain ⟨b, h1, h2⟩ := h; exact Nat.le_trans h1.le h2.1
/-- items that may be left out -/
theorem Ends.skip {l : List Item} {cs : List Int} {i f a : Nat} (h : Ends l cs i f a) : ∀ m, i ≤ m → (∀ j, i ≤ j → j < m → howAt l j ≠ 0) → Ends l cs m f a := by
  intro m
  induction m with
  | zero =>
    intro hm _
    have e : i = 0 := by omega
    rw [e] at h
    exact h
  | succ m ih =>
    intro hm hs
    by_cases hi : i = m + 1
    · subst hi; exact h
    · exact ⟨a, ih (by omega) (fun j h1 h2 => hs j h1 (by omega)), Nat.le_refl _, fun j h1 h2 => by omega, fun h0 => absurd h0 (hs m (by omega) (by omega)), fun _ => by simp⟩
end Go.Proofs.YtjemdepcaaadiaaGreatDoor.N

/- PLAIN. The states behind some numbers say where items end. Nothing of any program. -/
namespace Go.Proofs.YtjemdepcaaadiaaGreatDoor.N

def part (l : List Item) (cs : List Int) (i a k : Nat) : Prop := a ≤ k ∧ okOn l cs i a k ∧ (howAt l i = 0 → k = a) ∧ (howAt l i = 2 → (k - a) % 2 = 0)
def half (l : List Item) (cs : List Int) (i a k : Nat) : Prop := a ≤ k ∧ okOn l cs i a k ∧ howAt l i = 2 ∧ (k - a) % 2 = 1
def Stt (l : List Item) (st : Bool) (cs : List Int) (k m : Nat) : Prop := ∃ f a, (st = true → f = 0) ∧ Ends l cs (m / 2) f a ∧ (m % 2 = 0 → part l cs (m / 2) a k) ∧ (m % 2 = 1 → half l cs (m / 2) a k)

theorem part_self (l : List Item) (cs : List Int) (i a : Nat) : part l cs i a a := ⟨Nat.le_refl _, fun j h1 h2 => by omega, fun _ => rfl, fun _ => by simp⟩
theorem Ends.zero {l : List Item} {cs : List Int} : ∀ {i f a : Nat}, Ends l cs i f a → a ≤ f → ∀ j, j < i → howAt l j ≠ 0
  | 0, _, _, _, _, j, hj => by omega
  | i + 1, f, a, h, hl, j, hj => by
    obtain ⟨b, h1, h2, -, h4, -⟩ := h
    have := h1.le
    by_cases hji : j = i
    · subst hji; intro h0; have := h4 h0; omega
    · exact Ends.zero h1 (by omega) j (by omega)
theorem Ends.last {l : List Item} {cs : List Int} {k : Nat} : ∀ {i f : Nat}, Ends l cs i f (k + 1) → f ≤ k → ∃ j b, j < i ∧ b ≤ k ∧ Ends l cs j f b ∧ full l cs j b (k + 1) ∧ ∀ q, j < q → q < i → howAt l q ≠ 0
  | 0, f, h, hl => by unfold Ends at h; omega
  | i + 1, f, h, hl => by
    obtain ⟨b, h1, h2⟩ := h
    by_cases hb : b ≤ k
    · exact ⟨i, b, by omega, hb, h1, h2, fun q _ _ => by omega⟩
    · have e : b = k + 1 := by have := h2.1; omega
      subst e
      obtain ⟨j, b', h3, h4, h5, h6, h7⟩ := Ends.last h1 hl
      refine ⟨j, b', by omega, h4, h5, h6, fun q hq1 hq2 => ?_⟩
      by_cases hq : q = i
      · subst hq; intro h0; have := h2.2.2.1 h0; omega
      · exact h7 q hq1 (by omega)
theorem how_out {l : List Item} {i : Nat} (h : howAt l i ≠ 0) : i < l.length := by
  rcases Nat.lt_or_ge i l.length with h' | h'
  · exact h'
  · exfalso; apply h; unfold howAt; rw [List.getD_eq_getElem?_getD, List.getElem?_eq_none h']; rfl
theorem okOn.more {l : List Item} {cs : List Int} {i a k : Nat} (h : okOn l cs i a k) (hk : okAt l cs i k) : okOn l cs i a (k + 1) := fun j h1 h2 => by
  by_cases e : j = k
  · subst e; exact hk
  · exact h j h1 (by omega)
theorem okOn.less {l : List Item} {cs : List Int} {i a k : Nat} (h : okOn l cs i a (k + 1)) : okOn l cs i a k := fun j h1 h2 => h j h1 (by omega)

/-- behind a closed even state: items that may be left out -/
theorem clo_stt {l : List Item} {st : Bool} {cs : List Int} {k n m f : Nat} (hn : n % 2 = 0) (hf : st = true → f = 0) (he : Ends l cs (n / 2) f k) (hm : (clo l n).testBit m = true) : Stt l st cs k m := by
  rcases (clo_even l n m hn).1 hm with rfl | ⟨h1, h2, h3, h4⟩
  · exact ⟨f, k, hf, he, fun _ => part_self .., fun h => by omega⟩
  · exact ⟨f, k, hf, he.skip (m / 2) (by omega) h4, fun _ => part_self .., fun h => by omega⟩
theorem clo_part {l : List Item} {st : Bool} {cs : List Int} {k n m f a : Nat} (hn : n % 2 = 0) (hf : st = true → f = 0) (he : Ends l cs (n / 2) f a) (hp : part l cs (n / 2) a k) (h0 : howAt l (n / 2) ≠ 0) (hm : (clo l n).testBit m = true) : Stt l st cs k m := by
  rcases (clo_even l n m hn).1 hm with rfl | ⟨h1, h2, h3, h4⟩
  · exact ⟨f, a, hf, he, fun _ => hp, fun h => by omega⟩
  · by_cases e : m = n
    · subst e; exact ⟨f, a, hf, he, fun _ => hp, fun h => by omega⟩
    · have hE : Ends l cs (n / 2 + 1) f k := ⟨a, he, hp.1, hp.2.1, fun h => absurd h h0, hp.2.2.2⟩
      exact ⟨f, k, hf, hE.skip (m / 2) (by omega) (fun j h5 h6 => h4 j (by omega) h6), fun _ => part_self .., fun h => by omega⟩

theorem stt_fwd {l : List Item} {st : Bool} {cs : List Int} (hh : ∀ i, howAt l i = 0 ∨ howAt l i = 1 ∨ howAt l i = 2) {k n m : Nat} (h : Stt l st cs k n) (hk : okAt l cs (n / 2) k) (hm : (clo l (goto l n)).testBit m = true) : Stt l st cs (k + 1) m := by
  obtain ⟨f, a, hf, he, hp, hq⟩ := h
  by_cases hn : n % 2 = 1
  · obtain ⟨h1, h2, h3, h4⟩ := hq hn
    have hg : goto l n = n - 1 := by unfold goto; rw [if_pos hn]
    rw [hg] at hm
    have e : (n - 1) / 2 = n / 2 := by omega
    refine clo_part (n := n - 1) (a := a) (by omega) hf (by rw [e]; exact he) ?_ (by rw [e, h3]; decide) hm
    rw [e]
    exact ⟨by omega, h2.more hk, (fun h => by rw [h3] at h; cases h), fun _ => by omega⟩
  · have hn0 : n % 2 = 0 := by omega
    obtain ⟨h1, h2, h3, h4⟩ := hp hn0
    unfold goto at hm
    rw [if_neg hn] at hm
    rcases hh (n / 2) with e | e | e
    · rw [if_pos e] at hm
      have := h3 e
      subst this
      refine clo_stt (n := n + 2) (by omega) hf ?_ hm
      rw [show (n + 2) / 2 = n / 2 + 1 by omega]
      exact ⟨k, he, by omega, h2.more hk, fun _ => rfl, (fun h => by rw [e] at h; cases h)⟩
    · rw [if_neg (by rw [e]; decide), if_pos e] at hm
      exact clo_part hn0 hf he ⟨by omega, h2.more hk, (fun h => by rw [e] at h; cases h), (fun h => by rw [e] at h; cases h)⟩ (by rw [e]; decide) hm
    · rw [if_neg (by rw [e]; decide), if_neg (by rw [e]; decide), clo_odd l _ (by omega), Nat.testBit_two_pow, decide_eq_true_eq] at hm
      subst hm
      have e2 : (n + 1) / 2 = n / 2 := by omega
      have := h4 e
      exact ⟨f, a, hf, by rw [e2]; exact he, fun h => by omega, fun _ => by rw [e2]; exact ⟨by omega, h2.more hk, e, by omega⟩⟩

theorem stt_back {l : List Item} {st : Bool} {cs : List Int} (hh : ∀ i, howAt l i = 0 ∨ howAt l i = 1 ∨ howAt l i = 2) {k m : Nat} (hm : m ≤ 2 * l.length) (h : Stt l st cs (k + 1) m) :
    (st = false ∧ (clo l 0).testBit m = true) ∨ ∃ n, n < 2 * l.length ∧ Stt l st cs k n ∧ okAt l cs (n / 2) k ∧ (clo l (goto l n)).testBit m = true := by
  obtain ⟨f, a, hf, he, hp, hq⟩ := h
  by_cases hm1 : m % 2 = 1
  · obtain ⟨h1, h2, h3, h4⟩ := hq hm1
    have e2 : (m - 1) / 2 = m / 2 := by omega
    refine .inr ⟨m - 1, by omega, ⟨f, a, hf, by rw [e2]; exact he, fun _ => by rw [e2]; exact ⟨by omega, h2.less, (fun h => by rw [h3] at h; cases h), fun _ => by omega⟩, fun h => by omega⟩, by rw [e2]; exact h2 k (by omega) (by omega), ?_⟩
    unfold goto
    rw [if_neg (by omega), e2, if_neg (by rw [h3]; decide), if_neg (by rw [h3]; decide), show m - 1 + 1 = m by omega]
    exact clo_self l m
  · have hm0 : m % 2 = 0 := by omega
    obtain ⟨h1, h2, h3, h4⟩ := hp hm0
    by_cases ha : a ≤ k
    · have h0 : howAt l (m / 2) ≠ 0 := fun h => by have := h3 h; omega
      have hlt := how_out h0
      have hok := h2 k (by omega) (by omega)
      rcases hh (m / 2) with e | e | e
      · exact absurd e h0
      · refine .inr ⟨m, by omega, ⟨f, a, hf, he, fun _ => ⟨ha, h2.less, fun h => absurd h h0, (fun h => by rw [e] at h; cases h)⟩, fun h => by omega⟩, hok, ?_⟩
        unfold goto
        rw [if_neg hm1, if_neg h0, if_pos e]
        exact clo_self l m
      · have := h4 e
        have e2 : (m + 1) / 2 = m / 2 := by omega
        refine .inr ⟨m + 1, by omega, ⟨f, a, hf, by rw [e2]; exact he, fun h => by omega, fun _ => by rw [e2]; exact ⟨ha, h2.less, e, by omega⟩⟩, by rw [e2]; exact hok, ?_⟩
        unfold goto
        rw [if_pos (by omega), show m + 1 - 1 = m by omega]
        exact clo_self l m
    · have ea : a = k + 1 := by omega
      subst ea
      by_cases hfk : f ≤ k
      · obtain ⟨j, b, hj, hb, hE, hF, hS⟩ := Ends.last he hfk
        have hok : okAt l cs j k := hF.2.1 k (by omega) (by omega)
        have hskip : howAt l j ≠ 0 → (clo l (2 * j)).testBit m = true := fun h0 => (clo_even l (2 * j) m (by omega)).2 (.inr ⟨by omega, hm0, by omega, fun i h5 h6 => by
          by_cases e : i = j
          · subst e; exact h0
          · exact hS i (by omega) (by omega)⟩)
        have hjl : j < l.length := by omega
        rcases hh j with e | e | e
        · have := hF.2.2.1 e
          have eb : b = k := by omega
          subst eb
          refine .inr ⟨2 * j, by omega, ⟨f, b, hf, by rw [show 2 * j / 2 = j by omega]; exact hE, fun _ => part_self .., fun h => by omega⟩, by rw [show 2 * j / 2 = j by omega]; exact hok, ?_⟩
          unfold goto
          rw [if_neg (by omega), show 2 * j / 2 = j by omega, if_pos e]
          exact (clo_even l (2 * j + 2) m (by omega)).2 (.inr ⟨by omega, hm0, by omega, fun i h5 h6 => hS i (by omega) (by omega)⟩)
        · refine .inr ⟨2 * j, by omega, ⟨f, b, hf, by rw [show 2 * j / 2 = j by omega]; exact hE, fun _ => by rw [show 2 * j / 2 = j by omega]; exact ⟨hb, hF.2.1.less, (fun h => by rw [e] at h; cases h), (fun h => by rw [e] at h; cases h)⟩, fun h => by omega⟩, by rw [show 2 * j / 2 = j by omega]; exact hok, ?_⟩
          unfold goto
          rw [if_neg (by omega), show 2 * j / 2 = j by omega, if_neg (by rw [e]; decide), if_pos e]
          exact hskip (by rw [e]; decide)
        · have := hF.2.2.2 e
          refine .inr ⟨2 * j + 1, by omega, ⟨f, b, hf, by rw [show (2 * j + 1) / 2 = j by omega]; exact hE, fun h => by omega, fun _ => by rw [show (2 * j + 1) / 2 = j by omega]; exact ⟨hb, hF.2.1.less, e, by omega⟩⟩, by rw [show (2 * j + 1) / 2 = j by omega]; exact hok, ?_⟩
          unfold goto
          rw [if_pos (by omega), show 2 * j + 1 - 1 = 2 * j by omega]
          exact hskip (by rw [e]; decide)
      · have := he.le
        have hz := he.zero (by omega)
        have hst : st = false := by
          cases st with
          | false => rfl
          | true => have := hf rfl; omega
        refine .inl ⟨hst, (clo_even l 0 m rfl).2 ?_⟩
        exact .inr ⟨by omega, hm0, by omega, fun i _ h6 => hz i h6⟩

/-- the states behind k numbers -/
theorem at_stt (l : List Item) (st : Bool) (cs : List Int) (hh : ∀ i, howAt l i = 0 ∨ howAt l i = 1 ∨ howAt l i = 2) : ∀ k, k ≤ cs.length → ∀ m, m ≤ 2 * l.length → ((at' l st (clo l 0) cs k).testBit m = true ↔ Stt l st cs k m) := by
  intro k
  induction k with
  | zero =>
    intro _ m hm
    rw [at_zero]
    constructor
    · intro h; exact clo_stt (n := 0) (f := 0) rfl (fun _ => rfl) rfl h
    · rintro ⟨f, a, hf, he, hp, hq⟩
      by_cases hm1 : m % 2 = 1
      · obtain ⟨h1, -, -, h4⟩ := hq hm1; omega
      · obtain ⟨h1, -, -, -⟩ := hp (by omega)
        have := he.le
        exact (clo_even l 0 m rfl).2 (.inr ⟨by omega, by omega, by omega, fun i _ h => he.zero (by omega) i h⟩)
  | succ k ih =>
    intro hk m hm
    obtain ⟨c, hc⟩ : ∃ c, cs[k]? = some c := ⟨_, List.getElem?_eq_getElem (by omega)⟩
    rw [at_succ l st _ cs k c hc]
    unfold step
    rw [fill_bit]
    have hgo : ∀ n, n < 2 * l.length → (goes l (at' l st (clo l 0) cs k) c n = true ↔ Stt l st cs k n ∧ okAt l cs (n / 2) k) := fun n hn => by
      unfold goes
      rw [Bool.and_eq_true, ih (by omega) n (by omega)]
      constructor
      · rintro ⟨h1, h2⟩; exact ⟨h1, c, hc, h2⟩
      · rintro ⟨h1, c', hc', h2⟩; rw [hc] at hc'; cases hc'; exact ⟨h1, h2⟩
    constructor
    · rintro (h | ⟨n, h1, h2, h3⟩)
      · unfold init at h
        cases st with
        | true => simp at h
        | false =>
          rw [if_neg (by decide)] at h
          exact clo_stt (n := 0) (f := k + 1) rfl (fun h => by cases h) rfl h
      · obtain ⟨h4, h5⟩ := (hgo n h1).1 h2
        exact stt_fwd hh h4 h5 h3
    · intro h
      rcases stt_back hh hm h with ⟨hs, h'⟩ | ⟨n, h1, h2, h3, h4⟩
      · left; unfold init; rw [hs, if_neg (by decide)]; exact h'
      · exact .inr ⟨n, h1, (hgo n h1).2 ⟨h2, h3⟩, h4⟩

/-- all is done behind k numbers just if all items end there, from some place on -/
theorem done_iff (l : List Item) (st : Bool) (cs : List Int) (hh : ∀ i, howAt l i = 0 ∨ howAt l i = 1 ∨ howAt l i = 2) (k : Nat) (hk : k ≤ cs.length) :
    doneB l (at' l st (clo l 0) cs k) = true ↔ ∃ f, (st = true → f = 0) ∧ f ≤ k ∧ Ends l cs l.length f k := by
  unfold doneB
  rw [at_stt l st cs hh k hk _ (Nat.le_refl _)]
  unfold Stt
  rw [show 2 * l.length / 2 = l.length by omega]
  constructor
  · rintro ⟨f, a, hf, he, hp, -⟩
    have h3 := (hp (by omega)).2.2.1 (by
      unfold howAt; rw [List.getD_eq_getElem?_getD, List.getElem?_eq_none (Nat.le_refl _)]; rfl)
    subst h3
    exact ⟨f, hf, he.le, he⟩
  · rintro ⟨f, hf, -, he⟩
    exact ⟨f, k, hf, he, fun _ => part_self .., fun h => by omega⟩
/-- the numbers behind a place count for nothing -/
theorem okAt_take {l : List Item} {cs : List Int} {k i j : Nat} (h : j < k) : okAt l (cs.take k) i j ↔ okAt l cs i j := by
  unfold okAt
  rw [List.getElem?_take, if_pos h]
theorem full_take {l : List Item} {cs : List Int} {k i a b : Nat} (h : b ≤ k) : full l (cs.take k) i a b ↔ full l cs i a b := by
  unfold full okOn
  constructor
  · rintro ⟨h1, h2, h3⟩; exact ⟨h1, fun j h4 h5 => (okAt_take (by omega)).1 (h2 j h4 h5), h3⟩
  · rintro ⟨h1, h2, h3⟩; exact ⟨h1, fun j h4 h5 => (okAt_take (by omega)).2 (h2 j h4 h5), h3⟩
theorem Ends_take {l : List Item} {cs : List Int} {k : Nat} : ∀ {i f a : Nat}, a ≤ k → (Ends l (cs.take k) i f a ↔ Ends l cs i f a)
  | 0, _, _, _ => Iff.rfl
  | i + 1, f, a, h => by
    constructor
    · rintro ⟨b, h1, h2⟩
      exact ⟨b, (Ends_take (Nat.le_trans h2.1 h)).1 h1, (full_take h).1 h2⟩
    · rintro ⟨b, h1, h2⟩
      exact ⟨b, (Ends_take (Nat.le_trans h2.1 h)).2 h1, (full_take h).2 h2⟩
end Go.Proofs.YtjemdepcaaadiaaGreatDoor.N

/- PLAIN. Where an item ends, as a list. Nothing of any program. -/
namespace Go.Proofs.YtjemdepcaaadiaaGreatDoor.N

/-- how many numbers from a place on lie in an item's set, one by one -/
def runLen (l : List Item) (cs : List Int) (i a : Nat) : Nat := ((cs.drop a).takeWhile fun c => hasC (setAt l i) c).length
theorem while_iff (p : Int → Bool) : ∀ (t : List Int) (j : Nat), (∀ x, x < j → ∃ c, t[x]? = some c ∧ p c = true) ↔ j ≤ (t.takeWhile p).length
  | [], j => by
    simp only [List.takeWhile_nil, List.length_nil]
    constructor
    · intro h
      rcases Nat.eq_zero_or_pos j with h0 | h0
      · omega
      · obtain ⟨c, hc, -⟩ := h 0 h0; simp at hc
    · intro h x hx; omega
  | c :: t, j => by
    cases j with
    | zero => exact ⟨fun _ => Nat.zero_le _, fun _ x hx => by omega⟩
    | succ j =>
      by_cases hc : p c = true
      · rw [List.takeWhile_cons_of_pos hc, List.length_cons]
        have ih := while_iff p t j
        constructor
        · intro h
          have := ih.1 fun x hx => by
            obtain ⟨d, h1, h2⟩ := h (x + 1) (by omega)
            exact ⟨d, by simpa using h1, h2⟩
          omega
        · intro h x hx
          cases x with
          | zero => exact ⟨c, rfl, hc⟩
          | succ x =>
            obtain ⟨d, h1, h2⟩ := ih.2 (by omega) x (by omega)
            exact ⟨d, by simpa using h1, h2⟩
      · rw [List.takeWhile_cons_of_neg hc, List.length_nil]
        constructor
        · intro h
          obtain ⟨d, h1, h2⟩ := h 0 (by omega)
          simp at h1
          subst h1
          exact absurd h2 hc
        · intro h; omega
theorem okOn_iff (l : List Item) (cs : List Int) (i a b : Nat) (h : a ≤ b) : okOn l cs i a b ↔ b ≤ a + runLen l cs i a := by
  have hw := while_iff (fun c => hasC (setAt l i) c) (cs.drop a) (b - a)
  unfold runLen
  constructor
  · intro ho
    have := hw.1 fun x hx => by
      obtain ⟨c, h1, h2⟩ := ho (a + x) (by omega) (by omega)
      exact ⟨c, by rw [List.getElem?_drop]; exact h1, h2⟩
    omega
  · intro hb j h1 h2
    obtain ⟨c, h3, h4⟩ := hw.2 (by omega) (j - a) (by omega)
    rw [List.getElem?_drop, show a + (j - a) = j by omega] at h3
    exact ⟨c, h3, h4⟩
/-- where an item may end that begins at a place -/
def nexts (l : List Item) (cs : List Int) (i a : Nat) : List Nat :=
  if howAt l i = 0 then (if runLen l cs i a = 0 then [] else [a + 1])
  else if howAt l i = 1 then (List.range (runLen l cs i a + 1)).map (a + ·)
  else ((List.range (runLen l cs i a + 1)).filter fun d => d % 2 == 0).map (a + ·)
theorem nexts_iff {l : List Item} {cs : List Int} (hh : ∀ i, howAt l i = 0 ∨ howAt l i = 1 ∨ howAt l i = 2) (i a b : Nat) : b ∈ nexts l cs i a ↔ full l cs i a b := by
  unfold nexts full
  rcases hh i with e | e | e
  · rw [if_pos e]
    constructor
    · intro h
      split at h
      · exact absurd h List.not_mem_nil
      · rename_i h0
        simp only [List.mem_singleton] at h
        subst h
        exact ⟨by omega, (okOn_iff l cs i a (a + 1) (by omega)).2 (by omega), fun _ => rfl, fun h => by rw [e] at h; cases h⟩
    · rintro ⟨h1, h2, h3, -⟩
      have hb := h3 e
      subst hb
      have := (okOn_iff l cs i a (a + 1) (by omega)).1 h2
      rw [if_neg (by omega)]
      exact List.mem_singleton.2 rfl
  · rw [if_neg (by rw [e]; decide), if_pos e]
    simp only [List.mem_map, List.mem_range]
    constructor
    · rintro ⟨d, h1, rfl⟩
      exact ⟨by omega, (okOn_iff l cs i a (a + d) (by omega)).2 (by omega), (fun h => by rw [e] at h; cases h), fun h => by rw [e] at h; cases h⟩
    · rintro ⟨h1, h2, -⟩
      have := (okOn_iff l cs i a b h1).1 h2
      exact ⟨b - a, by omega, by omega⟩
  · rw [if_neg (by rw [e]; decide), if_neg (by rw [e]; decide)]
    simp only [List.mem_map, List.mem_filter, List.mem_range, beq_iff_eq]
    constructor
    · rintro ⟨d, ⟨h1, h2⟩, rfl⟩
      exact ⟨by omega, (okOn_iff l cs i a (a + d) (by omega)).2 (by omega), (fun h => by rw [e] at h; cases h), fun _ => by omega⟩
    · rintro ⟨h1, h2, -, h4⟩
      have := (okOn_iff l cs i a b h1).1 h2
      have := h4 e
      exact ⟨b - a, ⟨by omega, by omega⟩, by omega⟩
end Go.Proofs.YtjemdepcaaadiaaGreatDoor.N

/- APPEND OF ALL OF A SLICE, among other pieces. Nothing of any program. -/
namespace Go.Proofs.YtjemdepcaaadiaaGreatDoor
open Go.RowKit

/-- a slice whose m elements have these cells -/
def CellsOf (W : World) (v : Value) (m : Nat) (cs : List Value) : Prop :=
  (v = .slice none 0 0 ∧ m = 0 ∧ cs = []) ∨ ∃ ad c, v = .slice (some ad) m c ∧ ∀ j u, cs[j]? = some u → W.cell? (ad.add j) = some u
theorem wpList_spread {P : Program} {w0 : World} {ops : Array Oper} {rest : List Oper} {o : Oper} {a : Act} {Q : Exit → Act → World → Prop} (hgd : o.guard = none) (s x : Operand) (t : TypeId)
    (ho : o.op = .call { callee := .builtin .append, args := #[s, x], argTypes := #[t, t] }) {base : Nat} {e : TypeId} {sz bytes : Nat} (hP : PushesN P t e sz bytes) (hsz : 0 < sz) {ps : List Pc} (hS : Sep ps w0) (k : Nat) {v xv : Value} {cs : List Value} {n m : Nat} {xs : List Value}
    (hk : ps[k]? = some (Pc.row base e sz v n xs)) (hs : a.eval s = v) (hx : a.eval x = xv) (hX : CellsOf w0 xv m cs) (hc : cs.length = m * sz) (h1 : ∀ u ∈ cs, u.oneCell' = true) (hn : n + m ≤ 1000000000) (hby : bytes ≤ 10000) (hbase : base ≤ w0.heap.size)
    (h : ∀ v' w', Sep (ps.set k (Pc.row base e sz v' (n + m) (xs ++ cs))) w' → wpList P ops Q rest (a.put o.dst v') w') : wpList P ops Q (o :: rest) a w0 := by
  obtain ⟨i, z, ht, hi, hz0, hz1, hz2, hz3⟩ := hP.out
  rcases hX with ⟨rfl, rfl, rfl⟩ | ⟨ad, c, rfl, hcl⟩
  · refine wpList_append_own_none hgd s x t ho base e i sz ht hi v n xs hs (hS.row k hk) hx ?_
    have := h v w0
    rw [Nat.add_zero, List.append_nil, show ps.set k (Pc.row base e sz v n xs) = ps by
      obtain ⟨h2, h3⟩ := List.getElem?_eq_some_iff.1 hk
      rw [← h3, List.set_getElem_self]] at this
    exact this hS
  · have hb : (n + m) * bytes ≤ 1000000000 * 10000 := Nat.mul_le_mul hn hby
    refine wpList_append_own_at _ hgd s x t ho base e i z sz bytes ht hi hz0 hz1 hz2 hz3 hsz v n xs hs (hS.row k hk) ad m c cs hx hc hcl h1 (by unfold maxLen; omega) (by omega) hbase ?_
    intro v' w' hown hgrow _ hat
    exact h v' w' (hS.grow k hk hgrow hown (by
      rcases hat with e1 | e1
      · exact .inl e1
      · exact .inr (fun q hq => by rw [e1] at hq; simp only [Option.some.injEq] at hq; omega)))
end Go.Proofs.YtjemdepcaaadiaaGreatDoor

/- THE LAWS OF LAYER 12, WALKED: rules' machines. -/
namespace Go.Proofs.YtjemdepcaaadiaaGreatDoor
open Go.RowKit Go.Shelf
attribute [local go_sem] Oper.semAt_some

theorem few12_len (l : List D.Rule) : (few12 l).length ≤ 6 := by unfold few12; rw [List.length_take]; omega
theorem few12_fit (l : List D.Rule) : ∀ x ∈ few12 l, ruleFit x := by
  intro x hx
  unfold few12 few11 at hx
  obtain ⟨y, -, rfl⟩ := List.mem_map.1 (List.mem_of_mem_take hx)
  unfold ruleFit cutR
  simp only [List.length_take]
  omega
theorem build_rows (sd : List D.Side) (n : Nat) : ∀ k, ∀ r ∈ (D.build sd n k).next, r.length = n + 1
  | 0, r, h => absurd h List.not_mem_nil
  | k + 1, r, h => by
    have e : D.build sd n (k + 1) = (D.build sd n k).go sd n := rfl
    rw [e] at h
    unfold D.Bld.go at h
    split at h
    · exact build_rows sd n k r h
    · rcases List.mem_append.1 h with h | h
      · exact build_rows sd n k r h
      · rw [List.mem_singleton.1 h, D.row_len]
theorem compM_fit (rs : List D.Rule) (n : Int) : MachFit (compM rs n) := by
  unfold compM
  split
  · rename_i h
    rw [Bool.and_eq_true] at h
    obtain ⟨h1, h2, h3, -⟩ := rulesB_parts h.1
    have hf : (D.build (lefts rs) n.toNat 300).todo.length ≤ 300 := of_decide_eq_true h.2
    have hl := D.build_len (lefts rs) n.toNat 300
    have hr := build_rows (lefts rs) n.toNat 300
    unfold machOf machB MachFit
    generalize D.build (lefts rs) n.toNat 300 = BB at *
    refine ⟨by simp only [List.length_map]; omega, by simp only [List.length_map]; omega, fun r hr' => ?_⟩
    obtain ⟨r0, h5, rfl⟩ := List.mem_map.1 hr'
    rw [List.length_map, hr r0 h5]
    omega
  · exact ⟨by decide, by decide, fun r hr => absurd hr List.not_mem_nil⟩

end Go.Proofs.YtjemdepcaaadiaaGreatDoor

/- A MACHINE CUT, numbers cut: the laws' Table and list (layer 12). -/
namespace Go.Proofs.YtjemdepcaaadiaaGreatDoor
open Go.RowKit Go.Shelf
attribute [local go_sem] Oper.semAt_some

theorem ints_take {w : World} {ao : Option Addr} {cap : Nat} {xs : List Int} (h : IntsAt w (.slice ao xs.length cap) xs) (n : Nat) : IntsAt w (.slice ao (xs.take n).length cap) (xs.take n) := by
  rcases h with ⟨h1, rfl⟩ | ⟨b, off, sp, cap, h1, h2, h3, h4⟩
  · injection h1 with h1 h2 h3
    subst h1 h3
    simp [IntsAt]
  · injection h1 with h1 h2' h3'
    subst h1 h3'
    refine .inr ⟨b, off, sp, _, rfl, by rw [List.length_take]; omega, h3, fun hn => ?_⟩
    have hn' : xs ≠ [] := by rintro rfl; simp at hn
    refine ⟨(h4 hn').1, (h4 hn').2.1, fun i x hx => (h4 hn').2.2 i x ?_⟩
    rw [List.getElem?_take] at hx
    split at hx
    · exact hx
    · cases hx
theorem ints_cap {w : World} {ao : Option Addr} {cap n : Nat} {xs : List Int} (h : IntsAt w (.slice ao n cap) xs) : xs.length ≤ cap ∧ cap ≤ 9223372036854775807 := by
  rcases h with ⟨h1, rfl⟩ | ⟨b, off, sp, cap, h1, h2, h3, h4⟩
  · injection h1 with h1 h2 h3; subst h3; simp
  · injection h1 with h1 h2' h3'; subst h3'; unfold maxLen at h3; omega
def list12 (l : List Int) : List Int := l.take 30
def tableM (M : D.Mach) : D.Mach := ((M.1.take 302).map fun r => r.take 34, M.2.take 302)
theorem tableM_fit (M : D.Mach) : MachFit (tableM M) := by
  unfold tableM MachFit
  refine ⟨by simp only [List.length_map, List.length_take]; omega, by simp only [List.length_take]; omega, fun r hr => ?_⟩
  obtain ⟨r0, -, rfl⟩ := List.mem_map.1 hr
  rw [List.length_take]
  omega
theorem rows_own {W : World} {base n : Nat} {T : TypeId} {v : Value} {vs : List Value} {L : List (List Int)} (h : W.ownsRow base T 1 v n vs) (hn : n = L.length) (hV : ∀ (i : Nat) (r : List Int), L[i]? = some r → ∃ x, vs[i]? = some x ∧ IntsAt W x r) : RowsAt W v L := by
  subst hn
  rcases h.2 with ⟨h1, h2⟩ | ⟨g, cap, cur, h1, h2, h3, h4, h5, h6, h7⟩
  · rw [List.eq_nil_of_length_eq_zero h2]; exact .inl ⟨h1, rfl⟩
  · refine .inr ⟨g, 0, none, cap, h1, h4, h5, fun hn => ⟨rfl, (Array.getElem?_eq_some_iff.1 h3).1, fun i r hr => ?_⟩⟩
    obtain ⟨x, hx, hi⟩ := hV i r hr
    refine ⟨x, ?_, hi⟩
    have h8 := h.cells (g := g) (by rw [h1]; rfl) i x hx
    rw [show (⟨g, 0, none⟩ : Addr).add i = ⟨g, 0 + i, none⟩ by unfold Addr.add; split <;> simp_all] at h8
    exact h8

theorem list12_any (v : Value) (l : List Int) (w : World) (hv : IntsAt w v l) :
    Calls Tryz.prog 7 #[v] w fun e w' => (∃ v', e = .returned v' ∧ IntsAt w v' (list12 l)) ∧ w = w' := by
  obtain ⟨ao, cap, rfl⟩ := hv.slice
  obtain ⟨hc1, hc2⟩ := ints_cap hv
  have HT := Box.mk (ints_take hv 30)
  clear hv
  unfold list12
  rcases Nat.lt_or_ge 30 l.length with h | h
  · go_enter Tryz.func7, Tryz.ntmps7
    go_wp2_with fail
    go_ret
    refine ⟨⟨_, rfl, ?_⟩, rfl⟩
    have := HT.out
    rw [show (l.take 30).length = 30 by rw [List.length_take]; omega] at this
    exact this
  · go_enter Tryz.func7, Tryz.ntmps7
    go_wp2_with fail
    go_ret
    refine ⟨⟨_, rfl, ?_⟩, rfl⟩
    have := HT.out
    rw [List.take_of_length_le h] at this ⊢
    exact this

/-- rows with their values, that can be read -/
def RowsV (W : World) (vs : List Value) (L : List (List Int)) : Prop := vs.length = L.length ∧ ∀ (i : Nat) (r : List Int), L[i]? = some r → ∃ x, vs[i]? = some x ∧ IntsAt W x r
theorem RowsV.snoc {W : World} {vs : List Value} {L : List (List Int)} (h : RowsV W vs L) {x : Value} {r : List Int} (hx : IntsAt W x r) : RowsV W (vs ++ [x]) (L ++ [r]) := by
  refine ⟨by rw [List.length_append, List.length_append, h.1]; rfl, fun i q hq => ?_⟩
  rcases Nat.lt_or_ge i L.length with hl | hl
  · rw [List.getElem?_append_left hl] at hq
    obtain ⟨y, hy, h2⟩ := h.2 i q hq
    exact ⟨y, by rw [List.getElem?_append_left (by rw [h.1]; exact hl)]; exact hy, h2⟩
  · rw [List.getElem?_append_right hl] at hq
    have hi0 : i - L.length = 0 := by have := (List.getElem?_eq_some_iff.1 hq).1; simp at this; omega
    rw [hi0] at hq
    simp only [List.getElem?_cons_zero, Option.some.injEq] at hq
    subst hq
    exact ⟨x, by rw [List.getElem?_append_right (by rw [h.1]; exact hl), h.1, hi0]; rfl, hx⟩
def cutRow (r : List Int) : List Int := r.take 34

set_option maxRecDepth 100000 in
set_option maxHeartbeats 8000000 in
theorem table_any (v : Value) (M : D.Mach) (w : World) (hv : MachAt w v M) :
    Calls Tryz.prog 6 #[v] w fun e w' => Below w.heap.size w w' ∧ ∃ nv fv, e = .returned (.agg #[nv, fv]) ∧ (∀ g, nv.ownBlock = some g → w.heap.size ≤ g) ∧ RowsAt w' nv (tableM M).1 ∧ IntsAt w' fv (tableM M).2 := by
  obtain ⟨na, fa, rfl, hra, hia⟩ := hv
  have HRA := Box.mk hra
  obtain ⟨aa, ca, rfl⟩ := hra.slice
  obtain ⟨fo, fc, rfl⟩ := hia.slice
  obtain ⟨hf1, hf2⟩ := ints_cap hia
  have HFT := Box.mk (ints_take hia 302)
  obtain ⟨nf, hnf⟩ : ∃ nf, (M.2.take 302).length = nf := ⟨_, rfl⟩
  have HNF := Box.mk (show nf = min 302 M.2.length by rw [← hnf, List.length_take])
  rw [hnf] at HFT
  have HNFE := Box.mk hnf
  obtain ⟨m, hm⟩ : ∃ m, m = min M.1.length 302 := ⟨_, rfl⟩
  have HM := Box.mk hm
  have hm1 : m ≤ M.1.length := by omega
  have hm2 : m ≤ 302 := by omega
  obtain ⟨w3, hw3⟩ : ∃ w3, w3 = ((w.alloc (.cells #[.slice aa M.1.length ca, .slice fo M.2.length fc] 25)).alloc (.cells #[.slice none 0 0, .slice none 0 0] 25)).alloc (.cells #[.slice none 0 0, .slice fo nf fc] 25) := ⟨_, rfl⟩
  have HS3 := Box.mk (show ∃ vs, RowsV w vs ((M.1.take 0).map cutRow) ∧ Sep [Pc.row w.heap.size 26 1 (.slice none 0 0) 0 vs, Pc.blk (w.heap.size + 1 + 1) 25 #[.slice none 0 0, .slice fo nf fc], Pc.blk (w.heap.size + 1) 25 #[.slice none 0 0, .slice none 0 0], Pc.blk w.heap.size 25 #[.slice aa M.1.length ca, .slice fo M.2.length fc], Pc.old w.heap.size w] w3 by
    have h1 := (((Sep.start w).alloc_blk 25 #[.slice aa M.1.length ca, .slice fo M.2.length fc]).alloc_blk 25 #[.slice none 0 0, .slice none 0 0]).alloc_blk 25 #[.slice none 0 0, .slice fo nf fc]
    refine ⟨[], ⟨rfl, fun i r h => by simp at h⟩, ?_⟩
    rw [hw3]
    have h2 := h1.nil_row w.heap.size 1 26
    simpa using h2)
  have HW3 := Box.mk hw3
  clear hra hia hm hnf hw3
  go_enter Tryz.func6, Tryz.ntmps6
  rcases (show (302 < M.2.length ∧ nf = 302) ∨ (M.2.length ≤ 302 ∧ nf = M.2.length) by have := HNF.out; omega) with ⟨hq, hq2⟩ | ⟨hq, hq2⟩
  all_goals
    have hw3 := HW3.out
    go_upto_region 2 with (fail)
    first | rw [hq2] at hw3 | skip
    rw [← hw3]
    clear hw3 hq hq2
    go_wp2_with fail
    go_loopw [4] (fun i wr => ∃ k : Nat, k ≤ m ∧ i = .int .i64 k ∧ Box (∃ nv vs, RowsV w vs ((M.1.take k).map cutRow) ∧ Sep [Pc.row w.heap.size 26 1 nv k vs, Pc.blk (w.heap.size + 1 + 1) 25 #[nv, .slice fo nf fc], Pc.blk (w.heap.size + 1) 25 #[.slice none 0 0, .slice none 0 0], Pc.blk w.heap.size 25 #[.slice aa M.1.length ca, .slice fo M.2.length fc], Pc.old w.heap.size w] wr)) (fun i _ => m - (intOf i).toNat)
    case atStart => obtain ⟨vs, h1, h2⟩ := HS3.out; exact ⟨0, by omega, rfl, ⟨_, vs, h1, h2⟩⟩
    case round =>
      obtain ⟨k, hk, rfl, hbox⟩ := hrel
      obtain ⟨nv, vs, hvs, hsep⟩ := hbox.out
      have HVS := Box.mk hvs
      have HSEP := Box.mk hsep
      have HBR := Box.mk (show Below w.heap.size w wr from hsep.bel (by simp))
      obtain ⟨no, nc, rfl, hn1, hn2⟩ := own_shape (hsep.row 0 rfl)
      have HG3 := Box.mk (hsep.blk 1 rfl)
      have HG2 := Box.mk (hsep.blk 2 rfl)
      have HG1 := Box.mk (hsep.blk 3 rfl)
      have g1 : wr.cell? ⟨w.heap.size, 0, none⟩ = some (.slice aa M.1.length ca) := (HG1.out.cell 0).trans rfl
      have l1 := HG1.out.lt
      clear hvs hsep hbox
      by_cases hlt : k < m
      · obtain ⟨x, hx⟩ : ∃ x, M.1[k]? = some x := ⟨_, List.getElem?_eq_getElem (by omega)⟩
        obtain ⟨pa, oa, ca', ha0, ha1, ha2, ha3, ha4⟩ := HRA.out.get (by intro e; rw [e] at hx; simp at hx)
        obtain ⟨rfl, rfl⟩ : aa = some ⟨pa, oa, none⟩ ∧ ca = ca' := by injection ha0 with h1 h2 h3; exact ⟨h1, h3⟩
        obtain ⟨xv, hxc, hxi⟩ := ha4 k x hx
        obtain ⟨xo, xc, rfl⟩ := hxi.slice
        obtain ⟨hx1, hx2⟩ := ints_cap hxi
        have HXT := Box.mk (ints_take hxi 34)
        obtain ⟨q, hq⟩ : ∃ q, (x.take 34).length = q := ⟨_, rfl⟩
        have HQ := Box.mk (show q = min 34 x.length by rw [← hq, List.length_take])
        rw [hq] at HXT
        have HTK := Box.mk (take_snoc'' M.1 k x hx)
        have HFF := Box.mk (show ∀ W, Below wr.heap.size wr W → W.cell? ⟨w.heap.size + 1 + 1, 0, none⟩ = some (.slice no k nc) ∧ W.cell? ⟨w.heap.size, 0, none⟩ = some (.slice (some ⟨pa, oa, none⟩) M.1.length ca) ∧ W.cell? ⟨pa, oa + k, none⟩ = some (.slice xo x.length xc) from fun W h =>
          ⟨((HG3.out.below h HG3.out.lt).cell 0).trans rfl, ((HG1.out.below h HG1.out.lt).cell 0).trans rfl, ((HBR.out.trans (h.mono HBR.out.size)).cell (p := ⟨pa, oa + k, none⟩) ha3).trans hxc⟩)
        have HBD := Box.mk (show Below wr.heap.size wr wr.drew from ⟨rfl, rfl, rfl, Nat.le_refl _, fun _ _ => rfl⟩)
        have HSD := Box.mk HSEP.out.drew
        have hbsd : w.heap.size ≤ wr.drew.heap.size := HBR.out.size
        have hk302 : k < 302 := by omega
        have hkl : k < M.1.length := by omega
        have hkc : k < ca := by omega
        have l3 := HG3.out.lt
        unfold maxLen at ha2
        clear ha0 ha4 hx hxc hxi hq
        go_wp2_with fail
        rcases (show ((34 : Int) < (x.length : Int) ∧ (34 : Int) ≤ (xc : Int) ∧ q = 34) ∨ (¬ (34 : Int) < (x.length : Int) ∧ (x.length : Int) ≤ (xc : Int) ∧ q = x.length) by have := HQ.out; omega) with ⟨hq1, hq3, rfl⟩ | ⟨hq1, hq3, rfl⟩
        all_goals
          refine wp_region_K 16 (fun W => W.cell? ⟨w.heap.size + 1 + 1, 0, none⟩ = some (.slice no k nc) ∧ W.cell? ⟨w.heap.size, 0, none⟩ = some (.slice (some ⟨pa, oa, none⟩) M.1.length ca) ∧ W.cell? ⟨pa, oa + k, none⟩ = some (.slice xo x.length xc)) (by kernel_rfl) ?_
          have HF0 := Box.mk (HFF.out _ HBD.out)
          have HFA := Box.mk (fun o => HFF.out _ (HBD.out.alloc HBD.out.size o))
          generalize wr.drew = WR at *
          refine wpAnyK_take (i := 0) (v := ?_) rfl (by kernel_rfl) (fun _ _ _ h => h) (Or.inl ⟨by kernel_rfl, ?_⟩) HF0.out ?_
          rotate_left
          · first | (intro w hw; obtain ⟨q1, q2, q3⟩ := hw; go_simp; done) | (intro w hw; obtain ⟨q1, q2, q3⟩ := hw; go_simp; with_reducible rfl)
          refine wpAnyK_take (i := 1) (v := ?_) rfl (by kernel_rfl) (fun _ _ _ h => h) (Or.inl ⟨by kernel_rfl, ?_⟩) HF0.out ?_
          rotate_left
          · first | (intro w hw; obtain ⟨q1, q2, q3⟩ := hw; go_simp; done) | (intro w hw; obtain ⟨q1, q2, q3⟩ := hw; go_simp; with_reducible rfl)
          refine wpAnyK_take (i := 2) (v := ?_) rfl (by kernel_rfl) (fun _ _ _ h => h) (Or.inl ⟨by kernel_rfl, ?_⟩) HF0.out ?_
          rotate_left
          · first | (intro w hw; obtain ⟨q1, q2, q3⟩ := hw; go_simp; done) | (intro w hw; obtain ⟨q1, q2, q3⟩ := hw; go_simp; with_reducible rfl)
          refine wpAnyK_take (i := 3) (v := ?_) rfl (by kernel_rfl) (fun _ _ _ h => h) (Or.inl ⟨by kernel_rfl, ?_⟩) HF0.out ?_
          rotate_left
          · first | (intro w hw; obtain ⟨q1, q2, q3⟩ := hw; go_simp; done) | (intro w hw; obtain ⟨q1, q2, q3⟩ := hw; go_simp; with_reducible rfl)
          refine wpAnyK_take (i := 4) (v := ?_) rfl (by kernel_rfl) (fun _ _ _ h => h) (Or.inl ⟨by kernel_rfl, ?_⟩) HF0.out ?_
          rotate_left
          · first | (intro w hw; obtain ⟨q1, q2, q3⟩ := hw; go_simp; done) | (intro w hw; obtain ⟨q1, q2, q3⟩ := hw; go_simp; with_reducible rfl)
          refine wpAnyK_take (i := 5) (v := ?_) rfl (by kernel_rfl) (fun _ _ _ h => h) (Or.inl ⟨by kernel_rfl, ?_⟩) HF0.out ?_
          rotate_left
          · first | (intro w hw; obtain ⟨q1, q2, q3⟩ := hw; go_simp; done) | (intro w hw; obtain ⟨q1, q2, q3⟩ := hw; go_simp; with_reducible rfl)
          refine wpAnyK_take (i := 6) (v := ?_) rfl (by kernel_rfl) (fun _ _ _ h => h) (Or.inl ⟨by kernel_rfl, ?_⟩) HF0.out ?_
          rotate_left
          · first | (intro w hw; obtain ⟨q1, q2, q3⟩ := hw; go_simp; done) | (intro w hw; obtain ⟨q1, q2, q3⟩ := hw; go_simp; with_reducible rfl)
          refine wpAnyK_take (i := 7) (v := ?_) rfl (by kernel_rfl) (fun _ _ _ h => h) (Or.inl ⟨by kernel_rfl, ?_⟩) HF0.out ?_
          rotate_left
          · first | (intro w hw; obtain ⟨q1, q2, q3⟩ := hw; go_simp; done) | (intro w hw; obtain ⟨q1, q2, q3⟩ := hw; go_simp; with_reducible rfl)
          refine wpAnyK_take (i := 8) (v := ?_) rfl (by kernel_rfl) (fun _ _ _ h => h) (Or.inl ⟨by kernel_rfl, ?_⟩) HF0.out ?_
          rotate_left
          · first | (intro w hw; obtain ⟨q1, q2, q3⟩ := hw; go_simp; done) | (intro w hw; obtain ⟨q1, q2, q3⟩ := hw; go_simp; with_reducible rfl)
          refine wpAnyK_take (i := 9) (v := ?_) rfl (by kernel_rfl) (fun _ _ _ h => h) (Or.inl ⟨by kernel_rfl, ?_⟩) HF0.out ?_
          rotate_left
          · first | (intro w hw; obtain ⟨q1, q2, q3⟩ := hw; go_simp; done) | (intro w hw; obtain ⟨q1, q2, q3⟩ := hw; go_simp; with_reducible rfl)
          refine wpAnyK_take (i := 10) (v := ?_) rfl (by kernel_rfl) (fun _ _ _ h => h) (Or.inl ⟨by kernel_rfl, ?_⟩) HF0.out ?_
          rotate_left
          · first | (intro w hw; obtain ⟨q1, q2, q3⟩ := hw; go_simp; done) | (intro w hw; obtain ⟨q1, q2, q3⟩ := hw; go_simp; with_reducible rfl)
          refine wpAnyK_take (i := 11) (v := ?_) rfl (by kernel_rfl) (fun _ _ _ h => h) (Or.inl ⟨by kernel_rfl, ?_⟩) HF0.out ?_
          rotate_left
          · first | (intro w hw; obtain ⟨q1, q2, q3⟩ := hw; go_simp; done) | (intro w hw; obtain ⟨q1, q2, q3⟩ := hw; go_simp; with_reducible rfl)
          refine wpAnyK_take (i := 12) (v := ?_) rfl (by kernel_rfl) (fun _ _ _ h => h) (Or.inl ⟨by kernel_rfl, ?_⟩) HF0.out ?_
          rotate_left
          · first | (intro w hw; obtain ⟨q1, q2, q3⟩ := hw; go_simp; done) | (intro w hw; obtain ⟨q1, q2, q3⟩ := hw; go_simp; with_reducible rfl)
          refine wpAnyK_take (i := 13) (v := ?_) rfl (by kernel_rfl) (fun _ _ _ h => h) (Or.inl ⟨by kernel_rfl, ?_⟩) HF0.out ?_
          rotate_left
          · first | (intro w hw; obtain ⟨q1, q2, q3⟩ := hw; go_simp; done) | (intro w hw; obtain ⟨q1, q2, q3⟩ := hw; go_simp; with_reducible rfl)
          refine wpAnyK_take (i := 14) (v := ?_) rfl (by kernel_rfl) (fun _ _ _ h => h) (Or.inl ⟨by kernel_rfl, ?_⟩) HF0.out ?_
          rotate_left
          · first | (intro w hw; obtain ⟨q1, q2, q3⟩ := hw; go_simp; done) | (intro w hw; obtain ⟨q1, q2, q3⟩ := hw; go_simp; with_reducible rfl)
          refine wpAnyK_one (i := 15) (by kernel_rfl) rfl (fun KK hKK => ?_)
          go_simp
          refine hKK.out _ _ (fun _ => HFA.out _) ?_
          clear hKK KK
          refine wpAnyK_one (i := 16) (by kernel_rfl) rfl (fun KK hKK => ?_)
          refine step_push rfl _ _ 22 rfl pushRowsInt HSD.out 0 rfl (by kernel_rfl) (by kernel_rfl) rfl (by omega) (by omega) hbsd ?_
          rintro v' w9 hS9 ⟨g9, c9, rfl, h91, h92⟩
          refine hKK.out _ _ (fun h => by cases h) ?_
          clear hKK KK
          have HB9 := Box.mk (hS9.blk 1 rfl)
          have z0 := (HB9.out.cell 0).trans (show _ = some (Value.slice no k nc) from rfl)
          have z1 := HB9.out.frozen 0
          have z2 := HB9.out.lt
          have HS10 := Box.mk (hS9.set 1 rfl 0 (.slice (some ⟨g9, 0, none⟩) (k + 1) c9))
          clear hS9
          refine wpAnyK_one (i := 17) (by kernel_rfl) rfl (fun KK hKK => ?_)
          go_simp
          refine hKK.out _ _ (fun h => by cases h) ?_
          clear hKK KK
          refine wpAnyK_one (i := 18) (by kernel_rfl) rfl (fun KK hKK => ?_)
          go_simp
          refine hKK.out _ _ (fun h => by cases h) ?_
          clear hKK KK
          refine wpAnyK_done (by kernel_rfl) ?_ _
          refine NoPanic.normal ?_
          have HN := Box.mk (show ∃ nv vs, RowsV w vs ((M.1.take (k + 1)).map cutRow) ∧ Sep [Pc.row w.heap.size 26 1 nv (k + 1) vs, Pc.blk (w.heap.size + 1 + 1) 25 #[nv, .slice fo nf fc], Pc.blk (w.heap.size + 1) 25 #[.slice none 0 0, .slice none 0 0], Pc.blk w.heap.size 25 #[.slice (some ⟨pa, oa, none⟩) M.1.length ca, .slice fo M.2.length fc], Pc.old w.heap.size w] _ by
            refine ⟨_, _, ?_, HS10.out⟩
            rw [HTK.out, List.map_append]
            exact HVS.out.snoc HXT.out)
          go_wp2_with fail
          go_roundw
          case rel => exact ⟨k + 1, hlt, by go_num, HN⟩
          case measure => simp [intOf]; omega
      · have hkm : k = m := by omega
        have HKM := Box.mk hkm
        have hd : M.1.length ≤ k ∨ (k < M.1.length ∧ 302 ≤ k) := by have := HM.out; omega
        have z0 : wr.cell? ⟨w.heap.size + 1 + 1, 0, none⟩ = some (.slice no k nc) := (HG3.out.cell 0).trans rfl
        have z1 : wr.cell? ⟨w.heap.size + 1 + 1, 1, none⟩ = some (.slice fo nf fc) := (HG3.out.cell 1).trans rfl
        have z2 := HG3.out.lt
        have y0 := (HG2.out.cell 0).trans (show _ = some (Value.slice none 0 0) from rfl)
        have y1 := (HG2.out.cell 1).trans (show _ = some (Value.slice none 0 0) from rfl)
        have f0 := HG2.out.frozen 0
        have f1 := HG2.out.frozen 1
        have y2 := HG2.out.lt
        have HS9 := Box.mk ((HSEP.out.set 2 rfl 0 (.slice no k nc)).set 2 rfl 1 (.slice fo nf fc))
        have HTM := Box.mk (show (M.1.take k).map cutRow = (tableM M).1 by
          unfold tableM
          simp only
          rw [HKM.out, HM.out]
          rcases Nat.le_total M.1.length 302 with h | h
          · rw [Nat.min_eq_left h, List.take_length, List.take_of_length_le h]; rfl
          · rw [Nat.min_eq_right h]; rfl)
        have HKL := Box.mk (show k = ((M.1.take k).map cutRow).length by rw [List.length_map, List.length_take]; have := HM.out; omega)
        clear hkm
        rcases hd with hd | ⟨hd, hd2⟩
        all_goals
          go_wp2_with fail
          have hb9 := HS9.out.bel (n := w.heap.size) (W0 := w) (by simp)
          refine bodyPost_ret (v := .agg #[.slice no k nc, .slice fo nf fc]) (results_cell_row Tryz.results6 _ _ (w.heap.size + 1) 25 _ (0, 0) _ rfl (HS9.out.blk 2 rfl) Tryz.underlying25 rfl machInfo) rfl ⟨hb9, _, _, rfl, fun g hg => ((HS9.out.row 0 rfl).lt g hg).1, ?_, ?_⟩
          · rw [← HTM.out]
            exact rows_own (HS9.out.row 0 rfl) HKL.out (fun i r hr => by
              obtain ⟨x, hx, hi⟩ := HVS.out.2 i r hr
              exact ⟨x, hx, hi.below hb9⟩)
          · exact HFT.out.below hb9
end Go.Proofs.YtjemdepcaaadiaaGreatDoor
