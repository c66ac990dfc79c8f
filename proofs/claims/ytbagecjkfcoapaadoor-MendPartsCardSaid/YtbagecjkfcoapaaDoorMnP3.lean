/-
  PLAIN. Where units stand: steps forth and back, cuts by their number; nothing of any program.
-/
import Derived.Test.YtbagecjkfcoapaaDoorMnP2
namespace Go.Proofs.YtbagecjkfcoapaaDoor.M
open U

theorem rest_ind {s : List UInt8} {P : Nat → Prop} (h0 : ∀ a, s.length ≤ a → P a) (h1 : ∀ a, a < s.length → P (a + (unit (s.drop a)).1) → P a) : ∀ a, P a := by
  have key : ∀ (k a : Nat), s.length ≤ a + k → P a := by
    intro k
    induction k with
    | zero => intro a h; exact h0 a (by omega)
    | succ k ih =>
      intro a h
      by_cases hs : s.length ≤ a
      · exact h0 a hs
      · have hne : s.drop a ≠ [] := by intro e; rw [List.drop_eq_nil_iff] at e; omega
        have := unit_le hne
        exact h1 a (by omega) (ih _ (by omega))
  exact fun a => key s.length a (by omega)
theorem unit_at {s : List UInt8} {a : Nat} (h : a < s.length) : 1 ≤ (unit (s.drop a)).1 ∧ (unit (s.drop a)).1 ≤ 4 ∧ a + (unit (s.drop a)).1 ≤ s.length := by
  have hne : s.drop a ≠ [] := by intro e; rw [List.drop_eq_nil_iff] at e; omega
  have := unit_le hne
  rw [List.length_drop] at this
  omega
theorem rest_mem (s : List UInt8) : ∀ a, ∀ x ∈ rest s a, a ≤ x.1 ∧ x.1 < s.length ∧ (x.2.1, x.2.2) = unit (s.drop x.1) ∧ x.1 + x.2.1 ≤ s.length ∧ 1 ≤ x.2.1 ∧ x.2.1 ≤ 4 := by
  refine rest_ind (s := s) (fun a h x hx => ?_) (fun a h ih x hx => ?_)
  · rw [rest_end s a h] at hx; exact absurd hx List.not_mem_nil
  · rw [rest_cons s a h] at hx
    have hu := unit_at h
    rcases List.mem_cons.1 hx with rfl | hx
    · exact ⟨Nat.le_refl _, h, rfl, hu.2.2, hu.1, hu.2.1⟩
    · have := ih x hx
      exact ⟨by omega, this.2⟩
theorem fwd_mem (s : List UInt8) : ∀ a, ∀ x ∈ rest s a, fwd (rest s a) x.1 = some x := by
  refine rest_ind (s := s) (fun a h x hx => ?_) (fun a h ih x hx => ?_)
  · rw [rest_end s a h] at hx; exact absurd hx List.not_mem_nil
  · have hu := unit_at h
    rw [rest_cons s a h] at hx ⊢
    unfold fwd
    rcases List.mem_cons.1 hx with rfl | hx
    · rw [List.find?_cons_of_pos]; simp
    · have := rest_mem s _ x hx
      rw [List.find?_cons_of_neg]
      · exact ih x hx
      · simp; omega
theorem bwd_mem (s : List UInt8) : ∀ a, ∀ x ∈ rest s a, bwd (rest s a) ((x.1 + x.2.1 : Nat) : Int) = some x := by
  refine rest_ind (s := s) (fun a h x hx => ?_) (fun a h ih x hx => ?_)
  · rw [rest_end s a h] at hx; exact absurd hx List.not_mem_nil
  · rw [rest_cons s a h] at hx ⊢
    unfold bwd
    rcases List.mem_cons.1 hx with rfl | hx
    · rw [List.find?_cons_of_pos]; simp
    · have := rest_mem s _ x hx
      rw [List.find?_cons_of_neg]
      · exact ih x hx
      · simp; omega
theorem fwd_some {pl : List Place} {q : Int} {x : Place} (h : fwd pl q = some x) : x ∈ pl ∧ (x.1 : Int) = q := by
  unfold fwd at h
  exact ⟨List.mem_of_find?_eq_some h, by simpa using List.find?_some h⟩
theorem bwd_some {pl : List Place} {q : Int} {x : Place} (h : bwd pl q = some x) : x ∈ pl ∧ ((x.1 + x.2.1 : Nat) : Int) = q := by
  unfold bwd at h
  exact ⟨List.mem_of_find?_eq_some h, by simpa using List.find?_some h⟩

/-- the cuts from one on -/
def cutsAt (a : Nat) (pl : List Place) : List Nat := a :: pl.map fun x => x.1 + x.2.1
theorem cuts_eq (pl : List Place) : cuts pl = cutsAt 0 pl := rfl
theorem cut_get (s : List UInt8) : ∀ a, ∀ (i : Nat) (x : Place), (rest s a)[i]? = some x → (cutsAt a (rest s a))[i]? = some x.1 ∧ (cutsAt a (rest s a))[i + 1]? = some (x.1 + x.2.1) := by
  refine rest_ind (s := s) (fun a h i x hx => ?_) (fun a h ih i x hx => ?_)
  · rw [rest_end s a h] at hx; cases hx
  · rw [rest_cons s a h] at hx ⊢
    cases i with
    | zero => cases hx; exact ⟨rfl, rfl⟩
    | succ i => exact ih i x hx
theorem cut_last (s : List UInt8) : ∀ a, a ≤ s.length → (cutsAt a (rest s a))[(rest s a).length]? = some s.length := by
  refine rest_ind (s := s) (fun a h h' => ?_) (fun a h ih h' => ?_)
  · rw [rest_end s a h]; show some a = _; congr 1; omega
  · rw [rest_cons s a h]
    exact ih (unit_at h).2.2
theorem cut_rest (s : List UInt8) : ∀ a, ∀ n, n ≤ (rest s a).length → ∃ p, (cutsAt a (rest s a))[n]? = some p ∧ rest s p = (rest s a).drop n ∧ (a ≤ s.length → p ≤ s.length) := by
  refine rest_ind (s := s) (fun a h n hn => ?_) (fun a h ih n hn => ?_)
  · rw [rest_end s a h] at hn ⊢
    simp only [List.length_nil] at hn
    obtain rfl : n = 0 := by omega
    exact ⟨a, rfl, rest_end s a h, fun h => h⟩
  · cases n with
    | zero => exact ⟨a, rfl, rfl, fun h => h⟩
    | succ n =>
      have hr := rest_cons s a h
      rw [hr, List.length_cons] at hn
      obtain ⟨p, h1, h2, h3⟩ := ih n (by omega)
      exact ⟨p, by rw [hr]; exact h1, by rw [hr]; exact h2, fun _ => h3 (unit_at h).2.2⟩

/-- one forth and one back -/
theorem forth_back {s : List UInt8} {q : Int} {x : Place} (h : fwd (places s) q = some x) : bwd (places s) ((x.1 + x.2.1 : Nat) : Int) = some x ∧ (x.1 : Int) = q ∧ 1 ≤ x.2.1 ∧ x.2.1 ≤ 4 ∧ x.1 < s.length := by
  obtain ⟨h1, h2⟩ := fwd_some h
  rw [← rest_zero] at h1 ⊢
  have := rest_mem s 0 x h1
  exact ⟨bwd_mem s 0 x h1, h2, this.2.2.2.2.1, this.2.2.2.2.2, this.2.1⟩
theorem back_forth {s : List UInt8} {q : Int} {x : Place} (h : bwd (places s) q = some x) : fwd (places s) x.1 = some x ∧ ((x.1 + x.2.1 : Nat) : Int) = q ∧ 1 ≤ x.2.1 := by
  obtain ⟨h1, h2⟩ := bwd_some h
  rw [← rest_zero] at h1 ⊢
  exact ⟨fwd_mem s 0 x h1, h2, (rest_mem s 0 x h1).2.2.2.2.1⟩
theorem fwd_end (s : List UInt8) : fwd (places s) s.length = none := by
  cases h : fwd (places s) s.length with
  | none => rfl
  | some x =>
    have := forth_back h
    omega
theorem bwd_zero (s : List UInt8) : bwd (places s) 0 = none := by
  cases h : bwd (places s) 0 with
  | none => rfl
  | some x =>
    have := back_forth h
    omega
/-- the cuts of a text: the unit that begins at the one of number i ends at the next one -/
theorem cuts_get {s : List UInt8} {i : Nat} (h : i < (places s).length) : ∃ x, (places s)[i]? = some x ∧ (cuts (places s))[i]? = some x.1 ∧ (cuts (places s))[i + 1]? = some (x.1 + x.2.1) ∧ fwd (places s) x.1 = some x ∧ bwd (places s) ((x.1 + x.2.1 : Nat) : Int) = some x ∧ 1 ≤ x.2.1 ∧ x.2.1 ≤ 4 ∧ x.1 + x.2.1 ≤ s.length ∧ unit (s.drop x.1) = (x.2.1, x.2.2) := by
  obtain ⟨x, hx⟩ : ∃ x, (places s)[i]? = some x := ⟨_, List.getElem?_eq_getElem h⟩
  have hm := List.mem_of_getElem? hx
  refine ⟨x, hx, ?_⟩
  rw [← rest_zero] at hx hm ⊢
  have h1 := cut_get s 0 i x hx
  have h2 := rest_mem s 0 x hm
  exact ⟨h1.1, h1.2, fwd_mem s 0 x hm, bwd_mem s 0 x hm, h2.2.2.2.2.1, h2.2.2.2.2.2, h2.2.2.2.1, h2.2.2.1.symm⟩
theorem cuts_len (pl : List Place) : (cuts pl).length = pl.length + 1 := by simp [cuts]
theorem cuts_zero (pl : List Place) : (cuts pl)[0]? = some 0 := rfl
theorem cuts_last (s : List UInt8) : (cuts (places s))[(places s).length]? = some s.length := by
  have := cut_last s 0 (by omega)
  rw [rest_zero] at this
  exact this
/-- what stands from a cut on -/
theorem cuts_rest {s : List UInt8} {n : Nat} (h : n < (cuts (places s)).length) : ∃ p, (cuts (places s))[n]? = some p ∧ p ≤ s.length ∧ (∃ pre, fix s = pre ++ fix (s.drop p)) ∧ badN (s.drop p) ≤ badN s ∧ (places (s.drop p)).length + n = (places s).length := by
  rw [cuts_len] at h
  obtain ⟨p, h1, h2, h3⟩ := cut_rest s 0 n (by rw [rest_zero]; omega)
  rw [rest_zero] at h1 h2
  refine ⟨p, h1, h3 (by omega), ⟨repair s ((places s).take n), ?_⟩, ?_, ?_⟩
  · have e : fix (s.drop p) = repair s ((places s).drop n) := by
      rw [← h2, rest_shift, repair_shift]; rfl
    rw [e]
    unfold fix repair
    rw [← List.flatMap_append, List.take_append_drop]
  · have e : badN (s.drop p) = bad ((places s).drop n) := by
      rw [← h2, rest_shift, bad_shift]; rfl
    rw [e]
    unfold badN bad
    exact List.Sublist.length_le (List.Sublist.filter _ (List.drop_sublist n _))
  · have e : (places (s.drop p)).length = ((places s).drop n).length := by
      rw [← h2, rest_shift, List.length_map]
    rw [e, List.length_drop]; omega
end Go.Proofs.YtbagecjkfcoapaaDoor.M
