/-
  PLAIN. Of rules' machine: a rule is in the Fits of a place just if its left side fits behind it.
-/
import Derived.Test.YtbpcipobdokcfaaGreatDoorH9
import Derived.Test.YtbpcipobdokcfaaGreatDoorH7
namespace Go.Proofs.YtbpcipobdokcfaaGreatDoor
open Go.RowKit

theorem cls_cut (n : Nat) (c : Int) : D.cls n (colOf n c) = D.cut n c := by
  unfold D.cls D.cut colOf
  by_cases h : 0 ≤ c ∧ c < n
  · rw [if_pos h, if_neg (by omega), if_neg (by omega)]
    omega
  · rw [if_neg h, if_pos rfl, if_pos (by omega)]
theorem mach_state {sd : List D.Side} {n : Nat} {b : D.Bld} (hs : D.Sound sd n b) (hl : b.next.length = b.todo.length) (h0 : b.todo[0]? = some (D.firstAll sd)) (l : List Int) : ∀ i, i ≤ l.length → b.todo[stM n (machB b) l i]? = some (D.allAt sd (D.cuts n l) i)
  | 0, _ => by
    rw [D.allAt_zero]
    have : stM n (machB b) l 0 = 0 := by simp [stM]
    rw [this]
    exact h0
  | i + 1, h => by
    have ih := mach_state hs hl h0 l i (by omega)
    obtain ⟨q, hq⟩ : ∃ q, stM n (machB b) l i = q := ⟨_, rfl⟩
    rw [hq] at ih
    have hc : l[i]? = some (l[i]'(by omega)) := List.getElem?_eq_getElem (by omega)
    obtain ⟨c, hcc⟩ : ∃ c, l[i]'(by omega) = c := ⟨_, rfl⟩
    rw [hcc] at hc
    have hk : (D.cuts n l)[i]? = some (D.cut n c) := by unfold D.cuts; rw [List.getElem?_map, hc]; rfl
    have hql := (List.getElem?_eq_some_iff.1 ih).1
    rw [← hl] at hql
    obtain ⟨⟨r, k1, k2⟩, -⟩ := hs q _ hql ih
    obtain ⟨m, k3, k4⟩ := k2 (colOf n c) (colOf_le n c)
    rw [D.allAt_succ _ _ _ _ hk, stM_succ hc, hq, ← cls_cut, ← k4]
    congr 1
    unfold stepM machB
    simp only
    have e : (b.next.map fun r => r.map fun x : Nat => (x : Int)).getD q [] = r.map fun x : Nat => (x : Int) := by
      rw [List.getD, List.getElem?_map, k1]
      rfl
    rw [e, List.getD, List.getElem?_map, k3]
    simp
theorem mach_fits {sd : List D.Side} {n : Nat} {b : D.Bld} (hs : D.Sound sd n b) (hl : b.next.length = b.todo.length) (h0 : b.todo[0]? = some (D.firstAll sd)) (l : List Int) (i : Nat) (h : i ≤ l.length) : (fitsM n (machB b) l)[i]? = some ((D.doneTo sd (D.allAt sd (D.cuts n l) i) sd.length : Nat) : Int) := by
  have hst := mach_state hs hl h0 l i h
  have hql := (List.getElem?_eq_some_iff.1 hst).1
  rw [← hl] at hql
  obtain ⟨-, k1⟩ := hs _ _ hql hst
  unfold fitsM goM
  rw [List.getElem?_map, List.getElem?_map, List.getElem?_range (by omega)]
  simp only [Option.map_some]
  unfold fitM
  have e : (machB b).2 = b.fits.map fun x : Nat => (x : Int) := rfl
  rw [List.getD, e, List.getElem?_map, k1]
  rfl
theorem comp_parts {R : List D.Rule} {n : Int} (h : compCode R n = 0) : rulesB n R = true ∧ D.isFew (lefts R) n.toNat = true ∧ compM R n = machOf (lefts R) n.toNat := by
  unfold compCode at h
  split at h
  · rename_i hr
    split at h
    · rename_i hf
      refine ⟨hr, hf, ?_⟩
      unfold compM
      rw [hr, hf]
      rfl
    · cases h
  · cases h
theorem fits_behind {R : List D.Rule} {n : Int} (h : compCode R n = 0) (l : List Int) (i : Nat) (hi : i ≤ l.length) :
    ∃ f : Nat, (fitsM n.toNat (compM R n) l)[i]? = some (f : Int) ∧ f < 2 ^ R.length ∧ ∀ j x, R[j]? = some x → f.testBit j = behindB x.1.1 x.1.2 (D.cuts n.toNat l) (i : Int) := by
  obtain ⟨h1, h2, h3⟩ := comp_parts h
  obtain ⟨-, -, -, hs⟩ := rulesB_parts h1
  refine ⟨_, by rw [h3]; unfold machOf; exact mach_fits (D.sound_build _ _ 300) (D.few_all h2) (D.first_get _ _ 300) l i hi, ?_, fun j x hx => ?_⟩
  · have := D.doneTo_lt (lefts R) (D.allAt (lefts R) (D.cuts n.toNat l) i) (lefts R).length
    rw [lefts_len] at this ⊢
    exact this
  · have hj := (List.getElem?_eq_some_iff.1 hx).1
    have := D.done_behind (lefts R) (fun y hy => by
      obtain ⟨z, hz, rfl⟩ := List.mem_map.1 hy
      exact hs z hz) (D.cuts n.toNat l) i (by unfold D.cuts; rw [List.length_map]; exact hi) j (by rw [lefts_len]; exact hj)
    rw [lefts_at hx] at this
    exact this
end Go.Proofs.YtbpcipobdokcfaaGreatDoor
