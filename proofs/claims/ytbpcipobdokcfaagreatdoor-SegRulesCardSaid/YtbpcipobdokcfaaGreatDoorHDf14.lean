/-
  THE LAWS OF LAYER 12, WALKED: rules' machine is right, and all its states are reached.
-/
import Derived.Test.YtbpcipobdokcfaaGreatDoorHDf13
import Derived.Test.YtbpcipobdokcfaaGreatDoorH7
namespace Go.Proofs.YtbpcipobdokcfaaGreatDoor
open Go.RowKit Go.Shelf
attribute [local go_sem] Oper.semAt_some

theorem sortI_range (N : Nat) : sortI (zs (List.range N)) = zs (List.range N) := by
  unfold sortI
  refine List.mergeSort_of_pairwise ?_
  unfold zs
  rw [List.pairwise_map]
  refine (List.pairwise_lt_range).imp ?_
  intro a b h
  rw [decide_eq_true_iff]
  omega
/-- rules' machine, where there is one -/
theorem comp_right {R : List D.Rule} {n : Int} (h : compCode R n = 0) : machR n (compM R n) = true ∧ reachedL n (compM R n) = zs (List.range (compM R n).1.length) := by
  unfold compCode at h
  split at h
  · rename_i hr
    split at h
    · rename_i hf
      obtain ⟨h1, h2, h3, -⟩ := rulesB_parts hr
      have hM : compM R n = machB (D.build (lefts R) n.toNat 300) := by unfold compM machOf; rw [hr, hf]; rfl
      have hle : (D.build (lefts R) n.toNat 300).todo.length ≤ 300 := of_decide_eq_true hf
      have hl := D.build_len (lefts R) n.toNat 300
      have h0 := D.build_one (lefts R) n.toNat 300
      have hrow := build_rows (lefts R) n.toNat 300
      obtain ⟨hlt, hfit⟩ := D.build_lt (lefts R) n.toNat 300
      have hre := D.reach_build (lefts R) n.toNat 300 300 (Nat.le_refl _)
      rw [hM]
      have hnat : natRows (machB (D.build (lefts R) n.toNat 300)) = (D.build (lefts R) n.toNat 300).next := by
        unfold natRows machB
        simp only
        rw [List.map_map]
        conv => rhs; rw [← List.map_id (D.build (lefts R) n.toNat 300).next]
        refine List.map_congr_left fun r _ => ?_
        simp only [Function.comp_apply, List.map_map, id]
        conv => rhs; rw [← List.map_id r]
        exact List.map_congr_left fun x _ => by simp
      have hreK : reachM (machB (D.build (lefts R) n.toNat 300)) = List.range (D.build (lefts R) n.toNat 300).todo.length := by
        unfold reachM reachK
        rw [hnat]
        exact hre
      generalize D.build (lefts R) n.toNat 300 = BB at *
      clear hre hM hf h
      have hNN : BB.next.length = BB.todo.length := by omega
      have hML : (machB BB).1.length = BB.next.length := by unfold machB; simp only [List.length_map]
      have hFL : (machB BB).2.length = BB.fits.length := by unfold machB; simp only [List.length_map]
      have hR : machR n (machB BB) = true := by
        unfold machR
        simp only [Bool.and_eq_true, decide_eq_true_eq]
        refine ⟨⟨⟨⟨⟨h1, h2⟩, by rw [hML]; omega⟩, by rw [hML]; omega⟩, by rw [hML, hFL]; omega⟩, ?_⟩
        rw [List.all_eq_true]
        intro i hi
        rw [List.mem_range, hML] at hi
        have hr0 := List.getElem?_eq_getElem hi
        have hf0 : BB.fits[i]? = some (BB.fits[i]'(by omega)) := List.getElem?_eq_getElem (by omega)
        have e1 : (machB BB).1.getD i [] = (BB.next[i]).map fun x : Nat => (x : Int) := by
          unfold machB; simp only; rw [List.getD, List.getElem?_map, hr0]; rfl
        have e2 : (machB BB).2.getD i 0 = ((BB.fits[i]'(by omega) : Nat) : Int) := by
          unfold machB; simp only; rw [List.getD, List.getElem?_map, hf0]; rfl
        have k1 := hrow _ (List.mem_of_getElem? hr0)
        have k2 := hlt _ (List.mem_of_getElem? hr0)
        have k3 := hfit _ (List.mem_of_getElem? hf0)
        rw [lefts_len] at k3
        have k4 : 2 ^ R.length ≤ 2 ^ 40 := Nat.pow_le_pow_right (by omega) h3
        unfold rowR
        rw [e1, e2, hML]
        simp only [Bool.and_eq_true, decide_eq_true_eq, List.length_map]
        refine ⟨⟨⟨by rw [k1]; omega, ?_⟩, by omega⟩, by omega⟩
        rw [List.all_eq_true]
        intro y hy
        obtain ⟨x, hx, rfl⟩ := List.mem_map.1 hy
        have := k2 x hx
        unfold toR
        simp only [Bool.and_eq_true, decide_eq_true_eq]
        omega
      refine ⟨hR, ?_⟩
      unfold reachedL
      rw [hR, if_pos rfl, hreK, sortI_range, hML, hNN]
    · cases h
  · cases h

end Go.Proofs.YtbpcipobdokcfaaGreatDoor
