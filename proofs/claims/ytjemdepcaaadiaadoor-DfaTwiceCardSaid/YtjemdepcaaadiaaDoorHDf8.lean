/-
  PLAIN. The machine of rules, and the same rules once more. Nothing of any program.
-/
import Derived.Test.YtjemdepcaaadiaaDoorH2
namespace Go.Proofs.YtjemdepcaaadiaaDoor.D

def dbl (S : Sets) : Sets := S ++ S
theorem dbl_inj {S T : Sets} (h : dbl S = dbl T) : S = T := by
  unfold dbl at h
  have hl : S.length = T.length := by have := congrArg List.length h; simp at this; omega
  exact (List.append_inj h hl).1
theorem range_dbl {f g : Nat → Nat} {n : Nat} (h1 : ∀ i, i < n → f i = g i) (h2 : ∀ i, i < n → f (n + i) = g i) : (List.range (n + n)).map f = (List.range n).map g ++ (List.range n).map g := by
  rw [List.range_add, List.map_append, List.map_map]
  congr 1
  · exact List.map_congr_left fun i hi => h1 i (List.mem_range.1 hi)
  · exact List.map_congr_left fun i hi => h2 i (List.mem_range.1 hi)
section
variable (rs : List Side)
theorem side_lo {i : Nat} (h : i < rs.length) : sideAt (rs ++ rs) i = sideAt rs i := by unfold sideAt; rw [List.getD, List.getD, List.getElem?_append_left h]
theorem side_hi (i : Nat) : sideAt (rs ++ rs) (rs.length + i) = sideAt rs i := by unfold sideAt; rw [List.getD, List.getD, List.getElem?_append_right (by omega), show rs.length + i - rs.length = i by omega]
theorem set_lo {S : Sets} {i : Nat} (h : i < S.length) : (dbl S).getD i 0 = S.getD i 0 := by unfold dbl; rw [List.getD, List.getD, List.getElem?_append_left h]
theorem set_hi (S : Sets) (i : Nat) : (dbl S).getD (S.length + i) 0 = S.getD i 0 := by unfold dbl; rw [List.getD, List.getD, List.getElem?_append_right (by omega), show S.length + i - S.length = i by omega]
theorem step_dbl {S : Sets} (hS : S.length = rs.length) (c : Int) : stepAll (rs ++ rs) (dbl S) c = dbl (stepAll rs S c) := by
  unfold stepAll
  rw [List.length_append]
  exact range_dbl (fun i hi => by unfold stepAt; rw [side_lo rs hi, set_lo (by omega)]) (fun i _ => by unfold stepAt; rw [side_hi, ← hS, set_hi])
theorem first_dbl : firstAll (rs ++ rs) = dbl (firstAll rs) := by
  unfold firstAll
  rw [List.length_append]
  exact range_dbl (fun i hi => by unfold firstAt; rw [side_lo rs hi]) (fun i _ => by unfold firstAt; rw [side_hi])
theorem place_dbl : ∀ (t : List Sets) (s : Sets), place (t.map dbl) (dbl s) = place t s
  | [], s => rfl
  | a :: t, s => by
    unfold place
    rw [List.map_cons, List.idxOf_cons, List.idxOf_cons]
    have ih := place_dbl t s
    unfold place at ih
    by_cases h : a = s
    · subst h; simp
    · have h' : dbl a ≠ dbl s := fun e => h (dbl_inj e)
      rw [beq_eq_false_iff_ne.2 h, beq_eq_false_iff_ne.2 h', ih]
theorem add_dbl (t : List Sets) (s : Sets) : add (t.map dbl) (dbl s) = (add t s).map dbl := by
  unfold add
  by_cases h : s ∈ t
  · rw [if_pos h, if_pos (List.mem_map_of_mem h)]
  · rw [if_neg h, if_neg (fun hm => by
      obtain ⟨a, ha, e⟩ := List.mem_map.1 hm
      rw [dbl_inj e] at ha
      exact h ha), List.map_append]
    rfl
theorem row_dbl (n : Nat) {S : Sets} (hS : S.length = rs.length) (t : List Sets) : ∀ k, row (rs ++ rs) n (dbl S) (t.map dbl) k = ((row rs n S t k).1, (row rs n S t k).2.map dbl)
  | 0 => rfl
  | k + 1 => by
    rw [row_succ, row_succ, row_dbl n hS t k]
    simp only
    rw [step_dbl rs hS, place_dbl, add_dbl]
def twice (k f : Nat) : Nat := f ||| f <<< k
theorem done_dbl {S : Sets} (hS : S.length = rs.length) : doneTo (rs ++ rs) (dbl S) (rs ++ rs).length = twice rs.length (doneTo rs S rs.length) := by
  refine Nat.eq_of_testBit_eq fun i => ?_
  unfold twice
  rw [Nat.testBit_or, Nat.testBit_shiftLeft, doneTo_bit, doneTo_bit, doneTo_bit, List.length_append]
  rcases Nat.lt_or_ge i rs.length with h | h
  · rw [show doneAt (rs ++ rs) (dbl S) i = doneAt rs S i by unfold doneAt; rw [side_lo rs h, set_lo (by omega)]]
    rw [decide_eq_true h, decide_eq_true (show i < rs.length + rs.length by omega), decide_eq_false (show ¬ i ≥ rs.length by omega)]
    simp
  · obtain ⟨j, rfl⟩ : ∃ j, i = rs.length + j := ⟨i - rs.length, by omega⟩
    rw [show doneAt (rs ++ rs) (dbl S) (rs.length + j) = doneAt rs S j by unfold doneAt; rw [side_hi, ← hS, set_hi]]
    rw [decide_eq_false (show ¬ rs.length + j < rs.length by omega), decide_eq_true (show rs.length + j ≥ rs.length by omega), show rs.length + j - rs.length = j by omega]
    simp only [Bool.false_and, Bool.false_or, Bool.true_and]
    congr 1
    rw [decide_eq_decide]
    omega
theorem build_dbl (n : Nat) : ∀ k, build (rs ++ rs) n k = ⟨(build rs n k).todo.map dbl, (build rs n k).next, (build rs n k).fits.map (twice rs.length)⟩
  | 0 => by
    unfold build
    rw [first_dbl]; rfl
  | k + 1 => by
    have ih := build_dbl n k
    have hg := good_build rs n k
    have e1 : build (rs ++ rs) n (k + 1) = (build (rs ++ rs) n k).go (rs ++ rs) n := rfl
    have e2 : build rs n (k + 1) = (build rs n k).go rs n := rfl
    rw [e1, e2, ih]
    cases hS : (build rs n k).todo[(build rs n k).next.length]? with
    | none =>
      have h1 : (build rs n k).go rs n = build rs n k := by unfold Bld.go; rw [hS]
      rw [h1]
      unfold Bld.go
      simp only [List.getElem?_map, hS, Option.map_none]
    | some S =>
      have hSl := (hg S (List.mem_of_getElem? hS)).1
      rw [go_some rs n hS, go_some (rs ++ rs) n (b := ⟨(build rs n k).todo.map dbl, (build rs n k).next, (build rs n k).fits.map (twice rs.length)⟩) (S := dbl S) (by simp only [List.getElem?_map, hS, Option.map_some])]
      simp only
      rw [row_dbl rs n hSl, done_dbl rs hSl, List.map_append]
      rfl
theorem few_dbl (n : Nat) : isFew (rs ++ rs) n = isFew rs n := by
  unfold isFew
  rw [build_dbl rs n 300]
  simp only [List.length_map]
end
end Go.Proofs.YtjemdepcaaadiaaDoor.D
