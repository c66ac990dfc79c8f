/-
  PLAIN. By rules' own machine the cuts are the rules'. Nothing of any program.
-/
import Derived.Test.YtbpcipobdokcfaaGreatDoorHSi3
import Derived.Test.YtbpcipobdokcfaaGreatDoorHDh2
import Derived.Test.YtbpcipobdokcfaaGreatDoorHDf14
import Derived.Test.YtbpcipobdokcfaaGreatDoorH10
namespace Go.Proofs.YtbpcipobdokcfaaGreatDoor
open Go.RowKit Go.Shelf

theorem plS_up (R : List D.Rule) (cs : List Int) : ∀ k : Nat, G.up (-1) (plS R cs k) = true ∧ (plS R cs k).getLastD (-1) ≤ (k : Int)
  | 0 => ⟨rfl, Int.le_refl _⟩
  | k + 1 => by
    obtain ⟨h1, h2⟩ := plS_up R cs k
    have e := plS_next (R := R) (cs := cs) (p := k + 1) (by omega)
    rw [show k + 1 + 1 - 1 = k + 1 by omega, show k + 1 - 1 = k by omega] at e
    rcases Bool.eq_false_or_eq_true (sayL cs ((k + 1 : Nat) : Int) R) with h | h
    · rw [h, if_pos rfl] at e
      rw [e, G.up_snoc, h1, List.getLastD_concat]
      exact ⟨by rw [Bool.true_and]; exact decide_eq_true (by omega), Int.le_refl _⟩
    · rw [h, if_neg Bool.false_ne_true, List.append_nil] at e
      rw [e]
      exact ⟨h1, by omega⟩
theorem cutsS_right (R : List D.Rule) (cs : List Int) : G.right (cutsS R cs) cs.length = true := by
  have e : cutsS R cs = plS R cs (cs.length - 1) ++ if 0 < cs.length then [(cs.length : Int)] else [] := rfl
  obtain ⟨h1, h2⟩ := plS_up R cs (cs.length - 1)
  have h0 : (cutsS R cs).getD 0 1 = 0 := by unfold cutsS; simp
  have hl : 0 < (cutsS R cs).length := by unfold cutsS; simp
  unfold G.right G.last
  rw [h0, decide_eq_true hl]
  rcases Nat.eq_zero_or_pos cs.length with h | h
  · rw [e, if_neg (by omega), List.append_nil, h1]
    rw [h] at h2 ⊢
    have : plS R cs (0 - 1) = [0] := rfl
    rw [this]
    rfl
  · rw [e, if_pos h, G.up_snoc, h1, List.getLastD_concat, decide_eq_true (show (plS R cs (cs.length - 1)).getLastD (-1) < (cs.length : Int) by omega)]
    simp
theorem isCut_say {R : List D.Rule} {ks : List Int} {f : Nat} {p : Int} (h : ∀ (j : Nat) (x : D.Rule), R[j]? = some x → G.hit R ks f p j = appB x ks p) : G.isCut R ks f p = sayL ks p R := by
  rcases sayL_spec ks p R with ⟨i, r, h1, h2, h3, h4⟩ | ⟨h1, h2⟩
  · rw [h4]
    refine G.isCut_hit h1 (by rw [h i r h1]; exact h2) (fun j hj => ?_)
    have hi := (List.getElem?_eq_some_iff.1 h1).1
    have hx : R[j]? = some R[j] := List.getElem?_eq_getElem (by omega)
    rw [h j _ hx]
    exact h3 j _ hj hx
  · rw [h2]
    refine G.isCut_none (fun i hi => ?_)
    have hx : R[i]? = some R[i] := List.getElem?_eq_getElem hi
    rw [h i _ hx]
    exact h1 i _ hx
theorem cutsL_say {R : List D.Rule} {n : Int} (h : compCode R n = 0) (L : List Int) : cutsL R (compM R n) n.toNat L = cutsS R (D.cuts n.toNat L) := by
  have hl : (D.cuts n.toNat L).length = L.length := by unfold D.cuts; rw [List.length_map]
  unfold cutsL cutsS midL midS
  rw [hl]
  congr 3
  refine List.filter_congr fun p hp => ?_
  obtain ⟨i, hi, rfl⟩ := List.mem_map.1 hp
  have hi2 := List.mem_range.1 hi
  obtain ⟨f, hf, -, hbit⟩ := fits_behind h L (i + 1) (by omega)
  have hfm : fitM (compM R n) (stM n.toNat (compM R n) L (i + 1)) = (f : Int) := by
    unfold fitsM goM at hf
    rw [List.getElem?_map, List.getElem?_map, List.getElem?_range (by omega)] at hf
    exact Option.some.inj hf
  unfold cutAt
  rw [hfm, Int.toNat_natCast]
  refine isCut_say (fun j x hx => ?_)
  unfold G.hit appB
  rw [hx, hbit j x hx]
theorem machB_snd (b : D.Bld) : (machB b).2 = b.fits.map fun x : Nat => (x : Int) := rfl
theorem comp_in {R : List D.Rule} {n : Int} (h : compCode R n = 0) : (compM R n).2.all (inB R.length) = true := by
  obtain ⟨h1, h2, h3⟩ := comp_parts h
  obtain ⟨hm, -⟩ := comp_right h
  obtain ⟨-, -, -, -, h5⟩ := machR_parts hm
  rw [List.all_eq_true]
  intro x hx
  obtain ⟨q, hq, e⟩ := List.getElem_of_mem hx
  have hq2 : q < (compM R n).1.length := by omega
  have hx2 : (compM R n).2[q]? = some x := by rw [List.getElem?_eq_getElem hq, e]
  have hql : q < (D.build (lefts R) n.toNat 300).next.length := by
    rw [h3] at hq2
    unfold machOf machB at hq2
    simpa using hq2
  have hqt : q < (D.build (lefts R) n.toNat 300).todo.length := by rw [← D.few_all h2]; exact hql
  obtain ⟨S, hS⟩ : ∃ S, (D.build (lefts R) n.toNat 300).todo[q]? = some S := ⟨_, List.getElem?_eq_getElem hqt⟩
  obtain ⟨-, k1⟩ := D.sound_build (lefts R) n.toNat 300 q S hql hS
  have e2 : (compM R n).2 = (D.build (lefts R) n.toNat 300).fits.map fun x : Nat => (x : Int) := by rw [h3]; unfold machOf; exact machB_snd _
  rw [e2, List.getElem?_map, k1, Option.map_some] at hx2
  have hx3 := Option.some.inj hx2
  have hlt := D.doneTo_lt (lefts R) S (lefts R).length
  rw [← hx3]
  unfold inB
  rw [lefts_len] at hlt ⊢
  refine decide_eq_true ?_
  have : ((2 ^ R.length : Nat) : Int) = 2 ^ R.length := by simp
  omega
theorem comp_are {R : List D.Rule} {n : Int} (h : compCode R n = 0) : areC R (compM R n) n = true := by
  unfold areC
  rw [(comp_parts h).1, (comp_right h).1, comp_in h]
  rfl
end Go.Proofs.YtbpcipobdokcfaaGreatDoor
