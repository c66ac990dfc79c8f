/-
  THE DOCUMENT's ANSWERS OF LAYER 13: which part a place lies in, the next cut, the one ahead, cuts that are moved.
-/
import Derived.Test.YtbpcipobdokcfaaGreatDoorHSgX
namespace Go.Proofs.YtbpcipobdokcfaaGreatDoor
open Go.RowKit Go.Shelf
attribute [local go_sem] Oper.semAt_some

theorem part_low {cs : List Int} {p : Int} (h : p < 0) : G.part cs p = none := by
  cases hp : G.part cs p with
  | none => rfl
  | some i =>
    obtain ⟨h1, h2, h3, h4⟩ := G.part_got hp
    have := (G.cut_pos h1 i (by omega)).1
    omega
theorem part_high {cs : List Int} {p y : Int} {n : Nat} (hn : cs.length = n + 1) (hy : cs[n]? = some y) (h : y ≤ p) : G.part cs p = none := by
  cases hp : G.part cs p with
  | none => rfl
  | some i =>
    obtain ⟨h1, h2, h3, h4⟩ := G.part_got hp
    have hup := (G.whole_parts h1).1
    have e := getD_of hy
    rcases Nat.lt_or_ge (i + 1) n with hlt | hge
    · have := G.up_get cs (-1) hup (i + 1) n hlt (by omega)
      omega
    · obtain rfl : n = i + 1 := by omega
      omega
theorem part_not {cs : List Int} {p : Int} (h : G.whole cs = false) : G.part cs p = none := by unfold G.part; rw [h]; rfl
theorem partC_none {cs : List Int} {p : Int} (h : G.part cs p = none) : partC cs p = (0, 110) := by unfold partC; rw [h]

theorem rwhole13_any (v : Value) (cs : List Int) (w : World) (hv : IntsAt w v cs) (hz : cs.length ≤ 1000000) :
    Calls Tryz.prog 44 #[v] w fun e w' => e = .returned (.bool (G.whole cs)) ∧ Below w.heap.size w w' := by
  have HV := Box.mk hv
  obtain ⟨ao, cap, rfl⟩ := hv.slice
  clear hv
  rcases Nat.eq_zero_or_pos cs.length with h0 | h0
  · have hr : G.whole cs = false := by
      unfold G.whole
      rw [h0]
      simp
    rw [hr, h0]
    clear hr h0
    go_enter Tryz.func44, Tryz.ntmps44
    go_wp2_with fail
    go_ret
    exact ⟨rfl, Below.refl _ _⟩
  obtain ⟨n, hn⟩ : ∃ n, cs.length = n + 1 := ⟨cs.length - 1, by omega⟩
  obtain ⟨z, hz2⟩ : ∃ z, cs[n]? = some z := ⟨_, List.getElem?_eq_getElem (by omega)⟩
  obtain ⟨g, off, cap2, hg1, hg2, hg3, hg4, hg5⟩ := HV.out.get (by rintro rfl; simp at hn)
  obtain ⟨rfl, rfl⟩ : ao = some ⟨g, off, none⟩ ∧ cap = cap2 := by injection hg1 with h1 h2 h3; exact ⟨h1, h3⟩
  have hcn := hg5 n z hz2
  have HR := Box.mk (rright13_any _ cs z w HV.out hz)
  have HW := Box.mk (right_whole hn hz2)
  rw [hn] at hz hg2 HR ⊢
  unfold maxLen at hg3
  clear hg1 hg4 hg5 hn hz2 h0
  go_enter Tryz.func44, Tryz.ntmps44
  go_wp2_with fail
  refine HR.out.mono ?_; rintro e w1 ⟨rfl, hb1⟩
  rw [← HW.out]
  have HB1 := Box.mk hb1
  clear hb1
  obtain ⟨b, hb⟩ : ∃ b, G.whole cs = b := ⟨_, rfl⟩
  rw [hb]
  have HBB := Box.mk hb
  clear hb
  cases b with
  | true =>
    go_wp2_with fail
    go_ret
    exact ⟨by rw [HBB.out]; rfl, HB1.out⟩
  | false =>
    go_wp2_with fail
    go_ret
    exact ⟨by rw [HBB.out]; rfl, HB1.out⟩

set_option maxRecDepth 100000 in
set_option maxHeartbeats 4000000 in
theorem rpart13_any (v : Value) (cs : List Int) (p : Int) (w : World) (hv : IntsAt w v cs) (hz : cs.length ≤ 1000000) :
    Calls Tryz.prog 21 #[v, .int .i64 p] w fun e w' => e = .returned (twoV (partC cs p)) ∧ Below w.heap.size w w' := by
  have HV := Box.mk hv
  have HWH := Box.mk (rwhole13_any v cs w hv hz)
  obtain ⟨ao, cap, rfl⟩ := hv.slice
  clear hv
  cases hwh : G.whole cs with
  | false =>
    have HF := Box.mk hwh
    have HP := Box.mk (partC_none (part_not (p := p) hwh))
    clear hwh
    go_enter Tryz.func21, Tryz.ntmps21
    go_wp2_with fail
    refine HWH.out.mono ?_; rintro e w1 ⟨rfl, hb1⟩; rw [HF.out]
    have HB1 := Box.mk hb1
    clear hb1
    go_wp2_with fail
    go_ret2
    exact ⟨by rw [HP.out]; rfl, HB1.out⟩
  | true =>
    have HT := Box.mk hwh
    obtain ⟨hup, hpos, hfirst⟩ := G.whole_parts hwh
    obtain ⟨n, hn⟩ : ∃ n, cs.length = n + 1 := ⟨cs.length - 1, by omega⟩
    obtain ⟨y, hy⟩ : ∃ y, cs[n]? = some y := ⟨_, List.getElem?_eq_getElem (by omega)⟩
    obtain ⟨g, off, cap2, hg1, hg2, hg3, hg4, hg5⟩ := HV.out.get (by rintro rfl; simp at hn)
    obtain ⟨rfl, rfl⟩ : ao = some ⟨g, off, none⟩ ∧ cap = cap2 := by injection hg1 with h1 h2 h3; exact ⟨h1, h3⟩
    have HFI := Box.mk hfirst
    have HN := Box.mk hn
    have HY := Box.mk hy
    have HG4 := Box.mk hg4
    have HG5 := Box.mk hg5
    have HC := Box.mk (fun W (h : Below w.heap.size w W) i x (hx : cs[i]? = some x) => (h.cell (p := ⟨g, off + i, none⟩) hg4).trans (hg5 i x hx))
    rw [hn] at HWH hg2 hz ⊢
    unfold maxLen at hg3
    clear hg1 hg4 hg5 hn hy hwh hup hpos hfirst
    rcases Int.lt_or_le p 0 with hp0 | hp0
    · have HP := Box.mk (partC_none (part_low (cs := cs) hp0))
      go_enter Tryz.func21, Tryz.ntmps21
      go_wp2_with fail
      refine HWH.out.mono ?_; rintro e w1 ⟨rfl, hb1⟩; rw [HT.out]
      have HB1 := Box.mk hb1
      clear hb1
      go_wp2_with fail
      go_ret2
      exact ⟨by rw [HP.out]; rfl, HB1.out⟩
    rcases Int.lt_or_le p y with hpy | hpy
    rotate_left
    · have HP := Box.mk (partC_none (part_high HN.out HY.out hpy))
      go_enter Tryz.func21, Tryz.ntmps21
      go_wp2_with fail
      refine HWH.out.mono ?_; rintro e w1 ⟨rfl, hb1⟩; rw [HT.out]
      have HB1 := Box.mk hb1
      have hcy := HC.out w1 hb1 n y HY.out
      clear hb1
      go_wp2_with fail
      go_ret2
      exact ⟨by rw [HP.out]; rfl, HB1.out⟩
    go_enter Tryz.func21, Tryz.ntmps21
    go_wp2_with fail
    refine HWH.out.mono ?_; rintro e w1 ⟨rfl, hb1⟩; rw [HT.out]
    have HB1 := Box.mk hb1
    have hcy := HC.out w1 hb1 n y HY.out
    clear hb1
    go_wp2_with fail
    clear hcy
    go_loopw [6] (fun i wr => ∃ k : Nat, k < n ∧ i = .int .i64 (k : Int) ∧ Box (cs.getD k 0 ≤ p) ∧ Box (Below w.heap.size w wr)) (fun i _ => n - (intOf i).toNat)
    case atStart =>
      refine ⟨0, ?_, rfl, ⟨by rw [HFI.out]; exact hp0⟩, HB1⟩
      rcases Nat.eq_zero_or_pos n with h | h
      · subst h
        have := getD_of HY.out
        rw [HFI.out] at this
        omega
      · exact h
    case round =>
      obtain ⟨k, hk, rfl, hle, hb⟩ := hrel
      obtain ⟨q, hq⟩ : ∃ q, cs[k + 1]? = some q := ⟨_, List.getElem?_eq_getElem (by have := HN.out; omega)⟩
      have hcq := HC.out wr hb.out (k + 1) q hq
      have HQ := Box.mk hq
      clear hq
      rcases Int.lt_or_le p q with hpq | hpq
      · have HP := Box.mk (show partC cs p = ((k : Int), 0) by
          have : G.part cs p = some k := G.part_some HT.out (by have := HN.out; omega) (by
            unfold G.isIn
            rw [getD_of HQ.out, decide_eq_true hle.out, decide_eq_true hpq]; rfl)
          unfold partC; rw [this])
        go_wp2_with fail
        go_ret2
        exact ⟨by rw [HP.out]; rfl, hb.out⟩
      · have hkn : k + 1 < n := by
          rcases Nat.lt_or_ge (k + 1) n with h | h
          · exact h
          · obtain rfl : n = k + 1 := by omega
            have := HQ.out.symm.trans HY.out
            injection this with h2
            omega
        go_wp2_with fail
        go_roundw
        case rel => exact ⟨k + 1, hkn, by go_num, ⟨by rw [getD_of HQ.out]; exact hpq⟩, hb⟩
        case measure => simp [intOf]; omega

set_option maxHeartbeats 1000000 in
theorem rnext13_any (v : Value) (cs : List Int) (p : Int) (w : World) (hv : IntsAt w v cs) (hz : cs.length ≤ 1000000) :
    Calls Tryz.prog 22 #[v, .int .i64 p] w fun e w' => e = .returned (twoV (nextC cs p)) ∧ Below w.heap.size w w' := by
  have HV := Box.mk hv
  have HP := Box.mk (rpart13_any v cs p w hv hz)
  obtain ⟨ao, cap, rfl⟩ := hv.slice
  clear hv
  cases hp : G.part cs p with
  | none =>
    have HR := Box.mk (show nextC cs p = (0, 110) by unfold nextC; rw [hp])
    have HPC := Box.mk (partC_none hp)
    clear hp
    go_enter Tryz.func22, Tryz.ntmps22
    go_wp2_with fail
    refine HP.out.mono ?_; rintro e w1 ⟨rfl, hb1⟩; rw [HPC.out]
    unfold twoV
    have HB1 := Box.mk hb1
    clear hb1
    go_wp2_with fail
    go_ret2
    exact ⟨by rw [HR.out]; rfl, HB1.out⟩
  | some k =>
    obtain ⟨h1, h2, h3, h4⟩ := G.part_got hp
    obtain ⟨q, hq⟩ : ∃ q, cs[k + 1]? = some q := ⟨_, List.getElem?_eq_getElem (by omega)⟩
    have HR := Box.mk (show nextC cs p = (q, 0) by unfold nextC; rw [hp]; show (cs.getD (k + 1) 0, (0 : Int)) = _; rw [getD_of hq])
    have HPC := Box.mk (show partC cs p = ((k : Int), 0) by unfold partC; rw [hp])
    obtain ⟨g, off, cap2, hg1, hg2, hg3, hg4, hg5⟩ := HV.out.get (by rintro rfl; simp at hq)
    obtain ⟨rfl, rfl⟩ : ao = some ⟨g, off, none⟩ ∧ cap = cap2 := by injection hg1 with h1 h2 h3; exact ⟨h1, h3⟩
    have HCQ := Box.mk (hg5 (k + 1) q hq)
    have HGL := Box.mk hg4
    have hkl : k + 1 < cs.length := by omega
    unfold maxLen at hg3
    clear hp h1 h3 h4 hq hg1 hg4 hg5
    go_enter Tryz.func22, Tryz.ntmps22
    go_wp2_with fail
    refine HP.out.mono ?_; rintro e w1 ⟨rfl, hb1⟩; rw [HPC.out]
    unfold twoV
    have HB1 := Box.mk hb1
    have hcq := (hb1.cell (p := ⟨g, off + (k + 1), none⟩) HGL.out).trans HCQ.out
    clear hb1
    go_wp2_with fail
    go_ret2
    exact ⟨by rw [HR.out]; rfl, HB1.out⟩

set_option maxHeartbeats 1000000 in
theorem rback13_any (v : Value) (cs : List Int) (p : Int) (w : World) (hv : IntsAt w v cs) (hz : cs.length ≤ 1000000) (hp63 : p ≤ 9223372036854775807) :
    Calls Tryz.prog 23 #[v, .int .i64 p] w fun e w' => e = .returned (twoV (backC cs p)) ∧ Below w.heap.size w w' := by
  have HV := Box.mk hv
  have HP := Box.mk (rpart13_any v cs (p - 1) w hv hz)
  obtain ⟨ao, cap, rfl⟩ := hv.slice
  clear hv
  rcases Int.lt_or_le 0 p with hp0 | hp0
  rotate_left
  · have HR := Box.mk (show backC cs p = (0, 110) by unfold backC; rw [if_pos hp0])
    go_enter Tryz.func23, Tryz.ntmps23
    go_wp2_with fail
    go_ret2
    exact ⟨by rw [HR.out]; rfl, Below.refl _ _⟩
  cases hp : G.part cs (p - 1) with
  | none =>
    have HR := Box.mk (show backC cs p = (0, 110) by unfold backC; rw [if_neg (by omega), hp])
    have HPC := Box.mk (partC_none hp)
    clear hp
    go_enter Tryz.func23, Tryz.ntmps23
    go_wp2_with fail
    refine HP.out.mono ?_; rintro e w1 ⟨rfl, hb1⟩; rw [HPC.out]
    unfold twoV
    have HB1 := Box.mk hb1
    clear hb1
    go_wp2_with fail
    go_ret2
    exact ⟨by rw [HR.out]; rfl, HB1.out⟩
  | some k =>
    obtain ⟨h1, h2, h3, h4⟩ := G.part_got hp
    obtain ⟨q, hq⟩ : ∃ q, cs[k]? = some q := ⟨_, List.getElem?_eq_getElem (by omega)⟩
    have HR := Box.mk (show backC cs p = (q, 0) by unfold backC; rw [if_neg (by omega), hp]; show (cs.getD k 0, (0 : Int)) = _; rw [getD_of hq])
    have HPC := Box.mk (show partC cs (p - 1) = ((k : Int), 0) by unfold partC; rw [hp])
    obtain ⟨g, off, cap2, hg1, hg2, hg3, hg4, hg5⟩ := HV.out.get (by rintro rfl; simp at hq)
    obtain ⟨rfl, rfl⟩ : ao = some ⟨g, off, none⟩ ∧ cap = cap2 := by injection hg1 with h1 h2 h3; exact ⟨h1, h3⟩
    have HCQ := Box.mk (hg5 k q hq)
    have HGL := Box.mk hg4
    have hkl : k < cs.length := by omega
    unfold maxLen at hg3
    clear hp h1 h2 h3 h4 hq hg1 hg4 hg5
    go_enter Tryz.func23, Tryz.ntmps23
    go_wp2_with fail
    refine HP.out.mono ?_; rintro e w1 ⟨rfl, hb1⟩; rw [HPC.out]
    unfold twoV
    have HB1 := Box.mk hb1
    have hcq := (hb1.cell (p := ⟨g, off + k, none⟩) HGL.out).trans HCQ.out
    clear hb1
    go_wp2_with fail
    go_ret2
    exact ⟨by rw [HR.out]; rfl, HB1.out⟩

set_option maxHeartbeats 4000000 in
theorem rshift13_any (v : Value) (cs : List Int) (b : Int) (w : World) (hv : IntsAt w v cs) (hz : cs.length ≤ 1000000) :
    Calls Tryz.prog 26 #[v, .int .i64 b] w fun e w' => (∃ v', e = .returned v' ∧ IntsAt w' v' (shiftC cs b)) ∧ Below w.heap.size w w' := by
  have HV := Box.mk hv
  obtain ⟨ao, cap, rfl⟩ := hv.slice
  have HS0 := Box.mk (show Sep [Pc.row w.heap.size 3 1 (.slice none 0 0) 0 (((shiftC cs b).take 0).map (Value.int .i64)), Pc.old w.heap.size w] w from (Sep.start w).nil_row w.heap.size 1 3)
  clear hv
  go_enter Tryz.func26, Tryz.ntmps26
  go_wp2_with fail
  go_loopw [5, 6] (fun o i wr => ∃ k : Nat, k ≤ cs.length ∧ i = .int .i64 k ∧ Box (Sep [Pc.row w.heap.size 3 1 o k (((shiftC cs b).take k).map (Value.int .i64)), Pc.old w.heap.size w] wr)) (fun _ i _ => cs.length - (intOf i).toNat)
  case atStart => exact ⟨0, by omega, rfl, HS0⟩
  case round =>
    obtain ⟨k, hk, rfl, hsep⟩ := hrel
    have HBR := Box.mk (show Below w.heap.size w wr from hsep.out.bel (by simp))
    obtain ⟨oo, oc, rfl, ho1, ho2⟩ := own_shape (hsep.out.row 0 rfl)
    by_cases hlt : k < cs.length
    · obtain ⟨c, hc⟩ : ∃ c, cs[k]? = some c := ⟨_, List.getElem?_eq_getElem hlt⟩
      obtain ⟨g, off, cap2, hg1, hg2, hg3, hg4, hg5⟩ := (HV.out.below HBR.out).get (by rintro rfl; simp at hlt)
      obtain ⟨rfl, rfl⟩ : ao = some ⟨g, off, none⟩ ∧ cap = cap2 := by injection hg1 with h1 h2 h3; exact ⟨h1, h3⟩
      have hcx := hg5 k c hc
      have HTK := Box.mk (show (shiftC cs b).take (k + 1) = (shiftC cs b).take k ++ [wrap64 (c + b)] by
        rw [List.take_add_one]; congr 1; unfold shiftC; rw [List.getElem?_map, hc]; rfl)
      have hbs : w.heap.size ≤ wr.heap.size := HBR.out.size
      unfold maxLen at hg3
      clear hc hg1 hg5
      go_wp2_with (at_builtin; refine wpList_push rfl _ _ 27 rfl pushInt hsep.out 0 rfl rfl rfl rfl (by omega) (by omega) hbs ?_; rintro v' w4 hS4 -)
      have HS4 := Box.mk (show Sep [Pc.row w.heap.size 3 1 v' (k + 1) (((shiftC cs b).take (k + 1)).map (Value.int .i64)), Pc.old w.heap.size w] w4 by
        rw [HTK.out, List.map_append]; exact hS4)
      clear hS4
      go_wp2_with fail
      go_roundw
      case rel => exact ⟨k + 1, hlt, by go_num, HS4⟩
      case measure => simp [intOf]; omega
    · have hkl : k = cs.length := by omega
      have HO := Box.mk (show IntsAt wr (.slice oo k oc) (shiftC cs b) by
        have h := hsep.out.row 0 rfl
        have hl : (shiftC cs b).length = k := by unfold shiftC; rw [List.length_map, hkl]
        rw [List.take_of_length_le (by omega)] at h
        exact IntsAt.of_own h hl.symm)
      clear hkl
      go_wp2_with fail
      go_ret
      exact ⟨⟨_, rfl, HO.out⟩, HBR.out⟩
end Go.Proofs.YtbpcipobdokcfaaGreatDoor
