/-
  THE DOCUMENT's ANSWERS OF LAYER 13: may rules and a machine be cut by.
-/
import Derived.Test.YtbpcipobdokcfaaGreatDoorH10
import Derived.Test.YtbpcipobdokcfaaGreatDoorHDg2
namespace Go.Proofs.YtbpcipobdokcfaaGreatDoor
open Go.RowKit Go.Shelf
attribute [local go_sem] Oper.semAt_some

theorem worth13_any (n : Nat) (w : World) (hn : n ≤ 40) :
    Calls Tryz.prog 41 #[.int .i64 n] w fun e w' => e = .returned (.int .i64 ((2 ^ n : Nat) : Int)) ∧ w = w' := by
  go_enter Tryz.func41, Tryz.ntmps41
  go_wp2
  go_loop [4, 3] (fun i o => ∃ (k : Nat) (x : Int), k ≤ n ∧ i = .int .i64 k ∧ o = .int .i64 x ∧ 0 ≤ x ∧ x ≤ 1099511627776 ∧ Box (x = 2 ^ k)) (fun i _ => n - (intOf i).toNat)
  case atStart => exact ⟨0, 1, by omega, rfl, rfl, by omega, by omega, ⟨rfl⟩⟩
  case round =>
    obtain ⟨k, x, hk, rfl, rfl, hx0, hx1, hx⟩ := hrel
    by_cases hlt : k < n
    · have h2 := pow_le (k + 1) (by omega)
      have HX := Box.mk (show 2 * x = 2 ^ (k + 1) by rw [hx.out, Int.pow_succ]; omega)
      have HY := Box.mk (show 2 * x ≤ 1099511627776 by rw [HX.out]; exact h2)
      clear h2
      go_wp2
      go_round
      case rel => exact ⟨k + 1, 2 * x, hlt, by go_num, rfl, by omega, HY.out, HX⟩
      case measure => simp [intOf]; omega
    · obtain rfl : k = n := by omega
      go_wp2
      go_ret
      exact ⟨by rw [hx.out]; simp, rfl⟩

set_option maxRecDepth 100000 in
set_option maxHeartbeats 4000000 in
theorem ris13_any (rv : Value) (R : List D.Rule) (mv : Value) (M : D.Mach) (n : Int) (w : World) (hR : RulesAt w rv R) (hf : ∀ x ∈ R, ruleFit x) (hRz : R.length ≤ 16777216) (hM : MachAt w mv M) (hMf : MachFit M) :
    Calls Tryz.prog 39 #[rv, mv, .int .i64 n] w fun e w' => e = .returned (.bool (areC R M n)) ∧ Below w.heap.size w w' := by
  have HRU := Box.mk (fun W (h : Below w.heap.size w W) => rules11_any rv R n W hf (hR.below h) hRz)
  have HRM := Box.mk (fun W (h : Below w.heap.size w W) => rright12_any mv M n W (hM.below h) hMf)
  obtain ⟨ro, rc, rfl⟩ := hR.slice
  obtain ⟨nv, fv, rfl, hra, hia⟩ := hM
  obtain ⟨na, nc, rfl⟩ := hra.slice
  have HIA := Box.mk hia
  obtain ⟨fo, fc, rfl⟩ := hia.slice
  obtain ⟨w2, hw2⟩ : ∃ w2, w2 = w.alloc (.cells #[.slice na M.1.length nc, .slice fo M.2.length fc] 26) := ⟨_, rfl⟩
  have HW2 := Box.mk hw2
  have hb2 : Below w.heap.size w w2 := by rw [hw2]; exact alloc_below _ _
  have HB2 := Box.mk hb2
  have HBA := Box.mk (show Blk w2 w.heap.size 26 #[.slice na M.1.length nc, .slice fo M.2.length fc] by rw [hw2]; exact Blk.new w _ _)
  clear hra hia hR hf hMf hw2 hb2
  cases hr : rulesB n R with
  | false =>
    have HR := Box.mk hr
    have HA := Box.mk (show areC R M n = false by unfold areC; rw [hr]; rfl)
    clear hr
    go_enter Tryz.func39, Tryz.ntmps39
    go_upto_region 1 with (fail)
    rw [← HW2.out]
    go_wp2_with fail
    refine (HRU.out _ HB2.out).mono ?_; rintro e w3 ⟨rfl, hb3⟩; rw [HR.out]
    have HB3 := Box.mk (HB2.out.trans (hb3.mono HB2.out.size))
    clear hb3
    go_wp2_with fail
    go_ret
    exact ⟨by rw [HA.out]; rfl, HB3.out⟩
  | true =>
    have HR := Box.mk hr
    have hl40 := (rulesB_parts hr).2.2.1
    cases hm : machR n M with
    | false =>
      have HM := Box.mk hm
      have HA := Box.mk (show areC R M n = false by unfold areC; rw [hm]; simp)
      clear hr hm hl40
      go_enter Tryz.func39, Tryz.ntmps39
      go_upto_region 1 with (fail)
      rw [← HW2.out]
      go_wp2_with fail
      refine (HRU.out _ HB2.out).mono ?_; rintro e w3 ⟨rfl, hb3⟩; rw [HR.out]
      have HB3 := Box.mk (HB2.out.trans (hb3.mono HB2.out.size))
      have hba := HBA.out.below hb3 HBA.out.lt
      have c0 : w3.cell? ⟨w.heap.size, 0, none⟩ = some (.slice na M.1.length nc) := (hba.cell 0).trans rfl
      have c1 : w3.cell? ⟨w.heap.size, 1, none⟩ = some (.slice fo M.2.length fc) := (hba.cell 1).trans rfl
      have l0 := hba.lt
      clear hb3 hba
      go_wp2_with fail
      refine (HRM.out _ HB3.out).mono ?_; rintro e w4 ⟨rfl, hb4⟩; rw [HM.out]
      have HB4 := Box.mk (HB3.out.trans (hb4.mono HB3.out.size))
      clear hb4 c0 c1 l0
      go_wp2_with fail
      go_ret
      exact ⟨by rw [HA.out]; rfl, HB4.out⟩
    | true =>
      have HM := Box.mk hm
      have HA := Box.mk (show areC R M n = M.2.all (inB R.length) by unfold areC; rw [hr, hm]; rfl)
      have HF := Box.mk (fits_bound hm)
      obtain ⟨-, -, -, hm300, hmm⟩ := machR_parts hm
      have hfl : M.2.length ≤ 300 := by omega
      clear hr hm hm300 hmm
      go_enter Tryz.func39, Tryz.ntmps39
      go_upto_region 1 with (fail)
      rw [← HW2.out]
      go_wp2_with fail
      refine (HRU.out _ HB2.out).mono ?_; rintro e w3 ⟨rfl, hb3⟩; rw [HR.out]
      have HB3 := Box.mk (HB2.out.trans (hb3.mono HB2.out.size))
      have HBA3 := Box.mk (HBA.out.below hb3 HBA.out.lt)
      have c0 : w3.cell? ⟨w.heap.size, 0, none⟩ = some (.slice na M.1.length nc) := (HBA3.out.cell 0).trans rfl
      have c1 : w3.cell? ⟨w.heap.size, 1, none⟩ = some (.slice fo M.2.length fc) := (HBA3.out.cell 1).trans rfl
      have l0 := HBA3.out.lt
      clear hb3
      go_wp2_with fail
      refine (HRM.out _ HB3.out).mono ?_; rintro e w4 ⟨rfl, hb4⟩; rw [HM.out]
      have HB4 := Box.mk (HB3.out.trans (hb4.mono HB3.out.size))
      have HBA4 := Box.mk (HBA3.out.below hb4 HBA3.out.lt)
      clear hb4 c0 c1 l0
      go_wp2_with fail
      go_loopw [7] (fun i wr => ∃ k : Nat, k ≤ M.2.length ∧ i = .int .i64 k ∧ Box ((M.2.take k).all (inB R.length) = true) ∧ Box (Below w4.heap.size w4 wr)) (fun i _ => M.2.length - (intOf i).toNat)
      case atStart => exact ⟨0, by omega, rfl, ⟨rfl⟩, ⟨Below.refl _ _⟩⟩
      case round =>
        obtain ⟨k, hk, rfl, hall, hb⟩ := hrel
        have hbr := HBA4.out.below hb.out HBA4.out.lt
        have c1 : wr.cell? ⟨w.heap.size, 1, none⟩ = some (.slice fo M.2.length fc) := (hbr.cell 1).trans rfl
        have l0 := hbr.lt
        have HDR := Box.mk (fun m => HB4.out.trans ((hb.out.trans ((below_drewN0 wr m).mono hb.out.size)).mono HB4.out.size))
        have HDR2 := Box.mk (fun m => hb.out.trans ((below_drewN0 wr m).mono hb.out.size))
        by_cases hlt : k < M.2.length
        · obtain ⟨x, hx⟩ : ∃ x, M.2[k]? = some x := ⟨_, List.getElem?_eq_getElem hlt⟩
          obtain ⟨g, off, cap2, hg1, hg2, hg3, hg4, hg5⟩ := (HIA.out.below (HB4.out.trans (hb.out.mono HB4.out.size))).get (by rintro e; rw [e] at hlt; simp at hlt)
          obtain ⟨rfl, rfl⟩ : fo = some ⟨g, off, none⟩ ∧ fc = cap2 := by injection hg1 with h1 h2 h3; exact ⟨h1, h3⟩
          have hcx := hg5 k x hx
          have HTK := Box.mk (show (M.2.take (k + 1)).all (inB R.length) = inB R.length x by
            rw [List.take_add_one, hx, List.all_append, hall.out]; simp)
          have HNO := Box.mk (show inB R.length x = false → M.2.all (inB R.length) = false from fun h => by
            rw [Bool.eq_false_iff]
            intro ha
            rw [List.all_eq_true] at ha
            rw [ha x (List.mem_of_getElem? hx)] at h
            cases h)
          have HP := Box.mk (show ((2 ^ R.length : Nat) : Int) = 2 ^ R.length from by simp)
          obtain ⟨P, hP⟩ : ∃ P : Nat, P = 2 ^ R.length := ⟨_, rfl⟩
          have HWT := Box.mk (fun W => worth13_any R.length W hl40)
          rw [← hP] at HWT
          have HIN := Box.mk (show inB R.length x = decide (x < (P : Int)) by unfold inB; rw [← HP.out, ← hP])
          unfold maxLen at hg3
          clear hg1 hg5 hx hP
          rcases Int.lt_or_le x P with hxp | hxp
          · have HT := Box.mk (show (M.2.take (k + 1)).all (inB R.length) = true by rw [HTK.out, HIN.out]; exact decide_eq_true hxp)
            have d0 : decide ((P : Int) ≤ x) = false := decide_eq_false (by omega)
            go_wp2_with fail
            go_quiet ((go_at_call 41; exact quiet_left (HWT.out _)))
            go_wp2_with fail
            go_roundw
            case rel => exact ⟨k + 1, hlt, by go_num, HT, ⟨HDR2.out _⟩⟩
            case measure => simp [intOf]; omega
          · have HT := Box.mk (HNO.out (by rw [HIN.out]; exact decide_eq_false (by omega)))
            have d0 : decide ((P : Int) ≤ x) = true := decide_eq_true hxp
            go_wp2_with fail
            go_quiet ((go_at_call 41; exact quiet_left (HWT.out _)))
            go_wp2_with fail
            go_ret
            exact ⟨by rw [HA.out, HT.out]; rfl, HDR.out _⟩
        · have HT := Box.mk (show M.2.all (inB R.length) = true by have := hall.out; rwa [List.take_of_length_le (by omega)] at this)
          go_wp2_with fail
          go_ret
          exact ⟨by rw [HA.out, HT.out]; rfl, HB4.out.trans (hb.out.mono HB4.out.size)⟩
end Go.Proofs.YtbpcipobdokcfaaGreatDoor
