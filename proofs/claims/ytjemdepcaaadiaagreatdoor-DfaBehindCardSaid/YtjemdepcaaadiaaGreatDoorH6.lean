/-
  Texts of this claim, one behind the other: DfW, DfY, DfZ, Df1, Df3, Df4, Card, Card2, Pat, Open12, Df12.
-/
import Derived.Test.YtjemdepcaaadiaaGreatDoorH5
import Derived.Test.YtjemdepcaaadiaaGreatDoorH3
import Derived.Test.YtjemdepcaaadiaaGreatDoorCards
import Derived.Test.YtjemdepcaaadiaaGreatDoorTie
import Derived.Test.YtjemdepcaaadiaaGreatDoorH1
import Derived.ProofKit
import Derived.OpenShut
import Derived.Deep.DeepHandedRow
import Derived.Deep.DeepWitnessRowRef
import Derived.Stop.LaidTwo
import Derived.Below
import Derived.ChangeSame
import Derived.WideKeyArgs
import Derived.ChangeArms
import Derived.Test.YtjemdepcaaadiaaGreatDoorH4
import Derived.Deep.Slices
import Derived.Deep.Strs
import Derived.Test.YtjemdepcaaadiaaGreatDoorH2

/- TWO MACHINES COMPARED: by the document and by the program. -/
namespace Go.Proofs.YtjemdepcaaadiaaGreatDoor
open Go.RowKit Go.Shelf
attribute [local go_sem] Oper.semAt_some

/-- a machine of a size that is looked at -/
def MachFit (M : D.Mach) : Prop := M.1.length ≤ 1000 ∧ M.2.length ≤ 1000 ∧ ∀ r ∈ M.1, r.length ≤ 1000
theorem rows_take_step {xs ys : List (List Int)} {k : Nat} {x : List Int} (h : xs.take k = ys.take k) (hx : xs[k]? = some x) (hy : ys[k]? = some x) : xs.take (k + 1) = ys.take (k + 1) := by
  rw [List.take_add_one, List.take_add_one, h, hx, hy]
theorem rows_ne_step {xs ys : List (List Int)} {k : Nat} {x y : List Int} (hx : xs[k]? = some x) (hy : ys[k]? = some y) (h : x ≠ y) : xs ≠ ys := by
  rintro rfl
  rw [hx] at hy
  exact h (by simpa using hy)
theorem mach_eq {M N : D.Mach} (h1 : M.1 = N.1) (h2 : M.2 = N.2) : M = N := by cases M; cases N; simp_all

set_option maxRecDepth 100000 in
set_option maxHeartbeats 4000000 in
theorem same12_any (a b : Value) (M N : D.Mach) (w : World) (ha : MachAt w a M) (hb : MachAt w b N) (hM : MachFit M) (hN : MachFit N) :
    Calls Tryz.prog 19 #[a, b] w fun e w' => e = .returned (.bool (decide (M = N))) ∧ Below w.heap.size w w' := by
  obtain ⟨na, fa, rfl, hra, hia⟩ := ha
  obtain ⟨nb, fb, rfl, hrb, hib⟩ := hb
  have HRA := Box.mk hra
  have HRB := Box.mk hrb
  have HFM := Box.mk hM
  have HFN := Box.mk hN
  obtain ⟨aa, ca, rfl⟩ := hra.slice
  obtain ⟨ab, cb, rfl⟩ := hrb.slice
  obtain ⟨w2, hw2⟩ : ∃ w2, w2 = (w.alloc (.cells #[.slice aa M.1.length ca, fa] 25)).alloc (.cells #[.slice ab N.1.length cb, fb] 25) := ⟨_, rfl⟩
  have HW2 := Box.mk hw2
  have hbw : Below w.heap.size w w2 := by rw [hw2]; exact ((Below.refl _ _).alloc (Nat.le_refl _) _).alloc (by simp) _
  have HBW := Box.mk hbw
  have HBA := Box.mk (show Blk w2 w.heap.size 25 #[.slice aa M.1.length ca, fa] by rw [hw2]; exact (Blk.new w _ _).alloc _)
  have HBB := Box.mk (show Blk w2 (w.heap.size + 1) 25 #[.slice ab N.1.length cb, fb] by
    rw [hw2]
    have := Blk.new (w.alloc (.cells #[.slice aa M.1.length ca, fa] 25)) 25 #[.slice ab N.1.length cb, fb]
    simpa using this)
  have HSE := Box.mk (fun W (h : Below w.heap.size w W) => sets12_eq fa fb M.2 N.2 W (hia.below h) (hib.below h) (by have := hM.2.1; omega) (by have := hN.2.1; omega))
  have c0 : w2.cell? ⟨w.heap.size, 0, none⟩ = some (.slice aa M.1.length ca) := (HBA.out.cell 0).trans rfl
  have c1 : w2.cell? ⟨w.heap.size, 1, none⟩ = some fa := (HBA.out.cell 1).trans rfl
  have c2 : w2.cell? ⟨w.heap.size + 1, 0, none⟩ = some (.slice ab N.1.length cb) := (HBB.out.cell 0).trans rfl
  have c3 : w2.cell? ⟨w.heap.size + 1, 1, none⟩ = some fb := (HBB.out.cell 1).trans rfl
  have l0 := HBA.out.lt
  have l1 := HBB.out.lt
  clear hra hrb hia hib hM hN hbw hw2
  by_cases hlen : M.1.length = N.1.length
  · have HLEN := Box.mk hlen
    rw [← hlen] at c2
    clear hlen
    cases hd : decide (M.2 = N.2) with
    | false =>
      have HD := Box.mk hd
      have HF := Box.mk (show decide (M = N) = false by rw [decide_eq_false_iff_not] at hd ⊢; rintro rfl; exact hd rfl)
      clear hd
      go_enter Tryz.func19, Tryz.ntmps19
      go_upto_region 1 with (fail)
      rw [← HW2.out]
      go_wp2_with fail
      refine (HSE.out _ HBW.out).mono ?_; rintro e w3 ⟨rfl, hb3⟩; rw [HD.out]
      go_wp2_with fail
      go_ret
      exact ⟨ret_bool (by rw [HF.out]), HBW.out.trans (hb3.mono HBW.out.size)⟩
    | true =>
      have HD := Box.mk hd
      clear hd
      go_enter Tryz.func19, Tryz.ntmps19
      go_upto_region 1 with (fail)
      rw [← HW2.out]
      go_wp2_with fail
      refine (HSE.out _ HBW.out).mono ?_; rintro e w3 ⟨rfl, hb3⟩; rw [HD.out]
      have HB3 := Box.mk hb3
      clear c0 c1 c2 c3 l0 l1 hb3
      go_wp2_with fail
      go_loopw [5] (fun i wr => ∃ k : Nat, k ≤ M.1.length ∧ i = .int .i64 k ∧ Box (M.1.take k = N.1.take k) ∧ Box (Below w2.heap.size w2 wr)) (fun i _ => M.1.length - (intOf i).toNat)
      case atStart => exact ⟨0, by omega, rfl, ⟨rfl⟩, HB3⟩
      case round =>
        obtain ⟨k, hk, rfl, hE, hbr⟩ := hrel
        have hba := HBA.out.below hbr.out HBA.out.lt
        have hbb := HBB.out.below hbr.out HBB.out.lt
        have c0 : wr.cell? ⟨w.heap.size, 0, none⟩ = some (.slice aa M.1.length ca) := (hba.cell 0).trans rfl
        have l0 := hba.lt
        by_cases hlt : k < M.1.length
        · obtain ⟨x, hx⟩ : ∃ x, M.1[k]? = some x := ⟨_, List.getElem?_eq_getElem hlt⟩
          obtain ⟨y, hy⟩ : ∃ y, N.1[k]? = some y := ⟨_, List.getElem?_eq_getElem (by rw [← HLEN.out]; exact hlt)⟩
          have HBR := Box.mk (HBW.out.trans (hbr.out.mono HBW.out.size))
          obtain ⟨pa, oa, ca', ha0, ha1, ha2, ha3, ha4⟩ := (HRA.out.below HBR.out).get (by intro e; rw [e] at hlt; simp at hlt)
          obtain ⟨rfl, rfl⟩ : aa = some ⟨pa, oa, none⟩ ∧ ca = ca' := by injection ha0 with h1 h2 h3; exact ⟨h1, h3⟩
          obtain ⟨pb, ob, cb', hb0, hb1, hb2, hb3, hb4⟩ := (HRB.out.below HBR.out).get (by intro e; rw [e] at hy; simp at hy)
          obtain ⟨rfl, rfl⟩ : ab = some ⟨pb, ob, none⟩ ∧ cb = cb' := by injection hb0 with h1 h2 h3; exact ⟨h1, h3⟩
          obtain ⟨xv, hxc, hxi⟩ := ha4 k x hx
          obtain ⟨yv, hyc, hyi⟩ := hb4 k y hy
          have HX := Box.mk hx
          have HY := Box.mk hy
          have HIE := Box.mk (fun W (h : Below wr.heap.size wr W) => ints_eq xv yv x y W (hxi.below h) (hyi.below h) (by have := HFM.out.2.2 x (List.mem_of_getElem? hx); omega) (by have := HFN.out.2.2 y (List.mem_of_getElem? hy); omega))
          have HFF := Box.mk (show ∀ W, Below wr.heap.size wr W → W.cell? ⟨w.heap.size, 0, none⟩ = some (.slice (some ⟨pa, oa, none⟩) M.1.length ca) ∧ W.cell? ⟨w.heap.size + 1, 0, none⟩ = some (.slice (some ⟨pb, ob, none⟩) N.1.length cb) ∧ W.cell? ⟨pa, oa + k, none⟩ = some xv ∧ W.cell? ⟨pb, ob + k, none⟩ = some yv from fun W h =>
            ⟨((hba.below h hba.lt).cell 0).trans rfl, ((hbb.below h hbb.lt).cell 0).trans rfl, (h.cell (p := ⟨pa, oa + k, none⟩) ha3).trans hxc, (h.cell (p := ⟨pb, ob + k, none⟩) hb3).trans hyc⟩)
          have HBD := Box.mk (show Below wr.heap.size wr wr.drew from ⟨rfl, rfl, rfl, Nat.le_refl _, fun _ _ => rfl⟩)
          unfold maxLen at ha2 hb2
          have hltb : k < N.1.length := by rw [← HLEN.out]; exact hlt
          have hltc : k < ca := by omega
          have hltd : k < cb := by omega
          clear ha0 ha4 hb0 hb4 hx hy hxc hyc hxi hyi hba hbb
          by_cases hxy : x = y
          · subst hxy
            have HQ := Box.mk (show decide (x = x) = true by simp)
            go_wp2_with fail
            refine wp_region_K 10 (fun W => W.cell? ⟨w.heap.size, 0, none⟩ = some (.slice (some ⟨pa, oa, none⟩) M.1.length ca) ∧ W.cell? ⟨w.heap.size + 1, 0, none⟩ = some (.slice (some ⟨pb, ob, none⟩) N.1.length cb) ∧ W.cell? ⟨pa, oa + k, none⟩ = some xv ∧ W.cell? ⟨pb, ob + k, none⟩ = some yv) (by kernel_rfl) ?_
            have HF0 := Box.mk (HFF.out _ HBD.out)
            refine wpAnyK_take (i := 0) (v := ?_) rfl (by kernel_rfl) (fun _ _ _ h => h) (Or.inl ⟨by kernel_rfl, ?_⟩) HF0.out ?_
            rotate_left
            · first | (intro w hw; obtain ⟨q1, q2, q3, q4⟩ := hw; go_simp; done) | (intro w hw; obtain ⟨q1, q2, q3, q4⟩ := hw; go_simp; with_reducible rfl)
            refine wpAnyK_take (i := 1) (v := ?_) rfl (by kernel_rfl) (fun _ _ _ h => h) (Or.inl ⟨by kernel_rfl, ?_⟩) HF0.out ?_
            rotate_left
            · first | (intro w hw; obtain ⟨q1, q2, q3, q4⟩ := hw; go_simp; done) | (intro w hw; obtain ⟨q1, q2, q3, q4⟩ := hw; go_simp; with_reducible rfl)
            refine wpAnyK_take (i := 2) (v := ?_) rfl (by kernel_rfl) (fun _ _ _ h => h) (Or.inl ⟨by kernel_rfl, ?_⟩) HF0.out ?_
            rotate_left
            · first | (intro w hw; obtain ⟨q1, q2, q3, q4⟩ := hw; go_simp; done) | (intro w hw; obtain ⟨q1, q2, q3, q4⟩ := hw; go_simp; with_reducible rfl)
            refine wpAnyK_take (i := 3) (v := ?_) rfl (by kernel_rfl) (fun _ _ _ h => h) (Or.inl ⟨by kernel_rfl, ?_⟩) HF0.out ?_
            rotate_left
            · first | (intro w hw; obtain ⟨q1, q2, q3, q4⟩ := hw; go_simp; done) | (intro w hw; obtain ⟨q1, q2, q3, q4⟩ := hw; go_simp; with_reducible rfl)
            refine wpAnyK_take (i := 4) (v := ?_) rfl (by kernel_rfl) (fun _ _ _ h => h) (Or.inl ⟨by kernel_rfl, ?_⟩) HF0.out ?_
            rotate_left
            · first | (intro w hw; obtain ⟨q1, q2, q3, q4⟩ := hw; go_simp; done) | (intro w hw; obtain ⟨q1, q2, q3, q4⟩ := hw; go_simp; with_reducible rfl)
            refine wpAnyK_take (i := 5) (v := ?_) rfl (by kernel_rfl) (fun _ _ _ h => h) (Or.inl ⟨by kernel_rfl, ?_⟩) HF0.out ?_
            rotate_left
            · first | (intro w hw; obtain ⟨q1, q2, q3, q4⟩ := hw; go_simp; done) | (intro w hw; obtain ⟨q1, q2, q3, q4⟩ := hw; go_simp; with_reducible rfl)
            refine wpAnyK_take (i := 6) (v := ?_) rfl (by kernel_rfl) (fun _ _ _ h => h) (Or.inl ⟨by kernel_rfl, ?_⟩) HF0.out ?_
            rotate_left
            · first | (intro w hw; obtain ⟨q1, q2, q3, q4⟩ := hw; go_simp; done) | (intro w hw; obtain ⟨q1, q2, q3, q4⟩ := hw; go_simp; with_reducible rfl)
            refine wpAnyK_take (i := 7) (v := ?_) rfl (by kernel_rfl) (fun _ _ _ h => h) (Or.inl ⟨by kernel_rfl, ?_⟩) HF0.out ?_
            rotate_left
            · first | (intro w hw; obtain ⟨q1, q2, q3, q4⟩ := hw; go_simp; done) | (intro w hw; obtain ⟨q1, q2, q3, q4⟩ := hw; go_simp; with_reducible rfl)
            refine wpAnyK_take (i := 8) (v := ?_) rfl (by kernel_rfl) (fun _ _ _ h => h) (Or.inl ⟨by kernel_rfl, ?_⟩) HF0.out ?_
            rotate_left
            · first | (intro w hw; obtain ⟨q1, q2, q3, q4⟩ := hw; go_simp; done) | (intro w hw; obtain ⟨q1, q2, q3, q4⟩ := hw; go_simp; with_reducible rfl)
            refine wpAnyK_take (i := 9) (v := ?_) rfl (by kernel_rfl) (fun _ _ _ h => h) (Or.inl ⟨by kernel_rfl, ?_⟩) HF0.out ?_
            rotate_left
            · first | (intro w hw; obtain ⟨q1, q2, q3, q4⟩ := hw; go_simp; done) | (intro w hw; obtain ⟨q1, q2, q3, q4⟩ := hw; go_simp; with_reducible rfl)
            refine wpAnyK_one (i := 10) (by kernel_rfl) rfl (fun KK hKK => ?_)
            go_simp
            go_wp2_with (go_at_call 16; refine (HIE.out _ HBD.out).mono ?_; rintro e w7 ⟨rfl, hb7⟩; rw [HQ.out])
            have HB7 := Box.mk (show Below wr.heap.size wr w7 from HBD.out.trans (hb7.mono (Nat.le_refl _)))
            clear hb7
            refine hKK.out _ _ (fun h => by cases h) ?_
            clear hKK KK
            refine wpAnyK_one (i := 11) (by kernel_rfl) rfl (fun KK hKK => ?_)
            go_simp
            refine hKK.out _ _ (fun h => by cases h) ?_
            clear hKK KK
            refine wpAnyK_done (by kernel_rfl) ?_ _
            refine NoPanic.normal ?_
            go_wp2_with fail
            go_roundw
            case rel => exact ⟨k + 1, hlt, by go_num, ⟨rows_take_step hE.out HX.out HY.out⟩, ⟨hbr.out.trans (HB7.out.mono hbr.out.size)⟩⟩
            case measure => simp [intOf]; omega
          · have HQ := Box.mk (show decide (x = y) = false by simpa using hxy)
            have HF := Box.mk (show decide (M = N) = false by rw [decide_eq_false_iff_not]; rintro rfl; exact rows_ne_step HX.out HY.out hxy rfl)
            go_wp2_with fail
            refine wp_region_K 10 (fun W => W.cell? ⟨w.heap.size, 0, none⟩ = some (.slice (some ⟨pa, oa, none⟩) M.1.length ca) ∧ W.cell? ⟨w.heap.size + 1, 0, none⟩ = some (.slice (some ⟨pb, ob, none⟩) N.1.length cb) ∧ W.cell? ⟨pa, oa + k, none⟩ = some xv ∧ W.cell? ⟨pb, ob + k, none⟩ = some yv) (by kernel_rfl) ?_
            have HF0 := Box.mk (HFF.out _ HBD.out)
            refine wpAnyK_take (i := 0) (v := ?_) rfl (by kernel_rfl) (fun _ _ _ h => h) (Or.inl ⟨by kernel_rfl, ?_⟩) HF0.out ?_
            rotate_left
            · first | (intro w hw; obtain ⟨q1, q2, q3, q4⟩ := hw; go_simp; done) | (intro w hw; obtain ⟨q1, q2, q3, q4⟩ := hw; go_simp; with_reducible rfl)
            refine wpAnyK_take (i := 1) (v := ?_) rfl (by kernel_rfl) (fun _ _ _ h => h) (Or.inl ⟨by kernel_rfl, ?_⟩) HF0.out ?_
            rotate_left
            · first | (intro w hw; obtain ⟨q1, q2, q3, q4⟩ := hw; go_simp; done) | (intro w hw; obtain ⟨q1, q2, q3, q4⟩ := hw; go_simp; with_reducible rfl)
            refine wpAnyK_take (i := 2) (v := ?_) rfl (by kernel_rfl) (fun _ _ _ h => h) (Or.inl ⟨by kernel_rfl, ?_⟩) HF0.out ?_
            rotate_left
            · first | (intro w hw; obtain ⟨q1, q2, q3, q4⟩ := hw; go_simp; done) | (intro w hw; obtain ⟨q1, q2, q3, q4⟩ := hw; go_simp; with_reducible rfl)
            refine wpAnyK_take (i := 3) (v := ?_) rfl (by kernel_rfl) (fun _ _ _ h => h) (Or.inl ⟨by kernel_rfl, ?_⟩) HF0.out ?_
            rotate_left
            · first | (intro w hw; obtain ⟨q1, q2, q3, q4⟩ := hw; go_simp; done) | (intro w hw; obtain ⟨q1, q2, q3, q4⟩ := hw; go_simp; with_reducible rfl)
            refine wpAnyK_take (i := 4) (v := ?_) rfl (by kernel_rfl) (fun _ _ _ h => h) (Or.inl ⟨by kernel_rfl, ?_⟩) HF0.out ?_
            rotate_left
            · first | (intro w hw; obtain ⟨q1, q2, q3, q4⟩ := hw; go_simp; done) | (intro w hw; obtain ⟨q1, q2, q3, q4⟩ := hw; go_simp; with_reducible rfl)
            refine wpAnyK_take (i := 5) (v := ?_) rfl (by kernel_rfl) (fun _ _ _ h => h) (Or.inl ⟨by kernel_rfl, ?_⟩) HF0.out ?_
            rotate_left
            · first | (intro w hw; obtain ⟨q1, q2, q3, q4⟩ := hw; go_simp; done) | (intro w hw; obtain ⟨q1, q2, q3, q4⟩ := hw; go_simp; with_reducible rfl)
            refine wpAnyK_take (i := 6) (v := ?_) rfl (by kernel_rfl) (fun _ _ _ h => h) (Or.inl ⟨by kernel_rfl, ?_⟩) HF0.out ?_
            rotate_left
            · first | (intro w hw; obtain ⟨q1, q2, q3, q4⟩ := hw; go_simp; done) | (intro w hw; obtain ⟨q1, q2, q3, q4⟩ := hw; go_simp; with_reducible rfl)
            refine wpAnyK_take (i := 7) (v := ?_) rfl (by kernel_rfl) (fun _ _ _ h => h) (Or.inl ⟨by kernel_rfl, ?_⟩) HF0.out ?_
            rotate_left
            · first | (intro w hw; obtain ⟨q1, q2, q3, q4⟩ := hw; go_simp; done) | (intro w hw; obtain ⟨q1, q2, q3, q4⟩ := hw; go_simp; with_reducible rfl)
            refine wpAnyK_take (i := 8) (v := ?_) rfl (by kernel_rfl) (fun _ _ _ h => h) (Or.inl ⟨by kernel_rfl, ?_⟩) HF0.out ?_
            rotate_left
            · first | (intro w hw; obtain ⟨q1, q2, q3, q4⟩ := hw; go_simp; done) | (intro w hw; obtain ⟨q1, q2, q3, q4⟩ := hw; go_simp; with_reducible rfl)
            refine wpAnyK_take (i := 9) (v := ?_) rfl (by kernel_rfl) (fun _ _ _ h => h) (Or.inl ⟨by kernel_rfl, ?_⟩) HF0.out ?_
            rotate_left
            · first | (intro w hw; obtain ⟨q1, q2, q3, q4⟩ := hw; go_simp; done) | (intro w hw; obtain ⟨q1, q2, q3, q4⟩ := hw; go_simp; with_reducible rfl)
            refine wpAnyK_one (i := 10) (by kernel_rfl) rfl (fun KK hKK => ?_)
            go_simp
            go_wp2_with (go_at_call 16; refine (HIE.out _ HBD.out).mono ?_; rintro e w7 ⟨rfl, hb7⟩; rw [HQ.out])
            have HB7 := Box.mk (show Below wr.heap.size wr w7 from HBD.out.trans (hb7.mono (Nat.le_refl _)))
            clear hb7
            refine hKK.out _ _ (fun h => by cases h) ?_
            clear hKK KK
            refine wpAnyK_one (i := 11) (by kernel_rfl) rfl (fun KK hKK => ?_)
            go_simp
            refine hKK.out _ _ (fun h => by cases h) ?_
            clear hKK KK
            refine wpAnyK_done (by kernel_rfl) ?_ _
            refine NoPanic.normal ?_
            go_wp2_with fail
            go_ret
            exact ⟨ret_bool (by rw [HF.out]), HBR.out.trans (HB7.out.mono HBR.out.size)⟩
        · have HT := Box.mk (show decide (M = N) = true by
            rw [decide_eq_true_iff]
            have h1 := hE.out
            rw [show k = M.1.length by omega, List.take_length, HLEN.out, List.take_length] at h1
            exact mach_eq h1 (of_decide_eq_true HD.out))
          go_wp2_with fail
          go_ret
          exact ⟨ret_bool (by rw [HT.out]), HBW.out.trans (hbr.out.mono HBW.out.size)⟩
  · have HF := Box.mk (show decide (M = N) = false by rw [decide_eq_false_iff_not]; rintro rfl; exact hlen rfl)
    have HNE := Box.mk (show ¬ ((M.1.length : Int) = (N.1.length : Int)) by omega)
    clear hlen
    go_enter Tryz.func19, Tryz.ntmps19
    go_upto_region 1 with (fail)
    rw [← HW2.out]
    go_wp2_with fail
    · exact absurd (by assumption) HNE.out
    go_ret
    exact ⟨ret_bool (by rw [HF.out]), HBW.out⟩
end Go.Proofs.YtjemdepcaaadiaaGreatDoor

/- WHICH MACHINES ARE RIGHT: the program's answer. -/
namespace Go.Proofs.YtjemdepcaaadiaaGreatDoor
open Go.RowKit Go.Shelf
attribute [local go_sem] Oper.semAt_some

def toR (L : Nat) (t : Int) : Bool := decide (0 ≤ t) && decide (t < L)
def rowR (n : Int) (M : D.Mach) (i : Nat) : Bool := decide (((M.1.getD i []).length : Int) = n + 1) && (M.1.getD i []).all (toR M.1.length) && decide (0 ≤ M.2.getD i 0) && decide (M.2.getD i 0 < 1099511627776)
def machR (n : Int) (M : D.Mach) : Bool := decide (1 ≤ n) && decide (n ≤ 32) && decide (1 ≤ M.1.length) && decide (M.1.length ≤ 300) && decide (M.2.length = M.1.length) && (List.range M.1.length).all (rowR n M)

theorem other12_any (t : Int) (bm : Nat) (na : Option Addr) (L nc : Nat) (w : World) (hc : w.cell? ⟨bm, 0, none⟩ = some (.slice na L nc)) (_hlt : bm < w.heap.size) :
    Calls Tryz.prog 29 #[.int .i64 t, .pointer (some ⟨bm, 0, none⟩)] w fun e w' => e = .returned (.bool (!toR L t)) ∧ w = w' := by
  unfold toR
  go_enter Tryz.func29, Tryz.ntmps29
  rcases Int.lt_or_le t 0 with h | h
  · go_wp2_with fail
    go_ret
    exact ⟨ret_bool (by simp; omega), rfl⟩
  · rcases Int.lt_or_le t L with h2 | h2
    · go_wp2_with fail
      go_ret
      exact ⟨ret_bool (by simp [h, h2]), rfl⟩
    · go_wp2_with fail
      go_ret
      exact ⟨ret_bool (by simp <;> omega), rfl⟩

set_option maxHeartbeats 2000000 in
theorem indexI_any (v : Value) (xs : List Int) (bm : Nat) (na : Option Addr) (L nc : Nat) (w : World) (hv : IntsAt w v xs) (hz : xs.length ≤ 16777216) (hc : w.cell? ⟨bm, 0, none⟩ = some (.slice na L nc)) (hlt : bm < w.heap.size) :
    Calls Tryz.prog 46 #[v, .func (.func 29) #[] #[.pointer (some ⟨bm, 0, none⟩)]] w fun e w' => (∃ i : Int, e = .returned (.int .i64 i) ∧ decide (0 ≤ i) = !xs.all (toR L)) ∧ w = w' := by
  have HVB := Box.mk hv
  obtain ⟨ao, cap, rfl⟩ := hv.slice
  have HO := Box.mk (fun t => other12_any t bm na L nc w hc hlt)
  clear hv hc
  go_enter Tryz.func46, Tryz.ntmps46
  go_wp2
  go_loop [8] (fun i => ∃ k : Nat, k ≤ xs.length ∧ i = .int .i64 k ∧ Box ((xs.take k).all (toR L) = true)) (fun i => xs.length - (intOf i).toNat)
  case atStart => exact ⟨0, by omega, rfl, ⟨rfl⟩⟩
  case round =>
    obtain ⟨k, hk, rfl, ha⟩ := hrel
    by_cases hlt' : k < xs.length
    · obtain ⟨x, hx⟩ : ∃ x, xs[k]? = some x := ⟨_, List.getElem?_eq_getElem hlt'⟩
      obtain ⟨g, off, cap2, hg1, hg2, hg3, hg4, hg5⟩ := HVB.out.get (by rintro rfl; simp at hlt')
      obtain ⟨rfl, rfl⟩ : ao = some ⟨g, off, none⟩ ∧ cap = cap2 := by injection hg1 with h1 h2 h3; exact ⟨h1, h3⟩
      have hcx := hg5 k x hx
      have HX := Box.mk hx
      unfold maxLen at hg3
      clear hx hg1 hg5
      cases hi : toR L x with
      | true =>
        have HT := Box.mk (show (xs.take (k + 1)).all (toR L) = true by rw [List.take_add_one, HX.out, List.all_append, ha.out]; simp [hi])
        have HI := Box.mk (show (!toR L x) = false by rw [hi]; rfl)
        clear hi
        go_wp2_with fail
        refine (HO.out x).mono ?_; rintro e w1 ⟨rfl, rfl⟩; rw [HI.out]
        go_wp2_with fail
        go_round
        case rel => exact ⟨k + 1, hlt', by go_num, HT⟩
        case measure => simp [intOf]; omega
      | false =>
        have HT := Box.mk (show xs.all (toR L) = false by
          rw [Bool.eq_false_iff]
          intro h
          rw [List.all_eq_true] at h
          rw [h x (List.mem_of_getElem? HX.out)] at hi
          cases hi)
        have HI := Box.mk (show (!toR L x) = true by rw [hi]; rfl)
        clear hi
        go_wp2_with fail
        refine (HO.out x).mono ?_; rintro e w1 ⟨rfl, rfl⟩; rw [HI.out]
        go_wp2_with fail
        go_ret
        exact ⟨⟨k, rfl, by rw [HT.out]; simp⟩, rfl⟩
    · have HT := Box.mk (show xs.all (toR L) = true by have := ha.out; rwa [List.take_of_length_le (by omega)] at this)
      go_wp2_with fail
      go_ret
      exact ⟨⟨-1, rfl, by rw [HT.out]; rfl⟩, rfl⟩
theorem containsI_any (v : Value) (xs : List Int) (bm : Nat) (na : Option Addr) (L nc : Nat) (w : World) (hv : IntsAt w v xs) (hz : xs.length ≤ 16777216) (hc : w.cell? ⟨bm, 0, none⟩ = some (.slice na L nc)) (hlt : bm < w.heap.size) :
    Calls Tryz.prog 30 #[v, .func (.func 29) #[] #[.pointer (some ⟨bm, 0, none⟩)]] w fun e w' => e = .returned (.bool (!xs.all (toR L))) ∧ w = w' := by
  have HI := Box.mk (indexI_any v xs bm na L nc w hv hz hc hlt)
  clear hv hc
  go_enter Tryz.func30, Tryz.ntmps30
  go_wp2_with fail
  refine HI.out.mono ?_; rintro e w1 ⟨⟨i, rfl, hi⟩, rfl⟩
  have HX := Box.mk hi
  clear hi
  go_wp2_with fail
  go_ret
  exact ⟨ret_bool (by simpa using HX.out), rfl⟩

theorem machR_no {n : Int} {M : D.Mach} {k : Nat} (hk : k < M.1.length) (h : rowR n M k = false) : machR n M = false := by
  unfold machR
  rw [show (List.range M.1.length).all (rowR n M) = false by
    rw [Bool.eq_false_iff]
    intro ha
    rw [List.all_eq_true] at ha
    rw [ha k (List.mem_range.2 hk)] at h
    cases h]
  simp
set_option maxRecDepth 100000 in
set_option maxHeartbeats 4000000 in
theorem mright_any (v : Value) (M : D.Mach) (n : Int) (w : World) (hv : MachAt w v M) (hM : MachFit M) :
    Calls Tryz.prog 14 #[v, .int .i64 n] w fun e w' => e = .returned (.bool (machR n M)) ∧ Below w.heap.size w w' := by
  obtain ⟨na, fa, rfl, hra, hia⟩ := hv
  have HRA := Box.mk hra
  have HIA := Box.mk hia
  have HFM := Box.mk hM
  obtain ⟨aa, ca, rfl⟩ := hra.slice
  obtain ⟨fo, fc, rfl⟩ := hia.slice
  obtain ⟨w2, hw2⟩ : ∃ w2, w2 = w.alloc (.cells #[.slice aa M.1.length ca, .slice fo M.2.length fc] 25) := ⟨_, rfl⟩
  have HW2 := Box.mk hw2
  have hbw : Below w.heap.size w w2 := by rw [hw2]; exact alloc_below _ _
  have HBW := Box.mk hbw
  have HBA := Box.mk (show Blk w2 w.heap.size 25 #[.slice aa M.1.length ca, .slice fo M.2.length fc] by rw [hw2]; exact Blk.new w _ _)
  have c0 : w2.cell? ⟨w.heap.size, 0, none⟩ = some (.slice aa M.1.length ca) := (HBA.out.cell 0).trans rfl
  have c1 : w2.cell? ⟨w.heap.size, 1, none⟩ = some (.slice fo M.2.length fc) := (HBA.out.cell 1).trans rfl
  have l0 := HBA.out.lt
  clear hra hia hM hbw hw2
  by_cases hg : 1 ≤ n ∧ n ≤ 32 ∧ 1 ≤ M.1.length ∧ M.1.length ≤ 300 ∧ M.2.length = M.1.length
  · obtain ⟨g1, g2, g3, g4, g5⟩ := hg
    have HMR := Box.mk (show machR n M = (List.range M.1.length).all (rowR n M) by
      unfold machR
      rw [decide_eq_true g1, decide_eq_true g2, decide_eq_true g3, decide_eq_true g4, decide_eq_true g5]; rfl)
    have HG5 := Box.mk g5
    have hf5 : (M.2.length : Int) = (M.1.length : Int) := by omega
    rw [g5] at c1
    clear g5
    go_enter Tryz.func14, Tryz.ntmps14
    go_upto_region 1 with (fail)
    rw [← HW2.out]
    go_wp2_with fail
    go_loop [39] (fun i => ∃ k : Nat, k ≤ M.1.length ∧ i = .int .i64 k ∧ Box ((List.range k).all (rowR n M) = true)) (fun i => M.1.length - (intOf i).toNat)
    case atStart => exact ⟨0, by omega, rfl, ⟨rfl⟩⟩
    case round =>
      obtain ⟨k, hk, rfl, ha⟩ := hrel
      by_cases hlt : k < M.1.length
      · obtain ⟨x, hx⟩ : ∃ x, M.1[k]? = some x := ⟨_, List.getElem?_eq_getElem hlt⟩
        obtain ⟨y, hy⟩ : ∃ y, M.2[k]? = some y := ⟨_, List.getElem?_eq_getElem (by rw [HG5.out]; exact hlt)⟩
        obtain ⟨pa, oa, ca', ha0, ha1, ha2, ha3, ha4⟩ := (HRA.out.below HBW.out).get (by intro e; rw [e] at hlt; simp at hlt)
        obtain ⟨rfl, rfl⟩ : aa = some ⟨pa, oa, none⟩ ∧ ca = ca' := by injection ha0 with h1 h2 h3; exact ⟨h1, h3⟩
        obtain ⟨pb, ob, cb', hb0, hb1, hb2, hb3, hb4⟩ := (HIA.out.below HBW.out).get (by intro e; rw [e] at hy; simp at hy)
        obtain ⟨rfl, rfl⟩ : fo = some ⟨pb, ob, none⟩ ∧ fc = cb' := by injection hb0 with h1 h2 h3; exact ⟨h1, h3⟩
        obtain ⟨xv, hxc, hxi⟩ := ha4 k x hx
        have hyc := hb4 k y hy
        have HRX := Box.mk (show rowR n M k = (decide ((x.length : Int) = n + 1) && x.all (toR M.1.length) && decide (0 ≤ y) && decide (y < 1099511627776)) by
          unfold rowR; rw [show M.1.getD k [] = x by rw [List.getD, hx]; rfl, show M.2.getD k 0 = y by rw [List.getD, hy]; rfl])
        have HCI := Box.mk (containsI_any xv x w.heap.size (some ⟨pa, oa, none⟩) M.1.length ca w2 hxi (by have := HFM.out.2.2 x (List.mem_of_getElem? hx); omega) c0 l0)
        obtain ⟨xo, xc, rfl⟩ := hxi.slice
        have HLT := Box.mk hlt
        have hxz := HFM.out.2.2 x (List.mem_of_getElem? hx)
        rw [HG5.out] at hb1
        unfold maxLen at ha2 hb2
        clear ha0 ha4 hb0 hb4 hx hy hxi
        by_cases hl1 : (x.length : Int) = n + 1
        · have HL1 := Box.mk hl1
          have q1 : ((x.length : Int) == n + 1) = true := by rw [beq_iff_eq]; exact hl1
          clear hl1
          cases hal : x.all (toR M.1.length) with
          | true =>
            have HAL := Box.mk (show (!x.all (toR M.1.length)) = false by rw [hal]; rfl)
            rcases Int.lt_or_le y 0 with hy0 | hy0
            · have HF := Box.mk (machR_no HLT.out (show rowR n M k = false by rw [HRX.out, decide_eq_true HL1.out, hal]; simp; omega))
              clear hal
              go_wp2_with (go_at_call 30; refine HCI.out.mono ?_; rintro e w1 ⟨rfl, rfl⟩; rw [HAL.out])
              all_goals first | (exact absurd HL1.out (by assumption)) | (exfalso; omega) | skip
              go_ret
              exact ⟨ret_bool (by rw [HF.out]), HBW.out⟩
            · rcases Int.lt_or_le y 1099511627776 with hy1 | hy1
              · have HT := Box.mk (show (List.range (k + 1)).all (rowR n M) = true by
                  rw [List.range_succ, List.all_append, ha.out]
                  simp only [List.all_cons, List.all_nil, Bool.and_true, Bool.true_and]
                  rw [HRX.out, decide_eq_true HL1.out, hal, decide_eq_true hy0, decide_eq_true hy1]; rfl)
                clear hal
                go_wp2_with (go_at_call 30; refine HCI.out.mono ?_; rintro e w1 ⟨rfl, rfl⟩; rw [HAL.out])
                all_goals first | (exact absurd HL1.out (by assumption)) | (exfalso; omega) | skip
                go_round
                case rel => exact ⟨k + 1, hlt, by go_num, HT⟩
                case measure => simp [intOf]; omega
              · have HF := Box.mk (machR_no HLT.out (show rowR n M k = false by rw [HRX.out, decide_eq_true HL1.out, hal]; simp; omega))
                clear hal
                go_wp2_with (go_at_call 30; refine HCI.out.mono ?_; rintro e w1 ⟨rfl, rfl⟩; rw [HAL.out])
                all_goals first | (exact absurd HL1.out (by assumption)) | (exfalso; omega) | skip
                go_ret
                exact ⟨ret_bool (by rw [HF.out]), HBW.out⟩
          | false =>
            have HAL := Box.mk (show (!x.all (toR M.1.length)) = true by rw [hal]; rfl)
            have HF := Box.mk (machR_no HLT.out (show rowR n M k = false by rw [HRX.out, hal]; simp))
            clear hal
            go_wp2_with (go_at_call 30; refine HCI.out.mono ?_; rintro e w1 ⟨rfl, rfl⟩; rw [HAL.out])
            all_goals first | (exact absurd HL1.out (by assumption)) | (exfalso; omega) | skip
            go_ret
            exact ⟨ret_bool (by rw [HF.out]), HBW.out⟩
        · have HF := Box.mk (machR_no HLT.out (show rowR n M k = false by rw [HRX.out, decide_eq_false hl1]; rfl))
          have q1 : ((x.length : Int) == n + 1) = false := beq_eq_false_iff_ne.2 hl1
          have HNE := Box.mk hl1
          clear hl1
          go_wp2_with fail
          all_goals first | (exact absurd (by assumption) HNE.out) | skip
          go_ret
          exact ⟨ret_bool (by rw [HF.out]), HBW.out⟩
      · have HT := Box.mk (show machR n M = true by rw [HMR.out, show M.1.length = k by omega]; exact ha.out)
        go_wp2_with fail
        go_ret
        exact ⟨ret_bool (by rw [HT.out]), HBW.out⟩
  · have HF := Box.mk (show machR n M = false by
      unfold machR
      rw [Bool.eq_false_iff]
      intro h
      simp only [Bool.and_eq_true, decide_eq_true_eq] at h
      exact hg ⟨h.1.1.1.1.1, h.1.1.1.1.2, h.1.1.1.2, h.1.1.2, h.1.2⟩)
    have hg' : n < 1 ∨ (1 ≤ n ∧ 32 < n) ∨ (1 ≤ n ∧ n ≤ 32 ∧ M.1.length < 1) ∨ (1 ≤ n ∧ n ≤ 32 ∧ 1 ≤ M.1.length ∧ 300 < M.1.length) ∨ (1 ≤ n ∧ n ≤ 32 ∧ 1 ≤ M.1.length ∧ M.1.length ≤ 300 ∧ ((M.2.length : Int) != (M.1.length : Int)) = true) := by
      simp only [bne_iff_ne, ne_eq]
      omega
    clear hg
    rcases hg' with g1 | ⟨g1, g2⟩ | ⟨g1, g2, g3⟩ | ⟨g1, g2, g3, g4⟩ | ⟨g1, g2, g3, g4, g5⟩
    all_goals
      go_enter Tryz.func14, Tryz.ntmps14
      go_upto_region 1 with (fail)
      rw [← HW2.out]
      go_wp2_with fail
      all_goals first | (exfalso; omega) | (exfalso; simp_all; done) | skip
      go_ret
      exact ⟨ret_bool (by rw [HF.out]), HBW.out⟩
end Go.Proofs.YtjemdepcaaadiaaGreatDoor

/- HOW A MACHINE GOES: the program's Go. -/
namespace Go.Proofs.YtjemdepcaaadiaaGreatDoor
open Go.RowKit Go.Shelf
attribute [local go_sem] Oper.semAt_some

/-- a row that has just been laid -/
theorem Sep.lit {ps : List Pc} {W : World} (h : Sep ps W) {base : Nat} {e : TypeId} {cs : Array Value} {n : Nat} (hb : base ≤ W.heap.size) (hn : n = cs.size) (hm : n ≤ 1000000) : Sep (Pc.row base e 1 (.slice (some ⟨W.heap.size, 0, none⟩) n n) n cs.toList :: ps) (W.alloc (.cells cs e)) := by
  subst hn
  refine h.add ((Below.refl _ _).alloc (Nat.le_refl _) _) ⟨by simp, .inr ⟨W.heap.size, cs.size, cs, rfl, hb, heap_alloc_new _ _, Nat.le_refl _, by unfold maxLen; omega, by simp, ?_⟩⟩ (fun k hk => ?_)
  · rw [Nat.mul_one, ← Array.length_toList, List.take_length]
  · simp [Pc.row, Value.ownBlock] at hk; omega

def stepM (n : Nat) (M : D.Mach) (at' : Nat) (c : Int) : Nat := ((M.1.getD at' []).getD (colOf n c) 0).toNat
/-- where a machine is behind the first i numbers -/
def stM (n : Nat) (M : D.Mach) (l : List Int) (i : Nat) : Nat := (l.take i).foldl (stepM n M) 0
def goM (n : Nat) (M : D.Mach) (l : List Int) : List Nat := (List.range (l.length + 1)).map (stM n M l)
theorem stM_succ {n : Nat} {M : D.Mach} {l : List Int} {i : Nat} {c : Int} (h : l[i]? = some c) : stM n M l (i + 1) = stepM n M (stM n M l i) c := by
  unfold stM; rw [take_snoc' _ _ _ h, List.foldl_append]; rfl
theorem machR_row {n : Nat} {M : D.Mach} (h : machR n M = true) {a : Nat} (ha : a < M.1.length) :
    ∃ r, M.1[a]? = some r ∧ r.length = n + 1 ∧ (∀ c, c ≤ n → ∃ x : Int, r[c]? = some x ∧ 0 ≤ x ∧ x < M.1.length) ∧ ∃ f : Int, M.2[a]? = some f ∧ 0 ≤ f ∧ f < 1099511627776 := by
  unfold machR at h
  simp only [Bool.and_eq_true, decide_eq_true_eq] at h
  obtain ⟨⟨⟨⟨⟨h1, h2⟩, h3⟩, h4⟩, h5⟩, h6⟩ := h
  rw [List.all_eq_true] at h6
  have h7 := h6 a (List.mem_range.2 ha)
  have hr : M.1[a]? = some M.1[a] := List.getElem?_eq_getElem ha
  have hf : M.2[a]? = some (M.2[a]'(by omega)) := List.getElem?_eq_getElem (by omega)
  unfold rowR at h7
  rw [show M.1.getD a [] = M.1[a] by rw [List.getD, hr]; rfl, show M.2.getD a 0 = M.2[a]'(by omega) by rw [List.getD, hf]; rfl] at h7
  simp only [Bool.and_eq_true, decide_eq_true_eq] at h7
  obtain ⟨⟨⟨k1, k2⟩, k3⟩, k4⟩ := h7
  refine ⟨_, hr, by omega, fun c hc => ?_, _, hf, k3, k4⟩
  have hcl : c < M.1[a].length := by omega
  rw [List.all_eq_true] at k2
  have k5 := k2 _ (List.getElem_mem hcl)
  unfold toR at k5
  simp only [Bool.and_eq_true, decide_eq_true_eq] at k5
  exact ⟨_, List.getElem?_eq_getElem hcl, k5.1, k5.2⟩
theorem machR_parts {n : Int} {M : D.Mach} (h : machR n M = true) : 1 ≤ n ∧ n ≤ 32 ∧ 1 ≤ M.1.length ∧ M.1.length ≤ 300 ∧ M.2.length = M.1.length := by
  unfold machR at h
  simp only [Bool.and_eq_true, decide_eq_true_eq] at h
  exact ⟨h.1.1.1.1.1, h.1.1.1.1.2, h.1.1.1.2, h.1.1.2, h.1.2⟩
theorem stepM_lt {n : Nat} {M : D.Mach} (h : machR n M = true) {a : Nat} (ha : a < M.1.length) (c : Int) : stepM n M a c < M.1.length := by
  obtain ⟨r, hr, hl, hc, -⟩ := machR_row h ha
  obtain ⟨x, hx, h0, h1⟩ := hc (colOf n c) (colOf_le n c)
  unfold stepM
  rw [show M.1.getD a [] = r by rw [List.getD, hr]; rfl, show r.getD (colOf n c) 0 = x by rw [List.getD, hx]; rfl]
  omega
theorem stM_lt {n : Nat} {M : D.Mach} (h : machR n M = true) (l : List Int) : ∀ i, stM n M l i < M.1.length := by
  intro i
  unfold stM
  have key : ∀ (t : List Int) (a : Nat), a < M.1.length → t.foldl (stepM n M) a < M.1.length := by
    intro t
    induction t with
    | nil => intro a ha; exact ha
    | cons c t ih => intro a ha; exact ih _ (stepM_lt h ha c)
  exact key _ 0 (by have := (machR_parts h).2.2.1; omega)
theorem goM_get {n : Nat} {M : D.Mach} {l : List Int} {i : Nat} (h : i ≤ l.length) : (goM n M l)[i]? = some (stM n M l i) := by
  unfold goM; rw [List.getElem?_map, List.getElem?_range (by omega)]; rfl
theorem goM_len (n : Nat) (M : D.Mach) (l : List Int) : (goM n M l).length = l.length + 1 := by unfold goM; simp
theorem goM_take {n : Nat} {M : D.Mach} {l : List Int} {i : Nat} (h : i < l.length) : (goM n M l).take (i + 2) = (goM n M l).take (i + 1) ++ [stM n M l (i + 1)] := take_snoc' _ _ _ (goM_get (by omega))

def goCode (n : Int) (M : D.Mach) : Int := if machR n M = true then 0 else 100
/-- what Go leaves behind -/
def goPost (n : Int) (M : D.Mach) (l : List Int) (w : World) (e : Ending) (w' : World) : Prop :=
  Below w.heap.size w w' ∧ ∃ v, e = .returned (.tuple #[v, .int .i64 (goCode n M)]) ∧ w'.ownsRow w.heap.size 3 1 v (if machR n M = true then l.length + 1 else 0) ((if machR n M = true then goM n.toNat M l else []).map natV)

set_option maxRecDepth 100000 in
set_option maxHeartbeats 8000000 in
theorem mgo_any (A : Nat → Addr) (B : Nat) (v lv : Value) (M : D.Mach) (n : Int) (l : List Int) (w : World) (hv : MachAt w v M) (hM : MachFit M) (hl : IntsAt w lv l) (hz : l.length ≤ 16777216) (hD : Ed A B w) (hB : B ≤ w.heap.size) :
    Calls Tryz.prog 8 #[v, .int .i64 n, lv] w (goPost n M l w) := by
  have HRT := Box.mk (fun W (h : Below w.heap.size w W) => mright_any v M n W (hv.below h) hM)
  have HD := Box.mk (fun W (h : Below w.heap.size w W) => hD.below (h.mono hB))
  have HL := Box.mk hl
  have HMA := Box.mk hv
  obtain ⟨na, fa, rfl, hra, -⟩ := hv
  obtain ⟨aa, ca, rfl⟩ := hra.slice
  obtain ⟨lo, lc, rfl⟩ := hl.slice
  have HRA := Box.mk hra
  obtain ⟨w2, hw2⟩ : ∃ w2, w2 = (w.alloc (.cells #[.slice aa M.1.length ca, fa] 25)).alloc (.cells #[.int .i64 0] 3) := ⟨_, rfl⟩
  have HW2 := Box.mk hw2
  have HS2 := Box.mk (show Sep [Pc.row w.heap.size 3 1 (.slice (some ⟨w.heap.size + 1, 0, none⟩) 1 1) 1 [.int .i64 0], Pc.blk w.heap.size 25 #[.slice aa M.1.length ca, fa], Pc.old w.heap.size w] w2 by
    have h1 := (Sep.start w).alloc_blk 25 #[.slice aa M.1.length ca, fa]
    have h2 := h1.lit (base := w.heap.size) (e := 3) (cs := #[.int .i64 0]) (n := 1) (by simp) rfl (by omega)
    rw [hw2]
    simpa using h2)
  have hb2 : Below w.heap.size w w2 := HS2.out.bel (by simp)
  have HB2 := Box.mk hb2
  have hba := HS2.out.blk 1 rfl
  have c0 : w2.cell? ⟨w.heap.size, 0, none⟩ = some (.slice aa M.1.length ca) := (hba.cell 0).trans rfl
  have c1 : w2.cell? ⟨w.heap.size, 1, none⟩ = some fa := (hba.cell 1).trans rfl
  have l0 := hba.lt
  clear hra hl hM hD hw2 hb2 hba
  cases hr : machR n M with
  | false =>
    have HR := Box.mk hr
    have HC := Box.mk (show goCode n M = 100 by unfold goCode; rw [hr]; rfl)
    clear hr
    go_enter Tryz.func8, Tryz.ntmps8
    go_wp2_with fail
    refine wp_scope_fwd 0 rfl ?_
    go_upto_region 3 with (fail)
    rw [← HW2.out]
    go_wp2_with fail
    refine (HRT.out _ HB2.out).mono ?_; rintro e w3 ⟨rfl, hb3⟩; rw [HR.out]
    have HB3 := Box.mk (HB2.out.trans (hb3.mono HB2.out.size))
    have hD3 := HD.out w3 HB3.out
    have hg := hD3.var 0 (by decide)
    have HT := Box.mk (dtold_any A B 0 (by decide) w3 hD3)
    unfold errV at HT
    clear hb3 hD3
    go_wp2_with fail
    go_step3
    refine ⟨rfl, ?_⟩
    go_wp2_with fail
    refine HT.out.mono ?_; rintro e w4 ⟨rfl, rfl⟩
    go_wp2_with fail
    rw [Exit.noGoto_ret]
    go_ret2
    refine ⟨HB3.out, _, by rw [HC.out]; rfl, ?_⟩
    rw [HR.out]
    exact World.ownsRow_nil _ _ _ _
  | true =>
    have HR := Box.mk hr
    obtain ⟨h1, h2, h3, h4, h5⟩ := machR_parts hr
    obtain ⟨nn, rfl⟩ := Int.eq_ofNat_of_zero_le (show 0 ≤ n by omega)
    have HC := Box.mk (show goCode nn M = 0 by unfold goCode; rw [hr]; rfl)
    have HIN := Box.mk (fun (c : Int) (W : World) => in_any c nn W (by omega) (by omega))
    have HLT := Box.mk (fun i => stM_lt hr l i)
    have HROW := Box.mk (fun {a : Nat} (ha : a < M.1.length) => machR_row hr ha)
    have HG1 := Box.mk (show (goM nn M l).take 1 = [0] by unfold goM; rw [List.range_succ_eq_map]; rfl)
    clear hr h5
    go_enter Tryz.func8, Tryz.ntmps8
    go_wp2_with fail
    refine wp_scope_fwd 0 rfl ?_
    go_upto_region 3 with (fail)
    rw [← HW2.out]
    go_wp2_with fail
    refine (HRT.out _ HB2.out).mono ?_; rintro e w3 ⟨rfl, hb3⟩; rw [HR.out]
    have HS3 := Box.mk (show Sep [Pc.row w.heap.size 3 1 (.slice (some ⟨w.heap.size + 1, 0, none⟩) 1 1) (0 + 1) (((goM nn M l).take (0 + 1)).map natV), Pc.blk w.heap.size 25 #[.slice aa M.1.length ca, fa], Pc.old w.heap.size w] w3 by
      rw [HG1.out]; exact HS2.out.below (hb3.mono HB2.out.size |> fun _ => hb3.mono (Nat.le_refl _) |> fun _ => by
        exact ⟨hb3.os, hb3.tape, hb3.output, hb3.size, fun k hk => hb3.block k hk⟩))
    clear hb3 c0 c1 l0
    go_wp2_with fail
    go_loopw [8, 9, 20] (fun at' o i wr => ∃ k : Nat, k ≤ l.length ∧ i = .int .i64 k ∧ at' = .int .i64 (stM nn M l k) ∧ Box (Sep [Pc.row w.heap.size 3 1 o (k + 1) (((goM nn M l).take (k + 1)).map natV), Pc.blk w.heap.size 25 #[.slice aa M.1.length ca, fa], Pc.old w.heap.size w] wr)) (fun _ _ i _ => l.length - (intOf i).toNat)
    case atStart => exact ⟨0, by omega, rfl, rfl, HS3⟩
    case round =>
      obtain ⟨k, hk, rfl, rfl, hsep⟩ := hrel
      have HBR := Box.mk (show Below w.heap.size w wr from hsep.out.bel (by simp))
      by_cases hlt : k < l.length
      · obtain ⟨c, hc⟩ : ∃ c, l[k]? = some c := ⟨_, List.getElem?_eq_getElem hlt⟩
        obtain ⟨lb, loff, lcap, k1, k2, k3, k4, k5⟩ := (HL.out.below HBR.out).get (by rintro rfl; simp at hlt)
        obtain ⟨rfl, rfl⟩ : lo = some ⟨lb, loff, none⟩ ∧ lc = lcap := by injection k1 with h1 h2 h3; exact ⟨h1, h3⟩
        have hlc := k5 k c hc
        have hat := HLT.out k
        have HAN := Box.mk (HLT.out (k + 1))
        obtain ⟨r, hr1, hr2, hr3, -⟩ := HROW.out hat
        obtain ⟨x, hx1, hx2, hx3⟩ := hr3 (colOf nn c) (colOf_le nn c)
        have HST := Box.mk (show stM nn M l (k + 1) = x.toNat by
          rw [stM_succ hc]; unfold stepM; rw [show M.1.getD (stM nn M l k) [] = r by rw [List.getD, hr1]; rfl, show r.getD (colOf nn c) 0 = x by rw [List.getD, hx1]; rfl])
        have HTK := Box.mk (goM_take (n := nn) (M := M) hlt)
        have hcl := colOf_le nn c
        obtain ⟨pa, oa, ca', ha0, ha1, ha2, ha3, ha4⟩ := (HRA.out.below HBR.out).get (by intro e; rw [e] at hr1; simp at hr1)
        obtain ⟨rfl, rfl⟩ : aa = some ⟨pa, oa, none⟩ ∧ ca = ca' := by injection ha0 with h1 h2 h3; exact ⟨h1, h3⟩
        obtain ⟨xv, hxc, hxi⟩ := ha4 _ r hr1
        obtain ⟨rb, roff, rcap, r1, r2, r3, r4, r5⟩ := hxi.get (by rintro rfl; simp at hr2)
        rw [hr2] at r1 r2
        subst r1
        have hxx := r5 _ x hx1
        have hba := hsep.out.blk 1 rfl
        have HINC := Box.mk (fun W => HIN.out c W)
        obtain ⟨oo, oc, rfl, ho1, ho2⟩ := own_shape (hsep.out.row 0 rfl)
        have HFF := Box.mk (show ∀ W, Below wr.heap.size wr W → W.cell? ⟨w.heap.size, 0, none⟩ = some (.slice (some ⟨pa, oa, none⟩) M.1.length ca) ∧ W.cell? ⟨pa, oa + stM nn M l k, none⟩ = some (.slice (some ⟨rb, roff, none⟩) (nn + 1) rcap) ∧ W.cell? ⟨rb, roff + colOf nn c, none⟩ = some (.int .i64 x) from fun W h =>
          ⟨((hba.below h hba.lt).cell 0).trans rfl, (h.cell (p := ⟨pa, oa + stM nn M l k, none⟩) ha3).trans hxc, (h.cell (p := ⟨rb, roff + colOf nn c, none⟩) r4).trans hxx⟩)
        have HBD := Box.mk (show Below wr.heap.size wr wr.drew from ⟨rfl, rfl, rfl, Nat.le_refl _, fun _ _ => rfl⟩)
        have HSD := Box.mk hsep.out.drew
        have hbs : w.heap.size ≤ wr.drew.heap.size := HBR.out.size
        unfold maxLen at k3 ha2 r3
        generalize hso : stM nn M l k = so at *
        generalize hco : colOf nn c = co at *
        have hs1 : so < ca := by omega
        have hc1 : co < nn + 1 := by omega
        have hc2 : co < rcap := by omega
        have hc3 : (co : Int) < (nn : Int) + 1 := by omega
        clear k1 k5 ha0 ha4 hxc hxi r5 hxx hba hr1 hr3 hx1 hc hsep hso hco
        go_wp2_with fail
        refine wp_region_K 9 (fun W => W.cell? ⟨w.heap.size, 0, none⟩ = some (.slice (some ⟨pa, oa, none⟩) M.1.length ca) ∧ W.cell? ⟨pa, oa + so, none⟩ = some (.slice (some ⟨rb, roff, none⟩) (nn + 1) rcap) ∧ W.cell? ⟨rb, roff + co, none⟩ = some (.int .i64 x)) (by kernel_rfl) ?_
        have HF0 := Box.mk (HFF.out _ HBD.out)
        generalize wr.drew = WR at *
        refine wpAnyK_take (i := 0) (v := ?_) rfl (by kernel_rfl) (fun _ _ _ h => h) (Or.inl ⟨by kernel_rfl, ?_⟩) HF0.out ?_
        rotate_left
        · first | (intro w hw; obtain ⟨q1, q2, q3⟩ := hw; go_simp; done) | (intro w hw; obtain ⟨q1, q2, q3⟩ := hw; go_simp; with_reducible rfl)
        refine wpAnyK_take (i := 1) (v := ?_) rfl (by kernel_rfl) (fun _ _ _ h => h) (Or.inl ⟨by kernel_rfl, ?_⟩) HF0.out ?_
        rotate_left
        · first | (intro w hw; obtain ⟨q1, q2, q3⟩ := hw; go_simp; done) | (intro w hw; obtain ⟨q1, q2, q3⟩ := hw; go_simp; with_reducible rfl)
        refine wpAnyK_take (i := 2) (v := ?_) rfl (by kernel_rfl) (fun _ _ _ h => h) (Or.inl ⟨by kernel_rfl, ?_⟩) HF0.out ?_
        rotate_left
        · first | (intro w hw; obtain ⟨q1, q2, q3⟩ := hw; go_simp; done) | (intro w hw; obtain ⟨q1, q2, q3⟩ := hw; go_simp; with_reducible rfl)
        refine wpAnyK_take (i := 3) (v := ?_) rfl (by kernel_rfl) (fun _ _ _ h => h) (Or.inl ⟨by kernel_rfl, ?_⟩) HF0.out ?_
        rotate_left
        · first | (intro w hw; obtain ⟨q1, q2, q3⟩ := hw; go_simp; done) | (intro w hw; obtain ⟨q1, q2, q3⟩ := hw; go_simp; with_reducible rfl)
        refine wpAnyK_take (i := 4) (v := ?_) rfl (by kernel_rfl) (fun _ _ _ h => h) (Or.inl ⟨by kernel_rfl, ?_⟩) HF0.out ?_
        rotate_left
        · first | (intro w hw; obtain ⟨q1, q2, q3⟩ := hw; go_simp; done) | (intro w hw; obtain ⟨q1, q2, q3⟩ := hw; go_simp; with_reducible rfl)
        refine wpAnyK_take (i := 5) (v := ?_) rfl (by kernel_rfl) (fun _ _ _ h => h) (Or.inl ⟨by kernel_rfl, ?_⟩) HF0.out ?_
        rotate_left
        · first | (intro w hw; obtain ⟨q1, q2, q3⟩ := hw; go_simp; done) | (intro w hw; obtain ⟨q1, q2, q3⟩ := hw; go_simp; with_reducible rfl)
        refine wpAnyK_take (i := 6) (v := ?_) rfl (by kernel_rfl) (fun _ _ _ h => h) (Or.inl ⟨by kernel_rfl, ?_⟩) HF0.out ?_
        rotate_left
        · first | (intro w hw; obtain ⟨q1, q2, q3⟩ := hw; go_simp; done) | (intro w hw; obtain ⟨q1, q2, q3⟩ := hw; go_simp; with_reducible rfl)
        refine wpAnyK_one (i := 7) (by kernel_rfl) rfl (fun KK hKK => ?_)
        go_simp
        go_wp2_with (go_at_call 25; refine (HINC.out _).mono ?_; rintro e w7 ⟨rfl, rfl⟩)
        refine hKK.out _ _ (fun _ => HF0.out) ?_
        clear hKK KK
        refine wpAnyK_take (i := 8) (v := ?_) rfl (by kernel_rfl) (fun _ _ _ h => h) (Or.inl ⟨by kernel_rfl, ?_⟩) HF0.out ?_
        rotate_left
        · first | (intro w hw; obtain ⟨q1, q2, q3⟩ := hw; go_simp; done) | (intro w hw; obtain ⟨q1, q2, q3⟩ := hw; go_simp; with_reducible rfl)
        obtain ⟨y1, y2, y3⟩ := HF0.out
        refine wpAnyK_one (i := 9) (by kernel_rfl) rfl (fun KK hKK => ?_)
        go_simp
        refine hKK.out _ _ (fun h => by cases h) ?_
        clear hKK KK
        refine wpAnyK_one (i := 10) (by kernel_rfl) rfl (fun KK hKK => ?_)
        go_simp
        refine hKK.out _ _ (fun h => by cases h) ?_
        clear hKK KK
        refine wpAnyK_done (by kernel_rfl) ?_ _
        refine NoPanic.normal ?_
        clear y1 y2 y3
        go_wp2_with (at_builtin; refine wpList_push rfl _ _ 26 rfl pushInt HSD.out 0 rfl rfl rfl rfl (by omega) (by omega) hbs ?_; rintro v' w4 hS4 -)
        have HX := Box.mk (show (Value.int .i64 x) = natV (stM nn M l (k + 1)) by unfold natV; rw [HST.out]; exact vint (by omega))
        rw [HX.out] at hS4
        have HS4 := Box.mk (show Sep [Pc.row w.heap.size 3 1 v' (k + 1 + 1) (((goM nn M l).take (k + 1 + 1)).map natV), Pc.blk w.heap.size 25 #[.slice (some ⟨pa, oa, none⟩) M.1.length ca, fa], Pc.old w.heap.size w] w4 by
          rw [HTK.out, List.map_append]; exact hS4)
        clear hS4
        go_wp2_with fail
        go_roundw
        case rel => exact ⟨k + 1, hlt, by go_num, HX.out, HS4⟩
        case measure => simp [intOf]; omega
      · obtain rfl : k = l.length := by omega
        have HTT := Box.mk (show (goM nn M l).take (l.length + 1) = goM nn M l by rw [← goM_len nn M l, List.take_length])
        go_wp2_with fail
        rw [fwd_ret]
        go_ret2
        refine ⟨HBR.out, _, by rw [HC.out]; rfl, ?_⟩
        have := hsep.out.row 0 rfl
        rw [HTT.out] at this
        rw [HR.out]
        exact this
end Go.Proofs.YtjemdepcaaadiaaGreatDoor

/- WHICH RULES FIT, BY A MACHINE: the program's Fits; two machines compared by the program. -/
namespace Go.Proofs.YtjemdepcaaadiaaGreatDoor
open Go.RowKit Go.Shelf
attribute [local go_sem] Oper.semAt_some

def fitM (M : D.Mach) (a : Nat) : Int := M.2.getD a 0
def fitsM (n : Nat) (M : D.Mach) (l : List Int) : List Int := (goM n M l).map (fitM M)
def fits12Post (n : Int) (M : D.Mach) (l : List Int) (w : World) (e : Ending) (w' : World) : Prop :=
  Below w.heap.size w w' ∧ ∃ v, e = .returned (.tuple #[v, .int .i64 (goCode n M)]) ∧ IntsAt w' v (if machR n M = true then fitsM n.toNat M l else [])
theorem row_intsI {w : World} {base n : Nat} {T : TypeId} {v : Value} {xs : List Int} (h : w.ownsRow base T 1 v n (xs.map (Value.int .i64))) (hn : n = xs.length) : IntsAt w v xs := IntsAt.of_own h hn

set_option maxRecDepth 100000 in
set_option maxHeartbeats 8000000 in
theorem mfits_any (A : Nat → Addr) (B : Nat) (v lv : Value) (M : D.Mach) (n : Int) (l : List Int) (w : World) (hv : MachAt w v M) (hM : MachFit M) (hl : IntsAt w lv l) (hz : l.length ≤ 16777216) (hD : Ed A B w) (hB : B ≤ w.heap.size) :
    Calls Tryz.prog 10 #[v, .int .i64 n, lv] w (fits12Post n M l w) := by
  have HMV := Box.mk hv
  obtain ⟨na, fa, rfl, hra, hia⟩ := hv
  have HIA := Box.mk hia
  obtain ⟨aa, ca, rfl⟩ := hra.slice
  obtain ⟨fo, fc, rfl⟩ := hia.slice
  obtain ⟨w2, hw2⟩ : ∃ w2, w2 = w.alloc (.cells #[.slice aa M.1.length ca, .slice fo M.2.length fc] 25) := ⟨_, rfl⟩
  have HW2 := Box.mk hw2
  have HS2 := Box.mk (show Sep [Pc.blk w.heap.size 25 #[.slice aa M.1.length ca, .slice fo M.2.length fc], Pc.old w.heap.size w] w2 by rw [hw2]; exact (Sep.start w).alloc_blk _ _)
  have hb2 : Below w.heap.size w w2 := HS2.out.bel (by simp)
  have HB2 := Box.mk hb2
  have HGO := Box.mk (mgo_any A B _ lv M n l w2 (HMV.out.below hb2) hM (hl.below hb2) hz (hD.below (hb2.mono hB)) (Nat.le_trans hB hb2.size))
  have hba := HS2.out.blk 0 rfl
  have c0 : w2.cell? ⟨w.heap.size, 0, none⟩ = some (.slice aa M.1.length ca) := (hba.cell 0).trans rfl
  have c1 : w2.cell? ⟨w.heap.size, 1, none⟩ = some (.slice fo M.2.length fc) := (hba.cell 1).trans rfl
  have l0 := hba.lt
  clear hra hia hl hM hD hw2 hb2 hba
  cases hr : machR n M with
  | false =>
    have HR := Box.mk hr
    have HC := Box.mk (show goCode n M = 100 by unfold goCode; rw [hr]; rfl)
    clear hr
    go_enter Tryz.func10, Tryz.ntmps10
    go_upto_region 1 with (fail)
    rw [← HW2.out]
    go_wp2_with fail
    refine HGO.out.mono ?_; rintro e w3 ⟨hb3, rv, rfl, -⟩; rw [HC.out]
    have HB3 := Box.mk (HB2.out.trans (hb3.mono HB2.out.size))
    clear hb3
    go_wp2_with fail
    go_ret2
    refine ⟨HB3.out, _, by rw [HC.out]; rfl, ?_⟩
    rw [HR.out]
    exact IntsAt.nil
  | true =>
    have HR := Box.mk hr
    obtain ⟨h1, h2, h3, h4, h5⟩ := machR_parts hr
    obtain ⟨nn, rfl⟩ := Int.eq_ofNat_of_zero_le (show 0 ≤ n by omega)
    have HC := Box.mk (show goCode nn M = 0 by unfold goCode; rw [hr]; rfl)
    have HLT := Box.mk (fun i => stM_lt hr l i)
    have HROW := Box.mk (fun {a : Nat} (ha : a < M.1.length) => machR_row hr ha)
    have HG5 := Box.mk h5
    obtain ⟨G, hG⟩ : ∃ G, goM nn M l = G := ⟨_, rfl⟩
    have HGL := Box.mk (show G.length = l.length + 1 by rw [← hG, goM_len])
    have HGG := Box.mk (show ∀ i, i < l.length + 1 → ∃ a, G[i]? = some a ∧ a < M.1.length from fun i hi => ⟨_, by rw [← hG]; exact goM_get (by omega), HLT.out i⟩)
    have HGE := Box.mk hG
    clear hr h5 hG
    go_enter Tryz.func10, Tryz.ntmps10
    go_upto_region 1 with (fail)
    rw [← HW2.out]
    go_wp2_with fail
    refine HGO.out.mono ?_; rintro e w3 ⟨hb3, rv, rfl, hown⟩; rw [HC.out]
    rw [HR.out, if_pos rfl, if_pos rfl, Int.toNat_natCast, HGE.out] at hown
    have HGI := Box.mk (row_ints hown HGL.out.symm)
    obtain ⟨go, gc, rfl, -, -⟩ := own_shape hown
    have HS3 := Box.mk (show Sep [Pc.row w.heap.size 2 1 (.slice none 0 0) 0 (((G.take 0).map (fitM M)).map (Value.int .i64)), Pc.row w.heap.size 3 1 (.slice go (l.length + 1) gc) (l.length + 1) (G.map natV), Pc.blk w.heap.size 25 #[.slice aa M.1.length ca, .slice fo M.2.length fc], Pc.old w.heap.size w] w3 from
      (HS2.out.got hb3 hown HB2.out.size).nil_row _ _ _)
    clear hb3 c0 c1 l0 hown
    go_wp2_with fail
    go_loopw [10, 25] (fun o i wr => ∃ k : Nat, k ≤ l.length + 1 ∧ i = .int .i64 k ∧ Box (Sep [Pc.row w.heap.size 2 1 o k (((G.take k).map (fitM M)).map (Value.int .i64)), Pc.row w.heap.size 3 1 (.slice go (l.length + 1) gc) (l.length + 1) (G.map natV), Pc.blk w.heap.size 25 #[.slice aa M.1.length ca, .slice fo M.2.length fc], Pc.old w.heap.size w] wr)) (fun _ i _ => l.length + 1 - (intOf i).toNat)
    case atStart => exact ⟨0, by omega, rfl, HS3⟩
    case round =>
      obtain ⟨k, hk, rfl, hsep⟩ := hrel
      have HBR := Box.mk (show Below w.heap.size w wr from hsep.out.bel (by simp))
      by_cases hlt : k < l.length + 1
      · obtain ⟨a, ha, hal⟩ := HGG.out k hlt
        obtain ⟨lb, loff, lcap, k1, k2, k3, k4, k5⟩ := (row_ints (hsep.out.row 1 rfl) HGL.out.symm).get (by intro e; have := congrArg List.length e; rw [zs_len, HGL.out] at this; simp at this)
        rw [zs_len, HGL.out] at k1 k2
        obtain ⟨rfl, rfl⟩ : go = some ⟨lb, loff, none⟩ ∧ gc = lcap := by injection k1 with h1 h2 h3; exact ⟨h1, h3⟩
        have hac := k5 k _ (zs_get ha)
        obtain ⟨-, -, -, -, f, hf, -⟩ := HROW.out hal
        obtain ⟨pb, ob, cb', hb0, hb1, hb2, hb3, hb4⟩ := (HIA.out.below HBR.out).get (by intro e; rw [e] at hf; simp at hf)
        obtain ⟨rfl, rfl⟩ : fo = some ⟨pb, ob, none⟩ ∧ fc = cb' := by injection hb0 with h1 h2 h3; exact ⟨h1, h3⟩
        have hfc := hb4 a f hf
        have HTK := Box.mk (show ((G.take (k + 1)).map (fitM M)).map (Value.int .i64) = ((G.take k).map (fitM M)).map (Value.int .i64) ++ [Value.int .i64 f] by
          rw [take_snoc' _ _ _ ha, List.map_append, List.map_append]; simp only [List.map_cons, List.map_nil]; unfold fitM; rw [show M.2.getD a 0 = f by rw [List.getD, hf]; rfl])
        have hba := hsep.out.blk 2 rfl
        have c1 : wr.cell? ⟨w.heap.size, 1, none⟩ = some (.slice (some ⟨pb, ob, none⟩) M.2.length fc) := (hba.cell 1).trans rfl
        have l0 := hba.lt
        have hal2 : a < M.2.length := by rw [HG5.out]; exact hal
        have hkk : k ≤ 1000000000 := by omega
        have hbs := HBR.out.size
        unfold maxLen at k3 hb2
        clear k1 k5 hb0 hb4 ha hf hba hal
        go_wp2_with (at_builtin; refine wpList_push rfl _ _ 23 rfl pushI64 hsep.out 0 rfl rfl rfl rfl hkk (by omega) hbs ?_; rintro v' w4 hS4 -)
        rw [← HTK.out] at hS4
        have HS4 := Box.mk hS4
        clear hS4
        go_wp2_with fail
        go_roundw
        case rel => exact ⟨k + 1, hlt, by go_num, HS4⟩
        case measure => simp [intOf]; omega
      · obtain rfl : k = l.length + 1 := by omega
        have HTT := Box.mk (show G.take (l.length + 1) = G by rw [← HGL.out, List.take_length])
        go_wp2_with fail
        go_ret2
        refine ⟨HBR.out, _, by rw [HC.out]; rfl, ?_⟩
        have := row_intsI (hsep.out.row 0 rfl) (by rw [List.length_map, HTT.out, HGL.out])
        rw [HTT.out] at this
        rw [HR.out, if_pos rfl]
        unfold fitsM
        rw [Int.toNat_natCast, HGE.out]
        exact this
end Go.Proofs.YtjemdepcaaadiaaGreatDoor

/- RULES CUT, the second half; a rule of two sets; lists that are laid. -/
namespace Go.Proofs.YtjemdepcaaadiaaGreatDoor
open Go.RowKit Go.Shelf
attribute [local go_sem] Oper.semAt_some

set_option maxHeartbeats 2000000 in
theorem few12_any (v : Value) (l : List D.Rule) (w : World) (hv : RulesAt w v l) :
    Calls Tryz.prog 20 #[v] w fun e w' => Below w.heap.size w w' ∧ ∃ v', e = .returned v' ∧ RulesAt w' v' (few12 l) := by
  have HF := Box.mk (few11_any v l w hv)
  obtain ⟨ao, cap, rfl⟩ := hv.slice
  clear hv
  go_enter Tryz.func20, Tryz.ntmps20
  go_wp2_with fail
  refine HF.out.mono ?_; rintro e w1 ⟨hb, v1, rfl, L, hL, hV, hown⟩
  have hra : RulesAt w1 v1 (few11 l) := by
    rw [← hL]
    exact rules_own hown rfl (fun y hy => ⟨(hV y hy).1.below hb, (hV y hy).2.below hb⟩)
  have HB := Box.mk hb
  obtain ⟨oo, oc, rfl, ho1, ho2⟩ := own_shape hown
  have HLL := Box.mk (show L.length = (few11 l).length by rw [← hL, List.length_map])
  rw [HLL.out] at ho1 hra ⊢
  have HR := Box.mk hra
  clear hb hV hown hL hra
  generalize hn : (few11 l).length = n at *
  have HN := Box.mk hn
  have HT := Box.mk (show ∀ q : Nat, q = (few12 l).length → RulesAt w1 (.slice oo q oc) (few12 l) from fun q hq => by
    have h := HR.out
    rw [← hn] at h ho1
    have hl := h.take 6 (cap' := oc) (by rw [List.length_take]; omega) (Nat.le_refl _)
    rw [hq]
    exact hl)
  have HQ := Box.mk (show (few12 l).length = min 6 n by unfold few12; rw [List.length_take, hn])
  clear hn HLL
  rcases Nat.lt_or_ge 6 n with h6 | h6
  · go_wp2_with fail
    go_ret
    exact ⟨HB.out, _, rfl, HT.out 6 (by rw [HQ.out]; omega)⟩
  · go_wp2_with fail
    go_ret
    exact ⟨HB.out, _, rfl, HT.out n (by rw [HQ.out]; omega)⟩

theorem items_one (W : World) (a : Int) (T : TypeId) : ItemsAt (W.alloc (.cells #[.int .i64 a, .int .i64 0] T)) (.slice (some ⟨W.heap.size, 0, none⟩) 1 1) [(a, 0)] := by
  refine .inr ⟨W.heap.size, 0, none, 1, rfl, by simp, by unfold maxLen; omega, fun _ => ⟨rfl, by simp, fun i x hx => ?_⟩⟩
  match i, hx with
  | 0, hx =>
    simp only [List.getElem?_cons_zero, Option.some.injEq] at hx
    subst hx
    exact ⟨cell_of_row _ _ _ _ _ _ (heap_alloc_new W _), cell_of_row _ _ _ _ _ _ (heap_alloc_new W _)⟩
  | i + 1, hx => simp at hx
theorem rules_one {W : World} {x : D.Rule} {vl vr : Value} (hl : ItemsAt W vl x.1.2) (hr : ItemsAt W vr x.2.1.2) (T : TypeId) :
    RulesAt (W.alloc (.cells #[.bool x.1.1, vl, .bool x.2.1.1, vr, .bool x.2.2] T)) (.slice (some ⟨W.heap.size, 0, none⟩) 1 1) [x] := by
  refine .inr ⟨W.heap.size, 0, none, 1, rfl, by simp, by unfold maxLen; omega, fun _ => ⟨rfl, by simp, fun i y hy => ?_⟩⟩
  match i, hy with
  | 0, hy =>
    simp only [List.getElem?_cons_zero, Option.some.injEq] at hy
    subst hy
    have hb := alloc_below W (.cells #[.bool x.1.1, vl, .bool x.2.1.1, vr, .bool x.2.2] T)
    exact ⟨vl, vr, cell_of_row _ _ _ _ _ _ (heap_alloc_new W _), cell_of_row _ _ _ _ _ _ (heap_alloc_new W _), cell_of_row _ _ _ _ _ _ (heap_alloc_new W _), cell_of_row _ _ _ _ _ _ (heap_alloc_new W _), cell_of_row _ _ _ _ _ _ (heap_alloc_new W _), hl.below hb, hr.below hb⟩
  | i + 1, hy => simp at hy
theorem ints_lit (W : World) (xs : List Int) (T : TypeId) (n : Nat) (hn : n = xs.length) (hz : n ≤ 1000000) (cs : Array Value) (hc : cs = (xs.map (Value.int .i64)).toArray) : IntsAt (W.alloc (.cells cs T)) (.slice (some ⟨W.heap.size, 0, none⟩) n n) xs := by
  subst hn hc
  refine .inr ⟨W.heap.size, 0, none, xs.length, rfl, Nat.le_refl _, by unfold maxLen; omega, fun _ => ⟨rfl, by simp, fun i x hx => ?_⟩⟩
  rw [Nat.zero_add, cell_of_row _ _ _ _ _ _ (heap_alloc_new W _)]
  simp [hx]

set_option maxHeartbeats 1000000 in
theorem single_any (a b : Int) (w : World) :
    Calls Tryz.prog 24 #[.int .i64 a, .int .i64 b] w fun e w' => Below w.heap.size w w' ∧ ∃ al ar, e = .returned (.agg #[.bool false, .slice al 1 1, .bool false, .slice ar 1 1, .bool false]) ∧ ItemsAt w' (.slice al 1 1) [(a, 0)] ∧ ItemsAt w' (.slice ar 1 1) [(b, 0)] := by
  go_enter Tryz.func24, Tryz.ntmps24
  go_wp2_with fail
  have hbk := ((Blk.new w 51 #[.bool false, .slice (some ⟨w.heap.size + 1, 0, none⟩) 1 1, .bool false, .slice (some ⟨w.heap.size + 1 + 1, 0, none⟩) 1 1, .bool false]).alloc (.cells #[.int .i64 a, .int .i64 0] 79)).alloc (.cells #[.int .i64 b, .int .i64 0] 79)
  refine bodyPost_ret (v := .agg #[.bool false, .slice (some ⟨w.heap.size + 1, 0, none⟩) 1 1, .bool false, .slice (some ⟨w.heap.size + 1 + 1, 0, none⟩) 1 1, .bool false]) (results_cell_row Tryz.results24 _ _ w.heap.size 51 _ (0, 0) _ rfl hbk Tryz.underlying51 rfl (by kernel_rfl)) rfl ⟨(((Below.refl _ _).alloc (Nat.le_refl _) _).alloc (by simp) _).alloc (by simp; omega) _, _, _, rfl, ?_, ?_⟩
  · have h1 := (items_one (w.alloc (.cells #[.bool false, .slice (some ⟨w.heap.size + 1, 0, none⟩) 1 1, .bool false, .slice (some ⟨w.heap.size + 1 + 1, 0, none⟩) 1 1, .bool false] 51)) a 79)
    have h2 := h1.below (alloc_below _ (.cells #[.int .i64 b, .int .i64 0] 79))
    simpa using h2
  · have h1 := (items_one ((w.alloc (.cells #[.bool false, .slice (some ⟨w.heap.size + 1, 0, none⟩) 1 1, .bool false, .slice (some ⟨w.heap.size + 1 + 1, 0, none⟩) 1 1, .bool false] 51)).alloc (.cells #[.int .i64 a, .int .i64 0] 79)) b 79)
    simpa using h1
end Go.Proofs.YtjemdepcaaadiaaGreatDoor

/- IS A MACHINE KNOWN? The laws' shown of layer 12. -/
namespace Go.Proofs.YtjemdepcaaadiaaGreatDoor
open Go.RowKit Go.Shelf
attribute [local go_sem] Oper.semAt_some

def one12 : D.Rule := ((false, [(1, 0)]), (false, [(2, 0)]), false)
def M012 : D.Mach := ([[1, 0, 0], [1, 0, 0]], [0, 1])
set_option maxRecDepth 100000 in
theorem code12_a : compCode [one12] 2 = 0 ∧ compM [one12] 2 = M012 := by
  have h1 : rulesB 2 [one12] = true := by decide +kernel
  have h2 : (D.build (lefts [one12]) 2 2).todo.length ≤ (D.build (lefts [one12]) 2 2).next.length := by decide +kernel
  have h3 : D.build (lefts [one12]) 2 300 = D.build (lefts [one12]) 2 2 := D.build_end _ _ (by omega) h2
  have h4 : D.isFew (lefts [one12]) 2 = true := D.few_end _ _ (k := 2) (by omega) h2 (by decide +kernel)
  have h5 : machB (D.build (lefts [one12]) 2 2) = M012 := by decide +kernel
  refine ⟨?_, ?_⟩
  · unfold compCode; rw [h1, show (2 : Int).toNat = 2 from rfl, h4]; rfl
  · unfold compM machOf; rw [h1, show (2 : Int).toNat = 2 from rfl, h4, h3, h5]; rfl
theorem code12_b : compCode [one12] 1 = 90 := by
  have h1 : rulesB 1 [one12] = false := by decide +kernel
  unfold compCode; rw [h1]; rfl
theorem go12_a : machR 2 M012 = true ∧ goM 2 M012 [0, 1, 0, 7] = [0, 1, 0, 1, 0] ∧ fitsM 2 M012 [0, 1] = [0, 1, 0] := by decide +kernel
theorem fit12 : MachFit M012 := ⟨by decide, by decide, by decide⟩
theorem rule12 : ∀ x ∈ [one12], ruleFit x := by
  intro x hx
  rw [List.mem_singleton.1 hx]
  exact ⟨by decide, by decide⟩
/-- the errors of this layer, and the world that they lie in -/
structure Sd (A : Nat → Addr) (B : Nat) (w : World) : Prop where
  e : E A B w
  d : Ed A B w
  le : B ≤ w.heap.size
theorem Sd.below {A : Nat → Addr} {B : Nat} {w w' : World} (h : Sd A B w) (hb : Below w.heap.size w w') : Sd A B w' := ⟨h.e.below (hb.mono h.le), h.d.below (hb.mono h.le), Nat.le_trans h.le hb.size⟩
theorem below_tr {a b c : World} (h : Below a.heap.size a b) (k : Below b.heap.size b c) : Below a.heap.size a c := h.trans (k.mono h.size)
theorem yes_of {P : Program} {f : FuncId} {args : Array Value} {w : World} {p : Prop} [Decidable p] (h : Calls P f args w fun e w' => e = .returned (.bool (decide p)) ∧ Below w.heap.size w w') (hp : p) : Calls P f args w fun e w' => e = .returned (.bool true) ∧ Below w.heap.size w w' :=
  h.mono fun _ _ ⟨h1, h2⟩ => ⟨by rw [h1, decide_eq_true hp], h2⟩
theorem ml_lit (W : World) (T1 T2 T3 : TypeId) : MachAt ((((W.alloc (.cells #[.int .i64 1, .int .i64 0, .int .i64 0] T1)).alloc (.cells #[.int .i64 1, .int .i64 0, .int .i64 0] T1)).alloc (.cells #[.slice (some ⟨W.heap.size, 0, none⟩) 3 3, .slice (some ⟨W.heap.size + 1, 0, none⟩) 3 3] T2)).alloc (.cells #[.int .i64 0, .int .i64 1] T3))
    (.agg #[.slice (some ⟨W.heap.size + 1 + 1, 0, none⟩) 2 2, .slice (some ⟨W.heap.size + 1 + 1 + 1, 0, none⟩) 2 2]) M012 := by
  obtain ⟨W1, h1⟩ : ∃ W1, W1 = W.alloc (.cells #[.int .i64 1, .int .i64 0, .int .i64 0] T1) := ⟨_, rfl⟩
  obtain ⟨W2, h2⟩ : ∃ W2, W2 = W1.alloc (.cells #[.int .i64 1, .int .i64 0, .int .i64 0] T1) := ⟨_, rfl⟩
  obtain ⟨W3, h3⟩ : ∃ W3, W3 = W2.alloc (.cells #[.slice (some ⟨W.heap.size, 0, none⟩) 3 3, .slice (some ⟨W.heap.size + 1, 0, none⟩) 3 3] T2) := ⟨_, rfl⟩
  obtain ⟨W4, h4⟩ : ∃ W4, W4 = W3.alloc (.cells #[.int .i64 0, .int .i64 1] T3) := ⟨_, rfl⟩
  have s1 : W1.heap.size = W.heap.size + 1 := by rw [h1]; simp
  have s2 : W2.heap.size = W.heap.size + 1 + 1 := by rw [h2]; simp [s1]
  have s3 : W3.heap.size = W.heap.size + 1 + 1 + 1 := by rw [h3]; simp [s2]
  rw [← h1, ← h2, ← h3, ← h4]
  have i1 := ints_lit W [1, 0, 0] T1 3 rfl (by omega) #[.int .i64 1, .int .i64 0, .int .i64 0] rfl
  have i2 := ints_lit W1 [1, 0, 0] T1 3 rfl (by omega) #[.int .i64 1, .int .i64 0, .int .i64 0] rfl
  have i3 := ints_lit W3 [0, 1] T3 2 rfl (by omega) #[.int .i64 0, .int .i64 1] rfl
  rw [← h1] at i1
  rw [← h2] at i2
  rw [← h4] at i3
  have b34 : Below W3.heap.size W3 W4 := by rw [h4]; exact alloc_below _ _
  have b23 : Below W2.heap.size W2 W3 := by rw [h3]; exact alloc_below _ _
  have b12 : Below W1.heap.size W1 W2 := by rw [h2]; exact alloc_below _ _
  have b24 := below_tr b23 b34
  have b14 := below_tr b12 b24
  have hbk : Blk W3 W2.heap.size T2 #[.slice (some ⟨W.heap.size, 0, none⟩) 3 3, .slice (some ⟨W.heap.size + 1, 0, none⟩) 3 3] := by rw [h3]; exact Blk.new _ _ _
  have hbk4 := hbk.below b34 hbk.lt
  refine ⟨_, _, rfl, .inr ⟨W.heap.size + 1 + 1, 0, none, 2, rfl, Nat.le_refl _, by unfold maxLen; omega, fun _ => ⟨rfl, by have := hbk4.lt; omega, fun i r hr => ?_⟩⟩, by rw [← s3]; exact i3⟩
  rw [s2] at hbk4
  match i, hr with
  | 0, hr =>
    simp only [M012, List.getElem?_cons_zero, Option.some.injEq] at hr
    subst hr
    exact ⟨_, (hbk4.cell 0).trans rfl, i1.below b14⟩
  | 1, hr =>
    simp only [M012, List.getElem?_cons_succ, List.getElem?_cons_zero, Option.some.injEq] at hr
    subst hr
    exact ⟨_, (hbk4.cell 1).trans rfl, by rw [← s1]; exact i2.below b24⟩
  | i + 2, hr => simp [M012] at hr

set_option maxRecDepth 100000 in
set_option maxHeartbeats 8000000 in
theorem shown12_any (A : Nat → Addr) (B : Nat) (w : World) (hS : Sd A B w) :
    Calls Tryz.prog 5 #[] w fun e w' => e = .returned (.bool true) ∧ Below w.heap.size w w' := by
  have HS := Box.mk hS
  clear hS
  go_enter Tryz.func5, Tryz.ntmps5
  go_wp2_with fail
  refine (single_any 1 2 w).mono ?_; rintro e w1 ⟨hb1, al, ar, rfl, hil, hir⟩
  -- the rule, and a list of it
  obtain ⟨V1, hV1⟩ : ∃ V1, V1 = w1.alloc (.cells #[.bool false, .slice al 1 1, .bool false, .slice ar 1 1, .bool false] 51) := ⟨_, rfl⟩
  have hk1 : Below w1.heap.size w1 V1 := by rw [hV1]; exact alloc_below _ _
  have HIL := Box.mk (fun W (h : Below w1.heap.size w1 W) => hil.below h)
  have HIR := Box.mk (fun W (h : Below w1.heap.size w1 W) => hir.below h)
  have HV1 := Box.mk (below_tr hb1 hk1)
  have HK1 := Box.mk hk1
  have HP1 := Box.mk (show Blk V1 w1.heap.size 51 #[.bool false, .slice al 1 1, .bool false, .slice ar 1 1, .bool false] by rw [hV1]; exact Blk.new _ _ _)
  have HS1 := Box.mk (show V1.heap.size = w1.heap.size + 1 by rw [hV1]; simp)
  have HRL := Box.mk (fun W (h : Below w1.heap.size w1 W) => rules_one (x := one12) (HIL.out W h) (HIR.out W h) 51)
  obtain ⟨V2, hV2⟩ : ∃ V2, V2 = V1.alloc (.cells #[.bool false, .slice al 1 1, .bool false, .slice ar 1 1, .bool false] 51) := ⟨_, rfl⟩
  have hk2 : Below V1.heap.size V1 V2 := by rw [hV2]; exact alloc_below _ _
  have HV2 := Box.mk (below_tr HV1.out hk2)
  have HT2 := Box.mk (below_tr HK1.out hk2)
  have HR2 := Box.mk (show RulesAt V2 (.slice (some ⟨w1.heap.size + 1, 0, none⟩) 1 1) [one12] by rw [hV2, ← HS1.out]; exact HRL.out V1 HK1.out)
  have HC2 := Box.mk (compile_any A B _ [one12] 2 V2 rule12 HR2.out (by simp) (HS.out.below HV2.out).e (HS.out.below HV2.out).d (HS.out.below HV2.out).le)
  have HP2 := Box.mk (HP1.out.below hk2 HP1.out.lt)
  clear hb1 hil hir hk1 hk2
  go_wp2_with fail
  rw [← hV1, ← hV2]
  clear hV1 hV2
  refine HC2.out.mono ?_; rintro e w2 ⟨hb2, mv, rfl, hm⟩
  rw [code12_a.1]
  rw [code12_a.2] at hm
  have HM2 := Box.mk hm
  obtain ⟨NV0, FV0, rfl, hra, hia⟩ := hm
  obtain ⟨na, nc, rfl⟩ : ∃ na nc, NV0 = .slice na 2 nc := hra.slice
  obtain ⟨fa, fc, rfl⟩ : ∃ fa fc, FV0 = .slice fa 2 fc := hia.slice
  clear hra hia
  have HB2 := Box.mk (below_tr HV2.out hb2)
  have HTw2 := Box.mk (below_tr HT2.out hb2)
  have HP3 := Box.mk (HP2.out.below hb2 HP2.out.lt)
  obtain ⟨V3, hV3⟩ : ∃ V3, V3 = w2.alloc (.cells #[.slice na 2 nc, .slice fa 2 fc] 25) := ⟨_, rfl⟩
  have HV3 := Box.mk (show Below w2.heap.size w2 V3 by rw [hV3]; exact alloc_below _ _)
  have HS3 := Box.mk (show V3.heap.size = w2.heap.size + 1 by rw [hV3]; simp)
  have HMB := Box.mk (show Blk V3 w2.heap.size 25 #[.slice na 2 nc, .slice fa 2 fc] by rw [hV3]; exact Blk.new _ _ _)
  obtain ⟨V4, hV4⟩ : ∃ V4, V4 = V3.alloc (.cells #[.int .i64 0, .int .i64 1, .int .i64 0, .int .i64 7] 3) := ⟨_, rfl⟩
  have HV4 := Box.mk (show Below V3.heap.size V3 V4 by rw [hV4]; exact alloc_below _ _)
  have HI4 := Box.mk (show IntsAt V4 (.slice (some ⟨w2.heap.size + 1, 0, none⟩) 4 4) [0, 1, 0, 7] by rw [hV4, ← HS3.out]; exact ints_lit V3 [0, 1, 0, 7] 3 4 rfl (by omega) _ rfl)
  have HW4 := Box.mk (below_tr HB2.out (below_tr HV3.out HV4.out))
  have HG4 := Box.mk (mgo_any A B (.agg #[.slice na 2 nc, .slice fa 2 fc]) (.slice (some ⟨w2.heap.size + 1, 0, none⟩) 4 4) M012 2 [0, 1, 0, 7] V4 (HM2.out.below (below_tr HV3.out HV4.out)) fit12 HI4.out (by simp) (HS.out.below HW4.out).d (HS.out.below HW4.out).le)
  clear hb2
  go_wp2_with fail
  rw [← hV3, ← hV4]
  clear hV3 hV4
  refine HG4.out.mono ?_; rintro e w3 ⟨hb3, gv, rfl, hown⟩
  rw [show goCode 2 M012 = 0 by unfold goCode; rw [go12_a.1]; rfl]
  rw [go12_a.1, if_pos rfl, if_pos rfl, show (2 : Int).toNat = 2 from rfl, go12_a.2.1] at hown
  have HG := Box.mk (row_ints hown rfl)
  obtain ⟨ga, gc, rfl⟩ : ∃ ga gc, gv = .slice ga 5 gc := by obtain ⟨a, c, h, -, -⟩ := own_shape hown; exact ⟨a, c, h⟩
  have HTw3 := Box.mk (below_tr HTw2.out (below_tr HV3.out (below_tr HV4.out hb3)))
  have HB3 := Box.mk (below_tr HW4.out hb3)
  have hmb := (HMB.out.below HV4.out HMB.out.lt)
  have HMB3 := Box.mk (hmb.below hb3 hmb.lt)
  have HP4 := Box.mk (HP3.out.below (below_tr HV3.out (below_tr HV4.out hb3)) HP3.out.lt)
  have HM3 := Box.mk (HM2.out.below (below_tr HV3.out (below_tr HV4.out hb3)))
  have c0 : w3.cell? ⟨w2.heap.size, 0, none⟩ = some (.slice na 2 nc) := (HMB3.out.cell 0).trans rfl
  have c1 : w3.cell? ⟨w2.heap.size, 1, none⟩ = some (.slice fa 2 fc) := (HMB3.out.cell 1).trans rfl
  have l0 := HMB3.out.lt
  obtain ⟨V5, hV5⟩ : ∃ V5, V5 = w3.alloc (.cells #[.int .i64 0, .int .i64 1] 3) := ⟨_, rfl⟩
  have HV5 := Box.mk (show Below w3.heap.size w3 V5 by rw [hV5]; exact alloc_below _ _)
  have HI5 := Box.mk (show IntsAt V5 (.slice (some ⟨w3.heap.size, 0, none⟩) 2 2) [0, 1] by rw [hV5]; exact ints_lit w3 [0, 1] 3 2 rfl (by omega) _ rfl)
  have HW5 := Box.mk (below_tr HB3.out HV5.out)
  have HF5 := Box.mk (mfits_any A B (.agg #[.slice na 2 nc, .slice fa 2 fc]) (.slice (some ⟨w3.heap.size, 0, none⟩) 2 2) M012 2 [0, 1] V5 (HM3.out.below HV5.out) fit12 HI5.out (by simp) (HS.out.below HW5.out).d (HS.out.below HW5.out).le)
  clear hb3 hown hmb
  go_wp2_with fail
  rw [← hV5]
  clear hV5
  refine HF5.out.mono ?_; rintro e w4 ⟨hb4, fv4, rfl, hfi⟩
  rw [show goCode 2 M012 = 0 by unfold goCode; rw [go12_a.1]; rfl]
  rw [go12_a.1, if_pos rfl, show (2 : Int).toNat = 2 from rfl, go12_a.2.2] at hfi
  have HFI := Box.mk hfi
  obtain ⟨ha, hc, rfl⟩ : ∃ ha hc, fv4 = .slice ha 3 hc := hfi.slice
  have HB4 := Box.mk (below_tr HW5.out hb4)
  have h35 := below_tr HV5.out hb4
  have HTw4 := Box.mk (below_tr HTw3.out h35)
  have HMB4 := Box.mk (HMB3.out.below h35 HMB3.out.lt)
  have HP5 := Box.mk (HP4.out.below h35 HP4.out.lt)
  have HM4 := Box.mk (HM3.out.below h35)
  have HG4' := Box.mk (HG.out.below h35)
  have p0 : w4.cell? ⟨w1.heap.size, 0, none⟩ = some (.bool false) := (HP5.out.cell 0).trans rfl
  have p1 : w4.cell? ⟨w1.heap.size, 1, none⟩ = some (.slice al 1 1) := (HP5.out.cell 1).trans rfl
  have p2 : w4.cell? ⟨w1.heap.size, 2, none⟩ = some (.bool false) := (HP5.out.cell 2).trans rfl
  have p3 : w4.cell? ⟨w1.heap.size, 3, none⟩ = some (.slice ar 1 1) := (HP5.out.cell 3).trans rfl
  have p4 : w4.cell? ⟨w1.heap.size, 4, none⟩ = some (.bool false) := (HP5.out.cell 4).trans rfl
  have pl := HP5.out.lt
  obtain ⟨V6, hV6⟩ : ∃ V6, V6 = w4.alloc (.cells #[.bool false, .slice al 1 1, .bool false, .slice ar 1 1, .bool false] 51) := ⟨_, rfl⟩
  have HV6 := Box.mk (show Below w4.heap.size w4 V6 by rw [hV6]; exact alloc_below _ _)
  have HW6 := Box.mk (below_tr HB4.out HV6.out)
  have HR6 := Box.mk (show RulesAt V6 (.slice (some ⟨w4.heap.size, 0, none⟩) 1 1) [one12] by
    rw [hV6]
    exact HRL.out w4 HTw4.out)
  have HC6 := Box.mk (compile_any A B _ [one12] 1 V6 rule12 HR6.out (by simp) (HS.out.below HW6.out).e (HS.out.below HW6.out).d (HS.out.below HW6.out).le)
  clear hb4 hfi h35 c0 c1 l0
  go_wp2_with fail
  rw [← hV6]
  clear hV6
  refine HC6.out.mono ?_; rintro e w5 ⟨hb5, mv5, rfl, hm5⟩
  rw [code12_b]
  obtain ⟨NV5, FV5, rfl, hra5, hia5⟩ := hm5
  obtain ⟨na5, nc5, rfl⟩ := hra5.slice
  obtain ⟨fa5, fc5, rfl⟩ := hia5.slice
  have h46 := below_tr HV6.out hb5
  have HB5 := Box.mk (below_tr HW6.out hb5)
  obtain ⟨V7, hV7⟩ : ∃ V7, V7 = w5.alloc (.cells #[.slice na5 (compM [one12] 1).1.length nc5, .slice fa5 (compM [one12] 1).2.length fc5] 25) := ⟨_, rfl⟩
  have HV7 := Box.mk (show Below w5.heap.size w5 V7 by rw [hV7]; exact alloc_below _ _)
  have HS7 := Box.mk (show V7.heap.size = w5.heap.size + 1 by rw [hV7]; simp)
  have h47 := below_tr h46 HV7.out
  obtain ⟨V11, hV11⟩ : ∃ V11, V11 = (((V7.alloc (.cells #[.int .i64 1, .int .i64 0, .int .i64 0] 3)).alloc (.cells #[.int .i64 1, .int .i64 0, .int .i64 0] 3)).alloc (.cells #[.slice (some ⟨V7.heap.size, 0, none⟩) 3 3, .slice (some ⟨V7.heap.size + 1, 0, none⟩) 3 3] 26)).alloc (.cells #[.int .i64 0, .int .i64 1] 2) := ⟨_, rfl⟩
  have HML := Box.mk (show MachAt V11 (.agg #[.slice (some ⟨w5.heap.size + 1 + 1 + 1, 0, none⟩) 2 2, .slice (some ⟨w5.heap.size + 1 + 1 + 1 + 1, 0, none⟩) 2 2]) M012 by
    rw [hV11, ← HS7.out]; exact ml_lit V7 _ _ _)
  have HV11 := Box.mk (show Below V7.heap.size V7 V11 by rw [hV11]; exact ((((Below.refl _ _).alloc (Nat.le_refl _) _).alloc (by simp) _).alloc (by simp; omega) _).alloc (by simp; omega) _)
  have h411 := below_tr h47 HV11.out
  have HSM := Box.mk (same12_any (.agg #[.slice na 2 nc, .slice fa 2 fc]) (.agg #[.slice (some ⟨w5.heap.size + 1 + 1 + 1, 0, none⟩) 2 2, .slice (some ⟨w5.heap.size + 1 + 1 + 1 + 1, 0, none⟩) 2 2]) M012 M012 V11 (HM4.out.below h411) HML.out fit12 fit12 |> fun h => yes_of h rfl)
  have HB11 := Box.mk (below_tr HB5.out (below_tr HV7.out HV11.out))
  have HG11 := Box.mk (HG4'.out.below h411)
  have HF11 := Box.mk (HFI.out.below h411)
  have hmb7 := HMB4.out.below h46 HMB4.out.lt
  have c0 : w5.cell? ⟨w2.heap.size, 0, none⟩ = some (.slice na 2 nc) := (hmb7.cell 0).trans rfl
  have c1 : w5.cell? ⟨w2.heap.size, 1, none⟩ = some (.slice fa 2 fc) := (hmb7.cell 1).trans rfl
  have l0 := hmb7.lt
  rw [HS7.out] at hV11
  clear hb5 hra5 hia5 h46 h47 h411 hmb7 p0 p1 p2 p3 p4 pl
  go_wp2_with fail
  rw [← hV7, ← hV11]
  clear hV7 hV11 c0 c1 l0
  refine HSM.out.mono ?_; rintro e w6 ⟨rfl, hb6⟩
  obtain ⟨V12, hV12⟩ : ∃ V12, V12 = w6.alloc (.cells #[.int .i64 0, .int .i64 1, .int .i64 0, .int .i64 1, .int .i64 0] 3) := ⟨_, rfl⟩
  have h612 : Below w6.heap.size w6 V12 := by rw [hV12]; exact alloc_below _ _
  have HI12 := Box.mk (show IntsAt V12 (.slice (some ⟨w6.heap.size, 0, none⟩) 5 5) [0, 1, 0, 1, 0] by rw [hV12]; exact ints_lit w6 [0, 1, 0, 1, 0] 3 5 rfl (by omega) _ rfl)
  have HE12 := Box.mk (ints_eq (.slice ga 5 gc) (.slice (some ⟨w6.heap.size, 0, none⟩) 5 5) [0, 1, 0, 1, 0] [0, 1, 0, 1, 0] V12 (HG11.out.below (below_tr hb6 h612)) HI12.out (by simp) (by simp) |> fun h => yes_of h rfl)
  have HB12 := Box.mk (below_tr HB11.out (below_tr hb6 h612))
  have HF12 := Box.mk (HF11.out.below (below_tr hb6 h612))
  clear hb6 h612
  go_wp2_with fail
  rw [← hV12]
  clear hV12
  refine HE12.out.mono ?_; rintro e w7 ⟨rfl, hb7⟩
  obtain ⟨V13, hV13⟩ : ∃ V13, V13 = w7.alloc (.cells #[.int .i64 0, .int .i64 1, .int .i64 0] 2) := ⟨_, rfl⟩
  have h713 : Below w7.heap.size w7 V13 := by rw [hV13]; exact alloc_below _ _
  have HI13 := Box.mk (show IntsAt V13 (.slice (some ⟨w7.heap.size, 0, none⟩) 3 3) [0, 1, 0] by rw [hV13]; exact ints_lit w7 [0, 1, 0] 2 3 rfl (by omega) _ rfl)
  have HE13 := Box.mk (lsets12_eq (.slice ha 3 hc) (.slice (some ⟨w7.heap.size, 0, none⟩) 3 3) [0, 1, 0] [0, 1, 0] V13 (HF12.out.below (below_tr hb7 h713)) HI13.out (by simp) (by simp) |> fun h => yes_of h rfl)
  have HB13 := Box.mk (below_tr HB12.out (below_tr hb7 h713))
  clear hb7 h713
  go_wp2_with fail
  rw [← hV13]
  clear hV13
  refine HE13.out.mono ?_; rintro e w8 ⟨rfl, hb8⟩
  have HB14 := Box.mk (below_tr HB13.out hb8)
  clear hb8
  go_wp2_with fail
  go_ret
  exact ⟨rfl, HB14.out⟩
end Go.Proofs.YtjemdepcaaadiaaGreatDoor

/- WHAT THE CARDS OF THIS SEAT SHARE: the sentinels that the rows lay, a world that holds them, and the wrap from a walk that answers true to a row. -/
namespace Go.Proofs.YtjemdepcaaadiaaGreatDoor
open Go.ChangeShapes Go.WideShapes Go.ChangeAt Go.RowKit

section
variable {H : Type} {enc : TypeId × Value → H} {P : Program}
theorem post_of_below {f : Func} {s : ChangeSpec} {apart fresh handsOn again : Bool} {W W' : World} {args : Array Value} {v : Value} {ds gs : List (DataW H)} {before pa pv : List MemPlace}
    (hW : DataW.Whole enc P f.params.toList s.vars apart W args.toList ds gs before)
    (hres : ∀ (b : Nat) (sp : Nat → Bool) (hd : Bool), DataW.TrodAll enc P W' b sp hd f.resultTypes.toList (v.resultList f.resultTypes.size) (s.fn H (ds ++ gs)).results [])
    (hargs : ∀ sp : Nat → Bool, (∀ p ∈ before, sp p.block = true) → DataW.TrodAll enc P W' 0 sp true f.params.toList args.toList (s.fn H (ds ++ gs)).args pa)
    (hvars : ∀ sp : Nat → Bool, (∀ p ∈ before, sp p.block = true) → DataW.TrodVars enc P W' sp s.vars (s.fn H (ds ++ gs)).vars pv)
    (hps : before = pa ++ pv) (hb : Below W.heap.size W W')
    (hok : ∀ (j : Nat) (t : TypeId) (r : Value), f.resultTypes[j]? = some t → (v.resultList f.resultTypes.size)[j]? = some r → Value.okWide P W' .any 0 t r) :
    s.post enc P f apart fresh handsOn again W args v W' := by
  have hlt : ∀ p ∈ before, p.block < W.heap.size := fun p hp => hW.lt p hp
  have hold : ∀ p ∈ before, (fun b => decide (b < W.heap.size)) p.block = true := fun p hp => by simpa using hlt p hp
  refine ⟨ds, gs, before, [], pa, pv, hW, hres _ _ _, hargs _ hold, hvars _ hold, World.keptBut_mono (fun p hp => ⟨hp, ?_⟩) (hb.frame (· ∈ before)), fun _ => ?_⟩
  · rw [hps, List.mem_append] at hp
    exact Or.inr hp
  · obtain ⟨_, _, _, _, _, hz, hn⟩ := hW
    refine ⟨hok, _, _, ([] ++ pa) ++ pv, ⟨[] ++ pa, pv, trodAll_append (hargs _ (fun _ _ => rfl)) (hres _ _ _), hvars _ (fun _ _ => rfl), rfl, ?_, ?_⟩, ?_⟩
    · intro b off hp
      have hin : MemPlace.cell b off ∈ before := by rw [hps]; simpa using hp
      rw [hb.frozen (hlt _ hin)]
      exact hz b off hin
    · intro ha
      have := hn ha
      rw [hps] at this
      simpa using this
    · intro p hp _
      rw [hps]
      simpa using hp
end

theorem own : ownKnob Tryz.prog.godebug = none := by kernel_rfl
theorem cellsErr : Tryz.prog.cellsOf 191 = 1 := by kernel_rfl
theorem cellsStr : Tryz.prog.cellsOf 9 = 1 := by kernel_rfl
theorem starErr : "*" ++ "errors.errorString" = "*errors.errorString" := by decide
theorem rowErr (u : TypeId) (h : Tryz.prog.typeName? 3 u = some "*errors.errorString") : u = 166 :=
  typeName_ptr_named (nm := "errors.errorString") (by rw [starErr]; kernel_rfl) (by kernel_rfl) (by decide) u (by rw [starErr]; exact h)
theorem gN0 : Tryz.prog.globalNamed "virama/nfa.errPattern" = some 2 ∧ (Tryz.prog.globals[2]?).map (·.type) = some 57 := ⟨by kernel_rfl, by kernel_rfl⟩
theorem gN1 : Tryz.prog.globalNamed "virama/dfa.errRule" = some 1 ∧ (Tryz.prog.globals[1]?).map (·.type) = some 57 := ⟨by kernel_rfl, by kernel_rfl⟩
theorem gN2 : Tryz.prog.globalNamed "virama/dfa.errMachine" = some 0 ∧ (Tryz.prog.globals[0]?).map (·.type) = some 57 := ⟨by kernel_rfl, by kernel_rfl⟩
/-- the sentinels: names, numbers, texts -/
def sentList : List Sent := [("virama/nfa.errPattern", 2, [110, 111, 32, 112, 97, 116, 116, 101, 114, 110]), ("virama/dfa.errRule", 1, [110, 111, 32, 114, 117, 108, 101, 115]), ("virama/dfa.errMachine", 0, [110, 111, 32, 109, 97, 99, 104, 105, 110, 101])]
noncomputable def low : Nat := (World.holding Tryz.prog default ⟨#[], #[], []⟩).heap.size
noncomputable def laidWorld (os : Os) : World :=
  let w0 := World.holding Tryz.prog os ⟨#[(.cells #[.string { data := #[110, 111, 32, 112, 97, 116, 116, 101, 114, 110] }] 191 : Obj), (.cells #[.string { data := #[110, 111, 32, 114, 117, 108, 101, 115] }] 191 : Obj), (.cells #[.string { data := #[110, 111, 32, 109, 97, 99, 104, 105, 110, 101] }] 191 : Obj)], #[], []⟩
  { w0 with heap := (((w0.heap.modify 2 fun
      | .cells _ t frozen => .cells #[.iface 166 (.pointer (some ⟨low + 0, 0, none⟩))] t frozen
      | o => o).modify 1 fun
      | .cells _ t frozen => .cells #[.iface 166 (.pointer (some ⟨low + 1, 0, none⟩))] t frozen
      | o => o).modify 0 fun
      | .cells _ t frozen => .cells #[.iface 166 (.pointer (some ⟨low + 2, 0, none⟩))] t frozen
      | o => o) }
set_option maxRecDepth 100000 in
theorem laid_met (os : Os) (args : Array Value) : laidMet Tryz.prog Rows.dfaGoesRow.laid ((laidWorld os).forCall (fun _ _ => 0) ⟨#[], args, []⟩).memory :=
  laidMet_of_run (ps := [.cell 2 0, .cell (low + 0) 0, .cell 1 0, .cell (low + 1) 0, .cell 0 0, .cell (low + 2) 0]) 8 (by kernel_rfl) (by kernel_rfl) (by kernel_rfl)

/-- where the variables' errors lie -/
theorem Env_of_laid {W : World} (hL : laidMetH Tryz.prog Rows.dfaGoesRow.laid W) : ∃ A : Nat → Addr, Env (sentList.map (·.2.1)) 166 A W.heap.size W :=
  Env_of_list Tryz.underlying57 rowErr Tryz.underlying166 Tryz.underlying191 rfl rfl Tryz.underlying9 cellsErr cellsStr sentList
    (List.forall_mem_cons.2 ⟨gN0, List.forall_mem_cons.2 ⟨gN1, List.forall_mem_cons.2 ⟨gN2, fun _ h => absurd h List.not_mem_nil⟩⟩⟩) hL
theorem E_of_laid {W : World} (hL : laidMetH Tryz.prog Rows.dfaGoesRow.laid W) : ∃ A : Nat → Addr, Sd A W.heap.size W := by
  obtain ⟨A, h⟩ := Env_of_laid hL
  exact ⟨A, env_sub h (by decide), env_sub h (by decide), Nat.le_refl _⟩
end Go.Proofs.YtjemdepcaaadiaaGreatDoor

/- A call that answers true and changes nothing of what was there: its arguments read as they did, whatever they are. -/
namespace Go.Proofs.YtjemdepcaaadiaaGreatDoor
open Go.ChangeShapes Go.WideShapes Go.ChangeAt Go.RowKit

section
variable {H : Type} {enc : TypeId × Value → H} {P : Program}
theorem args_stay (hl : laidOutB P = true) {W W' : World} (hb : Below W.heap.size W W') : ∀ (ts : List TypeId) {vs : List Value} {ds : List (DataW H)} {ps : List MemPlace}, (∀ t ∈ ts, P.readableRec t = true ∧ t < P.types.size) →
    DataW.TrodAll enc P W 0 (fun _ => true) true ts vs ds ps → (∀ p ∈ ps, p.block < W.heap.size) → ∀ sp : Nat → Bool, (∀ p ∈ ps, sp p.block = true) → DataW.TrodAll enc P W' 0 sp true ts vs ds ps
  | [], vs, ds, ps, _, h, _, sp, _ => by
    obtain ⟨rfl, rfl, rfl⟩ := trodAll_nil h
    exact trodAll_mk0
  | t :: ts, vs, ds, ps, hr, h, hlt, sp, hs => by
    obtain ⟨v, vs', d, ds', p, q, rfl, rfl, rfl, h1, h2⟩ := trodAll_cons h
    have ht := hr t (List.mem_cons_self ..)
    exact trodAll_cons_mk (WideElems.Trod_stays hl ht.1 ht.2 h1 (fun x hx => hb.same (hlt x (List.mem_append_left _ hx))) (fun x hx => hs x (List.mem_append_left _ hx)))
      (args_stay hl hb ts (fun t' h' => hr t' (List.mem_cons_of_mem _ h')) h2 (fun x hx => hlt x (List.mem_append_right _ hx)) sp (fun x hx => hs x (List.mem_append_right _ hx)))

theorem post_true {f : Func} {s : ChangeSpec} {apart fresh handsOn again : Bool} {W W' : World} {args : Array Value} {ds : List (DataW H)} {before : List MemPlace} {tb : TypeId} (hl : laidOutB P = true)
    (hv : s.vars = []) (hW : DataW.Whole enc P f.params.toList s.vars apart W args.toList ds [] before) (hb : Below W.heap.size W W') (htb : P.underlying tb = some .bool) (hr : f.resultTypes = #[tb])
    (hread : ∀ t ∈ f.params.toList, P.readableRec t = true ∧ t < P.types.size) (hs : s.fn H ds = { results := [.lit (.bool true)], args := ds }) :
    s.post enc P f apart fresh handsOn again W args (.bool true) W' := by
  have hW' := hW
  obtain ⟨p, q, hA, hV, he, hfz, hnd⟩ := hW
  rw [hv] at hV
  obtain ⟨-, rfl⟩ := trodVars_none hV
  rw [List.append_nil] at he
  subst he
  have hlt : ∀ x ∈ before, x.block < W.heap.size := fun x hx => hW'.lt x hx
  have hs' : s.fn H (ds ++ []) = { results := [.lit (.bool true)], args := ds } := by rw [List.append_nil]; exact hs
  refine post_of_below (pa := before) (pv := []) hW' ?_ ?_ ?_ (by simp) hb (ok_one hr rfl (okWide_bool_mk htb _))
  · intro b sp hd
    rw [hs', hr]
    exact trodAll_mk1 (shut_bool htb _)
  · intro sp hsp
    rw [hs']
    exact args_stay hl hb _ hread hA hlt sp hsp
  · intro sp _
    rw [hs', hv]
    rfl
end
end Go.Proofs.YtjemdepcaaadiaaGreatDoor

/- A PATTERN THAT COMES IN: what it reads as. -/
namespace Go.Proofs.YtjemdepcaaadiaaGreatDoor
open Go.RowKit Go.ChangeShapes Go.WideShapes Go.Deep

section
variable {H : Type} {enc : TypeId × Value → H} {W : World}
theorem addr_add (b off i : Nat) : (⟨b, off, none⟩ : Addr).add i = ⟨b, off + i, none⟩ := by
  unfold Addr.add; by_cases h0 : i = 0 <;> simp [h0]
set_option maxRecDepth 100000 in
theorem ItemsAt.open {v : Value} {fuel : Nat} {x : DataW H × List MemPlace} (hf : DataW.trod enc Tryz.prog W 0 (fun _ => true) true fuel 47 [v] = some x) : ∃ l, ItemsAt W v l := by
  rcases open_slice_pairs Tryz.underlying47 Tryz.underlying79 (by kernel_rfl) rfl rfl (by kernel_rfl) (by kernel_rfl) hf with ⟨h1, _⟩ | ⟨a, len, cap, m, n, V0, V1, D0, D1, P0, P1, h1, _, h2, h3, h4, _, h5⟩
  · simp only [List.cons.injEq, and_true] at h1
    exact ⟨[], .inl ⟨h1, rfl⟩⟩
  · simp only [List.cons.injEq, and_true] at h1
    subst h1
    simp only [if_true] at h4
    subst h4
    have key : ∀ i, i < m → ∃ y : N.Item, W.cell? (a.add (i * 2)) = some (.int .i64 y.1) ∧ W.cell? (a.add (i * 2 + 1)) = some (.int .i64 y.2) := by
      intro i hi
      obtain ⟨c0, c1, t0, t1⟩ := h5 i hi
      obtain ⟨k0, e0, _⟩ := DataW.trod_int Tryz.underlying2 t0
      obtain ⟨k1, e1, _⟩ := DataW.trod_int Tryz.underlying3 t1
      simp only [List.cons.injEq, and_true] at e0 e1
      exact ⟨(k0, k1), by rw [c0, e0], by rw [c1, e1]⟩
    let g : Nat → N.Item := fun i => if h : i < m then (key i h).choose else (0, 0)
    have hg : ∀ i, i < m → W.cell? (a.add (i * 2)) = some (.int .i64 (g i).1) ∧ W.cell? (a.add (i * 2 + 1)) = some (.int .i64 (g i).2) := by
      intro i hi
      have : g i = (key i hi).choose := by simp [g, hi]
      rw [this]
      exact (key i hi).choose_spec
    obtain ⟨b, off, sp⟩ := a
    have hlen : ((List.range len).map g).length = len := by simp
    refine ⟨(List.range len).map g, .inr ⟨b, off, sp, m, by rw [hlen], by rw [hlen]; exact h2, h3, fun hn => ?_⟩⟩
    have h0 : 0 < len := by
      rcases Nat.eq_zero_or_pos len with h | h
      · subst h; exact absurd rfl hn
      · exact h
    have hc0 := (hg 0 (by omega)).1
    have hsp : sp = none := World.cell?_spot (a := (⟨b, off, sp⟩ : Addr).add (0 * 2)) hc0
    subst hsp
    refine ⟨rfl, World.block_lt_of_cell? _ _ hc0, fun i y hy => ?_⟩
    rw [List.getElem?_map] at hy
    obtain ⟨j, hj, rfl⟩ := Option.map_eq_some_iff.1 hy
    obtain ⟨hi, rfl⟩ := List.getElem?_eq_some_iff.1 hj
    simp only [List.length_range] at hi
    simp only [List.getElem_range]
    have := hg i (by omega)
    rw [addr_add b off, addr_add b off] at this
    exact this
set_option maxRecDepth 100000 in
theorem pat_open {base : Nat} {v : Value} {d : DataW H} {p : List MemPlace} (hv : Value.okWide Tryz.prog W .any base 49 v) (h : DataW.Trod enc Tryz.prog W 0 (fun _ => true) true 49 v d p) :
    ∃ (st : Bool) (v' : Value) (l : List N.Item), v = .agg #[.bool st, v'] ∧ ItemsAt W v' l := by
  obtain ⟨v0, v1, y0, y1, n, rfl, -, -, h0, h1⟩ := Go.Joins.open_agg2 Tryz.underlying49 (by kernel_rfl) (by kernel_rfl) hv h
  obtain ⟨st, e0, _⟩ := DataW.trod_bool Tryz.underlying4 h0
  simp only [List.cons.injEq, and_true] at e0
  subst e0
  obtain ⟨l, hl⟩ := ItemsAt.open h1
  exact ⟨st, v1, l, rfl, hl⟩
end
end Go.Proofs.YtjemdepcaaadiaaGreatDoor

/- RULES AND MACHINES THAT COME IN: what they read as. -/
namespace Go.Proofs.YtjemdepcaaadiaaGreatDoor
open Go.RowKit Go.ChangeShapes Go.WideShapes Go.Deep

section
variable {H : Type} {enc : TypeId × Value → H} {W : World}
set_option maxRecDepth 100000 in
theorem pat_cells {fuel : Nat} {cs : List Value} {x : DataW H × List MemPlace} (h : DataW.trod enc Tryz.prog W 0 (fun _ => true) true fuel 49 cs = some x) :
    ∃ (st : Bool) (v : Value) (l : List N.Item), cs = [.bool st, v] ∧ ItemsAt W v l := by
  obtain ⟨y0, y1, n, rfl, hl, h0, h1⟩ := trod_struct2 Tryz.underlying49 h
  have hl2 : cs.length = 2 := hl.trans (by kernel_rfl)
  match cs, hl2 with
  | [c0, c1], _ =>
    obtain ⟨st, e0, _⟩ := DataW.trod_bool Tryz.underlying4 h0
    obtain ⟨l, hli⟩ := ItemsAt.open h1
    have e0' : [c0] = [.bool st] := e0
    simp only [List.cons.injEq, and_true] at e0'
    subst e0'
    exact ⟨st, c1, l, rfl, hli⟩
set_option maxRecDepth 100000 in
theorem rule_cells {fuel : Nat} {cs : List Value} {x : DataW H × List MemPlace} (h : DataW.trod enc Tryz.prog W 0 (fun _ => true) true fuel 51 cs = some x) :
    ∃ (y : D.Rule) (vl vr : Value), cs = [.bool y.1.1, vl, .bool y.2.1.1, vr, .bool y.2.2] ∧ ItemsAt W vl y.1.2 ∧ ItemsAt W vr y.2.1.2 := by
  obtain ⟨y0, y1, y2, n, rfl, hl, h0, h1, h2⟩ := trod_struct3 Tryz.underlying51 h
  have hl5 : cs.length = 5 := hl.trans (by kernel_rfl)
  match cs, hl5 with
  | [c0, c1, c2, c3, c4], _ =>
    obtain ⟨sl, vl, ll, e0, hi0⟩ := pat_cells (cs := [c0, c1]) h0
    obtain ⟨sr, vr, lr, e1, hi1⟩ := pat_cells (cs := [c2, c3]) h1
    obtain ⟨br, e2, _⟩ := DataW.trod_bool Tryz.underlying4 h2
    have e2' : [c4] = [.bool br] := e2
    simp only [List.cons.injEq, and_true] at e0 e1 e2'
    obtain ⟨rfl, rfl⟩ := e0
    obtain ⟨rfl, rfl⟩ := e1
    subst e2'
    exact ⟨((sl, ll), (sr, lr), br), _, _, rfl, hi0, hi1⟩
set_option maxRecDepth 100000 in
theorem RulesAt.open {fuel : Nat} {v : Value} {x : DataW H × List MemPlace} (h : DataW.trod enc Tryz.prog W 0 (fun _ => true) true fuel 41 [v] = some x) : ∃ l, RulesAt W v l := by
  have ce : Tryz.prog.cellsOf 51 = 5 := by kernel_rfl
  rcases open_slice Tryz.underlying41 h with ⟨h1, _⟩ | ⟨a, len, cap, m, n, Dd, Pl, h1, _, h2, h3, h4, _, h5⟩
  · simp only [List.cons.injEq, and_true] at h1
    exact ⟨[], .inl ⟨h1, rfl⟩⟩
  · simp only [List.cons.injEq, and_true] at h1
    subst h1
    simp only [if_true] at h4
    subst h4
    rw [ce] at h5
    have key : ∀ i, i < m → ∃ q : D.Rule × Value × Value, (∀ j u, [Value.bool q.1.1.1, q.2.1, .bool q.1.2.1.1, q.2.2, .bool q.1.2.2][j]? = some u → W.cell? ((a.add (i * 5)).add j) = some u) ∧ ItemsAt W q.2.1 q.1.1.2 ∧ ItemsAt W q.2.2 q.1.2.1.2 := by
      intro i hi
      obtain ⟨cs', h6, h7⟩ := h5 i hi
      obtain ⟨_, hlen, hcell⟩ := World.cells?_some h6
      obtain ⟨y, vl, vr, rfl, h8, h9⟩ := rule_cells h7
      refine ⟨(y, vl, vr), fun j u hu => ?_, h8, h9⟩
      have hj : j < 5 := (List.getElem?_eq_some_iff.1 hu).1
      rw [hcell j hj]
      exact hu
    obtain ⟨q, hq⟩ := choose_lt key
    obtain ⟨b, off, sp⟩ := a
    have hlen : ((List.range len).map fun i => (q i).1).length = len := by simp
    refine ⟨(List.range len).map fun i => (q i).1, .inr ⟨b, off, sp, m, by rw [hlen], by rw [hlen]; exact h2, h3, fun hn => ?_⟩⟩
    have h0 : 0 < len := by
      rcases Nat.eq_zero_or_pos len with h | h
      · subst h; exact absurd rfl hn
      · exact h
    have hc0 := (hq 0 (by omega)).1 0 _ rfl
    have hsp : sp = none := World.cell?_spot (a := ((⟨b, off, sp⟩ : Addr).add (0 * 5)).add 0) hc0
    subst hsp
    refine ⟨rfl, World.block_lt_of_cell? _ _ hc0, fun i y hy => ?_⟩
    rw [List.getElem?_map] at hy
    obtain ⟨j, hj, rfl⟩ := Option.map_eq_some_iff.1 hy
    obtain ⟨hi, rfl⟩ := List.getElem?_eq_some_iff.1 hj
    simp only [List.length_range] at hi
    simp only [List.getElem_range]
    obtain ⟨k1, k2, k3⟩ := hq i (by omega)
    have hc : ∀ j u, [Value.bool (q i).1.1.1, (q i).2.1, .bool (q i).1.2.1.1, (q i).2.2, .bool (q i).1.2.2][j]? = some u → W.cell? ⟨b, off + i * 5 + j, none⟩ = some u := fun j u hu => by
      have := k1 j u hu
      rw [addr_add b off, addr_add b] at this
      exact this
    exact ⟨(q i).2.1, (q i).2.2, hc 0 _ rfl, hc 1 _ rfl, hc 2 _ rfl, hc 3 _ rfl, hc 4 _ rfl, k2, k3⟩
set_option maxRecDepth 100000 in
theorem ints_cells {fuel : Nat} {v : Value} {x : DataW H × List MemPlace} {t e : TypeId} (ht : Tryz.prog.underlying t = some (.slice e)) (he : Tryz.prog.underlying e = some (.int .i64)) (hc : Tryz.prog.cellsOf e = 1)
    (h : DataW.trod enc Tryz.prog W 0 (fun _ => true) true fuel t [v] = some x) : ∃ l, IntsAt W v l := by
  rcases Go.ChangeShapes.open_ints ht he hc h with ⟨h1, _⟩ | ⟨a, len, cap, zs, h1, _, h2, h3, h4, _, h5, _⟩
  · simp only [List.cons.injEq, and_true] at h1
    exact ⟨[], .inl ⟨h1, rfl⟩⟩
  · simp only [List.cons.injEq, and_true] at h1
    subst h1
    simp only [if_true] at h4
    have hl : (zs.take len).length = len := by rw [List.length_take]; omega
    obtain ⟨b, off, sp⟩ := a
    refine ⟨zs.take len, .inr ⟨b, off, sp, cap, by rw [hl], by rw [hl]; exact h2, h3, fun hn => ?_⟩⟩
    have h0 : 0 < zs.length := by
      rcases Nat.eq_zero_or_pos zs.length with h | h
      · exact absurd (by rw [List.eq_nil_of_length_eq_zero h]; simp) hn
      · exact h
    have hc0 := h5 0 h0
    have hsp : sp = none := World.cell?_spot (a := (⟨b, off, sp⟩ : Addr).add 0) hc0
    subst hsp
    refine ⟨rfl, World.block_lt_of_cell? _ _ hc0, fun i x hx => ?_⟩
    rw [List.getElem?_take] at hx
    split at hx
    · have hi : i < zs.length := (List.getElem?_eq_some_iff.1 hx).1
      have := h5 i hi
      rw [show (⟨b, off + i, none⟩ : Addr) = (⟨b, off, none⟩ : Addr).add i by unfold Addr.add; by_cases h0 : i = 0 <;> simp [h0], this, List.getD, hx]
      rfl
    · cases hx
set_option maxRecDepth 100000 in
theorem RowsAt.open {fuel : Nat} {v : Value} {x : DataW H × List MemPlace} (h : DataW.trod enc Tryz.prog W 0 (fun _ => true) true fuel 22 [v] = some x) : ∃ l, RowsAt W v l := by
  rcases open_slice1 Tryz.underlying22 (by kernel_rfl) h with ⟨h1, _⟩ | ⟨a, len, cap, m, n, V, Dd, Pl, h1, _, h2, h3, h4, _, h5⟩
  · simp only [List.cons.injEq, and_true] at h1
    exact ⟨[], .inl ⟨h1, rfl⟩⟩
  · simp only [List.cons.injEq, and_true] at h1
    subst h1
    simp only [if_true] at h4
    subst h4
    have key : ∀ i, i < m → ∃ q : List Int, W.cell? (a.add i) = some (V i) ∧ IntsAt W (V i) q := fun i hi => by
      obtain ⟨k1, k2⟩ := h5 i hi
      obtain ⟨q, hq⟩ := ints_cells Tryz.underlying26 Tryz.underlying3 (by kernel_rfl) k2
      exact ⟨q, k1, hq⟩
    obtain ⟨q, hq⟩ := choose_lt key
    obtain ⟨b, off, sp⟩ := a
    have hlen : ((List.range len).map q).length = len := by simp
    refine ⟨(List.range len).map q, .inr ⟨b, off, sp, m, by rw [hlen], by rw [hlen]; exact h2, h3, fun hn => ?_⟩⟩
    have h0 : 0 < len := by
      rcases Nat.eq_zero_or_pos len with h | h
      · subst h; exact absurd rfl hn
      · exact h
    have hc0 := (hq 0 (by omega)).1
    have hsp : sp = none := World.cell?_spot (a := (⟨b, off, sp⟩ : Addr).add 0) hc0
    subst hsp
    refine ⟨rfl, World.block_lt_of_cell? _ _ hc0, fun i y hy => ?_⟩
    rw [List.getElem?_map] at hy
    obtain ⟨j, hj, rfl⟩ := Option.map_eq_some_iff.1 hy
    obtain ⟨hi, rfl⟩ := List.getElem?_eq_some_iff.1 hj
    simp only [List.length_range] at hi
    simp only [List.getElem_range]
    obtain ⟨k1, k2⟩ := hq i (by omega)
    rw [addr_add b off] at k1
    exact ⟨_, k1, k2⟩
set_option maxRecDepth 100000 in
theorem mach_open {base : Nat} {v : Value} {d : DataW H} {p : List MemPlace} (hv : Value.okWide Tryz.prog W .any base 25 v) (h : DataW.Trod enc Tryz.prog W 0 (fun _ => true) true 25 v d p) :
    ∃ M : D.Mach, MachAt W v M := by
  obtain ⟨v0, v1, y0, y1, n, rfl, -, -, h0, h1⟩ := Go.Joins.open_agg2 Tryz.underlying25 (by kernel_rfl) (by kernel_rfl) hv h
  obtain ⟨l0, hl0⟩ := RowsAt.open h0
  obtain ⟨l1, hl1⟩ := ints_cells Tryz.underlying23 Tryz.underlying2 (by kernel_rfl) h1
  exact ⟨(l0, l1), v0, v1, rfl, hl0, hl1⟩
set_option maxRecDepth 100000 in
theorem rules_open {base : Nat} {v : Value} {d : DataW H} {p : List MemPlace} (hv : Value.okWide Tryz.prog W .any base 41 v) (h : DataW.Trod enc Tryz.prog W 0 (fun _ => true) true 41 v d p) :
    ∃ l, RulesAt W v l := by
  obtain ⟨a0, len0, cap0, rfl⟩ := Go.WideShapes.okWide_slice Tryz.underlying41 hv
  obtain ⟨fuel, hf⟩ := h
  exact RulesAt.open hf
end
end Go.Proofs.YtjemdepcaaadiaaGreatDoor

/- PLAIN. Which states of a machine are reached; of rules' machine: all. Nothing of any program. -/
namespace Go.Proofs.YtjemdepcaaadiaaGreatDoor.D

def addOne (t : List Nat) (x : Nat) : List Nat := if x ∈ t then t else t ++ [x]
def addAll (t r : List Nat) : List Nat := r.foldl addOne t
/-- what is to be looked at behind k rounds -/
def reach (next : List (List Nat)) : Nat → List Nat
  | 0 => [0]
  | k + 1 => match (reach next k)[k]? with
    | none => reach next k
    | some s => addAll (reach next k) (next.getD s [])
theorem addAll_snoc (t r : List Nat) (x : Nat) : addAll t (r ++ [x]) = addOne (addAll t r) x := by unfold addAll; rw [List.foldl_append]; rfl
theorem addOne_nodup {t : List Nat} (h : t.Nodup) (x : Nat) : (addOne t x).Nodup := by
  unfold addOne
  split
  · exact h
  · rename_i hx
    rw [List.nodup_append]
    exact ⟨h, by simp, fun a ha b hb e => hx (by rw [List.mem_singleton.1 hb] at e; exact e ▸ ha)⟩
theorem addOne_all {p : Nat → Prop} {t : List Nat} (h : ∀ y ∈ t, p y) {x : Nat} (hx : p x) : ∀ y ∈ addOne t x, p y := by
  unfold addOne
  split
  · exact h
  · intro y hy
    rcases List.mem_append.1 hy with h1 | h1
    · exact h y h1
    · rw [List.mem_singleton.1 h1]; exact hx
theorem addAll_nodup : ∀ (r : List Nat) {t : List Nat}, t.Nodup → (addAll t r).Nodup
  | [], _, h => h
  | x :: r, _, h => addAll_nodup r (addOne_nodup h x)
theorem addAll_all {p : Nat → Prop} : ∀ (r : List Nat) {t : List Nat}, (∀ y ∈ t, p y) → (∀ y ∈ r, p y) → ∀ y ∈ addAll t r, p y
  | [], _, h, _ => h
  | x :: r, _, h, hr => addAll_all r (addOne_all h (hr x (List.mem_cons_self ..))) (fun y hy => hr y (List.mem_cons_of_mem _ hy))
theorem addOne_pre (t : List Nat) (x : Nat) : t <+: addOne t x := by unfold addOne; split; exact List.prefix_refl _; exact List.prefix_append _ _
theorem addAll_pre : ∀ (r t : List Nat), t <+: addAll t r
  | [], _ => List.prefix_refl _
  | x :: r, t => (addOne_pre t x).trans (addAll_pre r (addOne t x))
theorem nodup_le : ∀ (N : Nat) (l : List Nat), l.Nodup → (∀ x ∈ l, x < N) → l.length ≤ N
  | 0, l, _, h => by
    cases l with
    | nil => simp
    | cons x t => exact absurd (h x (List.mem_cons_self ..)) (by omega)
  | N + 1, l, hn, h => by
    have ih := nodup_le N (l.erase N) (hn.erase N) (fun x hx => by
      have h1 := (List.Nodup.mem_erase_iff hn).1 hx
      have := h x h1.2
      omega)
    by_cases hm : N ∈ l
    · rw [List.length_erase_of_mem hm] at ih; omega
    · rw [List.erase_of_not_mem hm] at ih; omega
section
variable (next : List (List Nat))
theorem reach_nodup : ∀ k, (reach next k).Nodup
  | 0 => by unfold reach; simp
  | k + 1 => by
    unfold reach
    split
    · exact reach_nodup k
    · exact addAll_nodup _ (reach_nodup k)
theorem reach_all {N : Nat} (hN : 0 < N) (h : ∀ r ∈ next, ∀ x ∈ r, x < N) : ∀ k, ∀ x ∈ reach next k, x < N
  | 0, x, hx => by unfold reach at hx; rw [List.mem_singleton.1 hx]; exact hN
  | k + 1, x, hx => by
    unfold reach at hx
    split at hx
    · exact reach_all hN h k x hx
    · rename_i s _
      refine addAll_all _ (p := fun y => y < N) (reach_all hN h k) (fun y hy => ?_) x hx
      rw [List.getD] at hy
      cases hs : next[s]? with
      | none => rw [hs] at hy; exact absurd hy List.not_mem_nil
      | some r => rw [hs] at hy; exact h r (List.mem_of_getElem? hs) y hy
theorem reach_len {N : Nat} (hN : 0 < N) (h : ∀ r ∈ next, ∀ x ∈ r, x < N) (k : Nat) : (reach next k).length ≤ N := nodup_le N _ (reach_nodup next k) (reach_all next hN h k)
theorem reach_stop {k : Nat} (h : (reach next k).length ≤ k) : ∀ m, reach next (k + m) = reach next k
  | 0 => rfl
  | m + 1 => by
    have ih := reach_stop h m
    rw [← Nat.add_assoc]
    show (match (reach next (k + m))[k + m]? with | none => reach next (k + m) | some s => addAll (reach next (k + m)) (next.getD s [])) = _
    rw [ih, List.getElem?_eq_none (by omega)]
theorem reach_step {k s : Nat} (h : (reach next k)[k]? = some s) : reach next (k + 1) = addAll (reach next k) (next.getD s []) := by
  rw [reach, h]
theorem reach_none {k : Nat} (h : (reach next k)[k]? = none) : reach next (k + 1) = reach next k := by
  rw [reach, h]
theorem reach_pos (k : Nat) : 0 < (reach next k).length := by
  induction k with
  | zero => unfold reach; simp
  | succ k ih =>
    unfold reach
    split
    · exact ih
    · exact Nat.lt_of_lt_of_le ih (addAll_pre _ _).length_le
end

theorem range_snoc_get (L : Nat) : addOne (List.range L) L = List.range (L + 1) := by
  unfold addOne
  rw [if_neg (by simp), List.range_succ]
theorem addAll_row (rs : List Side) (n : Nat) (S : Sets) (t : List Sets) : ∀ k, addAll (List.range t.length) (row rs n S t k).1 = List.range (row rs n S t k).2.length
  | 0 => rfl
  | k + 1 => by
    rw [row_succ]
    simp only
    rw [addAll_snoc, addAll_row rs n S t k]
    generalize (row rs n S t k).2 = t'
    generalize stepAll rs S (cls n k) = s
    by_cases h : s ∈ t'
    · rw [show add t' s = t' by unfold add; rw [if_pos h]]
      unfold addOne
      rw [if_pos (List.mem_range.2 (place_lt h))]
    · rw [show add t' s = t' ++ [s] by unfold add; rw [if_neg h], place_new h, range_snoc_get, List.length_append]
      rfl
section
variable (rs : List Side) (n : Nat)
theorem next_pre (j : Nat) : ∀ m, (build rs n j).next <+: (build rs n (j + m)).next
  | 0 => List.prefix_refl _
  | m + 1 => by
    refine (next_pre j m).trans ?_
    rw [← Nat.add_assoc]
    show (build rs n (j + m)).next <+: ((build rs n (j + m)).go rs n).next
    unfold Bld.go
    split
    · exact List.prefix_refl _
    · exact List.prefix_append _ _
/-- rules' machine numbers its states as they are met -/
theorem reach_build (K : Nat) : ∀ k, k ≤ K → reach (build rs n K).next k = List.range (build rs n k).todo.length
  | 0, _ => by unfold reach; rfl
  | k + 1, hk => by
    have ih := reach_build K k (by omega)
    have hl := build_len rs n k
    have e2 : build rs n (k + 1) = (build rs n k).go rs n := rfl
    rcases Nat.lt_or_ge k (build rs n k).todo.length with h | h
    · have hnl : (build rs n k).next.length = k := by omega
      obtain ⟨S, hS⟩ : ∃ S, (build rs n k).todo[(build rs n k).next.length]? = some S := ⟨_, List.getElem?_eq_getElem (by rw [hnl]; exact h)⟩
      have hg := go_some rs n hS
      rw [reach_step _ (s := k) (by rw [ih, List.getElem?_range h]), ih, e2, hg]
      simp only
      have hpre := next_pre rs n (k + 1) (K - (k + 1))
      rw [show k + 1 + (K - (k + 1)) = K by omega, e2, hg] at hpre
      have hrow : (build rs n K).next[k]? = some (row rs n S (build rs n k).todo (n + 1)).1 := by
        refine pre_get hpre ?_
        simp only
        rw [List.getElem?_append_right (by omega), hnl, Nat.sub_self]
        rfl
      rw [show (build rs n K).next.getD k [] = (row rs n S (build rs n k).todo (n + 1)).1 by rw [List.getD, hrow]; rfl]
      exact addAll_row rs n S _ (n + 1)
    · have hst : (build rs n k).todo.length ≤ (build rs n k).next.length := by omega
      have hgo : (build rs n k).go rs n = build rs n k := go_none rs n hst
      rw [e2, hgo, ← ih]
      exact reach_none _ (by rw [ih, List.getElem?_eq_none (by rw [List.length_range]; exact h)])
theorem row_lt {S : Sets} {t : List Sets} : ∀ k, ∀ x ∈ (row rs n S t k).1, x < (row rs n S t k).2.length
  | 0, x, h => absurd h List.not_mem_nil
  | k + 1, x, h => by
    rw [row_succ] at h ⊢
    simp only at h ⊢
    rcases List.mem_append.1 h with h1 | h1
    · exact Nat.lt_of_lt_of_le (row_lt k x h1) (add_le _ _)
    · rw [List.mem_singleton.1 h1]; exact (place_add _ _).1
theorem build_lt : ∀ k, (∀ r ∈ (build rs n k).next, ∀ x ∈ r, x < (build rs n k).todo.length) ∧ ∀ f ∈ (build rs n k).fits, f < 2 ^ rs.length
  | 0 => ⟨fun r h => absurd h List.not_mem_nil, fun f h => absurd h List.not_mem_nil⟩
  | k + 1 => by
    obtain ⟨h1, h2⟩ := build_lt k
    have e2 : build rs n (k + 1) = (build rs n k).go rs n := rfl
    rw [e2]
    unfold Bld.go
    split
    · exact ⟨h1, h2⟩
    · rename_i S hS
      simp only
      refine ⟨fun r hr x hx => ?_, fun f hf => ?_⟩
      · rcases List.mem_append.1 hr with h | h
        · exact Nat.lt_of_lt_of_le (h1 r h x hx) (row_pre (rs := rs) (n := n) (S := S) (t := (build rs n k).todo) (n + 1)).length_le
        · rw [List.mem_singleton.1 h] at hx
          exact row_lt rs n (n + 1) x hx
      · rcases List.mem_append.1 hf with h | h
        · exact h2 f h
        · rw [List.mem_singleton.1 h]; exact doneTo_lt rs S rs.length
end
end Go.Proofs.YtjemdepcaaadiaaGreatDoor.D
