/-
  TWO MACHINES COMPARED BY THE PROGRAM.
-/
import Derived.Test.YtjemdepcaaadiaaDoorH7
namespace Go.Proofs.YtjemdepcaaadiaaDoor
open Go.RowKit Go.Shelf
attribute [local go_sem] Oper.semAt_some

set_option maxRecDepth 100000 in
set_option maxHeartbeats 4000000 in
theorem eqfunc_any (a b : Value) (xs ys : List (List Int)) (w : World) (ha : RowsAt w a xs) (hb : RowsAt w b ys) (hx : ∀ r ∈ xs, r.length ≤ 1000) (hy : ∀ r ∈ ys, r.length ≤ 1000) (hz : xs.length ≤ 1000) :
    Calls Tryd.prog 44 #[a, b, .func (.func 45) #[] #[]] w fun e w' => e = .returned (.bool (decide (xs = ys))) ∧ Below w.heap.size w w' := by
  have HA := Box.mk ha
  have HB := Box.mk hb
  have HXF := Box.mk hx
  have HYF := Box.mk hy
  obtain ⟨aa, ca, rfl⟩ := ha.slice
  obtain ⟨ab, cb, rfl⟩ := hb.slice
  clear ha hb hx hy
  by_cases hlen : xs.length = ys.length
  · have HLEN := Box.mk hlen
    rw [← hlen]
    rw [← hlen] at HB
    clear hlen
    go_enter Tryd.func44, Tryd.ntmps44
    go_wp2_with fail
    go_loopw [17] (fun i wr => ∃ k : Nat, k ≤ xs.length ∧ i = .int .i64 k ∧ Box (xs.take k = ys.take k) ∧ Box (Below w.heap.size w wr)) (fun i _ => xs.length - (intOf i).toNat)
    case atStart => exact ⟨0, by omega, rfl, ⟨rfl⟩, ⟨Below.refl _ _⟩⟩
    case round =>
      obtain ⟨k, hk, rfl, hE, hbr⟩ := hrel
      by_cases hlt : k < xs.length
      · obtain ⟨x, hx⟩ : ∃ x, xs[k]? = some x := ⟨_, List.getElem?_eq_getElem hlt⟩
        obtain ⟨y, hy⟩ : ∃ y, ys[k]? = some y := ⟨_, List.getElem?_eq_getElem (by rw [← HLEN.out]; exact hlt)⟩
        obtain ⟨pa, oa, ca', ha0, ha1, ha2, ha3, ha4⟩ := (HA.out.below hbr.out).get (by rintro rfl; simp at hlt)
        obtain ⟨rfl, rfl⟩ : aa = some ⟨pa, oa, none⟩ ∧ ca = ca' := by injection ha0 with h1 h2 h3; exact ⟨h1, h3⟩
        have hB' := HB.out.below hbr.out
        rw [HLEN.out] at hB'
        obtain ⟨pb, ob, cb', hb0, hb1, hb2, hb3, hb4⟩ := hB'.get (by rintro rfl; simp at hy)
        obtain ⟨rfl, rfl⟩ : ab = some ⟨pb, ob, none⟩ ∧ cb = cb' := by injection hb0 with h1 h2 h3; exact ⟨h1, h3⟩
        obtain ⟨xv, hxc, hxi⟩ := ha4 k x hx
        obtain ⟨yv, hyc, hyi⟩ := hb4 k y hy
        have HX := Box.mk hx
        have HY := Box.mk hy
        have HIE := Box.mk (sleqint xv yv x y wr hxi hyi (by have := HXF.out x (List.mem_of_getElem? hx); omega) (by have := HYF.out y (List.mem_of_getElem? hy); omega))
        unfold maxLen at ha2 hb2
        have hltc : k < ca := by omega
        have hltd : k < cb := by rw [← HLEN.out] at hb1; omega
        clear ha0 ha4 hb0 hb4 hx hy hxi hyi hB'
        by_cases hxy : x = y
        · subst hxy
          have HQ := Box.mk (show decide (x = x) = true by simp)
          go_wp2_with (go_at_call 45; refine HIE.out.mono ?_; rintro e w7 ⟨rfl, hb7⟩; rw [HQ.out])
          go_roundw
          case rel => exact ⟨k + 1, hlt, by go_num, ⟨rows_take_step hE.out HX.out HY.out⟩, ⟨hbr.out.trans (hb7.mono hbr.out.size)⟩⟩
          case measure => simp [intOf]; omega
        · have HQ := Box.mk (show decide (x = y) = false by simpa using hxy)
          have HF := Box.mk (show decide (xs = ys) = false by rw [decide_eq_false_iff_not]; exact rows_ne_step HX.out HY.out hxy)
          go_wp2_with (go_at_call 45; refine HIE.out.mono ?_; rintro e w7 ⟨rfl, hb7⟩; rw [HQ.out])
          go_ret
          exact ⟨ret_bool (by rw [HF.out]), hbr.out.trans (hb7.mono hbr.out.size)⟩
      · have HT := Box.mk (show decide (xs = ys) = true by
          rw [decide_eq_true_iff]
          have h1 := hE.out
          rwa [show k = xs.length by omega, List.take_length, HLEN.out, List.take_length] at h1)
        go_wp2_with fail
        go_ret
        exact ⟨ret_bool (by rw [HT.out]), hbr.out⟩
  · have HF := Box.mk (show decide (xs = ys) = false by rw [decide_eq_false_iff_not]; rintro rfl; exact hlen rfl)
    have hq : ((xs.length : Int) == (ys.length : Int)) = false := beq_eq_false_iff_ne.2 (by omega)
    go_enter Tryd.func44, Tryd.ntmps44
    go_wp2
    all_goals go_ret
    all_goals exact ⟨ret_bool (by rw [HF.out]), Below.refl _ _⟩

set_option maxRecDepth 100000 in
set_option maxHeartbeats 4000000 in
theorem msame_any (a b : Value) (M N : D.Mach) (w : World) (ha : MachAt w a M) (hb : MachAt w b N) (hM : MachFit M) (hN : MachFit N) :
    Calls Tryd.prog 19 #[a, b] w fun e w' => e = .returned (.bool (decide (M = N))) ∧ Below w.heap.size w w' := by
  obtain ⟨na, fa, rfl, hra, hia⟩ := ha
  obtain ⟨nb, fb, rfl, hrb, hib⟩ := hb
  obtain ⟨aa, ca, rfl⟩ := hra.slice
  obtain ⟨ab, cb, rfl⟩ := hrb.slice
  obtain ⟨fo, fc, rfl⟩ := hia.slice
  obtain ⟨go, gc, rfl⟩ := hib.slice
  obtain ⟨w2, hw2⟩ : ∃ w2, w2 = (w.alloc (.cells #[.slice aa M.1.length ca, .slice fo M.2.length fc] 28)).alloc (.cells #[.slice ab N.1.length cb, .slice go N.2.length gc] 28) := ⟨_, rfl⟩
  have HW2 := Box.mk hw2
  have hbw : Below w.heap.size w w2 := by rw [hw2]; exact ((Below.refl _ _).alloc (Nat.le_refl _) _).alloc (by simp) _
  have HBW := Box.mk hbw
  have HBA := Box.mk (show Blk w2 w.heap.size 28 #[.slice aa M.1.length ca, .slice fo M.2.length fc] by rw [hw2]; exact (Blk.new w _ _).alloc _)
  have HBB := Box.mk (show Blk w2 (w.heap.size + 1) 28 #[.slice ab N.1.length cb, .slice go N.2.length gc] by
    rw [hw2]
    have := Blk.new (w.alloc (.cells #[.slice aa M.1.length ca, .slice fo M.2.length fc] 28)) 28 #[.slice ab N.1.length cb, .slice go N.2.length gc]
    simpa using this)
  have HSE := Box.mk (sleq64 _ _ M.2 N.2 w2 (hia.below hbw) (hib.below hbw) (by have := hM.2.1; omega) (by have := hN.2.1; omega))
  have HEF := Box.mk (fun W (h : Below w.heap.size w W) => eqfunc_any _ _ M.1 N.1 W (hra.below h) (hrb.below h) hM.2.2 hN.2.2 hM.1)
  have c0 : w2.cell? ⟨w.heap.size, 0, none⟩ = some (.slice aa M.1.length ca) := (HBA.out.cell 0).trans rfl
  have c1 : w2.cell? ⟨w.heap.size, 1, none⟩ = some (.slice fo M.2.length fc) := (HBA.out.cell 1).trans rfl
  have c2 : w2.cell? ⟨w.heap.size + 1, 0, none⟩ = some (.slice ab N.1.length cb) := (HBB.out.cell 0).trans rfl
  have c3 : w2.cell? ⟨w.heap.size + 1, 1, none⟩ = some (.slice go N.2.length gc) := (HBB.out.cell 1).trans rfl
  have l0 := HBA.out.lt
  have l1 := HBB.out.lt
  clear hra hrb hia hib hM hN hbw hw2
  cases hd : decide (M.2 = N.2) with
  | false =>
    have HD := Box.mk hd
    have HF := Box.mk (show decide (M = N) = false by rw [decide_eq_false_iff_not] at hd ⊢; rintro rfl; exact hd rfl)
    clear hd
    go_enter Tryd.func19, Tryd.ntmps19
    go_upto_region 1 with (fail)
    rw [← HW2.out]
    go_wp2_with fail
    refine HSE.out.mono ?_; rintro e w3 ⟨rfl, hb3⟩; rw [HD.out]
    go_wp2_with fail
    go_ret
    exact ⟨ret_bool (by rw [HF.out]), HBW.out.trans (hb3.mono HBW.out.size)⟩
  | true =>
    have HD := Box.mk hd
    have HMN := Box.mk (show decide (M.1 = N.1) = decide (M = N) by
      rw [decide_eq_decide]
      exact ⟨fun h => mach_eq h (of_decide_eq_true hd), fun h => by rw [h]⟩)
    clear hd
    go_enter Tryd.func19, Tryd.ntmps19
    go_upto_region 1 with (fail)
    rw [← HW2.out]
    go_wp2_with fail
    refine HSE.out.mono ?_; rintro e w3 ⟨rfl, hb3⟩; rw [HD.out]
    have HB3 := Box.mk hb3
    have hba := HBA.out.below hb3 HBA.out.lt
    have hbb := HBB.out.below hb3 HBB.out.lt
    have d0 : w3.cell? ⟨w.heap.size, 0, none⟩ = some (.slice aa M.1.length ca) := (hba.cell 0).trans rfl
    have d2 : w3.cell? ⟨w.heap.size + 1, 0, none⟩ = some (.slice ab N.1.length cb) := (hbb.cell 0).trans rfl
    have e0 := hba.lt
    have e1 := hbb.lt
    clear c0 c1 c2 c3 l0 l1 hb3 hba hbb
    go_wp2_with fail
    refine (HEF.out _ (HBW.out.trans (HB3.out.mono HBW.out.size))).mono ?_; rintro e w4 ⟨rfl, hb4⟩; rw [HMN.out]
    go_wp2_with fail
    go_ret
    exact ⟨rfl, HBW.out.trans ((HB3.out.trans (hb4.mono HB3.out.size)).mono HBW.out.size)⟩
end Go.Proofs.YtjemdepcaaadiaaDoor
