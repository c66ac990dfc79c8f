/-
  WHICH MACHINES ARE RIGHT: the document's answer.
-/
import Derived.Test.YtbpcipobdokcfaaGreatDoorH7
namespace Go.Proofs.YtbpcipobdokcfaaGreatDoor
open Go.RowKit Go.Shelf
attribute [local go_sem] Oper.semAt_some

set_option maxRecDepth 100000 in
set_option maxHeartbeats 8000000 in
theorem rright12_any (v : Value) (M : D.Mach) (n : Int) (w : World) (hv : MachAt w v M) (hM : MachFit M) :
    Calls Tryz.prog 63 #[v, .int .i64 n] w fun e w' => e = .returned (.bool (machR n M)) ∧ Below w.heap.size w w' := by
  obtain ⟨na, fa, rfl, hra, hia⟩ := hv
  have HRA := Box.mk hra
  have HIA := Box.mk hia
  have HFM := Box.mk hM
  obtain ⟨aa, ca, rfl⟩ := hra.slice
  obtain ⟨fo, fc, rfl⟩ := hia.slice
  obtain ⟨w2, hw2⟩ : ∃ w2, w2 = w.alloc (.cells #[.slice aa M.1.length ca, .slice fo M.2.length fc] 26) := ⟨_, rfl⟩
  have HW2 := Box.mk hw2
  have hbw : Below w.heap.size w w2 := by rw [hw2]; exact alloc_below _ _
  have HBW := Box.mk hbw
  have HBA := Box.mk (show Blk w2 w.heap.size 26 #[.slice aa M.1.length ca, .slice fo M.2.length fc] by rw [hw2]; exact Blk.new w _ _)
  have c0 : w2.cell? ⟨w.heap.size, 0, none⟩ = some (.slice aa M.1.length ca) := (HBA.out.cell 0).trans rfl
  have c1 : w2.cell? ⟨w.heap.size, 1, none⟩ = some (.slice fo M.2.length fc) := (HBA.out.cell 1).trans rfl
  have l0 := HBA.out.lt
  clear hra hia hM hbw hw2
  by_cases hg : 1 ≤ n ∧ n ≤ 32 ∧ 1 ≤ M.1.length ∧ M.1.length ≤ 300 ∧ M.2.length = M.1.length
  · obtain ⟨g1, g2, g3, g4, g5⟩ := hg
    obtain ⟨nn, rfl⟩ := Int.eq_ofNat_of_zero_le (show 0 ≤ n by omega)
    have HMR := Box.mk (show machR nn M = (List.range M.1.length).all (rowR nn M) by
      unfold machR
      rw [decide_eq_true g1, decide_eq_true g2, decide_eq_true g3, decide_eq_true g4, decide_eq_true g5]; rfl)
    have HG5 := Box.mk g5
    rw [g5] at c1
    clear g5
    go_enter Tryz.func63, Tryz.ntmps63
    go_upto_region 1 with (fail)
    rw [← HW2.out]
    go_wp2_with fail
    clear c0 c1 l0
    go_loopw [5] (fun i wr => ∃ k : Nat, k ≤ M.1.length ∧ i = .int .i64 k ∧ Box ((List.range k).all (rowR nn M) = true) ∧ Box (Below w2.heap.size w2 wr)) (fun i _ => M.1.length - (intOf i).toNat)
    case atStart => exact ⟨0, by omega, rfl, ⟨rfl⟩, ⟨Below.refl _ _⟩⟩
    case round =>
      obtain ⟨k, hk, rfl, ha, hbr⟩ := hrel
      have hba := HBA.out.below hbr.out HBA.out.lt
      have HBR := Box.mk (HBW.out.trans (hbr.out.mono HBW.out.size))
      have c0 : wr.cell? ⟨w.heap.size, 0, none⟩ = some (.slice aa M.1.length ca) := (hba.cell 0).trans rfl
      have c1 : wr.cell? ⟨w.heap.size, 1, none⟩ = some (.slice fo M.1.length fc) := (hba.cell 1).trans (by rw [← HG5.out]; rfl)
      have l0 := hba.lt
      by_cases hlt : k < M.1.length
      · obtain ⟨x, hx⟩ : ∃ x, M.1[k]? = some x := ⟨_, List.getElem?_eq_getElem hlt⟩
        obtain ⟨y, hy⟩ : ∃ y, M.2[k]? = some y := ⟨_, List.getElem?_eq_getElem (by rw [HG5.out]; exact hlt)⟩
        obtain ⟨pa, oa, ca', ha0, ha1, ha2, ha3, ha4⟩ := (HRA.out.below HBR.out).get (by intro e; rw [e] at hlt; simp at hlt)
        obtain ⟨rfl, rfl⟩ : aa = some ⟨pa, oa, none⟩ ∧ ca = ca' := by injection ha0 with h1 h2 h3; exact ⟨h1, h3⟩
        obtain ⟨pb, ob, cb', hb0, hb1, hb2, hb3, hb4⟩ := (HIA.out.below HBR.out).get (by intro e; rw [e] at hy; simp at hy)
        obtain ⟨rfl, rfl⟩ : fo = some ⟨pb, ob, none⟩ ∧ fc = cb' := by injection hb0 with h1 h2 h3; exact ⟨h1, h3⟩
        obtain ⟨xv, hxc, hxi⟩ := ha4 k x hx
        have hyc := hb4 k y hy
        have HRX := Box.mk (show rowR nn M k = (decide ((x.length : Int) = (nn : Int) + 1) && x.all (toR M.1.length) && decide (0 ≤ y) && decide (y < 1099511627776)) by
          unfold rowR; rw [show M.1.getD k [] = x by rw [List.getD, hx]; rfl, show M.2.getD k 0 = y by rw [List.getD, hy]; rfl])
        have HXI := Box.mk hxi
        obtain ⟨xo, xc, rfl⟩ := hxi.slice
        have HLT := Box.mk hlt
        have HAB := Box.mk (show pa < wr.heap.size from ha3)
        have HXC := Box.mk hxc
        have HBL := Box.mk hba
        have hxz := HFM.out.2.2 x (List.mem_of_getElem? hx)
        rw [HG5.out] at hb1
        unfold maxLen at ha2 hb2
        have hkc : k < ca := by omega
        have hkd : k < fc := by omega
        clear ha0 ha4 hb0 hb4 hx hy hxi hba
        by_cases hl1 : (x.length : Int) = (nn : Int) + 1
        · have HL1 := Box.mk hl1
          have q1 : ((x.length : Int) == (nn : Int) + 1) = true := by rw [beq_iff_eq]; exact hl1
          have HNL := Box.mk (show x.length = nn + 1 by omega)
          clear hl1
          rcases Int.lt_or_le y 0 with hy0 | hy0
          · have HF := Box.mk (machR_no HLT.out (show rowR nn M k = false by rw [HRX.out, decide_eq_false (show ¬ 0 ≤ y by omega)]; simp))
            go_wp2_with fail
            all_goals first | (exact absurd HL1.out (by assumption)) | (exfalso; omega) | skip
            go_ret
            exact ⟨ret_bool (by rw [HF.out]), HBR.out⟩
          · rcases Int.lt_or_le y 1099511627776 with hy1 | hy1
            · have HRY := Box.mk (show rowR nn M k = x.all (toR M.1.length) by rw [HRX.out, decide_eq_true HL1.out, decide_eq_true hy0, decide_eq_true hy1]; simp)
              go_wp2_with fail
              all_goals first | (exact absurd HL1.out (by assumption)) | (exfalso; omega) | skip
              clear hxc hyc c0 c1 l0 hy0 hy1
              go_loopw [6] (fun c wi => ∃ j : Nat, j ≤ nn + 1 ∧ c = .int .i64 j ∧ Box ((x.take j).all (toR M.1.length) = true) ∧ Box (Below wr.heap.size wr wi)) (fun c _ => nn + 1 - (intOf c).toNat)
              case atStart => exact ⟨0, by omega, rfl, ⟨rfl⟩, ⟨Below.refl _ _⟩⟩
              case round =>
                obtain ⟨j, hj, rfl, haj, hbi⟩ := hrel
                have hbl := HBL.out.below hbi.out HBL.out.lt
                by_cases hjn : j < nn + 1
                · obtain ⟨t, ht⟩ : ∃ t, x[j]? = some t := ⟨_, List.getElem?_eq_getElem (by rw [HNL.out]; exact hjn)⟩
                  obtain ⟨rb, roff, rcap, r1, r2, r3, r4, r5⟩ := (HXI.out.below hbi.out).get (by intro e; rw [e] at ht; simp at ht)
                  obtain ⟨rfl, rfl⟩ : xo = some ⟨rb, roff, none⟩ ∧ xc = rcap := by injection r1 with h1 h2 h3; exact ⟨h1, h3⟩
                  have htc := r5 j t ht
                  have hxr := (hbi.out.cell (p := ⟨pa, oa + k, none⟩) HAB.out).trans HXC.out
                  have c0 := (hbl.cell 0).trans (show _ = some (Value.slice (some ⟨pa, oa, none⟩) M.1.length ca) from rfl)
                  have l0 := hbl.lt
                  have hjx : j < x.length := by rw [HNL.out]; exact hjn
                  have hjc : j < xc := by omega
                  have HT := Box.mk ht
                  have hDR := Box.mk (fun m => hbi.out.trans ((below_drewN0 wr m).mono hbi.out.size))
                  unfold maxLen at r3
                  clear r1 r5 ht hbl
                  cases htr : toR M.1.length t with
                  | true =>
                    have HTA := Box.mk (show (x.take (j + 1)).all (toR M.1.length) = true by rw [List.take_add_one, HT.out, List.all_append, haj.out]; simp [htr])
                    have ht0 : 0 ≤ t ∧ t < M.1.length := by unfold toR at htr; simpa using htr
                    obtain ⟨ht0, ht1⟩ := ht0
                    have d0 : decide (t < 0) = false := decide_eq_false (by omega)
                    have d1 : decide ((M.1.length : Int) ≤ t) = false := decide_eq_false (by omega)
                    clear htr
                    go_wp2_with fail
                    go_quiet (fail)
                    go_wp2_with fail
                    go_roundw
                    case rel => exact ⟨j + 1, hjn, by go_num, HTA, ⟨hDR.out _⟩⟩
                    case measure => simp [intOf]; omega
                  | false =>
                    have HXF := Box.mk (machR_no HLT.out (show rowR nn M k = false by
                      rw [HRY.out, Bool.eq_false_iff]
                      intro h
                      rw [List.all_eq_true] at h
                      rw [h t (List.mem_of_getElem? HT.out)] at htr
                      cases htr))
                    have HTR := Box.mk (show ¬ (0 ≤ t ∧ t < M.1.length) by unfold toR at htr; simpa using htr)
                    clear htr
                    rcases Int.lt_or_le t 0 with ht0 | ht0
                    · have d0 : decide (t < 0) = true := decide_eq_true ht0
                      go_wp2_with fail
                      go_quiet (fail)
                      go_wp2_with fail
                      go_ret
                      exact ⟨ret_bool (by rw [HXF.out]), HBR.out.trans ((hDR.out _).mono HBR.out.size)⟩
                    · have d0 : decide (t < 0) = false := decide_eq_false (by omega)
                      have ht1 : (M.1.length : Int) ≤ t := by have := HTR.out; omega
                      have d1 : decide ((M.1.length : Int) ≤ t) = true := decide_eq_true ht1
                      go_wp2_with fail
                      go_quiet (fail)
                      go_wp2_with fail
                      go_ret
                      exact ⟨ret_bool (by rw [HXF.out]), HBR.out.trans ((hDR.out _).mono HBR.out.size)⟩
                · have HTX := Box.mk (show (List.range (k + 1)).all (rowR nn M) = true by
                    have h := haj.out
                    rw [List.take_of_length_le (by rw [HNL.out]; omega)] at h
                    rw [List.range_succ, List.all_append, ha.out]
                    simp only [List.all_cons, List.all_nil, Bool.and_true, Bool.true_and]
                    rw [HRY.out, h])
                  have HBX := Box.mk (hbr.out.trans (hbi.out.mono hbr.out.size))
                  go_wp2_with fail
                  go_roundw
                  case rel => exact ⟨k + 1, HLT.out, by go_num, HTX, HBX⟩
                  case measure => simp [intOf]; omega
            · have HF := Box.mk (machR_no HLT.out (show rowR nn M k = false by rw [HRX.out, decide_eq_false (show ¬ y < 1099511627776 by omega)]; simp))
              go_wp2_with fail
              all_goals first | (exact absurd HL1.out (by assumption)) | (exfalso; omega) | skip
              go_ret
              exact ⟨ret_bool (by rw [HF.out]), HBR.out⟩
        · have HF := Box.mk (machR_no HLT.out (show rowR nn M k = false by rw [HRX.out, decide_eq_false hl1]; rfl))
          have q1 : ((x.length : Int) == (nn : Int) + 1) = false := beq_eq_false_iff_ne.2 hl1
          have HNE := Box.mk hl1
          clear hl1
          go_wp2_with fail
          all_goals first | (exact absurd (by assumption) HNE.out) | skip
          go_ret
          exact ⟨ret_bool (by rw [HF.out]), HBR.out⟩
      · have HT := Box.mk (show machR nn M = true by rw [HMR.out, show M.1.length = k by omega]; exact ha.out)
        go_wp2_with fail
        go_ret
        exact ⟨ret_bool (by rw [HT.out]), HBR.out⟩
  · have HF := Box.mk (show machR n M = false by
      unfold machR
      rw [Bool.eq_false_iff]
      intro h
      simp only [Bool.and_eq_true, decide_eq_true_eq] at h
      exact hg ⟨h.1.1.1.1.1, h.1.1.1.1.2, h.1.1.1.2, h.1.1.2, h.1.2⟩)
    have hg' : n < 1 ∨ (1 ≤ n ∧ 32 < n) ∨ (1 ≤ n ∧ n ≤ 32 ∧ M.1.length < 1) ∨ (1 ≤ n ∧ n ≤ 32 ∧ 1 ≤ M.1.length ∧ 300 < M.1.length) ∨ (1 ≤ n ∧ n ≤ 32 ∧ 1 ≤ M.1.length ∧ M.1.length ≤ 300 ∧ ((M.2.length : Int) != (M.1.length : Int)) = true) := by
      simp only [bne_iff_ne, ne_eq]
      omega
    clear hg
    rcases hg' with g1 | ⟨g1, g2⟩ | ⟨g1, g2, g3⟩ | ⟨g1, g2, g3, g4⟩ | ⟨g1, g2, g3, g4, g5⟩
    all_goals
      go_enter Tryz.func63, Tryz.ntmps63
      go_upto_region 1 with (fail)
      rw [← HW2.out]
      go_wp2_with fail
      all_goals first | (exfalso; omega) | (exfalso; simp_all; done) | skip
      go_ret
      exact ⟨ret_bool (by rw [HF.out]), HBW.out⟩
end Go.Proofs.YtbpcipobdokcfaaGreatDoor
