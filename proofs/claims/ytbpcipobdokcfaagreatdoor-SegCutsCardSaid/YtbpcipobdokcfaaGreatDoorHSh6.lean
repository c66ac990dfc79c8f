/-
  THE DOCUMENT's ANSWERS OF LAYER 9, WALKED: whether a pattern fits from a place on.
-/
import Derived.Test.YtbpcipobdokcfaaGreatDoorHSh5
namespace Go.Proofs.YtbpcipobdokcfaaGreatDoor
open Go.RowKit Go.Shelf
attribute [local go_sem] Oper.semAt_some

theorem oneR_arr (n p : Nat) : (boolsA n fun _ => false).setIfInBounds p (.bool true) = ((N.oneR n p).map Value.bool).toArray := by
  rw [boolsA_set]
  unfold boolsA N.oneR
  rw [List.map_map]
  rfl

set_option maxRecDepth 100000 in
set_option maxHeartbeats 4000000 in
theorem rends_any (st : Bool) (v : Value) (l : List N.Item) (cv : Value) (cs : List Int) (p : Nat) (w : World) (hv : ItemsAt w v l) (hh : ∀ x ∈ l, x.2 = 0 ∨ x.2 = 1 ∨ x.2 = 2) (hz : l.length ≤ 16777216) (hc : IntsAt w cv cs) (hcz : cs.length ≤ 299) (hp : p ≤ cs.length) :
    Calls Tryz.prog 66 #[.agg #[.bool st, v], cv, .int .i64 p] w fun e w' => (∃ v', e = .returned v' ∧ BoolsAt w' v' (N.reachR cs l (N.oneR (cs.length + 1) p))) ∧ Below w.heap.size w w' := by
  obtain ⟨ao, cap, rfl⟩ := hv.slice
  obtain ⟨co, cc, rfl⟩ := hc.slice
  obtain ⟨V1, hV1⟩ : ∃ V1, V1 = w.alloc (.cells #[.bool st, .slice ao l.length cap] 42) := ⟨_, rfl⟩
  have s1 : V1.heap.size = w.heap.size + 1 := by rw [hV1]; simp
  have hS1 : Sep [Pc.blk w.heap.size 42 #[.bool st, .slice ao l.length cap], Pc.old w.heap.size w] V1 := by rw [hV1]; exact (Sep.start w).alloc_blk _ _
  have hm := make_bools' cs.length hcz V1
  obtain ⟨V2, hV2⟩ : ∃ V2, V2 = V1.alloc (.cells (boolsA (cs.length + 1) fun _ => false) 4) := ⟨_, rfl⟩
  have hS2 := hS1.alloc_blk 4 (boolsA (cs.length + 1) fun _ => false)
  rw [← hV2, s1] at hS2
  rw [← hV2, s1] at hm
  have hb := hS2.blk 0 rfl
  have x1 : V2.cell? ⟨w.heap.size + 1, p, none⟩ = some (.bool false) := (hb.cell p).trans (boolsA_get _ (by omega))
  have x2 := hb.frozen p
  have x3 := hb.lt
  have hk := hS2.blk 1 rfl
  have y1 : V2.cell? ⟨w.heap.size, 1, none⟩ = some (.slice ao l.length cap) := (hk.cell 1).trans rfl
  have y2 := hk.lt
  have hS3 := hS2.set 0 rfl p (.bool true)
  rw [oneR_arr] at hS3
  have HB3 := Box.mk (show Below w.heap.size w (V2.setCell ⟨w.heap.size + 1, p, none⟩ (.bool true)) from hS3.bel (by simp))
  have HO := Box.mk (show BoolsAt (V2.setCell ⟨w.heap.size + 1, p, none⟩ (.bool true)) (.slice (some ⟨w.heap.size + 1, 0, none⟩) (cs.length + 1) (cs.length + 1)) (N.oneR (cs.length + 1) p) by
    have h := bools_blk (hS3.blk 0 rfl) (by rw [N.oneR_len]; omega)
    rwa [N.oneR_len] at h)
  have y3 : (V2.setCell ⟨w.heap.size + 1, p, none⟩ (.bool true)).cell? ⟨w.heap.size, 1, none⟩ = some (.slice ao l.length cap) := ((hS3.blk 1 rfl).cell 1).trans rfl
  have y4 := (hS3.blk 1 rfl).lt
  obtain ⟨V3, hV3⟩ : ∃ V3, V3 = V2.setCell ⟨w.heap.size + 1, p, none⟩ (.bool true) := ⟨_, rfl⟩
  rw [← hV3] at HB3 HO y3 y4
  have HR := Box.mk (reach_any cs hcz l hh hz (.slice ao l.length cap) (.slice co cs.length cc) _ (N.oneR (cs.length + 1) p) V3 (hv.below HB3.out) (hc.below HB3.out) HO.out (N.oneR_len _ _))
  have HV1 := Box.mk hV1
  have HM := Box.mk hm
  have HV3 := Box.mk hV3
  clear hv hc hV1 hV2 hm hb hk hS1 hS2 hS3 s1 hV3
  go_enter Tryz.func66, Tryz.ntmps66
  go_upto_region 1 with (fail)
  rw [← HV1.out]
  have hm := HM.out
  go_upto_region 2 with (fail)
  clear hm
  go_wp2_with fail
  rw [← HV3.out]
  clear x1 x2 x3 y1 y2
  go_wp2_with fail
  refine HR.out.mono ?_; rintro e w4 ⟨⟨v', rfl, h4⟩, hb4⟩
  have H4 := Box.mk h4
  have HB4 := Box.mk (below_tr HB3.out hb4)
  clear h4 hb4
  go_wp2_with fail
  go_ret
  exact ⟨⟨_, rfl, H4.out⟩, HB4.out⟩

set_option maxRecDepth 100000 in
set_option maxHeartbeats 4000000 in
theorem rahead_any (st : Bool) (v : Value) (l : List N.Item) (cv : Value) (cs : List Int) (p : Int) (w : World) (hv : ItemsAt w v l) (hz : l.length ≤ 16777216) (hc : IntsAt w cv cs) (hcz : cs.length ≤ 299) :
    Calls Tryz.prog 42 #[.agg #[.bool st, v], cv, .int .i64 p] w fun e w' => e = .returned (.bool (aheadR st l cs p)) ∧ Below w.heap.size w w' := by
  obtain ⟨W, hW⟩ : ∃ W, W = w.alloc (.cells #[.bool st, v] 42) := ⟨_, rfl⟩
  have hbW : Below w.heap.size w W := by rw [hW]; exact alloc_below' _ _
  have hbk : Blk W w.heap.size 42 #[.bool st, v] := by rw [hW]; exact Blk.new _ _ _
  have HP := Box.mk (rpright_any st v l W (hv.below hbW) hz)
  have HV := Box.mk (hv.below hbW)
  have HC := Box.mk (hc.below hbW)
  have HBK := Box.mk hbk
  have HBW := Box.mk hbW
  obtain ⟨ao, cap, rfl⟩ := hc.slice
  have c0 : W.cell? ⟨w.heap.size, 0, none⟩ = some (.bool st) := (hbk.cell 0).trans rfl
  have c1 : W.cell? ⟨w.heap.size, 1, none⟩ = some v := (hbk.cell 1).trans rfl
  have HW := Box.mk hW
  clear hv hc hbk hbW hW
  go_enter Tryz.func42, Tryz.ntmps42
  go_upto_region 1 with (fail)
  rw [← HW.out]
  cases hr : rightB l with
  | false =>
    have HR := Box.mk (show aheadR st l cs p = false by unfold aheadR; rw [hr]; rfl)
    have HRR := Box.mk hr
    clear hr
    go_wp2_with fail
    refine HP.out.mono ?_; rintro e w1 ⟨rfl, hb1⟩; rw [HRR.out]
    have HB1 := Box.mk hb1
    clear hb1
    go_wp2_with fail
    go_ret
    exact ⟨ret_bool HR.out.symm, HBW.out.trans (HB1.out.mono HBW.out.size)⟩
  | true =>
    have HRR := Box.mk hr
    clear hr
    rcases Int.lt_or_le p 0 with h0 | h0
    · have HR := Box.mk (show aheadR st l cs p = false by unfold aheadR; rw [decide_eq_false (by omega : ¬ 0 ≤ p), Bool.and_false]; rfl)
      go_wp2_with fail
      refine HP.out.mono ?_; rintro e w1 ⟨rfl, hb1⟩; rw [HRR.out]
      have HB1 := Box.mk hb1
      clear hb1
      go_wp2_with fail
      go_ret
      exact ⟨ret_bool HR.out.symm, HBW.out.trans (HB1.out.mono HBW.out.size)⟩
    rcases Int.lt_or_le cs.length p with h1 | h1
    · have HR := Box.mk (show aheadR st l cs p = false by unfold aheadR; rw [decide_eq_false (by omega : ¬ p ≤ cs.length), Bool.and_false]; rfl)
      go_wp2_with fail
      refine HP.out.mono ?_; rintro e w1 ⟨rfl, hb1⟩; rw [HRR.out]
      have HB1 := Box.mk hb1
      clear hb1
      go_wp2_with fail
      go_ret
      exact ⟨ret_bool HR.out.symm, HBW.out.trans (HB1.out.mono HBW.out.size)⟩
    obtain ⟨q, rfl⟩ := Int.eq_ofNat_of_zero_le h0
    have hq : q ≤ cs.length := by omega
    go_wp2_with fail
    refine HP.out.mono ?_; rintro e w1 ⟨rfl, hb1⟩; rw [HRR.out]
    have hbk1 := HBK.out.below hb1 HBK.out.lt
    have d0 : w1.cell? ⟨w.heap.size, 0, none⟩ = some (.bool st) := (hbk1.cell 0).trans rfl
    have d1 : w1.cell? ⟨w.heap.size, 1, none⟩ = some v := (hbk1.cell 1).trans rfl
    have hl1 := hbk1.lt
    have HB1 := Box.mk (HBW.out.trans (hb1.mono HBW.out.size))
    have HV1 := Box.mk (HV.out.below hb1)
    have HC1 := Box.mk (HC.out.below hb1)
    clear hb1 hbk1 c0 c1
    by_cases hs : st = true ∧ 0 < q
    · obtain ⟨hs1, hs2⟩ := hs
      have HR := Box.mk (show aheadR st l cs (q : Int) = false by unfold aheadR; rw [hs1, decide_eq_true (by omega : (0 : Int) < (q : Int))]; simp)
      rw [hs1] at d0
      clear hs1
      go_wp2_with fail
      go_ret
      exact ⟨ret_bool HR.out.symm, HB1.out⟩
    · have HWAY := Box.mk (items_how HRR.out)
      have HROW := Box.mk (hows HRR.out)
      have hl10 := right_len HRR.out
      obtain ⟨X, hX⟩ : ∃ X, N.reachR cs l (N.oneR (cs.length + 1) q) = X := ⟨_, rfl⟩
      have HX := Box.mk hX
      have HXL := Box.mk (show X.length = cs.length + 1 by rw [← hX]; exact N.reachR_len (N.oneR_len _ _))
      have HLO := Box.mk (show ∀ i, i ≤ cs.length → X.getD i false = true → q ≤ i from fun i hi h => by
        rw [← hX] at h
        have hr := N.reachR_iff (l := l) (cs := cs) HROW.out hq l.length (Nat.le_refl _) i hi
        rw [List.take_length] at hr
        exact (hr.1 h).le)
      have HR := Box.mk (show aheadR st l cs (q : Int) = X.any id by
        unfold aheadR
        rw [HRR.out, decide_eq_true h0, decide_eq_true h1, Int.toNat_natCast, hX]
        rcases Bool.eq_false_or_eq_true st with e | e
        · have : q = 0 := by
            rcases Nat.eq_zero_or_pos q with h | h
            · exact h
            · exact absurd ⟨e, h⟩ hs
          subst this
          rw [e]
          simp
        · rw [e]; simp)
      have HEN := Box.mk (rends_any st v l (.slice ao cs.length cap) cs q w1 HV1.out HWAY.out hz HC1.out hcz hq)
      clear hX
      rcases Bool.eq_false_or_eq_true st with e | e
      · have hq0 : q = 0 := by
          rcases Nat.eq_zero_or_pos q with h | h
          · exact h
          · exact absurd ⟨e, h⟩ hs
        rw [e] at d0 HEN
        subst hq0
        clear e hs hq h0 h1
        go_wp2_with fail
        refine HEN.out.mono ?_; rintro e w3 ⟨⟨xv, rfl, hi⟩, hb3⟩
        rw [HX.out] at hi
        have HI := Box.mk hi
        have HB3 := Box.mk (HB1.out.trans (hb3.mono HB1.out.size))
        obtain ⟨xo, xc, rfl⟩ := hi.slice
        rw [HXL.out] at HI ⊢
        clear hi hb3 d0 d1 hl1
        go_wp2_with fail
        go_loopw [8] (fun i wr => ∃ k : Nat, 0 ≤ k ∧ k ≤ cs.length + 1 ∧ i = .int .i64 k ∧ Box (∀ j, 0 ≤ j → j < k → X.getD j false = false) ∧ Box (Below w3.heap.size w3 wr)) (fun i _ => cs.length + 1 - (intOf i).toNat)
        case atStart => exact ⟨0, Nat.le_refl _, by omega, rfl, ⟨fun j h1 h2 => by omega⟩, ⟨Below.refl _ _⟩⟩
        case round =>
          obtain ⟨k, hqk, hk, rfl, hno, hb⟩ := hrel
          by_cases hlt : k ≤ cs.length
          · obtain ⟨f, hf⟩ : ∃ f, X[k]? = some f := ⟨_, List.getElem?_eq_getElem (by rw [HXL.out]; omega)⟩
            obtain ⟨g, off, cap2, hg1, hg2, hg3, hg4, hg5⟩ := (HI.out.below hb.out).get (by intro e; have := HXL.out; rw [e] at this; simp at this)
            rw [HXL.out] at hg1 hg2
            obtain ⟨rfl, rfl⟩ : xo = some ⟨g, off, none⟩ ∧ xc = cap2 := by injection hg1 with h1 h2 h3; exact ⟨h1, h3⟩
            have hcf := hg5 k f hf
            have HFD := Box.mk (show X.getD k false = f by rw [List.getD_eq_getElem?_getD, hf]; rfl)
            have HMEM := Box.mk (show f = true → X.any id = true from fun h => List.any_eq_true.2 ⟨f, List.mem_of_getElem? hf, h⟩)
            have HSZ := Box.mk hb.out.size
            unfold maxLen at hg3
            clear hg1 hg4 hg5 hf
            cases f with
            | true =>
              have HT := Box.mk (HMEM.out rfl)
              go_wp2_with fail
              go_ret
              exact ⟨ret_bool (HR.out.trans HT.out).symm, HB3.out.trans (hb.out.mono HB3.out.size)⟩
            | false =>
              have HNO := Box.mk (show ∀ j, 0 ≤ j → j < k + 1 → X.getD j false = false from fun j h1 h2 => by
                rcases Nat.lt_or_ge j k with h | h
                · exact hno.out j h1 h
                · obtain rfl : j = k := by omega
                  exact HFD.out)
              go_wp2_with fail
              go_roundw
              case rel => exact ⟨k + 1, by omega, by omega, by go_num, HNO, hb⟩
              case measure => simp [intOf]; omega
          · have HF := Box.mk (show X.any id = false by
              rw [Bool.eq_false_iff]
              intro h
              obtain ⟨b, hb1, hb2⟩ := List.any_eq_true.1 h
              obtain ⟨i, hi1, hi2⟩ := List.getElem_of_mem hb1
              have hxl := HXL.out
              have hg : X.getD i false = true := by rw [List.getD_eq_getElem?_getD, List.getElem?_eq_getElem hi1, hi2]; exact hb2
              have := HLO.out i (by omega) hg
              rw [hno.out i this (by omega)] at hg
              exact absurd hg Bool.false_ne_true)
            go_wp2_with fail
            go_ret
            exact ⟨ret_bool (HR.out.trans HF.out).symm, HB3.out.trans (hb.out.mono HB3.out.size)⟩
      · rw [e] at d0 HEN
        clear e hs h0 h1
        go_wp2_with fail
        refine HEN.out.mono ?_; rintro e w3 ⟨⟨xv, rfl, hi⟩, hb3⟩
        rw [HX.out] at hi
        have HI := Box.mk hi
        have HB3 := Box.mk (HB1.out.trans (hb3.mono HB1.out.size))
        obtain ⟨xo, xc, rfl⟩ := hi.slice
        rw [HXL.out] at HI ⊢
        clear hi hb3 d0 d1 hl1
        go_wp2_with fail
        go_loopw [8] (fun i wr => ∃ k : Nat, q ≤ k ∧ k ≤ cs.length + 1 ∧ i = .int .i64 k ∧ Box (∀ j, q ≤ j → j < k → X.getD j false = false) ∧ Box (Below w3.heap.size w3 wr)) (fun i _ => cs.length + 1 - (intOf i).toNat)
        case atStart => exact ⟨q, Nat.le_refl _, by omega, rfl, ⟨fun j h1 h2 => by omega⟩, ⟨Below.refl _ _⟩⟩
        case round =>
          obtain ⟨k, hqk, hk, rfl, hno, hb⟩ := hrel
          by_cases hlt : k ≤ cs.length
          · obtain ⟨f, hf⟩ : ∃ f, X[k]? = some f := ⟨_, List.getElem?_eq_getElem (by rw [HXL.out]; omega)⟩
            obtain ⟨g, off, cap2, hg1, hg2, hg3, hg4, hg5⟩ := (HI.out.below hb.out).get (by intro e; have := HXL.out; rw [e] at this; simp at this)
            rw [HXL.out] at hg1 hg2
            obtain ⟨rfl, rfl⟩ : xo = some ⟨g, off, none⟩ ∧ xc = cap2 := by injection hg1 with h1 h2 h3; exact ⟨h1, h3⟩
            have hcf := hg5 k f hf
            have HFD := Box.mk (show X.getD k false = f by rw [List.getD_eq_getElem?_getD, hf]; rfl)
            have HMEM := Box.mk (show f = true → X.any id = true from fun h => List.any_eq_true.2 ⟨f, List.mem_of_getElem? hf, h⟩)
            have HSZ := Box.mk hb.out.size
            unfold maxLen at hg3
            clear hg1 hg4 hg5 hf
            cases f with
            | true =>
              have HT := Box.mk (HMEM.out rfl)
              go_wp2_with fail
              go_ret
              exact ⟨ret_bool (HR.out.trans HT.out).symm, HB3.out.trans (hb.out.mono HB3.out.size)⟩
            | false =>
              have HNO := Box.mk (show ∀ j, q ≤ j → j < k + 1 → X.getD j false = false from fun j h1 h2 => by
                rcases Nat.lt_or_ge j k with h | h
                · exact hno.out j h1 h
                · obtain rfl : j = k := by omega
                  exact HFD.out)
              go_wp2_with fail
              go_roundw
              case rel => exact ⟨k + 1, by omega, by omega, by go_num, HNO, hb⟩
              case measure => simp [intOf]; omega
          · have HF := Box.mk (show X.any id = false by
              rw [Bool.eq_false_iff]
              intro h
              obtain ⟨b, hb1, hb2⟩ := List.any_eq_true.1 h
              obtain ⟨i, hi1, hi2⟩ := List.getElem_of_mem hb1
              have hxl := HXL.out
              have hg : X.getD i false = true := by rw [List.getD_eq_getElem?_getD, List.getElem?_eq_getElem hi1, hi2]; exact hb2
              have := HLO.out i (by omega) hg
              rw [hno.out i this (by omega)] at hg
              exact absurd hg Bool.false_ne_true)
            go_wp2_with fail
            go_ret
            exact ⟨ret_bool (HR.out.trans HF.out).symm, HB3.out.trans (hb.out.mono HB3.out.size)⟩
end Go.Proofs.YtbpcipobdokcfaaGreatDoor
