/-
  THE DOCUMENT's ANSWERS OF LAYER 10: Most, First, Step, Done, Run, Fits.
-/
import Derived.Test.YtonpgokgbaemfaaDoorNfaJ
import Derived.Deep.AppendLies
import Derived.Deep.RegionLaw
namespace Go.Proofs.YtonpgokgbaemfaaDoor
open Go.RowKit

theorem most_pow (l : List N.Item) : (2 : Int) * ((2 ^ (2 * l.length) : Nat) : Int) - 1 = (N.most l : Int) := by
  unfold N.most
  have h : 2 ^ (2 * l.length + 1) = 2 * 2 ^ (2 * l.length) := by rw [Nat.pow_succ]; omega
  have : 0 < 2 ^ (2 * l.length) := Nat.two_pow_pos _
  rw [h]
  omega

set_option maxHeartbeats 1000000 in
theorem rmost_any (st : Bool) (v : Value) (l : List N.Item) (w : World) (hv : ItemsAt w v l) (hz : l.length ≤ 16777216) :
    Calls Tryd.prog 25 #[.agg #[.bool st, v]] w fun e w' => e = .returned (.int .i64 (mostV l)) ∧ Below w.heap.size w w' := by
  have hb0 := alloc_below w (.cells #[.bool st, v] 24)
  have HP := Box.mk (rpright_any st v l _ (hv.below hb0) hz)
  have HB0 := Box.mk hb0
  have HBK := Box.mk (Blk.new w 24 #[.bool st, v])
  unfold mostV
  obtain ⟨ao, cap, rfl⟩ := hv.slice
  clear hb0 hv
  cases hr : rightB l with
  | true =>
    have HRT := Box.mk hr
    have hl := right_len hr
    obtain ⟨q, hq⟩ : ∃ q, 2 ^ (2 * l.length) = q := ⟨_, rfl⟩
    have hq1 : q ≤ 1099511627776 := by rw [← hq]; exact Nat.pow_le_pow_right (n := 2) (by omega) (show 2 * l.length ≤ 40 by omega)
    have HQ := Box.mk hq
    have HM := Box.mk (most_pow l)
    clear hr hq
    go_enter Tryd.func25, Tryd.ntmps25
    go_wp2_with fail
    refine HP.out.mono ?_; rintro e w1 ⟨rfl, hb1⟩; rw [HRT.out]
    have HBK1 := HBK.out.below hb1 HBK.out.lt
    have c1 : w1.cell? ⟨w.heap.size, 1, none⟩ = some (.slice ao l.length cap) := (HBK1.cell 1).trans rfl
    have HB1 := Box.mk hb1
    clear hb1 HBK1
    go_wp2_with fail
    have HN := Box.mk (show (2 * (l.length : Int)) = ((2 * l.length : Nat) : Int) by omega)
    rw [HN.out]
    refine (bit_any (2 * l.length) _ (by omega)).mono ?_; rintro e w2 ⟨rfl, rfl⟩; rw [HQ.out]
    go_wp2_with fail
    go_ret
    exact ⟨ret_int (by rw [← HM.out, HQ.out]), HB0.out.trans (HB1.out.mono HB0.out.size)⟩
  | false =>
    have HRT := Box.mk hr
    clear hr
    go_enter Tryd.func25, Tryd.ntmps25
    go_wp2_with fail
    refine HP.out.mono ?_; rintro e w1 ⟨rfl, hb1⟩; rw [HRT.out]
    have HB1 := Box.mk hb1
    clear hb1
    go_wp2_with fail
    go_ret
    exact ⟨rfl, HB0.out.trans (HB1.out.mono HB0.out.size)⟩

set_option maxHeartbeats 1000000 in
theorem rfirst_any (st : Bool) (v : Value) (l : List N.Item) (w : World) (hv : ItemsAt w v l) (hz : l.length ≤ 16777216) :
    Calls Tryd.prog 22 #[.agg #[.bool st, v]] w fun e w' => e = .returned (firstV l) ∧ Below w.heap.size w w' := by
  have hb0 := alloc_below w (.cells #[.bool st, v] 24)
  have HP := Box.mk (rpright_any st v l _ (hv.below hb0) hz)
  have HB0 := Box.mk hb0
  have HV := Box.mk hv
  have HBK := Box.mk (Blk.new w 24 #[.bool st, v])
  unfold firstV
  cases hr : rightB l with
  | true =>
    have HRT := Box.mk hr
    have hl := right_len hr
    clear hr hb0 hv
    go_enter Tryd.func22, Tryd.ntmps22
    go_wp2_with fail
    refine HP.out.mono ?_; rintro e w1 ⟨rfl, hb1⟩; rw [HRT.out]
    have HBK1 := HBK.out.below hb1 HBK.out.lt
    have c0 : w1.cell? ⟨w.heap.size, 0, none⟩ = some (.bool st) := (HBK1.cell 0).trans rfl
    have c1 : w1.cell? ⟨w.heap.size, 1, none⟩ = some v := (HBK1.cell 1).trans rfl
    have HB1 := Box.mk (HB0.out.trans (hb1.mono HB0.out.size))
    have HA := Box.mk (radd_any st v l (by omega) _ 0 0 w1 (Nat.le_refl _) (by omega) (Nat.two_pow_pos _) (HV.out.below HB1.out))
    have HZ := Box.mk (Nat.zero_or (N.clo l 0))
    clear hb1 HBK1
    go_wp2_with fail
    refine HA.out.mono ?_; rintro e w2 ⟨rfl, hb2⟩; rw [HZ.out]
    have HB2 := Box.mk (HB1.out.trans (hb2.mono HB1.out.size))
    clear hb2
    go_wp2_with fail
    go_ret2
    exact ⟨rfl, HB2.out⟩
  | false =>
    have HRT := Box.mk hr
    clear hr hb0 hv
    go_enter Tryd.func22, Tryd.ntmps22
    go_wp2_with fail
    refine HP.out.mono ?_; rintro e w1 ⟨rfl, hb1⟩; rw [HRT.out]
    have HB1 := Box.mk (HB0.out.trans (hb1.mono HB0.out.size))
    clear hb1
    go_wp2_with fail
    go_ret2
    exact ⟨rfl, HB1.out⟩

/-- a set that may not be, by the document's three tests -/
theorem setOk_no {l : List N.Item} {x : Int} (hr : rightB l = true) (h : setOk l x = false) : x < 0 ∨ (0 ≤ x ∧ (N.most l : Int) < x) := by
  unfold setOk at h
  rw [hr] at h
  simp at h
  omega
theorem setOk_yes {l : List N.Item} {x : Int} (h : setOk l x = true) : rightB l = true ∧ 0 ≤ x ∧ x ≤ N.most l := by
  unfold setOk at h
  simp only [Bool.and_eq_true, decide_eq_true_eq] at h
  exact ⟨h.1.1, h.1.2, h.2⟩

set_option maxHeartbeats 2000000 in
theorem rpstep_any (st : Bool) (v : Value) (l : List N.Item) (x c : Int) (w : World) (hv : ItemsAt w v l) (hz : l.length ≤ 16777216) :
    Calls Tryd.prog 23 #[.agg #[.bool st, v], .int .i64 x, .int .i64 c] w fun e w' => e = .returned (stepV l st x c) ∧ Below w.heap.size w w' := by
  have hb0 := alloc_below w (.cells #[.bool st, v] 24)
  have HP := Box.mk (rpright_any st v l _ (hv.below hb0) hz)
  have HB0 := Box.mk hb0
  have HV := Box.mk hv
  have HBK := Box.mk (Blk.new w 24 #[.bool st, v])
  unfold stepV
  cases hr : rightB l with
  | false =>
    have HRT := Box.mk hr
    rw [show setOk l x = false by unfold setOk; rw [hr]; rfl]
    clear hr hb0 hv
    go_enter Tryd.func23, Tryd.ntmps23
    go_wp2_with fail
    refine HP.out.mono ?_; rintro e w1 ⟨rfl, hb1⟩; rw [HRT.out]
    have HB1 := Box.mk (HB0.out.trans (hb1.mono HB0.out.size))
    clear hb1
    go_wp2_with fail
    go_ret2
    exact ⟨rfl, HB1.out⟩
  | true =>
    have HRT := Box.mk hr
    have hl := right_len hr
    have hm := most_small l hl
    have HMV := Box.mk (show mostV l = (N.most l : Int) by unfold mostV; rw [hr]; rfl)
    cases hok : setOk l x with
    | true =>
      obtain ⟨-, h0, h1⟩ := setOk_yes hok
      obtain ⟨S, rfl⟩ := Int.eq_ofNat_of_zero_le h0
      have h1' : ¬ ((N.most l : Int) < (S : Int)) := by omega
      clear hr hb0 hv hok
      go_enter Tryd.func23, Tryd.ntmps23
      go_wp2_with fail
      refine HP.out.mono ?_; rintro e w1 ⟨rfl, hb1⟩; rw [HRT.out]
      have HBK1 := HBK.out.below hb1 HBK.out.lt
      have c0 : w1.cell? ⟨w.heap.size, 0, none⟩ = some (.bool st) := (HBK1.cell 0).trans rfl
      have c1 : w1.cell? ⟨w.heap.size, 1, none⟩ = some v := (HBK1.cell 1).trans rfl
      have HB1 := Box.mk (HB0.out.trans (hb1.mono HB0.out.size))
      have HBK1 := Box.mk HBK1
      clear hb1
      go_wp2_with fail
      refine (rmost_any st v l _ (HV.out.below HB1.out) hz).mono ?_; rintro e w2 ⟨rfl, hb2⟩; rw [HMV.out]
      have HBK2 := HBK1.out.below hb2 HBK1.out.lt
      have d0 : w2.cell? ⟨w.heap.size, 0, none⟩ = some (.bool st) := (HBK2.cell 0).trans rfl
      have d1 : w2.cell? ⟨w.heap.size, 1, none⟩ = some v := (HBK2.cell 1).trans rfl
      have HB2 := Box.mk (HB1.out.trans (hb2.mono HB1.out.size))
      clear hb2 HBK2 c0 c1
      go_wp2_with fail
      refine (rstep_any st v l HRT.out S (by omega) c _ (HV.out.below HB2.out)).mono ?_; rintro e w3 ⟨rfl, hb3⟩
      have HB3 := Box.mk (HB2.out.trans (hb3.mono HB2.out.size))
      clear hb3
      go_wp2_with fail
      go_ret2
      exact ⟨by simp, HB3.out⟩
    | false =>
      have h := setOk_no hr hok
      clear hr hb0 hv hok
      go_enter Tryd.func23, Tryd.ntmps23
      go_wp2_with fail
      refine HP.out.mono ?_; rintro e w1 ⟨rfl, hb1⟩; rw [HRT.out]
      have HBK1 := HBK.out.below hb1 HBK.out.lt
      have c0 : w1.cell? ⟨w.heap.size, 0, none⟩ = some (.bool st) := (HBK1.cell 0).trans rfl
      have c1 : w1.cell? ⟨w.heap.size, 1, none⟩ = some v := (HBK1.cell 1).trans rfl
      have HB1 := Box.mk (HB0.out.trans (hb1.mono HB0.out.size))
      clear hb1 HBK1
      rcases h with h | ⟨h, h'⟩
      · go_wp2_with fail
        go_ret2
        exact ⟨rfl, HB1.out⟩
      · go_wp2_with fail
        refine (rmost_any st v l _ (HV.out.below HB1.out) hz).mono ?_; rintro e w2 ⟨rfl, hb2⟩; rw [HMV.out]
        have HB2 := Box.mk (HB1.out.trans (hb2.mono HB1.out.size))
        clear hb2
        go_wp2_with fail
        go_ret2
        exact ⟨rfl, HB2.out⟩

set_option maxHeartbeats 2000000 in
theorem rpdone_any (st : Bool) (v : Value) (l : List N.Item) (x : Int) (w : World) (hv : ItemsAt w v l) (hz : l.length ≤ 16777216) :
    Calls Tryd.prog 24 #[.agg #[.bool st, v], .int .i64 x] w fun e w' => e = .returned (.bool (doneV l x)) ∧ Below w.heap.size w w' := by
  have hb0 := alloc_below w (.cells #[.bool st, v] 24)
  have HP := Box.mk (rpright_any st v l _ (hv.below hb0) hz)
  have HB0 := Box.mk hb0
  have HV := Box.mk hv
  have HBK := Box.mk (Blk.new w 24 #[.bool st, v])
  unfold doneV
  cases hr : rightB l with
  | false =>
    have HRT := Box.mk hr
    have HOK := Box.mk (show setOk l x = false by unfold setOk; rw [hr]; rfl)
    clear hr hb0 hv
    go_enter Tryd.func24, Tryd.ntmps24
    go_wp2_with fail
    refine HP.out.mono ?_; rintro e w1 ⟨rfl, hb1⟩; rw [HRT.out]
    have HB1 := Box.mk (HB0.out.trans (hb1.mono HB0.out.size))
    clear hb1
    go_wp2_with fail
    go_ret
    exact ⟨by rw [HOK.out]; rfl, HB1.out⟩
  | true =>
    have HRT := Box.mk hr
    have hl := right_len hr
    have hm := most_small l hl
    have HMV := Box.mk (show mostV l = (N.most l : Int) by unfold mostV; rw [hr]; rfl)
    cases hok : setOk l x with
    | true =>
      obtain ⟨-, h0, h1⟩ := setOk_yes hok
      obtain ⟨S, rfl⟩ := Int.eq_ofNat_of_zero_le h0
      obtain ⟨ao, cap, rfl⟩ := hv.slice
      have HN := Box.mk (show (2 * (l.length : Int)) = ((2 * l.length : Nat) : Int) by omega)
      clear hr hb0 hv hok
      go_enter Tryd.func24, Tryd.ntmps24
      go_wp2_with fail
      refine HP.out.mono ?_; rintro e w1 ⟨rfl, hb1⟩; rw [HRT.out]
      have HBK1 := HBK.out.below hb1 HBK.out.lt
      have c0 : w1.cell? ⟨w.heap.size, 0, none⟩ = some (.bool st) := (HBK1.cell 0).trans rfl
      have c1 : w1.cell? ⟨w.heap.size, 1, none⟩ = some (.slice ao l.length cap) := (HBK1.cell 1).trans rfl
      have HB1 := Box.mk (HB0.out.trans (hb1.mono HB0.out.size))
      have HBK1 := Box.mk HBK1
      clear hb1
      go_wp2_with fail
      refine (rmost_any st (.slice ao l.length cap) l _ (HV.out.below HB1.out) hz).mono ?_; rintro e w2 ⟨rfl, hb2⟩; rw [HMV.out]
      have HBK2 := HBK1.out.below hb2 HBK1.out.lt
      have d1 : w2.cell? ⟨w.heap.size, 1, none⟩ = some (.slice ao l.length cap) := (HBK2.cell 1).trans rfl
      have HB2 := Box.mk (HB1.out.trans (hb2.mono HB1.out.size))
      clear hb2 HBK2 c0 c1
      go_wp2_with fail
      rw [HN.out]
      refine (has_any S (2 * l.length) _ (by omega) (by omega)).mono ?_; rintro e w3 ⟨rfl, rfl⟩
      go_wp2_with fail
      go_ret
      exact ⟨by simp [N.doneB], HB2.out⟩
    | false =>
      have h := setOk_no hr hok
      clear hr hb0 hv hok
      go_enter Tryd.func24, Tryd.ntmps24
      go_wp2_with fail
      refine HP.out.mono ?_; rintro e w1 ⟨rfl, hb1⟩; rw [HRT.out]
      have HBK1 := HBK.out.below hb1 HBK.out.lt
      have c0 : w1.cell? ⟨w.heap.size, 0, none⟩ = some (.bool st) := (HBK1.cell 0).trans rfl
      have c1 : w1.cell? ⟨w.heap.size, 1, none⟩ = some v := (HBK1.cell 1).trans rfl
      have HB1 := Box.mk (HB0.out.trans (hb1.mono HB0.out.size))
      clear hb1 HBK1
      rcases h with h | ⟨h, h'⟩
      · go_wp2_with fail
        go_ret
        exact ⟨rfl, HB1.out⟩
      · go_wp2_with fail
        refine (rmost_any st v l _ (HV.out.below HB1.out) hz).mono ?_; rintro e w2 ⟨rfl, hb2⟩; rw [HMV.out]
        have HB2 := Box.mk (HB1.out.trans (hb2.mono HB1.out.size))
        clear hb2
        go_wp2_with fail
        go_ret
        exact ⟨rfl, HB2.out⟩

set_option maxHeartbeats 4000000 in
theorem rrun_any (st : Bool) (v : Value) (l : List N.Item) (cv : Value) (cs : List Int) (w : World) (hv : ItemsAt w v l) (hz : l.length ≤ 16777216) (hc : IntsAt w cv cs) (hcz : cs.length ≤ 1000) :
    Calls Tryd.prog 13 #[.agg #[.bool st, v], cv] w (runPost l st cs w) := by
  have hb0 := alloc_below w (.cells #[.bool st, v] 24)
  have HP := Box.mk (rfirst_any st v l _ (hv.below hb0) hz)
  have HB0 := Box.mk hb0
  have HV := Box.mk hv
  have HC := Box.mk hc
  have HBK := Box.mk (Blk.new w 24 #[.bool st, v])
  obtain ⟨ca, ccap, rfl⟩ := hc.slice
  clear hc hb0 hv
  cases hr : rightB l with
  | true =>
    have hl := right_len hr
    have HRT := Box.mk hr
    have HFV := Box.mk (show firstV l = .tuple #[.int .i64 (N.clo l 0), .int .i64 0] by unfold firstV; rw [hr]; rfl)
    obtain ⟨i0, hi, hz0, hz1, hz2⟩ := info_parts i64_info
    clear hr
    go_enter Tryd.func13, Tryd.ntmps13
    go_wp2_with fail
    refine HP.out.mono ?_; rintro e w2 ⟨rfl, hb2⟩; rw [HFV.out]
    have HB2 := Box.mk (HB0.out.trans (hb2.mono HB0.out.size))
    have HBK2 := Box.mk (HBK.out.below hb2 HBK.out.lt)
    clear hb2
    go_wp2_with fail
    go_loopw [6, 8, 9] (fun s o i wr => ∃ k : Nat, k ≤ cs.length ∧ i = .int .i64 k ∧ s = .int .i64 (N.at' l st (N.clo l 0) cs k) ∧ Box (wr.ownsRow w2.heap.size 2 1 o (k + 1) ((N.runs l st (N.clo l 0) cs k).map natV)) ∧ Box (Below w2.heap.size w2 wr))
      (fun _ _ i _ => cs.length - (intOf i).toNat)
    case atStart =>
      refine ⟨0, by omega, rfl, by rw [N.at_zero], ⟨?_⟩, ⟨alloc_below _ _⟩⟩
      rw [N.runs_zero]
      have := World.ownsRow_lit (base := w2.heap.size) (e := 2) (size := 1) w2 #[.int .i64 (N.clo l 0)] 1 (Nat.le_refl _) (by unfold maxLen; omega) rfl
      simpa [natV] using this
    case round =>
      obtain ⟨k, hk, rfl, rfl, ho, hb⟩ := hrel
      have hbk := HBK2.out.below hb.out HBK2.out.lt
      have c0 : wr.cell? ⟨w.heap.size, 0, none⟩ = some (.bool st) := (hbk.cell 0).trans rfl
      have c1 : wr.cell? ⟨w.heap.size, 1, none⟩ = some v := (hbk.cell 1).trans rfl
      clear hbk
      by_cases hlt : k < cs.length
      · obtain ⟨x, hx⟩ : ∃ x, cs[k]? = some x := ⟨_, List.getElem?_eq_getElem hlt⟩
        obtain ⟨g, off, cap2, hg1, hg2, hg3, hg4, hg5⟩ := (HC.out.below (HB2.out.trans (hb.out.mono HB2.out.size))).get (by rintro rfl; simp at hlt)
        obtain ⟨rfl, rfl⟩ : ca = some ⟨g, off, none⟩ ∧ ccap = cap2 := by injection hg1 with h1 h2 h3; exact ⟨h1, h3⟩
        have hcx := hg5 k x hx
        have HSU := Box.mk (N.at_succ l st (N.clo l 0) cs k x hx)
        have HSL := Box.mk (lt_62 l hl _ (N.at_lt l st (N.clo l 0) cs (N.clo_lt l 0 (by omega)) k hk))
        have HST := Box.mk (fun W (h : Agree wr W) => rstep_any st v l HRT.out _ HSL.out x W ((HV.out.below (HB2.out.trans (hb.out.mono HB2.out.size))).agree h))
        have HRS := Box.mk (N.runs_succ l st (N.clo l 0) cs k)
        unfold maxLen at hg3
        clear hx hg1 hg5
        obtain ⟨og, oc, rfl⟩ := ownsRow_succ ho.out
        go_wp2_with fail
        go_region_with ((go_at_call 30; refine (HST.out _ ?_).mono ?_; exact ⟨Nat.le_refl _, fun _ _ => rfl⟩; rintro e w3 ⟨rfl, hb3⟩; have HB3' := Box.mk (show Below wr.heap.size wr w3 from ⟨hb3.os, hb3.tape, hb3.output, hb3.size, hb3.block⟩); clear hb3))
        all_goals
          rw [← HSU.out]
          have HO3 := Box.mk (own_below ho.out HB3'.out)
          have HB3 := Box.mk (show Below w2.heap.size w2 w3 from hb.out.trans (HB3'.out.mono hb.out.size))
          clear HB3'
          go_wp2_with (at_builtin; refine wpList_append_own _ rfl _ _ 29 rfl w2.heap.size 2 i0 (.int .i64 0) 1 8 Tryd.underlying29 hi hz0 hz1 hz2 rfl (by decide) _ _ _ rfl (HO3.out.alloc _) ⟨w3.heap.size, 0, none⟩ 1 1 [.int .i64 (N.at' l st (N.clo l 0) cs (k + 1))] rfl rfl (cell_one_new _ _ _) (by simp [Value.oneCell']) (by unfold maxLen; omega) (by omega) (by have := HB3.out.size; simp; omega) ?_; intro v' w4 hown' hgrow _; obtain ⟨g', cap', rfl⟩ := ownsRow_succ hown')
          have HOW := Box.mk (show w4.ownsRow w2.heap.size 2 1 (.slice (some ⟨g', 0, none⟩) (k + 1 + 1) cap') (k + 1 + 1) ((N.runs l st (N.clo l 0) cs (k + 1)).map natV) by rw [HRS.out, List.map_append]; exact hown')
          have HB4 := Box.mk (show Below w2.heap.size w2 w4 from (HB3.out.alloc HB3.out.size _).grown hgrow (by have := HB3.out.size; simp; omega) (fun q hq => (HO3.out.lt q hq).1))
          clear hown' hgrow
          go_wp2_with fail
          go_roundw
          case rel => exact ⟨k + 1, hlt, by go_num, rfl, HOW, HB4⟩
          case measure => simp [intOf]; omega
      · obtain rfl : k = cs.length := by omega
        obtain ⟨og, oc, rfl⟩ := ownsRow_succ ho.out
        go_wp2_with fail
        go_ret2
        refine ⟨HB2.out.trans (hb.out.mono HB2.out.size), fun _ => ⟨_, rfl, ?_⟩, fun h => ?_⟩
        · refine IntsAt.of_own (n := cs.length + 1) (T := 2) (base := w2.heap.size) ?_ (by simp [setsOf, N.runs_len])
          unfold setsOf
          rw [List.map_map]
          exact ho.out
        · rw [HRT.out] at h; cases h
  | false =>
    have HRT := Box.mk hr
    have HFV := Box.mk (show firstV l = .tuple #[.int .i64 0, .int .i64 80] by unfold firstV; rw [hr]; rfl)
    clear hr
    go_enter Tryd.func13, Tryd.ntmps13
    go_wp2_with fail
    refine HP.out.mono ?_; rintro e w2 ⟨rfl, hb2⟩; rw [HFV.out]
    have HB2 := Box.mk (HB0.out.trans (hb2.mono HB0.out.size))
    clear hb2
    go_wp2_with fail
    go_ret2
    exact ⟨HB2.out, fun h => (by rw [HRT.out] at h; cases h), fun _ => rfl⟩
end Go.Proofs.YtonpgokgbaemfaaDoor
