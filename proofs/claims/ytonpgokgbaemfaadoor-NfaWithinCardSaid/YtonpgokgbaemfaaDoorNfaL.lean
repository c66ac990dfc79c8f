/-
  THE DOCUMENT's Fits OF LAYER 10; the lists that the laws compare.
-/
import Derived.Test.YtonpgokgbaemfaaDoorNfaK
namespace Go.Proofs.YtonpgokgbaemfaaDoor
open Go.RowKit

set_option maxHeartbeats 4000000 in
theorem rfits_any (st : Bool) (v : Value) (l : List N.Item) (cv : Value) (cs : List Int) (w : World) (hv : ItemsAt w v l) (hz : l.length ≤ 16777216) (hc : IntsAt w cv cs) (hcz : cs.length ≤ 1000) :
    Calls Tryd.prog 15 #[.agg #[.bool st, v], cv] w (fitsPost l st cs w) := by
  have hb0 := alloc_below w (.cells #[.bool st, v] 24)
  have HRUN := Box.mk (rrun_any st v l cv cs _ (hv.below hb0) hz (hc.below hb0) hcz)
  have HBK := Box.mk (Blk.new w 24 #[.bool st, v])
  have HB0 := Box.mk hb0
  have HV := Box.mk hv
  obtain ⟨ca, ccap, rfl⟩ := hc.slice
  obtain ⟨i0, hi, hz0, hz1, hz2⟩ := info_parts bool_info
  clear hc hb0 hv
  cases hr : rightB l with
  | true =>
    have HRT := Box.mk hr
    clear hr
    go_enter Tryd.func15, Tryd.ntmps15
    go_wp2_with fail
    refine HRUN.out.mono ?_; rintro e w1 ⟨hb1, hyes, -⟩
    obtain ⟨rv, rfl, hri⟩ := hyes HRT.out
    have hzl := setsOf_len l st cs
    obtain ⟨xs, hxs⟩ : ∃ xs, xs = setsOf l st cs := ⟨_, rfl⟩
    rw [← hxs] at hri hzl
    have HX := Box.mk hxs
    have HB1 := Box.mk (HB0.out.trans (hb1.mono HB0.out.size))
    have HBK1 := Box.mk (HBK.out.below hb1 HBK.out.lt)
    have HI := Box.mk hri
    have hxz : xs.length ≤ 1001 := by omega
    have HZL := Box.mk hzl
    obtain ⟨ra, rcap, rfl⟩ := hri.slice
    clear hb1 hyes hri hxs hzl
    go_wp2_with fail
    go_loopw [8, 9] (fun o i wr => ∃ k : Nat, k ≤ xs.length ∧ i = .int .i64 k ∧ Box (wr.ownsRow w1.heap.size 4 1 o k ((xs.take k).map fun x => Value.bool (doneV l x))) ∧ Box (Below w1.heap.size w1 wr))
      (fun _ i _ => xs.length - (intOf i).toNat)
    case atStart => exact ⟨0, by omega, rfl, ⟨World.ownsRow_nil _ _ _ _⟩, ⟨Below.refl _ _⟩⟩
    case round =>
      obtain ⟨k, hk, rfl, ho, hb⟩ := hrel
      have hbk := HBK1.out.below hb.out HBK1.out.lt
      have c0 : wr.cell? ⟨w.heap.size, 0, none⟩ = some (.bool st) := (hbk.cell 0).trans rfl
      have c1 : wr.cell? ⟨w.heap.size, 1, none⟩ = some v := (hbk.cell 1).trans rfl
      have l1 := hbk.lt
      have HBKr := Box.mk hbk
      clear hbk
      by_cases hlt : k < xs.length
      · obtain ⟨x, hx⟩ : ∃ x, xs[k]? = some x := ⟨_, List.getElem?_eq_getElem hlt⟩
        obtain ⟨g, off, cap2, hg1, hg2, hg3, hg4, hg5⟩ := (HI.out.below hb.out).get (by rintro rfl; simp at hlt)
        obtain ⟨rfl, rfl⟩ : ra = some ⟨g, off, none⟩ ∧ rcap = cap2 := by injection hg1 with h1 h2 h3; exact ⟨h1, h3⟩
        have hcx := hg5 k x hx
        have HSN := Box.mk (map_snoc (fun x => Value.bool (doneV l x)) xs k x hx)
        have hbw := HB1.out.trans (hb.out.mono HB1.out.size)
        have HD := Box.mk (fun W (h : Agree wr W) => rpdone_any st v l x W ((HV.out.below hbw).agree h) hz)
        unfold maxLen at hg3
        clear hx hg1 hg5 hbw
        obtain ⟨oa, oc, rfl⟩ := ownsRow_shape ho.out
        go_wp2_with fail
        go_region_law (first
          | (refine step_append_lies _ rfl _ _ 33 rfl w1.heap.size 4 i0 (.bool false) 1 1 Tryd.underlying33 hi hz0 hz1 hz2 rfl (by decide) _ _ _ rfl (HO3.out.alloc _) ⟨w3.heap.size, 0, none⟩ 1 1 [.bool (doneV l x)] rfl rfl (cell_one_new _ _ _) (by simp [Value.oneCell']) (by decide) (by unfold maxLen; omega) (by omega) (by have := HB3.out.size; simp; omega) _ rfl ?_; intro g' cap' w4 hown' hgrow hwhich hglt)
          | (go_simp; go_at_call 24; refine (HD.out _ ?_).mono ?_; exact ⟨Nat.le_refl _, fun _ _ => rfl⟩; rintro e w3 ⟨rfl, hb3⟩; have HB3' := Box.mk (show Below wr.heap.size wr w3 from ⟨hb3.os, hb3.tape, hb3.output, hb3.size, hb3.block⟩); have HO3 := Box.mk (own_below ho.out HB3'.out); have HB3 := Box.mk (show Below w1.heap.size w1 w3 from hb.out.trans (HB3'.out.mono hb.out.size)); clear hb3 HB3'))
        all_goals
          have HOW := Box.mk (show w4.ownsRow w1.heap.size 4 1 (.slice (some ⟨g', 0, none⟩) (k + 1) cap') (k + 1) ((xs.take (k + 1)).map fun x => Value.bool (doneV l x)) by rw [HSN.out]; exact hown')
          have HB4 := Box.mk (show Below w1.heap.size w1 w4 from (HB3.out.alloc HB3.out.size _).grown hgrow (by have := HB3.out.size; simp; omega) (fun q hq => (HO3.out.lt q hq).1))
          clear hown' hgrow
          go_wp2_with fail
          go_roundw
          case rel => exact ⟨k + 1, hlt, by go_num, HOW, HB4⟩
          case measure => simp [intOf]; omega
      · obtain rfl : k = xs.length := by omega
        obtain ⟨oa, oc, rfl⟩ := ownsRow_shape ho.out
        go_wp2_with fail
        go_ret2
        refine ⟨HB1.out.trans (hb.out.mono HB1.out.size), fun _ => ⟨_, rfl, ?_⟩, fun h => ?_⟩
        · refine BoolsAt.of_own (n := xs.length) (T := 4) (base := w1.heap.size) ?_ (by rw [HX.out]; simp [fitsOf])
          have := ho.out
          rw [List.take_length] at this
          unfold fitsOf
          rw [← HX.out, List.map_map]
          exact this
        · rw [HRT.out] at h; cases h
  | false =>
    have HRT := Box.mk hr
    clear hr
    go_enter Tryd.func15, Tryd.ntmps15
    go_wp2_with fail
    refine HRUN.out.mono ?_; rintro e w1 ⟨hb1, -, hno⟩
    obtain rfl := hno HRT.out
    have HB1 := Box.mk (HB0.out.trans (hb1.mono HB0.out.size))
    clear hb1 hno
    go_wp2_with fail
    go_rounds 1
    go_wp2_with fail
    go_ret2
    exact ⟨HB1.out, fun h => (by rw [HRT.out] at h; cases h), fun _ => rfl⟩
end Go.Proofs.YtonpgokgbaemfaaDoor
