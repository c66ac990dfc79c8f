/-
  THE LAWS OF LAYER 10, WALKED: the states behind some numbers are the steps from those behind fewer.
-/
import Derived.Test.YtonpgokgbaemfaaDoorNfaQ
import Derived.Test.YtonpgokgbaemfaaDoorNfaO
namespace Go.Proofs.YtonpgokgbaemfaaDoor
open Go.RowKit

theorem IntsAt.take {w : World} {ao : Option Addr} {cap : Nat} {xs : List Int} (h : IntsAt w (.slice ao xs.length cap) xs) (n : Nat) : IntsAt w (.slice ao (xs.take n).length cap) (xs.take n) := by
  rcases h with ⟨h1, rfl⟩ | ⟨b, off, sp, cap, h1, h2, h3, h4⟩
  · injection h1 with h1 h2 h3
    subst h1 h3
    simp [IntsAt]
  · injection h1 with h1 h2' h3'
    subst h1 h3'
    refine .inr ⟨b, off, sp, _, rfl, by rw [List.length_take]; omega, h3, fun hn => ?_⟩
    have hn' : xs ≠ [] := by rintro rfl; simp at hn
    refine ⟨(h4 hn').1, (h4 hn').2.1, fun i x hx => (h4 hn').2.2 i x ?_⟩
    rw [List.getElem?_take] at hx
    split at hx
    · exact hx
    · cases hx
theorem IntsAt.cap_le {w : World} {ao : Option Addr} {cap n : Nat} {xs : List Int} (h : IntsAt w (.slice ao n cap) xs) : xs.length ≤ cap ∧ cap ≤ 9223372036854775807 := by
  rcases h with ⟨h1, rfl⟩ | ⟨b, off, sp, cap, h1, h2, h3, h4⟩
  · injection h1 with h1 h2 h3; subst h3; simp
  · injection h1 with h1 h2' h3'; subst h3'; unfold maxLen at h3; omega
theorem setsOf_take (l : List N.Item) (st : Bool) (cs : List Int) (n : Nat) (h : n ≤ cs.length) : (setsOf l st cs).take (n + 1) = setsOf l st (cs.take n) := by
  unfold setsOf
  rw [← List.map_take, N.runs_take _ _ _ _ _ _ h, List.length_take, Nat.min_eq_left h]
theorem setsOf_at (l : List N.Item) (st : Bool) (cs : List Int) (i : Nat) (h : i ≤ cs.length) : (setsOf l st cs)[i]? = some (N.at' l st (N.clo l 0) cs i : Int) := by
  unfold setsOf
  rw [List.getElem?_map, N.runs_get _ _ _ _ _ _ h]
  rfl

set_option maxHeartbeats 2000000 in
theorem law_NfaParts (A : Nat → Addr) (B : Nat) (st : Bool) (v : Value) (l : List N.Item) (cv : Value) (cs : List Int) (n : Int) (w : World) (hv : ItemsAt w v l) (hcv : IntsAt w cv cs) (hE : E A B w) (hB : B ≤ w.heap.size) :
    Calls Tryd.prog 5 #[.agg #[.bool st, v], cv, .int .i64 n] w fun e w' => e = .returned (.bool true) ∧ Below w.heap.size w w' := by
  have HCV := Box.mk hcv
  obtain ⟨ca0, cc0, rfl⟩ := hcv.slice
  clear hcv
  have hb0 := alloc_below w (.cells #[.bool st, v] 24)
  have HSH := Box.mk (shown_any A B _ (hE.below (hb0.mono hB)) (Nat.le_trans hB hb0.size))
  have HBK := Box.mk (Blk.new w 24 #[.bool st, v])
  have HB0 := Box.mk hb0
  have HE := Box.mk hE
  have HV := Box.mk hv
  clear hb0 hE hv
  go_enter Tryd.func5, Tryd.ntmps5
  go_wp2_with fail
  refine HSH.out.mono ?_; rintro e w1 ⟨rfl, hb1⟩
  have hbk1 := HBK.out.below hb1 HBK.out.lt
  have HBK1 := Box.mk hbk1
  have HB1 := Box.mk (HB0.out.trans (hb1.mono HB0.out.size))
  have c0 : w1.cell? ⟨w.heap.size, 0, none⟩ = some (.bool st) := (hbk1.cell 0).trans rfl
  have c1 : w1.cell? ⟨w.heap.size, 1, none⟩ = some v := (hbk1.cell 1).trans rfl
  have HCUT := Box.mk (cut_any st v l w1 (HV.out.below HB1.out))
  clear hb1 hbk1
  go_wp2_with fail
  refine HCUT.out.mono ?_; rintro e w2 ⟨⟨v', rfl, hvs⟩, hb2⟩
  obtain ⟨l', hl'⟩ : ∃ l', l' = l.take 12 := ⟨_, rfl⟩
  have hlz : l'.length ≤ 16777216 := by rw [hl', List.length_take]; omega
  have hv' : ItemsAt w v' l' := by rw [hl']; exact hvs w HV.out
  have hbk2 := HBK1.out.below hb2 HBK1.out.lt
  have d0 : w2.cell? ⟨w.heap.size, 0, none⟩ = some (.bool st) := (hbk2.cell 0).trans rfl
  have d1 : w2.cell? ⟨w.heap.size, 1, none⟩ = some v := (hbk2.cell 1).trans rfl
  have g0 := hbk2.frozen 0
  have g1 := hbk2.frozen 1
  have HBK2 := Box.mk hbk2
  have HB2 := Box.mk (HB1.out.trans (hb2.mono HB1.out.size))
  have HV' := Box.mk hv'
  obtain ⟨ao, cap, rfl⟩ := hv'.slice
  clear hb2 hbk2 hv' hvs hl' c0 c1
  go_wp2_with fail
  have hb3 := (HB2.out.setCell (p := ⟨w.heap.size, 0, none⟩) (Nat.le_refl _) (.bool st)).setCell (p := ⟨w.heap.size, 1, none⟩) (Nat.le_refl _) (.slice ao l'.length cap)
  have hbk3 := (HBK2.out.set_ 0 (.bool st)).set_ 1 (.slice ao l'.length cap)
  generalize (w2.setCell ⟨w.heap.size, 0, none⟩ (.bool st)).setCell ⟨w.heap.size, 1, none⟩ (.slice ao l'.length cap) = W0 at hb3 hbk3 ⊢
  have HS0 := Box.mk (show St A B W0 W0 from St.start (HE.out.below (hb3.mono hB)) (Nat.le_trans hB hb3.size))
  have HV0 := Box.mk (HV'.out.below hb3)
  have HB3 := Box.mk hb3
  have HC := Box.mk (show ∀ W, St A B W0 W → W.cell? ⟨w.heap.size, 0, none⟩ = some (.bool st) ∧ W.cell? ⟨w.heap.size, 1, none⟩ = some (.slice ao l'.length cap) from fun W h => ⟨((hbk3.below h.b hbk3.lt).cell 0).trans rfl, ((hbk3.below h.b hbk3.lt).cell 1).trans rfl⟩)
  have HFIN := Box.mk (show ∀ W, St A B W0 W → Below w.heap.size w W from fun W h => hb3.trans (h.b.mono hb3.size))
  have HLT := Box.mk (show w.heap.size < W0.heap.size from hbk3.lt)
  clear hb3 hbk3 d0 d1 g0 g1
  have HCV0 := Box.mk (HCV.out.below (HFIN.out _ HS0.out))
  go_wp2_with fail
  refine (few_any _ cs _ HCV0.out).mono ?_; rintro e w3 ⟨⟨cv', rfl, hcv'⟩, rfl⟩
  obtain ⟨cs', hcs⟩ : ∃ cs', cs' = cs.take 40 := ⟨_, rfl⟩
  have hcz : cs'.length ≤ 1000 := by rw [hcs, List.length_take]; omega
  rw [← hcs] at hcv'
  have HCV' := Box.mk hcv'
  obtain ⟨ca, ccap, rfl⟩ := hcv'.slice
  obtain ⟨hcc, hcc2⟩ := hcv'.cap_le
  clear hcv' hcs
  obtain ⟨e0, e1⟩ := HC.out _ HS0.out
  go_upto_region 4 with (fail)
  go_cut [2] from 21 to 25 (fun s wx => (∃ k : Nat, k ≤ cs'.length ∧ s = .int .i64 k) ∧ wx = W0)
  case first =>
    go_wp2
    all_goals
      go_meet
      refine ⟨?_, rfl⟩
      first
        | exact ⟨0, by omega, rfl⟩
        | exact ⟨cs'.length, by omega, rfl⟩
        | exact ⟨n.toNat, by omega, vint (by omega)⟩
        | exact ⟨(min (max n 0) cs'.length).toNat, by omega, vint (by omega)⟩
  case rest =>
    obtain ⟨⟨k, hk, rfl⟩, rfl⟩ := hcut
    go_wp2_with fail
    refine (run_any A B st _ l' _ cs' _ HV0.out hlz HCV'.out hcz HS0.out.e HS0.out.le).mono ?_
    intro e w3 hp
    obtain ⟨hb4, v1, rfl, hi1⟩ := hp.all
    have HS1 := Box.mk (HS0.out.step hb4)
    have HI1 := Box.mk hi1
    clear hp hb4 hi1 e0 e1
    have HKL := Box.mk (show (cs'.take k).length = k by rw [List.length_take]; omega)
    have HRUN := Box.mk (show ∀ W, St A B wc W → Calls Tryd.prog 12 #[.agg #[.bool st, .slice ao l'.length cap], .slice ca k ccap] W (runPost l' st (cs'.take k) W) from fun W h => by
      have hi := (HCV'.out.below h.b).take k
      rw [HKL.out] at hi
      exact run_any A B st _ l' _ (cs'.take k) W (HV0.out.below h.b) hlz hi (by rw [HKL.out]; omega) h.e h.le)
    obtain ⟨e0, e1⟩ := HC.out _ HS1.out
    go_upto_region 6 with (fail)
    go_cut [10, 11] from 32 to 39 (fun s6 s7 wx => s7 = .int .i64 (codeOf l') ∧ Box (IntsAt wx s6 (setsR l' st (cs'.take k))) ∧ Box (St A B w3 wx))
    case first =>
      go_region_with ((go_at_call 12; refine (HRUN.out _ ?_).mono ?_; exact HS1.out.step (drew_below _ 1); intro e w4 hp; obtain ⟨hb5, v2, rfl, hi2⟩ := hp.all; have HI2 := Box.mk hi2; have HB5 := Box.mk (show Below w3.heap.size w3 w4 from ⟨hb5.os, hb5.tape, hb5.output, hb5.size, hb5.block⟩); clear hp hi2 hb5))
      all_goals
        go_wp2_with fail
        go_meet
        exact ⟨rfl, HI2, ⟨(show St A B w3 w3 from St.start HS1.out.e HS1.out.le).step HB5.out⟩⟩
    case rest =>
      obtain ⟨rfl, hi2, hs2⟩ := hcut
      have HS2 := Box.mk (HS1.out.trans hs2.out)
      have hi1 := HI1.out.below hs2.out.b
      have hi2 := hi2.out
      clear e0 e1
      cases hr : rightB l' with
      | false =>
        have HN := Box.mk (show codeOf l' = 80 by unfold codeOf; rw [hr]; rfl)
        rw [HN.out]
        clear hr hi1 hi2
        go_wp2_with fail
        go_ret
        exact ⟨rfl, HFIN.out _ HS2.out⟩
      | true =>
        have HRT := Box.mk hr
        have hl10 := right_len hr
        have HN := Box.mk (show codeOf l' = 0 by unfold codeOf; rw [hr]; rfl)
        rw [show setsR l' st cs' = setsOf l' st cs' by unfold setsR; rw [hr]; rfl] at hi1
        rw [show setsR l' st (cs'.take k) = setsOf l' st (cs'.take k) by unfold setsR; rw [hr]; rfl] at hi2
        have hl1 := setsOf_len l' st cs'
        have hl2 := setsOf_len l' st (cs'.take k)
        rw [HKL.out] at hl2
        have HT := Box.mk (setsOf_take l' st cs' k hk)
        have HG1 := Box.mk (fun i hi => setsOf_at l' st cs' i hi)
        have HG2 := Box.mk (show (setsOf l' st (cs'.take k))[k]? = some (N.at' l' st (N.clo l' 0) cs' k : Int) by
          rw [setsOf_at _ _ _ _ (by rw [HKL.out]; exact Nat.le_refl _), N.at_take _ _ _ _ _ _ (Nat.le_refl _)])
        obtain ⟨xs, hxs⟩ : ∃ xs, xs = setsOf l' st cs' := ⟨_, rfl⟩
        obtain ⟨ys, hys⟩ : ∃ ys, ys = setsOf l' st (cs'.take k) := ⟨_, rfl⟩
        rw [← hxs] at hi1 hl1 HT HG1
        rw [← hys] at hi2 hl2 HT HG2
        have HX := Box.mk hi1
        have HY := Box.mk hi2
        have HYL := Box.mk hl2
        have HXL := Box.mk hl1
        obtain ⟨a1, c1, hv1⟩ := hi1.slice
        rw [hl1] at hv1
        obtain rfl := hv1
        obtain ⟨hc1, hc1'⟩ := hi1.cap_le
        rw [hl1] at hc1
        obtain ⟨g2, off2, cap2, kg1, kg2, kg3, kg4, kg5⟩ := hi2.get (by rintro rfl; simp at hl2)
        rw [hl2] at kg1
        obtain rfl := kg1
        have hck := kg5 k _ HG2.out
        have HSC := Box.mk (show St A B wc wc from St.start HS2.out.e HS2.out.le)
        rw [HN.out]
        unfold maxLen at kg3
        clear hi1 hi2 hxs hys hl1 hl2 hr kg5
        go_wp2_with fail
        go_loopw [12, 13] (fun s i wr => ∃ j : Nat, k ≤ j ∧ j ≤ cs'.length ∧ i = .int .i64 j ∧ s = .int .i64 (N.at' l' st (N.clo l' 0) cs' j) ∧ Box (St A B wc wr)) (fun _ i _ => cs'.length - (intOf i).toNat)
        case atStart => exact ⟨k, Nat.le_refl _, hk, rfl, rfl, HSC⟩
        case round =>
          obtain ⟨j, hkj, hj, rfl, rfl, hsr⟩ := hrel
          have HS3 := Box.mk (HS2.out.trans hsr.out)
          by_cases hlt : j < cs'.length
          · obtain ⟨x, hx⟩ : ∃ x, cs'[j]? = some x := ⟨_, List.getElem?_eq_getElem hlt⟩
            have HAT := Box.mk (N.at_succ l' st (N.clo l' 0) cs' j x hx)
            obtain ⟨g, off, cap3, hg1, hg2, hg3, hg4, hg5⟩ := (HCV'.out.below HS3.out.b).get (by rintro rfl; simp at hlt)
            obtain ⟨rfl, rfl⟩ : ca = some ⟨g, off, none⟩ ∧ ccap = cap3 := by injection hg1 with h1 h2 h3; exact ⟨h1, h3⟩
            have hcx := hg5 j x hx
            unfold maxLen at hg3
            have HSV := Box.mk (show stepV l' st (N.at' l' st (N.clo l' 0) cs' j : Int) x = .tuple #[.int .i64 (N.at' l' st (N.clo l' 0) cs' (j + 1)), .int .i64 0] by
              rw [stepV_yes (setOk_of_lt HRT.out (N.at_lt l' st (N.clo l' 0) cs' (N.clo_lt l' 0 (by omega)) j hj)), Int.toNat_natCast, HAT.out])
            have HST := Box.mk (show ∀ W, St A B wr W → Calls Tryd.prog 18 #[.agg #[.bool st, .slice ao l'.length cap], .int .i64 (N.at' l' st (N.clo l' 0) cs' j), .int .i64 x] W fun e w' => e = .returned (.tuple #[.int .i64 (N.at' l' st (N.clo l' 0) cs' (j + 1)), .int .i64 0]) ∧ Below W.heap.size W w' from fun W h => by
              rw [← HSV.out]; exact pstep_any A B st _ l' _ x W (HV0.out.below (HS3.out.trans h).b) hlz h.e h.le)
            have hxg := HX.out.get (by rintro rfl; have := HXL.out; simp at this)
            obtain ⟨gx, offx, capx, xg1, xg2, xg3, xg4, xg5⟩ := hxg
            rw [HXL.out] at xg1
            obtain ⟨rfl, rfl⟩ : a1 = some ⟨gx, offx, none⟩ ∧ c1 = capx := by injection xg1 with h1 h2 h3; exact ⟨h1, h3⟩
            have HCX := Box.mk (xg5 (j + 1) _ (HG1.out (j + 1) (by omega)))
            obtain ⟨e0, e1⟩ := HC.out _ HS3.out
            have hsr0 := Box.mk (show St A B wr wr from St.start HS3.out.e HS3.out.le)
            clear hx hg1 hg5 xg1 xg5
            go_wp2_with fail
            go_region_with ((go_at_call 18; refine (HST.out _ ?_).mono ?_; exact hsr0.out.step (drew_below _ 1); rintro e w5 ⟨rfl, hb5⟩; have HB5 := Box.mk (show Below wr.heap.size wr w5 from ⟨hb5.os, hb5.tape, hb5.output, hb5.size, hb5.block⟩); clear hb5))
            all_goals
              have HS5 := Box.mk (hsr.out.step HB5.out)
              have hcx5 : w5.cell? ⟨gx, offx + (j + 1), none⟩ = some (.int .i64 (N.at' l' st (N.clo l' 0) cs' (j + 1))) := (HS5.out.b.cell (p := ⟨gx, offx + (j + 1), none⟩) xg4).trans HCX.out
              clear e0 e1 hcx
              go_wp2_with fail
              go_roundw
              case rel => exact ⟨j + 1, by omega, hlt, by go_num, rfl, HS5⟩
              case measure => simp [intOf]; omega
          · obtain rfl : j = cs'.length := by omega
            have HT1 := Box.mk (show IntsAt wr (.slice a1 (k + 1) c1) ys by
              have h1 := HX.out
              rw [show Value.slice a1 (cs'.length + 1) c1 = .slice a1 xs.length c1 by rw [HXL.out]] at h1
              have h2 := h1.take (k + 1)
              rw [HT.out, HYL.out] at h2
              exact h2.below hsr.out.b)
            have HT2 := Box.mk (HY.out.below hsr.out.b)
            go_wp2_with fail
            refine (sets_same _ _ ys _ HT1.out HT2.out).mono ?_; rintro e w5 ⟨rfl, hb5⟩
            have HS5 := Box.mk (HS3.out.step hb5)
            clear hb5
            go_wp2_with fail
            go_ret
            exact ⟨rfl, HFIN.out _ HS5.out⟩
end Go.Proofs.YtonpgokgbaemfaaDoor
