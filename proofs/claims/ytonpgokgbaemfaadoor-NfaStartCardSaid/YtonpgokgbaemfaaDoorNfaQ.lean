/-
  THE LAWS OF LAYER 10, WALKED: where a pattern with Start has fitted; no set has a state that there is not.
-/
import Derived.Test.YtonpgokgbaemfaaDoorNfaN
namespace Go.Proofs.YtonpgokgbaemfaaDoor
open Go.RowKit

theorem fits_get {l : List N.Item} {cs : List Int} {i : Nat} {a : Bool} (st : Bool) (h : (fitsOf l st cs)[i]? = some a) : i ≤ cs.length ∧ a = doneV l (N.at' l st (N.clo l 0) cs i : Int) := by
  unfold fitsOf setsOf at h
  rw [List.map_map, List.getElem?_map] at h
  obtain ⟨S, hS, rfl⟩ := Option.map_eq_some_iff.1 h
  have hi : i < (N.runs l st (N.clo l 0) cs cs.length).length := (List.getElem?_eq_some_iff.1 hS).1
  rw [N.runs_len] at hi
  rw [N.runs_get _ _ _ _ _ _ (by omega)] at hS
  cases hS
  exact ⟨by omega, rfl⟩
theorem fits_start {l : List N.Item} {cs : List Int} (hr : rightB l = true) {i : Nat} {a b : Bool} (ha : (fitsOf l true cs)[i]? = some a) (hb : (fitsOf l false cs)[i]? = some b) (h : a = true) : b = true := by
  obtain ⟨hi, rfl⟩ := fits_get true ha
  obtain ⟨-, rfl⟩ := fits_get false hb
  have hl := N.clo_lt l 0 (by omega)
  have h1 := N.at_lt l true (N.clo l 0) cs hl i hi
  have h2 := N.at_lt l false (N.clo l 0) cs hl i hi
  unfold doneV at h ⊢
  rw [Bool.and_eq_true] at h ⊢
  refine ⟨?_, ?_⟩
  · unfold setOk N.most
    rw [hr]
    have : 0 < 2 ^ (2 * l.length + 1) := Nat.two_pow_pos _
    simp only [Bool.true_and, Bool.and_eq_true, decide_eq_true_eq]
    omega
  · rw [Int.toNat_natCast] at h ⊢
    exact N.done_mono l cs _ i hi h.2
theorem fitsOf_len (l : List N.Item) (st : Bool) (cs : List Int) : (fitsOf l st cs).length = cs.length + 1 := by unfold fitsOf; rw [List.length_map, setsOf_len]

set_option maxHeartbeats 1000000 in
theorem law_NfaStart (A : Nat → Addr) (B : Nat) (st : Bool) (v : Value) (l : List N.Item) (cv : Value) (cs : List Int) (w : World) (hv : ItemsAt w v l) (hcv : IntsAt w cv cs) (hE : E A B w) (hB : B ≤ w.heap.size) :
    Calls Tryd.prog 7 #[.agg #[.bool st, v], cv] w fun e w' => e = .returned (.bool true) ∧ Below w.heap.size w w' := by
  have HCV := Box.mk hcv
  obtain ⟨ca0, cc0, rfl⟩ := hcv.slice
  clear hcv
  have hb0 := alloc_below w (.cells #[.bool st, v] 24)
  have HSH := Box.mk (shown_any A B _ (hE.below (hb0.mono hB)) (Nat.le_trans hB hb0.size))
  have HBK := Box.mk (Blk.new w 24 #[.bool st, v])
  have HB0 := Box.mk hb0
  have HE := Box.mk hE
  have HV := Box.mk hv
  clear hb0 hE hv
  go_enter Tryd.func7, Tryd.ntmps7
  go_wp2_with fail
  refine HSH.out.mono ?_; rintro e w1 ⟨rfl, hb1⟩
  have hbk1 := HBK.out.below hb1 HBK.out.lt
  have HBK1 := Box.mk hbk1
  have HB1 := Box.mk (HB0.out.trans (hb1.mono HB0.out.size))
  have c0 : w1.cell? ⟨w.heap.size, 0, none⟩ = some (.bool st) := (hbk1.cell 0).trans rfl
  have c1 : w1.cell? ⟨w.heap.size, 1, none⟩ = some v := (hbk1.cell 1).trans rfl
  have HCUT := Box.mk (cut_any st v l w1 (HV.out.below HB1.out))
  clear hb1 hbk1
  go_wp2_with fail
  refine HCUT.out.mono ?_; rintro e w2 ⟨⟨v', rfl, hvs⟩, hb2⟩
  obtain ⟨l', hl'⟩ : ∃ l', l' = l.take 12 := ⟨_, rfl⟩
  have hlz : l'.length ≤ 16777216 := by rw [hl', List.length_take]; omega
  have hv' : ItemsAt w v' l' := by rw [hl']; exact hvs w HV.out
  have hbk2 := HBK1.out.below hb2 HBK1.out.lt
  have d0 : w2.cell? ⟨w.heap.size, 0, none⟩ = some (.bool st) := (hbk2.cell 0).trans rfl
  have d1 : w2.cell? ⟨w.heap.size, 1, none⟩ = some v := (hbk2.cell 1).trans rfl
  have g0 := hbk2.frozen 0
  have g1 := hbk2.frozen 1
  have HBK2 := Box.mk hbk2
  have HB2 := Box.mk (HB1.out.trans (hb2.mono HB1.out.size))
  have HV' := Box.mk hv'
  obtain ⟨ao, cap, rfl⟩ := hv'.slice
  clear hb2 hbk2 hv' hvs hl' c0 c1
  go_wp2_with fail
  have hb3 := (HB2.out.setCell (p := ⟨w.heap.size, 0, none⟩) (Nat.le_refl _) (.bool st)).setCell (p := ⟨w.heap.size, 1, none⟩) (Nat.le_refl _) (.slice ao l'.length cap)
  have hbk3 := (HBK2.out.set_ 0 (.bool st)).set_ 1 (.slice ao l'.length cap)
  generalize (w2.setCell ⟨w.heap.size, 0, none⟩ (.bool st)).setCell ⟨w.heap.size, 1, none⟩ (.slice ao l'.length cap) = W0 at hb3 hbk3 ⊢
  have HS0 := Box.mk (show St A B W0 W0 from St.start (HE.out.below (hb3.mono hB)) (Nat.le_trans hB hb3.size))
  have HV0 := Box.mk (HV'.out.below hb3)
  have HB3 := Box.mk hb3
  have HC := Box.mk (show ∀ W, St A B W0 W → W.cell? ⟨w.heap.size, 0, none⟩ = some (.bool st) ∧ W.cell? ⟨w.heap.size, 1, none⟩ = some (.slice ao l'.length cap) from fun W h => ⟨((hbk3.below h.b hbk3.lt).cell 0).trans rfl, ((hbk3.below h.b hbk3.lt).cell 1).trans rfl⟩)
  have HFIN := Box.mk (show ∀ W, St A B W0 W → Below w.heap.size w W from fun W h => hb3.trans (h.b.mono hb3.size))
  have HLT := Box.mk (show w.heap.size < W0.heap.size from hbk3.lt)
  clear hb3 hbk3 d0 d1 g0 g1
  have HCV0 := Box.mk (HCV.out.below (HFIN.out _ HS0.out))
  go_wp2_with fail
  refine (few_any _ cs _ HCV0.out).mono ?_; rintro e w3 ⟨⟨cv', rfl, hcv'⟩, rfl⟩
  obtain ⟨cs', hcs⟩ : ∃ cs', cs' = cs.take 40 := ⟨_, rfl⟩
  have hcz : cs'.length ≤ 1000 := by rw [hcs, List.length_take]; omega
  rw [← hcs] at hcv'
  have HCV' := Box.mk hcv'
  clear hcv' hcs
  obtain ⟨e0, e1⟩ := HC.out _ HS0.out
  go_wp2_with fail
  refine (fits_any A B true _ l' _ cs' _ HV0.out hlz HCV'.out hcz HS0.out.e HS0.out.le).mono ?_
  intro e w3 hp
  obtain ⟨hb4, v1, rfl, hi1⟩ := hp.all
  have HS1 := Box.mk (HS0.out.step hb4)
  have HI1 := Box.mk hi1
  clear hp hb4 hi1 e0 e1
  obtain ⟨e0, e1⟩ := HC.out _ HS1.out
  go_wp2_with fail
  refine (fits_any A B false _ l' _ cs' _ (HV0.out.below HS1.out.b) hlz (HCV'.out.below HS1.out.b) hcz HS1.out.e HS1.out.le).mono ?_
  intro e w4 hp
  obtain ⟨hb4, v2, rfl, hi2⟩ := hp.all
  have HS2 := Box.mk (HS1.out.step hb4)
  have HI1 := Box.mk (HI1.out.below hb4)
  have HI2 := Box.mk hi2
  clear hp hb4 hi2 e0 e1
  cases hr : rightB l' with
  | false =>
    have HN := Box.mk (show codeOf l' = 80 ∧ fitsR l' true cs' = [] ∧ fitsR l' false cs' = [] by unfold codeOf fitsR; rw [hr]; exact ⟨rfl, rfl, rfl⟩)
    have hi1 := HI1.out
    have hi2 := HI2.out
    rw [HN.out.2.1] at hi1
    rw [HN.out.2.2] at hi2
    obtain ⟨a1, c1, rfl⟩ := hi1.slice
    obtain ⟨a2, c2, rfl⟩ := hi2.slice
    rw [HN.out.1]
    clear hi1 hi2 hr
    go_wp2_with fail
    go_rounds 1
    go_wp2_with fail
    go_ret
    exact ⟨rfl, HFIN.out _ HS2.out⟩
  | true =>
    have HRT := Box.mk hr
    have HN := Box.mk (show codeOf l' = 0 ∧ fitsR l' true cs' = fitsOf l' true cs' ∧ fitsR l' false cs' = fitsOf l' false cs' by unfold codeOf fitsR; rw [hr]; exact ⟨rfl, rfl, rfl⟩)
    have hi1 := HI1.out
    have hi2 := HI2.out
    rw [HN.out.2.1] at hi1
    rw [HN.out.2.2] at hi2
    have HJ1 := Box.mk hi1
    have HJ2 := Box.mk hi2
    obtain ⟨xs, hxs⟩ : ∃ xs, xs = fitsOf l' true cs' := ⟨_, rfl⟩
    obtain ⟨ys, hys⟩ : ∃ ys, ys = fitsOf l' false cs' := ⟨_, rfl⟩
    have hxl : xs.length = cs'.length + 1 := by rw [hxs, fitsOf_len]
    have hyl : ys.length = cs'.length + 1 := by rw [hys, fitsOf_len]
    have HLEN := Box.mk (show ys.length = xs.length by omega)
    have hxz : xs.length ≤ 1001 := by omega
    rw [← hxs] at hi1
    rw [← hys] at hi2
    have HK := Box.mk (show ∀ i a b, xs[i]? = some a → ys[i]? = some b → a = true → b = true from fun i a b h1 h2 h => fits_start HRT.out (by rw [← hxs]; exact h1) (by rw [← hys]; exact h2) h)
    have HX := Box.mk hi1
    have HY := Box.mk hi2
    obtain ⟨a1, c1, rfl⟩ := hi1.slice
    obtain ⟨a2, c2, hv2⟩ := hi2.slice
    rw [HLEN.out] at hv2
    obtain rfl := hv2
    rw [HN.out.1]
    clear hi1 hi2 hr hxs hys hxl hyl
    go_wp2_with fail
    go_loopw [10] (fun i wr => ∃ k : Nat, k ≤ xs.length ∧ i = .int .i64 k ∧ Box (St A B W0 wr) ∧ Box (Below w4.heap.size w4 wr)) (fun i _ => xs.length - (intOf i).toNat)
    case atStart => exact ⟨0, by omega, rfl, HS2, ⟨Below.refl _ _⟩⟩
    case round =>
      obtain ⟨k, hk, rfl, hs, hb⟩ := hrel
      by_cases hlt : k < xs.length
      · obtain ⟨p, hp⟩ : ∃ p, xs[k]? = some p := ⟨_, List.getElem?_eq_getElem hlt⟩
        obtain ⟨q, hq⟩ : ∃ q, ys[k]? = some q := ⟨_, List.getElem?_eq_getElem (by rw [HLEN.out]; exact hlt)⟩
        obtain ⟨g, off, cap2, hg1, hg2, hg3, hg4, hg5⟩ := (HX.out.below hb.out).get (by rintro rfl; simp at hlt)
        obtain ⟨rfl, rfl⟩ : a1 = some ⟨g, off, none⟩ ∧ c1 = cap2 := by injection hg1 with h1 h2 h3; exact ⟨h1, h3⟩
        obtain ⟨g', off', cap3, kg1, kg2, kg3, kg4, kg5⟩ := (HY.out.below hb.out).get (by rintro rfl; simp at hq)
        obtain ⟨rfl, rfl⟩ : a2 = some ⟨g', off', none⟩ ∧ c2 = cap3 := by injection kg1 with h1 h2 h3; exact ⟨h1, h3⟩
        have hcp := hg5 k p hp
        have hcq := kg5 k q hq
        have HKK := Box.mk (HK.out k p q hp hq)
        unfold maxLen at hg3 kg3
        clear hp hq hg1 hg5 kg1 kg5
        cases p with
        | false =>
          go_wp2_with fail
          go_roundw
          case rel => exact ⟨k + 1, hlt, by go_num, hs, hb⟩
          case measure => simp [intOf]; omega
        | true =>
          obtain rfl := HKK.out rfl
          go_wp2_with fail
          go_roundw
          case rel => exact ⟨k + 1, hlt, by go_num, hs, hb⟩
          case measure => simp [intOf]; omega
      · obtain rfl : k = xs.length := by omega
        go_wp2_with fail
        go_ret
        exact ⟨rfl, HFIN.out _ hs.out⟩

theorem sets_get {l : List N.Item} {cs : List Int} {st : Bool} {i : Nat} {x : Int} (h : (setsOf l st cs)[i]? = some x) : i ≤ cs.length ∧ x = (N.at' l st (N.clo l 0) cs i : Int) := by
  unfold setsOf at h
  rw [List.getElem?_map] at h
  obtain ⟨S, hS, rfl⟩ := Option.map_eq_some_iff.1 h
  have hi : i < (N.runs l st (N.clo l 0) cs cs.length).length := (List.getElem?_eq_some_iff.1 hS).1
  rw [N.runs_len] at hi
  rw [N.runs_get _ _ _ _ _ _ (by omega)] at hS
  cases hS
  exact ⟨by omega, rfl⟩
theorem St.trans {A : Nat → Addr} {B : Nat} {W0 W1 W2 : World} (h : St A B W0 W1) (k : St A B W1 W2) : St A B W0 W2 := h.step k.b

set_option maxHeartbeats 2000000 in
theorem law_NfaWithin (A : Nat → Addr) (B : Nat) (st : Bool) (v : Value) (l : List N.Item) (cv : Value) (cs : List Int) (w : World) (hv : ItemsAt w v l) (hcv : IntsAt w cv cs) (hE : E A B w) (hB : B ≤ w.heap.size) :
    Calls Tryd.prog 6 #[.agg #[.bool st, v], cv] w fun e w' => e = .returned (.bool true) ∧ Below w.heap.size w w' := by
  have HCV := Box.mk hcv
  obtain ⟨ca0, cc0, rfl⟩ := hcv.slice
  clear hcv
  have hb0 := alloc_below w (.cells #[.bool st, v] 24)
  have HSH := Box.mk (shown_any A B _ (hE.below (hb0.mono hB)) (Nat.le_trans hB hb0.size))
  have HBK := Box.mk (Blk.new w 24 #[.bool st, v])
  have HB0 := Box.mk hb0
  have HE := Box.mk hE
  have HV := Box.mk hv
  clear hb0 hE hv
  go_enter Tryd.func6, Tryd.ntmps6
  go_wp2_with fail
  refine HSH.out.mono ?_; rintro e w1 ⟨rfl, hb1⟩
  have hbk1 := HBK.out.below hb1 HBK.out.lt
  have HBK1 := Box.mk hbk1
  have HB1 := Box.mk (HB0.out.trans (hb1.mono HB0.out.size))
  have c0 : w1.cell? ⟨w.heap.size, 0, none⟩ = some (.bool st) := (hbk1.cell 0).trans rfl
  have c1 : w1.cell? ⟨w.heap.size, 1, none⟩ = some v := (hbk1.cell 1).trans rfl
  have HCUT := Box.mk (cut_any st v l w1 (HV.out.below HB1.out))
  clear hb1 hbk1
  go_wp2_with fail
  refine HCUT.out.mono ?_; rintro e w2 ⟨⟨v', rfl, hvs⟩, hb2⟩
  obtain ⟨l', hl'⟩ : ∃ l', l' = l.take 12 := ⟨_, rfl⟩
  have hlz : l'.length ≤ 16777216 := by rw [hl', List.length_take]; omega
  have hv' : ItemsAt w v' l' := by rw [hl']; exact hvs w HV.out
  have hbk2 := HBK1.out.below hb2 HBK1.out.lt
  have d0 : w2.cell? ⟨w.heap.size, 0, none⟩ = some (.bool st) := (hbk2.cell 0).trans rfl
  have d1 : w2.cell? ⟨w.heap.size, 1, none⟩ = some v := (hbk2.cell 1).trans rfl
  have g0 := hbk2.frozen 0
  have g1 := hbk2.frozen 1
  have HBK2 := Box.mk hbk2
  have HB2 := Box.mk (HB1.out.trans (hb2.mono HB1.out.size))
  have HV' := Box.mk hv'
  obtain ⟨ao, cap, rfl⟩ := hv'.slice
  clear hb2 hbk2 hv' hvs hl' c0 c1
  go_wp2_with fail
  have hb3 := (HB2.out.setCell (p := ⟨w.heap.size, 0, none⟩) (Nat.le_refl _) (.bool st)).setCell (p := ⟨w.heap.size, 1, none⟩) (Nat.le_refl _) (.slice ao l'.length cap)
  have hbk3 := (HBK2.out.set_ 0 (.bool st)).set_ 1 (.slice ao l'.length cap)
  generalize (w2.setCell ⟨w.heap.size, 0, none⟩ (.bool st)).setCell ⟨w.heap.size, 1, none⟩ (.slice ao l'.length cap) = W0 at hb3 hbk3 ⊢
  have HS0 := Box.mk (show St A B W0 W0 from St.start (HE.out.below (hb3.mono hB)) (Nat.le_trans hB hb3.size))
  have HV0 := Box.mk (HV'.out.below hb3)
  have HB3 := Box.mk hb3
  have HC := Box.mk (show ∀ W, St A B W0 W → W.cell? ⟨w.heap.size, 0, none⟩ = some (.bool st) ∧ W.cell? ⟨w.heap.size, 1, none⟩ = some (.slice ao l'.length cap) from fun W h => ⟨((hbk3.below h.b hbk3.lt).cell 0).trans rfl, ((hbk3.below h.b hbk3.lt).cell 1).trans rfl⟩)
  have HFIN := Box.mk (show ∀ W, St A B W0 W → Below w.heap.size w W from fun W h => hb3.trans (h.b.mono hb3.size))
  have HLT := Box.mk (show w.heap.size < W0.heap.size from hbk3.lt)
  clear hb3 hbk3 d0 d1 g0 g1
  obtain ⟨cs', hcs⟩ : ∃ cs', cs' = cs.take 40 := ⟨_, rfl⟩
  have hcz : cs'.length ≤ 1000 := by rw [hcs, List.length_take]; omega
  have HFEW := Box.mk (show ∀ W, St A B W0 W → Calls Tryd.prog 11 #[.slice ca0 cs.length cc0] W fun e w' => (∃ v', e = .returned v' ∧ IntsAt W v' cs') ∧ W = w' from fun W h => by
    rw [hcs]; exact few_any _ cs W (HCV.out.below (HFIN.out _ h)))
  have HRUN := Box.mk (fun (W : World) (cv' : Value) (h : St A B W0 W) (hc : IntsAt W cv' cs') => run_any A B st _ l' cv' cs' W (HV0.out.below h.b) hlz hc hcz h.e h.le)
  clear hcs
  obtain ⟨e0, e1⟩ := HC.out _ HS0.out
  go_upto_region 3 with (fail)
  go_cut [6, 7] from 12 to 18 (fun s6 s7 wx => s7 = .int .i64 (codeOf l') ∧ Box (IntsAt wx s6 (setsR l' st cs')) ∧ Box (St A B W0 wx))
  case first =>
    go_region_with (first
      | (go_at_call 11; refine (HFEW.out _ ?_).mono ?_; exact HS0.out.step (drew_below _ 1); rintro e w3 ⟨⟨cv', rfl, hcv'⟩, rfl⟩; have HCV' := Box.mk hcv'; clear hcv')
      | (go_at_call 12; refine (HRUN.out _ _ ?_ ?_).mono ?_; exact HS0.out.step (drew_below _ 1); exact HCV'.out; intro e w3 hp; obtain ⟨hb4, v1, rfl, hi1⟩ := hp.all; have HI := Box.mk hi1; have HB4 := Box.mk hb4; clear hp hi1 hb4))
    all_goals
      go_wp2_with fail
      go_meet
      exact ⟨rfl, HI, ⟨(HS0.out.step (drew_below _ 1)).step HB4.out⟩⟩
  case rest =>
    obtain ⟨rfl, hi, hs⟩ := hcut
    clear e0 e1
    cases hr : rightB l' with
    | false =>
      have HM := Box.mk (show mostV l' = 0 by unfold mostV; rw [hr]; rfl)
      have HN := Box.mk (show codeOf l' = 80 by unfold codeOf; rw [hr]; rfl)
      rw [HN.out]
      obtain ⟨e0, e1⟩ := HC.out _ hs.out
      clear hr
      go_wp2_with fail
      refine (most_any A B st _ l' _ (HV0.out.below hs.out.b) hlz hs.out.e hs.out.le).mono ?_; rintro e w4 ⟨rfl, hb4⟩; rw [HM.out]
      have HS1 := Box.mk (hs.out.step hb4)
      clear hb4 e0 e1
      go_wp2_with fail
      go_ret
      exact ⟨rfl, HFIN.out _ HS1.out⟩
    | true =>
      have HRT := Box.mk hr
      have HM := Box.mk (show mostV l' = (N.most l' : Int) by unfold mostV; rw [hr]; rfl)
      have HN := Box.mk (show codeOf l' = 0 by unfold codeOf; rw [hr]; rfl)
      have hi1 := hi.out
      rw [show setsR l' st cs' = setsOf l' st cs' by unfold setsR; rw [hr]; rfl] at hi1
      obtain ⟨xs, hxs⟩ : ∃ xs, xs = setsOf l' st cs' := ⟨_, rfl⟩
      have hxl : xs.length = cs'.length + 1 := by rw [hxs, setsOf_len]
      have hx0 : 0 < xs.length := by omega
      have hxz : xs.length ≤ 1001 := by omega
      rw [← hxs] at hi1
      have HX := Box.mk hi1
      have HG := Box.mk (show ∀ i x, xs[i]? = some x → ∃ S : Nat, x = (S : Int) ∧ S < 2 ^ (2 * l'.length + 1) ∧ (S % 2 = 1 ∨ (st = true ∧ i ≠ 0)) from fun i x h => by
        rw [hxs] at h
        obtain ⟨h1, rfl⟩ := sets_get h
        refine ⟨_, rfl, N.at_lt l' st (N.clo l' 0) cs' (N.clo_lt l' 0 (by omega)) i h1, ?_⟩
        by_cases hc : st = false ∨ i = 0
        · exact .inl (N.at_odd l' st cs' i h1 hc)
        · right
          refine ⟨?_, fun h => hc (.inr h)⟩
          cases st with
          | true => rfl
          | false => exact absurd (.inl rfl) hc)
      obtain ⟨ra, rcap, rfl⟩ := hi1.slice
      have HSC := Box.mk (show St A B wc wc from St.start hs.out.e hs.out.le)
      have HML := Box.mk (show ∀ S : Nat, S < 2 ^ (2 * l'.length + 1) → (S : Int) ≤ (N.most l' : Int) from fun S h => by unfold N.most; have : 0 < 2 ^ (2 * l'.length + 1) := Nat.two_pow_pos _; omega)
      rw [HN.out]
      clear hi1 hxs hxl hr
      go_wp2_with fail
      go_loopw [8] (fun i wr => ∃ k : Nat, k ≤ xs.length ∧ i = .int .i64 k ∧ Box (St A B wc wr)) (fun i _ => xs.length - (intOf i).toNat)
      case atStart => exact ⟨0, by omega, rfl, HSC⟩
      case round =>
        obtain ⟨k, hk, rfl, hsr⟩ := hrel
        by_cases hlt : k < xs.length
        · obtain ⟨x, hx⟩ : ∃ x, xs[k]? = some x := ⟨_, List.getElem?_eq_getElem hlt⟩
          obtain ⟨S, rfl, hS, hpar⟩ := HG.out k x hx
          have hx2 := HX.out.get (by rintro rfl; simp at hlt)
          obtain ⟨g, off, cap2, hg1, hg2, hg3, hg4, hg5⟩ := hx2
          obtain ⟨rfl, rfl⟩ : ra = some ⟨g, off, none⟩ ∧ rcap = cap2 := by injection hg1 with h1 h2 h3; exact ⟨h1, h3⟩
          have hcx := hg5 k _ hx
          have q0 : ∀ q : CW (St A B wc), q.w.cell? ⟨w.heap.size, 0, none⟩ = some (.bool st) := fun q => (HC.out _ (hs.out.trans q.h)).1
          have q1 : ∀ q : CW (St A B wc), q.w.cell? ⟨w.heap.size, 1, none⟩ = some (.slice ao l'.length cap) := fun q => (HC.out _ (hs.out.trans q.h)).2
          have q2 : ∀ q : CW (St A B wc), q.w.cell? ⟨g, off + k, none⟩ = some (.int .i64 S) := fun q => (q.h.b.cell (p := ⟨g, off + k, none⟩) hg4).trans hcx
          have HM1 := Box.mk (fun q : CW (St A B wc) => class_call (Inv := St A B wc) (most_any A B st _ l' q.w (HV0.out.below (hs.out.trans q.h).b) hlz q.h.e q.h.le) (fun _ hb => q.h.step hb))
          rw [HM.out] at HM1
          have t1 : decide ((S : Int) < 0) = false := by rw [decide_eq_false_iff_not]; omega
          have t2 : decide ((N.most l' : Int) < (S : Int)) = false := by have := HML.out S hS; rw [decide_eq_false_iff_not]; omega
          have t2' : decide (N.most l' < S) = false := by have := HML.out S hS; rw [decide_eq_false_iff_not]; omega
          have S0 : (0 : Int) ≤ S := by omega
          unfold maxLen at hg3
          clear hx hg1 hg5 hcx hS
          by_cases hodd : S % 2 = 1
          · have t3 : ((S : Int) % 2 == 0) = false := by rw [beq_eq_false_iff_ne]; omega
            clear hodd hpar
            go_wp2_with fail
            refine wp_region_class (St A B wc) (by kernel_rfl) (by kernel_rfl) (hsr.out.step (drew_below _ 1)) (fun hne => ?_)
            repeat (any_goals (first | go_big_quiet_step ((go_at_call 20; exact HM1.out _)) | quiet_step ((go_at_call 20; exact HM1.out _))))
            refine wpQuiet_nil ?_
            rintro w7 ⟨⟨_, h7⟩, rfl⟩
            have H7 := Box.mk h7
            clear q0 q1 q2 hne h7
            go_wp2_with fail
            go_roundw
            case rel => exact ⟨k + 1, hlt, by go_num, H7⟩
            case measure => simp [intOf]; omega
          · obtain ⟨rfl, hk0⟩ : st = true ∧ k ≠ 0 := by
              rcases hpar with h | h
              · exact absurd h hodd
              · exact h
            have t3 : ((S : Int) % 2 == 0) = true := by rw [beq_iff_eq]; omega
            have t4 : ((k : Int) == 0) = false := by rw [beq_eq_false_iff_ne]; omega
            clear hodd hpar hk0
            go_wp2_with fail
            refine wp_region_class (St A B wc) (by kernel_rfl) (by kernel_rfl) (hsr.out.step (drew_below _ 1)) (fun hne => ?_)
            repeat (any_goals (first | go_big_quiet_step ((go_at_call 20; exact HM1.out _)) | quiet_step ((go_at_call 20; exact HM1.out _))))
            refine wpQuiet_nil ?_
            rintro w7 ⟨⟨_, h7⟩, rfl⟩
            have H7 := Box.mk h7
            clear q0 q1 q2 hne h7
            go_wp2_with fail
            go_roundw
            case rel => exact ⟨k + 1, hlt, by go_num, H7⟩
            case measure => simp [intOf]; omega
        · obtain rfl : k = xs.length := by omega
          go_wp2_with fail
          go_ret
          exact ⟨rfl, HFIN.out _ (hs.out.trans hsr.out)⟩
end Go.Proofs.YtonpgokgbaemfaaDoor
