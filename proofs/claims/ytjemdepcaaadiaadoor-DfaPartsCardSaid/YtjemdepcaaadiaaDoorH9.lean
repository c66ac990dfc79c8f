/-
  Texts of this claim, one behind the other: Df11.
-/
import Derived.Test.YtjemdepcaaadiaaDoorH8

/- THE LAWS OF LAYER 12, WALKED: a machine goes through numbers as through some, and then through the others. -/
namespace Go.Proofs.YtjemdepcaaadiaaDoor
open Go.RowKit Go.Shelf
attribute [local go_sem] Oper.semAt_some

theorem goM_pre {n : Nat} {M : D.Mach} {l : List Int} {i : Nat} (h : i ≤ l.length) : goM n M (l.take i) = (goM n M l).take (i + 1) := by
  apply List.ext_getElem?
  intro j
  rcases Nat.lt_or_ge j (i + 1) with hj | hj
  · rw [List.getElem?_take, if_pos hj, goM_get (by rw [List.length_take]; omega), goM_get (by omega)]
    unfold stM
    rw [List.take_take, Nat.min_eq_left (by omega)]
  · rw [List.getElem?_take, if_neg (by omega), List.getElem?_eq_none (by rw [goM_len, List.length_take]; omega)]
theorem zs_take (S : List Nat) (i : Nat) : zs (S.take i) = (zs S).take i := by unfold zs; rw [List.map_take]

set_option maxRecDepth 100000 in
set_option maxHeartbeats 8000000 in
theorem law_DfaParts (A : Nat → Addr) (B : Nat) (mv : Value) (M0 : D.Mach) (n : Int) (lv : Value) (l0 : List Int) (at' : Int) (w : World) (hm : MachAt w mv M0) (hl : IntsAt w lv l0) (hS : Sd A B w) :
    Calls Tryd.prog 4 #[mv, .int .i64 n, lv, .int .i64 at'] w fun e w' => e = .returned (.bool true) ∧ Below w.heap.size w w' := by
  have HS := Box.mk hS
  have HM0 := Box.mk hm
  have HL0 := Box.mk hl
  obtain ⟨nv0, fv0, rfl, hra0, hia0⟩ := hm
  obtain ⟨na0, nc0, rfl⟩ := hra0.slice
  obtain ⟨fa0, fc0, rfl⟩ := hia0.slice
  obtain ⟨la0, lc0, rfl⟩ := hl.slice
  obtain ⟨V0, hV0⟩ : ∃ V0, V0 = w.alloc (.cells #[.slice na0 M0.1.length nc0, .slice fa0 M0.2.length fc0] 28) := ⟨_, rfl⟩
  have HW0 := Box.mk hV0
  have h00 : Below w.heap.size w V0 := by rw [hV0]; exact alloc_below _ _
  have HB0 := Box.mk h00
  have HK0 := Box.mk (show Blk V0 w.heap.size 28 #[.slice na0 M0.1.length nc0, .slice fa0 M0.2.length fc0] by rw [hV0]; exact Blk.new _ _ _)
  have HSH := Box.mk (shown12_any A B V0 (HS.out.below h00))
  clear hra0 hia0 hl hS hV0 h00
  go_enter Tryd.func4, Tryd.ntmps4
  go_upto_region 1 with (fail)
  rw [← HW0.out]
  go_wp2_with fail
  refine HSH.out.mono ?_; rintro e w1 ⟨rfl, hb1⟩
  have HB1 := Box.mk (below_tr HB0.out hb1)
  have HK1 := Box.mk (HK0.out.below hb1 HK0.out.lt)
  have a0 : w1.cell? ⟨w.heap.size, 0, none⟩ = some (.slice na0 M0.1.length nc0) := (HK1.out.cell 0).trans rfl
  have a1 : w1.cell? ⟨w.heap.size, 1, none⟩ = some (.slice fa0 M0.2.length fc0) := (HK1.out.cell 1).trans rfl
  have a2 := HK1.out.lt
  have HT1 := Box.mk (table_any _ M0 w1 (HM0.out.below HB1.out))
  clear hb1
  go_wp2_with fail
  refine HT1.out.mono ?_; rintro e w2 ⟨hb2, nv2, fv2, rfl, hnb2, hra2, hia2⟩
  obtain ⟨M, hM⟩ : ∃ M, tableM M0 = M := ⟨_, rfl⟩
  have HFT := Box.mk (show MachFit M by rw [← hM]; exact tableM_fit M0)
  rw [hM] at hra2 hia2
  have HRA2 := Box.mk hra2
  have HIA2 := Box.mk hia2
  obtain ⟨na, nc, rfl⟩ := hra2.slice
  obtain ⟨fa, fc, rfl⟩ := hia2.slice
  have HB2 := Box.mk (below_tr HB1.out hb2)
  have HK2 := Box.mk (HK1.out.below hb2 HK1.out.lt)
  have b0 := (HK2.out.cell 0).trans (show _ = some (Value.slice na0 M0.1.length nc0) from rfl)
  have b1 := (HK2.out.cell 1).trans (show _ = some (Value.slice fa0 M0.2.length fc0) from rfl)
  have b2 := HK2.out.frozen 0
  have b3 := HK2.out.frozen 1
  have b4 := HK2.out.lt
  obtain ⟨V2, hV2⟩ : ∃ V2, V2 = (w2.setCell ⟨w.heap.size, 0, none⟩ (.slice na M.1.length nc)).setCell ⟨w.heap.size, 1, none⟩ (.slice fa M.2.length fc) := ⟨_, rfl⟩
  have HKV := Box.mk (show Blk V2 w.heap.size 28 #[.slice na M.1.length nc, .slice fa M.2.length fc] by rw [hV2]; exact (HK2.out.set_ 0 _).set_ 1 _)
  have HB3 := Box.mk (show Below w.heap.size w V2 by rw [hV2]; exact (HB2.out.setCell (Nat.le_refl _) _).setCell (Nat.le_refl _) _)
  have hT := (Turns.setCell (own := fun q => q = w.heap.size) w2 (p := ⟨w.heap.size, 0, none⟩) rfl (.slice na M.1.length nc)).trans (Turns.setCell (own := fun q => q = w.heap.size) _ (p := ⟨w.heap.size, 1, none⟩) rfl (.slice fa M.2.length fc))
  rw [← hV2] at hT
  have hno : ∀ q, q = w.heap.size → ∀ j x, w2.cell? ⟨q, j, none⟩ ≠ some (.int .i64 x) := by
    rintro q rfl j x h
    rw [HK2.out.cell j] at h
    match j, h with
    | 0, h => cases h
    | 1, h => cases h
    | j + 2, h => simp at h
  have HRAV := Box.mk (rows_turn HRA2.out hT hno (fun g hg e => by have := hnb2 g hg; have := HK1.out.lt; omega))
  have HIAV := Box.mk (ints_turn HIA2.out hT hno)
  clear hb2 hra2 hia2 hnb2 hT hno a0 a1 a2
  have HLI := Box.mk (fun W (h : Below w.heap.size w W) => list12_any _ l0 W (HL0.out.below h))
  clear HM0
  go_wp2_with fail
  rw [← hV2]
  clear hV2 b0 b1 b2 b3 b4
  refine (HLI.out _ HB3.out).mono ?_; rintro e w3 ⟨⟨lv', rfl, hl'⟩, rfl⟩
  obtain ⟨L, hL⟩ : ∃ L, list12 l0 = L := ⟨_, rfl⟩
  have hL30 : L.length ≤ 30 := by rw [← hL]; unfold list12; rw [List.length_take]; omega
  rw [hL] at hl'
  have HLV := Box.mk hl'
  obtain ⟨la, lc, rfl⟩ := hl'.slice
  obtain ⟨hlc1, hlc2⟩ := ints_cap hl'
  have c0 : V2.cell? ⟨w.heap.size, 0, none⟩ = some (.slice na M.1.length nc) := (HKV.out.cell 0).trans rfl
  have c1 : V2.cell? ⟨w.heap.size, 1, none⟩ = some (.slice fa M.2.length fc) := (HKV.out.cell 1).trans rfl
  have c2 := HKV.out.lt
  have HMV := Box.mk (show MachAt V2 (.agg #[.slice na M.1.length nc, .slice fa M.2.length fc]) M from ⟨_, _, rfl, HRAV.out, HIAV.out⟩)
  have HSV := Box.mk (HS.out.below HB3.out)
  have HGO := Box.mk (mgo_any A B _ _ M n L V2 HMV.out HFT.out HLV.out (by omega) HSV.out.d HSV.out.le)
  -- the place
  obtain ⟨a, ha, hal⟩ : ∃ a : Nat, min (max at' 0) (L.length : Int) = (a : Int) ∧ a ≤ L.length := by
    obtain ⟨a, ha⟩ := Int.eq_ofNat_of_zero_le (show 0 ≤ min (max at' 0) (L.length : Int) by omega)
    exact ⟨a, ha, by omega⟩
  have HA := Box.mk ha
  clear hl' hL ha
  go_upto_region 4 with (fail)
  go_cut [3] from 21 to 25 (fun s3 wx => s3 = .int .i64 (a : Int) ∧ wx = V2)
  case first =>
    go_wp2_with fail
    all_goals go_meet
    all_goals exact ⟨vint (by have := HA.out; first | omega | (repeat' split <;> omega)), rfl⟩
  case rest =>
    obtain ⟨rfl, rfl⟩ := hcut
    go_wp2_with fail
    refine HGO.out.mono ?_; rintro e w4 ⟨hb4, gv, rfl, hown⟩
    have HB4 := Box.mk hb4
    have HK4 := Box.mk (HKV.out.below hb4 HKV.out.lt)
    have HM4 := Box.mk (HMV.out.below hb4)
    have HL4 := Box.mk (HLV.out.below hb4)
    have HBW4 := Box.mk (below_tr HB3.out hb4)
    have HS4 := Box.mk (HS.out.below HBW4.out)
    have HLA := Box.mk (show IntsAt w4 (.slice la a lc) (L.take a) by
      have h := ints_take HL4.out a
      rwa [show (L.take a).length = a by rw [List.length_take]; omega] at h)
    have HBD := Box.mk (show Below w4.heap.size w4 w4.drew from ⟨rfl, rfl, rfl, Nat.le_refl _, fun _ _ => rfl⟩)
    have HGO2 := Box.mk (mgo_any A B _ _ M n (L.take a) w4.drew (HM4.out.below HBD.out) HFT.out (HLA.out.below HBD.out) (by rw [List.length_take]; omega) (HS4.out.below HBD.out).d (HS4.out.below HBD.out).le)
    have HFF := Box.mk (show ∀ W, Below w4.heap.size w4 W → W.cell? ⟨w.heap.size, 0, none⟩ = some (.slice na M.1.length nc) ∧ W.cell? ⟨w.heap.size, 1, none⟩ = some (.slice fa M.2.length fc) from fun W h => ⟨((HK4.out.below h HK4.out.lt).cell 0).trans rfl, ((HK4.out.below h HK4.out.lt).cell 1).trans rfl⟩)
    have HF0 := Box.mk (HFF.out _ HBD.out)
    have hac : a ≤ lc := by omega
    have l4 := HK4.out.lt
    clear c0 c1 c2 hb4
    go_wp2_with fail
    refine wp_region_K 10 (fun W => W.cell? ⟨w.heap.size, 0, none⟩ = some (.slice na M.1.length nc) ∧ W.cell? ⟨w.heap.size, 1, none⟩ = some (.slice fa M.2.length fc)) (by kernel_rfl) ?_
    generalize w4.drew = WR at *
    refine wpAnyK_take (i := 0) (v := ?_) rfl (by kernel_rfl) (fun _ _ _ h => h) (Or.inl ⟨by kernel_rfl, ?_⟩) HF0.out ?_
    rotate_left
    · first | (intro w hw; obtain ⟨q1, q2⟩ := hw; go_simp; done) | (intro w hw; obtain ⟨q1, q2⟩ := hw; go_simp; with_reducible rfl)
    refine wpAnyK_take (i := 1) (v := ?_) rfl (by kernel_rfl) (fun _ _ _ h => h) (Or.inl ⟨by kernel_rfl, ?_⟩) HF0.out ?_
    rotate_left
    · first | (intro w hw; obtain ⟨q1, q2⟩ := hw; go_simp; done) | (intro w hw; obtain ⟨q1, q2⟩ := hw; go_simp; with_reducible rfl)
    refine wpAnyK_take (i := 2) (v := ?_) rfl (by kernel_rfl) (fun _ _ _ h => h) (Or.inl ⟨by kernel_rfl, ?_⟩) HF0.out ?_
    rotate_left
    · first | (intro w hw; obtain ⟨q1, q2⟩ := hw; go_simp; done) | (intro w hw; obtain ⟨q1, q2⟩ := hw; go_simp; with_reducible rfl)
    refine wpAnyK_take (i := 3) (v := ?_) rfl (by kernel_rfl) (fun _ _ _ h => h) (Or.inl ⟨by kernel_rfl, ?_⟩) HF0.out ?_
    rotate_left
    · first | (intro w hw; obtain ⟨q1, q2⟩ := hw; go_simp; done) | (intro w hw; obtain ⟨q1, q2⟩ := hw; go_simp; with_reducible rfl)
    refine wpAnyK_take (i := 4) (v := ?_) rfl (by kernel_rfl) (fun _ _ _ h => h) (Or.inl ⟨by kernel_rfl, ?_⟩) HF0.out ?_
    rotate_left
    · first | (intro w hw; obtain ⟨q1, q2⟩ := hw; go_simp; done) | (intro w hw; obtain ⟨q1, q2⟩ := hw; go_simp; with_reducible rfl)
    refine wpAnyK_one (i := 5) (by kernel_rfl) rfl (fun KK hKK => ?_)
    go_simp
    go_wp2_with (go_at_call 16; refine HGO2.out.mono ?_; rintro e w5 ⟨hb5, bv, rfl, hown2⟩)
    have HB5 := Box.mk (show Below w4.heap.size w4 w5 from HBD.out.trans (hb5.mono HBD.out.size))
    have HF5 := Box.mk (HFF.out _ HB5.out)
    clear hb5
    refine hKK.out _ _ (fun _ => HF5.out) ?_
    clear hKK KK
    refine wpAnyK_take (i := 6) (v := ?_) rfl (by kernel_rfl) (fun _ _ _ h => h) (Or.inl ⟨by kernel_rfl, ?_⟩) HF5.out ?_
    rotate_left
    · first | (intro w hw; obtain ⟨q1, q2⟩ := hw; go_simp; done) | (intro w hw; obtain ⟨q1, q2⟩ := hw; go_simp; with_reducible rfl)
    refine wpAnyK_take (i := 7) (v := ?_) rfl (by kernel_rfl) (fun _ _ _ h => h) (Or.inl ⟨by kernel_rfl, ?_⟩) HF5.out ?_
    rotate_left
    · first | (intro w hw; obtain ⟨q1, q2⟩ := hw; go_simp; done) | (intro w hw; obtain ⟨q1, q2⟩ := hw; go_simp; with_reducible rfl)
    refine wpAnyK_take (i := 8) (v := ?_) rfl (by kernel_rfl) (fun _ _ _ h => h) (Or.inl ⟨by kernel_rfl, ?_⟩) HF5.out ?_
    rotate_left
    · first | (intro w hw; obtain ⟨q1, q2⟩ := hw; go_simp; done) | (intro w hw; obtain ⟨q1, q2⟩ := hw; go_simp; with_reducible rfl)
    refine wpAnyK_take (i := 9) (v := ?_) rfl (by kernel_rfl) (fun _ _ _ h => h) (Or.inl ⟨by kernel_rfl, ?_⟩) HF5.out ?_
    rotate_left
    · first | (intro w hw; obtain ⟨q1, q2⟩ := hw; go_simp; done) | (intro w hw; obtain ⟨q1, q2⟩ := hw; go_simp; with_reducible rfl)
    refine wpAnyK_one (i := 10) (by kernel_rfl) rfl (fun KK hKK => ?_)
    go_simp
    refine hKK.out _ _ (fun h => by cases h) ?_
    clear hKK KK
    refine wpAnyK_done (by kernel_rfl) ?_ _
    refine NoPanic.normal ?_
    have HBW5 := Box.mk (below_tr HBW4.out HB5.out)
    have HS5 := Box.mk (HS.out.below HBW5.out)
    cases hr : machR n M with
    | false =>
      have HC := Box.mk (show goCode n M = 100 by unfold goCode; rw [hr]; rfl)
      have HR := Box.mk hr
      have HRT := Box.mk (mright_any _ M n w5 (HM4.out.below HB5.out) HFT.out)
      rw [hr] at HRT
      obtain ⟨d0, d1⟩ := HF5.out
      have l5 : w.heap.size < w5.heap.size := Nat.lt_of_lt_of_le l4 HB5.out.size
      rw [HC.out]
      clear hown hown2 hr
      go_wp2_with fail
      refine HRT.out.mono ?_; rintro e w6 ⟨rfl, hb6⟩
      have HB6 := Box.mk (below_tr HBW5.out hb6)
      clear hb6
      go_wp2_with fail
      go_ret
      exact ⟨rfl, HB6.out⟩
    | true =>
      obtain ⟨n1, n2, n3, n4, n5⟩ := machR_parts hr
      obtain ⟨nn, rfl⟩ := Int.eq_ofNat_of_zero_le (show 0 ≤ n by omega)
      have HC := Box.mk (show goCode nn M = 0 by unfold goCode; rw [hr]; rfl)
      have hlta : (L.take a).length = a := by rw [List.length_take]; omega
      rw [hr, if_pos rfl, if_pos rfl, Int.toNat_natCast] at hown
      rw [hr, if_pos rfl, if_pos rfl, Int.toNat_natCast, hlta] at hown2
      obtain ⟨G, hG⟩ : ∃ G, goM nn M L = G := ⟨_, rfl⟩
      have HGE := Box.mk hG
      have hG2 : goM nn M (L.take a) = G.take (a + 1) := by rw [goM_pre hal, hG]
      have HGL := Box.mk (show G.length = L.length + 1 by rw [← hG, goM_len])
      rw [hG] at hown
      rw [hG2] at hown2
      have HGI := Box.mk ((row_ints hown HGL.out.symm).below HB5.out)
      have HGI2 := Box.mk (row_ints hown2 (by rw [List.length_take]; have := HGL.out; omega))
      obtain ⟨ga0, gc, rfl, -, -⟩ := own_shape hown
      obtain ⟨gb0, gc2, rfl, -, -⟩ := own_shape hown2
      have HLT := Box.mk (fun i => stM_lt hr L i)
      have HROW := Box.mk (fun {a : Nat} (ha : a < M.1.length) => machR_row hr ha)
      have HRA5 := Box.mk (HRAV.out.below (below_tr HB4.out HB5.out))
      have HL5 := Box.mk (HL4.out.below HB5.out)
      rw [HC.out]
      clear hown hown2 hr hG hG2 hlta n5
      go_wp2_with fail
      go_loopw [14] (fun i wr => ∃ k : Nat, k ≤ L.length ∧ i = .int .i64 k ∧ Box (Below w5.heap.size w5 wr)) (fun i _ => L.length - (intOf i).toNat)
      case atStart => exact ⟨0, by omega, rfl, ⟨Below.refl _ _⟩⟩
      case round =>
        obtain ⟨k, hk, rfl, hbr⟩ := hrel
        have HBWr := Box.mk (below_tr HBW5.out hbr.out)
        by_cases hlt : k < L.length
        · obtain ⟨c, hc⟩ : ∃ c, L[k]? = some c := ⟨_, List.getElem?_eq_getElem hlt⟩
          obtain ⟨lb, loff, lcap, k1, k2, k3, k4, k5⟩ := (HL5.out.below hbr.out).get (by rintro rfl; simp at hlt)
          obtain ⟨rfl, rfl⟩ : la = some ⟨lb, loff, none⟩ ∧ lc = lcap := by injection k1 with h1 h2 h3; exact ⟨h1, h3⟩
          have hlc := k5 k c hc
          obtain ⟨ga, goo, gcap, j1, j2, j3, j4, j5⟩ := (HGI.out.below hbr.out).get (by intro e; have := congrArg List.length e; rw [zs_len, HGL.out, List.length_nil] at this; omega)
          rw [zs_len, HGL.out] at j1 j2
          obtain ⟨rfl, rfl⟩ : ga0 = some ⟨ga, goo, none⟩ ∧ gc = gcap := by injection j1 with h1 h2 h3; exact ⟨h1, h3⟩
          have hgk : G[k]? = some (stM nn M L k) := by rw [← HGE.out]; exact goM_get (by omega)
          have hgn : G[k + 1]? = some (stM nn M L (k + 1)) := by rw [← HGE.out]; exact goM_get (by omega)
          have hx0 := j5 k _ (zs_get hgk)
          have hx1 := j5 (k + 1) _ (zs_get hgn)
          have hso := HLT.out k
          obtain ⟨r, hr1, hr2, hr3, -⟩ := HROW.out hso
          obtain ⟨x, hy1, hy2, hy3⟩ := hr3 (colOf nn c) (colOf_le nn c)
          have hst : x = (stM nn M L (k + 1) : Int) := by
            rw [stM_succ hc]; unfold stepM; rw [show M.1.getD (stM nn M L k) [] = r by rw [List.getD, hr1]; rfl, show r.getD (colOf nn c) 0 = x by rw [List.getD, hy1]; rfl]; omega
          obtain ⟨pa, oa, ca', ha0, ha1, ha2, ha3, ha4⟩ := (HRA5.out.below hbr.out).get (by intro e; rw [e] at hr1; simp at hr1)
          obtain ⟨rfl, rfl⟩ : na = some ⟨pa, oa, none⟩ ∧ nc = ca' := by injection ha0 with h1 h2 h3; exact ⟨h1, h3⟩
          obtain ⟨xv, hxc, hxi⟩ := ha4 _ r hr1
          obtain ⟨rb, roff, rcap, r1, r2, r3, r4, r5⟩ := hxi.get (by rintro rfl; simp at hr2)
          rw [hr2] at r1 r2
          subst r1
          have hxx := r5 _ x hy1
          rw [hst] at hxx
          have hkr := HK4.out.below (below_tr HB5.out hbr.out) HK4.out.lt
          generalize stM nn M L k = so at *
          generalize stM nn M L (k + 1) = sn at *
          have hcl := colOf_le nn c
          obtain ⟨co, hco⟩ : ∃ co, colOf nn c = co := ⟨_, rfl⟩
          have hcase : (c < 0 ∧ co = nn) ∨ (0 ≤ c ∧ (nn : Int) ≤ c ∧ co = nn) ∨ (0 ≤ c ∧ c < (nn : Int) ∧ c = (co : Int)) := by
            rw [← hco]
            unfold colOf
            split <;> omega
          rw [hco] at hxx hcl
          have HFF2 := Box.mk (show ∀ W, Below wr.heap.size wr W → W.cell? ⟨ga, goo + k, none⟩ = some (.int .i64 (so : Int)) ∧ W.cell? ⟨ga, goo + (k + 1), none⟩ = some (.int .i64 (sn : Int)) ∧ W.cell? ⟨w.heap.size, 0, none⟩ = some (.slice (some ⟨pa, oa, none⟩) M.1.length nc) ∧ W.cell? ⟨pa, oa + so, none⟩ = some (.slice (some ⟨rb, roff, none⟩) (nn + 1) rcap) ∧ W.cell? ⟨rb, roff + co, none⟩ = some (.int .i64 (sn : Int)) from fun W h =>
            ⟨(h.cell (p := ⟨ga, goo + k, none⟩) j4).trans hx0, (h.cell (p := ⟨ga, goo + (k + 1), none⟩) j4).trans hx1, ((hkr.below h hkr.lt).cell 0).trans rfl, (h.cell (p := ⟨pa, oa + so, none⟩) ha3).trans hxc, (h.cell (p := ⟨rb, roff + co, none⟩) r4).trans hxx⟩)
          have HBD2 := Box.mk (show Below wr.heap.size wr wr.drew from ⟨rfl, rfl, rfl, Nat.le_refl _, fun _ _ => rfl⟩)
          unfold maxLen at k3 j3 ha2 r3
          have s1 : so < nc := by omega
          have s2 : (so : Int) < (M.1.length : Int) := by omega
          have s3 : decide ((so : Int) < 0) = false := by rw [decide_eq_false_iff_not]; omega
          have s4 : decide ((M.1.length : Int) ≤ (so : Int)) = false := by rw [decide_eq_false_iff_not]; omega
          have s4' : decide (M.1.length ≤ so) = false := by rw [decide_eq_false_iff_not]; omega
          have s5 : k + 1 < L.length + 1 := by omega
          have s6 : (k : Int) < (L.length : Int) + 1 := by omega
          have s7 : (k : Int) + 1 < (L.length : Int) + 1 := by omega
          have s8 : co < nn + 1 := by omega
          have s10 : IntKind.i64.wrap ((k : Int) + 1) = ((k + 1 : Nat) : Int) := by rw [IntKind.wrap_i64]; omega
          have s11 : (0 : Int) ≤ (k : Int) + 1 := by omega
          have s9 : (co : Int) < (nn : Int) + 1 := by omega
          have hkc : k < lc := by omega
          have hkg : k + 1 < gc := by omega
          have hcr : co < rcap := by omega
          have lw := hkr.lt
          clear k1 k5 j1 j5 hgk hgn hr1 hr3 hy1 hst ha0 ha4 hxc hxi r5 hxx hkr hx0 hx1 hc hco
          rcases hcase with ⟨q1, rfl⟩ | ⟨q1, q2, rfl⟩ | ⟨q1, q2, rfl⟩
          · skip
            go_wp2_with fail
            refine wp_region_K 33 (fun W => W.cell? ⟨ga, goo + k, none⟩ = some (.int .i64 (so : Int)) ∧ W.cell? ⟨ga, goo + (k + 1), none⟩ = some (.int .i64 (sn : Int)) ∧ W.cell? ⟨w.heap.size, 0, none⟩ = some (.slice (some ⟨pa, oa, none⟩) M.1.length nc) ∧ W.cell? ⟨pa, oa + so, none⟩ = some (.slice (some ⟨rb, roff, none⟩) (co + 1) rcap) ∧ W.cell? ⟨rb, roff + co, none⟩ = some (.int .i64 (sn : Int))) (by kernel_rfl) ?_
            have HF0 := Box.mk (HFF2.out _ HBD2.out)
            generalize wr.drew = WR at *
            refine wpAnyK_take (i := 0) (v := ?_) rfl (by kernel_rfl) (fun _ _ _ h => h) (Or.inl ⟨by kernel_rfl, ?_⟩) HF0.out ?_
            rotate_left
            · first | (intro w hw; obtain ⟨q1, q2, q3, q4, q5⟩ := hw; go_simp; done) | (intro w hw; obtain ⟨q1, q2, q3, q4, q5⟩ := hw; go_simp; with_reducible rfl)
            refine wpAnyK_take (i := 1) (v := ?_) rfl (by kernel_rfl) (fun _ _ _ h => h) (Or.inl ⟨by kernel_rfl, ?_⟩) HF0.out ?_
            rotate_left
            · first | (intro w hw; obtain ⟨q1, q2, q3, q4, q5⟩ := hw; go_simp; done) | (intro w hw; obtain ⟨q1, q2, q3, q4, q5⟩ := hw; go_simp; with_reducible rfl)
            refine wpAnyK_take (i := 2) (v := ?_) rfl (by kernel_rfl) (fun _ _ _ h => h) (Or.inl ⟨by kernel_rfl, ?_⟩) HF0.out ?_
            rotate_left
            · first | (intro w hw; obtain ⟨q1, q2, q3, q4, q5⟩ := hw; go_simp; done) | (intro w hw; obtain ⟨q1, q2, q3, q4, q5⟩ := hw; go_simp; with_reducible rfl)
            refine wpAnyK_take (i := 3) (v := ?_) rfl (by kernel_rfl) (fun _ _ _ h => h) (Or.inl ⟨by kernel_rfl, ?_⟩) HF0.out ?_
            rotate_left
            · first | (intro w hw; obtain ⟨q1, q2, q3, q4, q5⟩ := hw; go_simp; done) | (intro w hw; obtain ⟨q1, q2, q3, q4, q5⟩ := hw; go_simp; with_reducible rfl)
            refine wpAnyK_take (i := 4) (v := ?_) rfl (by kernel_rfl) (fun _ _ _ h => h) (Or.inl ⟨by kernel_rfl, ?_⟩) HF0.out ?_
            rotate_left
            · first | (intro w hw; obtain ⟨q1, q2, q3, q4, q5⟩ := hw; go_simp; done) | (intro w hw; obtain ⟨q1, q2, q3, q4, q5⟩ := hw; go_simp; with_reducible rfl)
            refine wpAnyK_take (i := 5) (v := ?_) rfl (by kernel_rfl) (fun _ _ _ h => h) (Or.inl ⟨by kernel_rfl, ?_⟩) HF0.out ?_
            rotate_left
            · first | (intro w hw; obtain ⟨q1, q2, q3, q4, q5⟩ := hw; go_simp; done) | (intro w hw; obtain ⟨q1, q2, q3, q4, q5⟩ := hw; go_simp; with_reducible rfl)
            refine wpAnyK_take (i := 6) (v := ?_) rfl (by kernel_rfl) (fun _ _ _ h => h) (Or.inl ⟨by kernel_rfl, ?_⟩) HF0.out ?_
            rotate_left
            · first | (intro w hw; obtain ⟨q1, q2, q3, q4, q5⟩ := hw; go_simp; done) | (intro w hw; obtain ⟨q1, q2, q3, q4, q5⟩ := hw; go_simp; with_reducible rfl)
            refine wpAnyK_take (i := 7) (v := ?_) rfl (by kernel_rfl) (fun _ _ _ h => h) (Or.inl ⟨by kernel_rfl, ?_⟩) HF0.out ?_
            rotate_left
            · first | (intro w hw; obtain ⟨q1, q2, q3, q4, q5⟩ := hw; go_simp; done) | (intro w hw; obtain ⟨q1, q2, q3, q4, q5⟩ := hw; go_simp; with_reducible rfl)
            refine wpAnyK_take (i := 8) (v := ?_) rfl (by kernel_rfl) (fun _ _ _ h => h) (Or.inl ⟨by kernel_rfl, ?_⟩) HF0.out ?_
            rotate_left
            · first | (intro w hw; obtain ⟨q1, q2, q3, q4, q5⟩ := hw; go_simp; done) | (intro w hw; obtain ⟨q1, q2, q3, q4, q5⟩ := hw; go_simp; with_reducible rfl)
            refine wpAnyK_take (i := 9) (v := ?_) rfl (by kernel_rfl) (fun _ _ _ h => h) (Or.inl ⟨by kernel_rfl, ?_⟩) HF0.out ?_
            rotate_left
            · first | (intro w hw; obtain ⟨q1, q2, q3, q4, q5⟩ := hw; go_simp; done) | (intro w hw; obtain ⟨q1, q2, q3, q4, q5⟩ := hw; go_simp; with_reducible rfl)
            refine wpAnyK_take (i := 10) (v := ?_) rfl (by kernel_rfl) (fun _ _ _ h => h) (Or.inl ⟨by kernel_rfl, ?_⟩) HF0.out ?_
            rotate_left
            · first | (intro w hw; obtain ⟨q1, q2, q3, q4, q5⟩ := hw; go_simp; done) | (intro w hw; obtain ⟨q1, q2, q3, q4, q5⟩ := hw; go_simp; with_reducible rfl)
            refine wpAnyK_take (i := 11) (v := ?_) rfl (by kernel_rfl) (fun _ _ _ h => h) (Or.inl ⟨by kernel_rfl, ?_⟩) HF0.out ?_
            rotate_left
            · first | (intro w hw; obtain ⟨q1, q2, q3, q4, q5⟩ := hw; go_simp; done) | (intro w hw; obtain ⟨q1, q2, q3, q4, q5⟩ := hw; go_simp; with_reducible rfl)
            refine wpAnyK_take (i := 12) (v := ?_) rfl (by kernel_rfl) (fun _ _ _ h => h) (Or.inl ⟨by kernel_rfl, ?_⟩) HF0.out ?_
            rotate_left
            · first | (intro w hw; obtain ⟨q1, q2, q3, q4, q5⟩ := hw; go_simp; done) | (intro w hw; obtain ⟨q1, q2, q3, q4, q5⟩ := hw; go_simp; with_reducible rfl)
            refine wpAnyK_take (i := 13) (v := ?_) rfl (by kernel_rfl) (fun _ _ _ h => h) (Or.inl ⟨by kernel_rfl, ?_⟩) HF0.out ?_
            rotate_left
            · first | (intro w hw; obtain ⟨q1, q2, q3, q4, q5⟩ := hw; go_simp; done) | (intro w hw; obtain ⟨q1, q2, q3, q4, q5⟩ := hw; go_simp; with_reducible rfl)
            refine wpAnyK_take (i := 14) (v := ?_) rfl (by kernel_rfl) (fun _ _ _ h => h) (Or.inl ⟨by kernel_rfl, ?_⟩) HF0.out ?_
            rotate_left
            · first | (intro w hw; obtain ⟨q1, q2, q3, q4, q5⟩ := hw; go_simp; done) | (intro w hw; obtain ⟨q1, q2, q3, q4, q5⟩ := hw; go_simp; with_reducible rfl)
            refine wpAnyK_take (i := 15) (v := ?_) rfl (by kernel_rfl) (fun _ _ _ h => h) (Or.inl ⟨by kernel_rfl, ?_⟩) HF0.out ?_
            rotate_left
            · first | (intro w hw; obtain ⟨q1, q2, q3, q4, q5⟩ := hw; go_simp; done) | (intro w hw; obtain ⟨q1, q2, q3, q4, q5⟩ := hw; go_simp; with_reducible rfl)
            refine wpAnyK_take (i := 16) (v := ?_) rfl (by kernel_rfl) (fun _ _ _ h => h) (Or.inl ⟨by kernel_rfl, ?_⟩) HF0.out ?_
            rotate_left
            · first | (intro w hw; obtain ⟨q1, q2, q3, q4, q5⟩ := hw; go_simp; done) | (intro w hw; obtain ⟨q1, q2, q3, q4, q5⟩ := hw; go_simp; with_reducible rfl)
            refine wpAnyK_take (i := 17) (v := ?_) rfl (by kernel_rfl) (fun _ _ _ h => h) (Or.inl ⟨by kernel_rfl, ?_⟩) HF0.out ?_
            rotate_left
            · first | (intro w hw; obtain ⟨q1, q2, q3, q4, q5⟩ := hw; go_simp; done) | (intro w hw; obtain ⟨q1, q2, q3, q4, q5⟩ := hw; go_simp; with_reducible rfl)
            refine wpAnyK_take (i := 18) (v := ?_) rfl (by kernel_rfl) (fun _ _ _ h => h) (Or.inl ⟨by kernel_rfl, ?_⟩) HF0.out ?_
            rotate_left
            · first | (intro w hw; obtain ⟨q1, q2, q3, q4, q5⟩ := hw; go_simp; done) | (intro w hw; obtain ⟨q1, q2, q3, q4, q5⟩ := hw; go_simp; with_reducible rfl)
            refine wpAnyK_take (i := 19) (v := ?_) rfl (by kernel_rfl) (fun _ _ _ h => h) (Or.inl ⟨by kernel_rfl, ?_⟩) HF0.out ?_
            rotate_left
            · first | (intro w hw; obtain ⟨q1, q2, q3, q4, q5⟩ := hw; go_simp; done) | (intro w hw; obtain ⟨q1, q2, q3, q4, q5⟩ := hw; go_simp; with_reducible rfl)
            refine wpAnyK_take (i := 20) (v := ?_) rfl (by kernel_rfl) (fun _ _ _ h => h) (Or.inl ⟨by kernel_rfl, ?_⟩) HF0.out ?_
            rotate_left
            · first | (intro w hw; obtain ⟨q1, q2, q3, q4, q5⟩ := hw; go_simp; done) | (intro w hw; obtain ⟨q1, q2, q3, q4, q5⟩ := hw; go_simp; with_reducible rfl)
            refine wpAnyK_take (i := 21) (v := ?_) rfl (by kernel_rfl) (fun _ _ _ h => h) (Or.inl ⟨by kernel_rfl, ?_⟩) HF0.out ?_
            rotate_left
            · first | (intro w hw; obtain ⟨q1, q2, q3, q4, q5⟩ := hw; go_simp; done) | (intro w hw; obtain ⟨q1, q2, q3, q4, q5⟩ := hw; go_simp; with_reducible rfl)
            refine wpAnyK_take (i := 22) (v := ?_) rfl (by kernel_rfl) (fun _ _ _ h => h) (Or.inl ⟨by kernel_rfl, ?_⟩) HF0.out ?_
            rotate_left
            · first | (intro w hw; obtain ⟨q1, q2, q3, q4, q5⟩ := hw; go_simp; done) | (intro w hw; obtain ⟨q1, q2, q3, q4, q5⟩ := hw; go_simp; with_reducible rfl)
            refine wpAnyK_take (i := 23) (v := ?_) rfl (by kernel_rfl) (fun _ _ _ h => h) (Or.inl ⟨by kernel_rfl, ?_⟩) HF0.out ?_
            rotate_left
            · first | (intro w hw; obtain ⟨q1, q2, q3, q4, q5⟩ := hw; go_simp; done) | (intro w hw; obtain ⟨q1, q2, q3, q4, q5⟩ := hw; go_simp; with_reducible rfl)
            refine wpAnyK_take (i := 24) (v := ?_) rfl (by kernel_rfl) (fun _ _ _ h => h) (Or.inl ⟨by kernel_rfl, ?_⟩) HF0.out ?_
            rotate_left
            · first | (intro w hw; obtain ⟨q1, q2, q3, q4, q5⟩ := hw; go_simp; done) | (intro w hw; obtain ⟨q1, q2, q3, q4, q5⟩ := hw; go_simp; with_reducible rfl)
            refine wpAnyK_take (i := 25) (v := ?_) rfl (by kernel_rfl) (fun _ _ _ h => h) (Or.inl ⟨by kernel_rfl, ?_⟩) HF0.out ?_
            rotate_left
            · first | (intro w hw; obtain ⟨q1, q2, q3, q4, q5⟩ := hw; go_simp; done) | (intro w hw; obtain ⟨q1, q2, q3, q4, q5⟩ := hw; go_simp; with_reducible rfl)
            refine wpAnyK_take (i := 26) (v := ?_) rfl (by kernel_rfl) (fun _ _ _ h => h) (Or.inl ⟨by kernel_rfl, ?_⟩) HF0.out ?_
            rotate_left
            · first | (intro w hw; obtain ⟨q1, q2, q3, q4, q5⟩ := hw; go_simp; done) | (intro w hw; obtain ⟨q1, q2, q3, q4, q5⟩ := hw; go_simp; with_reducible rfl)
            refine wpAnyK_take (i := 27) (v := ?_) rfl (by kernel_rfl) (fun _ _ _ h => h) (Or.inl ⟨by kernel_rfl, ?_⟩) HF0.out ?_
            rotate_left
            · first | (intro w hw; obtain ⟨q1, q2, q3, q4, q5⟩ := hw; go_simp; done) | (intro w hw; obtain ⟨q1, q2, q3, q4, q5⟩ := hw; go_simp; with_reducible rfl)
            refine wpAnyK_take (i := 28) (v := ?_) rfl (by kernel_rfl) (fun _ _ _ h => h) (Or.inl ⟨by kernel_rfl, ?_⟩) HF0.out ?_
            rotate_left
            · first | (intro w hw; obtain ⟨q1, q2, q3, q4, q5⟩ := hw; go_simp; done) | (intro w hw; obtain ⟨q1, q2, q3, q4, q5⟩ := hw; go_simp; with_reducible rfl)
            refine wpAnyK_take (i := 29) (v := ?_) rfl (by kernel_rfl) (fun _ _ _ h => h) (Or.inl ⟨by kernel_rfl, ?_⟩) HF0.out ?_
            rotate_left
            · first | (intro w hw; obtain ⟨q1, q2, q3, q4, q5⟩ := hw; go_simp; done) | (intro w hw; obtain ⟨q1, q2, q3, q4, q5⟩ := hw; go_simp; with_reducible rfl)
            refine wpAnyK_take (i := 30) (v := ?_) rfl (by kernel_rfl) (fun _ _ _ h => h) (Or.inl ⟨by kernel_rfl, ?_⟩) HF0.out ?_
            rotate_left
            · first | (intro w hw; obtain ⟨q1, q2, q3, q4, q5⟩ := hw; go_simp; done) | (intro w hw; obtain ⟨q1, q2, q3, q4, q5⟩ := hw; go_simp; with_reducible rfl)
            refine wpAnyK_take (i := 31) (v := ?_) rfl (by kernel_rfl) (fun _ _ _ h => h) (Or.inl ⟨by kernel_rfl, ?_⟩) HF0.out ?_
            rotate_left
            · first | (intro w hw; obtain ⟨q1, q2, q3, q4, q5⟩ := hw; go_simp; done) | (intro w hw; obtain ⟨q1, q2, q3, q4, q5⟩ := hw; go_simp; with_reducible rfl)
            refine wpAnyK_take (i := 32) (v := ?_) rfl (by kernel_rfl) (fun _ _ _ h => h) (Or.inl ⟨by kernel_rfl, ?_⟩) HF0.out ?_
            rotate_left
            · first | (intro w hw; obtain ⟨q1, q2, q3, q4, q5⟩ := hw; go_simp; done) | (intro w hw; obtain ⟨q1, q2, q3, q4, q5⟩ := hw; go_simp; with_reducible rfl)
            refine wpAnyK_one (i := 33) (by kernel_rfl) rfl (fun KK hKK => ?_)
            go_simp
            refine hKK.out _ _ (fun h => by cases h) ?_
            clear hKK KK
            refine wpAnyK_done (by kernel_rfl) ?_ _
            refine NoPanic.normal ?_
            go_wp2_with fail
            go_roundw
            case rel => exact ⟨k + 1, hlt, by go_num, ⟨hbr.out.trans (HBD2.out.mono hbr.out.size)⟩⟩
            case measure => simp [intOf]; omega
          · skip
            go_wp2_with fail
            refine wp_region_K 33 (fun W => W.cell? ⟨ga, goo + k, none⟩ = some (.int .i64 (so : Int)) ∧ W.cell? ⟨ga, goo + (k + 1), none⟩ = some (.int .i64 (sn : Int)) ∧ W.cell? ⟨w.heap.size, 0, none⟩ = some (.slice (some ⟨pa, oa, none⟩) M.1.length nc) ∧ W.cell? ⟨pa, oa + so, none⟩ = some (.slice (some ⟨rb, roff, none⟩) (co + 1) rcap) ∧ W.cell? ⟨rb, roff + co, none⟩ = some (.int .i64 (sn : Int))) (by kernel_rfl) ?_
            have HF0 := Box.mk (HFF2.out _ HBD2.out)
            generalize wr.drew = WR at *
            refine wpAnyK_take (i := 0) (v := ?_) rfl (by kernel_rfl) (fun _ _ _ h => h) (Or.inl ⟨by kernel_rfl, ?_⟩) HF0.out ?_
            rotate_left
            · first | (intro w hw; obtain ⟨q1, q2, q3, q4, q5⟩ := hw; go_simp; done) | (intro w hw; obtain ⟨q1, q2, q3, q4, q5⟩ := hw; go_simp; with_reducible rfl)
            refine wpAnyK_take (i := 1) (v := ?_) rfl (by kernel_rfl) (fun _ _ _ h => h) (Or.inl ⟨by kernel_rfl, ?_⟩) HF0.out ?_
            rotate_left
            · first | (intro w hw; obtain ⟨q1, q2, q3, q4, q5⟩ := hw; go_simp; done) | (intro w hw; obtain ⟨q1, q2, q3, q4, q5⟩ := hw; go_simp; with_reducible rfl)
            refine wpAnyK_take (i := 2) (v := ?_) rfl (by kernel_rfl) (fun _ _ _ h => h) (Or.inl ⟨by kernel_rfl, ?_⟩) HF0.out ?_
            rotate_left
            · first | (intro w hw; obtain ⟨q1, q2, q3, q4, q5⟩ := hw; go_simp; done) | (intro w hw; obtain ⟨q1, q2, q3, q4, q5⟩ := hw; go_simp; with_reducible rfl)
            refine wpAnyK_take (i := 3) (v := ?_) rfl (by kernel_rfl) (fun _ _ _ h => h) (Or.inl ⟨by kernel_rfl, ?_⟩) HF0.out ?_
            rotate_left
            · first | (intro w hw; obtain ⟨q1, q2, q3, q4, q5⟩ := hw; go_simp; done) | (intro w hw; obtain ⟨q1, q2, q3, q4, q5⟩ := hw; go_simp; with_reducible rfl)
            refine wpAnyK_take (i := 4) (v := ?_) rfl (by kernel_rfl) (fun _ _ _ h => h) (Or.inl ⟨by kernel_rfl, ?_⟩) HF0.out ?_
            rotate_left
            · first | (intro w hw; obtain ⟨q1, q2, q3, q4, q5⟩ := hw; go_simp; done) | (intro w hw; obtain ⟨q1, q2, q3, q4, q5⟩ := hw; go_simp; with_reducible rfl)
            refine wpAnyK_take (i := 5) (v := ?_) rfl (by kernel_rfl) (fun _ _ _ h => h) (Or.inl ⟨by kernel_rfl, ?_⟩) HF0.out ?_
            rotate_left
            · first | (intro w hw; obtain ⟨q1, q2, q3, q4, q5⟩ := hw; go_simp; done) | (intro w hw; obtain ⟨q1, q2, q3, q4, q5⟩ := hw; go_simp; with_reducible rfl)
            refine wpAnyK_take (i := 6) (v := ?_) rfl (by kernel_rfl) (fun _ _ _ h => h) (Or.inl ⟨by kernel_rfl, ?_⟩) HF0.out ?_
            rotate_left
            · first | (intro w hw; obtain ⟨q1, q2, q3, q4, q5⟩ := hw; go_simp; done) | (intro w hw; obtain ⟨q1, q2, q3, q4, q5⟩ := hw; go_simp; with_reducible rfl)
            refine wpAnyK_take (i := 7) (v := ?_) rfl (by kernel_rfl) (fun _ _ _ h => h) (Or.inl ⟨by kernel_rfl, ?_⟩) HF0.out ?_
            rotate_left
            · first | (intro w hw; obtain ⟨q1, q2, q3, q4, q5⟩ := hw; go_simp; done) | (intro w hw; obtain ⟨q1, q2, q3, q4, q5⟩ := hw; go_simp; with_reducible rfl)
            refine wpAnyK_take (i := 8) (v := ?_) rfl (by kernel_rfl) (fun _ _ _ h => h) (Or.inl ⟨by kernel_rfl, ?_⟩) HF0.out ?_
            rotate_left
            · first | (intro w hw; obtain ⟨q1, q2, q3, q4, q5⟩ := hw; go_simp; done) | (intro w hw; obtain ⟨q1, q2, q3, q4, q5⟩ := hw; go_simp; with_reducible rfl)
            refine wpAnyK_take (i := 9) (v := ?_) rfl (by kernel_rfl) (fun _ _ _ h => h) (Or.inl ⟨by kernel_rfl, ?_⟩) HF0.out ?_
            rotate_left
            · first | (intro w hw; obtain ⟨q1, q2, q3, q4, q5⟩ := hw; go_simp; done) | (intro w hw; obtain ⟨q1, q2, q3, q4, q5⟩ := hw; go_simp; with_reducible rfl)
            refine wpAnyK_take (i := 10) (v := ?_) rfl (by kernel_rfl) (fun _ _ _ h => h) (Or.inl ⟨by kernel_rfl, ?_⟩) HF0.out ?_
            rotate_left
            · first | (intro w hw; obtain ⟨q1, q2, q3, q4, q5⟩ := hw; go_simp; done) | (intro w hw; obtain ⟨q1, q2, q3, q4, q5⟩ := hw; go_simp; with_reducible rfl)
            refine wpAnyK_take (i := 11) (v := ?_) rfl (by kernel_rfl) (fun _ _ _ h => h) (Or.inl ⟨by kernel_rfl, ?_⟩) HF0.out ?_
            rotate_left
            · first | (intro w hw; obtain ⟨q1, q2, q3, q4, q5⟩ := hw; go_simp; done) | (intro w hw; obtain ⟨q1, q2, q3, q4, q5⟩ := hw; go_simp; with_reducible rfl)
            refine wpAnyK_take (i := 12) (v := ?_) rfl (by kernel_rfl) (fun _ _ _ h => h) (Or.inl ⟨by kernel_rfl, ?_⟩) HF0.out ?_
            rotate_left
            · first | (intro w hw; obtain ⟨q1, q2, q3, q4, q5⟩ := hw; go_simp; done) | (intro w hw; obtain ⟨q1, q2, q3, q4, q5⟩ := hw; go_simp; with_reducible rfl)
            refine wpAnyK_take (i := 13) (v := ?_) rfl (by kernel_rfl) (fun _ _ _ h => h) (Or.inl ⟨by kernel_rfl, ?_⟩) HF0.out ?_
            rotate_left
            · first | (intro w hw; obtain ⟨q1, q2, q3, q4, q5⟩ := hw; go_simp; done) | (intro w hw; obtain ⟨q1, q2, q3, q4, q5⟩ := hw; go_simp; with_reducible rfl)
            refine wpAnyK_take (i := 14) (v := ?_) rfl (by kernel_rfl) (fun _ _ _ h => h) (Or.inl ⟨by kernel_rfl, ?_⟩) HF0.out ?_
            rotate_left
            · first | (intro w hw; obtain ⟨q1, q2, q3, q4, q5⟩ := hw; go_simp; done) | (intro w hw; obtain ⟨q1, q2, q3, q4, q5⟩ := hw; go_simp; with_reducible rfl)
            refine wpAnyK_take (i := 15) (v := ?_) rfl (by kernel_rfl) (fun _ _ _ h => h) (Or.inl ⟨by kernel_rfl, ?_⟩) HF0.out ?_
            rotate_left
            · first | (intro w hw; obtain ⟨q1, q2, q3, q4, q5⟩ := hw; go_simp; done) | (intro w hw; obtain ⟨q1, q2, q3, q4, q5⟩ := hw; go_simp; with_reducible rfl)
            refine wpAnyK_take (i := 16) (v := ?_) rfl (by kernel_rfl) (fun _ _ _ h => h) (Or.inl ⟨by kernel_rfl, ?_⟩) HF0.out ?_
            rotate_left
            · first | (intro w hw; obtain ⟨q1, q2, q3, q4, q5⟩ := hw; go_simp; done) | (intro w hw; obtain ⟨q1, q2, q3, q4, q5⟩ := hw; go_simp; with_reducible rfl)
            refine wpAnyK_take (i := 17) (v := ?_) rfl (by kernel_rfl) (fun _ _ _ h => h) (Or.inl ⟨by kernel_rfl, ?_⟩) HF0.out ?_
            rotate_left
            · first | (intro w hw; obtain ⟨q1, q2, q3, q4, q5⟩ := hw; go_simp; done) | (intro w hw; obtain ⟨q1, q2, q3, q4, q5⟩ := hw; go_simp; with_reducible rfl)
            refine wpAnyK_take (i := 18) (v := ?_) rfl (by kernel_rfl) (fun _ _ _ h => h) (Or.inl ⟨by kernel_rfl, ?_⟩) HF0.out ?_
            rotate_left
            · first | (intro w hw; obtain ⟨q1, q2, q3, q4, q5⟩ := hw; go_simp; done) | (intro w hw; obtain ⟨q1, q2, q3, q4, q5⟩ := hw; go_simp; with_reducible rfl)
            refine wpAnyK_take (i := 19) (v := ?_) rfl (by kernel_rfl) (fun _ _ _ h => h) (Or.inl ⟨by kernel_rfl, ?_⟩) HF0.out ?_
            rotate_left
            · first | (intro w hw; obtain ⟨q1, q2, q3, q4, q5⟩ := hw; go_simp; done) | (intro w hw; obtain ⟨q1, q2, q3, q4, q5⟩ := hw; go_simp; with_reducible rfl)
            refine wpAnyK_take (i := 20) (v := ?_) rfl (by kernel_rfl) (fun _ _ _ h => h) (Or.inl ⟨by kernel_rfl, ?_⟩) HF0.out ?_
            rotate_left
            · first | (intro w hw; obtain ⟨q1, q2, q3, q4, q5⟩ := hw; go_simp; done) | (intro w hw; obtain ⟨q1, q2, q3, q4, q5⟩ := hw; go_simp; with_reducible rfl)
            refine wpAnyK_take (i := 21) (v := ?_) rfl (by kernel_rfl) (fun _ _ _ h => h) (Or.inl ⟨by kernel_rfl, ?_⟩) HF0.out ?_
            rotate_left
            · first | (intro w hw; obtain ⟨q1, q2, q3, q4, q5⟩ := hw; go_simp; done) | (intro w hw; obtain ⟨q1, q2, q3, q4, q5⟩ := hw; go_simp; with_reducible rfl)
            refine wpAnyK_take (i := 22) (v := ?_) rfl (by kernel_rfl) (fun _ _ _ h => h) (Or.inl ⟨by kernel_rfl, ?_⟩) HF0.out ?_
            rotate_left
            · first | (intro w hw; obtain ⟨q1, q2, q3, q4, q5⟩ := hw; go_simp; done) | (intro w hw; obtain ⟨q1, q2, q3, q4, q5⟩ := hw; go_simp; with_reducible rfl)
            refine wpAnyK_take (i := 23) (v := ?_) rfl (by kernel_rfl) (fun _ _ _ h => h) (Or.inl ⟨by kernel_rfl, ?_⟩) HF0.out ?_
            rotate_left
            · first | (intro w hw; obtain ⟨q1, q2, q3, q4, q5⟩ := hw; go_simp; done) | (intro w hw; obtain ⟨q1, q2, q3, q4, q5⟩ := hw; go_simp; with_reducible rfl)
            refine wpAnyK_take (i := 24) (v := ?_) rfl (by kernel_rfl) (fun _ _ _ h => h) (Or.inl ⟨by kernel_rfl, ?_⟩) HF0.out ?_
            rotate_left
            · first | (intro w hw; obtain ⟨q1, q2, q3, q4, q5⟩ := hw; go_simp; done) | (intro w hw; obtain ⟨q1, q2, q3, q4, q5⟩ := hw; go_simp; with_reducible rfl)
            refine wpAnyK_take (i := 25) (v := ?_) rfl (by kernel_rfl) (fun _ _ _ h => h) (Or.inl ⟨by kernel_rfl, ?_⟩) HF0.out ?_
            rotate_left
            · first | (intro w hw; obtain ⟨q1, q2, q3, q4, q5⟩ := hw; go_simp; done) | (intro w hw; obtain ⟨q1, q2, q3, q4, q5⟩ := hw; go_simp; with_reducible rfl)
            refine wpAnyK_take (i := 26) (v := ?_) rfl (by kernel_rfl) (fun _ _ _ h => h) (Or.inl ⟨by kernel_rfl, ?_⟩) HF0.out ?_
            rotate_left
            · first | (intro w hw; obtain ⟨q1, q2, q3, q4, q5⟩ := hw; go_simp; done) | (intro w hw; obtain ⟨q1, q2, q3, q4, q5⟩ := hw; go_simp; with_reducible rfl)
            refine wpAnyK_take (i := 27) (v := ?_) rfl (by kernel_rfl) (fun _ _ _ h => h) (Or.inl ⟨by kernel_rfl, ?_⟩) HF0.out ?_
            rotate_left
            · first | (intro w hw; obtain ⟨q1, q2, q3, q4, q5⟩ := hw; go_simp; done) | (intro w hw; obtain ⟨q1, q2, q3, q4, q5⟩ := hw; go_simp; with_reducible rfl)
            refine wpAnyK_take (i := 28) (v := ?_) rfl (by kernel_rfl) (fun _ _ _ h => h) (Or.inl ⟨by kernel_rfl, ?_⟩) HF0.out ?_
            rotate_left
            · first | (intro w hw; obtain ⟨q1, q2, q3, q4, q5⟩ := hw; go_simp; done) | (intro w hw; obtain ⟨q1, q2, q3, q4, q5⟩ := hw; go_simp; with_reducible rfl)
            refine wpAnyK_take (i := 29) (v := ?_) rfl (by kernel_rfl) (fun _ _ _ h => h) (Or.inl ⟨by kernel_rfl, ?_⟩) HF0.out ?_
            rotate_left
            · first | (intro w hw; obtain ⟨q1, q2, q3, q4, q5⟩ := hw; go_simp; done) | (intro w hw; obtain ⟨q1, q2, q3, q4, q5⟩ := hw; go_simp; with_reducible rfl)
            refine wpAnyK_take (i := 30) (v := ?_) rfl (by kernel_rfl) (fun _ _ _ h => h) (Or.inl ⟨by kernel_rfl, ?_⟩) HF0.out ?_
            rotate_left
            · first | (intro w hw; obtain ⟨q1, q2, q3, q4, q5⟩ := hw; go_simp; done) | (intro w hw; obtain ⟨q1, q2, q3, q4, q5⟩ := hw; go_simp; with_reducible rfl)
            refine wpAnyK_take (i := 31) (v := ?_) rfl (by kernel_rfl) (fun _ _ _ h => h) (Or.inl ⟨by kernel_rfl, ?_⟩) HF0.out ?_
            rotate_left
            · first | (intro w hw; obtain ⟨q1, q2, q3, q4, q5⟩ := hw; go_simp; done) | (intro w hw; obtain ⟨q1, q2, q3, q4, q5⟩ := hw; go_simp; with_reducible rfl)
            refine wpAnyK_take (i := 32) (v := ?_) rfl (by kernel_rfl) (fun _ _ _ h => h) (Or.inl ⟨by kernel_rfl, ?_⟩) HF0.out ?_
            rotate_left
            · first | (intro w hw; obtain ⟨q1, q2, q3, q4, q5⟩ := hw; go_simp; done) | (intro w hw; obtain ⟨q1, q2, q3, q4, q5⟩ := hw; go_simp; with_reducible rfl)
            refine wpAnyK_one (i := 33) (by kernel_rfl) rfl (fun KK hKK => ?_)
            go_simp
            refine hKK.out _ _ (fun h => by cases h) ?_
            clear hKK KK
            refine wpAnyK_done (by kernel_rfl) ?_ _
            refine NoPanic.normal ?_
            go_wp2_with fail
            go_roundw
            case rel => exact ⟨k + 1, hlt, by go_num, ⟨hbr.out.trans (HBD2.out.mono hbr.out.size)⟩⟩
            case measure => simp [intOf]; omega
          · skip
            go_wp2_with fail
            refine wp_region_K 33 (fun W => W.cell? ⟨ga, goo + k, none⟩ = some (.int .i64 (so : Int)) ∧ W.cell? ⟨ga, goo + (k + 1), none⟩ = some (.int .i64 (sn : Int)) ∧ W.cell? ⟨w.heap.size, 0, none⟩ = some (.slice (some ⟨pa, oa, none⟩) M.1.length nc) ∧ W.cell? ⟨pa, oa + so, none⟩ = some (.slice (some ⟨rb, roff, none⟩) (nn + 1) rcap) ∧ W.cell? ⟨rb, roff + co, none⟩ = some (.int .i64 (sn : Int))) (by kernel_rfl) ?_
            have HF0 := Box.mk (HFF2.out _ HBD2.out)
            generalize wr.drew = WR at *
            refine wpAnyK_take (i := 0) (v := ?_) rfl (by kernel_rfl) (fun _ _ _ h => h) (Or.inl ⟨by kernel_rfl, ?_⟩) HF0.out ?_
            rotate_left
            · first | (intro w hw; obtain ⟨q1, q2, q3, q4, q5⟩ := hw; go_simp; done) | (intro w hw; obtain ⟨q1, q2, q3, q4, q5⟩ := hw; go_simp; with_reducible rfl)
            refine wpAnyK_take (i := 1) (v := ?_) rfl (by kernel_rfl) (fun _ _ _ h => h) (Or.inl ⟨by kernel_rfl, ?_⟩) HF0.out ?_
            rotate_left
            · first | (intro w hw; obtain ⟨q1, q2, q3, q4, q5⟩ := hw; go_simp; done) | (intro w hw; obtain ⟨q1, q2, q3, q4, q5⟩ := hw; go_simp; with_reducible rfl)
            refine wpAnyK_take (i := 2) (v := ?_) rfl (by kernel_rfl) (fun _ _ _ h => h) (Or.inl ⟨by kernel_rfl, ?_⟩) HF0.out ?_
            rotate_left
            · first | (intro w hw; obtain ⟨q1, q2, q3, q4, q5⟩ := hw; go_simp; done) | (intro w hw; obtain ⟨q1, q2, q3, q4, q5⟩ := hw; go_simp; with_reducible rfl)
            refine wpAnyK_take (i := 3) (v := ?_) rfl (by kernel_rfl) (fun _ _ _ h => h) (Or.inl ⟨by kernel_rfl, ?_⟩) HF0.out ?_
            rotate_left
            · first | (intro w hw; obtain ⟨q1, q2, q3, q4, q5⟩ := hw; go_simp; done) | (intro w hw; obtain ⟨q1, q2, q3, q4, q5⟩ := hw; go_simp; with_reducible rfl)
            refine wpAnyK_take (i := 4) (v := ?_) rfl (by kernel_rfl) (fun _ _ _ h => h) (Or.inl ⟨by kernel_rfl, ?_⟩) HF0.out ?_
            rotate_left
            · first | (intro w hw; obtain ⟨q1, q2, q3, q4, q5⟩ := hw; go_simp; done) | (intro w hw; obtain ⟨q1, q2, q3, q4, q5⟩ := hw; go_simp; with_reducible rfl)
            refine wpAnyK_take (i := 5) (v := ?_) rfl (by kernel_rfl) (fun _ _ _ h => h) (Or.inl ⟨by kernel_rfl, ?_⟩) HF0.out ?_
            rotate_left
            · first | (intro w hw; obtain ⟨q1, q2, q3, q4, q5⟩ := hw; go_simp; done) | (intro w hw; obtain ⟨q1, q2, q3, q4, q5⟩ := hw; go_simp; with_reducible rfl)
            refine wpAnyK_take (i := 6) (v := ?_) rfl (by kernel_rfl) (fun _ _ _ h => h) (Or.inl ⟨by kernel_rfl, ?_⟩) HF0.out ?_
            rotate_left
            · first | (intro w hw; obtain ⟨q1, q2, q3, q4, q5⟩ := hw; go_simp; done) | (intro w hw; obtain ⟨q1, q2, q3, q4, q5⟩ := hw; go_simp; with_reducible rfl)
            refine wpAnyK_take (i := 7) (v := ?_) rfl (by kernel_rfl) (fun _ _ _ h => h) (Or.inl ⟨by kernel_rfl, ?_⟩) HF0.out ?_
            rotate_left
            · first | (intro w hw; obtain ⟨q1, q2, q3, q4, q5⟩ := hw; go_simp; done) | (intro w hw; obtain ⟨q1, q2, q3, q4, q5⟩ := hw; go_simp; with_reducible rfl)
            refine wpAnyK_take (i := 8) (v := ?_) rfl (by kernel_rfl) (fun _ _ _ h => h) (Or.inl ⟨by kernel_rfl, ?_⟩) HF0.out ?_
            rotate_left
            · first | (intro w hw; obtain ⟨q1, q2, q3, q4, q5⟩ := hw; go_simp; done) | (intro w hw; obtain ⟨q1, q2, q3, q4, q5⟩ := hw; go_simp; with_reducible rfl)
            refine wpAnyK_take (i := 9) (v := ?_) rfl (by kernel_rfl) (fun _ _ _ h => h) (Or.inl ⟨by kernel_rfl, ?_⟩) HF0.out ?_
            rotate_left
            · first | (intro w hw; obtain ⟨q1, q2, q3, q4, q5⟩ := hw; go_simp; done) | (intro w hw; obtain ⟨q1, q2, q3, q4, q5⟩ := hw; go_simp; with_reducible rfl)
            refine wpAnyK_take (i := 10) (v := ?_) rfl (by kernel_rfl) (fun _ _ _ h => h) (Or.inl ⟨by kernel_rfl, ?_⟩) HF0.out ?_
            rotate_left
            · first | (intro w hw; obtain ⟨q1, q2, q3, q4, q5⟩ := hw; go_simp; done) | (intro w hw; obtain ⟨q1, q2, q3, q4, q5⟩ := hw; go_simp; with_reducible rfl)
            refine wpAnyK_take (i := 11) (v := ?_) rfl (by kernel_rfl) (fun _ _ _ h => h) (Or.inl ⟨by kernel_rfl, ?_⟩) HF0.out ?_
            rotate_left
            · first | (intro w hw; obtain ⟨q1, q2, q3, q4, q5⟩ := hw; go_simp; done) | (intro w hw; obtain ⟨q1, q2, q3, q4, q5⟩ := hw; go_simp; with_reducible rfl)
            refine wpAnyK_take (i := 12) (v := ?_) rfl (by kernel_rfl) (fun _ _ _ h => h) (Or.inl ⟨by kernel_rfl, ?_⟩) HF0.out ?_
            rotate_left
            · first | (intro w hw; obtain ⟨q1, q2, q3, q4, q5⟩ := hw; go_simp; done) | (intro w hw; obtain ⟨q1, q2, q3, q4, q5⟩ := hw; go_simp; with_reducible rfl)
            refine wpAnyK_take (i := 13) (v := ?_) rfl (by kernel_rfl) (fun _ _ _ h => h) (Or.inl ⟨by kernel_rfl, ?_⟩) HF0.out ?_
            rotate_left
            · first | (intro w hw; obtain ⟨q1, q2, q3, q4, q5⟩ := hw; go_simp; done) | (intro w hw; obtain ⟨q1, q2, q3, q4, q5⟩ := hw; go_simp; with_reducible rfl)
            refine wpAnyK_take (i := 14) (v := ?_) rfl (by kernel_rfl) (fun _ _ _ h => h) (Or.inl ⟨by kernel_rfl, ?_⟩) HF0.out ?_
            rotate_left
            · first | (intro w hw; obtain ⟨q1, q2, q3, q4, q5⟩ := hw; go_simp; done) | (intro w hw; obtain ⟨q1, q2, q3, q4, q5⟩ := hw; go_simp; with_reducible rfl)
            refine wpAnyK_take (i := 15) (v := ?_) rfl (by kernel_rfl) (fun _ _ _ h => h) (Or.inl ⟨by kernel_rfl, ?_⟩) HF0.out ?_
            rotate_left
            · first | (intro w hw; obtain ⟨q1, q2, q3, q4, q5⟩ := hw; go_simp; done) | (intro w hw; obtain ⟨q1, q2, q3, q4, q5⟩ := hw; go_simp; with_reducible rfl)
            refine wpAnyK_take (i := 16) (v := ?_) rfl (by kernel_rfl) (fun _ _ _ h => h) (Or.inl ⟨by kernel_rfl, ?_⟩) HF0.out ?_
            rotate_left
            · first | (intro w hw; obtain ⟨q1, q2, q3, q4, q5⟩ := hw; go_simp; done) | (intro w hw; obtain ⟨q1, q2, q3, q4, q5⟩ := hw; go_simp; with_reducible rfl)
            refine wpAnyK_take (i := 17) (v := ?_) rfl (by kernel_rfl) (fun _ _ _ h => h) (Or.inl ⟨by kernel_rfl, ?_⟩) HF0.out ?_
            rotate_left
            · first | (intro w hw; obtain ⟨q1, q2, q3, q4, q5⟩ := hw; go_simp; done) | (intro w hw; obtain ⟨q1, q2, q3, q4, q5⟩ := hw; go_simp; with_reducible rfl)
            refine wpAnyK_take (i := 18) (v := ?_) rfl (by kernel_rfl) (fun _ _ _ h => h) (Or.inl ⟨by kernel_rfl, ?_⟩) HF0.out ?_
            rotate_left
            · first | (intro w hw; obtain ⟨q1, q2, q3, q4, q5⟩ := hw; go_simp; done) | (intro w hw; obtain ⟨q1, q2, q3, q4, q5⟩ := hw; go_simp; with_reducible rfl)
            refine wpAnyK_take (i := 19) (v := ?_) rfl (by kernel_rfl) (fun _ _ _ h => h) (Or.inl ⟨by kernel_rfl, ?_⟩) HF0.out ?_
            rotate_left
            · first | (intro w hw; obtain ⟨q1, q2, q3, q4, q5⟩ := hw; go_simp; done) | (intro w hw; obtain ⟨q1, q2, q3, q4, q5⟩ := hw; go_simp; with_reducible rfl)
            refine wpAnyK_take (i := 20) (v := ?_) rfl (by kernel_rfl) (fun _ _ _ h => h) (Or.inl ⟨by kernel_rfl, ?_⟩) HF0.out ?_
            rotate_left
            · first | (intro w hw; obtain ⟨q1, q2, q3, q4, q5⟩ := hw; go_simp; done) | (intro w hw; obtain ⟨q1, q2, q3, q4, q5⟩ := hw; go_simp; with_reducible rfl)
            refine wpAnyK_take (i := 21) (v := ?_) rfl (by kernel_rfl) (fun _ _ _ h => h) (Or.inl ⟨by kernel_rfl, ?_⟩) HF0.out ?_
            rotate_left
            · first | (intro w hw; obtain ⟨q1, q2, q3, q4, q5⟩ := hw; go_simp; done) | (intro w hw; obtain ⟨q1, q2, q3, q4, q5⟩ := hw; go_simp; with_reducible rfl)
            refine wpAnyK_take (i := 22) (v := ?_) rfl (by kernel_rfl) (fun _ _ _ h => h) (Or.inl ⟨by kernel_rfl, ?_⟩) HF0.out ?_
            rotate_left
            · first | (intro w hw; obtain ⟨q1, q2, q3, q4, q5⟩ := hw; go_simp; done) | (intro w hw; obtain ⟨q1, q2, q3, q4, q5⟩ := hw; go_simp; with_reducible rfl)
            refine wpAnyK_take (i := 23) (v := ?_) rfl (by kernel_rfl) (fun _ _ _ h => h) (Or.inl ⟨by kernel_rfl, ?_⟩) HF0.out ?_
            rotate_left
            · first | (intro w hw; obtain ⟨q1, q2, q3, q4, q5⟩ := hw; go_simp; done) | (intro w hw; obtain ⟨q1, q2, q3, q4, q5⟩ := hw; go_simp; with_reducible rfl)
            refine wpAnyK_take (i := 24) (v := ?_) rfl (by kernel_rfl) (fun _ _ _ h => h) (Or.inl ⟨by kernel_rfl, ?_⟩) HF0.out ?_
            rotate_left
            · first | (intro w hw; obtain ⟨q1, q2, q3, q4, q5⟩ := hw; go_simp; done) | (intro w hw; obtain ⟨q1, q2, q3, q4, q5⟩ := hw; go_simp; with_reducible rfl)
            refine wpAnyK_take (i := 25) (v := ?_) rfl (by kernel_rfl) (fun _ _ _ h => h) (Or.inl ⟨by kernel_rfl, ?_⟩) HF0.out ?_
            rotate_left
            · first | (intro w hw; obtain ⟨q1, q2, q3, q4, q5⟩ := hw; go_simp; done) | (intro w hw; obtain ⟨q1, q2, q3, q4, q5⟩ := hw; go_simp; with_reducible rfl)
            refine wpAnyK_take (i := 26) (v := ?_) rfl (by kernel_rfl) (fun _ _ _ h => h) (Or.inl ⟨by kernel_rfl, ?_⟩) HF0.out ?_
            rotate_left
            · first | (intro w hw; obtain ⟨q1, q2, q3, q4, q5⟩ := hw; go_simp; done) | (intro w hw; obtain ⟨q1, q2, q3, q4, q5⟩ := hw; go_simp; with_reducible rfl)
            refine wpAnyK_take (i := 27) (v := ?_) rfl (by kernel_rfl) (fun _ _ _ h => h) (Or.inl ⟨by kernel_rfl, ?_⟩) HF0.out ?_
            rotate_left
            · first | (intro w hw; obtain ⟨q1, q2, q3, q4, q5⟩ := hw; go_simp; done) | (intro w hw; obtain ⟨q1, q2, q3, q4, q5⟩ := hw; go_simp; with_reducible rfl)
            refine wpAnyK_take (i := 28) (v := ?_) rfl (by kernel_rfl) (fun _ _ _ h => h) (Or.inl ⟨by kernel_rfl, ?_⟩) HF0.out ?_
            rotate_left
            · first | (intro w hw; obtain ⟨q1, q2, q3, q4, q5⟩ := hw; go_simp; done) | (intro w hw; obtain ⟨q1, q2, q3, q4, q5⟩ := hw; go_simp; with_reducible rfl)
            refine wpAnyK_take (i := 29) (v := ?_) rfl (by kernel_rfl) (fun _ _ _ h => h) (Or.inl ⟨by kernel_rfl, ?_⟩) HF0.out ?_
            rotate_left
            · first | (intro w hw; obtain ⟨q1, q2, q3, q4, q5⟩ := hw; go_simp; done) | (intro w hw; obtain ⟨q1, q2, q3, q4, q5⟩ := hw; go_simp; with_reducible rfl)
            refine wpAnyK_take (i := 30) (v := ?_) rfl (by kernel_rfl) (fun _ _ _ h => h) (Or.inl ⟨by kernel_rfl, ?_⟩) HF0.out ?_
            rotate_left
            · first | (intro w hw; obtain ⟨q1, q2, q3, q4, q5⟩ := hw; go_simp; done) | (intro w hw; obtain ⟨q1, q2, q3, q4, q5⟩ := hw; go_simp; with_reducible rfl)
            refine wpAnyK_take (i := 31) (v := ?_) rfl (by kernel_rfl) (fun _ _ _ h => h) (Or.inl ⟨by kernel_rfl, ?_⟩) HF0.out ?_
            rotate_left
            · first | (intro w hw; obtain ⟨q1, q2, q3, q4, q5⟩ := hw; go_simp; done) | (intro w hw; obtain ⟨q1, q2, q3, q4, q5⟩ := hw; go_simp; with_reducible rfl)
            refine wpAnyK_take (i := 32) (v := ?_) rfl (by kernel_rfl) (fun _ _ _ h => h) (Or.inl ⟨by kernel_rfl, ?_⟩) HF0.out ?_
            rotate_left
            · first | (intro w hw; obtain ⟨q1, q2, q3, q4, q5⟩ := hw; go_simp; done) | (intro w hw; obtain ⟨q1, q2, q3, q4, q5⟩ := hw; go_simp; with_reducible rfl)
            refine wpAnyK_one (i := 33) (by kernel_rfl) rfl (fun KK hKK => ?_)
            go_simp
            refine hKK.out _ _ (fun h => by cases h) ?_
            clear hKK KK
            refine wpAnyK_done (by kernel_rfl) ?_ _
            refine NoPanic.normal ?_
            go_wp2_with fail
            go_roundw
            case rel => exact ⟨k + 1, hlt, by go_num, ⟨hbr.out.trans (HBD2.out.mono hbr.out.size)⟩⟩
            case measure => simp [intOf]; omega
        · have hgl : a + 1 ≤ L.length + 1 := by omega
          obtain ⟨ga, goo, gcap, j1, j2, j3, j4, j5⟩ := (HGI.out.below hbr.out).get (by intro e; have := congrArg List.length e; rw [zs_len, HGL.out, List.length_nil] at this; omega)
          rw [zs_len, HGL.out] at j1 j2
          obtain ⟨rfl, rfl⟩ : ga0 = some ⟨ga, goo, none⟩ ∧ gc = gcap := by injection j1 with h1 h2 h3; exact ⟨h1, h3⟩
          have hg0 : G[0]? = some 0 := by rw [← HGE.out]; exact goM_get (i := 0) (by omega)
          have hx0 := j5 0 _ (zs_get hg0)
          have HIA := Box.mk (show IntsAt wr (.slice (some ⟨ga, goo, none⟩) (a + 1) gc) (zs (G.take (a + 1))) by
            have h := HGI.out.below hbr.out
            have h2 : IntsAt wr (.slice (some ⟨ga, goo, none⟩) (zs G).length gc) (zs G) := by rw [zs_len, HGL.out]; exact h
            have h3 := ints_take h2 (a + 1)
            rw [← zs_take, zs_len, List.length_take, HGL.out, Nat.min_eq_left hgl] at h3
            exact h3)
          have HIE := Box.mk (ints_eq _ _ (zs (G.take (a + 1))) (zs (G.take (a + 1))) wr HIA.out (HGI2.out.below hbr.out) (by rw [zs_len, List.length_take]; omega) (by rw [zs_len, List.length_take]; omega) |> fun h => yes_of h rfl)
          have hag : a + 1 ≤ gc := by omega
          have s10 : IntKind.i64.wrap ((a : Int) + 1) = ((a + 1 : Nat) : Int) := by rw [IntKind.wrap_i64]; omega
          unfold maxLen at j3
          clear j1 j5 hg0
          go_wp2_with fail
          refine HIE.out.mono ?_; rintro e w6 ⟨rfl, hb6⟩
          have HB6 := Box.mk (below_tr HBWr.out hb6)
          have hx1 : w6.cell? ⟨ga, goo, none⟩ = some (.int .i64 0) := (hb6.cell (p := ⟨ga, goo, none⟩) j4).trans (show _ = some (Value.int .i64 (0 : Int)) from hx0)
          have hj6 : ga < w6.heap.size := Nat.lt_of_lt_of_le j4 hb6.size
          clear hb6 hx0
          go_wp2_with fail
          go_ret
          exact ⟨rfl, HB6.out⟩
end Go.Proofs.YtjemdepcaaadiaaDoor
