/-
  THE LAWS OF LAYER 13, WALKED: by rules that all say that there is a boundary there is one at each place.
-/
import Derived.Test.YtbpcipobdokcfaaGreatDoorH10
namespace Go.Proofs.YtbpcipobdokcfaaGreatDoor
open Go.RowKit Go.Shelf
attribute [local go_sem] Oper.semAt_some

def allR (x : D.Rule) : D.Rule := (x.1, x.2.1, true)
theorem allR_all (R : List D.Rule) : ∀ x ∈ R.map allR, x.2.2 = true := by
  intro y hy
  obtain ⟨x, -, rfl⟩ := List.mem_map.1 hy
  rfl
theorem allR_fit {R : List D.Rule} (h : ∀ x ∈ R, ruleFit x) : ∀ x ∈ R.map allR, ruleFit x := by
  intro y hy
  obtain ⟨x, hx, rfl⟩ := List.mem_map.1 hy
  exact h x hx
theorem cutAt_all {R : List D.Rule} (h : ∀ x ∈ R, x.2.2 = true) (M : D.Mach) (nn : Nat) (L : List Int) (p : Nat) : cutAt R M nn L p = true := by
  unfold cutAt G.isCut
  split
  · rename_i i _
    cases hx : R[i]? with
    | none => rfl
    | some x => exact h x (List.mem_of_getElem? hx)
  · rfl
theorem cutsL_all {R : List D.Rule} (h : ∀ x ∈ R, x.2.2 = true) (M : D.Mach) (nn : Nat) (L : List Int) : cutsL R M nn L = (List.range (L.length + 1)).map (fun n : Nat => (n : Int)) := by
  have hm : ∀ k, midL R M nn L k = (List.range k).map (· + 1) := fun k => by
    unfold midL
    rw [List.filter_eq_self]
    intro p _
    exact cutAt_all h M nn L p
  unfold cutsL
  rw [hm, show (0 :: (List.range (L.length - 1)).map (· + 1)) = List.range (L.length - 1 + 1) from List.range_succ_eq_map.symm]
  rcases Nat.eq_zero_or_pos L.length with h0 | h0
  · rw [h0]; rfl
  · rw [if_pos h0, show L.length - 1 + 1 = L.length by omega, List.range_succ, List.map_append]
    rfl
theorem range_get {n k : Nat} (h : k < n) : ((List.range n).map (fun n : Nat => (n : Int)))[k]? = some (k : Int) := by
  rw [List.getElem?_map, List.getElem?_range h]
  rfl

set_option maxRecDepth 100000 in
set_option maxHeartbeats 8000000 in
theorem law_SegBreaks (A : Nat → Addr) (B : Nat) (v : Value) (rs : List D.Rule) (mv : Value) (M0 : D.Mach) (n : Int) (lv : Value) (l0 : List Int) (w : World) (hv : RulesAt w v rs) (hm : MachAt w mv M0) (hl : IntsAt w lv l0) (hS : Sg A B w) :
    Calls Tryz.prog 6 #[v, mv, .int .i64 n, lv] w fun e w' => e = .returned (.bool true) ∧ Below w.heap.size w w' := by
  have HS := Box.mk hS
  have HV := Box.mk hv
  have HM0 := Box.mk hm
  have HL0 := Box.mk hl
  obtain ⟨ao, cap, rfl⟩ := hv.slice
  obtain ⟨nv0, fv0, rfl, hra0, hia0⟩ := hm
  obtain ⟨na0, nc0, rfl⟩ := hra0.slice
  obtain ⟨fa0, fc0, rfl⟩ := hia0.slice
  obtain ⟨la0, lc0, rfl⟩ := hl.slice
  obtain ⟨V0, hV0⟩ : ∃ V0, V0 = w.alloc (.cells #[.slice na0 M0.1.length nc0, .slice fa0 M0.2.length fc0] 26) := ⟨_, rfl⟩
  have HW0 := Box.mk hV0
  have h00 : Below w.heap.size w V0 := by rw [hV0]; exact alloc_below _ _
  have HB0 := Box.mk h00
  have HK0 := Box.mk (show Blk V0 w.heap.size 26 #[.slice na0 M0.1.length nc0, .slice fa0 M0.2.length fc0] by rw [hV0]; exact Blk.new _ _ _)
  have HSH := Box.mk (shown13_any A B V0 (HS.out.below h00))
  clear hra0 hia0 hl hS hv hV0 h00
  go_enter Tryz.func6, Tryz.ntmps6
  go_upto_region 1 with (fail)
  rw [← HW0.out]
  go_wp2_with fail
  refine HSH.out.mono ?_; rintro e w1 ⟨rfl, hb1⟩
  have HB1 := Box.mk (below_tr HB0.out hb1)
  have HK1 := Box.mk (HK0.out.below hb1 HK0.out.lt)
  have HF := Box.mk (few13_any _ rs w1 (HV.out.below HB1.out))
  clear hb1
  go_wp2_with fail
  refine HF.out.mono ?_; rintro e w2 ⟨hb2, v', rfl, hr2⟩
  obtain ⟨R, hR⟩ : ∃ R, few12 rs = R := ⟨_, rfl⟩
  have hl6 : R.length ≤ 6 := by rw [← hR]; exact few12_len rs
  have HRF := Box.mk (show (∀ x ∈ R, ruleFit x) ∧ R.length ≤ 16777216 by rw [← hR]; exact ⟨few12_fit rs, by have := few12_len rs; omega⟩)
  rw [hR] at hr2
  have HR2 := Box.mk hr2
  have HB2 := Box.mk (below_tr HB1.out hb2)
  have HK2 := Box.mk (HK1.out.below hb2 HK1.out.lt)
  have HLI := Box.mk (list13_any _ l0 w2 (HL0.out.below HB2.out))
  obtain ⟨ro, rc, rfl⟩ := hr2.slice
  have HS0 := Box.mk (show ∃ L : List (D.Rule × Value × Value), L.length = 0 ∧ L.map (·.1) = (R.take 0).map allR ∧ RulesV w2 L ∧ Sep [Pc.row w2.heap.size 44 5 (.slice none 0 0) 0 (L.flatMap ruleC), Pc.old w2.heap.size w2] w2 from
    ⟨[], rfl, rfl, fun y hy => absurd hy List.not_mem_nil, (Sep.start w2).nil_row _ _ _⟩)
  clear hb2 hr2 hR
  go_wp2_with fail
  refine HLI.out.mono ?_; rintro e w2' ⟨⟨lv', rfl, hli⟩, rfl⟩
  have hL30 := list12_len l0
  generalize list12 l0 = LL at hli hL30
  have HLL := Box.mk hli
  have HL30 := Box.mk hL30
  obtain ⟨lo, lc, rfl⟩ := hli.slice
  clear hli HLI hL30
  go_wp2_with fail
  go_loopw [10, 11] (fun o i wr => ∃ k : Nat, k ≤ R.length ∧ i = .int .i64 k ∧ Box (∃ L : List (D.Rule × Value × Value), L.length = k ∧ L.map (·.1) = (R.take k).map allR ∧ RulesV w2 L ∧ Sep [Pc.row w2.heap.size 44 5 o k (L.flatMap ruleC), Pc.old w2.heap.size w2] wr)) (fun _ i _ => R.length - (intOf i).toNat)
  case atStart => exact ⟨0, by omega, rfl, HS0⟩
  case round =>
    obtain ⟨k, hk, rfl, hbox⟩ := hrel
    obtain ⟨L, hL1, hL2, hL3, hsep⟩ := hbox.out
    have HBR := Box.mk (show Below w2.heap.size w2 wr from hsep.bel (by simp))
    have HL1 := Box.mk hL1
    have HL2 := Box.mk hL2
    have HL3 := Box.mk hL3
    have HSEP := Box.mk hsep
    obtain ⟨oo, oc, rfl, ho1, ho2⟩ := own_shape (hsep.row 0 rfl)
    clear hbox hL1 hL2 hL3 hsep
    by_cases hlt : k < R.length
    · obtain ⟨x, hx⟩ : ∃ x, R[k]? = some x := ⟨_, List.getElem?_eq_getElem hlt⟩
      obtain ⟨bg, off, cap2, kg1, kg2, kg3, kg4, kg5⟩ := HR2.out.get (by rintro rfl; simp at hlt)
      obtain ⟨rfl, rfl⟩ : ro = some ⟨bg, off, none⟩ ∧ rc = cap2 := by injection kg1 with h1 h2 h3; exact ⟨h1, h3⟩
      obtain ⟨vl, vr, kc0, kc1, kc2, kc3, kc4, kil, kir⟩ := kg5 k x hx
      have HKL := Box.mk kil
      have HKR := Box.mk kir
      have HTK := Box.mk (take_snoc'' R k x hx)
      unfold maxLen at kg3
      have hkc : k < rc := by omega
      obtain ⟨al, cl, hv2⟩ := kil.slice
      obtain ⟨ar, cr, hv3⟩ := kir.slice
      obtain ⟨⟨stl, il⟩, ⟨str, ir⟩, br⟩ := x
      simp only at kc0 kc1 kc2 kc3 kc4 HKL HKR hv2 hv3
      generalize il.length = nl at hv2
      generalize ir.length = nr at hv3
      subst hv2 hv3
      have HFF := Box.mk (show ∀ W, Below w2.heap.size w2 W → W.cell? ⟨bg, off + k * 5, none⟩ = some (.bool stl) ∧ W.cell? ⟨bg, off + k * 5 + 1, none⟩ = some (.slice al nl cl) ∧ W.cell? ⟨bg, off + k * 5 + 2, none⟩ = some (.bool str) ∧ W.cell? ⟨bg, off + k * 5 + 3, none⟩ = some (.slice ar nr cr) from fun W h =>
        ⟨(h.cell (p := ⟨bg, off + k * 5, none⟩) kg4).trans kc0, (h.cell (p := ⟨bg, off + k * 5 + 1, none⟩) kg4).trans kc1, (h.cell (p := ⟨bg, off + k * 5 + 2, none⟩) kg4).trans kc2, (h.cell (p := ⟨bg, off + k * 5 + 3, none⟩) kg4).trans kc3⟩)
      have HBD := Box.mk (show Below wr.heap.size wr wr.drew from ⟨rfl, rfl, rfl, Nat.le_refl _, fun _ _ => rfl⟩)
      have HBW := Box.mk (HBR.out.trans (HBD.out.mono HBR.out.size))
      have HSD := Box.mk HSEP.out.drew
      have hbsd : w2.heap.size ≤ wr.drew.heap.size := HBW.out.size
      clear kg1 kg5 kil kir kc0 kc1 kc2 kc3 kc4 hx kg2
      go_wp2_with fail
      refine wp_region_K 13 (fun W => W.cell? ⟨bg, off + k * 5, none⟩ = some (.bool stl) ∧ W.cell? ⟨bg, off + k * 5 + 1, none⟩ = some (.slice al nl cl) ∧ W.cell? ⟨bg, off + k * 5 + 2, none⟩ = some (.bool str) ∧ W.cell? ⟨bg, off + k * 5 + 3, none⟩ = some (.slice ar nr cr)) (by kernel_rfl) ?_
      have HF0 := Box.mk (HFF.out _ HBW.out)
      have HFA := Box.mk (fun o => HFF.out _ (HBW.out.alloc HBW.out.size o))
      generalize wr.drew = WR at *
      refine wpAnyK_take (i := 0) (v := ?_) rfl (by kernel_rfl) (fun _ _ _ h => h) (Or.inl ⟨by kernel_rfl, ?_⟩) HF0.out ?_
      rotate_left
      · first | (intro w hw; obtain ⟨q1, q2, q3, q4⟩ := hw; go_simp; done) | (intro w hw; obtain ⟨q1, q2, q3, q4⟩ := hw; go_simp; with_reducible rfl)
      refine wpAnyK_take (i := 1) (v := ?_) rfl (by kernel_rfl) (fun _ _ _ h => h) (Or.inl ⟨by kernel_rfl, ?_⟩) HF0.out ?_
      rotate_left
      · first | (intro w hw; obtain ⟨q1, q2, q3, q4⟩ := hw; go_simp; done) | (intro w hw; obtain ⟨q1, q2, q3, q4⟩ := hw; go_simp; with_reducible rfl)
      refine wpAnyK_take (i := 2) (v := ?_) rfl (by kernel_rfl) (fun _ _ _ h => h) (Or.inl ⟨by kernel_rfl, ?_⟩) HF0.out ?_
      rotate_left
      · first | (intro w hw; obtain ⟨q1, q2, q3, q4⟩ := hw; go_simp; done) | (intro w hw; obtain ⟨q1, q2, q3, q4⟩ := hw; go_simp; with_reducible rfl)
      refine wpAnyK_take (i := 3) (v := ?_) rfl (by kernel_rfl) (fun _ _ _ h => h) (Or.inl ⟨by kernel_rfl, ?_⟩) HF0.out ?_
      rotate_left
      · first | (intro w hw; obtain ⟨q1, q2, q3, q4⟩ := hw; go_simp; done) | (intro w hw; obtain ⟨q1, q2, q3, q4⟩ := hw; go_simp; with_reducible rfl)
      refine wpAnyK_take (i := 4) (v := ?_) rfl (by kernel_rfl) (fun _ _ _ h => h) (Or.inl ⟨by kernel_rfl, ?_⟩) HF0.out ?_
      rotate_left
      · first | (intro w hw; obtain ⟨q1, q2, q3, q4⟩ := hw; go_simp; done) | (intro w hw; obtain ⟨q1, q2, q3, q4⟩ := hw; go_simp; with_reducible rfl)
      refine wpAnyK_take (i := 5) (v := ?_) rfl (by kernel_rfl) (fun _ _ _ h => h) (Or.inl ⟨by kernel_rfl, ?_⟩) HF0.out ?_
      rotate_left
      · first | (intro w hw; obtain ⟨q1, q2, q3, q4⟩ := hw; go_simp; done) | (intro w hw; obtain ⟨q1, q2, q3, q4⟩ := hw; go_simp; with_reducible rfl)
      refine wpAnyK_take (i := 6) (v := ?_) rfl (by kernel_rfl) (fun _ _ _ h => h) (Or.inl ⟨by kernel_rfl, ?_⟩) HF0.out ?_
      rotate_left
      · first | (intro w hw; obtain ⟨q1, q2, q3, q4⟩ := hw; go_simp; done) | (intro w hw; obtain ⟨q1, q2, q3, q4⟩ := hw; go_simp; with_reducible rfl)
      refine wpAnyK_take (i := 7) (v := ?_) rfl (by kernel_rfl) (fun _ _ _ h => h) (Or.inl ⟨by kernel_rfl, ?_⟩) HF0.out ?_
      rotate_left
      · first | (intro w hw; obtain ⟨q1, q2, q3, q4⟩ := hw; go_simp; done) | (intro w hw; obtain ⟨q1, q2, q3, q4⟩ := hw; go_simp; with_reducible rfl)
      refine wpAnyK_take (i := 8) (v := ?_) rfl (by kernel_rfl) (fun _ _ _ h => h) (Or.inl ⟨by kernel_rfl, ?_⟩) HF0.out ?_
      rotate_left
      · first | (intro w hw; obtain ⟨q1, q2, q3, q4⟩ := hw; go_simp; done) | (intro w hw; obtain ⟨q1, q2, q3, q4⟩ := hw; go_simp; with_reducible rfl)
      refine wpAnyK_take (i := 9) (v := ?_) rfl (by kernel_rfl) (fun _ _ _ h => h) (Or.inl ⟨by kernel_rfl, ?_⟩) HF0.out ?_
      rotate_left
      · first | (intro w hw; obtain ⟨q1, q2, q3, q4⟩ := hw; go_simp; done) | (intro w hw; obtain ⟨q1, q2, q3, q4⟩ := hw; go_simp; with_reducible rfl)
      refine wpAnyK_take (i := 10) (v := ?_) rfl (by kernel_rfl) (fun _ _ _ h => h) (Or.inl ⟨by kernel_rfl, ?_⟩) HF0.out ?_
      rotate_left
      · first | (intro w hw; obtain ⟨q1, q2, q3, q4⟩ := hw; go_simp; done) | (intro w hw; obtain ⟨q1, q2, q3, q4⟩ := hw; go_simp; with_reducible rfl)
      refine wpAnyK_take (i := 11) (v := ?_) rfl (by kernel_rfl) (fun _ _ _ h => h) (Or.inl ⟨by kernel_rfl, ?_⟩) HF0.out ?_
      rotate_left
      · first | (intro w hw; obtain ⟨q1, q2, q3, q4⟩ := hw; go_simp; done) | (intro w hw; obtain ⟨q1, q2, q3, q4⟩ := hw; go_simp; with_reducible rfl)
      refine wpAnyK_one (i := 12) (by kernel_rfl) rfl (fun KK hKK => ?_)
      go_simp
      refine hKK.out _ _ (fun _ => HFA.out _) ?_
      clear hKK KK
      refine wpAnyK_one (i := 13) (by kernel_rfl) rfl (fun KK hKK => ?_)
      refine step_pushN (cs := ruleC (allR ((stl, il), (str, ir), br), .slice al nl cl, .slice ar nr cr)) rfl _ _ 22 rfl pushRule (by decide) HSD.out 0 rfl (by kernel_rfl) (by kernel_rfl) rfl (by intro u hu; simp only [ruleC, List.mem_cons, List.not_mem_nil, or_false] at hu; rcases hu with rfl | rfl | rfl | rfl | rfl <;> rfl) (by omega) (by omega) hbsd ?_
      rintro v' w9 hS9 -
      refine hKK.out _ _ (fun h => by cases h) ?_
      clear hKK KK
      refine wpAnyK_one (i := 14) (by kernel_rfl) rfl (fun KK hKK => ?_)
      go_simp
      refine hKK.out _ _ (fun h => by cases h) ?_
      clear hKK KK
      refine wpAnyK_done (by kernel_rfl) ?_ _
      refine NoPanic.normal ?_
      have HN := Box.mk (show ∃ L : List (D.Rule × Value × Value), L.length = k + 1 ∧ L.map (·.1) = (R.take (k + 1)).map allR ∧ RulesV w2 L ∧ Sep [Pc.row w2.heap.size 44 5 v' (k + 1) (L.flatMap ruleC), Pc.old w2.heap.size w2] w9 by
        refine ⟨L ++ [(allR ((stl, il), (str, ir), br), .slice al nl cl, .slice ar nr cr)], ?_, ?_, ?_, ?_⟩
        · rw [List.length_append, HL1.out]; rfl
        · rw [List.map_append, HL2.out, HTK.out, List.map_append]; rfl
        · intro y hy
          rcases List.mem_append.1 hy with h | h
          · exact HL3.out y h
          · rw [List.mem_singleton.1 h]; exact ⟨HKL.out, HKR.out⟩
        · rw [List.flatMap_append, List.flatMap_singleton]; exact hS9)
      clear hS9
      go_wp2_with fail
      go_roundw
      case rel => exact ⟨k + 1, hlt, by go_num, HN⟩
      case measure => simp [intOf]; omega
    · have hkm : k = R.length := by omega
      have HBW := Box.mk (below_tr HB2.out HBR.out)
      have HRB := Box.mk (show RulesAt wr (.slice oo R.length oc) (R.map allR) by
        have h1 : L.map (·.1) = R.map allR := by rw [HL2.out, hkm, List.take_length]
        rw [← h1, ← hkm]
        exact rules_own (HSEP.out.row 0 rfl) HL1.out.symm (fun y hy => ⟨(HL3.out y hy).1.below HBR.out, (HL3.out y hy).2.below HBR.out⟩))
      rw [hkm] at ho1 ⊢
      have HKR := Box.mk (HK2.out.below HBR.out HK2.out.lt)
      have a0 : wr.cell? ⟨w.heap.size, 0, none⟩ = some (.slice na0 M0.1.length nc0) := (HKR.out.cell 0).trans rfl
      have a1 : wr.cell? ⟨w.heap.size, 1, none⟩ = some (.slice fa0 M0.2.length fc0) := (HKR.out.cell 1).trans rfl
      have a2 := HKR.out.lt
      have HT := Box.mk (table_any _ M0 wr (HM0.out.below HBW.out))
      clear hkm hlt hk
      go_wp2_with fail
      refine HT.out.mono ?_; rintro e w3 ⟨hb3, nv3, fv3, rfl, -, hra3, hia3⟩
      obtain ⟨M, hM⟩ : ∃ M, tableM M0 = M := ⟨_, rfl⟩
      have HFT := Box.mk (show MachFit M by rw [← hM]; exact tableM_fit M0)
      rw [hM] at hra3 hia3
      have HM3 := Box.mk (show MachAt w3 (.agg #[nv3, fv3]) M from ⟨_, _, rfl, hra3, hia3⟩)
      have HB3 := Box.mk (below_tr HBW.out hb3)
      have HC := Box.mk (cuts_any A B (.slice oo R.length oc) (R.map allR) _ M n (.slice lo LL.length lc) LL w3 (HRB.out.below hb3) (allR_fit HRF.out.1) (by rw [List.length_map]; exact HRF.out.2) HM3.out HFT.out ((HLL.out.below HBR.out).below hb3) (by have := HL30.out; omega) (HS.out.below HB3.out).d (HS.out.below HB3.out).g (HS.out.below HB3.out).le)
      clear hb3 hra3 hia3 hM a0 a1 a2
      go_wp2_with fail
      refine HC.out.mono ?_; rintro e w4 ⟨hb4, ⟨-, cv, rfl, hc⟩ | ⟨-, rfl⟩⟩
      rotate_left
      · have HB4 := Box.mk (below_tr HB3.out hb4)
        clear hb4
        go_wp2_with fail
        go_ret
        exact ⟨rfl, HB4.out⟩
      have HB4 := Box.mk (below_tr HB3.out hb4)
      rw [cutsL_all (allR_all R)] at hc
      have HCI := Box.mk hc
      obtain ⟨co, cc, rfl⟩ := hc.slice
      rw [List.length_map, List.length_range] at HCI ⊢
      have hl30 := HL30.out
      clear hb4 hc
      go_wp2_with fail
      go_loopw [14] (fun i w5 => ∃ q : Nat, q ≤ LL.length + 1 ∧ i = .int .i64 q ∧ Box (Below w4.heap.size w4 w5)) (fun i _ => LL.length + 1 - (intOf i).toNat)
      case atStart => exact ⟨0, by omega, rfl, ⟨Below.refl _ _⟩⟩
      case round =>
        obtain ⟨q, hq, rfl, hb⟩ := hrel
        by_cases hql : q < LL.length + 1
        · obtain ⟨g, off, cap2, hg1, hg2, hg3, hg4, hg5⟩ := (HCI.out.below hb.out).get (by intro e; have := congrArg List.length e; simp at this)
          rw [List.length_map, List.length_range] at hg1 hg2
          obtain ⟨rfl, rfl⟩ : co = some ⟨g, off, none⟩ ∧ cc = cap2 := by injection hg1 with h1 h2 h3; exact ⟨h1, h3⟩
          have hcq := hg5 q _ (range_get hql)
          unfold maxLen at hg3
          clear hg1 hg5
          go_wp2_with fail
          go_roundw
          case rel => exact ⟨q + 1, hql, by go_num, hb⟩
          case measure => simp [intOf]; omega
        · obtain rfl : q = LL.length + 1 := by omega
          go_wp2_with fail
          go_ret
          exact ⟨rfl, below_tr HB4.out hb.out⟩
end Go.Proofs.YtbpcipobdokcfaaGreatDoor
