/-
  THE LAWS OF LAYER 12, WALKED: a machine hangs on the rules' left sides alone.
-/
import Derived.Test.YtjemdepcaaadiaaDoorHDf6
import Derived.Test.YtjemdepcaaadiaaDoorH8
namespace Go.Proofs.YtjemdepcaaadiaaDoor
open Go.RowKit Go.Shelf
attribute [local go_sem] Oper.semAt_some

/-- a rule's left side alone -/
def bareR (x : D.Rule) : D.Rule := (x.1, (false, []), !x.2.2)
theorem bare_lefts (R : List D.Rule) : lefts (R.map bareR) = lefts R := by unfold lefts; rw [List.map_map]; rfl
theorem bare_right {n : Int} {R : List D.Rule} (h : rulesB n R = true) : rulesB n (R.map bareR) = true := by
  obtain ⟨h1, h2, h3, -⟩ := rulesB_parts h
  unfold rulesB at h ⊢
  simp only [Bool.and_eq_true, decide_eq_true_eq] at h ⊢
  refine ⟨⟨⟨h1, h2⟩, by rw [List.length_map]; exact h3⟩, ?_⟩
  rw [List.all_eq_true] at h ⊢
  intro y hy
  obtain ⟨x, hx, rfl⟩ := List.mem_map.1 hy
  have hb := ruleB_left (h.2 x hx)
  unfold ruleB bareR
  simp only
  rw [hb]
  unfold rightN
  rw [decide_eq_true h1, decide_eq_true h2]
  rfl
theorem comp_bare {n : Int} {R : List D.Rule} (h : rulesB n R = true) : compCode (R.map bareR) n = compCode R n ∧ compM (R.map bareR) n = compM R n := by
  unfold compCode compM
  rw [bare_right h, h, bare_lefts]
  exact ⟨rfl, rfl⟩
theorem bare_fit {R : List D.Rule} (h : ∀ x ∈ R, ruleFit x) : ∀ x ∈ R.map bareR, ruleFit x := by
  intro y hy
  obtain ⟨x, hx, rfl⟩ := List.mem_map.1 hy
  exact ⟨(h x hx).1, by show ([] : List N.Item).length ≤ 16777216; simp⟩

set_option maxRecDepth 100000 in
set_option maxHeartbeats 8000000 in
theorem law_DfaLefts (A : Nat → Addr) (B : Nat) (v : Value) (rs : List D.Rule) (n : Int) (w : World) (hv : RulesAt w v rs) (hS : Sd A B w) :
    Calls Tryd.prog 5 #[v, .int .i64 n] w fun e w' => e = .returned (.bool true) ∧ Below w.heap.size w w' := by
  have HS := Box.mk hS
  have HV := Box.mk hv
  obtain ⟨ao, cap, rfl⟩ := hv.slice
  clear hS hv
  go_enter Tryd.func5, Tryd.ntmps5
  go_wp2_with fail
  refine (shown12_any A B w HS.out).mono ?_; rintro e w1 ⟨rfl, hb1⟩
  have HF := Box.mk (few12_any _ rs w1 (HV.out.below hb1))
  have HB1 := Box.mk hb1
  clear hb1
  go_wp2_with fail
  refine HF.out.mono ?_; rintro e w2 ⟨hb2, v', rfl, hr2⟩
  obtain ⟨R, hR⟩ : ∃ R, few12 rs = R := ⟨_, rfl⟩
  have hl6 : R.length ≤ 6 := by rw [← hR]; exact few12_len rs
  have HRF := Box.mk (show (∀ x ∈ R, ruleFit x) ∧ R.length ≤ 16777216 by rw [← hR]; exact ⟨few12_fit rs, by have := few12_len rs; omega⟩)
  rw [hR] at hr2
  have HR2 := Box.mk hr2
  have HB2 := Box.mk (below_tr HB1.out hb2)
  obtain ⟨ro, rc, rfl⟩ := hr2.slice
  have HS0 := Box.mk (show ∃ L : List (D.Rule × Value × Value), L.length = 0 ∧ L.map (·.1) = (R.take 0).map bareR ∧ RulesV w2 L ∧ Sep [Pc.row w2.heap.size 46 5 (.slice none 0 0) 0 (L.flatMap ruleC), Pc.old w2.heap.size w2] w2 from
    ⟨[], rfl, rfl, fun y hy => absurd hy List.not_mem_nil, (Sep.start w2).nil_row _ _ _⟩)
  clear hb2 hr2 hR
  go_wp2_with fail
  go_loopw [6, 7] (fun o i wr => ∃ k : Nat, k ≤ R.length ∧ i = .int .i64 k ∧ Box (∃ L : List (D.Rule × Value × Value), L.length = k ∧ L.map (·.1) = (R.take k).map bareR ∧ RulesV w2 L ∧ Sep [Pc.row w2.heap.size 46 5 o k (L.flatMap ruleC), Pc.old w2.heap.size w2] wr)) (fun _ i _ => R.length - (intOf i).toNat)
  case atStart => exact ⟨0, by omega, rfl, HS0⟩
  case round =>
    obtain ⟨k, hk, rfl, hbox⟩ := hrel
    obtain ⟨L, hL1, hL2, hL3, hsep⟩ := hbox.out
    have HBR := Box.mk (show Below w2.heap.size w2 wr from hsep.bel (by simp))
    have HL1 := Box.mk hL1
    have HL2 := Box.mk hL2
    have HL3 := Box.mk hL3
    have HSEP := Box.mk hsep
    obtain ⟨oo, oc, rfl, ho1, ho2⟩ := own_shape (hsep.row 0 rfl)
    clear hbox hL1 hL2 hL3 hsep
    by_cases hlt : k < R.length
    · obtain ⟨x, hx⟩ : ∃ x, R[k]? = some x := ⟨_, List.getElem?_eq_getElem hlt⟩
      obtain ⟨bg, off, cap2, kg1, kg2, kg3, kg4, kg5⟩ := HR2.out.get (by rintro rfl; simp at hlt)
      obtain ⟨rfl, rfl⟩ : ro = some ⟨bg, off, none⟩ ∧ rc = cap2 := by injection kg1 with h1 h2 h3; exact ⟨h1, h3⟩
      obtain ⟨vl, vr, kc0, kc1, kc2, kc3, kc4, kil, kir⟩ := kg5 k x hx
      have HKL := Box.mk kil
      have HTK := Box.mk (take_snoc'' R k x hx)
      unfold maxLen at kg3
      have hkc : k < rc := by omega
      obtain ⟨al, cl, hv2⟩ := kil.slice
      obtain ⟨⟨stl, il⟩, ⟨str, ir⟩, br⟩ := x
      simp only at kc0 kc1 kc2 kc3 kc4 HKL hv2
      generalize il.length = nl at hv2
      subst hv2
      have HFF := Box.mk (show ∀ W, Below w2.heap.size w2 W → W.cell? ⟨bg, off + k * 5, none⟩ = some (.bool stl) ∧ W.cell? ⟨bg, off + k * 5 + 1, none⟩ = some (.slice al nl cl) ∧ W.cell? ⟨bg, off + k * 5 + 4, none⟩ = some (.bool br) from fun W h =>
        ⟨(h.cell (p := ⟨bg, off + k * 5, none⟩) kg4).trans kc0, (h.cell (p := ⟨bg, off + k * 5 + 1, none⟩) kg4).trans kc1, (h.cell (p := ⟨bg, off + k * 5 + 4, none⟩) kg4).trans kc4⟩)
      have HBD := Box.mk (show Below wr.heap.size wr wr.drew from ⟨rfl, rfl, rfl, Nat.le_refl _, fun _ _ => rfl⟩)
      have HBW := Box.mk (HBR.out.trans (HBD.out.mono HBR.out.size))
      have HSD := Box.mk HSEP.out.drew
      have hbsd : w2.heap.size ≤ wr.drew.heap.size := HBW.out.size
      clear kg1 kg5 kil kir kc0 kc1 kc2 kc3 kc4 hx kg2
      go_wp2_with fail
      refine wp_region_K 14 (fun W => W.cell? ⟨bg, off + k * 5, none⟩ = some (.bool stl) ∧ W.cell? ⟨bg, off + k * 5 + 1, none⟩ = some (.slice al nl cl) ∧ W.cell? ⟨bg, off + k * 5 + 4, none⟩ = some (.bool br)) (by kernel_rfl) ?_
      have HF0 := Box.mk (HFF.out _ HBW.out)
      have HFA := Box.mk (fun o => HFF.out _ (HBW.out.alloc HBW.out.size o))
      generalize wr.drew = WR at *
      refine wpAnyK_take (i := 0) (v := ?_) rfl (by kernel_rfl) (fun _ _ _ h => h) (Or.inl ⟨by kernel_rfl, ?_⟩) HF0.out ?_
      rotate_left
      · first | (intro w hw; obtain ⟨q1, q2, q3⟩ := hw; go_simp; done) | (intro w hw; obtain ⟨q1, q2, q3⟩ := hw; go_simp; with_reducible rfl)
      refine wpAnyK_take (i := 1) (v := ?_) rfl (by kernel_rfl) (fun _ _ _ h => h) (Or.inl ⟨by kernel_rfl, ?_⟩) HF0.out ?_
      rotate_left
      · first | (intro w hw; obtain ⟨q1, q2, q3⟩ := hw; go_simp; done) | (intro w hw; obtain ⟨q1, q2, q3⟩ := hw; go_simp; with_reducible rfl)
      refine wpAnyK_take (i := 2) (v := ?_) rfl (by kernel_rfl) (fun _ _ _ h => h) (Or.inl ⟨by kernel_rfl, ?_⟩) HF0.out ?_
      rotate_left
      · first | (intro w hw; obtain ⟨q1, q2, q3⟩ := hw; go_simp; done) | (intro w hw; obtain ⟨q1, q2, q3⟩ := hw; go_simp; with_reducible rfl)
      refine wpAnyK_take (i := 3) (v := ?_) rfl (by kernel_rfl) (fun _ _ _ h => h) (Or.inl ⟨by kernel_rfl, ?_⟩) HF0.out ?_
      rotate_left
      · first | (intro w hw; obtain ⟨q1, q2, q3⟩ := hw; go_simp; done) | (intro w hw; obtain ⟨q1, q2, q3⟩ := hw; go_simp; with_reducible rfl)
      refine wpAnyK_take (i := 4) (v := ?_) rfl (by kernel_rfl) (fun _ _ _ h => h) (Or.inl ⟨by kernel_rfl, ?_⟩) HF0.out ?_
      rotate_left
      · first | (intro w hw; obtain ⟨q1, q2, q3⟩ := hw; go_simp; done) | (intro w hw; obtain ⟨q1, q2, q3⟩ := hw; go_simp; with_reducible rfl)
      refine wpAnyK_take (i := 5) (v := ?_) rfl (by kernel_rfl) (fun _ _ _ h => h) (Or.inl ⟨by kernel_rfl, ?_⟩) HF0.out ?_
      rotate_left
      · first | (intro w hw; obtain ⟨q1, q2, q3⟩ := hw; go_simp; done) | (intro w hw; obtain ⟨q1, q2, q3⟩ := hw; go_simp; with_reducible rfl)
      refine wpAnyK_take (i := 6) (v := ?_) rfl (by kernel_rfl) (fun _ _ _ h => h) (Or.inl ⟨by kernel_rfl, ?_⟩) HF0.out ?_
      rotate_left
      · first | (intro w hw; obtain ⟨q1, q2, q3⟩ := hw; go_simp; done) | (intro w hw; obtain ⟨q1, q2, q3⟩ := hw; go_simp; with_reducible rfl)
      refine wpAnyK_take (i := 7) (v := ?_) rfl (by kernel_rfl) (fun _ _ _ h => h) (Or.inl ⟨by kernel_rfl, ?_⟩) HF0.out ?_
      rotate_left
      · first | (intro w hw; obtain ⟨q1, q2, q3⟩ := hw; go_simp; done) | (intro w hw; obtain ⟨q1, q2, q3⟩ := hw; go_simp; with_reducible rfl)
      refine wpAnyK_take (i := 8) (v := ?_) rfl (by kernel_rfl) (fun _ _ _ h => h) (Or.inl ⟨by kernel_rfl, ?_⟩) HF0.out ?_
      rotate_left
      · first | (intro w hw; obtain ⟨q1, q2, q3⟩ := hw; go_simp; done) | (intro w hw; obtain ⟨q1, q2, q3⟩ := hw; go_simp; with_reducible rfl)
      refine wpAnyK_take (i := 9) (v := ?_) rfl (by kernel_rfl) (fun _ _ _ h => h) (Or.inl ⟨by kernel_rfl, ?_⟩) HF0.out ?_
      rotate_left
      · first | (intro w hw; obtain ⟨q1, q2, q3⟩ := hw; go_simp; done) | (intro w hw; obtain ⟨q1, q2, q3⟩ := hw; go_simp; with_reducible rfl)
      refine wpAnyK_take (i := 10) (v := ?_) rfl (by kernel_rfl) (fun _ _ _ h => h) (Or.inl ⟨by kernel_rfl, ?_⟩) HF0.out ?_
      rotate_left
      · first | (intro w hw; obtain ⟨q1, q2, q3⟩ := hw; go_simp; done) | (intro w hw; obtain ⟨q1, q2, q3⟩ := hw; go_simp; with_reducible rfl)
      refine wpAnyK_take (i := 11) (v := ?_) rfl (by kernel_rfl) (fun _ _ _ h => h) (Or.inl ⟨by kernel_rfl, ?_⟩) HF0.out ?_
      rotate_left
      · first | (intro w hw; obtain ⟨q1, q2, q3⟩ := hw; go_simp; done) | (intro w hw; obtain ⟨q1, q2, q3⟩ := hw; go_simp; with_reducible rfl)
      refine wpAnyK_take (i := 12) (v := ?_) rfl (by kernel_rfl) (fun _ _ _ h => h) (Or.inl ⟨by kernel_rfl, ?_⟩) HF0.out ?_
      rotate_left
      · first | (intro w hw; obtain ⟨q1, q2, q3⟩ := hw; go_simp; done) | (intro w hw; obtain ⟨q1, q2, q3⟩ := hw; go_simp; with_reducible rfl)
      refine wpAnyK_one (i := 13) (by kernel_rfl) rfl (fun KK hKK => ?_)
      go_simp
      refine hKK.out _ _ (fun _ => HFA.out _) ?_
      clear hKK KK
      refine wpAnyK_one (i := 14) (by kernel_rfl) rfl (fun KK hKK => ?_)
      refine step_pushN (cs := ruleC (bareR ((stl, il), (str, ir), br), .slice al nl cl, .slice none 0 0)) rfl _ _ 22 rfl pushRule (by decide) HSD.out 0 rfl (by kernel_rfl) (by kernel_rfl) rfl (by intro u hu; simp only [ruleC, List.mem_cons, List.not_mem_nil, or_false] at hu; rcases hu with rfl | rfl | rfl | rfl | rfl <;> rfl) (by omega) (by omega) hbsd ?_
      rintro v' w9 hS9 -
      refine hKK.out _ _ (fun h => by cases h) ?_
      clear hKK KK
      refine wpAnyK_one (i := 15) (by kernel_rfl) rfl (fun KK hKK => ?_)
      go_simp
      refine hKK.out _ _ (fun h => by cases h) ?_
      clear hKK KK
      refine wpAnyK_done (by kernel_rfl) ?_ _
      refine NoPanic.normal ?_
      have HN := Box.mk (show ∃ L : List (D.Rule × Value × Value), L.length = k + 1 ∧ L.map (·.1) = (R.take (k + 1)).map bareR ∧ RulesV w2 L ∧ Sep [Pc.row w2.heap.size 46 5 v' (k + 1) (L.flatMap ruleC), Pc.old w2.heap.size w2] w9 by
        refine ⟨L ++ [(bareR ((stl, il), (str, ir), br), .slice al nl cl, .slice none 0 0)], ?_, ?_, ?_, ?_⟩
        · rw [List.length_append, HL1.out]; rfl
        · rw [List.map_append, HL2.out, HTK.out, List.map_append]; rfl
        · intro y hy
          rcases List.mem_append.1 hy with h | h
          · exact HL3.out y h
          · rw [List.mem_singleton.1 h]; exact ⟨HKL.out, .inl ⟨rfl, rfl⟩⟩
        · rw [List.flatMap_append, List.flatMap_singleton]; exact hS9)
      clear hS9
      go_wp2_with fail
      go_roundw
      case rel => exact ⟨k + 1, hlt, by go_num, HN⟩
      case measure => simp [intOf]; omega
    · have hkm : k = R.length := by omega
      have HBW := Box.mk (below_tr HB2.out HBR.out)
      have HRB := Box.mk (show RulesAt wr (.slice oo R.length oc) (R.map bareR) by
        have h1 : L.map (·.1) = R.map bareR := by rw [HL2.out, hkm, List.take_length]
        rw [← h1, ← hkm]
        exact rules_own (HSEP.out.row 0 rfl) HL1.out.symm (fun y hy => ⟨(HL3.out y hy).1.below HBR.out, (HL3.out y hy).2.below HBR.out⟩))
      have HR3 := Box.mk (HR2.out.below HBR.out)
      rw [hkm] at ho1 ⊢
      have HC := Box.mk (compile_any A B _ R n wr HRF.out.1 HR3.out HRF.out.2 (HS.out.below HBW.out).e (HS.out.below HBW.out).d (HS.out.below HBW.out).le)
      clear hkm hlt hk
      go_wp2_with fail
      refine HC.out.mono ?_; rintro e w3 ⟨hb3, m1, rfl, hm1⟩
      have HM1 := Box.mk hm1
      obtain ⟨nv1, fv1, rfl, hra, hia⟩ := hm1
      obtain ⟨na1, nc1, rfl⟩ := hra.slice
      obtain ⟨fa1, fc1, rfl⟩ := hia.slice
      obtain ⟨V3, hV3⟩ : ∃ V3, V3 = w3.alloc (.cells #[.slice na1 (compM R n).1.length nc1, .slice fa1 (compM R n).2.length fc1] 28) := ⟨_, rfl⟩
      have h33 : Below w3.heap.size w3 V3 := by rw [hV3]; exact alloc_below _ _
      have h3 := below_tr hb3 h33
      have HB3 := Box.mk (below_tr HBW.out h3)
      have HM1' := Box.mk (HM1.out.below h33)
      have HK1 := Box.mk (show Blk V3 w3.heap.size 28 #[.slice na1 (compM R n).1.length nc1, .slice fa1 (compM R n).2.length fc1] by rw [hV3]; exact Blk.new _ _ _)
      have HC2 := Box.mk (compile_any A B (.slice oo R.length oc) (R.map bareR) n V3 (bare_fit HRF.out.1) (HRB.out.below h3) (by rw [List.length_map]; exact HRF.out.2) (HS.out.below HB3.out).e (HS.out.below HB3.out).d (HS.out.below HB3.out).le)
      clear hb3 hra hia h33 h3
      go_wp2_with fail
      rw [← hV3]
      clear hV3
      refine HC2.out.mono ?_; rintro e w4 ⟨hb4, m2, rfl, hm2⟩
      have HM2 := Box.mk hm2
      obtain ⟨nv2, fv2, rfl, hra, hia⟩ := hm2
      obtain ⟨na2, nc2, rfl⟩ := hra.slice
      obtain ⟨fa2, fc2, rfl⟩ := hia.slice
      have HK2 := Box.mk (HK1.out.below hb4 HK1.out.lt)
      have c0 : w4.cell? ⟨w3.heap.size, 0, none⟩ = some (.slice na1 (compM R n).1.length nc1) := (HK2.out.cell 0).trans rfl
      have c1 : w4.cell? ⟨w3.heap.size, 1, none⟩ = some (.slice fa1 (compM R n).2.length fc1) := (HK2.out.cell 1).trans rfl
      have l0 := HK2.out.lt
      obtain ⟨V4, hV4⟩ : ∃ V4, V4 = w4.alloc (.cells #[.slice na2 (compM (R.map bareR) n).1.length nc2, .slice fa2 (compM (R.map bareR) n).2.length fc2] 28) := ⟨_, rfl⟩
      have h44 : Below w4.heap.size w4 V4 := by rw [hV4]; exact alloc_below _ _
      have HB4 := Box.mk (below_tr HB3.out (below_tr hb4 h44))
      have HB4' := Box.mk (below_tr HB3.out hb4)
      cases hrb : rulesB n R with
      | false =>
        have HCC := Box.mk (show compCode R n = 90 by unfold compCode; rw [hrb]; rfl)
        have HLZ := Box.mk (show (compM R n).1.length = 0 by unfold compM; rw [hrb]; rfl)
        rw [HCC.out]
        rw [HLZ.out] at c0
        clear hb4 hra hia h44 hrb
        go_wp2_with fail
        go_ret
        first | exact ⟨rfl, HB4.out⟩ | (rw [← hV4]; exact ⟨rfl, HB4.out⟩)
      | true =>
        obtain ⟨hcc, hmm⟩ := comp_bare hrb
        have HCC := Box.mk hcc
        have hne : compCode R n = 0 ∨ compCode R n = 100 := by
          unfold compCode
          rw [hrb]
          cases D.isFew (lefts R) n.toNat
          · exact .inr rfl
          · exact .inl rfl
        have HSM := Box.mk (msame_any _ _ (compM R n) (compM (R.map bareR) n) V4 (HM1'.out.below (below_tr hb4 h44)) (HM2.out.below h44) (compM_fit R n) (compM_fit _ n) |> fun h => yes_of h hmm.symm)
        rw [HCC.out]
        clear hb4 hra hia h44 hrb hcc hmm HM2 HM1 HM1'
        rcases hne with hc | hc
        all_goals
          rw [hc]
          go_wp2_with fail
          rw [← hV4]
          refine HSM.out.mono ?_; rintro e w5 ⟨rfl, hb5⟩
          have HB5 := Box.mk (below_tr HB4.out hb5)
          clear hb5
          go_wp2_with fail
          go_ret
          exact ⟨rfl, HB5.out⟩
end Go.Proofs.YtjemdepcaaadiaaDoor
