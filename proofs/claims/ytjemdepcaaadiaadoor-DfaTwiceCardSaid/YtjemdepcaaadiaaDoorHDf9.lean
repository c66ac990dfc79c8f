/-
  THE LAWS OF LAYER 12, WALKED: rules, and the same rules once more.
-/
import Derived.Test.YtjemdepcaaadiaaDoorHDf7
import Derived.Test.YtjemdepcaaadiaaDoorHDf8
import Derived.Test.YtjemdepcaaadiaaDoorHHeld3
import Derived.Deep.Slices
namespace Go.Proofs.YtjemdepcaaadiaaDoor
open Go.RowKit Go.Shelf
attribute [local go_sem] Oper.semAt_some

theorem RulesAt.cellsOf {W : World} {v : Value} {R : List D.Rule} (h : RulesAt W v R) : ∃ L : List (D.Rule × Value × Value), L.map (·.1) = R ∧ RulesV W L ∧ CellsOf W v R.length (L.flatMap ruleC) := by
  cases R with
  | nil =>
    refine ⟨[], rfl, fun y hy => absurd hy List.not_mem_nil, ?_⟩
    rcases h with ⟨h1, -⟩ | ⟨b, off, sp, cap, h1, -⟩
    · exact .inl ⟨h1, rfl, rfl⟩
    · exact .inr ⟨_, _, h1, fun j u hu => by simp at hu⟩
  | cons r0 t =>
    obtain ⟨b, off, cap, h1, h2, h3, h4, h5⟩ := h.get (by simp)
    generalize hR : r0 :: t = R at *
    have key : ∀ i, i < R.length → ∃ q : Value × Value, ∀ x, R[i]? = some x → (∀ j u, (ruleC (x, q))[j]? = some u → W.cell? ⟨b, off + i * 5 + j, none⟩ = some u) ∧ ItemsAt W q.1 x.1.2 ∧ ItemsAt W q.2 x.2.1.2 := by
      intro i hi
      obtain ⟨vl, vr, c0, c1, c2, c3, c4, k1, k2⟩ := h5 i _ (List.getElem?_eq_getElem hi)
      refine ⟨(vl, vr), fun x hx => ?_⟩
      rw [List.getElem?_eq_getElem hi] at hx
      cases hx
      refine ⟨fun j u hu => ?_, k1, k2⟩
      match j, hu with
      | 0, hu => simp only [ruleC, List.getElem?_cons_zero, Option.some.injEq] at hu; subst hu; exact c0
      | 1, hu => simp only [ruleC, List.getElem?_cons_succ, List.getElem?_cons_zero, Option.some.injEq] at hu; subst hu; exact c1
      | 2, hu => simp only [ruleC, List.getElem?_cons_succ, List.getElem?_cons_zero, Option.some.injEq] at hu; subst hu; exact c2
      | 3, hu => simp only [ruleC, List.getElem?_cons_succ, List.getElem?_cons_zero, Option.some.injEq] at hu; subst hu; exact c3
      | 4, hu => simp only [ruleC, List.getElem?_cons_succ, List.getElem?_cons_zero, Option.some.injEq] at hu; subst hu; exact c4
      | j + 5, hu => simp [ruleC] at hu
    obtain ⟨q, hq⟩ := Go.Deep.choose_lt key
    have hget : ∀ i x, R[i]? = some x → ((R.mapIdx fun i x => (x, q i)))[i]? = some (x, q i) := fun i x hx => by rw [List.getElem?_mapIdx, hx]; rfl
    refine ⟨R.mapIdx fun i x => (x, q i), ?_, ?_, .inr ⟨_, _, h1, ?_⟩⟩
    · apply List.ext_getElem?
      intro i
      rw [List.getElem?_map, List.getElem?_mapIdx]
      cases R[i]? <;> rfl
    · intro y hy
      obtain ⟨i, hi⟩ := List.mem_iff_getElem?.1 hy
      rw [List.getElem?_mapIdx] at hi
      obtain ⟨x, hx, rfl⟩ := Option.map_eq_some_iff.1 hi
      exact (hq i (List.getElem?_eq_some_iff.1 hx).1 x hx).2
    · intro j u hu
      have hl : ∀ (M : List (D.Rule × Value × Value)), (M.flatMap ruleC).length = M.length * 5 := by
        intro M
        induction M with
        | nil => rfl
        | cons y M ih => rw [List.flatMap_cons, List.length_append, ih, show (ruleC y).length = 5 from rfl, List.length_cons]; omega
      have hj := (List.getElem?_eq_some_iff.1 hu).1
      rw [hl, List.length_mapIdx] at hj
      have hi : j / 5 < R.length := by omega
      have hx := List.getElem?_eq_getElem hi
      have h6 := flat_get ruleC 5 (R.mapIdx fun i x => (x, q i)) (j / 5) (j % 5) _ (fun z _ => rfl) (hget _ _ hx) (Nat.mod_lt _ (by omega))
      rw [show j / 5 * 5 + j % 5 = j by omega, hu] at h6
      have h7 := (hq (j / 5) hi _ hx).1 (j % 5) u h6.symm
      rw [show (⟨b, off, none⟩ : Addr).add j = ⟨b, off + j, none⟩ by unfold Addr.add; by_cases h0 : j = 0 <;> simp [h0]]
      rw [show off + j / 5 * 5 + j % 5 = off + j by omega] at h7
      exact h7
theorem ruleC_len (L : List (D.Rule × Value × Value)) : (L.flatMap ruleC).length = L.length * 5 := by
  induction L with
  | nil => rfl
  | cons y M ih => rw [List.flatMap_cons, List.length_append, ih, show (ruleC y).length = 5 from rfl, List.length_cons]; omega
theorem items_oneCell {W : World} {v : Value} {l : List N.Item} (h : ItemsAt W v l) : v.oneCell' = true := by
  obtain ⟨a, c, rfl⟩ := h.slice
  rfl
theorem ruleC_one {W : World} {L : List (D.Rule × Value × Value)} (h : RulesV W L) : ∀ u ∈ L.flatMap ruleC, u.oneCell' = true := by
  intro u hu
  obtain ⟨y, hy, hu⟩ := List.mem_flatMap.1 hu
  simp only [ruleC, List.mem_cons, List.not_mem_nil, or_false] at hu
  rcases hu with rfl | rfl | rfl | rfl | rfl
  · rfl
  · exact items_oneCell (h y hy).1
  · rfl
  · exact items_oneCell (h y hy).2
  · rfl

theorem twice_lt {k f : Nat} (h : f < 2 ^ k) : D.twice k f < 2 ^ (k + k) := by
  unfold D.twice
  have h1 : 2 ^ k ≤ 2 ^ (k + k) := Nat.pow_le_pow_right (by omega) (by omega)
  refine Nat.or_lt_two_pow (by omega) ?_
  rw [Nat.shiftLeft_eq, Nat.pow_add]
  exact Nat.mul_lt_mul_of_pos_right h (Nat.two_pow_pos k)
/-- the machine of the same rules once more -/
theorem comp_twice (R : List D.Rule) (n : Int) (hl : R.length ≤ 6) : compCode (R ++ R) n = compCode R n ∧ (compM (R ++ R) n).1 = (compM R n).1 ∧ ∃ F : List Nat, (compM R n).2 = zs F ∧ (compM (R ++ R) n).2 = zs (F.map (D.twice R.length)) ∧ ∀ f ∈ F, f < 2 ^ R.length := by
  have hr : rulesB n (R ++ R) = rulesB n R := by
    unfold rulesB
    rw [List.all_append, Bool.and_self, List.length_append, decide_eq_true (show R.length + R.length ≤ 40 by omega), decide_eq_true (show R.length ≤ 40 by omega)]
  have hle : lefts (R ++ R) = lefts R ++ lefts R := by unfold lefts; rw [List.map_append]
  have hB := D.build_dbl (lefts R) n.toNat 300
  have key : ∀ k, ∀ f ∈ (D.build (lefts R) n.toNat k).fits, f < 2 ^ R.length := by
    intro k
    induction k with
    | zero => intro f hf; exact absurd hf List.not_mem_nil
    | succ k ih =>
      intro f hf
      have e : D.build (lefts R) n.toNat (k + 1) = (D.build (lefts R) n.toNat k).go (lefts R) n.toNat := rfl
      rw [e] at hf
      unfold D.Bld.go at hf
      split at hf
      · exact ih f hf
      · rcases List.mem_append.1 hf with h | h
        · exact ih f h
        · rw [List.mem_singleton.1 h]
          have := D.doneTo_lt (lefts R) (by assumption) (lefts R).length
          rwa [lefts_len] at this ⊢
  have hk := key 300
  unfold compCode compM machOf
  rw [hr, hle, D.few_dbl, hB]
  generalize D.build (lefts R) n.toNat 300 = BB at hk ⊢
  clear hB key
  refine ⟨rfl, ?_, ?_⟩
  · split <;> rfl
  · split
    · refine ⟨BB.fits, rfl, ?_, hk⟩
      unfold machB zs
      simp only
      rw [lefts_len]
    · exact ⟨[], rfl, rfl, fun f hf => absurd hf List.not_mem_nil⟩

set_option maxRecDepth 100000 in
set_option maxHeartbeats 8000000 in
theorem law_DfaTwice (A : Nat → Addr) (B : Nat) (v : Value) (rs : List D.Rule) (n : Int) (w : World) (hv : RulesAt w v rs) (hS : Sd A B w) :
    Calls Tryd.prog 6 #[v, .int .i64 n] w fun e w' => e = .returned (.bool true) ∧ Below w.heap.size w w' := by
  have HS := Box.mk hS
  have HV := Box.mk hv
  obtain ⟨ao, cap, rfl⟩ := hv.slice
  clear hS hv
  go_enter Tryd.func6, Tryd.ntmps6
  go_wp2_with fail
  refine (shown12_any A B w HS.out).mono ?_; rintro e w1 ⟨rfl, hb1⟩
  have HF := Box.mk (few12_any _ rs w1 (HV.out.below hb1))
  have HB1 := Box.mk hb1
  clear hb1
  go_wp2_with fail
  refine HF.out.mono ?_; rintro e w2 ⟨hb2, v', rfl, hr2⟩
  obtain ⟨R, hR⟩ : ∃ R, few12 rs = R := ⟨_, rfl⟩
  have hl6 : R.length ≤ 6 := by rw [← hR]; exact few12_len rs
  have HRF := Box.mk (show (∀ x ∈ R, ruleFit x) by rw [← hR]; exact few12_fit rs)
  rw [hR] at hr2
  have HR2 := Box.mk hr2
  have HB2 := Box.mk (below_tr HB1.out hb2)
  obtain ⟨L, hL1, hL2, hL3⟩ := hr2.cellsOf
  have HL1 := Box.mk hL1
  have HL2 := Box.mk hL2
  have HL3 := Box.mk hL3
  have HLL := Box.mk (show L.length = R.length by rw [← hL1, List.length_map])
  obtain ⟨ro, rc, rfl⟩ := hr2.slice
  have HS0 := Box.mk ((Sep.start w2).nil_row w2.heap.size 5 46)
  have HC5 := Box.mk (show (L.flatMap ruleC).length = R.length * 5 by rw [ruleC_len, HLL.out])
  have HC1 := Box.mk (ruleC_one HL2.out)
  have hcells : ∀ W, Below w2.heap.size w2 W → CellsOf W (.slice ro R.length rc) R.length (L.flatMap ruleC) := fun W h => by
    obtain ⟨L', h1, h2, h3⟩ := (HR2.out.below h).cellsOf
    rcases HL3.out with ⟨e1, e2, e3⟩ | ⟨ad, c, e1, e2⟩
    · exact .inl ⟨e1, e2, e3⟩
    · refine .inr ⟨ad, c, e1, fun j u hu => ?_⟩
      have := e2 j u hu
      have hlt := World.block_lt_of_cell? _ _ this
      exact (h.cell (p := ad.add j) hlt).trans this
  have HCL := Box.mk hcells
  clear hb2 hr2 hR hL1 hL2 hL3 hcells
  go_wp2_with (first
    | (at_builtin; refine wpList_spread rfl _ _ 22 rfl pushRule (by decide) HS0.out 0 rfl rfl rfl (HCL.out _ (Below.refl _ _)) HC5.out HC1.out (by omega) (by omega) (Nat.le_refl _) ?_; intro v3 w3 hS3; have hb3 := hS3.bel (n := w2.heap.size) (W0 := w2) (by simp))
    | (at_builtin; refine wpList_spread rfl _ _ 22 rfl pushRule (by decide) hS3 0 rfl rfl rfl (HCL.out _ hb3) HC5.out HC1.out (by omega) (by omega) hb3.size ?_; intro v4 w4 hS4; have hb4 := hS4.bel (n := w2.heap.size) (W0 := w2) (by simp)))
  have HBW := Box.mk (show Below w2.heap.size w2 w4 from hb4)
  have HB4 := Box.mk (below_tr HB2.out hb4)
  have HRR := Box.mk (show RulesAt w4 v4 (R ++ R) by
    have h1 := hS4.row 0 rfl
    rw [List.nil_append, Nat.zero_add, ← List.flatMap_append] at h1
    have h2 := rules_own h1 (by rw [List.length_append, HLL.out]) (fun y hy => by
      have hy' : y ∈ L := (List.mem_append.1 hy).elim id id
      exact ⟨(HL2.out y hy').1.below HBW.out, (HL2.out y hy').2.below HBW.out⟩)
    rw [List.map_append, HL1.out] at h2
    exact h2)
  obtain ⟨qo, qc, hq⟩ := HRR.out.slice
  have hq2 : (R ++ R).length = R.length + R.length := List.length_append
  rw [hq2] at hq
  subst hq
  have HR4 := Box.mk (HR2.out.below HBW.out)
  have HC := Box.mk (compile_any A B _ R n w4 HRF.out HR4.out (by omega) (HS.out.below HB4.out).e (HS.out.below HB4.out).d (HS.out.below HB4.out).le)
  clear hS3 hb3 hS4 hb4 hq2
  go_wp2_with fail
  refine HC.out.mono ?_; rintro e w5 ⟨hb5, m1, rfl, hm1⟩
  obtain ⟨k1, k2, F, kf1, kf2, kf3⟩ := comp_twice R n hl6
  have HK2 := Box.mk k2
  have HKF1 := Box.mk kf1
  have HKF2 := Box.mk kf2
  have HKF3 := Box.mk kf3
  have HCC := Box.mk k1
  have HFL := Box.mk (show (compM R n).2.length = F.length by rw [kf1, zs_len])
  have HFL2 := Box.mk (show (compM (R ++ R) n).2.length = F.length by rw [kf2, zs_len, List.length_map])
  have HM1 := Box.mk hm1
  obtain ⟨nv1, fv1, rfl, hra, hia⟩ := hm1
  obtain ⟨na1, nc1, rfl⟩ := hra.slice
  obtain ⟨fa1, fc1, rfl⟩ := hia.slice
  have HIA1 := Box.mk hia
  have HRA1 := Box.mk hra
  rw [HFL.out] at HIA1 HM1 ⊢
  obtain ⟨V5, hV5⟩ : ∃ V5, V5 = w5.alloc (.cells #[.slice na1 (compM R n).1.length nc1, .slice fa1 F.length fc1] 28) := ⟨_, rfl⟩
  have h55 : Below w5.heap.size w5 V5 := by rw [hV5]; exact alloc_below _ _
  have h5 := below_tr hb5 h55
  have HB5 := Box.mk (below_tr HB4.out h5)
  have HN1 := Box.mk (show Blk V5 w5.heap.size 28 #[.slice na1 (compM R n).1.length nc1, .slice fa1 F.length fc1] by rw [hV5]; exact Blk.new _ _ _)
  have HC2 := Box.mk (compile_any A B (.slice qo (R.length + R.length) qc) (R ++ R) n V5 (fun x hx => HRF.out x ((List.mem_append.1 hx).elim id id)) (HRR.out.below h5) (by rw [List.length_append]; omega) (HS.out.below HB5.out).e (HS.out.below HB5.out).d (HS.out.below HB5.out).le)
  have HIA5 := Box.mk (HIA1.out.below h55)
  have HRA5 := Box.mk (HRA1.out.below h55)
  clear hb5 hra hia h55 h5 k1 k2 kf1 kf2 kf3
  go_wp2_with fail
  rw [← hV5]
  clear hV5
  refine HC2.out.mono ?_; rintro e w6 ⟨hb6, m2, rfl, hm2⟩
  rw [HCC.out]
  obtain ⟨nv2, fv2, rfl, hra2, hia2⟩ := hm2
  rw [HK2.out] at hra2
  obtain ⟨na2, nc2, rfl⟩ := hra2.slice
  obtain ⟨fa2, fc2, rfl⟩ := hia2.slice
  rw [HFL2.out] at hia2 ⊢
  obtain ⟨V6, hV6⟩ : ∃ V6, V6 = w6.alloc (.cells #[.slice na2 (compM R n).1.length nc2, .slice fa2 F.length fc2] 28) := ⟨_, rfl⟩
  have h66 : Below w6.heap.size w6 V6 := by rw [hV6]; exact alloc_below _ _
  have h6 := below_tr hb6 h66
  have HB6 := Box.mk (below_tr HB5.out h6)
  have HN2 := Box.mk (show Blk V6 w6.heap.size 28 #[.slice na2 (compM R n).1.length nc2, .slice fa2 F.length fc2] by rw [hV6]; exact Blk.new _ _ _)
  have HN1' := Box.mk (HN1.out.below h6 HN1.out.lt)
  have HIA2 := Box.mk (hia2.below h66)
  have HRA2 := Box.mk (hra2.below h66)
  have HIA6 := Box.mk (HIA5.out.below h6)
  have HRA6 := Box.mk (HRA5.out.below h6)
  have HMF := Box.mk (compM_fit R n)
  have hcode : compCode R n = 0 ∨ compCode R n = 90 ∨ compCode R n = 100 := by
    unfold compCode
    split
    · split
      · exact .inl rfl
      · exact .inr (.inr rfl)
    · exact .inr (.inl rfl)
  clear hb6 hra2 hia2 h66 h6
  have d0 : V6.cell? ⟨w5.heap.size, 0, none⟩ = some (.slice na1 (compM R n).1.length nc1) := (HN1'.out.cell 0).trans rfl
  have d1 : V6.cell? ⟨w5.heap.size, 1, none⟩ = some (.slice fa1 F.length fc1) := (HN1'.out.cell 1).trans rfl
  have d2 : V6.cell? ⟨w6.heap.size, 0, none⟩ = some (.slice na2 (compM R n).1.length nc2) := (HN2.out.cell 0).trans rfl
  have d3 : V6.cell? ⟨w6.heap.size, 1, none⟩ = some (.slice fa2 F.length fc2) := (HN2.out.cell 1).trans rfl
  have e0 := HN1'.out.lt
  have e1 := HN2.out.lt
  rcases hcode with hc | hc | hc
  · rw [hc]
    clear hc
    go_upto_region 7 with (fail)
    rw [← hV6]
    clear hV6
    go_wp2_with fail
    go_loopw [11] (fun i wr => ∃ k q : Nat, k ≤ F.length ∧ i = .int .i64 k ∧ wr = V6.drewN q) (fun i _ => F.length - (intOf i).toNat)
    case atStart => exact ⟨0, 0, by omega, rfl, rfl⟩
    case round =>
      obtain ⟨k, q, hk, rfl, rfl⟩ := hrel
      by_cases hlt : k < F.length
      · obtain ⟨f, hf⟩ : ∃ f, F[k]? = some f := ⟨_, List.getElem?_eq_getElem hlt⟩
        obtain ⟨pa, oa, ca, a1, a2, a3, a4, a5⟩ := HIA6.out.get (by intro e; have := congrArg List.length e; rw [HFL.out, List.length_nil] at this; omega)
        rw [HFL.out] at a1 a2
        obtain ⟨rfl, rfl⟩ : fa1 = some ⟨pa, oa, none⟩ ∧ fc1 = ca := by injection a1 with h1 h2 h3; exact ⟨h1, h3⟩
        obtain ⟨pb, ob, cb, b1, b2, b3, b4, b5⟩ := HIA2.out.get (by intro e; have := congrArg List.length e; rw [HFL2.out, List.length_nil] at this; omega)
        rw [HFL2.out] at b1 b2
        obtain ⟨rfl, rfl⟩ : fa2 = some ⟨pb, ob, none⟩ ∧ fc2 = cb := by injection b1 with h1 h2 h3; exact ⟨h1, h3⟩
        have hx1 := a5 k f (by rw [HKF1.out]; exact zs_get hf)
        have hx2 := b5 k (D.twice R.length f) (by rw [HKF2.out]; exact zs_get (by rw [List.getElem?_map, hf]; rfl))
        have hfl := HKF3.out f (List.mem_of_getElem? hf)
        have hp6 : 2 ^ R.length ≤ 2 ^ 6 := Nat.pow_le_pow_right (by omega) hl6
        obtain ⟨sh, hsh⟩ : ∃ sh : Nat, f <<< R.length = sh := ⟨_, rfl⟩
        have hsh2 : (f : Int) * 2 ^ R.length = (sh : Int) := by rw [← hsh, Nat.shiftLeft_eq]; simp
        have hshl : sh < 4096 := by
          rw [← hsh, Nat.shiftLeft_eq]
          have h1 := Nat.mul_lt_mul_of_lt_of_le (show f < 64 by omega) (show 2 ^ R.length ≤ 64 by omega) (by omega)
          omega
        have HSH := Box.mk (show wrap64 ((f : Int) * 2 ^ R.length) = (sh : Int) by rw [hsh2]; exact IntWalk.wrap64_in _ (by omega))
        have HOR := Box.mk (show bits .or .i64 (f : Int) (sh : Int) = (D.twice R.length f : Int) by rw [i64_or_nat _ _ (by omega) (by omega), ← hsh]; rfl)
        unfold maxLen at a3 b3
        have hkc : k < fc1 := by omega
        have hkd : k < fc2 := by omega
        clear a1 a5 b1 b5 hf hsh hsh2 hshl hfl hp6
        go_wp2_with fail
        go_region
        rw [HSH.out, HOR.out]
        go_wp2_with fail
        go_roundw
        case rel => exact ⟨k + 1, q + 1, hlt, by go_num, rfl⟩
        case measure => simp [intOf]; omega
      · have hbq := below_drewN0 V6 q
        have HMA := Box.mk (show MachAt (V6.drewN q) (.agg #[.slice na1 (compM R n).1.length nc1, .slice fa1 F.length fc1]) (compM R n) from ⟨_, _, rfl, HRA6.out.below hbq, HIA6.out.below hbq⟩)
        have HMB := Box.mk (show MachAt (V6.drewN q) (.agg #[.slice na2 (compM R n).1.length nc2, .slice fa1 F.length fc1]) (compM R n) from ⟨_, _, rfl, HRA2.out.below hbq, HIA6.out.below hbq⟩)
        have HSM := Box.mk (msame_any _ _ (compM R n) (compM R n) _ HMA.out HMB.out HMF.out HMF.out |> fun h => yes_of h rfl)
        have HBQ := Box.mk (below_tr HB6.out hbq)
        clear hbq
        go_wp2_with fail
        refine HSM.out.mono ?_; rintro e w7 ⟨rfl, hb7⟩
        have HB7 := Box.mk (below_tr HBQ.out hb7)
        clear hb7
        go_wp2_with fail
        go_ret
        exact ⟨rfl, HB7.out⟩
  all_goals
    rw [hc]
    clear hc
    go_upto_region 7 with (fail)
    rw [← hV6]
    clear hV6
    go_wp2_with fail
    go_ret
    exact ⟨rfl, HB6.out⟩
end Go.Proofs.YtjemdepcaaadiaaDoor
