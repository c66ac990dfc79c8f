/-
  THE DOCUMENT's ANSWERS OF LAYER 13, WALKED: boundaries by a machine.
-/
import Derived.Test.YtbpcipobdokcfaaGreatDoorHSh6
namespace Go.Proofs.YtbpcipobdokcfaaGreatDoor
open Go.RowKit Go.Shelf
attribute [local go_sem] Oper.semAt_some

theorem cut_take' {n : Nat} {l : List Int} {q : Nat} {c : Int} (h : l[q]? = some c) : (D.cuts n (l.take (q + 1))) = D.cuts n (l.take q) ++ [D.cut n c] := by
  unfold D.cuts
  rw [List.take_add_one, h, List.map_append]
  rfl
def qCut (R : List D.Rule) (M : D.Mach) (nn : Nat) (L : List Int) (p : Nat) : Bool := decide (p = L.length) || cutAt R M nn L p
def plC (R : List D.Rule) (M : D.Mach) (nn : Nat) (L : List Int) (k : Nat) : List Int := (0 :: ((List.range k).map (· + 1)).filter (qCut R M nn L)).map (fun n : Nat => (n : Int))
theorem plC_next (R : List D.Rule) (M : D.Mach) (nn : Nat) (L : List Int) (k : Nat) : plC R M nn L (k + 1) = plC R M nn L k ++ if qCut R M nn L (k + 1) = true then [((k + 1 : Nat) : Int)] else [] := by
  unfold plC
  rw [List.range_succ, List.map_append, List.filter_append, ← List.cons_append, List.map_append]
  congr 1
  cases h : qCut R M nn L (k + 1) <;> simp [h]
theorem plC_true {R : List D.Rule} {M : D.Mach} {nn : Nat} {L : List Int} {p : Nat} (hp : 1 ≤ p) (h : true = qCut R M nn L p) : plC R M nn L (p + 1 - 1) = plC R M nn L (p - 1) ++ [(p : Int)] := by
  obtain ⟨k, rfl⟩ : ∃ k, p = k + 1 := ⟨p - 1, by omega⟩
  rw [show k + 1 + 1 - 1 = k + 1 by omega, show k + 1 - 1 = k by omega, plC_next, if_pos h.symm]
theorem plC_false {R : List D.Rule} {M : D.Mach} {nn : Nat} {L : List Int} {p : Nat} (hp : 1 ≤ p) (h : false = qCut R M nn L p) : plC R M nn L (p + 1 - 1) = plC R M nn L (p - 1) := by
  obtain ⟨k, rfl⟩ : ∃ k, p = k + 1 := ⟨p - 1, by omega⟩
  rw [show k + 1 + 1 - 1 = k + 1 by omega, show k + 1 - 1 = k by omega, plC_next, ← h]
  simp
theorem plC_end (R : List D.Rule) (M : D.Mach) (nn : Nat) (L : List Int) : plC R M nn L L.length = cutsL R M nn L := by
  unfold cutsL
  rcases Nat.eq_zero_or_pos L.length with h | h
  · rw [if_neg (by omega), h]
    rfl
  · obtain ⟨m, hm⟩ : ∃ m, L.length = m + 1 := ⟨L.length - 1, by omega⟩
    rw [if_pos h, hm, plC_next, if_pos (by unfold qCut; simp [hm])]
    congr 1
    unfold plC midL
    congr 2
    refine List.filter_congr fun p hp => ?_
    obtain ⟨i, hi, rfl⟩ := List.mem_map.1 hp
    have := List.mem_range.1 hi
    unfold qCut
    rw [decide_eq_false (by omega), Bool.false_or]

set_option maxRecDepth 100000 in
set_option maxHeartbeats 16000000 in
theorem rcuts13_any (rv : Value) (R : List D.Rule) (mv : Value) (M : D.Mach) (n : Int) (lv : Value) (L : List Int) (w : World) (hR : RulesAt w rv R) (hf : ∀ x ∈ R, ruleFit x) (hRz : R.length ≤ 16777216) (hM : MachAt w mv M) (hMf : MachFit M) (hL : IntsAt w lv L) (hLz : L.length ≤ 299) :
    Calls Tryz.prog 15 #[rv, mv, .int .i64 n, lv] w (cutsPost R M n L w) := by
  have HR := Box.mk hR
  have HM := Box.mk hM
  have HL := Box.mk hL
  have HF := Box.mk hf
  have HMF := Box.mk hMf
  obtain ⟨ro, rc, rfl⟩ := hR.slice
  obtain ⟨nv, fv, rfl, hra, hia⟩ := hM
  obtain ⟨na, nc, rfl⟩ := hra.slice
  obtain ⟨fo, fc, rfl⟩ := hia.slice
  obtain ⟨lo, lc, rfl⟩ := hL.slice
  obtain ⟨w2, hw2⟩ : ∃ w2, w2 = w.alloc (.cells #[.slice na M.1.length nc, .slice fo M.2.length fc] 26) := ⟨_, rfl⟩
  have HW2 := Box.mk hw2
  have hb2 : Below w.heap.size w w2 := by rw [hw2]; exact alloc_below _ _
  have HB2 := Box.mk hb2
  have HBA := Box.mk (show Blk w2 w.heap.size 26 #[.slice na M.1.length nc, .slice fo M.2.length fc] by rw [hw2]; exact Blk.new w _ _)
  have HIS := Box.mk (ris13_any _ R _ M n w2 (hR.below hb2) hf hRz (HM.out.below hb2) hMf)
  have c0 : w2.cell? ⟨w.heap.size, 0, none⟩ = some (.slice na M.1.length nc) := (HBA.out.cell 0).trans rfl
  have c1 : w2.cell? ⟨w.heap.size, 1, none⟩ = some (.slice fo M.2.length fc) := (HBA.out.cell 1).trans rfl
  have l0 := HBA.out.lt
  clear hra hia hR hL hw2 hb2 hf hMf
  rcases Bool.eq_false_or_eq_true (areC R M n) with hy | hy
  rotate_left
  · have HA := Box.mk hy
    rw [hy] at HIS
    clear hy
    go_enter Tryz.func15, Tryz.ntmps15
    go_upto_region 1 with (fail)
    rw [← HW2.out]
    go_wp2_with fail
    refine HIS.out.mono ?_; rintro e w3 ⟨rfl, hb3⟩
    have HB3 := Box.mk (below_tr HB2.out hb3)
    clear hb3
    go_wp2_with fail
    go_ret2
    exact ⟨HB3.out, .inr ⟨HA.out, rfl⟩⟩
  obtain ⟨hrb, hmr, hai⟩ := areC_parts hy
  obtain ⟨n1, n2, hR40, -⟩ := rulesB_parts hrb
  obtain ⟨nn, rfl⟩ := Int.eq_ofNat_of_zero_le (show 0 ≤ n by omega)
  have HMR := Box.mk hmr
  have HGC := Box.mk (show goCode nn M = 0 by unfold goCode; rw [hmr]; rfl)
  have HFB := Box.mk (fits_bound hmr)
  have HA := Box.mk hy
  rw [hy] at HIS
  clear hy hrb hmr hai
  go_enter Tryz.func15, Tryz.ntmps15
  go_upto_region 1 with (fail)
  rw [← HW2.out]
  go_wp2_with fail
  refine HIS.out.mono ?_; rintro e w3 ⟨rfl, hb3⟩
  have HB3 := Box.mk (below_tr HB2.out hb3)
  have hba := HBA.out.below hb3 HBA.out.lt
  have d0 : w3.cell? ⟨w.heap.size, 0, none⟩ = some (.slice na M.1.length nc) := (hba.cell 0).trans rfl
  have d1 : w3.cell? ⟨w.heap.size, 1, none⟩ = some (.slice fo M.2.length fc) := (hba.cell 1).trans rfl
  have m0 := hba.lt
  have HFT := Box.mk (rfits12_any _ (.slice lo L.length lc) M nn L w3 (HM.out.below HB3.out) HMF.out (HL.out.below HB3.out) (by omega))
  clear hb3 hba c0 c1 l0
  go_wp2_with fail
  refine HFT.out.mono ?_; rintro e w4 ⟨hb4, xv, rfl, hfi⟩
  rw [HGC.out]
  rw [HMR.out, if_pos rfl, Int.toNat_natCast] at hfi
  obtain ⟨X, hX⟩ : ∃ X, fitsM nn M L = X := ⟨_, rfl⟩
  have hfl : X.length = L.length + 1 := by rw [← hX]; unfold fitsM goM; simp
  have HXF := Box.mk (show ∀ i, i ≤ L.length → ∃ f : Nat, X[i]? = some (f : Int) ∧ f < 1099511627776 ∧ (fitM M (stM nn M L i)).toNat = f from fun i hi => by
    have hb : 0 ≤ fitM M (stM nn M L i) ∧ fitM M (stM nn M L i) < 1099511627776 := by
      unfold fitM
      cases hq : M.2[stM nn M L i]? with
      | none => rw [List.getD_eq_getElem?_getD, hq]; simp
      | some y => rw [List.getD_eq_getElem?_getD, hq]; exact HFB.out y (List.mem_of_getElem? hq)
    obtain ⟨f, hf⟩ := Int.eq_ofNat_of_zero_le hb.1
    refine ⟨f, ?_, by omega, by rw [hf, Int.toNat_natCast]⟩
    rw [← hX, ← hf]
    unfold fitsM goM
    rw [List.getElem?_map, List.getElem?_map, List.getElem?_range (by omega)]
    rfl)
  rw [hX] at hfi
  have hfi2 := hfi
  obtain ⟨xo, xc, rfl⟩ := hfi2.slice
  rw [hfl] at hfi ⊢
  have HFI := Box.mk hfi
  have HFL := Box.mk hfl
  have HB4 := Box.mk (below_tr HB3.out hb4)
  have HS0 := Box.mk ((Sep.start w4).nil_row w4.heap.size 1 3)
  have HRA := Box.mk (fun W (h : Below w4.heap.size w4 W) => (HR.out.below HB4.out).below h)
  have HLA := Box.mk (HL.out.below HB4.out)
  clear hb4 hfi hfi2 hfl hX d0 d1 m0
  go_wp2_with fail
  go_loopw [13, 12] (fun i o wr => ∃ (q : Nat) (oo : Option Addr) (oc : Nat), q ≤ L.length ∧ i = .int .i64 q ∧ o = .slice oo q oc ∧ Box (Sep [Pc.row w4.heap.size 3 1 (.slice oo q oc) q ((D.cuts nn (L.take q)).map (Value.int .i64)), Pc.old w4.heap.size w4] wr)) (fun i _ _ => L.length - (intOf i).toNat)
  case atStart => exact ⟨0, none, 0, Nat.zero_le _, rfl, rfl, HS0⟩
  case round =>
    obtain ⟨q, oo, oc, hq, rfl, rfl, hsi⟩ := hrel
    have HBI := Box.mk (hsi.out.bel (n := w4.heap.size) (W0 := w4) (by simp))
    clear HS0
    by_cases hlt : q < L.length
    · obtain ⟨c, hc⟩ : ∃ c, L[q]? = some c := ⟨_, List.getElem?_eq_getElem hlt⟩
      obtain ⟨g, off, cap2, hg1, hg2, hg3, hg4, hg5⟩ := (HLA.out.below HBI.out).get (by rintro rfl; simp at hlt)
      obtain ⟨rfl, rfl⟩ : lo = some ⟨g, off, none⟩ ∧ lc = cap2 := by injection hg1 with h1 h2 h3; exact ⟨h1, h3⟩
      have hcx := hg5 q c hc
      have HCT := Box.mk (cut_take' (n := nn) hc)
      have hbi := HBI.out.size
      unfold maxLen at hg3
      clear hg1 hg5 hc
      have fin : ∀ x : Int, x = D.cut nn c → ∀ v' w', Sep ([Pc.row w4.heap.size 3 1 (.slice oo q oc) q ((D.cuts nn (L.take q)).map (Value.int .i64)), Pc.old w4.heap.size w4].set 0 (Pc.row w4.heap.size 3 1 v' (q + 1) ((D.cuts nn (L.take q)).map (Value.int .i64) ++ [.int .i64 x]))) w' →
          Sep [Pc.row w4.heap.size 3 1 v' (q + 1) ((D.cuts nn (L.take (q + 1))).map (Value.int .i64)), Pc.old w4.heap.size w4] w' := fun x hx v' w' h => by
        rw [HCT.out, List.map_append, List.map_singleton, ← hx]
        exact h
      have FIN := Box.mk fin
      clear fin
      rcases Int.lt_or_le c 0 with h0 | h0
      · have HX := Box.mk (show (-1 : Int) = D.cut nn c by unfold D.cut; rw [if_pos (.inl h0)])
        go_wp2_with (at_builtin; refine wpList_push rfl _ _ 27 rfl pushInt hsi.out 0 rfl rfl rfl rfl (by omega) (by omega) hbi ?_; rintro v' w6 hS6 ⟨go', gc', rfl, -, -⟩)
        have HS6 := Box.mk (FIN.out _ HX.out _ _ hS6)
        clear hS6
        go_roundw
        case rel => exact ⟨q + 1, _, _, hlt, by go_num, rfl, HS6⟩
        case measure => simp [intOf]; omega
      rcases Int.lt_or_le c nn with h1 | h1
      · have HX := Box.mk (show c = D.cut nn c by unfold D.cut; rw [if_neg (by omega)])
        go_wp2_with (at_builtin; refine wpList_push rfl _ _ 27 rfl pushInt hsi.out 0 rfl rfl rfl rfl (by omega) (by omega) hbi ?_; rintro v' w6 hS6 ⟨go', gc', rfl, -, -⟩)
        have HS6 := Box.mk (FIN.out _ HX.out _ _ hS6)
        clear hS6
        go_roundw
        case rel => exact ⟨q + 1, _, _, hlt, by go_num, rfl, HS6⟩
        case measure => simp [intOf]; omega
      · have HX := Box.mk (show (-1 : Int) = D.cut nn c by unfold D.cut; rw [if_pos (.inr h1)])
        go_wp2_with (at_builtin; refine wpList_push rfl _ _ 27 rfl pushInt hsi.out 0 rfl rfl rfl rfl (by omega) (by omega) hbi ?_; rintro v' w6 hS6 ⟨go', gc', rfl, -, -⟩)
        have HS6 := Box.mk (FIN.out _ HX.out _ _ hS6)
        clear hS6
        go_roundw
        case rel => exact ⟨q + 1, _, _, hlt, by go_num, rfl, HS6⟩
        case measure => simp [intOf]; omega
    obtain rfl : q = L.length := by omega
    have HKS := Box.mk (show IntsAt wr (.slice oo L.length oc) (D.cuts nn L) by
      have := IntsAt.of_own (hsi.out.row 0 rfl) (by unfold D.cuts; rw [List.length_map, List.length_take]; omega)
      rw [List.take_length] at this
      exact this)
    obtain ⟨V4, hV4⟩ : ∃ V4, V4 = wr := ⟨_, rfl⟩
    rw [← hV4] at HBI HKS ⊢
    obtain ⟨V5, hV5⟩ : ∃ V5, V5 = V4.alloc (.cells #[.int .i64 0] 3) := ⟨_, rfl⟩
    have k5 : Below V4.heap.size V4 V5 := by rw [hV5]; exact alloc_below _ _
    have HS5 := Box.mk (show Sep [Pc.row V4.heap.size 3 1 (.slice (some ⟨V4.heap.size, 0, none⟩) 1 1) 1 ((plC R M nn L (1 - 1)).map (Value.int .i64)), Pc.old V4.heap.size V4] V5 from (Sep.start V4).got k5 ⟨rfl, .inr ⟨V4.heap.size, 1, #[.int .i64 0], rfl, Nat.le_refl _, by rw [hV5]; exact Blk.new _ _ _, Nat.le_refl _, by unfold maxLen; omega, rfl, rfl⟩⟩ (Nat.le_refl _))
    have HV5 := Box.mk hV5
    have HRB := Box.mk (fun W (h : Below V4.heap.size V4 W) => HRA.out W (below_tr HBI.out h))
    have HFA := Box.mk (fun W (h : Below V4.heap.size V4 W) => (HFI.out.below HBI.out).below h)
    have HBV := Box.mk (below_tr HB4.out HBI.out)
    clear hsi hV4 hV5 k5 hlt hq
    go_wp2_with fail
    rw [← HV5.out]
    go_loopw [16, 15] (fun i o wr => ∃ (p N : Nat) (oo : Option Addr) (oc : Nat), 1 ≤ p ∧ p ≤ L.length + 1 ∧ i = .int .i64 p ∧ o = .slice oo N oc ∧ N ≤ p ∧ Box (Sep [Pc.row V4.heap.size 3 1 (.slice oo N oc) N ((plC R M nn L (p - 1)).map (Value.int .i64)), Pc.old V4.heap.size V4] wr)) (fun i _ _ => L.length + 1 - (intOf i).toNat)
    case atStart => exact ⟨1, 1, _, _, Nat.le_refl _, by omega, rfl, rfl, Nat.le_refl _, HS5⟩
    case round =>
      obtain ⟨p, N, ao, ac, hp1, hp, rfl, rfl, hN, hsp⟩ := hrel
      have HBR := Box.mk (hsp.out.bel (n := V4.heap.size) (W0 := V4) (by simp))
      obtain ⟨W6, hW6⟩ : ∃ W6, W6 = wr := ⟨_, rfl⟩
      rw [← hW6] at hsp HBR ⊢
      clear hW6
      clear HS5
      by_cases hlt : p < L.length + 1
      rotate_left
      · obtain rfl : p = L.length + 1 := by omega
        have HO := Box.mk (show IntsAt W6 (.slice ao N ac) (cutsL R M nn L) by
          have h := hsp.out.row 0 rfl
          rw [show L.length + 1 - 1 = L.length by omega, plC_end] at h
          exact IntsAt.of_own h (by have := h.1; rw [List.length_map] at this; omega))
        have HBE := Box.mk (below_tr HBV.out HBR.out)
        go_wp2_with fail
        go_ret2
        exact ⟨HBE.out, .inl ⟨HA.out, _, rfl, HO.out⟩⟩
      obtain ⟨f, hf, hfl, hfe⟩ := HXF.out p (by omega)
      have HCUT := Box.mk (show cutAt R M nn L p = G.isCut R (D.cuts nn L) f (p : Int) by unfold cutAt; rw [hfe])
      obtain ⟨g, off, cap2, hg1, hg2, hg3, hg4, hg5⟩ := (HFA.out _ HBR.out).get (by intro e; have := HFL.out; rw [e] at this; simp at this)
      rw [HFL.out] at hg1 hg2
      obtain ⟨rfl, rfl⟩ : xo = some ⟨g, off, none⟩ ∧ xc = cap2 := by injection hg1 with h1 h2 h3; exact ⟨h1, h3⟩
      have HCF := Box.mk (show ∀ W, Below W6.heap.size W6 W → W.cell? ⟨g, off + p, none⟩ = some (.int .i64 (f : Int)) from fun W h => (h.cell (p := ⟨g, off + p, none⟩) hg4).trans (hg5 p _ hf))
      have HFE := Box.mk hfe
      have HP1 := Box.mk hp1
      obtain ⟨met0, hm0⟩ : ∃ b, ((p : Int) == (L.length : Int)) = b := ⟨_, rfl⟩
      have HM0 := Box.mk (show met0 = true ↔ p = L.length by rw [← hm0, beq_iff_eq]; omega)
      unfold maxLen at hg3
      clear hg1 hg4 hg5 hf hfe
      have HLTP := Box.mk hlt
      go_wp2_with fail
      clear hlt
      generalize decide (p ≤ L.length) = z57
      clear hm0
      have HSP := Box.mk (show ∀ W, Below W6.heap.size W6 W → Sep [Pc.row V4.heap.size 3 1 (.slice ao N ac) N ((plC R M nn L (p - 1)).map (Value.int .i64)), Pc.old V4.heap.size V4] W from fun W h => hsp.out.below h)
      clear hsp
      go_loopw [19, 17, 18] (fun i c m wi => ∃ (q : Nat) (cb mb : Bool), q ≤ R.length ∧ i = .int .i64 q ∧ c = .bool cb ∧ m = .bool mb ∧ Box ((mb = true ∧ cb = qCut R M nn L p) ∨ (mb = false ∧ cb = true ∧ p ≠ L.length ∧ ∀ j, j < q → G.hit R (D.cuts nn L) f (p : Int) j = false)) ∧ Box (Below W6.heap.size W6 wi)) (fun i _ _ _ => R.length - (intOf i).toNat)
      case atStart =>
        refine ⟨0, true, met0, Nat.zero_le _, rfl, rfl, rfl, ⟨?_⟩, ⟨Below.refl _ _⟩⟩
        cases hm : met0 with
        | true => exact .inl ⟨rfl, by unfold qCut; rw [decide_eq_true (HM0.out.1 hm)]; rfl⟩
        | false => exact .inr ⟨rfl, rfl, fun e => (by have := HM0.out.2 e; rw [hm] at this; cases this), fun j hj => by omega⟩
      case round =>
        obtain ⟨q, cb, mb, hq, rfl, rfl, rfl, hst, hbi⟩ := hrel
        have HLTP2 := HLTP.out
        rcases Bool.eq_false_or_eq_true mb with hmb | hmb
        · have HCQ := Box.mk (show cb = qCut R M nn L p by
            rcases hst.out with h | h
            · exact h.2
            · rw [hmb] at h; exact absurd h.1.symm Bool.false_ne_true)
          rw [hmb]
          clear hmb hst
          rcases Nat.lt_or_ge q R.length with hqr | hqr
          · clear HLTP
            have HSQ := Box.mk (HSP.out _ hbi.out)
            have HBS := Box.mk (HSQ.out.bel (n := V4.heap.size) (W0 := V4) (by simp))
            have hbs := HBS.out.size
            cases cb with
            | true =>
              have HPT := Box.mk (plC_true HP1.out HCQ.out)
              go_wp2_with (at_builtin; refine wpList_push rfl _ _ 27 rfl pushInt HSQ.out 0 rfl rfl rfl rfl (by omega) (by omega) hbs ?_; rintro v' w6 hS6 ⟨go', gc', rfl, -, -⟩)
              have HS6 := Box.mk (show Sep [Pc.row V4.heap.size 3 1 (.slice (some ⟨go', 0, none⟩) (N + 1) gc') (N + 1) ((plC R M nn L (p + 1 - 1)).map (Value.int .i64)), Pc.old V4.heap.size V4] w6 by
                rw [HPT.out, List.map_append]; exact hS6)
              clear hS6
              go_wp2_with fail
              go_roundw
              case rel => exact ⟨p + 1, N + 1, _, _, by omega, by omega, by go_num, rfl, by omega, HS6⟩
              case measure => simp [intOf]; omega
            | false =>
              have HPT := Box.mk (show Sep [Pc.row V4.heap.size 3 1 (.slice ao N ac) N ((plC R M nn L (p + 1 - 1)).map (Value.int .i64)), Pc.old V4.heap.size V4] wr by
                rw [plC_false HP1.out HCQ.out]; exact HSQ.out)
              go_wp2_with fail
              go_roundw
              case rel => exact ⟨p + 1, N, _, _, by omega, by omega, by go_num, rfl, by omega, HPT⟩
              case measure => simp [intOf]; omega
          · obtain rfl : q = R.length := by omega
            have HSQ := Box.mk (HSP.out _ hbi.out)
            have HBS := Box.mk (HSQ.out.bel (n := V4.heap.size) (W0 := V4) (by simp))
            have hbs := HBS.out.size
            cases cb with
            | true =>
              have HPT := Box.mk (plC_true HP1.out HCQ.out)
              go_wp2_with (at_builtin; refine wpList_push rfl _ _ 27 rfl pushInt HSQ.out 0 rfl rfl rfl rfl (by omega) (by omega) hbs ?_; rintro v' w6 hS6 ⟨go', gc', rfl, -, -⟩)
              have HS6 := Box.mk (show Sep [Pc.row V4.heap.size 3 1 (.slice (some ⟨go', 0, none⟩) (N + 1) gc') (N + 1) ((plC R M nn L (p + 1 - 1)).map (Value.int .i64)), Pc.old V4.heap.size V4] w6 by
                rw [HPT.out, List.map_append]; exact hS6)
              clear hS6
              go_wp2_with fail
              go_roundw
              case rel => exact ⟨p + 1, N + 1, _, _, by omega, by omega, by go_num, rfl, by omega, HS6⟩
              case measure => simp [intOf]; omega
            | false =>
              have HPT := Box.mk (show Sep [Pc.row V4.heap.size 3 1 (.slice ao N ac) N ((plC R M nn L (p + 1 - 1)).map (Value.int .i64)), Pc.old V4.heap.size V4] wr by
                rw [plC_false HP1.out HCQ.out]; exact HSQ.out)
              go_wp2_with fail
              go_roundw
              case rel => exact ⟨p + 1, N, _, _, by omega, by omega, by go_num, rfl, by omega, HPT⟩
              case measure => simp [intOf]; omega
        rw [hmb]
        have HST := Box.mk (show cb = true ∧ p ≠ L.length ∧ ∀ j, j < q → G.hit R (D.cuts nn L) f (p : Int) j = false by
          rcases hst.out with h | h
          · rw [hmb] at h; exact absurd h.1 Bool.false_ne_true
          · exact h.2)
        clear hmb hst
        by_cases hqr : q < R.length
        rotate_left
        · obtain rfl : q = R.length := by omega
          have HCQ := Box.mk (show cb = qCut R M nn L p by
            obtain ⟨h1, h2, h3⟩ := HST.out
            unfold qCut
            rw [h1, HCUT.out, G.isCut_none h3]
            simp)
          clear hqr
          have HSQ := Box.mk (HSP.out _ hbi.out)
          have HBS := Box.mk (HSQ.out.bel (n := V4.heap.size) (W0 := V4) (by simp))
          have hbs := HBS.out.size
          cases cb with
          | true =>
            have HPT := Box.mk (plC_true HP1.out HCQ.out)
            go_wp2_with (at_builtin; refine wpList_push rfl _ _ 27 rfl pushInt HSQ.out 0 rfl rfl rfl rfl (by omega) (by omega) hbs ?_; rintro v' w6 hS6 ⟨go', gc', rfl, -, -⟩)
            have HS6 := Box.mk (show Sep [Pc.row V4.heap.size 3 1 (.slice (some ⟨go', 0, none⟩) (N + 1) gc') (N + 1) ((plC R M nn L (p + 1 - 1)).map (Value.int .i64)), Pc.old V4.heap.size V4] w6 by
              rw [HPT.out, List.map_append]; exact hS6)
            clear hS6
            go_wp2_with fail
            go_roundw
            case rel => exact ⟨p + 1, N + 1, _, _, by omega, by omega, by go_num, rfl, by omega, HS6⟩
            case measure => simp [intOf]; omega
          | false =>
            have HPT := Box.mk (show Sep [Pc.row V4.heap.size 3 1 (.slice ao N ac) N ((plC R M nn L (p + 1 - 1)).map (Value.int .i64)), Pc.old V4.heap.size V4] wr by
              rw [plC_false HP1.out HCQ.out]; exact HSQ.out)
            go_wp2_with fail
            go_roundw
            case rel => exact ⟨p + 1, N, _, _, by omega, by omega, by go_num, rfl, by omega, HPT⟩
            case measure => simp [intOf]; omega
        have hcb := HST.out.1
        subst hcb
        obtain ⟨x, hx⟩ : ∃ x, R[q]? = some x := ⟨_, List.getElem?_eq_getElem hqr⟩
        have HVI := Box.mk (below_tr HBR.out hbi.out)
        obtain ⟨rg, roff, rcap, k1, k2, k3, k4, k5⟩ := (HRB.out _ HVI.out).get (by rintro rfl; simp at hqr)
        obtain ⟨rfl, rfl⟩ : ro = some ⟨rg, roff, none⟩ ∧ rc = rcap := by injection k1 with h1 h2 h3; exact ⟨h1, h3⟩
        obtain ⟨vl, vr, r0, r1, r2, r3, r4, hil, hir⟩ := k5 q x hx
        obtain ⟨ar, acr, rfl⟩ := hir.slice
        have HKI := Box.mk (HKS.out.below HVI.out)
        have HAH := Box.mk (fun (W : World) (h : Below wr.heap.size wr W) => ahead_same x.2.1.1 x.2.1.2 (D.cuts nn L) (p : Int) ▸ rahead_any x.2.1.1 (.slice ar x.2.1.2.length acr) x.2.1.2 (.slice oo L.length oc) (D.cuts nn L) p W (hir.below h) (HF.out x (List.mem_of_getElem? hx)).2 (HKI.out.below h) (by unfold D.cuts; rw [List.length_map]; exact hLz))
        have HX := Box.mk hx
        have hcf := HCF.out _ hbi.out
        obtain ⟨P, hP⟩ : ∃ P : Nat, P = 2 ^ q := ⟨_, rfl⟩
        have hP0 : 0 < P := by rw [hP]; exact Nat.two_pow_pos q
        have HWT := Box.mk (fun W => worth13_any q W (by omega))
        rw [← hP] at HWT
        obtain ⟨e0, e1⟩ := div_le f P
        have ht := div_bit f q
        rw [← hP] at ht
        have HNO := Box.mk (show G.hit R (D.cuts nn L) f (p : Int) q = false → ∀ j, j < q + 1 → G.hit R (D.cuts nn L) f (p : Int) j = false from fun h j hj => by
          rcases Nat.lt_or_ge j q with h1 | h1
          · exact HST.out.2.2 j h1
          · obtain rfl : j = q := by omega
            exact h)
        have HNE := Box.mk HST.out.2.1
        have hgl : g < wr.heap.size := World.block_lt_of_cell? _ _ hcf
        unfold maxLen at k3
        clear k1 k5 hx hil hir hP
        rcases Bool.eq_false_or_eq_true (f.testBit q) with hbit | hbit
        rotate_left
        · have HN := Box.mk (HNO.out (hit_no HX.out (.inl hbit)))
          have HDR := Box.mk (fun m => hbi.out.trans ((below_drewN0 wr m).mono hbi.out.size))
          rw [hbit] at ht
          clear hbit
          go_wp2_with fail
          go_quiet ((go_at_call 41; exact quiet_left (HWT.out _)))
          go_wp2_with fail
          go_roundw
          case rel => exact ⟨q + 1, true, false, hqr, by go_num, rfl, rfl, ⟨.inr ⟨rfl, rfl, HNE.out, HN.out⟩⟩, ⟨HDR.out _⟩⟩
          case measure => simp [intOf]; omega
        rw [hbit] at ht
        obtain ⟨Inv, hI1, hI2⟩ : ∃ Inv : World → Prop, (∀ W, Inv W → Below wr.heap.size wr W) ∧ (∀ W, Below wr.heap.size wr W → Inv W) := ⟨_, fun _ h => h, fun _ h => h⟩
        have HIN := Box.mk (show ∀ q : CW Inv, Below wr.heap.size wr q.w from fun q => hI1 _ q.h)
        have HUP := Box.mk (show ∀ (q : CW Inv) w', Below q.w.heap.size q.w w' → Inv w' from fun q w' h => hI2 _ ((HIN.out q).trans (h.mono (HIN.out q).size)))
        have q0 : ∀ q : CW Inv, q.w.cell? ⟨g, off + p, none⟩ = some (.int .i64 (f : Int)) := fun q => ((HIN.out q).cell (p := ⟨g, off + p, none⟩) hgl).trans hcf
        have q1 : ∀ c : CW Inv, c.w.cell? ⟨rg, roff + q * 5 + 2, none⟩ = some (.bool x.2.1.1) := fun c => ((HIN.out c).cell (p := ⟨rg, roff + q * 5 + 2, none⟩) k4).trans r2
        have q2 : ∀ c : CW Inv, c.w.cell? ⟨rg, roff + q * 5 + 3, none⟩ = some (.slice ar x.2.1.2.length acr) := fun c => ((HIN.out c).cell (p := ⟨rg, roff + q * 5 + 3, none⟩) k4).trans r3
        have K0 := Box.mk (show ∀ c : CW Inv, Calls Tryz.prog 41 #[.int .i64 q] c.w fun e w'' => e = .returned (.int .i64 (P : Int)) ∧ ∃ m : CW Inv, w'' = m.w from fun c => (HWT.out c.w).mono fun e w'' h => ⟨h.1, c, h.2.symm⟩)
        have HDR := Box.mk (hI2 _ (drew_below wr 1))
        have R4 := Box.mk (show ∀ W, Below wr.heap.size wr W → W.cell? ⟨rg, roff + q * 5 + 4, none⟩ = some (.bool x.2.2) from fun W h => (h.cell (p := ⟨rg, roff + q * 5 + 4, none⟩) k4).trans r4)
        have K4 := Box.mk k4
        rcases Bool.eq_false_or_eq_true (aheadB x.2.1.1 x.2.1.2 (D.cuts nn L) (p : Int)) with hah | hah
        · have HCC := Box.mk (show x.2.2 = qCut R M nn L p by
            unfold qCut
            rw [decide_eq_false HNE.out, HCUT.out, Bool.false_or, G.isCut_hit HX.out (hit_yes HX.out hbit hah) HST.out.2.2])
          have K1 := Box.mk (fun c : CW Inv => class_codeS (HAH.out c.w (HIN.out c)) (show Value.bool (aheadB x.2.1.1 x.2.1.2 (D.cuts nn L) (p : Int)) = .bool true by rw [hah]) (HUP.out c))
          clear hbit hah hI1 hI2 hcf r0 r1 r2 r3 r4 k4
          go_wp2_with fail
          refine wp_region_class Inv (by kernel_rfl) (by kernel_rfl) HDR.out (fun hne => ?_)
          repeat (any_goals (first | go_big_quiet_step ((first | (go_at_call 41; exact K0.out _) | (go_at_call 42; exact K1.out _))) | quiet_step ((first | (go_at_call 41; exact K0.out _) | (go_at_call 42; exact K1.out _)))))
          refine wpQuiet_nil ?_
          rintro w7 ⟨q7, rfl⟩
          have HB7 := Box.mk (HIN.out q7)
          clear q0 q1 q2 hne
          have r4 := R4.out _ HB7.out
          have k4 := Nat.lt_of_lt_of_le K4.out HB7.out.size
          go_wp2_with fail
          go_roundw
          case rel => exact ⟨q + 1, _, true, hqr, by go_num, rfl, rfl, ⟨.inl ⟨rfl, HCC.out⟩⟩, ⟨below_tr hbi.out HB7.out⟩⟩
          case measure => simp [intOf]; omega
        · have HN := Box.mk (HNO.out (hit_no HX.out (.inr hah)))
          have K1 := Box.mk (fun c : CW Inv => class_codeS (HAH.out c.w (HIN.out c)) (show Value.bool (aheadB x.2.1.1 x.2.1.2 (D.cuts nn L) (p : Int)) = .bool false by rw [hah]) (HUP.out c))
          clear hbit hah hI1 hI2 hcf r0 r1 r2 r3 r4 k4
          go_wp2_with fail
          refine wp_region_class Inv (by kernel_rfl) (by kernel_rfl) HDR.out (fun hne => ?_)
          repeat (any_goals (first | go_big_quiet_step ((first | (go_at_call 41; exact K0.out _) | (go_at_call 42; exact K1.out _))) | quiet_step ((first | (go_at_call 41; exact K0.out _) | (go_at_call 42; exact K1.out _)))))
          refine wpQuiet_nil ?_
          rintro w7 ⟨q7, rfl⟩
          have HB7 := Box.mk (HIN.out q7)
          clear q0 q1 q2 hne
          go_wp2_with fail
          go_roundw
          case rel => exact ⟨q + 1, true, false, hqr, by go_num, rfl, rfl, ⟨.inr ⟨rfl, rfl, HNE.out, HN.out⟩⟩, ⟨below_tr hbi.out HB7.out⟩⟩
          case measure => simp [intOf]; omega
end Go.Proofs.YtbpcipobdokcfaaGreatDoor
