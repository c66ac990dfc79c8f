/-
  THE LAW: by rules' own machine the cuts are the rules'.
-/
import Derived.Test.YtbpcipobdokcfaaGreatDoorHSi4
import Derived.Test.YtbpcipobdokcfaaGreatDoorH10
namespace Go.Proofs.YtbpcipobdokcfaaGreatDoor
open Go.RowKit Go.Shelf
attribute [local go_sem] Oper.semAt_some

theorem cut_takeS {n : Nat} {l : List Int} {q : Nat} {c : Int} (h : l[q]? = some c) : (D.cuts n (l.take (q + 1))) = D.cuts n (l.take q) ++ [D.cut n c] := by
  unfold D.cuts
  rw [List.take_add_one, h, List.map_append]
  rfl
theorem cutsS_len (R : List D.Rule) (cs : List Int) : (cutsS R cs).length ≤ cs.length + 2 := by
  unfold cutsS midS
  have := List.length_filter_le (fun p : Nat => sayL cs (p : Int) R) ((List.range (cs.length - 1)).map (· + 1))
  simp only [List.length_map, List.length_range] at this
  rw [List.length_append, List.length_map, List.length_cons]
  split <;> simp only [List.length_cons, List.length_nil] <;> omega
theorem right32 {n : Int} {l : List N.Item} (h : rightN n l = true) : rightN 32 l = true := by
  unfold rightN at h ⊢
  simp only [Bool.and_eq_true, decide_eq_true_eq, List.all_eq_true] at h ⊢
  refine ⟨⟨⟨by omega, by omega⟩, h.1.2⟩, fun x hx => ?_⟩
  have hi := h.2 x hx
  unfold itemN at hi ⊢
  simp only [Bool.and_eq_true] at hi ⊢
  refine ⟨⟨?_, hi.1.2⟩, hi.2⟩
  have hb := setN_B hi.1.1
  unfold setB at hb
  unfold setN
  simp only [Bool.and_eq_true, decide_eq_true_eq] at hb ⊢
  refine ⟨⟨⟨by omega, by omega⟩, hb.1⟩, ?_⟩
  have e : (2 : Int) ^ (32 : Int).toNat = 4294967296 := by decide
  rw [e]
  omega
/-- the errors of this law, and the world that they lie in -/
structure Sn (A : Nat → Addr) (B : Nat) (w : World) : Prop where
  d : Ed A B w
  g : Eg A B w
  e : E A B w
  le : B ≤ w.heap.size
theorem rules32 {n : Int} {R : List D.Rule} (h : rulesB n R = true) : rulesB 32 R = true := by
  obtain ⟨h1, h2, h3, -⟩ := rulesB_parts h
  unfold rulesB at h ⊢
  simp only [Bool.and_eq_true, decide_eq_true_eq, List.all_eq_true] at h ⊢
  refine ⟨⟨⟨by omega, by omega⟩, h3⟩, fun x hx => ?_⟩
  have hr := h.2 x hx
  unfold ruleB at hr ⊢
  simp only [Bool.and_eq_true] at hr ⊢
  exact ⟨⟨right32 hr.1.1, right32 hr.1.2⟩, hr.2⟩

set_option maxRecDepth 100000 in
set_option maxHeartbeats 8000000 in
theorem law_SegRules (A : Nat → Addr) (B : Nat) (v : Value) (rs : List D.Rule) (n : Int) (lv : Value) (l : List Int) (w : World) (hv : RulesAt w v rs) (hl : IntsAt w lv l) (hN : Sn A B w) :
    Calls Tryz.prog 9 #[v, .int .i64 n, lv] w fun e w' => e = .returned (.bool true) ∧ Below w.heap.size w w' := by
  have HS := Box.mk (show Sg A B w from ⟨hN.d, hN.g, hN.le⟩)
  have HE := Box.mk hN.e
  have HV := Box.mk hv
  have HL := Box.mk hl
  obtain ⟨ao, cap, rfl⟩ := hv.slice
  obtain ⟨lo, lc, rfl⟩ := hl.slice
  clear hN hv hl
  go_enter Tryz.func9, Tryz.ntmps9
  go_wp2_with fail
  refine (shown13_any A B w HS.out).mono ?_; rintro e w1 ⟨rfl, hb1⟩
  have HF := Box.mk (few13_any _ rs w1 (HV.out.below hb1))
  have HB1 := Box.mk hb1
  clear hb1
  go_wp2_with fail
  refine HF.out.mono ?_; rintro e w2 ⟨hb2, v', rfl, hr2⟩
  obtain ⟨R, hR⟩ : ∃ R, few12 rs = R := ⟨_, rfl⟩
  have HRF := Box.mk (show (∀ x ∈ R, ruleFit x) ∧ R.length ≤ 6 by rw [← hR]; exact ⟨few12_fit rs, few12_len rs⟩)
  rw [hR] at hr2
  have HR2 := Box.mk hr2
  have HB2 := Box.mk (below_tr HB1.out hb2)
  obtain ⟨ro, rc, rfl⟩ := hr2.slice
  have HLI := Box.mk (list13_any _ l w2 (HL.out.below HB2.out))
  have HC := Box.mk (compile_any A B _ R n w2 HRF.out.1 HR2.out (by have := HRF.out.2; omega) (HE.out.below (HB2.out.mono HS.out.le)) (HS.out.below HB2.out).d (HS.out.below HB2.out).le)
  clear hb2 hr2 hR
  go_wp2_with fail
  refine HLI.out.mono ?_; rintro e w2' ⟨⟨v2, rfl, hl2⟩, rfl⟩
  obtain ⟨L, hL⟩ : ∃ L, list12 l = L := ⟨_, rfl⟩
  have hll : L.length ≤ 30 := by rw [← hL]; unfold list12; rw [List.length_take]; omega
  rw [hL] at hl2
  have HL2 := Box.mk hl2
  obtain ⟨lo2, lc2, rfl⟩ := hl2.slice
  clear hl2 hL
  go_wp2_with fail
  refine HC.out.mono ?_; rintro e w3 ⟨hb3, m1, rfl, hm1⟩
  have HM1 := Box.mk hm1
  obtain ⟨nv1, fv1, rfl, hra, hia⟩ := hm1
  obtain ⟨na1, nc1, rfl⟩ := hra.slice
  obtain ⟨fa1, fc1, rfl⟩ := hia.slice
  obtain ⟨V3, hV3⟩ : ∃ V3, V3 = w3.alloc (.cells #[.slice na1 (compM R n).1.length nc1, .slice fa1 (compM R n).2.length fc1] 26) := ⟨_, rfl⟩
  have h33 : Below w3.heap.size w3 V3 := by rw [hV3]; exact alloc_below _ _
  have h23 : Below w2.heap.size w2 V3 := below_tr hb3 h33
  have HB3 := Box.mk (below_tr HB2.out h23)
  have HMV := Box.mk (HM1.out.below h33)
  have HR3 := Box.mk (HR2.out.below h23)
  have HL3 := Box.mk (HL2.out.below h23)
  have HK1 := Box.mk (show Blk V3 w3.heap.size 26 #[.slice na1 (compM R n).1.length nc1, .slice fa1 (compM R n).2.length fc1] by rw [hV3]; exact Blk.new _ _ _)
  have HV3 := Box.mk hV3
  clear hb3 hra hia h33 h23 hV3
  rcases (show compCode R n = 0 ∨ (compCode R n = 90 ∨ compCode R n = 100) by
    unfold compCode
    split
    · split
      · exact .inl rfl
      · exact .inr (.inr rfl)
    · exact .inr (.inl rfl)) with hc | hc
  rotate_left
  · have HBX := Box.mk (show Below w.heap.size w V3 from HB3.out)
    have HV3' := HV3.out
    clear HM1 HMV HK1
    generalize (compM R n).1.length = N at HV3' ⊢
    generalize (compM R n).2.length = F at HV3' ⊢
    rcases hc with hc | hc
    all_goals
      rw [hc]
      clear hc
      go_wp2_with fail
      rw [← HV3']
      go_ret
      exact ⟨rfl, HBX.out⟩
  obtain ⟨hrl, -, -⟩ := comp_parts hc
  obtain ⟨n1, n2, -, -⟩ := rulesB_parts hrl
  have HAR := Box.mk (comp_are hc)
  have HCS := Box.mk (cutsL_say hc L)
  have H32 := Box.mk (rules32 hrl)
  have HFT := Box.mk (compM_fit R n)
  obtain ⟨nn, rfl⟩ := Int.eq_ofNat_of_zero_le (show 0 ≤ n by omega)
  obtain ⟨M, hM⟩ : ∃ M, compM R (nn : Int) = M := ⟨_, rfl⟩
  rw [hM] at HAR HCS HFT HMV HK1 HV3
  rw [Int.toNat_natCast] at HCS
  have HV3' := HV3.out
  rw [hc, hM]
  have HS0 := Box.mk ((Sep.start V3).nil_row V3.heap.size 1 3)
  have hR6 := HRF.out.2
  clear hc hrl hM
  go_wp2_with fail
  rw [← HV3']
  clear HV3'
  go_loopw [11, 10] (fun i o wr => ∃ (q : Nat) (oo : Option Addr) (oc : Nat), q ≤ L.length ∧ i = .int .i64 q ∧ o = .slice oo q oc ∧ Box (Sep [Pc.row V3.heap.size 3 1 (.slice oo q oc) q ((D.cuts nn (L.take q)).map (Value.int .i64)), Pc.old V3.heap.size V3] wr)) (fun i _ _ => L.length - (intOf i).toNat)
  case atStart => exact ⟨0, none, 0, Nat.zero_le _, rfl, rfl, HS0⟩
  case round =>
    obtain ⟨q, oo, oc, hq, rfl, rfl, hsi⟩ := hrel
    have HBI := Box.mk (hsi.out.bel (n := V3.heap.size) (W0 := V3) (by simp))
    clear HS0
    by_cases hlt : q < L.length
    · obtain ⟨c, hc⟩ : ∃ c, L[q]? = some c := ⟨_, List.getElem?_eq_getElem hlt⟩
      obtain ⟨g, off, cap2, hg1, hg2, hg3, hg4, hg5⟩ := (HL3.out.below HBI.out).get (by rintro rfl; simp at hlt)
      obtain ⟨rfl, rfl⟩ : lo2 = some ⟨g, off, none⟩ ∧ lc2 = cap2 := by injection hg1 with h1 h2 h3; exact ⟨h1, h3⟩
      have hcx := hg5 q c hc
      have HCT := Box.mk (cut_takeS (n := nn) hc)
      have hbi := HBI.out.size
      unfold maxLen at hg3
      clear hg1 hg5 hc
      have fin : ∀ x : Int, x = D.cut nn c → ∀ v' w', Sep ([Pc.row V3.heap.size 3 1 (.slice oo q oc) q ((D.cuts nn (L.take q)).map (Value.int .i64)), Pc.old V3.heap.size V3].set 0 (Pc.row V3.heap.size 3 1 v' (q + 1) ((D.cuts nn (L.take q)).map (Value.int .i64) ++ [.int .i64 x]))) w' →
          Sep [Pc.row V3.heap.size 3 1 v' (q + 1) ((D.cuts nn (L.take (q + 1))).map (Value.int .i64)), Pc.old V3.heap.size V3] w' := fun x hx v' w' h => by
        rw [HCT.out, List.map_append, List.map_singleton, ← hx]
        exact h
      have FIN := Box.mk fin
      clear fin
      rcases Int.lt_or_le c 0 with h0 | h0
      · have HX := Box.mk (show (-1 : Int) = D.cut nn c by unfold D.cut; rw [if_pos (.inl h0)])
        go_wp2_with (at_builtin; refine wpList_push rfl _ _ 27 rfl pushInt hsi.out 0 rfl rfl rfl rfl (by omega) (by omega) hbi ?_; rintro v' w6 hS6 ⟨go', gc', rfl, -, -⟩)
        have HS6 := Box.mk (FIN.out _ HX.out _ _ hS6)
        clear hS6
        go_roundw
        case rel => exact ⟨q + 1, _, _, hlt, by go_num, rfl, HS6⟩
        case measure => simp [intOf]; omega
      rcases Int.lt_or_le c nn with h1 | h1
      · have HX := Box.mk (show c = D.cut nn c by unfold D.cut; rw [if_neg (by omega)])
        go_wp2_with (at_builtin; refine wpList_push rfl _ _ 27 rfl pushInt hsi.out 0 rfl rfl rfl rfl (by omega) (by omega) hbi ?_; rintro v' w6 hS6 ⟨go', gc', rfl, -, -⟩)
        have HS6 := Box.mk (FIN.out _ HX.out _ _ hS6)
        clear hS6
        go_roundw
        case rel => exact ⟨q + 1, _, _, hlt, by go_num, rfl, HS6⟩
        case measure => simp [intOf]; omega
      · have HX := Box.mk (show (-1 : Int) = D.cut nn c by unfold D.cut; rw [if_pos (.inr h1)])
        go_wp2_with (at_builtin; refine wpList_push rfl _ _ 27 rfl pushInt hsi.out 0 rfl rfl rfl rfl (by omega) (by omega) hbi ?_; rintro v' w6 hS6 ⟨go', gc', rfl, -, -⟩)
        have HS6 := Box.mk (FIN.out _ HX.out _ _ hS6)
        clear hS6
        go_roundw
        case rel => exact ⟨q + 1, _, _, hlt, by go_num, rfl, HS6⟩
        case measure => simp [intOf]; omega
    obtain rfl : q = L.length := by omega
    have HKS := Box.mk (show IntsAt wr (.slice oo L.length oc) (D.cuts nn L) by
      have := IntsAt.of_own (hsi.out.row 0 rfl) (by unfold D.cuts; rw [List.length_map, List.length_take]; omega)
      rw [List.take_length] at this
      exact this)
    obtain ⟨V4, hV4⟩ : ∃ V4, V4 = wr := ⟨_, rfl⟩
    rw [← hV4] at HBI HKS ⊢
    have hbk := HK1.out.below HBI.out HK1.out.lt
    have c0 : V4.cell? ⟨w3.heap.size, 0, none⟩ = some (.slice na1 M.1.length nc1) := (hbk.cell 0).trans rfl
    have c1 : V4.cell? ⟨w3.heap.size, 1, none⟩ = some (.slice fa1 M.2.length fc1) := (hbk.cell 1).trans rfl
    have l4 := hbk.lt
    have HB4 := Box.mk (below_tr HB3.out HBI.out)
    have HCU := Box.mk (cuts_any A B _ R _ M nn _ L V4 (HR3.out.below HBI.out) HRF.out.1 (by omega) (HMV.out.below HBI.out) HFT.out (HL3.out.below HBI.out) (by omega) (HS.out.below HB4.out).d (HS.out.below HB4.out).g (HS.out.below HB4.out).le)
    clear hsi hV4 hbk
    go_wp2_with fail
    refine HCU.out.mono ?_; rintro e w5 ⟨hb5, ⟨-, cv, rfl, hc5⟩ | ⟨hno, -⟩⟩
    rotate_left
    · rw [HAR.out] at hno
      exact absurd hno.symm Bool.false_ne_true
    rw [Int.toNat_natCast, HCS.out] at hc5
    have HB5 := Box.mk (below_tr HBI.out hb5)
    have HC5 := Box.mk hc5
    have HRC := Box.mk (rcutsR_any _ _ R (D.cuts nn L) w5 (HR3.out.below HB5.out) HRF.out.1 H32.out (HKS.out.below hb5) (by unfold D.cuts; rw [List.length_map]; omega))
    have HDL := Box.mk (show (D.cuts nn L).length = L.length by unfold D.cuts; rw [List.length_map])
    obtain ⟨co, cc, rfl⟩ := hc5.slice
    clear hb5 hc5 c0 c1 l4
    go_wp2_with fail
    refine HRC.out.mono ?_; rintro e w6 ⟨⟨dv, rfl, hd6⟩, hb6⟩
    have HB6 := Box.mk (below_tr HB5.out hb6)
    have hlen := cutsS_len R (D.cuts nn L)
    rw [HDL.out] at hlen
    have HEQ := Box.mk (yes_of (ints_eq _ _ _ _ w6 (HC5.out.below hb6) hd6 (by omega) (by omega)) rfl)
    have HC6 := Box.mk (HC5.out.below hb6)
    have HRT := Box.mk (cutsS_right R (D.cuts nn L))
    rw [HDL.out] at HRT
    clear hb6 hd6
    go_wp2_with fail
    refine HEQ.out.mono ?_; rintro e w7 ⟨rfl, hb7⟩
    have HSR := Box.mk (sright_any _ (cutsS R (D.cuts nn L)) L.length w7 (HC6.out.below hb7) (by omega))
    rw [HRT.out] at HSR
    have HB7 := Box.mk (below_tr HB3.out (below_tr HB6.out hb7))
    clear hb7
    go_wp2_with fail
    refine HSR.out.mono ?_; rintro e w8 ⟨rfl, rfl⟩
    go_wp2_with fail
    go_ret
    exact ⟨rfl, HB7.out⟩
end Go.Proofs.YtbpcipobdokcfaaGreatDoor
