/-
  Texts of this claim, one behind the other: DfV, DfW, DfY, DfZ, Df1, Df3.
-/
import Derived.Test.YtjemdepcaaadiaaDoorH6
import Derived.Test.YtjemdepcaaadiaaDoorH2
import Derived.Test.YtjemdepcaaadiaaDoorH3

/- RULES' MACHINE, BY THE DOCUMENT. -/
namespace Go.Proofs.YtjemdepcaaadiaaDoor
open Go.RowKit Go.Shelf
attribute [local go_sem] Oper.semAt_some

theorem pushRows64 : Pushes Tryd.prog 70 26 24 := .mk' (z := .slice none 0 0) Tryd.underlying70 (by kernel_rfl) rfl
theorem pushRowsInt : Pushes Tryd.prog 25 34 24 := .mk' (z := .slice none 0 0) Tryd.underlying25 (by kernel_rfl) rfl
def nvs (L : List (List Nat)) : List (List Value) := L.map fun r => r.map natV
theorem nvs_len (L : List (List Nat)) : (nvs L).length = L.length := by simp [nvs]
theorem nvs_snoc (L : List (List Nat)) (r : List Nat) : nvs (L ++ [r]) = nvs L ++ [r.map natV] := by simp [nvs]
theorem rows_at {W : World} {base : Nat} {E e : TypeId} {v : Value} {vs : List Value} {L : List (List Nat)} (h : (Pc.rows base E e v vs (nvs L)).ok W) : RowsAt W v (L.map zs) := by
  obtain ⟨h0, h1, h2⟩ := h
  have hl : vs.length = L.length := by rw [nvs_len] at h0; simpa using h0
  rcases h1.2 with ⟨h3, h4⟩ | ⟨g, cap, cur, h3, h4, h5, h6, h7, h8, h9⟩
  · refine .inl ⟨h3, ?_⟩
    rw [List.eq_nil_of_length_eq_zero (show L.length = 0 by omega)]; rfl
  · refine .inr ⟨g, 0, none, cap, by rw [h3, List.length_map, hl], by rw [List.length_map]; omega, h7, fun hn => ⟨rfl, (Array.getElem?_eq_some_iff.1 h5).1, fun i r hr => ?_⟩⟩
    rw [List.getElem?_map] at hr
    obtain ⟨r0, h10, rfl⟩ := Option.map_eq_some_iff.1 hr
    obtain ⟨x, hx, hxr, -⟩ := h2 i (r0.map natV) (by unfold nvs; rw [List.getElem?_map, h10]; rfl)
    refine ⟨x, ?_, row_ints hxr (by simp)⟩
    have := h1.cells (g := g) (by rw [h3]; rfl) i x hx
    rw [show (⟨g, 0 + i, none⟩ : Addr) = (⟨g, 0, none⟩ : Addr).add i by unfold Addr.add; by_cases h0 : i = 0 <;> simp [h0]]
    exact this
theorem RowsAt.cap_le {w : World} {ao : Option Addr} {cap n : Nat} {l : List (List Int)} (h : RowsAt w (.slice ao n cap) l) : l.length ≤ cap ∧ cap ≤ 9223372036854775807 := by
  rcases h with ⟨h1, h2⟩ | ⟨b, off, sp, cap', h1, h2, h3, h4⟩
  · injection h1 with _ _ h3; subst h2; subst h3; simp
  · injection h1 with _ _ h5; subst h5; unfold maxLen at h3; omega

theorem firstAll_take {rs : List D.Side} {k : Nat} (h : k < rs.length) : (D.firstAll rs).take (k + 1) = (D.firstAll rs).take k ++ [D.firstAt rs k] := take_snoc' _ _ _ (by unfold D.firstAll; rw [List.getElem?_map, List.getElem?_range h]; rfl)
theorem place_eq_len {t : List D.Sets} {s : D.Sets} (h : D.place t s = t.length) : s ∉ t := fun hm => by have := D.place_lt hm; omega
theorem add_new {t : List D.Sets} {s : D.Sets} (h : s ∉ t) : D.add t s = t ++ [s] := by unfold D.add; rw [if_neg h]
theorem add_old {t : List D.Sets} {s : D.Sets} (h : s ∈ t) : D.add t s = t := by unfold D.add; rw [if_pos h]

theorem no_few {sd : List D.Side} {n K j : Nat} {T : List D.Sets} {NX : List (List Nat)} {FX : List Nat} {S : D.Sets} (hb : D.build sd n K = ⟨T, NX, FX⟩) (hk : NX.length = K) (hK : K + 1 ≤ 300) (hS : T[K]? = some S) (hj : j + 1 ≤ n + 1) (hl : 300 < (D.row sd n S T (j + 1)).2.length) : D.isFew sd n = false := by
  refine D.few_no _ _ (k := K + 1) hK ?_
  have e : D.build sd n (K + 1) = (D.build sd n K).go sd n := rfl
  rw [e, hb, D.go_some _ _ (b := ⟨T, NX, FX⟩) (S := S) (by show T[NX.length]? = some S; rw [hk]; exact hS)]
  exact Nat.lt_of_lt_of_le hl (D.row_le (rs := sd) (n := n) (S := S) (t := T) hj)
theorem build_next {sd : List D.Side} {n K : Nat} {T t' : List D.Sets} {NX : List (List Nat)} {FX r : List Nat} {S : D.Sets} (hb : D.build sd n K = ⟨T, NX, FX⟩) (hk : NX.length = K) (hS : T[K]? = some S) (hr : D.row sd n S T (n + 1) = (r, t')) :
    D.build sd n (K + 1) = ⟨t', NX ++ [r], FX ++ [D.doneTo sd S sd.length]⟩ := by
  have e : D.build sd n (K + 1) = (D.build sd n K).go sd n := rfl
  rw [e, hb, D.go_some _ _ (b := ⟨T, NX, FX⟩) (S := S) (by show T[NX.length]? = some S; rw [hk]; exact hS)]
  simp only
  rw [hr]
/-- the pieces between two states -/
def COut (w : World) (rs : List D.Rule) (n K g : Nat) (allv : Value) (wr : World) : Prop :=
  ∃ nv fv us us2, Sep [Pc.rows w.heap.size 26 2 allv us (nvs (D.build (lefts rs) n K).todo), Pc.blk g 28 #[nv, fv], Pc.rows w.heap.size 34 3 nv us2 (nvs (D.build (lefts rs) n K).next),
    Pc.row w.heap.size 2 1 fv K ((D.build (lefts rs) n K).fits.map natV), Pc.blk w.heap.size 28 #[.slice none 0 0, .slice none 0 0], Pc.old w.heap.size w] wr
/-- the pieces within a state's row -/
def CInn (w : World) (t : List D.Sets) (r : List Nat) (next : List (List Nat)) (fits : List Nat) (K g j : Nat) (nv fv : Value) (us2 : List Value) (allv cv : Value) (wr : World) : Prop :=
  ∃ us, Sep [Pc.row w.heap.size 3 1 cv j (r.map natV), Pc.rows w.heap.size 26 2 allv us (nvs t), Pc.blk g 28 #[nv, fv], Pc.rows w.heap.size 34 3 nv us2 (nvs next),
    Pc.row w.heap.size 2 1 fv K (fits.map natV), Pc.blk w.heap.size 28 #[.slice none 0 0, .slice none 0 0], Pc.old w.heap.size w] wr

set_option maxRecDepth 100000 in
set_option maxHeartbeats 8000000 in
theorem compile12_any (v : Value) (rs : List D.Rule) (n : Int) (w : World) (hf : ∀ x ∈ rs, ruleFit x) (hv : RulesAt w v rs) (hz : rs.length ≤ 16777216) :
    Calls Tryd.prog 12 #[v, .int .i64 n] w (compPost rs n w) := by
  have hb0 := alloc_below w (.cells #[.slice none 0 0, .slice none 0 0] 28)
  have HP := Box.mk (rules11_any v rs n _ hf (hv.below hb0) hz)
  have HB0 := Box.mk hb0
  have HR := Box.mk (Blk.new w 28 #[.slice none 0 0, .slice none 0 0])
  have HS0 := Box.mk ((Sep.start w).alloc_blk 28 #[.slice none 0 0, .slice none 0 0])
  have HV := Box.mk hv
  obtain ⟨ao, cap, rfl⟩ := hv.slice
  obtain ⟨hc1, hc2⟩ := hv.cap_le
  clear hv hb0
  cases hr : rulesB n rs with
  | false =>
    have HRT := Box.mk hr
    have HC := Box.mk (show compCode rs n = 90 by unfold compCode; rw [hr]; rfl)
    have HM := Box.mk (show compM rs n = ([], []) by unfold compM; rw [hr]; rfl)
    clear hr
    go_enter Tryd.func12, Tryd.ntmps12
    go_wp2_with fail
    refine HP.out.mono ?_; rintro e w1 ⟨rfl, hb1⟩; rw [HRT.out]
    have HB1 := Box.mk (HB0.out.trans (hb1.mono HB0.out.size))
    have HR1 := Box.mk (HR.out.below hb1 HR.out.lt)
    have r0 := (HR1.out.cell 0).trans (show _ = some (Value.slice none 0 0) from rfl)
    have r1 := (HR1.out.cell 1).trans (show _ = some (Value.slice none 0 0) from rfl)
    have f0 := HR1.out.frozen 0
    have f1 := HR1.out.frozen 1
    have lr := HR1.out.lt
    clear hb1
    go_wp2_with fail
    exact bodyPost_ret (v := .tuple #[.agg #[.slice none 0 0, .slice none 0 0], .int .i64 90]) (results_row_tmp Tryd.results12 _ _ w.heap.size 28 #[.slice none 0 0, .slice none 0 0] (0, 0) _ rfl ((HR1.out.set_ 0 (.slice none 0 0)).set_ 1 (.slice none 0 0)) Tryd.underlying28 rfl machInfo) rfl
      ⟨(HB1.out.setCell (Nat.le_refl _) _).setCell (Nat.le_refl _) _, _, by rw [HC.out], by rw [HM.out]; exact mach_zero _⟩
  | true =>
    have HRT := Box.mk hr
    obtain ⟨hn1, hn2, hl40, hso⟩ := rulesB_parts hr
    obtain ⟨nn, rfl⟩ := Int.eq_ofNat_of_zero_le (show 0 ≤ n by omega)
    have HSO := Box.mk hso
    have HFL := Box.mk (D.firstAll_len (lefts rs))
    have HFT := Box.mk (fun (k : Nat) (h : k < rs.length) => show ((D.firstAll (lefts rs)).take (k + 1)).map natV = ((D.firstAll (lefts rs)).take k).map natV ++ [natV (D.firstAt (lefts rs) k)] by rw [firstAll_take (by rw [lefts_len]; exact h), List.map_append]; rfl)
    clear hr hso
    go_enter Tryd.func12, Tryd.ntmps12
    go_wp2_with fail
    refine HP.out.mono ?_; rintro e w1 ⟨rfl, hb1⟩; rw [HRT.out]
    have HS1 := Box.mk (((HS0.out.below hb1)).nil_row w.heap.size 1 2)
    clear hb1
    go_wp2_with fail
    go_loopw [6, 7] (fun o i wr => ∃ k : Nat, k ≤ rs.length ∧ i = .int .i64 k ∧ Box (Sep [Pc.row w.heap.size 2 1 o k (((D.firstAll (lefts rs)).take k).map natV), Pc.blk w.heap.size 28 #[.slice none 0 0, .slice none 0 0], Pc.old w.heap.size w] wr)) (fun _ i _ => rs.length - (intOf i).toNat)
    case atStart => exact ⟨0, by omega, rfl, HS1⟩
    case round =>
      obtain ⟨k, hk, rfl, hsep⟩ := hrel
      have HBR := Box.mk (show Below w.heap.size w wr from hsep.out.bel (by simp))
      by_cases hlt : k < rs.length
      · obtain ⟨x, hx⟩ : ∃ x, rs[k]? = some x := ⟨_, List.getElem?_eq_getElem hlt⟩
        obtain ⟨bg, off, cap2, hg1, hg2, hg3, hg4, hg5⟩ := (HV.out.below HBR.out).get (by rintro rfl; simp at hlt)
        obtain ⟨rfl, rfl⟩ : ao = some ⟨bg, off, none⟩ ∧ cap = cap2 := by injection hg1 with h1 h2 h3; exact ⟨h1, h3⟩
        obtain ⟨vl, vr, hc0, hc1, hc2, hc3, hc4, hil, hir⟩ := hg5 k x hx
        have hrx := HSO.out x (List.mem_of_getElem? hx)
        have HTK := Box.mk (show ((D.firstAll (lefts rs)).take (k + 1)).map natV = ((D.firstAll (lefts rs)).take k).map natV ++ [Value.int .i64 ((N.clo x.1.2 0 : Nat) : Int)] by rw [HFT.out k hlt]; unfold D.firstAt; rw [lefts_at hx]; rfl)
        have HV2 := Box.mk (show firstV x.1.2 = .tuple #[.int .i64 (N.clo x.1.2 0), .int .i64 0] by unfold firstV; rw [hrx]; rfl)
        have HST := Box.mk (rfirst_any x.1.1 vl x.1.2 wr hil (by have := right_len hrx; omega))
        unfold maxLen at hg3
        obtain ⟨⟨stl, il⟩, ⟨str, ir⟩, br⟩ := x
        simp only at hc0 hc1 hc2 hc3 hc4 HTK HV2 HST
        clear hx hg1 hg5 hil hir hrx
        go_wp2_with fail
        refine HST.out.mono ?_; rintro e w3 ⟨rfl, hb3⟩; rw [HV2.out]
        have HS3 := Box.mk (hsep.out.below hb3)
        have hlb : w.heap.size ≤ w3.heap.size := Nat.le_trans HBR.out.size hb3.size
        clear hb3
        go_wp2_with (at_builtin; refine wpList_push rfl _ _ 26 rfl pushI64 HS3.out 0 rfl rfl rfl rfl (by omega) (by omega) hlb ?_; rintro v' w4 hS4 -)
        rw [← HTK.out] at hS4
        have HS4 := Box.mk hS4
        clear hS4
        go_wp2_with fail
        go_roundw
        case rel => exact ⟨k + 1, hlt, by go_num, HS4⟩
        case measure => simp [intOf]; omega
      · obtain rfl : k = rs.length := by omega
        have HFA := Box.mk (show (D.firstAll (lefts rs)).take rs.length = D.firstAll (lefts rs) by rw [← lefts_len rs, ← HFL.out, List.take_length])
        have hsep' := hsep.out
        rw [HFA.out] at hsep'
        obtain ⟨fa, fc, rfl, hfc1, hfc2⟩ := own_shape (hsep'.row 0 rfl)
        have HSA := Box.mk ((Sep.rows_one (E := 26) (xs := (D.firstAll (lefts rs)).map natV) (by rw [List.length_map, HFL.out, lefts_len]; exact hsep') HBR.out.size).alloc_blk 28 #[.slice none 0 0, .slice none 0 0])
        clear hsep hsep'
        go_upto_region 11 with (fail)
        obtain ⟨g, hg⟩ : ∃ g, g = wr.heap.size + 1 := ⟨_, rfl⟩
        obtain ⟨W2, hW2⟩ : ∃ W2, W2 = (wr.alloc (.cells #[.slice fa rs.length fc] 26)).alloc (.cells #[.slice none 0 0, .slice none 0 0] 28) := ⟨_, rfl⟩
        rw [← hW2, ← hg]
        have HCO := Box.mk (show COut w rs nn 0 g (.slice (some ⟨wr.heap.size, 0, none⟩) 1 1) W2 by
          have h1 := HSA.out
          rw [← hW2, show (wr.alloc (.cells #[.slice fa rs.length fc] 26)).heap.size = g by rw [hg]; simp] at h1
          have h2 := ((h1.nil_row w.heap.size 1 2).nil_rows w.heap.size 34 3)
          exact ⟨_, _, _, _, ((h2.front 1 rfl).front 1 rfl |>.front 2 rfl).front 3 rfl⟩)
        have HK0 := Box.mk (show (D.build (lefts rs) nn 0).next.length = 0 ∧ 0 ≤ (D.build (lefts rs) nn 0).todo.length ∧ (D.build (lefts rs) nn 0).todo.length ≤ 300 from ⟨rfl, Nat.zero_le _, (show (1 : Nat) ≤ 300 from by decide)⟩)
        have HGW := Box.mk (show w.heap.size ≤ g by have := HBR.out.size; omega)
        clear HSA HFA HFL HFT HS1 HS0 HP HB0 HR hk hlt hfc1 hfc2 hW2 hg
        go_wp2_with fail
        go_loopw [10, 12] (fun allv i wo => ∃ K : Nat, K ≤ 300 ∧ i = .int .i64 K ∧ Box (COut w rs nn K g allv wo) ∧ Box ((D.build (lefts rs) nn K).next.length = K ∧ K ≤ (D.build (lefts rs) nn K).todo.length ∧ (D.build (lefts rs) nn K).todo.length ≤ 300)) (fun _ i _ => 301 - (intOf i).toNat)
        case atStart => exact ⟨0, by omega, rfl, HCO, HK0⟩
        case round =>
          obtain ⟨K, hK, rfl, hco, hkk⟩ := hrel
          obtain ⟨nv, fv, us, us2, hso⟩ := hco.out
          obtain ⟨T, hT⟩ : ∃ T, (D.build (lefts rs) nn K).todo = T := ⟨_, rfl⟩
          obtain ⟨NX, hNX⟩ : ∃ NX, (D.build (lefts rs) nn K).next = NX := ⟨_, rfl⟩
          obtain ⟨FX, hFX⟩ : ∃ FX, (D.build (lefts rs) nn K).fits = FX := ⟨_, rfl⟩
          have HBD := Box.mk (show D.build (lefts rs) nn K = ⟨T, NX, FX⟩ by rw [← hT, ← hNX, ← hFX])
          obtain ⟨hk1, hk2, hk3⟩ := hkk.out
          have hgoodT := D.good_build (lefts rs) nn K
          rw [hT] at hk2 hk3 hgoodT hso
          rw [hNX] at hk1 hso
          rw [hFX] at hso
          have HGT := Box.mk hgoodT
          have HUS := Box.mk (show us.length = T.length by have := (hso.at' 0 rfl).1; rw [nvs_len] at this; simpa using this)
          obtain ⟨aa, ac, hav, hac1, hac2⟩ := own_shape (hso.at' 0 rfl).2.1
          rw [HUS.out] at hav
          subst hav
          have HSO2 := Box.mk hso
          clear hco hkk hgoodT hso hT hNX hFX
          by_cases hlt : K < T.length
          · obtain ⟨S, hS⟩ : ∃ S, T[K]? = some S := ⟨_, List.getElem?_eq_getElem hlt⟩
            have HS := Box.mk hS
            have HGS := Box.mk (HGT.out S (List.mem_of_getElem? hS))
            have HIN0 := Box.mk (show CInn w T [] NX FX K g 0 nv fv us2 (.slice aa T.length ac) (.slice none 0 0) wr from ⟨us, HSO2.out.nil_row _ _ _⟩)
            clear hS
            go_wp2_with fail
            go_loopw [10, 13, 14] (fun allv cv c wi => ∃ j : Nat, j ≤ nn + 1 ∧ c = .int .i64 j ∧ Box (CInn w (D.row (lefts rs) nn S T j).2 (D.row (lefts rs) nn S T j).1 NX FX K g j nv fv us2 allv cv wi) ∧ Box ((D.row (lefts rs) nn S T j).2.length ≤ 300)) (fun _ _ c _ => nn + 1 - (intOf c).toNat)
            case atStart => exact ⟨0, by omega, rfl, HIN0, ⟨hk3⟩⟩
            case round =>
              obtain ⟨j, hj, rfl, hci, hle⟩ := hrel
              obtain ⟨us, hsi⟩ := hci.out
              obtain ⟨⟨r, t'⟩, hrow⟩ : ∃ q, D.row (lefts rs) nn S T j = q := ⟨_, rfl⟩
              have HROW := Box.mk hrow
              have hpre := D.row_pre (lefts rs) nn S T j
              have hrl := D.row_len (lefts rs) nn S T j
              rw [hrow] at hsi hle hpre hrl
              simp only at hsi hle hpre hrl
              have HUS := Box.mk (show us.length = t'.length by have := (hsi.at' 1 rfl).1; rw [nvs_len] at this; simpa using this)
              have HGT' := Box.mk (show ∀ x ∈ t', D.Good (lefts rs) x by
                have := D.row_all (rs := lefts rs) (n := nn) (S := S) (t := T) HGT.out (fun c => D.good_step (lefts rs) S c) j
                rw [hrow] at this
                exact this)
              have HSI := Box.mk hsi
              have HBI := Box.mk (show Below w.heap.size w wr from hsi.bel (by simp))
              obtain ⟨ca, cc, rfl, hcc1, hcc2⟩ := own_shape (hsi.row 0 rfl)
              have HRA := Box.mk (rows_at (hsi.at' 1 rfl))
              have hS' := D.pre_get hpre HS.out
              have hKt : K < t'.length := (List.getElem?_eq_some_iff.1 hS').1
              have hle' := hle.out
              by_cases hjn : j ≤ nn
              · obtain ⟨ab, aoff, acap, hav, ha2, ha3, ha4, ha5⟩ := HRA.out.get (by intro e; have := congrArg List.length e; simp at this; subst this; simp at hKt)
                rw [List.length_map] at hav ha2
                subst hav
                obtain ⟨xv, hcx, hxi⟩ := ha5 K (zs S) (by rw [List.getElem?_map, hS']; rfl)
                obtain ⟨cc', hcc, hjc⟩ : ∃ cc : Int, D.cls nn j = cc ∧ ((j = nn ∧ cc = -1) ∨ (j < nn ∧ cc = (j : Int))) := by
                  refine ⟨_, rfl, ?_⟩
                  unfold D.cls
                  rcases Nat.lt_or_ge j nn with h | h
                  · exact .inr ⟨h, by rw [if_neg (by omega)]⟩
                  · exact .inl ⟨by omega, by rw [if_pos (by omega)]⟩
                obtain ⟨s, hs⟩ : ∃ s, D.stepAll (lefts rs) S cc' = s := ⟨_, rfl⟩
                have HST := Box.mk (rstep12_any (.slice ao rs.length cap) xv rs S cc' wr (HV.out.below HBI.out) hl40 HSO.out HGS.out hxi)
                rw [hs] at HST
                have HSL := Box.mk (show s.length = rs.length by rw [← hs, D.stepAll_len, lefts_len])
                have HRS := Box.mk (show D.row (lefts rs) nn S T (j + 1) = (r ++ [D.place t' s], D.add t' s) by rw [D.row_succ, HROW.out, hcc, hs])
                unfold maxLen at ha3
                have hKc : K < acap := by omega
                clear hsi hci hpre hS' ha5 hxi hrow hs hcc
                have HNEXT : Calls Tryd.prog 36 #[.slice ao rs.length cap, xv, .int .i64 cc'] wr fun e w' => Box (Below wr.heap.size wr w') ∧ ∃ la lc, e = .returned (.slice la rs.length lc) ∧ Box (Sep [Pc.row w.heap.size 2 1 (.slice la rs.length lc) rs.length (s.map natV), Pc.row w.heap.size 3 1 (.slice ca j cc) j (r.map natV), Pc.rows w.heap.size 26 2 (.slice (some ⟨ab, aoff, none⟩) t'.length acap) us (nvs t'), Pc.blk g 28 #[nv, fv], Pc.rows w.heap.size 34 3 nv us2 (nvs NX),
                    Pc.row w.heap.size 2 1 fv K (FX.map natV), Pc.blk w.heap.size 28 #[.slice none 0 0, .slice none 0 0], Pc.old w.heap.size w] w') := HST.out.mono (by
                  rintro e w3 ⟨hb3, lv, rfl, hlr⟩
                  obtain ⟨la, lc, rfl, -, -⟩ := own_shape hlr
                  exact ⟨⟨hb3⟩, la, lc, rfl, ⟨HSI.out.got hb3 hlr HBI.out.size⟩⟩)
                have HNX := Box.mk HNEXT
                clear HNEXT HST
                have hjc2 : (((j : Int) == (nn : Int)) = true ∧ cc' = -1) ∨ (((j : Int) == (nn : Int)) = false ∧ cc' = (j : Int)) := by
                  rcases hjc with ⟨h, h'⟩ | ⟨h, h'⟩
                  · exact .inl ⟨by rw [beq_iff_eq]; omega, h'⟩
                  · exact .inr ⟨beq_eq_false_iff_ne.2 (by omega), h'⟩
                clear hjc
                rcases hjc2 with ⟨hjn', rfl⟩ | ⟨hjn', rfl⟩
                all_goals
                  go_wp2_with fail
                  refine HNX.out.mono ?_; rintro e w3 ⟨hb3, la, lc, rfl, hs3⟩
                  have HME := Box.mk (met12_any (.slice (some ⟨ab, aoff, none⟩) t'.length acap) (.slice la rs.length lc) t' s w3 (rows_at (hs3.out.at' 2 rfl)) (by omega) (fun x hx => by rw [(HGT'.out x hx).1, lefts_len]; exact hl40) (by rw [HSL.out]; exact hl40) (row_ints (hs3.out.row 0 rfl) HSL.out.symm))
                  obtain ⟨p, hp⟩ : ∃ p, D.place t' s = p := ⟨_, rfl⟩
                  have HPL := Box.mk hp
                  have hple := D.place_le t' s
                  rw [hp] at HME hple
                  rw [hp] at HRS
                  clear hp
                  rcases (show (p = 300 ∧ t'.length = 300) ∨ (p < 300 ∧ p = t'.length) ∨ (p < 300 ∧ p < t'.length) by omega) with ⟨hp1, hp2⟩ | ⟨hp1, hp2⟩ | ⟨hp1, hp2⟩
                  · have q1 : ((p : Int) == 300) = true := by rw [beq_iff_eq]; omega
                    have HP1 := Box.mk hp1
                    have HP2 := Box.mk hp2
                    have HK1 := Box.mk (show K + 1 ≤ 300 by omega)
                    clear hp1 hp2 hple
                    go_wp2_with fail
                    refine HME.out.mono ?_; rintro e w4 ⟨rfl, hb4⟩
                    have HS4 := Box.mk (hs3.out.below hb4)
                    have HNF := Box.mk (no_few HBD.out hk1 HK1.out HS.out (show j + 1 ≤ nn + 1 by omega) (by rw [HRS.out]; simp only; rw [add_new (place_eq_len (by rw [HPL.out, HP1.out, HP2.out])), List.length_append, HP2.out]; exact Nat.lt_succ_self 300))
                    have HC := Box.mk (show compCode rs nn = 100 by unfold compCode; rw [HRT.out, Int.toNat_natCast, HNF.out]; rfl)
                    have HM := Box.mk (show compM rs nn = ([], []) by unfold compM; rw [HRT.out, Int.toNat_natCast, HNF.out]; rfl)
                    have HR1 := Box.mk (HS4.out.blk 6 rfl)
                    have HB1 := Box.mk (show Below w.heap.size w w4 from HS4.out.bel (by simp))
                    have r0 := (HR1.out.cell 0).trans (show _ = some (Value.slice none 0 0) from rfl)
                    have r1 := (HR1.out.cell 1).trans (show _ = some (Value.slice none 0 0) from rfl)
                    have f0 := HR1.out.frozen 0
                    have f1 := HR1.out.frozen 1
                    have lr := HR1.out.lt
                    clear hb4
                    go_wp2_with fail
                    exact bodyPost_ret (v := .tuple #[.agg #[.slice none 0 0, .slice none 0 0], .int .i64 100]) (results_row_tmp Tryd.results12 _ _ w.heap.size 28 #[.slice none 0 0, .slice none 0 0] (0, 0) _ rfl ((HR1.out.set_ 0 (.slice none 0 0)).set_ 1 (.slice none 0 0)) Tryd.underlying28 rfl machInfo) rfl
                      ⟨(HB1.out.setCell (Nat.le_refl _) _).setCell (Nat.le_refl _) _, _, by rw [HC.out], by rw [HM.out]; exact mach_zero _⟩
                  · go_wp2_with fail
                    refine HME.out.mono ?_; rintro e w4 ⟨rfl, hb4⟩
                    have HS4 := Box.mk (hs3.out.below hb4)
                    subst hp2
                    have q1 : ((t'.length : Int) == 300) = false := beq_eq_false_iff_ne.2 (by omega)
                    have hb4s : w.heap.size ≤ w4.heap.size := by have := hb3.out.size; have := hb4.size; have := HBI.out.size; omega
                    have hul : us.length ≤ 1000000000 := by rw [HUS.out]; omega
                    have HADD := Box.mk (show nvs (D.add t' s) = nvs t' ++ [s.map natV] by rw [add_new (place_eq_len HPL.out), nvs_snoc])
                    have HAL := Box.mk (show (D.add t' s).length ≤ 300 by rw [add_new (place_eq_len HPL.out), List.length_append]; simp; omega)
                    have HJL := Box.mk (show j ≤ 1000000000 by omega)
                    clear hb4
                    go_wp2_with (first
                      | (at_builtin; refine wpList_push_rows rfl _ _ 70 rfl pushRows64 HS4.out 1 rfl rfl rfl rfl (by rw [List.length_map, HSL.out]) hul (by omega) hb4s ?_; rintro v' w5 hS5 ⟨g5, c5, rfl, h51, h52⟩; have hb5s := (hS5.bel (n := w.heap.size) (W0 := w) (by simp)).size)
                      | (at_builtin; refine wpList_push rfl _ _ 34 rfl pushInt hS5 0 rfl rfl rfl rfl HJL.out (by omega) hb5s ?_; rintro v' w6 hS6 -))
                    have HCI := Box.mk (show CInn w (D.row (lefts rs) nn S T (j + 1)).2 (D.row (lefts rs) nn S T (j + 1)).1 NX FX K g (j + 1) nv fv us2 (.slice (some ⟨g5, 0, none⟩) (us.length + 1) c5) v' w6 by
                      rw [HRS.out]
                      unfold CInn
                      simp only
                      rw [HADD.out, List.map_append]
                      exact ⟨_, hS6⟩)
                    clear hS5 hS6
                    go_wp2_with fail
                    go_roundw
                    case rel => exact ⟨j + 1, by omega, by go_num, HCI, ⟨by rw [HRS.out]; exact HAL.out⟩⟩
                    case measure => simp [intOf]; omega
                  · go_wp2_with fail
                    refine HME.out.mono ?_; rintro e w4 ⟨rfl, hb4⟩
                    have HS4 := Box.mk (hs3.out.below hb4).tail
                    have q1 : ((p : Int) == 300) = false := beq_eq_false_iff_ne.2 (by omega)
                    have q2 : ((p : Int) == (t'.length : Int)) = false := beq_eq_false_iff_ne.2 (by omega)
                    have hb4s : w.heap.size ≤ w4.heap.size := by have := hb3.out.size; have := hb4.size; have := HBI.out.size; omega
                    have hmem : s ∈ t' := by
                      rcases Classical.em (s ∈ t') with h | h
                      · exact h
                      · have := D.place_new h; rw [HPL.out] at this; omega
                    have HADD := Box.mk (add_old hmem)
                    have HJL := Box.mk (show j ≤ 1000000000 by omega)
                    clear hb4 hmem
                    go_wp2_with (at_builtin; refine wpList_push rfl _ _ 34 rfl pushInt HS4.out 0 rfl rfl rfl rfl HJL.out (by omega) hb4s ?_; rintro v' w6 hS6 -)
                    have HCI := Box.mk (show CInn w (D.row (lefts rs) nn S T (j + 1)).2 (D.row (lefts rs) nn S T (j + 1)).1 NX FX K g (j + 1) nv fv us2 (.slice (some ⟨ab, aoff, none⟩) t'.length acap) v' w6 by
                      rw [HRS.out]
                      unfold CInn
                      simp only
                      rw [HADD.out, List.map_append]
                      exact ⟨_, hS6⟩)
                    clear hS6
                    go_wp2_with fail
                    go_roundw
                    case rel => exact ⟨j + 1, by omega, by go_num, HCI, ⟨by rw [HRS.out]; simp only; rw [HADD.out]; exact hle'⟩⟩
                    case measure => simp [intOf]; omega
              · obtain ⟨na, nc, rfl, hnc1, hnc2⟩ := own_shape (hsi.at' 3 rfl).2.1
                obtain ⟨fa', fc', rfl, hfc1, hfc2⟩ := own_shape (hsi.row 4 rfl)
                have HUS2 := Box.mk (show us2.length = NX.length by have := (hsi.at' 3 rfl).1; rw [nvs_len] at this; simpa using this)
                have hu2 : us2.length ≤ 1000000000 := by rw [HUS2.out, hk1]; omega
                have hbs : w.heap.size ≤ wr.heap.size := HBI.out.size
                have HG0 := Box.mk (hsi.blk 2 rfl)
                have cg0 : wr.cell? ⟨g, 0, none⟩ = some (.slice na us2.length nc) := (HG0.out.cell 0).trans rfl
                have lg := HG0.out.lt
                have HLR := Box.mk (show j = (r.map natV).length by rw [List.length_map, hrl])
                have hj' : j = nn + 1 := by omega
                have HJ := Box.mk hj'
                have HSI' := Box.mk hsi
                clear hsi hci hpre hS' hrl hrow hj'
                go_wp2_with (at_builtin; refine wpList_push_rows rfl _ _ 25 rfl pushRowsInt HSI'.out 2 rfl rfl rfl rfl HLR.out hu2 (by omega) hbs ?_; rintro v' w5 hS5 ⟨g5, c5, rfl, h51, h52⟩; have HG5 := Box.mk (hS5.blk 1 rfl); have e0 := (HG5.out.cell 0).trans (show _ = some (Value.slice na us2.length nc) from rfl); have f0 := HG5.out.frozen 0; have l5 := HG5.out.lt; have HS6 := Box.mk (hS5.set 1 rfl 0 (.slice (some ⟨g5, 0, none⟩) (us2.length + 1) c5)))
                simp only [List.set] at HS6
                generalize w5.setCell ⟨g, 0, none⟩ (.slice (some ⟨g5, 0, none⟩) (us2.length + 1) c5) = w6 at HS6 ⊢
                clear e0 f0 l5 HG5 hS5 HSI' cg0 lg HG0 hu2 hbs
                have hbs6 : w.heap.size ≤ w6.heap.size := (HS6.out.bel (n := w.heap.size) (W0 := w) (by simp)).size
                have HS'' := Box.mk (show t'[K]? = some S from D.pre_get (by have := D.row_pre (lefts rs) nn S T j; rw [HROW.out] at this; exact this) HS.out)
                obtain ⟨WR, hWR⟩ : ∃ WR, WR = w6.drew := ⟨_, rfl⟩
                have HSR := Box.mk (show Sep _ WR by rw [hWR]; exact HS6.out.drew)
                have hbsR : w.heap.size ≤ WR.heap.size := by rw [hWR]; exact hbs6
                have HBR := Box.mk (show Below w.heap.size w WR from HSR.out.bel (by simp))
                have hra6 := rows_at (HSR.out.at' 0 rfl)
                obtain ⟨ab, aoff, acap, hav, ha2, ha3, ha4, ha5⟩ := hra6.get (by intro e; have := congrArg List.length e; simp at this; subst this; simp at hKt)
                rw [List.length_map] at hav ha2
                subst hav
                obtain ⟨xv, hcx, hxi⟩ := ha5 K (zs S) (by rw [List.getElem?_map, HS''.out]; rfl)
                unfold maxLen at ha3
                have HDN := Box.mk (rdone12_any (.slice ao rs.length cap) xv rs S WR (HV.out.below HBR.out) hl40 HSO.out HGS.out hxi)
                have HG := Box.mk (HSR.out.blk 1 rfl)
                have HFB := Box.mk (show ∀ W', Below WR.heap.size WR W' → W'.cell? ⟨g, 1, none⟩ = some (.slice fa' K fc') ∧ W'.cell? ⟨ab, aoff + K, none⟩ = some xv from fun W' h => ⟨((HG.out.below h HG.out.lt).cell 1).trans rfl, (h.cell (p := ⟨ab, aoff + K, none⟩) ha4).trans hcx⟩)
                have hF0 := HFB.out WR (Below.refl _ _)
                have lgR := HG.out.lt
                clear hcx ha5 hxi hra6 hbs6 HS6
                refine wp_region_K 9 (fun W => W.cell? ⟨g, 1, none⟩ = some (.slice fa' K fc') ∧ W.cell? ⟨ab, aoff + K, none⟩ = some xv) (by kernel_rfl) ?_
                rw [← hWR]
                clear hWR
                have HF0 := Box.mk hF0
                clear hF0
                refine wpAnyK_take (i := 0) (v := ?_) rfl (by kernel_rfl) (fun _ _ _ h => h) (Or.inl ⟨by kernel_rfl, ?_⟩) HF0.out ?_
                rotate_left
                · first | (intro w hw; obtain ⟨q1, q2⟩ := hw; go_simp; done) | (intro w hw; obtain ⟨q1, q2⟩ := hw; go_simp; with_reducible rfl)
                refine wpAnyK_take (i := 1) (v := ?_) rfl (by kernel_rfl) (fun _ _ _ h => h) (Or.inl ⟨by kernel_rfl, ?_⟩) HF0.out ?_
                rotate_left
                · first | (intro w hw; obtain ⟨q1, q2⟩ := hw; go_simp; done) | (intro w hw; obtain ⟨q1, q2⟩ := hw; go_simp; with_reducible rfl)
                refine wpAnyK_take (i := 2) (v := ?_) rfl (by kernel_rfl) (fun _ _ _ h => h) (Or.inl ⟨by kernel_rfl, ?_⟩) HF0.out ?_
                rotate_left
                · first | (intro w hw; obtain ⟨q1, q2⟩ := hw; go_simp; done) | (intro w hw; obtain ⟨q1, q2⟩ := hw; go_simp; with_reducible rfl)
                refine wpAnyK_take (i := 3) (v := ?_) rfl (by kernel_rfl) (fun _ _ _ h => h) (Or.inl ⟨by kernel_rfl, ?_⟩) HF0.out ?_
                rotate_left
                · first | (intro w hw; obtain ⟨q1, q2⟩ := hw; go_simp; done) | (intro w hw; obtain ⟨q1, q2⟩ := hw; go_simp; with_reducible rfl)
                refine wpAnyK_take (i := 4) (v := ?_) rfl (by kernel_rfl) (fun _ _ _ h => h) (Or.inl ⟨by kernel_rfl, ?_⟩) HF0.out ?_
                rotate_left
                · first | (intro w hw; obtain ⟨q1, q2⟩ := hw; go_simp; done) | (intro w hw; obtain ⟨q1, q2⟩ := hw; go_simp; with_reducible rfl)
                refine wpAnyK_take (i := 5) (v := ?_) rfl (by kernel_rfl) (fun _ _ _ h => h) (Or.inl ⟨by kernel_rfl, ?_⟩) HF0.out ?_
                rotate_left
                · first | (intro w hw; obtain ⟨q1, q2⟩ := hw; go_simp; done) | (intro w hw; obtain ⟨q1, q2⟩ := hw; go_simp; with_reducible rfl)
                refine wpAnyK_take (i := 6) (v := ?_) rfl (by kernel_rfl) (fun _ _ _ h => h) (Or.inl ⟨by kernel_rfl, ?_⟩) HF0.out ?_
                rotate_left
                · first | (intro w hw; obtain ⟨q1, q2⟩ := hw; go_simp; done) | (intro w hw; obtain ⟨q1, q2⟩ := hw; go_simp; with_reducible rfl)
                refine wpAnyK_one (i := 7) (by kernel_rfl) rfl (fun KK hKK => ?_)
                go_simp
                go_wp2_with (go_at_call 38; refine HDN.out.mono ?_; rintro e w7 ⟨rfl, hb7⟩)
                have HB7 := Box.mk (show Below WR.heap.size WR w7 from hb7)
                have HS7 := Box.mk (HSR.out.below hb7)
                have hbs7 : w.heap.size ≤ w7.heap.size := Nat.le_trans hbsR hb7.size
                clear hb7
                refine hKK.out _ _ (fun _ => HFB.out _ HB7.out) ?_
                clear hKK KK
                refine wpAnyK_one (i := 8) (by kernel_rfl) rfl (fun KK hKK => ?_)
                go_simp
                refine hKK.out _ _ (fun _ => HFB.out _ (HB7.out.alloc HB7.out.size _)) ?_
                clear hKK KK
                refine wpAnyK_one (i := 9) (by kernel_rfl) rfl (fun KK hKK => ?_)
                refine step_push rfl _ _ 26 rfl pushI64 HS7.out 3 rfl (by kernel_rfl) (by kernel_rfl) rfl (by omega) (by omega) hbs7 ?_
                rintro v' w8 hS8 ⟨g8, c8, rfl, h81, h82⟩
                refine hKK.out _ _ (fun h => by cases h) ?_
                clear hKK KK
                have HG8 := Box.mk (hS8.blk 1 rfl)
                have e0 := (HG8.out.cell 1).trans (show _ = some (Value.slice fa' K fc') from rfl)
                have f0 := HG8.out.frozen 1
                have l8 := HG8.out.lt
                have HS9 := Box.mk (hS8.set 1 rfl 1 (.slice (some ⟨g8, 0, none⟩) (K + 1) c8))
                clear hS8
                refine wpAnyK_one (i := 10) (by kernel_rfl) rfl (fun KK hKK => ?_)
                go_simp
                refine hKK.out _ _ (fun h => by cases h) ?_
                clear hKK KK
                refine wpAnyK_one (i := 11) (by kernel_rfl) rfl (fun KK hKK => ?_)
                go_simp
                refine hKK.out _ _ (fun h => by cases h) ?_
                clear hKK KK
                refine wpAnyK_done (by kernel_rfl) ?_ _
                refine NoPanic.normal ?_
                have HBN := Box.mk (show D.build (lefts rs) nn (K + 1) = ⟨t', NX ++ [r], FX ++ [D.doneTo (lefts rs) S (lefts rs).length]⟩ from build_next HBD.out hk1 HS.out (by have := HROW.out; rw [HJ.out] at this; exact this))
                have HCO' := Box.mk (show COut w rs nn (K + 1) g (.slice (some ⟨ab, aoff, none⟩) t'.length acap) (w8.setCell ⟨g, 1, none⟩ (.slice (some ⟨g8, 0, none⟩) (K + 1) c8)) by
                  unfold COut
                  rw [HBN.out]
                  simp only
                  rw [nvs_snoc, List.map_append, lefts_len]
                  exact ⟨_, _, _, _, HS9.out⟩)
                have HKK' := Box.mk (show (D.build (lefts rs) nn (K + 1)).next.length = K + 1 ∧ K + 1 ≤ (D.build (lefts rs) nn (K + 1)).todo.length ∧ (D.build (lefts rs) nn (K + 1)).todo.length ≤ 300 by
                  rw [HBN.out]
                  simp only
                  rw [List.length_append, hk1]
                  exact ⟨rfl, hKt, hle'⟩)
                go_wp2_with fail
                go_roundw
                case rel => exact ⟨K + 1, by omega, by go_num, HCO', HKK'⟩
                case measure => simp [intOf]; omega
          · have HKE := Box.mk (show T.length ≤ NX.length by rw [hk1]; omega)
            have HEND := Box.mk (show D.build (lefts rs) nn 300 = ⟨T, NX, FX⟩ by
              rw [← HBD.out]
              exact D.build_end _ _ hK (by rw [HBD.out]; exact HKE.out))
            have HFEW := Box.mk (show D.isFew (lefts rs) nn = true from D.few_end _ _ hK (by rw [HBD.out]; exact HKE.out) (by rw [HBD.out]; exact hk3))
            have HC := Box.mk (show compCode rs nn = 0 by unfold compCode; rw [HRT.out, Int.toNat_natCast, HFEW.out]; rfl)
            have HM := Box.mk (show compM rs nn = machB ⟨T, NX, FX⟩ by unfold compM machOf; rw [HRT.out, Int.toNat_natCast, HFEW.out, HEND.out]; rfl)
            have HG := Box.mk (HSO2.out.blk 1 rfl)
            have HRS := Box.mk (HSO2.out.blk 4 rfl)
            have HNE := Box.mk (show w.heap.size ≠ g from fun e => HSO2.out.tail.head |> fun _ => (HSO2.out.tail.2.1 (Pc.blk w.heap.size 28 #[.slice none 0 0, .slice none 0 0]) (by simp) g rfl) e.symm)
            obtain ⟨na, nc, rfl, hnc1, hnc2⟩ := own_shape (HSO2.out.at' 2 rfl).2.1
            obtain ⟨fa', fc', rfl, hfc1, hfc2⟩ := own_shape (HSO2.out.row 3 rfl)
            have c0 := (HG.out.cell 0).trans (show _ = some (Value.slice na us2.length nc) from rfl)
            have c1 := (HG.out.cell 1).trans (show _ = some (Value.slice fa' K fc') from rfl)
            have lg := HG.out.lt
            have q0 := (HRS.out.cell 0).trans (show _ = some (Value.slice none 0 0) from rfl)
            have q1 := (HRS.out.cell 1).trans (show _ = some (Value.slice none 0 0) from rfl)
            have f0 := HRS.out.frozen 0
            have f1 := HRS.out.frozen 1
            have lr := HRS.out.lt
            have HS9 := Box.mk ((HSO2.out.set 4 rfl 0 (.slice na us2.length nc)).set 4 rfl 1 (.slice fa' K fc'))
            have HB9 := Box.mk (show Below w.heap.size w wr from HSO2.out.bel (by simp))
            have hlk : T.length = K := by omega
            have HFXL := Box.mk (show K = FX.length by have := D.build_len (lefts rs) nn K; rw [HBD.out] at this; have := this.1; simp only at this; omega)
            go_wp2_with fail
            exact bodyPost_ret (v := .tuple #[.agg #[.slice na us2.length nc, .slice fa' K fc'], .int .i64 0]) (results_row_tmp Tryd.results12 _ _ w.heap.size 28 #[.slice na us2.length nc, .slice fa' K fc'] (0, 0) _ rfl (HS9.out.blk 4 rfl) Tryd.underlying28 rfl machInfo) rfl
              ⟨(HB9.out.setCell (Nat.le_refl _) _).setCell (Nat.le_refl _) _, _, by rw [HC.out], by rw [HM.out]; exact machB_at (rows_at (HS9.out.at' 2 rfl)) (row_ints (HS9.out.row 3 rfl) HFXL.out)⟩
end Go.Proofs.YtjemdepcaaadiaaDoor

/- TWO MACHINES COMPARED: by the document and by the program. -/
namespace Go.Proofs.YtjemdepcaaadiaaDoor
open Go.RowKit Go.Shelf
attribute [local go_sem] Oper.semAt_some

/-- a machine of a size that is looked at -/
def MachFit (M : D.Mach) : Prop := M.1.length ≤ 1000 ∧ M.2.length ≤ 1000 ∧ ∀ r ∈ M.1, r.length ≤ 1000
theorem rows_take_step {xs ys : List (List Int)} {k : Nat} {x : List Int} (h : xs.take k = ys.take k) (hx : xs[k]? = some x) (hy : ys[k]? = some x) : xs.take (k + 1) = ys.take (k + 1) := by
  rw [List.take_add_one, List.take_add_one, h, hx, hy]
theorem rows_ne_step {xs ys : List (List Int)} {k : Nat} {x y : List Int} (hx : xs[k]? = some x) (hy : ys[k]? = some y) (h : x ≠ y) : xs ≠ ys := by
  rintro rfl
  rw [hx] at hy
  exact h (by simpa using hy)
theorem mach_eq {M N : D.Mach} (h1 : M.1 = N.1) (h2 : M.2 = N.2) : M = N := by cases M; cases N; simp_all

set_option maxRecDepth 100000 in
set_option maxHeartbeats 4000000 in
theorem same12_any (a b : Value) (M N : D.Mach) (w : World) (ha : MachAt w a M) (hb : MachAt w b N) (hM : MachFit M) (hN : MachFit N) :
    Calls Tryd.prog 13 #[a, b] w fun e w' => e = .returned (.bool (decide (M = N))) ∧ Below w.heap.size w w' := by
  obtain ⟨na, fa, rfl, hra, hia⟩ := ha
  obtain ⟨nb, fb, rfl, hrb, hib⟩ := hb
  have HRA := Box.mk hra
  have HRB := Box.mk hrb
  have HFM := Box.mk hM
  have HFN := Box.mk hN
  obtain ⟨aa, ca, rfl⟩ := hra.slice
  obtain ⟨ab, cb, rfl⟩ := hrb.slice
  obtain ⟨w2, hw2⟩ : ∃ w2, w2 = (w.alloc (.cells #[.slice aa M.1.length ca, fa] 28)).alloc (.cells #[.slice ab N.1.length cb, fb] 28) := ⟨_, rfl⟩
  have HW2 := Box.mk hw2
  have hbw : Below w.heap.size w w2 := by rw [hw2]; exact ((Below.refl _ _).alloc (Nat.le_refl _) _).alloc (by simp) _
  have HBW := Box.mk hbw
  have HBA := Box.mk (show Blk w2 w.heap.size 28 #[.slice aa M.1.length ca, fa] by rw [hw2]; exact (Blk.new w _ _).alloc _)
  have HBB := Box.mk (show Blk w2 (w.heap.size + 1) 28 #[.slice ab N.1.length cb, fb] by
    rw [hw2]
    have := Blk.new (w.alloc (.cells #[.slice aa M.1.length ca, fa] 28)) 28 #[.slice ab N.1.length cb, fb]
    simpa using this)
  have HSE := Box.mk (fun W (h : Below w.heap.size w W) => sets12_eq fa fb M.2 N.2 W (hia.below h) (hib.below h) (by have := hM.2.1; omega) (by have := hN.2.1; omega))
  have c0 : w2.cell? ⟨w.heap.size, 0, none⟩ = some (.slice aa M.1.length ca) := (HBA.out.cell 0).trans rfl
  have c1 : w2.cell? ⟨w.heap.size, 1, none⟩ = some fa := (HBA.out.cell 1).trans rfl
  have c2 : w2.cell? ⟨w.heap.size + 1, 0, none⟩ = some (.slice ab N.1.length cb) := (HBB.out.cell 0).trans rfl
  have c3 : w2.cell? ⟨w.heap.size + 1, 1, none⟩ = some fb := (HBB.out.cell 1).trans rfl
  have l0 := HBA.out.lt
  have l1 := HBB.out.lt
  clear hra hrb hia hib hM hN hbw hw2
  by_cases hlen : M.1.length = N.1.length
  · have HLEN := Box.mk hlen
    rw [← hlen] at c2
    clear hlen
    cases hd : decide (M.2 = N.2) with
    | false =>
      have HD := Box.mk hd
      have HF := Box.mk (show decide (M = N) = false by rw [decide_eq_false_iff_not] at hd ⊢; rintro rfl; exact hd rfl)
      clear hd
      go_enter Tryd.func13, Tryd.ntmps13
      go_upto_region 1 with (fail)
      rw [← HW2.out]
      go_wp2_with fail
      refine (HSE.out _ HBW.out).mono ?_; rintro e w3 ⟨rfl, hb3⟩; rw [HD.out]
      go_wp2_with fail
      go_ret
      exact ⟨ret_bool (by rw [HF.out]), HBW.out.trans (hb3.mono HBW.out.size)⟩
    | true =>
      have HD := Box.mk hd
      clear hd
      go_enter Tryd.func13, Tryd.ntmps13
      go_upto_region 1 with (fail)
      rw [← HW2.out]
      go_wp2_with fail
      refine (HSE.out _ HBW.out).mono ?_; rintro e w3 ⟨rfl, hb3⟩; rw [HD.out]
      have HB3 := Box.mk hb3
      clear c0 c1 c2 c3 l0 l1 hb3
      go_wp2_with fail
      go_loopw [5] (fun i wr => ∃ k : Nat, k ≤ M.1.length ∧ i = .int .i64 k ∧ Box (M.1.take k = N.1.take k) ∧ Box (Below w2.heap.size w2 wr)) (fun i _ => M.1.length - (intOf i).toNat)
      case atStart => exact ⟨0, by omega, rfl, ⟨rfl⟩, HB3⟩
      case round =>
        obtain ⟨k, hk, rfl, hE, hbr⟩ := hrel
        have hba := HBA.out.below hbr.out HBA.out.lt
        have hbb := HBB.out.below hbr.out HBB.out.lt
        have c0 : wr.cell? ⟨w.heap.size, 0, none⟩ = some (.slice aa M.1.length ca) := (hba.cell 0).trans rfl
        have l0 := hba.lt
        by_cases hlt : k < M.1.length
        · obtain ⟨x, hx⟩ : ∃ x, M.1[k]? = some x := ⟨_, List.getElem?_eq_getElem hlt⟩
          obtain ⟨y, hy⟩ : ∃ y, N.1[k]? = some y := ⟨_, List.getElem?_eq_getElem (by rw [← HLEN.out]; exact hlt)⟩
          have HBR := Box.mk (HBW.out.trans (hbr.out.mono HBW.out.size))
          obtain ⟨pa, oa, ca', ha0, ha1, ha2, ha3, ha4⟩ := (HRA.out.below HBR.out).get (by intro e; rw [e] at hlt; simp at hlt)
          obtain ⟨rfl, rfl⟩ : aa = some ⟨pa, oa, none⟩ ∧ ca = ca' := by injection ha0 with h1 h2 h3; exact ⟨h1, h3⟩
          obtain ⟨pb, ob, cb', hb0, hb1, hb2, hb3, hb4⟩ := (HRB.out.below HBR.out).get (by intro e; rw [e] at hy; simp at hy)
          obtain ⟨rfl, rfl⟩ : ab = some ⟨pb, ob, none⟩ ∧ cb = cb' := by injection hb0 with h1 h2 h3; exact ⟨h1, h3⟩
          obtain ⟨xv, hxc, hxi⟩ := ha4 k x hx
          obtain ⟨yv, hyc, hyi⟩ := hb4 k y hy
          have HX := Box.mk hx
          have HY := Box.mk hy
          have HIE := Box.mk (fun W (h : Below wr.heap.size wr W) => ints_eq xv yv x y W (hxi.below h) (hyi.below h) (by have := HFM.out.2.2 x (List.mem_of_getElem? hx); omega) (by have := HFN.out.2.2 y (List.mem_of_getElem? hy); omega))
          have HFF := Box.mk (show ∀ W, Below wr.heap.size wr W → W.cell? ⟨w.heap.size, 0, none⟩ = some (.slice (some ⟨pa, oa, none⟩) M.1.length ca) ∧ W.cell? ⟨w.heap.size + 1, 0, none⟩ = some (.slice (some ⟨pb, ob, none⟩) N.1.length cb) ∧ W.cell? ⟨pa, oa + k, none⟩ = some xv ∧ W.cell? ⟨pb, ob + k, none⟩ = some yv from fun W h =>
            ⟨((hba.below h hba.lt).cell 0).trans rfl, ((hbb.below h hbb.lt).cell 0).trans rfl, (h.cell (p := ⟨pa, oa + k, none⟩) ha3).trans hxc, (h.cell (p := ⟨pb, ob + k, none⟩) hb3).trans hyc⟩)
          have HBD := Box.mk (show Below wr.heap.size wr wr.drew from ⟨rfl, rfl, rfl, Nat.le_refl _, fun _ _ => rfl⟩)
          unfold maxLen at ha2 hb2
          have hltb : k < N.1.length := by rw [← HLEN.out]; exact hlt
          have hltc : k < ca := by omega
          have hltd : k < cb := by omega
          clear ha0 ha4 hb0 hb4 hx hy hxc hyc hxi hyi hba hbb
          by_cases hxy : x = y
          · subst hxy
            have HQ := Box.mk (show decide (x = x) = true by simp)
            go_wp2_with fail
            refine wp_region_K 10 (fun W => W.cell? ⟨w.heap.size, 0, none⟩ = some (.slice (some ⟨pa, oa, none⟩) M.1.length ca) ∧ W.cell? ⟨w.heap.size + 1, 0, none⟩ = some (.slice (some ⟨pb, ob, none⟩) N.1.length cb) ∧ W.cell? ⟨pa, oa + k, none⟩ = some xv ∧ W.cell? ⟨pb, ob + k, none⟩ = some yv) (by kernel_rfl) ?_
            have HF0 := Box.mk (HFF.out _ HBD.out)
            refine wpAnyK_take (i := 0) (v := ?_) rfl (by kernel_rfl) (fun _ _ _ h => h) (Or.inl ⟨by kernel_rfl, ?_⟩) HF0.out ?_
            rotate_left
            · first | (intro w hw; obtain ⟨q1, q2, q3, q4⟩ := hw; go_simp; done) | (intro w hw; obtain ⟨q1, q2, q3, q4⟩ := hw; go_simp; with_reducible rfl)
            refine wpAnyK_take (i := 1) (v := ?_) rfl (by kernel_rfl) (fun _ _ _ h => h) (Or.inl ⟨by kernel_rfl, ?_⟩) HF0.out ?_
            rotate_left
            · first | (intro w hw; obtain ⟨q1, q2, q3, q4⟩ := hw; go_simp; done) | (intro w hw; obtain ⟨q1, q2, q3, q4⟩ := hw; go_simp; with_reducible rfl)
            refine wpAnyK_take (i := 2) (v := ?_) rfl (by kernel_rfl) (fun _ _ _ h => h) (Or.inl ⟨by kernel_rfl, ?_⟩) HF0.out ?_
            rotate_left
            · first | (intro w hw; obtain ⟨q1, q2, q3, q4⟩ := hw; go_simp; done) | (intro w hw; obtain ⟨q1, q2, q3, q4⟩ := hw; go_simp; with_reducible rfl)
            refine wpAnyK_take (i := 3) (v := ?_) rfl (by kernel_rfl) (fun _ _ _ h => h) (Or.inl ⟨by kernel_rfl, ?_⟩) HF0.out ?_
            rotate_left
            · first | (intro w hw; obtain ⟨q1, q2, q3, q4⟩ := hw; go_simp; done) | (intro w hw; obtain ⟨q1, q2, q3, q4⟩ := hw; go_simp; with_reducible rfl)
            refine wpAnyK_take (i := 4) (v := ?_) rfl (by kernel_rfl) (fun _ _ _ h => h) (Or.inl ⟨by kernel_rfl, ?_⟩) HF0.out ?_
            rotate_left
            · first | (intro w hw; obtain ⟨q1, q2, q3, q4⟩ := hw; go_simp; done) | (intro w hw; obtain ⟨q1, q2, q3, q4⟩ := hw; go_simp; with_reducible rfl)
            refine wpAnyK_take (i := 5) (v := ?_) rfl (by kernel_rfl) (fun _ _ _ h => h) (Or.inl ⟨by kernel_rfl, ?_⟩) HF0.out ?_
            rotate_left
            · first | (intro w hw; obtain ⟨q1, q2, q3, q4⟩ := hw; go_simp; done) | (intro w hw; obtain ⟨q1, q2, q3, q4⟩ := hw; go_simp; with_reducible rfl)
            refine wpAnyK_take (i := 6) (v := ?_) rfl (by kernel_rfl) (fun _ _ _ h => h) (Or.inl ⟨by kernel_rfl, ?_⟩) HF0.out ?_
            rotate_left
            · first | (intro w hw; obtain ⟨q1, q2, q3, q4⟩ := hw; go_simp; done) | (intro w hw; obtain ⟨q1, q2, q3, q4⟩ := hw; go_simp; with_reducible rfl)
            refine wpAnyK_take (i := 7) (v := ?_) rfl (by kernel_rfl) (fun _ _ _ h => h) (Or.inl ⟨by kernel_rfl, ?_⟩) HF0.out ?_
            rotate_left
            · first | (intro w hw; obtain ⟨q1, q2, q3, q4⟩ := hw; go_simp; done) | (intro w hw; obtain ⟨q1, q2, q3, q4⟩ := hw; go_simp; with_reducible rfl)
            refine wpAnyK_take (i := 8) (v := ?_) rfl (by kernel_rfl) (fun _ _ _ h => h) (Or.inl ⟨by kernel_rfl, ?_⟩) HF0.out ?_
            rotate_left
            · first | (intro w hw; obtain ⟨q1, q2, q3, q4⟩ := hw; go_simp; done) | (intro w hw; obtain ⟨q1, q2, q3, q4⟩ := hw; go_simp; with_reducible rfl)
            refine wpAnyK_take (i := 9) (v := ?_) rfl (by kernel_rfl) (fun _ _ _ h => h) (Or.inl ⟨by kernel_rfl, ?_⟩) HF0.out ?_
            rotate_left
            · first | (intro w hw; obtain ⟨q1, q2, q3, q4⟩ := hw; go_simp; done) | (intro w hw; obtain ⟨q1, q2, q3, q4⟩ := hw; go_simp; with_reducible rfl)
            refine wpAnyK_one (i := 10) (by kernel_rfl) rfl (fun KK hKK => ?_)
            go_simp
            go_wp2_with (go_at_call 18; refine (HIE.out _ HBD.out).mono ?_; rintro e w7 ⟨rfl, hb7⟩; rw [HQ.out])
            have HB7 := Box.mk (show Below wr.heap.size wr w7 from HBD.out.trans (hb7.mono (Nat.le_refl _)))
            clear hb7
            refine hKK.out _ _ (fun h => by cases h) ?_
            clear hKK KK
            refine wpAnyK_one (i := 11) (by kernel_rfl) rfl (fun KK hKK => ?_)
            go_simp
            refine hKK.out _ _ (fun h => by cases h) ?_
            clear hKK KK
            refine wpAnyK_done (by kernel_rfl) ?_ _
            refine NoPanic.normal ?_
            go_wp2_with fail
            go_roundw
            case rel => exact ⟨k + 1, hlt, by go_num, ⟨rows_take_step hE.out HX.out HY.out⟩, ⟨hbr.out.trans (HB7.out.mono hbr.out.size)⟩⟩
            case measure => simp [intOf]; omega
          · have HQ := Box.mk (show decide (x = y) = false by simpa using hxy)
            have HF := Box.mk (show decide (M = N) = false by rw [decide_eq_false_iff_not]; rintro rfl; exact rows_ne_step HX.out HY.out hxy rfl)
            go_wp2_with fail
            refine wp_region_K 10 (fun W => W.cell? ⟨w.heap.size, 0, none⟩ = some (.slice (some ⟨pa, oa, none⟩) M.1.length ca) ∧ W.cell? ⟨w.heap.size + 1, 0, none⟩ = some (.slice (some ⟨pb, ob, none⟩) N.1.length cb) ∧ W.cell? ⟨pa, oa + k, none⟩ = some xv ∧ W.cell? ⟨pb, ob + k, none⟩ = some yv) (by kernel_rfl) ?_
            have HF0 := Box.mk (HFF.out _ HBD.out)
            refine wpAnyK_take (i := 0) (v := ?_) rfl (by kernel_rfl) (fun _ _ _ h => h) (Or.inl ⟨by kernel_rfl, ?_⟩) HF0.out ?_
            rotate_left
            · first | (intro w hw; obtain ⟨q1, q2, q3, q4⟩ := hw; go_simp; done) | (intro w hw; obtain ⟨q1, q2, q3, q4⟩ := hw; go_simp; with_reducible rfl)
            refine wpAnyK_take (i := 1) (v := ?_) rfl (by kernel_rfl) (fun _ _ _ h => h) (Or.inl ⟨by kernel_rfl, ?_⟩) HF0.out ?_
            rotate_left
            · first | (intro w hw; obtain ⟨q1, q2, q3, q4⟩ := hw; go_simp; done) | (intro w hw; obtain ⟨q1, q2, q3, q4⟩ := hw; go_simp; with_reducible rfl)
            refine wpAnyK_take (i := 2) (v := ?_) rfl (by kernel_rfl) (fun _ _ _ h => h) (Or.inl ⟨by kernel_rfl, ?_⟩) HF0.out ?_
            rotate_left
            · first | (intro w hw; obtain ⟨q1, q2, q3, q4⟩ := hw; go_simp; done) | (intro w hw; obtain ⟨q1, q2, q3, q4⟩ := hw; go_simp; with_reducible rfl)
            refine wpAnyK_take (i := 3) (v := ?_) rfl (by kernel_rfl) (fun _ _ _ h => h) (Or.inl ⟨by kernel_rfl, ?_⟩) HF0.out ?_
            rotate_left
            · first | (intro w hw; obtain ⟨q1, q2, q3, q4⟩ := hw; go_simp; done) | (intro w hw; obtain ⟨q1, q2, q3, q4⟩ := hw; go_simp; with_reducible rfl)
            refine wpAnyK_take (i := 4) (v := ?_) rfl (by kernel_rfl) (fun _ _ _ h => h) (Or.inl ⟨by kernel_rfl, ?_⟩) HF0.out ?_
            rotate_left
            · first | (intro w hw; obtain ⟨q1, q2, q3, q4⟩ := hw; go_simp; done) | (intro w hw; obtain ⟨q1, q2, q3, q4⟩ := hw; go_simp; with_reducible rfl)
            refine wpAnyK_take (i := 5) (v := ?_) rfl (by kernel_rfl) (fun _ _ _ h => h) (Or.inl ⟨by kernel_rfl, ?_⟩) HF0.out ?_
            rotate_left
            · first | (intro w hw; obtain ⟨q1, q2, q3, q4⟩ := hw; go_simp; done) | (intro w hw; obtain ⟨q1, q2, q3, q4⟩ := hw; go_simp; with_reducible rfl)
            refine wpAnyK_take (i := 6) (v := ?_) rfl (by kernel_rfl) (fun _ _ _ h => h) (Or.inl ⟨by kernel_rfl, ?_⟩) HF0.out ?_
            rotate_left
            · first | (intro w hw; obtain ⟨q1, q2, q3, q4⟩ := hw; go_simp; done) | (intro w hw; obtain ⟨q1, q2, q3, q4⟩ := hw; go_simp; with_reducible rfl)
            refine wpAnyK_take (i := 7) (v := ?_) rfl (by kernel_rfl) (fun _ _ _ h => h) (Or.inl ⟨by kernel_rfl, ?_⟩) HF0.out ?_
            rotate_left
            · first | (intro w hw; obtain ⟨q1, q2, q3, q4⟩ := hw; go_simp; done) | (intro w hw; obtain ⟨q1, q2, q3, q4⟩ := hw; go_simp; with_reducible rfl)
            refine wpAnyK_take (i := 8) (v := ?_) rfl (by kernel_rfl) (fun _ _ _ h => h) (Or.inl ⟨by kernel_rfl, ?_⟩) HF0.out ?_
            rotate_left
            · first | (intro w hw; obtain ⟨q1, q2, q3, q4⟩ := hw; go_simp; done) | (intro w hw; obtain ⟨q1, q2, q3, q4⟩ := hw; go_simp; with_reducible rfl)
            refine wpAnyK_take (i := 9) (v := ?_) rfl (by kernel_rfl) (fun _ _ _ h => h) (Or.inl ⟨by kernel_rfl, ?_⟩) HF0.out ?_
            rotate_left
            · first | (intro w hw; obtain ⟨q1, q2, q3, q4⟩ := hw; go_simp; done) | (intro w hw; obtain ⟨q1, q2, q3, q4⟩ := hw; go_simp; with_reducible rfl)
            refine wpAnyK_one (i := 10) (by kernel_rfl) rfl (fun KK hKK => ?_)
            go_simp
            go_wp2_with (go_at_call 18; refine (HIE.out _ HBD.out).mono ?_; rintro e w7 ⟨rfl, hb7⟩; rw [HQ.out])
            have HB7 := Box.mk (show Below wr.heap.size wr w7 from HBD.out.trans (hb7.mono (Nat.le_refl _)))
            clear hb7
            refine hKK.out _ _ (fun h => by cases h) ?_
            clear hKK KK
            refine wpAnyK_one (i := 11) (by kernel_rfl) rfl (fun KK hKK => ?_)
            go_simp
            refine hKK.out _ _ (fun h => by cases h) ?_
            clear hKK KK
            refine wpAnyK_done (by kernel_rfl) ?_ _
            refine NoPanic.normal ?_
            go_wp2_with fail
            go_ret
            exact ⟨ret_bool (by rw [HF.out]), HBR.out.trans (HB7.out.mono HBR.out.size)⟩
        · have HT := Box.mk (show decide (M = N) = true by
            rw [decide_eq_true_iff]
            have h1 := hE.out
            rw [show k = M.1.length by omega, List.take_length, HLEN.out, List.take_length] at h1
            exact mach_eq h1 (of_decide_eq_true HD.out))
          go_wp2_with fail
          go_ret
          exact ⟨ret_bool (by rw [HT.out]), HBW.out.trans (hbr.out.mono HBW.out.size)⟩
  · have HF := Box.mk (show decide (M = N) = false by rw [decide_eq_false_iff_not]; rintro rfl; exact hlen rfl)
    have HNE := Box.mk (show ¬ ((M.1.length : Int) = (N.1.length : Int)) by omega)
    clear hlen
    go_enter Tryd.func13, Tryd.ntmps13
    go_upto_region 1 with (fail)
    rw [← HW2.out]
    go_wp2_with fail
    · exact absurd (by assumption) HNE.out
    go_ret
    exact ⟨ret_bool (by rw [HF.out]), HBW.out⟩
end Go.Proofs.YtjemdepcaaadiaaDoor

/- WHICH MACHINES ARE RIGHT: the program's answer. -/
namespace Go.Proofs.YtjemdepcaaadiaaDoor
open Go.RowKit Go.Shelf
attribute [local go_sem] Oper.semAt_some

def toR (L : Nat) (t : Int) : Bool := decide (0 ≤ t) && decide (t < L)
def rowR (n : Int) (M : D.Mach) (i : Nat) : Bool := decide (((M.1.getD i []).length : Int) = n + 1) && (M.1.getD i []).all (toR M.1.length) && decide (0 ≤ M.2.getD i 0) && decide (M.2.getD i 0 < 1099511627776)
def machR (n : Int) (M : D.Mach) : Bool := decide (1 ≤ n) && decide (n ≤ 32) && decide (1 ≤ M.1.length) && decide (M.1.length ≤ 300) && decide (M.2.length = M.1.length) && (List.range M.1.length).all (rowR n M)

theorem other12_any (t : Int) (bm : Nat) (na : Option Addr) (L nc : Nat) (w : World) (hc : w.cell? ⟨bm, 0, none⟩ = some (.slice na L nc)) (_hlt : bm < w.heap.size) :
    Calls Tryd.prog 41 #[.int .i64 t, .pointer (some ⟨bm, 0, none⟩)] w fun e w' => e = .returned (.bool (!toR L t)) ∧ w = w' := by
  unfold toR
  go_enter Tryd.func41, Tryd.ntmps41
  rcases Int.lt_or_le t 0 with h | h
  · go_wp2_with fail
    go_ret
    exact ⟨ret_bool (by simp; omega), rfl⟩
  · rcases Int.lt_or_le t L with h2 | h2
    · go_wp2_with fail
      go_ret
      exact ⟨ret_bool (by simp [h, h2]), rfl⟩
    · go_wp2_with fail
      go_ret
      exact ⟨ret_bool (by simp <;> omega), rfl⟩

set_option maxHeartbeats 2000000 in
theorem indexI_any (v : Value) (xs : List Int) (bm : Nat) (na : Option Addr) (L nc : Nat) (w : World) (hv : IntsAt w v xs) (hz : xs.length ≤ 16777216) (hc : w.cell? ⟨bm, 0, none⟩ = some (.slice na L nc)) (hlt : bm < w.heap.size) :
    Calls Tryd.prog 73 #[v, .func (.func 41) #[] #[.pointer (some ⟨bm, 0, none⟩)]] w fun e w' => (∃ i : Int, e = .returned (.int .i64 i) ∧ decide (0 ≤ i) = !xs.all (toR L)) ∧ w = w' := by
  have HVB := Box.mk hv
  obtain ⟨ao, cap, rfl⟩ := hv.slice
  have HO := Box.mk (fun t => other12_any t bm na L nc w hc hlt)
  clear hv hc
  go_enter Tryd.func73, Tryd.ntmps73
  go_wp2
  go_loop [8] (fun i => ∃ k : Nat, k ≤ xs.length ∧ i = .int .i64 k ∧ Box ((xs.take k).all (toR L) = true)) (fun i => xs.length - (intOf i).toNat)
  case atStart => exact ⟨0, by omega, rfl, ⟨rfl⟩⟩
  case round =>
    obtain ⟨k, hk, rfl, ha⟩ := hrel
    by_cases hlt' : k < xs.length
    · obtain ⟨x, hx⟩ : ∃ x, xs[k]? = some x := ⟨_, List.getElem?_eq_getElem hlt'⟩
      obtain ⟨g, off, cap2, hg1, hg2, hg3, hg4, hg5⟩ := HVB.out.get (by rintro rfl; simp at hlt')
      obtain ⟨rfl, rfl⟩ : ao = some ⟨g, off, none⟩ ∧ cap = cap2 := by injection hg1 with h1 h2 h3; exact ⟨h1, h3⟩
      have hcx := hg5 k x hx
      have HX := Box.mk hx
      unfold maxLen at hg3
      clear hx hg1 hg5
      cases hi : toR L x with
      | true =>
        have HT := Box.mk (show (xs.take (k + 1)).all (toR L) = true by rw [List.take_add_one, HX.out, List.all_append, ha.out]; simp [hi])
        have HI := Box.mk (show (!toR L x) = false by rw [hi]; rfl)
        clear hi
        go_wp2_with fail
        refine (HO.out x).mono ?_; rintro e w1 ⟨rfl, rfl⟩; rw [HI.out]
        go_wp2_with fail
        go_round
        case rel => exact ⟨k + 1, hlt', by go_num, HT⟩
        case measure => simp [intOf]; omega
      | false =>
        have HT := Box.mk (show xs.all (toR L) = false by
          rw [Bool.eq_false_iff]
          intro h
          rw [List.all_eq_true] at h
          rw [h x (List.mem_of_getElem? HX.out)] at hi
          cases hi)
        have HI := Box.mk (show (!toR L x) = true by rw [hi]; rfl)
        clear hi
        go_wp2_with fail
        refine (HO.out x).mono ?_; rintro e w1 ⟨rfl, rfl⟩; rw [HI.out]
        go_wp2_with fail
        go_ret
        exact ⟨⟨k, rfl, by rw [HT.out]; simp⟩, rfl⟩
    · have HT := Box.mk (show xs.all (toR L) = true by have := ha.out; rwa [List.take_of_length_le (by omega)] at this)
      go_wp2_with fail
      go_ret
      exact ⟨⟨-1, rfl, by rw [HT.out]; rfl⟩, rfl⟩
theorem containsI_any (v : Value) (xs : List Int) (bm : Nat) (na : Option Addr) (L nc : Nat) (w : World) (hv : IntsAt w v xs) (hz : xs.length ≤ 16777216) (hc : w.cell? ⟨bm, 0, none⟩ = some (.slice na L nc)) (hlt : bm < w.heap.size) :
    Calls Tryd.prog 42 #[v, .func (.func 41) #[] #[.pointer (some ⟨bm, 0, none⟩)]] w fun e w' => e = .returned (.bool (!xs.all (toR L))) ∧ w = w' := by
  have HI := Box.mk (indexI_any v xs bm na L nc w hv hz hc hlt)
  clear hv hc
  go_enter Tryd.func42, Tryd.ntmps42
  go_wp2_with fail
  refine HI.out.mono ?_; rintro e w1 ⟨⟨i, rfl, hi⟩, rfl⟩
  have HX := Box.mk hi
  clear hi
  go_wp2_with fail
  go_ret
  exact ⟨ret_bool (by simpa using HX.out), rfl⟩

theorem machR_no {n : Int} {M : D.Mach} {k : Nat} (hk : k < M.1.length) (h : rowR n M k = false) : machR n M = false := by
  unfold machR
  rw [show (List.range M.1.length).all (rowR n M) = false by
    rw [Bool.eq_false_iff]
    intro ha
    rw [List.all_eq_true] at ha
    rw [ha k (List.mem_range.2 hk)] at h
    cases h]
  simp
set_option maxRecDepth 100000 in
set_option maxHeartbeats 4000000 in
theorem mright_any (v : Value) (M : D.Mach) (n : Int) (w : World) (hv : MachAt w v M) (hM : MachFit M) :
    Calls Tryd.prog 17 #[v, .int .i64 n] w fun e w' => e = .returned (.bool (machR n M)) ∧ Below w.heap.size w w' := by
  obtain ⟨na, fa, rfl, hra, hia⟩ := hv
  have HRA := Box.mk hra
  have HIA := Box.mk hia
  have HFM := Box.mk hM
  obtain ⟨aa, ca, rfl⟩ := hra.slice
  obtain ⟨fo, fc, rfl⟩ := hia.slice
  obtain ⟨w2, hw2⟩ : ∃ w2, w2 = w.alloc (.cells #[.slice aa M.1.length ca, .slice fo M.2.length fc] 28) := ⟨_, rfl⟩
  have HW2 := Box.mk hw2
  have hbw : Below w.heap.size w w2 := by rw [hw2]; exact alloc_below _ _
  have HBW := Box.mk hbw
  have HBA := Box.mk (show Blk w2 w.heap.size 28 #[.slice aa M.1.length ca, .slice fo M.2.length fc] by rw [hw2]; exact Blk.new w _ _)
  have c0 : w2.cell? ⟨w.heap.size, 0, none⟩ = some (.slice aa M.1.length ca) := (HBA.out.cell 0).trans rfl
  have c1 : w2.cell? ⟨w.heap.size, 1, none⟩ = some (.slice fo M.2.length fc) := (HBA.out.cell 1).trans rfl
  have l0 := HBA.out.lt
  clear hra hia hM hbw hw2
  by_cases hg : 1 ≤ n ∧ n ≤ 32 ∧ 1 ≤ M.1.length ∧ M.1.length ≤ 300 ∧ M.2.length = M.1.length
  · obtain ⟨g1, g2, g3, g4, g5⟩ := hg
    have HMR := Box.mk (show machR n M = (List.range M.1.length).all (rowR n M) by
      unfold machR
      rw [decide_eq_true g1, decide_eq_true g2, decide_eq_true g3, decide_eq_true g4, decide_eq_true g5]; rfl)
    have HG5 := Box.mk g5
    have hf5 : (M.2.length : Int) = (M.1.length : Int) := by omega
    rw [g5] at c1
    clear g5
    go_enter Tryd.func17, Tryd.ntmps17
    go_upto_region 1 with (fail)
    rw [← HW2.out]
    go_wp2_with fail
    go_loop [39] (fun i => ∃ k : Nat, k ≤ M.1.length ∧ i = .int .i64 k ∧ Box ((List.range k).all (rowR n M) = true)) (fun i => M.1.length - (intOf i).toNat)
    case atStart => exact ⟨0, by omega, rfl, ⟨rfl⟩⟩
    case round =>
      obtain ⟨k, hk, rfl, ha⟩ := hrel
      by_cases hlt : k < M.1.length
      · obtain ⟨x, hx⟩ : ∃ x, M.1[k]? = some x := ⟨_, List.getElem?_eq_getElem hlt⟩
        obtain ⟨y, hy⟩ : ∃ y, M.2[k]? = some y := ⟨_, List.getElem?_eq_getElem (by rw [HG5.out]; exact hlt)⟩
        obtain ⟨pa, oa, ca', ha0, ha1, ha2, ha3, ha4⟩ := (HRA.out.below HBW.out).get (by intro e; rw [e] at hlt; simp at hlt)
        obtain ⟨rfl, rfl⟩ : aa = some ⟨pa, oa, none⟩ ∧ ca = ca' := by injection ha0 with h1 h2 h3; exact ⟨h1, h3⟩
        obtain ⟨pb, ob, cb', hb0, hb1, hb2, hb3, hb4⟩ := (HIA.out.below HBW.out).get (by intro e; rw [e] at hy; simp at hy)
        obtain ⟨rfl, rfl⟩ : fo = some ⟨pb, ob, none⟩ ∧ fc = cb' := by injection hb0 with h1 h2 h3; exact ⟨h1, h3⟩
        obtain ⟨xv, hxc, hxi⟩ := ha4 k x hx
        have hyc := hb4 k y hy
        have HRX := Box.mk (show rowR n M k = (decide ((x.length : Int) = n + 1) && x.all (toR M.1.length) && decide (0 ≤ y) && decide (y < 1099511627776)) by
          unfold rowR; rw [show M.1.getD k [] = x by rw [List.getD, hx]; rfl, show M.2.getD k 0 = y by rw [List.getD, hy]; rfl])
        have HCI := Box.mk (containsI_any xv x w.heap.size (some ⟨pa, oa, none⟩) M.1.length ca w2 hxi (by have := HFM.out.2.2 x (List.mem_of_getElem? hx); omega) c0 l0)
        obtain ⟨xo, xc, rfl⟩ := hxi.slice
        have HLT := Box.mk hlt
        have hxz := HFM.out.2.2 x (List.mem_of_getElem? hx)
        rw [HG5.out] at hb1
        unfold maxLen at ha2 hb2
        clear ha0 ha4 hb0 hb4 hx hy hxi
        by_cases hl1 : (x.length : Int) = n + 1
        · have HL1 := Box.mk hl1
          have q1 : ((x.length : Int) == n + 1) = true := by rw [beq_iff_eq]; exact hl1
          clear hl1
          cases hal : x.all (toR M.1.length) with
          | true =>
            have HAL := Box.mk (show (!x.all (toR M.1.length)) = false by rw [hal]; rfl)
            rcases Int.lt_or_le y 0 with hy0 | hy0
            · have HF := Box.mk (machR_no HLT.out (show rowR n M k = false by rw [HRX.out, decide_eq_true HL1.out, hal]; simp; omega))
              clear hal
              go_wp2_with (go_at_call 42; refine HCI.out.mono ?_; rintro e w1 ⟨rfl, rfl⟩; rw [HAL.out])
              all_goals first | (exact absurd HL1.out (by assumption)) | (exfalso; omega) | skip
              go_ret
              exact ⟨ret_bool (by rw [HF.out]), HBW.out⟩
            · rcases Int.lt_or_le y 1099511627776 with hy1 | hy1
              · have HT := Box.mk (show (List.range (k + 1)).all (rowR n M) = true by
                  rw [List.range_succ, List.all_append, ha.out]
                  simp only [List.all_cons, List.all_nil, Bool.and_true, Bool.true_and]
                  rw [HRX.out, decide_eq_true HL1.out, hal, decide_eq_true hy0, decide_eq_true hy1]; rfl)
                clear hal
                go_wp2_with (go_at_call 42; refine HCI.out.mono ?_; rintro e w1 ⟨rfl, rfl⟩; rw [HAL.out])
                all_goals first | (exact absurd HL1.out (by assumption)) | (exfalso; omega) | skip
                go_round
                case rel => exact ⟨k + 1, hlt, by go_num, HT⟩
                case measure => simp [intOf]; omega
              · have HF := Box.mk (machR_no HLT.out (show rowR n M k = false by rw [HRX.out, decide_eq_true HL1.out, hal]; simp; omega))
                clear hal
                go_wp2_with (go_at_call 42; refine HCI.out.mono ?_; rintro e w1 ⟨rfl, rfl⟩; rw [HAL.out])
                all_goals first | (exact absurd HL1.out (by assumption)) | (exfalso; omega) | skip
                go_ret
                exact ⟨ret_bool (by rw [HF.out]), HBW.out⟩
          | false =>
            have HAL := Box.mk (show (!x.all (toR M.1.length)) = true by rw [hal]; rfl)
            have HF := Box.mk (machR_no HLT.out (show rowR n M k = false by rw [HRX.out, hal]; simp))
            clear hal
            go_wp2_with (go_at_call 42; refine HCI.out.mono ?_; rintro e w1 ⟨rfl, rfl⟩; rw [HAL.out])
            all_goals first | (exact absurd HL1.out (by assumption)) | (exfalso; omega) | skip
            go_ret
            exact ⟨ret_bool (by rw [HF.out]), HBW.out⟩
        · have HF := Box.mk (machR_no HLT.out (show rowR n M k = false by rw [HRX.out, decide_eq_false hl1]; rfl))
          have q1 : ((x.length : Int) == n + 1) = false := beq_eq_false_iff_ne.2 hl1
          have HNE := Box.mk hl1
          clear hl1
          go_wp2_with fail
          all_goals first | (exact absurd (by assumption) HNE.out) | skip
          go_ret
          exact ⟨ret_bool (by rw [HF.out]), HBW.out⟩
      · have HT := Box.mk (show machR n M = true by rw [HMR.out, show M.1.length = k by omega]; exact ha.out)
        go_wp2_with fail
        go_ret
        exact ⟨ret_bool (by rw [HT.out]), HBW.out⟩
  · have HF := Box.mk (show machR n M = false by
      unfold machR
      rw [Bool.eq_false_iff]
      intro h
      simp only [Bool.and_eq_true, decide_eq_true_eq] at h
      exact hg ⟨h.1.1.1.1.1, h.1.1.1.1.2, h.1.1.1.2, h.1.1.2, h.1.2⟩)
    have hg' : n < 1 ∨ (1 ≤ n ∧ 32 < n) ∨ (1 ≤ n ∧ n ≤ 32 ∧ M.1.length < 1) ∨ (1 ≤ n ∧ n ≤ 32 ∧ 1 ≤ M.1.length ∧ 300 < M.1.length) ∨ (1 ≤ n ∧ n ≤ 32 ∧ 1 ≤ M.1.length ∧ M.1.length ≤ 300 ∧ ((M.2.length : Int) != (M.1.length : Int)) = true) := by
      simp only [bne_iff_ne, ne_eq]
      omega
    clear hg
    rcases hg' with g1 | ⟨g1, g2⟩ | ⟨g1, g2, g3⟩ | ⟨g1, g2, g3, g4⟩ | ⟨g1, g2, g3, g4, g5⟩
    all_goals
      go_enter Tryd.func17, Tryd.ntmps17
      go_upto_region 1 with (fail)
      rw [← HW2.out]
      go_wp2_with fail
      all_goals first | (exfalso; omega) | (exfalso; simp_all; done) | skip
      go_ret
      exact ⟨ret_bool (by rw [HF.out]), HBW.out⟩
end Go.Proofs.YtjemdepcaaadiaaDoor

/- HOW A MACHINE GOES: the program's Go. -/
namespace Go.Proofs.YtjemdepcaaadiaaDoor
open Go.RowKit Go.Shelf
attribute [local go_sem] Oper.semAt_some

/-- a row that has just been laid -/
theorem Sep.lit {ps : List Pc} {W : World} (h : Sep ps W) {base : Nat} {e : TypeId} {cs : Array Value} {n : Nat} (hb : base ≤ W.heap.size) (hn : n = cs.size) (hm : n ≤ 1000000) : Sep (Pc.row base e 1 (.slice (some ⟨W.heap.size, 0, none⟩) n n) n cs.toList :: ps) (W.alloc (.cells cs e)) := by
  subst hn
  refine h.add ((Below.refl _ _).alloc (Nat.le_refl _) _) ⟨by simp, .inr ⟨W.heap.size, cs.size, cs, rfl, hb, heap_alloc_new _ _, Nat.le_refl _, by unfold maxLen; omega, by simp, ?_⟩⟩ (fun k hk => ?_)
  · rw [Nat.mul_one, ← Array.length_toList, List.take_length]
  · simp [Pc.row, Value.ownBlock] at hk; omega

def stepM (n : Nat) (M : D.Mach) (at' : Nat) (c : Int) : Nat := ((M.1.getD at' []).getD (colOf n c) 0).toNat
/-- where a machine is behind the first i numbers -/
def stM (n : Nat) (M : D.Mach) (l : List Int) (i : Nat) : Nat := (l.take i).foldl (stepM n M) 0
def goM (n : Nat) (M : D.Mach) (l : List Int) : List Nat := (List.range (l.length + 1)).map (stM n M l)
theorem stM_succ {n : Nat} {M : D.Mach} {l : List Int} {i : Nat} {c : Int} (h : l[i]? = some c) : stM n M l (i + 1) = stepM n M (stM n M l i) c := by
  unfold stM; rw [take_snoc' _ _ _ h, List.foldl_append]; rfl
theorem machR_row {n : Nat} {M : D.Mach} (h : machR n M = true) {a : Nat} (ha : a < M.1.length) :
    ∃ r, M.1[a]? = some r ∧ r.length = n + 1 ∧ (∀ c, c ≤ n → ∃ x : Int, r[c]? = some x ∧ 0 ≤ x ∧ x < M.1.length) ∧ ∃ f : Int, M.2[a]? = some f ∧ 0 ≤ f ∧ f < 1099511627776 := by
  unfold machR at h
  simp only [Bool.and_eq_true, decide_eq_true_eq] at h
  obtain ⟨⟨⟨⟨⟨h1, h2⟩, h3⟩, h4⟩, h5⟩, h6⟩ := h
  rw [List.all_eq_true] at h6
  have h7 := h6 a (List.mem_range.2 ha)
  have hr : M.1[a]? = some M.1[a] := List.getElem?_eq_getElem ha
  have hf : M.2[a]? = some (M.2[a]'(by omega)) := List.getElem?_eq_getElem (by omega)
  unfold rowR at h7
  rw [show M.1.getD a [] = M.1[a] by rw [List.getD, hr]; rfl, show M.2.getD a 0 = M.2[a]'(by omega) by rw [List.getD, hf]; rfl] at h7
  simp only [Bool.and_eq_true, decide_eq_true_eq] at h7
  obtain ⟨⟨⟨k1, k2⟩, k3⟩, k4⟩ := h7
  refine ⟨_, hr, by omega, fun c hc => ?_, _, hf, k3, k4⟩
  have hcl : c < M.1[a].length := by omega
  rw [List.all_eq_true] at k2
  have k5 := k2 _ (List.getElem_mem hcl)
  unfold toR at k5
  simp only [Bool.and_eq_true, decide_eq_true_eq] at k5
  exact ⟨_, List.getElem?_eq_getElem hcl, k5.1, k5.2⟩
theorem machR_parts {n : Int} {M : D.Mach} (h : machR n M = true) : 1 ≤ n ∧ n ≤ 32 ∧ 1 ≤ M.1.length ∧ M.1.length ≤ 300 ∧ M.2.length = M.1.length := by
  unfold machR at h
  simp only [Bool.and_eq_true, decide_eq_true_eq] at h
  exact ⟨h.1.1.1.1.1, h.1.1.1.1.2, h.1.1.1.2, h.1.1.2, h.1.2⟩
theorem stepM_lt {n : Nat} {M : D.Mach} (h : machR n M = true) {a : Nat} (ha : a < M.1.length) (c : Int) : stepM n M a c < M.1.length := by
  obtain ⟨r, hr, hl, hc, -⟩ := machR_row h ha
  obtain ⟨x, hx, h0, h1⟩ := hc (colOf n c) (colOf_le n c)
  unfold stepM
  rw [show M.1.getD a [] = r by rw [List.getD, hr]; rfl, show r.getD (colOf n c) 0 = x by rw [List.getD, hx]; rfl]
  omega
theorem stM_lt {n : Nat} {M : D.Mach} (h : machR n M = true) (l : List Int) : ∀ i, stM n M l i < M.1.length := by
  intro i
  unfold stM
  have key : ∀ (t : List Int) (a : Nat), a < M.1.length → t.foldl (stepM n M) a < M.1.length := by
    intro t
    induction t with
    | nil => intro a ha; exact ha
    | cons c t ih => intro a ha; exact ih _ (stepM_lt h ha c)
  exact key _ 0 (by have := (machR_parts h).2.2.1; omega)
theorem goM_get {n : Nat} {M : D.Mach} {l : List Int} {i : Nat} (h : i ≤ l.length) : (goM n M l)[i]? = some (stM n M l i) := by
  unfold goM; rw [List.getElem?_map, List.getElem?_range (by omega)]; rfl
theorem goM_len (n : Nat) (M : D.Mach) (l : List Int) : (goM n M l).length = l.length + 1 := by unfold goM; simp
theorem goM_take {n : Nat} {M : D.Mach} {l : List Int} {i : Nat} (h : i < l.length) : (goM n M l).take (i + 2) = (goM n M l).take (i + 1) ++ [stM n M l (i + 1)] := take_snoc' _ _ _ (goM_get (by omega))

def goCode (n : Int) (M : D.Mach) : Int := if machR n M = true then 0 else 100
/-- what Go leaves behind -/
def goPost (n : Int) (M : D.Mach) (l : List Int) (w : World) (e : Ending) (w' : World) : Prop :=
  Below w.heap.size w w' ∧ ∃ v, e = .returned (.tuple #[v, .int .i64 (goCode n M)]) ∧ w'.ownsRow w.heap.size 3 1 v (if machR n M = true then l.length + 1 else 0) ((if machR n M = true then goM n.toNat M l else []).map natV)

set_option maxRecDepth 100000 in
set_option maxHeartbeats 8000000 in
theorem mgo_any (A : Nat → Addr) (B : Nat) (v lv : Value) (M : D.Mach) (n : Int) (l : List Int) (w : World) (hv : MachAt w v M) (hM : MachFit M) (hl : IntsAt w lv l) (hz : l.length ≤ 16777216) (hD : Ed A B w) (hB : B ≤ w.heap.size) :
    Calls Tryd.prog 16 #[v, .int .i64 n, lv] w (goPost n M l w) := by
  have HRT := Box.mk (fun W (h : Below w.heap.size w W) => mright_any v M n W (hv.below h) hM)
  have HD := Box.mk (fun W (h : Below w.heap.size w W) => hD.below (h.mono hB))
  have HL := Box.mk hl
  have HMA := Box.mk hv
  obtain ⟨na, fa, rfl, hra, -⟩ := hv
  obtain ⟨aa, ca, rfl⟩ := hra.slice
  obtain ⟨lo, lc, rfl⟩ := hl.slice
  have HRA := Box.mk hra
  obtain ⟨w2, hw2⟩ : ∃ w2, w2 = (w.alloc (.cells #[.slice aa M.1.length ca, fa] 28)).alloc (.cells #[.int .i64 0] 3) := ⟨_, rfl⟩
  have HW2 := Box.mk hw2
  have HS2 := Box.mk (show Sep [Pc.row w.heap.size 3 1 (.slice (some ⟨w.heap.size + 1, 0, none⟩) 1 1) 1 [.int .i64 0], Pc.blk w.heap.size 28 #[.slice aa M.1.length ca, fa], Pc.old w.heap.size w] w2 by
    have h1 := (Sep.start w).alloc_blk 28 #[.slice aa M.1.length ca, fa]
    have h2 := h1.lit (base := w.heap.size) (e := 3) (cs := #[.int .i64 0]) (n := 1) (by simp) rfl (by omega)
    rw [hw2]
    simpa using h2)
  have hb2 : Below w.heap.size w w2 := HS2.out.bel (by simp)
  have HB2 := Box.mk hb2
  have hba := HS2.out.blk 1 rfl
  have c0 : w2.cell? ⟨w.heap.size, 0, none⟩ = some (.slice aa M.1.length ca) := (hba.cell 0).trans rfl
  have c1 : w2.cell? ⟨w.heap.size, 1, none⟩ = some fa := (hba.cell 1).trans rfl
  have l0 := hba.lt
  clear hra hl hM hD hw2 hb2 hba
  cases hr : machR n M with
  | false =>
    have HR := Box.mk hr
    have HC := Box.mk (show goCode n M = 100 by unfold goCode; rw [hr]; rfl)
    clear hr
    go_enter Tryd.func16, Tryd.ntmps16
    go_wp2_with fail
    refine wp_scope_fwd 0 rfl ?_
    go_upto_region 3 with (fail)
    rw [← HW2.out]
    go_wp2_with fail
    refine (HRT.out _ HB2.out).mono ?_; rintro e w3 ⟨rfl, hb3⟩; rw [HR.out]
    have HB3 := Box.mk (HB2.out.trans (hb3.mono HB2.out.size))
    have hD3 := HD.out w3 HB3.out
    have hg := hD3.var 1 (by decide)
    have HT := Box.mk (dtold_any A B 1 (by decide) w3 hD3)
    unfold errV at HT
    clear hb3 hD3
    go_wp2_with fail
    go_step3
    refine ⟨rfl, ?_⟩
    go_wp2_with fail
    refine HT.out.mono ?_; rintro e w4 ⟨rfl, rfl⟩
    go_wp2_with fail
    rw [Exit.noGoto_ret]
    go_ret2
    refine ⟨HB3.out, _, by rw [HC.out]; rfl, ?_⟩
    rw [HR.out]
    exact World.ownsRow_nil _ _ _ _
  | true =>
    have HR := Box.mk hr
    obtain ⟨h1, h2, h3, h4, h5⟩ := machR_parts hr
    obtain ⟨nn, rfl⟩ := Int.eq_ofNat_of_zero_le (show 0 ≤ n by omega)
    have HC := Box.mk (show goCode nn M = 0 by unfold goCode; rw [hr]; rfl)
    have HIN := Box.mk (fun (c : Int) (W : World) => in_any c nn W (by omega) (by omega))
    have HLT := Box.mk (fun i => stM_lt hr l i)
    have HROW := Box.mk (fun {a : Nat} (ha : a < M.1.length) => machR_row hr ha)
    have HG1 := Box.mk (show (goM nn M l).take 1 = [0] by unfold goM; rw [List.range_succ_eq_map]; rfl)
    clear hr h5
    go_enter Tryd.func16, Tryd.ntmps16
    go_wp2_with fail
    refine wp_scope_fwd 0 rfl ?_
    go_upto_region 3 with (fail)
    rw [← HW2.out]
    go_wp2_with fail
    refine (HRT.out _ HB2.out).mono ?_; rintro e w3 ⟨rfl, hb3⟩; rw [HR.out]
    have HS3 := Box.mk (show Sep [Pc.row w.heap.size 3 1 (.slice (some ⟨w.heap.size + 1, 0, none⟩) 1 1) (0 + 1) (((goM nn M l).take (0 + 1)).map natV), Pc.blk w.heap.size 28 #[.slice aa M.1.length ca, fa], Pc.old w.heap.size w] w3 by
      rw [HG1.out]; exact HS2.out.below (hb3.mono HB2.out.size |> fun _ => hb3.mono (Nat.le_refl _) |> fun _ => by
        exact ⟨hb3.os, hb3.tape, hb3.output, hb3.size, fun k hk => hb3.block k hk⟩))
    clear hb3 c0 c1 l0
    go_wp2_with fail
    go_loopw [8, 9, 20] (fun at' o i wr => ∃ k : Nat, k ≤ l.length ∧ i = .int .i64 k ∧ at' = .int .i64 (stM nn M l k) ∧ Box (Sep [Pc.row w.heap.size 3 1 o (k + 1) (((goM nn M l).take (k + 1)).map natV), Pc.blk w.heap.size 28 #[.slice aa M.1.length ca, fa], Pc.old w.heap.size w] wr)) (fun _ _ i _ => l.length - (intOf i).toNat)
    case atStart => exact ⟨0, by omega, rfl, rfl, HS3⟩
    case round =>
      obtain ⟨k, hk, rfl, rfl, hsep⟩ := hrel
      have HBR := Box.mk (show Below w.heap.size w wr from hsep.out.bel (by simp))
      by_cases hlt : k < l.length
      · obtain ⟨c, hc⟩ : ∃ c, l[k]? = some c := ⟨_, List.getElem?_eq_getElem hlt⟩
        obtain ⟨lb, loff, lcap, k1, k2, k3, k4, k5⟩ := (HL.out.below HBR.out).get (by rintro rfl; simp at hlt)
        obtain ⟨rfl, rfl⟩ : lo = some ⟨lb, loff, none⟩ ∧ lc = lcap := by injection k1 with h1 h2 h3; exact ⟨h1, h3⟩
        have hlc := k5 k c hc
        have hat := HLT.out k
        have HAN := Box.mk (HLT.out (k + 1))
        obtain ⟨r, hr1, hr2, hr3, -⟩ := HROW.out hat
        obtain ⟨x, hx1, hx2, hx3⟩ := hr3 (colOf nn c) (colOf_le nn c)
        have HST := Box.mk (show stM nn M l (k + 1) = x.toNat by
          rw [stM_succ hc]; unfold stepM; rw [show M.1.getD (stM nn M l k) [] = r by rw [List.getD, hr1]; rfl, show r.getD (colOf nn c) 0 = x by rw [List.getD, hx1]; rfl])
        have HTK := Box.mk (goM_take (n := nn) (M := M) hlt)
        have hcl := colOf_le nn c
        obtain ⟨pa, oa, ca', ha0, ha1, ha2, ha3, ha4⟩ := (HRA.out.below HBR.out).get (by intro e; rw [e] at hr1; simp at hr1)
        obtain ⟨rfl, rfl⟩ : aa = some ⟨pa, oa, none⟩ ∧ ca = ca' := by injection ha0 with h1 h2 h3; exact ⟨h1, h3⟩
        obtain ⟨xv, hxc, hxi⟩ := ha4 _ r hr1
        obtain ⟨rb, roff, rcap, r1, r2, r3, r4, r5⟩ := hxi.get (by rintro rfl; simp at hr2)
        rw [hr2] at r1 r2
        subst r1
        have hxx := r5 _ x hx1
        have hba := hsep.out.blk 1 rfl
        have HINC := Box.mk (fun W => HIN.out c W)
        obtain ⟨oo, oc, rfl, ho1, ho2⟩ := own_shape (hsep.out.row 0 rfl)
        have HFF := Box.mk (show ∀ W, Below wr.heap.size wr W → W.cell? ⟨w.heap.size, 0, none⟩ = some (.slice (some ⟨pa, oa, none⟩) M.1.length ca) ∧ W.cell? ⟨pa, oa + stM nn M l k, none⟩ = some (.slice (some ⟨rb, roff, none⟩) (nn + 1) rcap) ∧ W.cell? ⟨rb, roff + colOf nn c, none⟩ = some (.int .i64 x) from fun W h =>
          ⟨((hba.below h hba.lt).cell 0).trans rfl, (h.cell (p := ⟨pa, oa + stM nn M l k, none⟩) ha3).trans hxc, (h.cell (p := ⟨rb, roff + colOf nn c, none⟩) r4).trans hxx⟩)
        have HBD := Box.mk (show Below wr.heap.size wr wr.drew from ⟨rfl, rfl, rfl, Nat.le_refl _, fun _ _ => rfl⟩)
        have HSD := Box.mk hsep.out.drew
        have hbs : w.heap.size ≤ wr.drew.heap.size := HBR.out.size
        unfold maxLen at k3 ha2 r3
        generalize hso : stM nn M l k = so at *
        generalize hco : colOf nn c = co at *
        have hs1 : so < ca := by omega
        have hc1 : co < nn + 1 := by omega
        have hc2 : co < rcap := by omega
        have hc3 : (co : Int) < (nn : Int) + 1 := by omega
        clear k1 k5 ha0 ha4 hxc hxi r5 hxx hba hr1 hr3 hx1 hc hsep hso hco
        go_wp2_with fail
        refine wp_region_K 9 (fun W => W.cell? ⟨w.heap.size, 0, none⟩ = some (.slice (some ⟨pa, oa, none⟩) M.1.length ca) ∧ W.cell? ⟨pa, oa + so, none⟩ = some (.slice (some ⟨rb, roff, none⟩) (nn + 1) rcap) ∧ W.cell? ⟨rb, roff + co, none⟩ = some (.int .i64 x)) (by kernel_rfl) ?_
        have HF0 := Box.mk (HFF.out _ HBD.out)
        generalize wr.drew = WR at *
        refine wpAnyK_take (i := 0) (v := ?_) rfl (by kernel_rfl) (fun _ _ _ h => h) (Or.inl ⟨by kernel_rfl, ?_⟩) HF0.out ?_
        rotate_left
        · first | (intro w hw; obtain ⟨q1, q2, q3⟩ := hw; go_simp; done) | (intro w hw; obtain ⟨q1, q2, q3⟩ := hw; go_simp; with_reducible rfl)
        refine wpAnyK_take (i := 1) (v := ?_) rfl (by kernel_rfl) (fun _ _ _ h => h) (Or.inl ⟨by kernel_rfl, ?_⟩) HF0.out ?_
        rotate_left
        · first | (intro w hw; obtain ⟨q1, q2, q3⟩ := hw; go_simp; done) | (intro w hw; obtain ⟨q1, q2, q3⟩ := hw; go_simp; with_reducible rfl)
        refine wpAnyK_take (i := 2) (v := ?_) rfl (by kernel_rfl) (fun _ _ _ h => h) (Or.inl ⟨by kernel_rfl, ?_⟩) HF0.out ?_
        rotate_left
        · first | (intro w hw; obtain ⟨q1, q2, q3⟩ := hw; go_simp; done) | (intro w hw; obtain ⟨q1, q2, q3⟩ := hw; go_simp; with_reducible rfl)
        refine wpAnyK_take (i := 3) (v := ?_) rfl (by kernel_rfl) (fun _ _ _ h => h) (Or.inl ⟨by kernel_rfl, ?_⟩) HF0.out ?_
        rotate_left
        · first | (intro w hw; obtain ⟨q1, q2, q3⟩ := hw; go_simp; done) | (intro w hw; obtain ⟨q1, q2, q3⟩ := hw; go_simp; with_reducible rfl)
        refine wpAnyK_take (i := 4) (v := ?_) rfl (by kernel_rfl) (fun _ _ _ h => h) (Or.inl ⟨by kernel_rfl, ?_⟩) HF0.out ?_
        rotate_left
        · first | (intro w hw; obtain ⟨q1, q2, q3⟩ := hw; go_simp; done) | (intro w hw; obtain ⟨q1, q2, q3⟩ := hw; go_simp; with_reducible rfl)
        refine wpAnyK_take (i := 5) (v := ?_) rfl (by kernel_rfl) (fun _ _ _ h => h) (Or.inl ⟨by kernel_rfl, ?_⟩) HF0.out ?_
        rotate_left
        · first | (intro w hw; obtain ⟨q1, q2, q3⟩ := hw; go_simp; done) | (intro w hw; obtain ⟨q1, q2, q3⟩ := hw; go_simp; with_reducible rfl)
        refine wpAnyK_take (i := 6) (v := ?_) rfl (by kernel_rfl) (fun _ _ _ h => h) (Or.inl ⟨by kernel_rfl, ?_⟩) HF0.out ?_
        rotate_left
        · first | (intro w hw; obtain ⟨q1, q2, q3⟩ := hw; go_simp; done) | (intro w hw; obtain ⟨q1, q2, q3⟩ := hw; go_simp; with_reducible rfl)
        refine wpAnyK_one (i := 7) (by kernel_rfl) rfl (fun KK hKK => ?_)
        go_simp
        go_wp2_with (go_at_call 40; refine (HINC.out _).mono ?_; rintro e w7 ⟨rfl, rfl⟩)
        refine hKK.out _ _ (fun _ => HF0.out) ?_
        clear hKK KK
        refine wpAnyK_take (i := 8) (v := ?_) rfl (by kernel_rfl) (fun _ _ _ h => h) (Or.inl ⟨by kernel_rfl, ?_⟩) HF0.out ?_
        rotate_left
        · first | (intro w hw; obtain ⟨q1, q2, q3⟩ := hw; go_simp; done) | (intro w hw; obtain ⟨q1, q2, q3⟩ := hw; go_simp; with_reducible rfl)
        obtain ⟨y1, y2, y3⟩ := HF0.out
        refine wpAnyK_one (i := 9) (by kernel_rfl) rfl (fun KK hKK => ?_)
        go_simp
        refine hKK.out _ _ (fun h => by cases h) ?_
        clear hKK KK
        refine wpAnyK_one (i := 10) (by kernel_rfl) rfl (fun KK hKK => ?_)
        go_simp
        refine hKK.out _ _ (fun h => by cases h) ?_
        clear hKK KK
        refine wpAnyK_done (by kernel_rfl) ?_ _
        refine NoPanic.normal ?_
        clear y1 y2 y3
        go_wp2_with (at_builtin; refine wpList_push rfl _ _ 34 rfl pushInt HSD.out 0 rfl rfl rfl rfl (by omega) (by omega) hbs ?_; rintro v' w4 hS4 -)
        have HX := Box.mk (show (Value.int .i64 x) = natV (stM nn M l (k + 1)) by unfold natV; rw [HST.out]; exact vint (by omega))
        rw [HX.out] at hS4
        have HS4 := Box.mk (show Sep [Pc.row w.heap.size 3 1 v' (k + 1 + 1) (((goM nn M l).take (k + 1 + 1)).map natV), Pc.blk w.heap.size 28 #[.slice (some ⟨pa, oa, none⟩) M.1.length ca, fa], Pc.old w.heap.size w] w4 by
          rw [HTK.out, List.map_append]; exact hS4)
        clear hS4
        go_wp2_with fail
        go_roundw
        case rel => exact ⟨k + 1, hlt, by go_num, HX.out, HS4⟩
        case measure => simp [intOf]; omega
      · obtain rfl : k = l.length := by omega
        have HTT := Box.mk (show (goM nn M l).take (l.length + 1) = goM nn M l by rw [← goM_len nn M l, List.take_length])
        go_wp2_with fail
        rw [fwd_ret]
        go_ret2
        refine ⟨HBR.out, _, by rw [HC.out]; rfl, ?_⟩
        have := hsep.out.row 0 rfl
        rw [HTT.out] at this
        rw [HR.out]
        exact this
end Go.Proofs.YtjemdepcaaadiaaDoor

/- WHICH RULES FIT, BY A MACHINE: the program's Fits; two machines compared by the program. -/
namespace Go.Proofs.YtjemdepcaaadiaaDoor
open Go.RowKit Go.Shelf
attribute [local go_sem] Oper.semAt_some

def fitM (M : D.Mach) (a : Nat) : Int := M.2.getD a 0
def fitsM (n : Nat) (M : D.Mach) (l : List Int) : List Int := (goM n M l).map (fitM M)
def fits12Post (n : Int) (M : D.Mach) (l : List Int) (w : World) (e : Ending) (w' : World) : Prop :=
  Below w.heap.size w w' ∧ ∃ v, e = .returned (.tuple #[v, .int .i64 (goCode n M)]) ∧ IntsAt w' v (if machR n M = true then fitsM n.toNat M l else [])
theorem row_intsI {w : World} {base n : Nat} {T : TypeId} {v : Value} {xs : List Int} (h : w.ownsRow base T 1 v n (xs.map (Value.int .i64))) (hn : n = xs.length) : IntsAt w v xs := IntsAt.of_own h hn

set_option maxRecDepth 100000 in
set_option maxHeartbeats 8000000 in
theorem mfits_any (A : Nat → Addr) (B : Nat) (v lv : Value) (M : D.Mach) (n : Int) (l : List Int) (w : World) (hv : MachAt w v M) (hM : MachFit M) (hl : IntsAt w lv l) (hz : l.length ≤ 16777216) (hD : Ed A B w) (hB : B ≤ w.heap.size) :
    Calls Tryd.prog 28 #[v, .int .i64 n, lv] w (fits12Post n M l w) := by
  have HMV := Box.mk hv
  obtain ⟨na, fa, rfl, hra, hia⟩ := hv
  have HIA := Box.mk hia
  obtain ⟨aa, ca, rfl⟩ := hra.slice
  obtain ⟨fo, fc, rfl⟩ := hia.slice
  obtain ⟨w2, hw2⟩ : ∃ w2, w2 = w.alloc (.cells #[.slice aa M.1.length ca, .slice fo M.2.length fc] 28) := ⟨_, rfl⟩
  have HW2 := Box.mk hw2
  have HS2 := Box.mk (show Sep [Pc.blk w.heap.size 28 #[.slice aa M.1.length ca, .slice fo M.2.length fc], Pc.old w.heap.size w] w2 by rw [hw2]; exact (Sep.start w).alloc_blk _ _)
  have hb2 : Below w.heap.size w w2 := HS2.out.bel (by simp)
  have HB2 := Box.mk hb2
  have HGO := Box.mk (mgo_any A B _ lv M n l w2 (HMV.out.below hb2) hM (hl.below hb2) hz (hD.below (hb2.mono hB)) (Nat.le_trans hB hb2.size))
  have hba := HS2.out.blk 0 rfl
  have c0 : w2.cell? ⟨w.heap.size, 0, none⟩ = some (.slice aa M.1.length ca) := (hba.cell 0).trans rfl
  have c1 : w2.cell? ⟨w.heap.size, 1, none⟩ = some (.slice fo M.2.length fc) := (hba.cell 1).trans rfl
  have l0 := hba.lt
  clear hra hia hl hM hD hw2 hb2 hba
  cases hr : machR n M with
  | false =>
    have HR := Box.mk hr
    have HC := Box.mk (show goCode n M = 100 by unfold goCode; rw [hr]; rfl)
    clear hr
    go_enter Tryd.func28, Tryd.ntmps28
    go_upto_region 1 with (fail)
    rw [← HW2.out]
    go_wp2_with fail
    refine HGO.out.mono ?_; rintro e w3 ⟨hb3, rv, rfl, -⟩; rw [HC.out]
    have HB3 := Box.mk (HB2.out.trans (hb3.mono HB2.out.size))
    clear hb3
    go_wp2_with fail
    go_ret2
    refine ⟨HB3.out, _, by rw [HC.out]; rfl, ?_⟩
    rw [HR.out]
    exact IntsAt.nil
  | true =>
    have HR := Box.mk hr
    obtain ⟨h1, h2, h3, h4, h5⟩ := machR_parts hr
    obtain ⟨nn, rfl⟩ := Int.eq_ofNat_of_zero_le (show 0 ≤ n by omega)
    have HC := Box.mk (show goCode nn M = 0 by unfold goCode; rw [hr]; rfl)
    have HLT := Box.mk (fun i => stM_lt hr l i)
    have HROW := Box.mk (fun {a : Nat} (ha : a < M.1.length) => machR_row hr ha)
    have HG5 := Box.mk h5
    obtain ⟨G, hG⟩ : ∃ G, goM nn M l = G := ⟨_, rfl⟩
    have HGL := Box.mk (show G.length = l.length + 1 by rw [← hG, goM_len])
    have HGG := Box.mk (show ∀ i, i < l.length + 1 → ∃ a, G[i]? = some a ∧ a < M.1.length from fun i hi => ⟨_, by rw [← hG]; exact goM_get (by omega), HLT.out i⟩)
    have HGE := Box.mk hG
    clear hr h5 hG
    go_enter Tryd.func28, Tryd.ntmps28
    go_upto_region 1 with (fail)
    rw [← HW2.out]
    go_wp2_with fail
    refine HGO.out.mono ?_; rintro e w3 ⟨hb3, rv, rfl, hown⟩; rw [HC.out]
    rw [HR.out, if_pos rfl, if_pos rfl, Int.toNat_natCast, HGE.out] at hown
    have HGI := Box.mk (row_ints hown HGL.out.symm)
    obtain ⟨go, gc, rfl, -, -⟩ := own_shape hown
    have HS3 := Box.mk (show Sep [Pc.row w.heap.size 2 1 (.slice none 0 0) 0 (((G.take 0).map (fitM M)).map (Value.int .i64)), Pc.row w.heap.size 3 1 (.slice go (l.length + 1) gc) (l.length + 1) (G.map natV), Pc.blk w.heap.size 28 #[.slice aa M.1.length ca, .slice fo M.2.length fc], Pc.old w.heap.size w] w3 from
      (HS2.out.got hb3 hown HB2.out.size).nil_row _ _ _)
    clear hb3 c0 c1 l0 hown
    go_wp2_with fail
    go_loopw [10, 25] (fun o i wr => ∃ k : Nat, k ≤ l.length + 1 ∧ i = .int .i64 k ∧ Box (Sep [Pc.row w.heap.size 2 1 o k (((G.take k).map (fitM M)).map (Value.int .i64)), Pc.row w.heap.size 3 1 (.slice go (l.length + 1) gc) (l.length + 1) (G.map natV), Pc.blk w.heap.size 28 #[.slice aa M.1.length ca, .slice fo M.2.length fc], Pc.old w.heap.size w] wr)) (fun _ i _ => l.length + 1 - (intOf i).toNat)
    case atStart => exact ⟨0, by omega, rfl, HS3⟩
    case round =>
      obtain ⟨k, hk, rfl, hsep⟩ := hrel
      have HBR := Box.mk (show Below w.heap.size w wr from hsep.out.bel (by simp))
      by_cases hlt : k < l.length + 1
      · obtain ⟨a, ha, hal⟩ := HGG.out k hlt
        obtain ⟨lb, loff, lcap, k1, k2, k3, k4, k5⟩ := (row_ints (hsep.out.row 1 rfl) HGL.out.symm).get (by intro e; have := congrArg List.length e; rw [zs_len, HGL.out] at this; simp at this)
        rw [zs_len, HGL.out] at k1 k2
        obtain ⟨rfl, rfl⟩ : go = some ⟨lb, loff, none⟩ ∧ gc = lcap := by injection k1 with h1 h2 h3; exact ⟨h1, h3⟩
        have hac := k5 k _ (zs_get ha)
        obtain ⟨-, -, -, -, f, hf, -⟩ := HROW.out hal
        obtain ⟨pb, ob, cb', hb0, hb1, hb2, hb3, hb4⟩ := (HIA.out.below HBR.out).get (by intro e; rw [e] at hf; simp at hf)
        obtain ⟨rfl, rfl⟩ : fo = some ⟨pb, ob, none⟩ ∧ fc = cb' := by injection hb0 with h1 h2 h3; exact ⟨h1, h3⟩
        have hfc := hb4 a f hf
        have HTK := Box.mk (show ((G.take (k + 1)).map (fitM M)).map (Value.int .i64) = ((G.take k).map (fitM M)).map (Value.int .i64) ++ [Value.int .i64 f] by
          rw [take_snoc' _ _ _ ha, List.map_append, List.map_append]; simp only [List.map_cons, List.map_nil]; unfold fitM; rw [show M.2.getD a 0 = f by rw [List.getD, hf]; rfl])
        have hba := hsep.out.blk 2 rfl
        have c1 : wr.cell? ⟨w.heap.size, 1, none⟩ = some (.slice (some ⟨pb, ob, none⟩) M.2.length fc) := (hba.cell 1).trans rfl
        have l0 := hba.lt
        have hal2 : a < M.2.length := by rw [HG5.out]; exact hal
        have hkk : k ≤ 1000000000 := by omega
        have hbs := HBR.out.size
        unfold maxLen at k3 hb2
        clear k1 k5 hb0 hb4 ha hf hba hal
        go_wp2_with (at_builtin; refine wpList_push rfl _ _ 26 rfl pushI64 hsep.out 0 rfl rfl rfl rfl hkk (by omega) hbs ?_; rintro v' w4 hS4 -)
        rw [← HTK.out] at hS4
        have HS4 := Box.mk hS4
        clear hS4
        go_wp2_with fail
        go_roundw
        case rel => exact ⟨k + 1, hlt, by go_num, HS4⟩
        case measure => simp [intOf]; omega
      · obtain rfl : k = l.length + 1 := by omega
        have HTT := Box.mk (show G.take (l.length + 1) = G by rw [← HGL.out, List.take_length])
        go_wp2_with fail
        go_ret2
        refine ⟨HBR.out, _, by rw [HC.out]; rfl, ?_⟩
        have := row_intsI (hsep.out.row 0 rfl) (by rw [List.length_map, HTT.out, HGL.out])
        rw [HTT.out] at this
        rw [HR.out, if_pos rfl]
        unfold fitsM
        rw [Int.toNat_natCast, HGE.out]
        exact this
end Go.Proofs.YtjemdepcaaadiaaDoor

/- RULES CUT, the second half; a rule of two sets; lists that are laid. -/
namespace Go.Proofs.YtjemdepcaaadiaaDoor
open Go.RowKit Go.Shelf
attribute [local go_sem] Oper.semAt_some

set_option maxHeartbeats 2000000 in
theorem few12_any (v : Value) (l : List D.Rule) (w : World) (hv : RulesAt w v l) :
    Calls Tryd.prog 10 #[v] w fun e w' => Below w.heap.size w w' ∧ ∃ v', e = .returned v' ∧ RulesAt w' v' (few12 l) := by
  have HF := Box.mk (few11_any v l w hv)
  obtain ⟨ao, cap, rfl⟩ := hv.slice
  clear hv
  go_enter Tryd.func10, Tryd.ntmps10
  go_wp2_with fail
  refine HF.out.mono ?_; rintro e w1 ⟨hb, v1, rfl, L, hL, hV, hown⟩
  have hra : RulesAt w1 v1 (few11 l) := by
    rw [← hL]
    exact rules_own hown rfl (fun y hy => ⟨(hV y hy).1.below hb, (hV y hy).2.below hb⟩)
  have HB := Box.mk hb
  obtain ⟨oo, oc, rfl, ho1, ho2⟩ := own_shape hown
  have HLL := Box.mk (show L.length = (few11 l).length by rw [← hL, List.length_map])
  rw [HLL.out] at ho1 hra ⊢
  have HR := Box.mk hra
  clear hb hV hown hL hra
  generalize hn : (few11 l).length = n at *
  have HN := Box.mk hn
  have HT := Box.mk (show ∀ q : Nat, q = (few12 l).length → RulesAt w1 (.slice oo q oc) (few12 l) from fun q hq => by
    have h := HR.out
    rw [← hn] at h ho1
    have hl := h.take 6 (cap' := oc) (by rw [List.length_take]; omega) (Nat.le_refl _)
    rw [hq]
    exact hl)
  have HQ := Box.mk (show (few12 l).length = min 6 n by unfold few12; rw [List.length_take, hn])
  clear hn HLL
  rcases Nat.lt_or_ge 6 n with h6 | h6
  · go_wp2_with fail
    go_ret
    exact ⟨HB.out, _, rfl, HT.out 6 (by rw [HQ.out]; omega)⟩
  · go_wp2_with fail
    go_ret
    exact ⟨HB.out, _, rfl, HT.out n (by rw [HQ.out]; omega)⟩

theorem items_one (W : World) (a : Int) (T : TypeId) : ItemsAt (W.alloc (.cells #[.int .i64 a, .int .i64 0] T)) (.slice (some ⟨W.heap.size, 0, none⟩) 1 1) [(a, 0)] := by
  refine .inr ⟨W.heap.size, 0, none, 1, rfl, by simp, by unfold maxLen; omega, fun _ => ⟨rfl, by simp, fun i x hx => ?_⟩⟩
  match i, hx with
  | 0, hx =>
    simp only [List.getElem?_cons_zero, Option.some.injEq] at hx
    subst hx
    exact ⟨cell_of_row _ _ _ _ _ _ (heap_alloc_new W _), cell_of_row _ _ _ _ _ _ (heap_alloc_new W _)⟩
  | i + 1, hx => simp at hx
theorem rules_one {W : World} {x : D.Rule} {vl vr : Value} (hl : ItemsAt W vl x.1.2) (hr : ItemsAt W vr x.2.1.2) (T : TypeId) :
    RulesAt (W.alloc (.cells #[.bool x.1.1, vl, .bool x.2.1.1, vr, .bool x.2.2] T)) (.slice (some ⟨W.heap.size, 0, none⟩) 1 1) [x] := by
  refine .inr ⟨W.heap.size, 0, none, 1, rfl, by simp, by unfold maxLen; omega, fun _ => ⟨rfl, by simp, fun i y hy => ?_⟩⟩
  match i, hy with
  | 0, hy =>
    simp only [List.getElem?_cons_zero, Option.some.injEq] at hy
    subst hy
    have hb := alloc_below W (.cells #[.bool x.1.1, vl, .bool x.2.1.1, vr, .bool x.2.2] T)
    exact ⟨vl, vr, cell_of_row _ _ _ _ _ _ (heap_alloc_new W _), cell_of_row _ _ _ _ _ _ (heap_alloc_new W _), cell_of_row _ _ _ _ _ _ (heap_alloc_new W _), cell_of_row _ _ _ _ _ _ (heap_alloc_new W _), cell_of_row _ _ _ _ _ _ (heap_alloc_new W _), hl.below hb, hr.below hb⟩
  | i + 1, hy => simp at hy
theorem ints_lit (W : World) (xs : List Int) (T : TypeId) (n : Nat) (hn : n = xs.length) (hz : n ≤ 1000000) (cs : Array Value) (hc : cs = (xs.map (Value.int .i64)).toArray) : IntsAt (W.alloc (.cells cs T)) (.slice (some ⟨W.heap.size, 0, none⟩) n n) xs := by
  subst hn hc
  refine .inr ⟨W.heap.size, 0, none, xs.length, rfl, Nat.le_refl _, by unfold maxLen; omega, fun _ => ⟨rfl, by simp, fun i x hx => ?_⟩⟩
  rw [Nat.zero_add, cell_of_row _ _ _ _ _ _ (heap_alloc_new W _)]
  simp [hx]

set_option maxHeartbeats 1000000 in
theorem single_any (a b : Int) (w : World) :
    Calls Tryd.prog 27 #[.int .i64 a, .int .i64 b] w fun e w' => Below w.heap.size w w' ∧ ∃ al ar, e = .returned (.agg #[.bool false, .slice al 1 1, .bool false, .slice ar 1 1, .bool false]) ∧ ItemsAt w' (.slice al 1 1) [(a, 0)] ∧ ItemsAt w' (.slice ar 1 1) [(b, 0)] := by
  go_enter Tryd.func27, Tryd.ntmps27
  go_wp2_with fail
  have hbk := ((Blk.new w 46 #[.bool false, .slice (some ⟨w.heap.size + 1, 0, none⟩) 1 1, .bool false, .slice (some ⟨w.heap.size + 1 + 1, 0, none⟩) 1 1, .bool false]).alloc (.cells #[.int .i64 a, .int .i64 0] 79)).alloc (.cells #[.int .i64 b, .int .i64 0] 79)
  refine bodyPost_ret (v := .agg #[.bool false, .slice (some ⟨w.heap.size + 1, 0, none⟩) 1 1, .bool false, .slice (some ⟨w.heap.size + 1 + 1, 0, none⟩) 1 1, .bool false]) (results_cell_row Tryd.results27 _ _ w.heap.size 46 _ (0, 0) _ rfl hbk Tryd.underlying46 rfl (by kernel_rfl)) rfl ⟨(((Below.refl _ _).alloc (Nat.le_refl _) _).alloc (by simp) _).alloc (by simp; omega) _, _, _, rfl, ?_, ?_⟩
  · have h1 := (items_one (w.alloc (.cells #[.bool false, .slice (some ⟨w.heap.size + 1, 0, none⟩) 1 1, .bool false, .slice (some ⟨w.heap.size + 1 + 1, 0, none⟩) 1 1, .bool false] 46)) a 79)
    have h2 := h1.below (alloc_below _ (.cells #[.int .i64 b, .int .i64 0] 79))
    simpa using h2
  · have h1 := (items_one ((w.alloc (.cells #[.bool false, .slice (some ⟨w.heap.size + 1, 0, none⟩) 1 1, .bool false, .slice (some ⟨w.heap.size + 1 + 1, 0, none⟩) 1 1, .bool false] 46)).alloc (.cells #[.int .i64 a, .int .i64 0] 79)) b 79)
    simpa using h1
end Go.Proofs.YtjemdepcaaadiaaDoor
