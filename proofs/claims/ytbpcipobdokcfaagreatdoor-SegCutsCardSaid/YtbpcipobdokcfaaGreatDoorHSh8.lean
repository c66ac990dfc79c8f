/-
  THE LAW: boundaries by a machine are the document's.
-/
import Derived.Test.YtbpcipobdokcfaaGreatDoorHSh7
import Derived.Test.YtbpcipobdokcfaaGreatDoorH10
namespace Go.Proofs.YtbpcipobdokcfaaGreatDoor
open Go.RowKit Go.Shelf
attribute [local go_sem] Oper.semAt_some

theorem items_turn {w w' : World} {v : Value} {l : List N.Item} {own : Nat → Prop} (h : ItemsAt w v l) (ht : Turns own w w') (ho : ∀ q, own q → ∀ j x, w.cell? ⟨q, j, none⟩ ≠ some (.int .i64 x)) : ItemsAt w' v l := by
  rcases h with h | ⟨b, off, sp, cap, h1, h2, h3, h4⟩
  · exact .inl h
  · refine .inr ⟨b, off, sp, cap, h1, h2, h3, fun hn => ?_⟩
    obtain ⟨k1, k2, k3⟩ := h4 hn
    have hb : ¬ own b := fun hob => by
      obtain ⟨x, t, rfl⟩ := List.exists_cons_of_ne_nil hn
      exact ho b hob _ _ (k3 0 x rfl).1
    exact ⟨k1, Nat.lt_of_lt_of_le k2 ht.size, fun i x hx => ⟨ht.cell (k3 i x hx).1 hb, ht.cell (k3 i x hx).2 hb⟩⟩
theorem rules_turn {w w' : World} {v : Value} {l : List D.Rule} {own : Nat → Prop} (h : RulesAt w v l) (ht : Turns own w w') (ho : ∀ q, own q → ∀ j x, w.cell? ⟨q, j, none⟩ ≠ some (.int .i64 x)) (hb : ∀ q, own q → ∀ j x, w.cell? ⟨q, j, none⟩ ≠ some (.bool x)) : RulesAt w' v l := by
  rcases h with h | ⟨b, off, sp, cap, h1, h2, h3, h4⟩
  · exact .inl h
  · refine .inr ⟨b, off, sp, cap, h1, h2, h3, fun hn => ?_⟩
    obtain ⟨k1, k2, k3⟩ := h4 hn
    have hno : ¬ own b := fun hob => by
      obtain ⟨x, t, rfl⟩ := List.exists_cons_of_ne_nil hn
      obtain ⟨vl, vr, r0, -⟩ := k3 0 x rfl
      exact hb b hob _ _ r0
    refine ⟨k1, Nat.lt_of_lt_of_le k2 ht.size, fun i x hx => ?_⟩
    obtain ⟨vl, vr, r0, r1, r2, r3, r4, hl, hr⟩ := k3 i x hx
    exact ⟨vl, vr, ht.cell r0 hno, ht.cell r1 hno, ht.cell r2 hno, ht.cell r3 hno, ht.cell r4 hno, items_turn hl ht ho, items_turn hr ht ho⟩

def cutsE (R : List D.Rule) (M : D.Mach) (n : Int) : Int := if areC R M n = true then 0 else 110
def cutsX (R : List D.Rule) (M : D.Mach) (n : Int) (L : List Int) : List Int := if areC R M n = true then cutsL R M n.toNat L else []
theorem cutsPost.as {R : List D.Rule} {M : D.Mach} {n : Int} {L : List Int} {w : World} {e : Ending} {w' : World} (h : cutsPost R M n L w e w') : Below w.heap.size w w' ∧ ∃ v, e = .returned (.tuple #[v, .int .i64 (cutsE R M n)]) ∧ IntsAt w' v (cutsX R M n L) := by
  unfold cutsE cutsX
  obtain ⟨hb, ⟨h1, v, h2, h3⟩ | ⟨h1, h2⟩⟩ := h
  · exact ⟨hb, v, by rw [h1]; exact h2, by rw [h1]; exact h3⟩
  · exact ⟨hb, _, by rw [h1]; exact h2, by rw [h1]; exact IntsAt.nil⟩
theorem cutsX_len (R : List D.Rule) (M : D.Mach) (n : Int) (L : List Int) : (cutsX R M n L).length ≤ L.length + 2 := by
  unfold cutsX cutsL midL
  split
  · have := List.length_filter_le (cutAt R M n.toNat L) ((List.range (L.length - 1)).map (· + 1))
    simp only [List.length_map, List.length_range] at this
    rw [List.length_append, List.length_map, List.length_cons]
    split <;> simp only [List.length_cons, List.length_nil] <;> omega
  · simp

set_option maxRecDepth 100000 in
set_option maxHeartbeats 8000000 in
theorem law_SegCuts (A : Nat → Addr) (B : Nat) (rv : Value) (rs : List D.Rule) (mv : Value) (M0 : D.Mach) (n : Int) (lv : Value) (l0 : List Int) (w : World) (hv : RulesAt w rv rs) (hm : MachAt w mv M0) (hl : IntsAt w lv l0) (hS : Sg A B w) :
    Calls Tryz.prog 3 #[rv, mv, .int .i64 n, lv] w fun e w' => e = .returned (.bool true) ∧ Below w.heap.size w w' := by
  have HS := Box.mk hS
  have HV := Box.mk hv
  have HM0 := Box.mk hm
  have HL0 := Box.mk hl
  obtain ⟨ao, cap, rfl⟩ := hv.slice
  obtain ⟨nv0, fv0, rfl, hra0, hia0⟩ := hm
  obtain ⟨na0, nc0, rfl⟩ := hra0.slice
  obtain ⟨fa0, fc0, rfl⟩ := hia0.slice
  obtain ⟨la0, lc0, rfl⟩ := hl.slice
  obtain ⟨V0, hV0⟩ : ∃ V0, V0 = w.alloc (.cells #[.slice na0 M0.1.length nc0, .slice fa0 M0.2.length fc0] 26) := ⟨_, rfl⟩
  have HW0 := Box.mk hV0
  have h00 : Below w.heap.size w V0 := by rw [hV0]; exact alloc_below _ _
  have HB0 := Box.mk h00
  have HK0 := Box.mk (show Blk V0 w.heap.size 26 #[.slice na0 M0.1.length nc0, .slice fa0 M0.2.length fc0] by rw [hV0]; exact Blk.new _ _ _)
  have HSH := Box.mk (shown13_any A B V0 (HS.out.below h00))
  clear hra0 hia0 hl hS hv hV0 h00
  go_enter Tryz.func3, Tryz.ntmps3
  go_upto_region 1 with (fail)
  rw [← HW0.out]
  go_wp2_with fail
  refine HSH.out.mono ?_; rintro e w1 ⟨rfl, hb1⟩
  have HB1 := Box.mk (below_tr HB0.out hb1)
  have HK1 := Box.mk (HK0.out.below hb1 HK0.out.lt)
  have HF := Box.mk (few13_any _ rs w1 (HV.out.below HB1.out))
  clear hb1
  go_wp2_with fail
  refine HF.out.mono ?_; rintro e w2 ⟨hb2, v', rfl, hr2⟩
  obtain ⟨R, hR⟩ : ∃ R, few12 rs = R := ⟨_, rfl⟩
  have HRF := Box.mk (show (∀ x ∈ R, ruleFit x) ∧ R.length ≤ 16777216 by rw [← hR]; exact ⟨few12_fit rs, by have := few12_len rs; omega⟩)
  rw [hR] at hr2
  have HR2 := Box.mk hr2
  have HB2 := Box.mk (below_tr HB1.out hb2)
  have HK2 := Box.mk (HK1.out.below hb2 HK1.out.lt)
  obtain ⟨ro, rc, rfl⟩ := hr2.slice
  have a0 : w2.cell? ⟨w.heap.size, 0, none⟩ = some (.slice na0 M0.1.length nc0) := (HK2.out.cell 0).trans rfl
  have a1 : w2.cell? ⟨w.heap.size, 1, none⟩ = some (.slice fa0 M0.2.length fc0) := (HK2.out.cell 1).trans rfl
  have a2 := HK2.out.lt
  have HT := Box.mk (table_any _ M0 w2 (HM0.out.below HB2.out))
  clear hb2 hr2 hR
  go_wp2_with fail
  refine HT.out.mono ?_; rintro e w3 ⟨hb3, nv2, fv2, rfl, hnb2, hra2, hia2⟩
  obtain ⟨M, hM⟩ : ∃ M, tableM M0 = M := ⟨_, rfl⟩
  have HFT := Box.mk (show MachFit M by rw [← hM]; exact tableM_fit M0)
  rw [hM] at hra2 hia2
  have HRA2 := Box.mk hra2
  have HIA2 := Box.mk hia2
  obtain ⟨na, nc, rfl⟩ := hra2.slice
  obtain ⟨fa, fc, rfl⟩ := hia2.slice
  have HB3 := Box.mk (below_tr HB2.out hb3)
  have HK3 := Box.mk (HK2.out.below hb3 HK2.out.lt)
  have HR3 := Box.mk (HR2.out.below hb3)
  have b0 := (HK3.out.cell 0).trans (show _ = some (Value.slice na0 M0.1.length nc0) from rfl)
  have b1 := (HK3.out.cell 1).trans (show _ = some (Value.slice fa0 M0.2.length fc0) from rfl)
  have b2 := HK3.out.frozen 0
  have b3 := HK3.out.frozen 1
  have b4 := HK3.out.lt
  obtain ⟨V2, hV2⟩ : ∃ V2, V2 = (w3.setCell ⟨w.heap.size, 0, none⟩ (.slice na M.1.length nc)).setCell ⟨w.heap.size, 1, none⟩ (.slice fa M.2.length fc) := ⟨_, rfl⟩
  have HKV := Box.mk (show Blk V2 w.heap.size 26 #[.slice na M.1.length nc, .slice fa M.2.length fc] by rw [hV2]; exact (HK3.out.set_ 0 _).set_ 1 _)
  have HBV := Box.mk (show Below w.heap.size w V2 by rw [hV2]; exact (HB3.out.setCell (Nat.le_refl _) _).setCell (Nat.le_refl _) _)
  have hT := (Turns.setCell (own := fun q => q = w.heap.size) w3 (p := ⟨w.heap.size, 0, none⟩) rfl (.slice na M.1.length nc)).trans (Turns.setCell (own := fun q => q = w.heap.size) _ (p := ⟨w.heap.size, 1, none⟩) rfl (.slice fa M.2.length fc))
  rw [← hV2] at hT
  have hno : ∀ q, q = w.heap.size → ∀ j x, w3.cell? ⟨q, j, none⟩ ≠ some (.int .i64 x) := by
    rintro q rfl j x h
    rw [HK3.out.cell j] at h
    match j, h with
    | 0, h => cases h
    | 1, h => cases h
    | j + 2, h => simp at h
  have hno2 : ∀ q, q = w.heap.size → ∀ j x, w3.cell? ⟨q, j, none⟩ ≠ some (.bool x) := by
    rintro q rfl j x h
    rw [HK3.out.cell j] at h
    match j, h with
    | 0, h => cases h
    | 1, h => cases h
    | j + 2, h => simp at h
  have HMV := Box.mk (show MachAt V2 (.agg #[.slice na M.1.length nc, .slice fa M.2.length fc]) M from ⟨_, _, rfl, rows_turn HRA2.out hT hno (fun g hg e => by have := hnb2 g hg; have := HK2.out.lt; omega), ints_turn HIA2.out hT hno⟩)
  have HRV := Box.mk (rules_turn HR3.out hT hno hno2)
  have HLI := Box.mk (list13_any _ l0 V2 (HL0.out.below HBV.out))
  clear hb3 hra2 hia2 hnb2 hT hno hno2 a0 a1 a2 hM
  go_wp2_with fail
  rw [← hV2]
  clear hV2 b0 b1 b2 b3 b4
  refine HLI.out.mono ?_; rintro e w4 ⟨⟨lv', rfl, hli⟩, rfl⟩
  have hL30 : (list12 l0).length ≤ 30 := by unfold list12; rw [List.length_take]; omega
  generalize list12 l0 = L at hli hL30
  have HLL := Box.mk hli
  have HL30 := Box.mk hL30
  obtain ⟨lo, lc, rfl⟩ := hli.slice
  clear hli HLI hL30
  have c0 : V2.cell? ⟨w.heap.size, 0, none⟩ = some (.slice na M.1.length nc) := (HKV.out.cell 0).trans rfl
  have c1 : V2.cell? ⟨w.heap.size, 1, none⟩ = some (.slice fa M.2.length fc) := (HKV.out.cell 1).trans rfl
  have c2 := HKV.out.lt
  have HC := Box.mk (cuts_any A B _ R _ M n _ L V2 HRV.out HRF.out.1 HRF.out.2 HMV.out HFT.out HLL.out (by have := HL30.out; omega) (HS.out.below HBV.out).d (HS.out.below HBV.out).g (HS.out.below HBV.out).le)
  go_wp2_with fail
  refine HC.out.mono ?_; rintro e w5 hp5
  obtain ⟨hb5, cv, rfl, hc5⟩ := hp5.as
  have HB5 := Box.mk (below_tr HBV.out hb5)
  have HK5 := Box.mk (HKV.out.below hb5 HKV.out.lt)
  have HC5 := Box.mk hc5
  have d0 : w5.cell? ⟨w.heap.size, 0, none⟩ = some (.slice na M.1.length nc) := (HK5.out.cell 0).trans rfl
  have d1 : w5.cell? ⟨w.heap.size, 1, none⟩ = some (.slice fa M.2.length fc) := (HK5.out.cell 1).trans rfl
  have d2 := HK5.out.lt
  have HRC := Box.mk (rcuts13_any _ R _ M n _ L w5 (HRV.out.below hb5) HRF.out.1 HRF.out.2 (HMV.out.below hb5) HFT.out (HLL.out.below hb5) (by have := HL30.out; omega))
  clear hb5 hc5 c0 c1 c2 hp5
  generalize hE : cutsE R M n = E
  go_wp2_with fail
  refine HRC.out.mono ?_; rintro e w6 hp6
  obtain ⟨hb6, dv, rfl, hc6⟩ := hp6.as
  rw [hE]
  have HB6 := Box.mk (below_tr HB5.out hb6)
  have HEQ := Box.mk (yes_of (ints_eq cv dv _ _ w6 (HC5.out.below hb6) hc6 (by have := cutsX_len R M n L; have := HL30.out; omega) (by have := cutsX_len R M n L; have := HL30.out; omega)) rfl)
  clear hb6 hc6 d0 d1 d2 hp6 hE
  go_wp2_with fail
  refine HEQ.out.mono ?_; rintro e w7 ⟨rfl, hb7⟩
  have HB7 := Box.mk (below_tr HB6.out hb7)
  clear hb7
  go_wp2_with fail
  go_ret
  exact ⟨ret_bool (by simp), HB7.out⟩
end Go.Proofs.YtbpcipobdokcfaaGreatDoor
