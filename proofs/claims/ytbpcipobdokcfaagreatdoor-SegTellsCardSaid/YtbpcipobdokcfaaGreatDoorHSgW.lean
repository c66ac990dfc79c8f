/-
  THE LAWS OF LAYER 13, WALKED: cuts that are moved.
-/
import Derived.Test.YtbpcipobdokcfaaGreatDoorH10
namespace Go.Proofs.YtbpcipobdokcfaaGreatDoor
open Go.RowKit Go.Shelf
attribute [local go_sem] Oper.semAt_some

theorem shiftC_len (c : List Int) (a : Int) : (shiftC c a).length = c.length := by unfold shiftC; rw [List.length_map]
theorem shiftC_back {c : List Int} (h : ∀ x ∈ c, fit64 x) (a : Int) : shiftC (shiftC c a) (wrap64 (-a)) = c := by
  unfold shiftC
  rw [List.map_map]
  have : c.map id = c := List.map_id c
  conv => rhs; rw [← this]
  refine List.map_congr_left fun x hx => ?_
  have := h x hx
  unfold fit64 at this
  simp only [Function.comp, id]
  unfold wrap64
  omega
theorem shiftC_two (c : List Int) (a b : Int) : shiftC (shiftC c a) b = shiftC c (wrap64 (a + b)) := by
  unfold shiftC
  rw [List.map_map]
  refine List.map_congr_left fun x _ => ?_
  simp only [Function.comp]
  unfold wrap64
  omega

set_option maxRecDepth 100000 in
set_option maxHeartbeats 8000000 in
theorem law_SegShifts (A : Nat → Addr) (B : Nat) (v : Value) (cs : List Int) (a b : Int) (w : World) (hv : IntsAt w v cs) (hfit : ∀ x ∈ cs, fit64 x) (hS : Sg A B w) :
    Calls Tryz.prog 8 #[v, .int .i64 a, .int .i64 b] w fun e w' => e = .returned (.bool true) ∧ Below w.heap.size w w' := by
  have HS := Box.mk hS
  have HV := Box.mk hv
  have HLF := Box.mk (list12_fit hfit)
  obtain ⟨ao, cap, rfl⟩ := hv.slice
  clear hS hv hfit
  go_enter Tryz.func8, Tryz.ntmps8
  go_wp2_with fail
  refine (shown13_any A B w HS.out).mono ?_; rintro e w1 ⟨rfl, hb1⟩
  have HL := Box.mk (list13_any _ cs w1 (HV.out.below hb1))
  have HB1 := Box.mk hb1
  clear hb1
  go_wp2_with fail
  refine HL.out.mono ?_; rintro e w2 ⟨⟨v', rfl, hc⟩, rfl⟩
  have hcl := list12_len cs
  generalize list12 cs = c at hc hcl HLF
  have HC := Box.mk hc
  have HCL := Box.mk hcl
  obtain ⟨co, cc, rfl⟩ := hc.slice
  have HK1 := Box.mk (shiftC_back HLF.out a)
  have HK2 := Box.mk (shiftC_two c a b)
  have HSH := Box.mk (fun (q : Value) (d : List Int) (b : Int) (W : World) (h : IntsAt W q d) (hl : d.length ≤ 30) => shift_any q d b W h (by omega))
  have HEQ := Box.mk (fun (q r : Value) (d f : List Int) (W : World) (h : IntsAt W q d) (h2 : IntsAt W r f) (he : d = f) (hl : d.length ≤ 30) => yes_of (ints_eq q r d f W h h2 (by omega) (by subst he; omega)) he)
  clear hc HL hcl
  go_wp2_with fail
  refine (HSH.out _ c a _ HC.out HCL.out).mono ?_; rintro e w3 ⟨⟨v3, rfl, h3⟩, hb3⟩
  have H3 := Box.mk h3
  have D3 := Box.mk hb3
  clear h3 hb3
  go_wp2_with fail
  refine (HSH.out _ (shiftC c a) (wrap64 (-a)) _ H3.out (by rw [shiftC_len]; exact HCL.out)).mono ?_; rintro e w4 ⟨⟨v4, rfl, h4⟩, hb4⟩
  rw [HK1.out] at h4
  have H4 := Box.mk h4
  have D4 := Box.mk (below_tr D3.out hb4)
  clear h4 hb4
  go_wp2_with fail
  refine (HEQ.out _ _ c c _ H4.out (HC.out.below D4.out) rfl HCL.out).mono ?_; rintro e w5 ⟨rfl, hb5⟩
  have D5 := Box.mk (below_tr D4.out hb5)
  clear hb5
  go_wp2_with fail
  refine (HSH.out _ c a _ (HC.out.below D5.out) HCL.out).mono ?_; rintro e w6 ⟨⟨v6, rfl, h6⟩, hb6⟩
  have H6 := Box.mk h6
  have D6 := Box.mk (below_tr D5.out hb6)
  clear h6 hb6
  go_wp2_with fail
  refine (HSH.out _ (shiftC c a) b _ H6.out (by rw [shiftC_len]; exact HCL.out)).mono ?_; rintro e w7 ⟨⟨v7, rfl, h7⟩, hb7⟩
  have H7 := Box.mk h7
  have D7 := Box.mk (below_tr D6.out hb7)
  clear h7 hb7
  go_wp2_with fail
  refine (HSH.out _ c (wrap64 (a + b)) _ (HC.out.below D7.out) HCL.out).mono ?_; rintro e w8 ⟨⟨v8, rfl, h8⟩, hb8⟩
  have H8 := Box.mk h8
  have H78 := Box.mk (H7.out.below hb8)
  have D8 := Box.mk (below_tr D7.out hb8)
  clear h8 hb8
  go_wp2_with fail
  refine (HEQ.out _ _ (shiftC (shiftC c a) b) (shiftC c (wrap64 (a + b))) _ H78.out H8.out HK2.out (by rw [shiftC_len, shiftC_len]; exact HCL.out)).mono ?_; rintro e w9 ⟨rfl, hb9⟩
  have D9 := Box.mk (below_tr D8.out hb9)
  clear hb9
  go_wp2_with fail
  go_ret
  exact ⟨rfl, below_tr HB1.out D9.out⟩
end Go.Proofs.YtbpcipobdokcfaaGreatDoor
