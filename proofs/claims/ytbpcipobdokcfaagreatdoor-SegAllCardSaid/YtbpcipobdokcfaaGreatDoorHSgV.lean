/-
  THE LAWS OF LAYER 13, WALKED: a place lies in just one part.
-/
import Derived.Test.YtbpcipobdokcfaaGreatDoorH10
namespace Go.Proofs.YtbpcipobdokcfaaGreatDoor
open Go.RowKit Go.Shelf
attribute [local go_sem] Oper.semAt_some

set_option maxRecDepth 100000 in
set_option maxHeartbeats 8000000 in
theorem law_SegAll (A : Nat → Addr) (B : Nat) (v : Value) (cs : List Int) (p : Int) (w : World) (hv : IntsAt w v cs) (hfit : ∀ x ∈ cs, fit64 x) (hS : Sg A B w) :
    Calls Tryz.prog 5 #[v, .int .i64 p] w fun e w' => e = .returned (.bool true) ∧ Below w.heap.size w w' := by
  have HS := Box.mk hS
  have HV := Box.mk hv
  have HLF := Box.mk (list12_fit hfit)
  obtain ⟨ao, cap, rfl⟩ := hv.slice
  clear hS hv hfit
  go_enter Tryz.func5, Tryz.ntmps5
  go_wp2_with fail
  refine (shown13_any A B w HS.out).mono ?_; rintro e w1 ⟨rfl, hb1⟩
  have HL := Box.mk (list13_any _ cs w1 (HV.out.below hb1))
  have HB1 := Box.mk hb1
  clear hb1
  go_wp2_with fail
  refine HL.out.mono ?_; rintro e w2 ⟨⟨v', rfl, hc⟩, rfl⟩
  have hcl := list12_len cs
  generalize list12 cs = c at hc hcl HLF
  have HC := Box.mk hc
  obtain ⟨co, cc, rfl⟩ := hc.slice
  clear hc HL
  have HPT := Box.mk (sPart_any A B _ c p w1 HC.out (by omega) (HS.out.below HB1.out).g (HS.out.below HB1.out).le)
  have HNT := Box.mk (fun W (h : Below w1.heap.size w1 W) => sNext_any A B _ c p W (HC.out.below h) (by omega) (HS.out.below (below_tr HB1.out h)).g (HS.out.below (below_tr HB1.out h)).le)
  cases hp : G.part c p with
  | none =>
    have HP1 := Box.mk (show partC c p = (0, 110) by unfold partC; rw [hp])
    clear hp
    go_wp2_with fail
    refine HPT.out.mono ?_; rintro e w3 ⟨rfl, hb3⟩; rw [HP1.out]
    have HB3 := Box.mk hb3
    unfold twoV
    clear hb3
    go_wp2_with fail
    go_ret
    exact ⟨rfl, below_tr HB1.out HB3.out⟩
  | some k =>
    have HP1 := Box.mk (show partC c p = ((k : Int), 0) by unfold partC; rw [hp])
    obtain ⟨hwh, hk, h1, h2⟩ := G.part_got hp
    obtain ⟨hp1, hp2⟩ := G.part_at hwh (i := k) (by omega)
    obtain ⟨x, hx⟩ : ∃ x, c[k]? = some x := ⟨_, List.getElem?_eq_getElem (by omega)⟩
    obtain ⟨z, hz⟩ : ∃ z, c[k + 1]? = some z := ⟨_, List.getElem?_eq_getElem (by omega)⟩
    have hxd : c.getD k 0 = x := by rw [List.getD_eq_getElem?_getD, hx]; rfl
    have hzd : c.getD (k + 1) 0 = z := by rw [List.getD_eq_getElem?_getD, hz]; rfl
    have hz0 := (G.cut_pos hwh (k + 1) (by omega)).2 (by omega)
    rw [hxd] at h1
    rw [hzd] at hp2 hz0 h2
    have hzf := (HLF.out z (List.mem_of_getElem? hz)).2
    have HN1 := Box.mk (show nextC c p = (z, 0) by unfold nextC; rw [hp]; show (c.getD (k + 1) 0, (0 : Int)) = _; rw [hzd])
    have HN2 := Box.mk (show backC c z = (x, 0) by unfold backC; rw [if_neg (by omega), hp2]; show (c.getD k 0, (0 : Int)) = _; rw [hxd])
    obtain ⟨g, off, cap2, hg1, hg2, hg3, hg4, hg5⟩ := HC.out.get (by rintro rfl; simp at hx)
    obtain ⟨rfl, rfl⟩ : co = some ⟨g, off, none⟩ ∧ cc = cap2 := by injection hg1 with h1 h2 h3; exact ⟨h1, h3⟩
    have HCX := Box.mk (hg5 k x hx)
    have HCZ := Box.mk (hg5 (k + 1) z hz)
    have HGL := Box.mk hg4
    have HBK := Box.mk (fun W (h : Below w1.heap.size w1 W) => HN2.out ▸ sBack_any A B _ c z W (HC.out.below h) (by omega) (HS.out.below (below_tr HB1.out h)).g (HS.out.below (below_tr HB1.out h)).le hzf)
    unfold maxLen at hg3
    have hk1 : k + 1 < c.length := by omega
    clear hp hwh hp1 hp2 hx hz hxd hzd hz0 hzf hg1 hg5 hk
    go_wp2_with fail
    refine HPT.out.mono ?_; rintro e w3 ⟨rfl, hb3⟩; rw [HP1.out]
    have HB3 := Box.mk hb3
    unfold twoV
    clear hb3
    go_wp2_with fail
    refine (HNT.out w3 HB3.out).mono ?_; rintro e w4 ⟨rfl, hb4⟩; rw [HN1.out]
    have HB4 := Box.mk (below_tr HB3.out hb4)
    unfold twoV
    clear hb4
    go_wp2_with fail
    refine (HBK.out w4 HB4.out).mono ?_; rintro e w5 ⟨rfl, hb5⟩
    have HB5 := Box.mk (below_tr HB4.out hb5)
    have hcx := (HB5.out.cell (p := ⟨g, off + k, none⟩) HGL.out).trans HCX.out
    have hcz := (HB5.out.cell (p := ⟨g, off + (k + 1), none⟩) HGL.out).trans HCZ.out
    unfold twoV
    clear hb5
    go_wp2_with fail
    go_ret
    exact ⟨rfl, below_tr HB1.out HB5.out⟩
end Go.Proofs.YtbpcipobdokcfaaGreatDoor
