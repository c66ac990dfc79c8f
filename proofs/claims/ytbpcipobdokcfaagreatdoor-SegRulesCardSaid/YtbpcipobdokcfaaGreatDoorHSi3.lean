/-
  THE WALKS OF package rule: boundaries by rules.
-/
import Derived.Test.YtbpcipobdokcfaaGreatDoorHSi2
import Derived.Test.YtbpcipobdokcfaaGreatDoorH2
namespace Go.Proofs.YtbpcipobdokcfaaGreatDoor
open Go.RowKit Go.Shelf
attribute [local go_sem] Oper.semAt_some

def midS (R : List D.Rule) (cs : List Int) (k : Nat) : List Nat := ((List.range k).map (· + 1)).filter fun p => sayL cs (p : Int) R
def cutsS (R : List D.Rule) (cs : List Int) : List Int := (0 :: midS R cs (cs.length - 1)).map (fun n : Nat => (n : Int)) ++ if 0 < cs.length then [(cs.length : Int)] else []
def plS (R : List D.Rule) (cs : List Int) (k : Nat) : List Int := (0 :: midS R cs k).map (fun n : Nat => (n : Int))
theorem plS_next {R : List D.Rule} {cs : List Int} {p : Nat} (hp : 1 ≤ p) : plS R cs (p + 1 - 1) = plS R cs (p - 1) ++ if sayL cs (p : Int) R = true then [(p : Int)] else [] := by
  obtain ⟨k, rfl⟩ : ∃ k, p = k + 1 := ⟨p - 1, by omega⟩
  rw [show k + 1 + 1 - 1 = k + 1 by omega, show k + 1 - 1 = k by omega]
  unfold plS midS
  rw [List.range_succ, List.map_append, List.filter_append, ← List.cons_append, List.map_append]
  congr 1
  cases h : sayL cs ((k + 1 : Nat) : Int) R <;> (simp at h; simp [h])

set_option maxRecDepth 10000 in
set_option maxHeartbeats 8000000 in
theorem rcutsR_any (rv lv : Value) (R : List D.Rule) (cs : List Int) (w : World) (hR : RulesAt w rv R) (hf : ∀ x ∈ R, ruleFit x) (hall : rulesB 32 R = true) (hC : IntsAt w lv cs) (hz : cs.length ≤ 900) :
    Calls Tryz.prog 28 #[rv, lv] w fun e w' => (∃ v, e = .returned (.tuple #[v, .int .i64 0]) ∧ IntsAt w' v (cutsS R cs)) ∧ Below w.heap.size w w' := by
  obtain ⟨-, -, hRz, -⟩ := rulesB_parts hall
  have HR := Box.mk hR
  have HC := Box.mk hC
  have HF := Box.mk hf
  have HALL := Box.mk (show ∀ x ∈ R, ruleB 32 x = true by unfold rulesB at hall; simp only [Bool.and_eq_true] at hall; exact List.all_eq_true.1 hall.2)
  have HRR := Box.mk (rulesRight_any rv R 32 w hf hR (by omega))
  rw [hall] at HRR
  obtain ⟨ro, rc, rfl⟩ := hR.slice
  obtain ⟨lo, lc, rfl⟩ := hC.slice
  clear hR hC hf hall
  go_enter Tryz.func28, Tryz.ntmps28
  go_wp2_with fail
  refine HRR.out.mono ?_; rintro e w1 ⟨rfl, hb1⟩
  obtain ⟨V, hV⟩ : ∃ V, V = w1.alloc (.cells #[.slice ro R.length rc, .slice lo cs.length lc] 85) := ⟨_, rfl⟩
  have hbV : Below w1.heap.size w1 V := by rw [hV]; exact alloc_below' _ _
  have HJB := Box.mk (show Blk V w1.heap.size 85 #[.slice ro R.length rc, .slice lo cs.length lc] by rw [hV]; exact Blk.new _ _ _)
  have HBV := Box.mk (hb1.trans (hbV.mono hb1.size))
  obtain ⟨V5, hV5⟩ : ∃ V5, V5 = V.alloc (.cells #[.int .i64 0] 3) := ⟨_, rfl⟩
  have k5 : Below V.heap.size V V5 := by rw [hV5]; exact alloc_below' _ _
  have HS5 := Box.mk (show Sep [Pc.row V.heap.size 3 1 (.slice (some ⟨V.heap.size, 0, none⟩) 1 1) 1 ((plS R cs (1 - 1)).map (Value.int .i64)), Pc.old V.heap.size V] V5 from (Sep.start V).got k5 ⟨rfl, .inr ⟨V.heap.size, 1, #[.int .i64 0], rfl, Nat.le_refl _, by rw [hV5]; exact Blk.new _ _ _, Nat.le_refl _, by unfold maxLen; omega, rfl, rfl⟩⟩ (Nat.le_refl _))
  have HV := Box.mk hV
  have HV5 := Box.mk hV5
  clear hb1 hbV hV hV5 k5
  go_upto_region 4 with (fail)
  rw [← HV.out]
  go_wp2_with fail
  rw [← HV5.out]
  go_loopw [8, 7] (fun i o wr => ∃ (p N : Nat) (oo : Option Addr) (oc : Nat), 1 ≤ p ∧ (p ≤ cs.length ∨ p = 1) ∧ i = .int .i64 p ∧ o = .slice oo N oc ∧ N ≤ p ∧ Box (Sep [Pc.row V.heap.size 3 1 (.slice oo N oc) N ((plS R cs (p - 1)).map (Value.int .i64)), Pc.old V.heap.size V] wr)) (fun i _ _ => cs.length + 1 - (intOf i).toNat)
  case atStart => exact ⟨1, 1, _, _, Nat.le_refl _, .inr rfl, rfl, rfl, Nat.le_refl _, HS5⟩
  case round =>
    obtain ⟨p, N, ao, ac, hp1, hp, rfl, rfl, hN, hsp⟩ := hrel
    have HBR := Box.mk (hsp.out.bel (n := V.heap.size) (W0 := V) (by simp))
    clear HS5
    by_cases hlt : p < cs.length
    · have HSY := Box.mk (say_any w1.heap.size _ _ R cs (p : Int) wr (HJB.out.below HBR.out HJB.out.lt) ((HR.out.below HBV.out).below HBR.out) HF.out hRz HALL.out ((HC.out.below HBV.out).below HBR.out) hz (by omega) (by omega))
      have HPN := Box.mk (plS_next (R := R) (cs := cs) hp1)
      go_wp2_with fail
      refine HSY.out.mono ?_; rintro e w2 ⟨⟨si, rfl⟩, hb2⟩
      have HS2 := Box.mk (hsp.out.below hb2)
      clear hb2
      cases hs : sayL cs (p : Int) R with
      | true =>
        have HPT := Box.mk (show plS R cs (p + 1 - 1) = plS R cs (p - 1) ++ [(p : Int)] by rw [HPN.out, hs]; rfl)
        clear hs
        have HS3 := Box.mk ((HS2.out.alloc (.cells #[.bool true, .int .i64 si] 87)).alloc (.cells #[.bool false, .int .i64 si] 87))
        have hbs := (HS3.out.bel (n := V.heap.size) (W0 := V) (by simp)).size
        have HSZ := Box.mk (show ((w2.alloc (.cells #[.bool true, .int .i64 si] 87)).alloc (.cells #[.bool false, .int .i64 si] 87)).heap.size = w2.heap.size + 1 + 1 by simp)
        go_wp2_with (at_builtin; refine wpList_push rfl _ _ 27 rfl pushInt HS3.out 0 rfl rfl (by rw [HSZ.out]; rfl) rfl (by omega) (by omega) hbs ?_; rintro v' w6 hS6 ⟨go', gc', rfl, -, -⟩)
        have HS6 := Box.mk (show Sep [Pc.row V.heap.size 3 1 (.slice (some ⟨go', 0, none⟩) (N + 1) gc') (N + 1) ((plS R cs (p + 1 - 1)).map (Value.int .i64)), Pc.old V.heap.size V] w6 by
          rw [HPT.out, List.map_append]; exact hS6)
        clear hS6
        go_wp2_with fail
        go_roundw
        case rel => exact ⟨p + 1, N + 1, _, _, by omega, .inl (by omega), by go_num, rfl, by omega, HS6⟩
        case measure => simp [intOf]; omega
      | false =>
        have HPT := Box.mk (show plS R cs (p + 1 - 1) = plS R cs (p - 1) by rw [HPN.out, hs]; simp)
        clear hs
        have HS3 := Box.mk (show Sep [Pc.row V.heap.size 3 1 (.slice ao N ac) N ((plS R cs (p + 1 - 1)).map (Value.int .i64)), Pc.old V.heap.size V] _ by
          rw [HPT.out]; exact ((HS2.out.alloc (.cells #[.bool false, .int .i64 si] 87)).alloc (.cells #[.bool false, .int .i64 si] 87)))
        go_wp2_with fail
        go_roundw
        case rel => exact ⟨p + 1, N, _, _, by omega, .inl (by omega), by go_num, rfl, by omega, HS3⟩
        case measure => simp [intOf]; omega
    · have hbs := HBR.out.size
      have HBE := Box.mk (HBV.out.trans (HBR.out.mono HBV.out.size))
      rcases Nat.eq_zero_or_pos cs.length with h0 | h0
      · have HO := Box.mk (show IntsAt wr (.slice ao N ac) (cutsS R cs) by
          have h := hsp.out.row 0 rfl
          have hp1' : p = 1 := by omega
          have e : cutsS R cs = plS R cs (p - 1) := by
            unfold cutsS plS
            rw [if_neg (by omega), List.append_nil, hp1', h0]
          rw [← e] at h
          exact IntsAt.of_own h (by have := h.1; rw [List.length_map] at this; omega))
        go_wp2_with fail
        go_ret2
        exact ⟨⟨_, rfl, HO.out⟩, HBE.out⟩
      · obtain rfl : p = cs.length := by omega
        have HE := Box.mk (show cutsS R cs = plS R cs (cs.length - 1) ++ [(cs.length : Int)] by unfold cutsS plS; rw [if_pos h0])
        go_wp2_with (at_builtin; refine wpList_push rfl _ _ 27 rfl pushInt hsp.out 0 rfl rfl rfl rfl (by omega) (by omega) hbs ?_; rintro v' w6 hS6 ⟨go', gc', rfl, -, -⟩)
        have HS6 := Box.mk (show Sep [Pc.row V.heap.size 3 1 (.slice (some ⟨go', 0, none⟩) (N + 1) gc') (N + 1) ((cutsS R cs).map (Value.int .i64)), Pc.old V.heap.size V] w6 by
          rw [HE.out, List.map_append]; exact hS6)
        have HB6 := Box.mk (HBV.out.trans ((HS6.out.bel (n := V.heap.size) (W0 := V) (by simp)).mono HBV.out.size))
        have HO := Box.mk (show IntsAt w6 (.slice (some ⟨go', 0, none⟩) (N + 1) gc') (cutsS R cs) by
          have h := HS6.out.row 0 rfl
          exact IntsAt.of_own h (by have := h.1; rw [List.length_map] at this; omega))
        clear hS6
        go_wp2_with fail
        go_ret2
        exact ⟨⟨_, rfl, HO.out⟩, HB6.out⟩
end Go.Proofs.YtbpcipobdokcfaaGreatDoor
