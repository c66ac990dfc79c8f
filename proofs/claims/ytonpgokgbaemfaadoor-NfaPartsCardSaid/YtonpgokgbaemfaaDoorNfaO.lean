/-
  THE LAWS OF LAYER 10, WALKED: unions, and where a pattern with Start has fitted.
-/
import Derived.Test.YtonpgokgbaemfaaDoorNfaN
namespace Go.Proofs.YtonpgokgbaemfaaDoor
open Go.RowKit

theorem wf_range {n : Int} (h : (Lit.int .i64 n).wf = true) : -9223372036854775808 ≤ n ∧ n ≤ 9223372036854775807 := by
  simp only [Lit.wf, Bool.and_eq_true, decide_eq_true_eq] at h
  exact h
theorem ofInt_neg (a : Int) (h0 : -9223372036854775808 ≤ a) (h1 : a < 0) : 9223372036854775808 ≤ (BitVec.ofInt 64 a).toNat := by
  rw [BitVec.toNat_ofInt]
  omega
theorem or_nonneg (a b : Int) (ha : -9223372036854775808 ≤ a) (hb : -9223372036854775808 ≤ b) (h : 0 ≤ bits .or .i64 a b) : 0 ≤ a ∧ 0 ≤ b := by
  have key : (BitVec.ofInt 64 a ||| BitVec.ofInt 64 b).toNat < 9223372036854775808 := by
    rcases Nat.lt_or_ge (BitVec.ofInt 64 a ||| BitVec.ofInt 64 b).toNat 9223372036854775808 with h' | h'
    · exact h'
    · exfalso
      have hlt := (BitVec.ofInt 64 a ||| BitVec.ofInt 64 b).isLt
      have h2 : 0 ≤ IntKind.i64.wrap ((BitVec.ofInt 64 a ||| BitVec.ofInt 64 b).toNat : Int) := h
      rw [IntKind.wrap_i64] at h2
      generalize (BitVec.ofInt 64 a ||| BitVec.ofInt 64 b).toNat = z at *
      omega
  rw [BitVec.toNat_or] at key
  constructor
  · rcases Int.lt_or_le a 0 with h' | h'
    · have h1 := ofInt_neg a ha h'
      have h2 : (BitVec.ofInt 64 a).toNat ≤ (BitVec.ofInt 64 a).toNat ||| (BitVec.ofInt 64 b).toNat := Nat.left_le_or
      omega
    · exact h'
  · rcases Int.lt_or_le b 0 with h' | h'
    · have h1 := ofInt_neg b hb h'
      have h2 : (BitVec.ofInt 64 b).toNat ≤ (BitVec.ofInt 64 a).toNat ||| (BitVec.ofInt 64 b).toNat := Nat.right_le_or
      omega
    · exact h'
theorem stepV_no {l : List N.Item} {st : Bool} {x c : Int} (h : setOk l x = false) : stepV l st x c = .tuple #[.int .i64 0, .int .i64 80] := by unfold stepV; rw [h]; rfl
theorem stepV_yes {l : List N.Item} {st : Bool} {x c : Int} (h : setOk l x = true) : stepV l st x c = .tuple #[.int .i64 (N.step l st x.toNat c), .int .i64 0] := by unfold stepV; rw [h]; rfl
theorem setOk_lt {l : List N.Item} {S : Nat} (h : setOk l (S : Int) = true) : S < 2 ^ (2 * l.length + 1) := by
  have h1 := (setOk_yes h).2.2
  unfold N.most at h1
  have : 0 < 2 ^ (2 * l.length + 1) := Nat.two_pow_pos _
  omega
theorem setOk_of_lt {l : List N.Item} {S : Nat} (hr : rightB l = true) (h : S < 2 ^ (2 * l.length + 1)) : setOk l (S : Int) = true := by
  unfold setOk N.most
  rw [hr]
  simp only [Bool.true_and, Bool.and_eq_true, decide_eq_true_eq]
  omega
theorem setOk_or {l : List N.Item} {S T : Nat} (hs : setOk l (S : Int) = true) (ht : setOk l (T : Int) = true) : setOk l ((S ||| T : Nat) : Int) = true :=
  setOk_of_lt (setOk_yes hs).1 (Nat.or_lt_two_pow (setOk_lt hs) (setOk_lt ht))
theorem or_cast {l : List N.Item} (hl : l.length ≤ 10) {S T : Nat} (hs : S < 2 ^ (2 * l.length + 1)) (ht : T < 2 ^ (2 * l.length + 1)) : bits .or .i64 (S : Int) (T : Int) = ((S ||| T : Nat) : Int) := by
  have h1 := lt_62 l hl S hs
  have h2 := lt_62 l hl T ht
  exact i64_or_nat S T (by omega) (by omega)

set_option maxHeartbeats 1000000 in
theorem law_NfaUnions (A : Nat → Addr) (B : Nat) (st : Bool) (v : Value) (l : List N.Item) (a b c : Int) (w : World) (hv : ItemsAt w v l) (ha : -9223372036854775808 ≤ a) (hb : -9223372036854775808 ≤ b) (hE : E A B w) (hB : B ≤ w.heap.size) :
    Calls Tryd.prog 4 #[.agg #[.bool st, v], .int .i64 a, .int .i64 b, .int .i64 c] w fun e w' => e = .returned (.bool true) ∧ Below w.heap.size w w' := by
  have HAB := Box.mk (fun h => or_nonneg a b ha hb h)
  clear ha hb
  have hb0 := alloc_below w (.cells #[.bool st, v] 24)
  have HSH := Box.mk (shown_any A B _ (hE.below (hb0.mono hB)) (Nat.le_trans hB hb0.size))
  have HBK := Box.mk (Blk.new w 24 #[.bool st, v])
  have HB0 := Box.mk hb0
  have HE := Box.mk hE
  have HV := Box.mk hv
  clear hb0 hE hv
  go_enter Tryd.func4, Tryd.ntmps4
  go_wp2_with fail
  refine HSH.out.mono ?_; rintro e w1 ⟨rfl, hb1⟩
  have hbk1 := HBK.out.below hb1 HBK.out.lt
  have HBK1 := Box.mk hbk1
  have HB1 := Box.mk (HB0.out.trans (hb1.mono HB0.out.size))
  have c0 : w1.cell? ⟨w.heap.size, 0, none⟩ = some (.bool st) := (hbk1.cell 0).trans rfl
  have c1 : w1.cell? ⟨w.heap.size, 1, none⟩ = some v := (hbk1.cell 1).trans rfl
  have HCUT := Box.mk (cut_any st v l w1 (HV.out.below HB1.out))
  clear hb1 hbk1
  go_wp2_with fail
  refine HCUT.out.mono ?_; rintro e w2 ⟨⟨v', rfl, hvs⟩, hb2⟩
  obtain ⟨l', hl'⟩ : ∃ l', l' = l.take 12 := ⟨_, rfl⟩
  have hlz : l'.length ≤ 16777216 := by rw [hl', List.length_take]; omega
  have hv' : ItemsAt w v' l' := by rw [hl']; exact hvs w HV.out
  have hbk2 := HBK1.out.below hb2 HBK1.out.lt
  have d0 : w2.cell? ⟨w.heap.size, 0, none⟩ = some (.bool st) := (hbk2.cell 0).trans rfl
  have d1 : w2.cell? ⟨w.heap.size, 1, none⟩ = some v := (hbk2.cell 1).trans rfl
  have g0 := hbk2.frozen 0
  have g1 := hbk2.frozen 1
  have HBK2 := Box.mk hbk2
  have HB2 := Box.mk (HB1.out.trans (hb2.mono HB1.out.size))
  have HV' := Box.mk hv'
  obtain ⟨ao, cap, rfl⟩ := hv'.slice
  clear hb2 hbk2 hv' hvs hl' c0 c1
  go_wp2_with fail
  have hb3 := (HB2.out.setCell (p := ⟨w.heap.size, 0, none⟩) (Nat.le_refl _) (.bool st)).setCell (p := ⟨w.heap.size, 1, none⟩) (Nat.le_refl _) (.slice ao l'.length cap)
  have hbk3 := (HBK2.out.set_ 0 (.bool st)).set_ 1 (.slice ao l'.length cap)
  generalize (w2.setCell ⟨w.heap.size, 0, none⟩ (.bool st)).setCell ⟨w.heap.size, 1, none⟩ (.slice ao l'.length cap) = W0 at hb3 hbk3 ⊢
  have HS0 := Box.mk (show St A B W0 W0 from St.start (HE.out.below (hb3.mono hB)) (Nat.le_trans hB hb3.size))
  have HV0 := Box.mk (HV'.out.below hb3)
  have HB3 := Box.mk hb3
  have HC := Box.mk (show ∀ W, St A B W0 W → W.cell? ⟨w.heap.size, 0, none⟩ = some (.bool st) ∧ W.cell? ⟨w.heap.size, 1, none⟩ = some (.slice ao l'.length cap) from fun W h => ⟨((hbk3.below h.b hbk3.lt).cell 0).trans rfl, ((hbk3.below h.b hbk3.lt).cell 1).trans rfl⟩)
  have HFIN := Box.mk (show ∀ W, St A B W0 W → Below w.heap.size w W from fun W h => hb3.trans (h.b.mono hb3.size))
  have HLT := Box.mk (show w.heap.size < W0.heap.size from hbk3.lt)
  clear hb3 hbk3 d0 d1 g0 g1
  have HS1 := Box.mk (fun (k : CW (St A B W0)) (x : Int) => class_call (Inv := St A B W0) (pstep_any A B st _ l' x c k.w (HV0.out.below k.h.b) hlz k.h.e k.h.le) (fun _ hb => k.h.step hb))
  obtain ⟨e0, e1⟩ := HC.out _ HS0.out
  by_cases hab : setOk l' a = true ∧ setOk l' b = true
  · obtain ⟨hoa, hob⟩ := hab
    obtain ⟨hr, ha0, -⟩ := setOk_yes hoa
    obtain ⟨-, hb0, -⟩ := setOk_yes hob
    obtain ⟨S, rfl⟩ := Int.eq_ofNat_of_zero_le ha0
    obtain ⟨T, rfl⟩ := Int.eq_ofNat_of_zero_le hb0
    have hl10 := right_len hr
    have HOR := Box.mk (or_cast hl10 (setOk_lt hoa) (setOk_lt hob))
    have HVA := Box.mk (stepV_yes (st := st) (c := c) hoa)
    have HVB := Box.mk (stepV_yes (st := st) (c := c) hob)
    have HVZ := Box.mk (stepV_yes (st := st) (c := c) (setOk_or hoa hob))
    have HQ := Box.mk (show bits .or .i64 (N.step l' st S c : Int) (N.step l' st T c : Int) = (N.step l' st (S ||| T) c : Int) by
      rw [or_cast hl10 (N.step_lt l' st S c) (N.step_lt l' st T c), N.step_or])
    have HDZ := Box.mk (show doneV l' ((S ||| T : Nat) : Int) = (doneV l' (S : Int) || doneV l' (T : Int)) by
      unfold doneV
      rw [setOk_or hoa hob, hoa, hob, Int.toNat_natCast, Int.toNat_natCast, Int.toNat_natCast, N.done_or]
      rfl)
    have HD1 := Box.mk (fun (k : CW (St A B W0)) (x : Int) => class_call (Inv := St A B W0) (pdone_any A B st _ l' x k.w (HV0.out.below k.h.b) hlz k.h.e k.h.le) (fun _ hb => k.h.step hb))
    clear hoa hob hr ha0 hb0 HAB
    go_wp2_with fail
    refine (pstep_any A B st _ l' S c _ HV0.out hlz HS0.out.e HS0.out.le).mono ?_; rintro e w3 ⟨rfl, hb4⟩
    rw [HVA.out, Int.toNat_natCast]
    have HT1 := Box.mk (HS0.out.step hb4)
    clear hb4 e0 e1
    obtain ⟨e0, e1⟩ := HC.out _ HT1.out
    go_wp2_with fail
    refine (pstep_any A B st _ l' T c _ (HV0.out.below HT1.out.b) hlz HT1.out.e HT1.out.le).mono ?_; rintro e w4 ⟨rfl, hb4⟩
    rw [HVB.out, Int.toNat_natCast]
    have HT2 := Box.mk (HT1.out.step hb4)
    clear hb4 e0 e1
    obtain ⟨e0, e1⟩ := HC.out _ HT2.out
    go_wp2_with fail
    rw [HOR.out]
    refine (pstep_any A B st _ l' ((S ||| T : Nat) : Int) c _ (HV0.out.below HT2.out.b) hlz HT2.out.e HT2.out.le).mono ?_; rintro e w5 ⟨rfl, hb4⟩
    rw [HVZ.out, Int.toNat_natCast]
    have HT3 := Box.mk (HT2.out.step hb4)
    clear hb4 e0 e1
    have q0 : ∀ k : CW (St A B W0), k.w.cell? ⟨w.heap.size, 0, none⟩ = some (.bool st) := fun k => (HC.out _ k.h).1
    have q1 : ∀ k : CW (St A B W0), k.w.cell? ⟨w.heap.size, 1, none⟩ = some (.slice ao l'.length cap) := fun k => (HC.out _ k.h).2
    have HDX := Box.mk (show doneV l' (S : Int) = false → doneV l' ((S ||| T : Nat) : Int) = doneV l' (T : Int) from fun h => by rw [HDZ.out, h]; rfl)
    have HDY := Box.mk (show doneV l' (S : Int) = true → doneV l' ((S ||| T : Nat) : Int) = true from fun h => by rw [HDZ.out, h]; rfl)
    have o1 := HOR.out
    have o2 := HQ.out
    cases hdA : doneV l' (S : Int) with
    | false =>
      have hdZ := HDX.out hdA
      clear HS1
      go_wp2_with fail
      refine wp_region_class (St A B W0) (by kernel_rfl) (by kernel_rfl) (HT3.out.step (drew_below _ 1)) (fun hne => ?_)
      repeat (any_goals (first | go_big_quiet_step ((go_at_call 19; exact HD1.out _ _)) | quiet_step ((go_at_call 19; exact HD1.out _ _))))
      refine wpQuiet_nil ?_
      rintro w7 ⟨⟨_, h7⟩, rfl⟩
      clear q0 q1 hne
      go_wp2_with fail
      go_ret
      exact ⟨rfl, HFIN.out _ h7⟩
    | true =>
      have hdZ := HDY.out hdA
      clear HS1
      go_wp2_with fail
      refine wp_region_class (St A B W0) (by kernel_rfl) (by kernel_rfl) (HT3.out.step (drew_below _ 1)) (fun hne => ?_)
      repeat (any_goals (first | go_big_quiet_step ((go_at_call 19; exact HD1.out _ _)) | quiet_step ((go_at_call 19; exact HD1.out _ _))))
      refine wpQuiet_nil ?_
      rintro w7 ⟨⟨_, h7⟩, rfl⟩
      clear q0 q1 hne
      go_wp2_with fail
      go_ret
      exact ⟨rfl, HFIN.out _ h7⟩
  · have HNO := Box.mk (show setOk l' a = false ∨ (setOk l' a = true ∧ setOk l' b = false) by
      cases ha : setOk l' a with
      | false => exact .inl rfl
      | true =>
        right
        refine ⟨rfl, ?_⟩
        cases hb : setOk l' b with
        | false => rfl
        | true => exact absurd ⟨ha, hb⟩ hab)
    obtain ⟨z, hz⟩ : ∃ z, z = bits .or .i64 a b := ⟨_, rfl⟩
    have HZ := Box.mk hz
    have HPA := Box.mk (show ∃ ya ea yb eb yz ez, stepV l' st a c = .tuple #[.int .i64 ya, .int .i64 ea] ∧ stepV l' st b c = .tuple #[.int .i64 yb, .int .i64 eb] ∧ stepV l' st z c = .tuple #[.int .i64 yz, .int .i64 ez] ∧ (ea = 80 ∨ (ea = 0 ∧ eb = 80)) ∧ (ez = 80 ∨ (ez = 0 ∧ 0 ≤ a ∧ 0 ≤ b)) by
      obtain ⟨yb, eb, hb⟩ := step_pair l' st b c
      have hzz : ∃ yz ez, stepV l' st z c = .tuple #[.int .i64 yz, .int .i64 ez] ∧ (ez = 80 ∨ (ez = 0 ∧ 0 ≤ a ∧ 0 ≤ b)) := by
        cases hzo : setOk l' z with
        | false => exact ⟨_, _, stepV_no hzo, .inl rfl⟩
        | true => exact ⟨_, _, stepV_yes hzo, .inr ⟨rfl, HAB.out (by rw [← hz]; exact (setOk_yes hzo).2.1)⟩⟩
      obtain ⟨yz, ez, h1, h2⟩ := hzz
      rcases HNO.out with h | ⟨h, h'⟩
      · exact ⟨_, _, yb, eb, yz, ez, stepV_no h, hb, h1, .inl rfl, h2⟩
      · exact ⟨_, _, _, _, yz, ez, stepV_yes h, stepV_no h', h1, .inr ⟨rfl, rfl⟩, h2⟩)
    obtain ⟨ya, ea, yb, eb, yz, ez, h1, h2, h3, h4, h5⟩ := HPA.out
    have HVA := Box.mk h1
    have HVB := Box.mk h2
    have HVZ := Box.mk h3
    have HCO := Box.mk h4
    have HCZ := Box.mk h5
    clear h1 h2 h3 h4 h5 HS1 HPA hab hz
    go_wp2_with fail
    refine (pstep_any A B st _ l' a c _ HV0.out hlz HS0.out.e HS0.out.le).mono ?_; rintro e w3 ⟨rfl, hb4⟩
    rw [HVA.out]
    have HT1 := Box.mk (HS0.out.step hb4)
    clear hb4 e0 e1
    obtain ⟨e0, e1⟩ := HC.out _ HT1.out
    go_wp2_with fail
    refine (pstep_any A B st _ l' b c _ (HV0.out.below HT1.out.b) hlz HT1.out.e HT1.out.le).mono ?_; rintro e w4 ⟨rfl, hb4⟩
    rw [HVB.out]
    have HT2 := Box.mk (HT1.out.step hb4)
    clear hb4 e0 e1
    obtain ⟨e0, e1⟩ := HC.out _ HT2.out
    go_wp2_with fail
    rw [← HZ.out]
    refine (pstep_any A B st _ l' z c _ (HV0.out.below HT2.out.b) hlz HT2.out.e HT2.out.le).mono ?_; rintro e w5 ⟨rfl, hb4⟩
    rw [HVZ.out]
    have HT3 := Box.mk (HT2.out.step hb4)
    clear hb4 e0 e1
    rcases HCO.out with rfl | ⟨rfl, rfl⟩ <;> rcases HCZ.out with rfl | ⟨rfl, ha0, hb0⟩
    all_goals
      go_wp2_with fail
      go_ret
      exact ⟨rfl, HFIN.out _ HT3.out⟩
end Go.Proofs.YtonpgokgbaemfaaDoor
