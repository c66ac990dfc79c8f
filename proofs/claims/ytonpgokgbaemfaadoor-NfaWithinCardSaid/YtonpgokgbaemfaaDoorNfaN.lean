/-
  THE LAWS OF LAYER 10, WALKED.
-/
import Derived.Test.YtonpgokgbaemfaaDoorNfaM
namespace Go.Proofs.YtonpgokgbaemfaaDoor
open Go.RowKit

theorem first_pair (l : List N.Item) : ∃ a e, firstV l = .tuple #[.int .i64 a, .int .i64 e] := by
  unfold firstV
  split
  · exact ⟨_, _, rfl⟩
  · exact ⟨_, _, rfl⟩
theorem step_pair (l : List N.Item) (st : Bool) (x c : Int) : ∃ a e, stepV l st x c = .tuple #[.int .i64 a, .int .i64 e] := by
  unfold stepV
  split
  · exact ⟨_, _, rfl⟩
  · exact ⟨_, _, rfl⟩

set_option maxHeartbeats 1000000 in
theorem law_NfaSteps (A : Nat → Addr) (B : Nat) (st : Bool) (v : Value) (l : List N.Item) (x c : Int) (w : World) (hv : ItemsAt w v l) (hE : E A B w) (hB : B ≤ w.heap.size) :
    Calls Tryd.prog 8 #[.agg #[.bool st, v], .int .i64 x, .int .i64 c] w fun e w' => e = .returned (.bool true) ∧ Below w.heap.size w w' := by
  have hb0 := alloc_below w (.cells #[.bool st, v] 24)
  have HSH := Box.mk (shown_any A B _ (hE.below (hb0.mono hB)) (Nat.le_trans hB hb0.size))
  have HBK := Box.mk (Blk.new w 24 #[.bool st, v])
  have HB0 := Box.mk hb0
  have HE := Box.mk hE
  have HV := Box.mk hv
  clear hb0 hE hv
  go_enter Tryd.func8, Tryd.ntmps8
  go_wp2_with fail
  refine HSH.out.mono ?_; rintro e w1 ⟨rfl, hb1⟩
  have hbk1 := HBK.out.below hb1 HBK.out.lt
  have HBK1 := Box.mk hbk1
  have HB1 := Box.mk (HB0.out.trans (hb1.mono HB0.out.size))
  have c0 : w1.cell? ⟨w.heap.size, 0, none⟩ = some (.bool st) := (hbk1.cell 0).trans rfl
  have c1 : w1.cell? ⟨w.heap.size, 1, none⟩ = some v := (hbk1.cell 1).trans rfl
  have HCUT := Box.mk (cut_any st v l w1 (HV.out.below HB1.out))
  clear hb1 hbk1
  go_wp2_with fail
  refine HCUT.out.mono ?_; rintro e w2 ⟨⟨v', rfl, hvs⟩, hb2⟩
  obtain ⟨l', hl'⟩ : ∃ l', l' = l.take 12 := ⟨_, rfl⟩
  have hlz : l'.length ≤ 16777216 := by rw [hl', List.length_take]; omega
  have hv' : ItemsAt w v' l' := by rw [hl']; exact hvs w HV.out
  have hbk2 := HBK1.out.below hb2 HBK1.out.lt
  have d0 : w2.cell? ⟨w.heap.size, 0, none⟩ = some (.bool st) := (hbk2.cell 0).trans rfl
  have d1 : w2.cell? ⟨w.heap.size, 1, none⟩ = some v := (hbk2.cell 1).trans rfl
  have g0 := hbk2.frozen 0
  have g1 := hbk2.frozen 1
  have HBK2 := Box.mk hbk2
  have HB2 := Box.mk (HB1.out.trans (hb2.mono HB1.out.size))
  have HV' := Box.mk hv'
  obtain ⟨ao, cap, rfl⟩ := hv'.slice
  clear hb2 hbk2 hv' hvs hl' c0 c1
  go_wp2_with fail
  have hb3 := (HB2.out.setCell (p := ⟨w.heap.size, 0, none⟩) (Nat.le_refl _) (.bool st)).setCell (p := ⟨w.heap.size, 1, none⟩) (Nat.le_refl _) (.slice ao l'.length cap)
  have hbk3 := (HBK2.out.set_ 0 (.bool st)).set_ 1 (.slice ao l'.length cap)
  generalize (w2.setCell ⟨w.heap.size, 0, none⟩ (.bool st)).setCell ⟨w.heap.size, 1, none⟩ (.slice ao l'.length cap) = W0 at hb3 hbk3 ⊢
  have HS0 := Box.mk (show St A B W0 W0 from St.start (HE.out.below (hb3.mono hB)) (Nat.le_trans hB hb3.size))
  have HV0 := Box.mk (HV'.out.below hb3)
  have HB3 := Box.mk hb3
  have HC := Box.mk (show ∀ W, St A B W0 W → W.cell? ⟨w.heap.size, 0, none⟩ = some (.bool st) ∧ W.cell? ⟨w.heap.size, 1, none⟩ = some (.slice ao l'.length cap) from fun W h => ⟨((hbk3.below h.b hbk3.lt).cell 0).trans rfl, ((hbk3.below h.b hbk3.lt).cell 1).trans rfl⟩)
  have HFIN := Box.mk (show ∀ W, St A B W0 W → Below w.heap.size w W from fun W h => hb3.trans (h.b.mono hb3.size))
  have HLT := Box.mk (show w.heap.size < W0.heap.size from hbk3.lt)
  clear hb3 hbk3 d0 d1 g0 g1
  obtain ⟨e0, e1⟩ := HC.out _ HS0.out
  go_wp2_with fail
  refine (first_any A B st _ l' _ HV0.out hlz HS0.out.e HS0.out.le).mono ?_; rintro e w3 ⟨rfl, hb4⟩
  obtain ⟨fa, fe, hf⟩ := first_pair l'
  have HF := Box.mk hf
  rw [hf]
  have HS1 := Box.mk (HS0.out.step hb4)
  clear hb4 hf e0 e1
  obtain ⟨e0, e1⟩ := HC.out _ HS1.out
  go_wp2_with fail
  refine (rfirst_any st _ l' _ (HV0.out.below HS1.out.b) hlz).mono ?_; rintro e w4 ⟨rfl, hb4⟩
  rw [HF.out]
  have HS2 := Box.mk (HS1.out.step hb4)
  clear hb4 e0 e1
  obtain ⟨e0, e1⟩ := HC.out _ HS2.out
  go_wp2_with fail
  refine (pstep_any A B st _ l' x c _ (HV0.out.below HS2.out.b) hlz HS2.out.e HS2.out.le).mono ?_; rintro e w5 ⟨rfl, hb4⟩
  obtain ⟨sa, se, hs⟩ := step_pair l' st x c
  have HST := Box.mk hs
  rw [hs]
  have HS3 := Box.mk (HS2.out.step hb4)
  clear hb4 hs e0 e1
  obtain ⟨e0, e1⟩ := HC.out _ HS3.out
  go_wp2_with fail
  refine (rpstep_any st _ l' x c _ (HV0.out.below HS3.out.b) hlz).mono ?_; rintro e w6 ⟨rfl, hb4⟩
  rw [HST.out]
  have hS4 := HS3.out.step hb4
  have HS4 := Box.mk hS4
  clear hb4 e0 e1
  have q0 : ∀ k : CW (St A B W0), k.w.cell? ⟨w.heap.size, 0, none⟩ = some (.bool st) := fun k => (HC.out _ k.h).1
  have q1 : ∀ k : CW (St A B W0), k.w.cell? ⟨w.heap.size, 1, none⟩ = some (.slice ao l'.length cap) := fun k => (HC.out _ k.h).2
  clear hS4
  go_wp2_with fail
  have HD1 := Box.mk (fun k : CW (St A B W0) => class_call (Inv := St A B W0) (pdone_any A B st _ l' x k.w (HV0.out.below k.h.b) hlz k.h.e k.h.le) (fun _ hb => k.h.step hb))
  have HD2 := Box.mk (fun k : CW (St A B W0) => class_call (Inv := St A B W0) (rpdone_any st _ l' x k.w (HV0.out.below k.h.b) hlz) (fun _ hb => k.h.step hb))
  have HM1 := Box.mk (fun k : CW (St A B W0) => class_call (Inv := St A B W0) (most_any A B st _ l' k.w (HV0.out.below k.h.b) hlz k.h.e k.h.le) (fun _ hb => k.h.step hb))
  have HM2 := Box.mk (fun k : CW (St A B W0) => class_call (Inv := St A B W0) (rmost_any st _ l' k.w (HV0.out.below k.h.b) hlz) (fun _ hb => k.h.step hb))
  refine wp_region_class (St A B W0) (by kernel_rfl) (by kernel_rfl) (HS4.out.step (drew_below _ 1)) (fun hne => ?_)
  repeat (any_goals (first | go_big_quiet_step (first | (go_at_call 19; exact HD1.out _) | (go_at_call 24; exact HD2.out _) | (go_at_call 20; exact HM1.out _) | (go_at_call 25; exact HM2.out _)) | quiet_step (first | (go_at_call 19; exact HD1.out _) | (go_at_call 24; exact HD2.out _) | (go_at_call 20; exact HM1.out _) | (go_at_call 25; exact HM2.out _))))
  refine wpQuiet_nil ?_
  rintro w7 ⟨⟨_, h7⟩, rfl⟩
  clear q0 q1 hne
  go_wp2_with fail
  go_ret
  exact ⟨rfl, HFIN.out _ h7⟩

def codeOf (l : List N.Item) : Int := if rightB l = true then 0 else 80
def setsR (l : List N.Item) (st : Bool) (cs : List Int) : List Int := if rightB l = true then setsOf l st cs else []
def fitsR (l : List N.Item) (st : Bool) (cs : List Int) : List Bool := if rightB l = true then fitsOf l st cs else []
theorem runPost.all {l : List N.Item} {st : Bool} {cs : List Int} {w w' : World} {e : Ending} (h : runPost l st cs w e w') : Below w.heap.size w w' ∧ ∃ v, e = .returned (.tuple #[v, .int .i64 (codeOf l)]) ∧ IntsAt w' v (setsR l st cs) := by
  obtain ⟨hb, hy, hn⟩ := h
  unfold codeOf setsR
  cases hr : rightB l with
  | true => exact ⟨hb, hy hr⟩
  | false => exact ⟨hb, _, hn hr, .nil⟩
theorem fitsPost.all {l : List N.Item} {st : Bool} {cs : List Int} {w w' : World} {e : Ending} (h : fitsPost l st cs w e w') : Below w.heap.size w w' ∧ ∃ v, e = .returned (.tuple #[v, .int .i64 (codeOf l)]) ∧ BoolsAt w' v (fitsR l st cs) := by
  obtain ⟨hb, hy, hn⟩ := h
  unfold codeOf fitsR
  cases hr : rightB l with
  | true => exact ⟨hb, hy hr⟩
  | false => exact ⟨hb, _, hn hr, .inl ⟨rfl, rfl⟩⟩

set_option maxHeartbeats 1000000 in
theorem law_NfaRuns (A : Nat → Addr) (B : Nat) (st : Bool) (v : Value) (l : List N.Item) (cv : Value) (cs : List Int) (w : World) (hv : ItemsAt w v l) (hcv : IntsAt w cv cs) (hE : E A B w) (hB : B ≤ w.heap.size) :
    Calls Tryd.prog 3 #[.agg #[.bool st, v], cv] w fun e w' => e = .returned (.bool true) ∧ Below w.heap.size w w' := by
  have HCV := Box.mk hcv
  obtain ⟨ca0, cc0, rfl⟩ := hcv.slice
  clear hcv
  have hb0 := alloc_below w (.cells #[.bool st, v] 24)
  have HSH := Box.mk (shown_any A B _ (hE.below (hb0.mono hB)) (Nat.le_trans hB hb0.size))
  have HBK := Box.mk (Blk.new w 24 #[.bool st, v])
  have HB0 := Box.mk hb0
  have HE := Box.mk hE
  have HV := Box.mk hv
  clear hb0 hE hv
  go_enter Tryd.func3, Tryd.ntmps3
  go_wp2_with fail
  refine HSH.out.mono ?_; rintro e w1 ⟨rfl, hb1⟩
  have hbk1 := HBK.out.below hb1 HBK.out.lt
  have HBK1 := Box.mk hbk1
  have HB1 := Box.mk (HB0.out.trans (hb1.mono HB0.out.size))
  have c0 : w1.cell? ⟨w.heap.size, 0, none⟩ = some (.bool st) := (hbk1.cell 0).trans rfl
  have c1 : w1.cell? ⟨w.heap.size, 1, none⟩ = some v := (hbk1.cell 1).trans rfl
  have HCUT := Box.mk (cut_any st v l w1 (HV.out.below HB1.out))
  clear hb1 hbk1
  go_wp2_with fail
  refine HCUT.out.mono ?_; rintro e w2 ⟨⟨v', rfl, hvs⟩, hb2⟩
  obtain ⟨l', hl'⟩ : ∃ l', l' = l.take 12 := ⟨_, rfl⟩
  have hlz : l'.length ≤ 16777216 := by rw [hl', List.length_take]; omega
  have hv' : ItemsAt w v' l' := by rw [hl']; exact hvs w HV.out
  have hbk2 := HBK1.out.below hb2 HBK1.out.lt
  have d0 : w2.cell? ⟨w.heap.size, 0, none⟩ = some (.bool st) := (hbk2.cell 0).trans rfl
  have d1 : w2.cell? ⟨w.heap.size, 1, none⟩ = some v := (hbk2.cell 1).trans rfl
  have g0 := hbk2.frozen 0
  have g1 := hbk2.frozen 1
  have HBK2 := Box.mk hbk2
  have HB2 := Box.mk (HB1.out.trans (hb2.mono HB1.out.size))
  have HV' := Box.mk hv'
  obtain ⟨ao, cap, rfl⟩ := hv'.slice
  clear hb2 hbk2 hv' hvs hl' c0 c1
  go_wp2_with fail
  have hb3 := (HB2.out.setCell (p := ⟨w.heap.size, 0, none⟩) (Nat.le_refl _) (.bool st)).setCell (p := ⟨w.heap.size, 1, none⟩) (Nat.le_refl _) (.slice ao l'.length cap)
  have hbk3 := (HBK2.out.set_ 0 (.bool st)).set_ 1 (.slice ao l'.length cap)
  generalize (w2.setCell ⟨w.heap.size, 0, none⟩ (.bool st)).setCell ⟨w.heap.size, 1, none⟩ (.slice ao l'.length cap) = W0 at hb3 hbk3 ⊢
  have HS0 := Box.mk (show St A B W0 W0 from St.start (HE.out.below (hb3.mono hB)) (Nat.le_trans hB hb3.size))
  have HV0 := Box.mk (HV'.out.below hb3)
  have HB3 := Box.mk hb3
  have HC := Box.mk (show ∀ W, St A B W0 W → W.cell? ⟨w.heap.size, 0, none⟩ = some (.bool st) ∧ W.cell? ⟨w.heap.size, 1, none⟩ = some (.slice ao l'.length cap) from fun W h => ⟨((hbk3.below h.b hbk3.lt).cell 0).trans rfl, ((hbk3.below h.b hbk3.lt).cell 1).trans rfl⟩)
  have HFIN := Box.mk (show ∀ W, St A B W0 W → Below w.heap.size w W from fun W h => hb3.trans (h.b.mono hb3.size))
  have HLT := Box.mk (show w.heap.size < W0.heap.size from hbk3.lt)
  clear hb3 hbk3 d0 d1 g0 g1
  have HCV0 := Box.mk (HCV.out.below (HFIN.out _ HS0.out))
  go_wp2_with fail
  refine (few_any _ cs _ HCV0.out).mono ?_; rintro e w3 ⟨⟨cv', rfl, hcv'⟩, rfl⟩
  obtain ⟨cs', hcs⟩ : ∃ cs', cs' = cs.take 40 := ⟨_, rfl⟩
  have hcz : cs'.length ≤ 1000 := by rw [hcs, List.length_take]; omega
  rw [← hcs] at hcv'
  have HCV' := Box.mk hcv'
  clear hcv' hcs
  obtain ⟨e0, e1⟩ := HC.out _ HS0.out
  go_wp2_with fail
  refine (run_any A B st _ l' _ cs' _ HV0.out hlz HCV'.out hcz HS0.out.e HS0.out.le).mono ?_
  intro e w3 hp
  obtain ⟨hb4, v1, rfl, hi1⟩ := hp.all
  have HS1 := Box.mk (HS0.out.step hb4)
  have HI1 := Box.mk hi1
  clear hp hb4 hi1 e0 e1
  obtain ⟨e0, e1⟩ := HC.out _ HS1.out
  go_wp2_with fail
  refine (rrun_any st _ l' _ cs' _ (HV0.out.below HS1.out.b) hlz (HCV'.out.below HS1.out.b) hcz).mono ?_
  intro e w4 hp
  obtain ⟨hb4, v2, rfl, hi2⟩ := hp.all
  have HS2 := Box.mk (HS1.out.step hb4)
  have HI1 := Box.mk (HI1.out.below hb4)
  have HI2 := Box.mk hi2
  clear hp hb4 hi2 e0 e1
  obtain ⟨e0, e1⟩ := HC.out _ HS2.out
  go_wp2_with fail
  refine (fits_any A B st _ l' _ cs' _ (HV0.out.below HS2.out.b) hlz (HCV'.out.below HS2.out.b) hcz HS2.out.e HS2.out.le).mono ?_
  intro e w5 hp
  obtain ⟨hb4, v3, rfl, hi3⟩ := hp.all
  have HS3 := Box.mk (HS2.out.step hb4)
  have HI1 := Box.mk (HI1.out.below hb4)
  have HI2 := Box.mk (HI2.out.below hb4)
  have HI3 := Box.mk hi3
  clear hp hb4 hi3 e0 e1
  obtain ⟨e0, e1⟩ := HC.out _ HS3.out
  go_wp2_with fail
  refine (rfits_any st _ l' _ cs' _ (HV0.out.below HS3.out.b) hlz (HCV'.out.below HS3.out.b) hcz).mono ?_
  intro e w6 hp
  obtain ⟨hb4, v4, rfl, hi4⟩ := hp.all
  have HS4 := Box.mk (HS3.out.step hb4)
  have HI1 := Box.mk (HI1.out.below hb4)
  have HI2 := Box.mk (HI2.out.below hb4)
  have HI3 := Box.mk (HI3.out.below hb4)
  have HI4 := Box.mk hi4
  clear hp hb4 hi4 e0 e1
  go_wp2_with fail
  refine (sets_same _ _ _ _ HI1.out HI2.out).mono ?_; rintro e w7 ⟨rfl, hb4⟩
  have HS5 := Box.mk (HS4.out.step hb4)
  have HI3 := Box.mk (HI3.out.below hb4)
  have HI4 := Box.mk (HI4.out.below hb4)
  clear hb4
  go_wp2_with fail
  refine (bools_same _ _ _ _ HI3.out HI4.out).mono ?_; rintro e w8 ⟨rfl, hb4⟩
  have HS6 := Box.mk (HS5.out.step hb4)
  clear hb4
  go_wp2_with fail
  go_ret
  exact ⟨rfl, HFIN.out _ HS6.out⟩
end Go.Proofs.YtonpgokgbaemfaaDoor
