/-
  WHAT PACKAGE nfa GIVES: Most, First, Step, Done.
-/
import Derived.Test.YtonpgokgbaemfaaDoorNfaG
import Derived.Test.YtonpgokgbaemfaaDoorInts
namespace Go.Proofs.YtonpgokgbaemfaaDoor
open Go.RowKit

def mostV (l : List N.Item) : Int := if rightB l = true then (N.most l : Int) else 0
def firstV (l : List N.Item) : Value := if rightB l = true then .tuple #[.int .i64 (N.clo l 0), .int .i64 0] else .tuple #[.int .i64 0, .int .i64 80]
def setOk (l : List N.Item) (x : Int) : Bool := rightB l && decide (0 ≤ x) && decide (x ≤ N.most l)
def stepV (l : List N.Item) (st : Bool) (x c : Int) : Value := if setOk l x = true then .tuple #[.int .i64 (N.step l st x.toNat c), .int .i64 0] else .tuple #[.int .i64 0, .int .i64 80]
def doneV (l : List N.Item) (x : Int) : Bool := setOk l x && N.doneB l x.toNat

theorem isDone_any (r m : Nat) (st : Bool) (v : Value) (l : List N.Item) (w : World) (h : Rn w r m st v l) (S : Nat) (hS : S < 4611686018427387904) :
    Calls Tryd.prog 31 #[.pointer (some ⟨r, 0, none⟩), .int .i64 S] w fun e w' => e = .returned (.bool (N.doneB l S)) ∧ w = w' := by
  have hl := h.len
  obtain ⟨ao, cap, rfl⟩ := h.items.slice
  have c1 : w.cell? ⟨r, 1, none⟩ = some (.slice ao l.length cap) := (h.blk.cell 1).trans rfl
  have HB := Box.mk (test_bit S (2 * l.length) (by omega))
  clear h
  go_enter Tryd.func31, Tryd.ntmps31
  go_wp2
  go_ret
  exact ⟨ret_bool HB.out, rfl⟩

theorem alloc_below (w : World) (o : Obj) : Below w.heap.size w (w.alloc o) := (Below.refl _ _).alloc (Nat.le_refl _) o

set_option maxHeartbeats 1000000 in
theorem most_any (A : Nat → Addr) (B : Nat) (st : Bool) (v : Value) (l : List N.Item) (w : World) (hv : ItemsAt w v l) (hz : l.length ≤ 16777216) (hE : E A B w) (hB : B ≤ w.heap.size) :
    Calls Tryd.prog 20 #[.agg #[.bool st, v]] w fun e w' => e = .returned (.int .i64 (mostV l)) ∧ Below w.heap.size w w' := by
  have hb0 := alloc_below w (.cells #[.bool st, v] 24)
  unfold mostV
  cases hr : rightB l with
  | true =>
    have HO := Box.mk (open_ok A B st v l _ (hv.below hb0) hz (hE.below (hb0.mono hB)) (Nat.le_trans hB hb0.size) ⟨hr⟩)
    have HB0 := Box.mk hb0
    clear hb0 hE hv hr
    go_enter Tryd.func20, Tryd.ntmps20
    go_wp2_with fail
    refine HO.out.mono ?_; rintro e w1 ⟨hb1, r, m, rfl, hrn⟩
    have HB1 := Box.mk hb1
    have HR := Box.mk hrn
    clear hb1 hrn
    go_wp2_with fail
    refine (all_any _ _ _ _ _ _ HR.out).mono ?_; rintro e w2 ⟨rfl, rfl⟩
    go_wp2_with fail
    go_ret
    exact ⟨rfl, HB0.out.trans (HB1.out.mono HB0.out.size)⟩
  | false =>
    have HO := Box.mk (open_bad A B st v l _ (hv.below hb0) hz (hE.below (hb0.mono hB)) (Nat.le_trans hB hb0.size) ⟨hr⟩ (.slice none 0 0))
    have HB0 := Box.mk hb0
    clear hb0 hE hv hr
    go_enter Tryd.func20, Tryd.ntmps20
    go_wp2_with fail
    refine HO.out.mono ?_; rintro e w1 ⟨hb1, rfl⟩
    unfold errV
    have HB1 := Box.mk hb1
    clear hb1
    go_wp2_with fail
    go_ret
    exact ⟨rfl, HB0.out.trans (HB1.out.mono HB0.out.size)⟩

set_option maxHeartbeats 1000000 in
theorem first_any (A : Nat → Addr) (B : Nat) (st : Bool) (v : Value) (l : List N.Item) (w : World) (hv : ItemsAt w v l) (hz : l.length ≤ 16777216) (hE : E A B w) (hB : B ≤ w.heap.size) :
    Calls Tryd.prog 21 #[.agg #[.bool st, v]] w fun e w' => e = .returned (firstV l) ∧ Below w.heap.size w w' := by
  have hb0 := alloc_below w (.cells #[.bool st, v] 24)
  unfold firstV
  cases hr : rightB l with
  | true =>
    have HO := Box.mk (open_ok A B st v l _ (hv.below hb0) hz (hE.below (hb0.mono hB)) (Nat.le_trans hB hb0.size) ⟨hr⟩)
    have HB0 := Box.mk hb0
    clear hb0 hE hv hr
    go_enter Tryd.func21, Tryd.ntmps21
    go_wp2_with fail
    refine HO.out.mono ?_; rintro e w1 ⟨hb1, r, m, rfl, hrn⟩
    have HB1 := Box.mk hb1
    have HC := Box.mk (closed_any r m st v l (w1.alloc (.cells #[.int .i64 0] 3)) (hrn.below (alloc_below _ _)) w1.heap.size 0 (by simp) (by omega))
    clear hb1 hrn
    go_wp2_with fail
    refine HC.out.mono ?_; rintro e w2 ⟨rfl, hb2⟩
    have HB2 := Box.mk ((alloc_below w1 _).trans (hb2.mono (alloc_below w1 _).size))
    clear hb2
    go_wp2_with fail
    go_ret2
    exact ⟨rfl, HB0.out.trans ((HB1.out.trans (HB2.out.mono HB1.out.size)).mono HB0.out.size)⟩
  | false =>
    have HO := Box.mk (open_bad A B st v l _ (hv.below hb0) hz (hE.below (hb0.mono hB)) (Nat.le_trans hB hb0.size) ⟨hr⟩ (.slice none 0 0))
    have HB0 := Box.mk hb0
    have HE := Box.mk hE
    clear hb0 hE hv hr
    go_enter Tryd.func21, Tryd.ntmps21
    go_wp2_with fail
    refine HO.out.mono ?_; rintro e w1 ⟨hb1, rfl⟩
    have HT := Box.mk (told_any A B w1 ((HE.out.below (HB0.out.mono hB)).below (hb1.mono (Nat.le_trans hB HB0.out.size))))
    have HB1 := Box.mk hb1
    unfold errV at HT ⊢
    clear hb1
    go_wp2_with fail
    refine HT.out.mono ?_; rintro e w2 ⟨rfl, rfl⟩
    go_wp2_with fail
    go_ret2
    exact ⟨rfl, HB0.out.trans (HB1.out.mono HB0.out.size)⟩

theorem most_small (l : List N.Item) (h : l.length ≤ 10) : N.most l < 4611686018427387904 := by
  have : 2 ^ (2 * l.length + 1) ≤ 2 ^ 21 := Nat.pow_le_pow_right (by omega) (by omega)
  unfold N.most
  omega
theorem right_len {l : List N.Item} (h : rightB l = true) : l.length ≤ 10 := by
  unfold rightB at h
  rw [Bool.and_eq_true] at h
  exact of_decide_eq_true h.1
theorem cell_two (w : World) (o : Obj) (x : Value) (T : TypeId) : ((w.alloc o).alloc (.cells #[x] T)).cell? ⟨w.heap.size + 1, 0, none⟩ = some x := by
  simp

set_option maxHeartbeats 1000000 in
theorem pstep_any (A : Nat → Addr) (B : Nat) (st : Bool) (v : Value) (l : List N.Item) (x c : Int) (w : World) (hv : ItemsAt w v l) (hz : l.length ≤ 16777216) (hE : E A B w) (hB : B ≤ w.heap.size) :
    Calls Tryd.prog 18 #[.agg #[.bool st, v], .int .i64 x, .int .i64 c] w fun e w' => e = .returned (stepV l st x c) ∧ Below w.heap.size w w' := by
  have hb0 := ((Below.refl w.heap.size w).alloc (Nat.le_refl _) (.cells #[.bool st, v] 24)).alloc (by simp) (.cells #[.int .i64 x] 2)
  have hcx := cell_two w (.cells #[.bool st, v] 24) (.int .i64 x) 2
  unfold stepV
  have HB0 := Box.mk hb0
  have HE := Box.mk hE
  have hE' := hE.below (hb0.mono hB)
  have hB' := Nat.le_trans hB hb0.size
  cases hok : setOk l x with
  | true =>
    have hok' := hok
    unfold setOk at hok
    simp only [Bool.and_eq_true, decide_eq_true_eq] at hok
    obtain ⟨⟨hr, h0⟩, h1⟩ := hok
    have hm := most_small l (right_len hr)
    obtain ⟨S, rfl⟩ := Int.eq_ofNat_of_zero_le h0
    have HO := Box.mk (open_set_ok A B st v l _ (hv.below hb0) hz hE' hB' ⟨hr⟩ (w.heap.size + 1) S hcx h0 h1)
    clear hb0 hE hv hr hE' hB' hok' hcx
    go_enter Tryd.func18, Tryd.ntmps18
    go_wp2_with fail
    refine HO.out.mono ?_; rintro e w1 ⟨hb1, r, m, rfl, hrn⟩
    have HB1 := Box.mk hb1
    have HR := Box.mk hrn
    clear hb1 hrn
    go_wp2_with fail
    refine (step_any r m st v l _ HR.out S (by omega) c).mono ?_; rintro e w2 ⟨rfl, hb2⟩
    have HB2 := Box.mk hb2
    clear hb2
    go_wp2_with fail
    go_ret2
    exact ⟨by simp, HB0.out.trans ((HB1.out.trans (HB2.out.mono HB1.out.size)).mono HB0.out.size)⟩
  | false =>
    have HO := Box.mk (show Calls Tryd.prog 26 #[.agg #[.bool st, v], .slice (some ⟨w.heap.size + 1, 0, none⟩) 1 1] _ (openNo _ A) from by
      cases hr : rightB l with
      | false => exact open_bad A B st v l _ (hv.below hb0) hz hE' hB' ⟨hr⟩ _
      | true =>
        refine open_set_bad A B st v l _ (hv.below hb0) hz hE' hB' ⟨hr⟩ (w.heap.size + 1) x hcx ?_
        unfold setOk at hok
        rw [hr] at hok
        simp at hok
        omega)
    clear hb0 hE hv hE' hB' hok hcx
    go_enter Tryd.func18, Tryd.ntmps18
    go_wp2_with fail
    refine HO.out.mono ?_; rintro e w1 ⟨hb1, rfl⟩
    have HT := Box.mk (told_any A B w1 ((HE.out.below (HB0.out.mono hB)).below (hb1.mono (Nat.le_trans hB HB0.out.size))))
    have HB1 := Box.mk hb1
    unfold errV at HT ⊢
    clear hb1
    go_wp2_with fail
    refine HT.out.mono ?_; rintro e w2 ⟨rfl, rfl⟩
    go_wp2_with fail
    go_ret2
    exact ⟨rfl, HB0.out.trans (HB1.out.mono HB0.out.size)⟩

set_option maxHeartbeats 1000000 in
theorem pdone_any (A : Nat → Addr) (B : Nat) (st : Bool) (v : Value) (l : List N.Item) (x : Int) (w : World) (hv : ItemsAt w v l) (hz : l.length ≤ 16777216) (hE : E A B w) (hB : B ≤ w.heap.size) :
    Calls Tryd.prog 19 #[.agg #[.bool st, v], .int .i64 x] w fun e w' => e = .returned (.bool (doneV l x)) ∧ Below w.heap.size w w' := by
  have hb0 := ((Below.refl w.heap.size w).alloc (Nat.le_refl _) (.cells #[.bool st, v] 24)).alloc (by simp) (.cells #[.int .i64 x] 2)
  have hcx := cell_two w (.cells #[.bool st, v] 24) (.int .i64 x) 2
  unfold doneV
  have HB0 := Box.mk hb0
  have hE' := hE.below (hb0.mono hB)
  have hB' := Nat.le_trans hB hb0.size
  cases hok : setOk l x with
  | true =>
    have hok' := hok
    unfold setOk at hok
    simp only [Bool.and_eq_true, decide_eq_true_eq] at hok
    obtain ⟨⟨hr, h0⟩, h1⟩ := hok
    have hm := most_small l (right_len hr)
    obtain ⟨S, rfl⟩ := Int.eq_ofNat_of_zero_le h0
    have HO := Box.mk (open_set_ok A B st v l _ (hv.below hb0) hz hE' hB' ⟨hr⟩ (w.heap.size + 1) S hcx h0 h1)
    clear hb0 hE hv hr hE' hB' hok' hcx
    go_enter Tryd.func19, Tryd.ntmps19
    go_wp2_with fail
    refine HO.out.mono ?_; rintro e w1 ⟨hb1, r, m, rfl, hrn⟩
    have HB1 := Box.mk hb1
    have HR := Box.mk hrn
    clear hb1 hrn
    go_wp2_with fail
    refine (isDone_any r m st v l _ HR.out S (by omega)).mono ?_; rintro e w2 ⟨rfl, rfl⟩
    go_wp2_with fail
    go_ret
    exact ⟨by simp, HB0.out.trans (HB1.out.mono HB0.out.size)⟩
  | false =>
    have HO := Box.mk (show Calls Tryd.prog 26 #[.agg #[.bool st, v], .slice (some ⟨w.heap.size + 1, 0, none⟩) 1 1] _ (openNo _ A) from by
      cases hr : rightB l with
      | false => exact open_bad A B st v l _ (hv.below hb0) hz hE' hB' ⟨hr⟩ _
      | true =>
        refine open_set_bad A B st v l _ (hv.below hb0) hz hE' hB' ⟨hr⟩ (w.heap.size + 1) x hcx ?_
        unfold setOk at hok
        rw [hr] at hok
        simp at hok
        omega)
    clear hb0 hE hv hE' hB' hok hcx
    go_enter Tryd.func19, Tryd.ntmps19
    go_wp2_with fail
    refine HO.out.mono ?_; rintro e w1 ⟨hb1, rfl⟩
    have HB1 := Box.mk hb1
    unfold errV
    clear hb1
    go_wp2_with fail
    go_ret
    exact ⟨rfl, HB0.out.trans (HB1.out.mono HB0.out.size)⟩
end Go.Proofs.YtonpgokgbaemfaaDoor
