/-
  THE WALKS OF package mend: Next, Back.
-/
import Derived.Test.YtbagecjkfcoapaaDoorMnG
namespace Go.Proofs.YtbagecjkfcoapaaDoor
open Go.RowKit Go.Shelf
attribute [local go_sem] Oper.semAt_some

theorem run_neg_float (P : Program) (w : World) (k : FloatKind) (b : Nat) : (Op.unary .neg (.float k b)).run P w = .ok (.float k (Op.negFloat k b)) w := rfl
attribute [local go_sem] run_neg_float

def nextV (l : List UInt8) (q : Int) : Value := match M.fwd (M.places l) q with
  | some x => .tuple #[.int .i64 ((x.1 : Int) + (x.2.1 : Int)), .int .i64 0]
  | none => .tuple #[.int .i64 0, .int .i64 12]
def backV (l : List UInt8) (q : Int) : Value := match M.bwd (M.places l) q with
  | some x => .tuple #[.int .i64 (x.1 : Int), .int .i64 0]
  | none => .tuple #[.int .i64 0, .int .i64 12]

theorem places_mem {l : List UInt8} {x : M.Place} (h : x ∈ M.places l) : x.1 < l.length ∧ x.1 + x.2.1 ≤ l.length ∧ 1 ≤ x.2.1 ∧ x.2.1 ≤ 4 := by
  rw [← M.rest_zero] at h
  have := M.rest_mem l 0 x h
  exact ⟨this.2.1, this.2.2.2.1, this.2.2.2.2.1, this.2.2.2.2.2⟩

/-- a step by what the map holds -/
theorem step_fwd (A : Nat → Addr) (B : Nat) (l : List UInt8) (q : Int) (w : World) (hl : l.length ≤ 100000) (hE : E A B w) :
    Calls Tryd.prog 27 #[.int .i64 q, .float .f64 (fN (lenO (M.fwd (M.places l) q)))] w fun e w' => e = .returned (nextV l q) ∧ w = w' := by
  unfold nextV
  cases h : M.fwd (M.places l) q with
  | none => exact step_no A B q _ w fN_no.1 hE
  | some x =>
    obtain ⟨hm, hq⟩ := M.fwd_some h
    have hx := places_mem hm
    have hf := fN_by x.2.1 (by omega) (by omega)
    have := step_by q x.2.1 _ w hf.1 hf.2.1 (by omega) (by omega)
    rw [← hq] at this ⊢
    exact this
theorem step_bwd (A : Nat → Addr) (B : Nat) (l : List UInt8) (q : Int) (w : World) (hl : l.length ≤ 100000) (hE : E A B w) :
    Calls Tryd.prog 27 #[.int .i64 q, .float .f64 (Op.negFloat .f64 (fN (lenO (M.bwd (M.places l) q))))] w fun e w' => e = .returned (backV l q) ∧ w = w' := by
  unfold backV
  cases h : M.bwd (M.places l) q with
  | none => exact step_no A B q _ w fN_no.2 hE
  | some x =>
    obtain ⟨hm, hq⟩ := M.bwd_some h
    have hx := places_mem hm
    have hf := fN_by x.2.1 (by omega) (by omega)
    have := step_by q (-x.2.1) _ w hf.2.2.1 hf.2.2.2 (by omega) (by omega)
    rw [show q + -(x.2.1 : Int) = x.1 by omega] at this
    exact this
theorem nextV_tuple (l : List UInt8) (q : Int) : ∃ a b, nextV l q = .tuple #[.int .i64 a, .int .i64 b] := by
  unfold nextV; split <;> exact ⟨_, _, rfl⟩
theorem backV_tuple (l : List UInt8) (q : Int) : ∃ a b, backV l q = .tuple #[.int .i64 a, .int .i64 b] := by
  unfold backV; split <;> exact ⟨_, _, rfl⟩

set_option maxHeartbeats 1000000 in
theorem mnext_any (A : Nat → Addr) (B : Nat) (s : ByteArray) (q : Int) (w : World) (hs : s.size ≤ 100000) (hE : E A B w) (hB : B ≤ w.heap.size) :
    Calls Tryd.prog 12 #[.string s, .int .i64 q] w fun e w' => e = .returned (nextV s.data.toList q) ∧ Below w.heap.size w w' := by
  have HS := Box.mk (steps_any A B s w hs hE hB)
  have HE := Box.mk hE
  have HSZ := Box.mk (size_eq s)
  clear hE
  go_enter Tryd.func12, Tryd.ntmps12
  go_wp2_with fail
  refine HS.out.mono ?_; rintro e w1 ⟨⟨mb, rfl, es, clk, h1, h2, h3⟩, hb1⟩
  have hl := map_get Tryd.underlying41 Tryd.underlying3 w1 es clk q mb h1 h2 (.complex .f64 0 0) (zero_c w1)
  rw [h3] at hl
  unfold cv at hl
  have HST := Box.mk (step_fwd A B s.data.toList q w1 (by rw [← HSZ.out]; exact hs) (HE.out.below (hb1.mono hB)))
  have HB1 := Box.mk hb1
  generalize fN (lenO (M.fwd (M.places s.data.toList) q)) = fa at hl HST
  generalize fN (lenO (M.bwd (M.places s.data.toList) q)) = fb at hl
  clear hb1 h1 h2 h3
  go_wp2_with fail
  refine HST.out.mono ?_; rintro e w2 ⟨rfl, rfl⟩
  obtain ⟨a, b, hab⟩ := nextV_tuple s.data.toList q
  have HAB := Box.mk hab
  rw [hab]
  clear hab
  go_wp2_with fail
  go_ret2
  exact ⟨by rw [HAB.out]; rfl, HB1.out⟩

set_option maxHeartbeats 1000000 in
theorem mback_any (A : Nat → Addr) (B : Nat) (s : ByteArray) (q : Int) (w : World) (hs : s.size ≤ 100000) (hE : E A B w) (hB : B ≤ w.heap.size) :
    Calls Tryd.prog 13 #[.string s, .int .i64 q] w fun e w' => e = .returned (backV s.data.toList q) ∧ Below w.heap.size w w' := by
  have HS := Box.mk (steps_any A B s w hs hE hB)
  have HE := Box.mk hE
  have HSZ := Box.mk (size_eq s)
  clear hE
  go_enter Tryd.func13, Tryd.ntmps13
  go_wp2_with fail
  refine HS.out.mono ?_; rintro e w1 ⟨⟨mb, rfl, es, clk, h1, h2, h3⟩, hb1⟩
  have hl := map_get Tryd.underlying41 Tryd.underlying3 w1 es clk q mb h1 h2 (.complex .f64 0 0) (zero_c w1)
  rw [h3] at hl
  unfold cv at hl
  have HST := Box.mk (step_bwd A B s.data.toList q w1 (by rw [← HSZ.out]; exact hs) (HE.out.below (hb1.mono hB)))
  have HB1 := Box.mk hb1
  generalize fN (lenO (M.fwd (M.places s.data.toList) q)) = fa at hl
  generalize fN (lenO (M.bwd (M.places s.data.toList) q)) = fb at hl HST
  clear hb1 h1 h2 h3
  go_wp2_with fail
  refine HST.out.mono ?_; rintro e w2 ⟨rfl, rfl⟩
  obtain ⟨a, b, hab⟩ := backV_tuple s.data.toList q
  have HAB := Box.mk hab
  rw [hab]
  clear hab
  go_wp2_with fail
  go_ret2
  exact ⟨by rw [HAB.out]; rfl, HB1.out⟩
end Go.Proofs.YtbagecjkfcoapaaDoor
