/-
  THE WALKS OF package mend: told, step, and the numbers that lie in a map of complex numbers.
-/
import Derived.Test.YtbagecjkfcoapaaDoorMnC
import Derived.Test.YtbagecjkfcoapaaDoorMnM
import Derived.Test.YtbagecjkfcoapaaDoorMnP3
import Derived.WalkLawsBesides
namespace Go.Proofs.YtbagecjkfcoapaaDoor
open Go.RowKit Go.Shelf
attribute [local go_sem] Oper.semAt_some

theorem mtold_any (A : Nat → Addr) (B : Nat) (w : World) (hE : E A B w) :
    Calls Tryd.prog 39 #[errV A 0] w fun e w' => e = .returned (.int .i64 12) ∧ w = w' := by
  have hg := hE.cell 0 (by decide)
  have HI := Box.mk (is_sents hE 0 0 (by decide) (by decide))
  clear hE
  unfold errV
  go_enter Tryd.func39, Tryd.ntmps39
  go_wp2_with fail
  refine HI.out.mono ?_; rintro e w1 ⟨rfl, rfl⟩
  go_wp2_with fail
  go_ret
  exact ⟨rfl, rfl⟩

theorem step_by (k d : Int) (b : Nat) (w : World) (he : (FloatKind.f64.format.order b 0 == some .eq) = false) (hd : floatToIntVal .f64 b .i64 = some d) (h1 : -2000000 ≤ k + d) (h2 : k + d ≤ 2000000) :
    Calls Tryd.prog 27 #[.int .i64 k, .float .f64 b] w fun e w' => e = .returned (.tuple #[.int .i64 (k + d), .int .i64 0]) ∧ w = w' := by
  have hc := fun W => run_convert_float_int (P := Tryd.prog) W 39 3 .f64 .i64 b d (by rw [Tryd.underlying39]; rfl) Tryd.underlying3 hd
  go_enter Tryd.func27, Tryd.ntmps27
  go_wp2_with fail
  go_ret2
  exact ⟨rfl, rfl⟩

theorem step_no (A : Nat → Addr) (B : Nat) (k : Int) (b : Nat) (w : World) (he : (FloatKind.f64.format.order b 0 == some .eq) = true) (hE : E A B w) :
    Calls Tryd.prog 27 #[.int .i64 k, .float .f64 b] w fun e w' => e = .returned (.tuple #[.int .i64 0, .int .i64 12]) ∧ w = w' := by
  have hg := hE.cell 0 (by decide)
  have HI := Box.mk (mtold_any A B w hE)
  unfold errV at HI
  clear hE
  go_enter Tryd.func27, Tryd.ntmps27
  go_wp2_with fail
  refine HI.out.mono ?_; rintro e w1 ⟨rfl, rfl⟩
  go_wp2_with fail
  go_ret2
  exact ⟨rfl, rfl⟩

/-- the float that a small number is -/
def fN (n : Nat) : Nat := floatOfInt .f64 (n : Int)
theorem fN_facts : ∀ n : Nat, n < 5 → ∀ m : Nat, m < 5 → cSumBits .add .f64 (fN 0) (fN m) (fN n) 0 = some (fN n, fN m) ∧ cSumBits .add .f64 (fN 0) (fN 0) 0 (fN n) = some (0, fN n) := by decide +kernel
theorem fN_zero : fN 0 = 0 := by decide +kernel
theorem fN_by : ∀ n : Nat, n < 5 → 0 < n → (FloatKind.f64.format.order (fN n) 0 == some .eq) = false ∧ floatToIntVal .f64 (fN n) .i64 = some (n : Int) ∧ (FloatKind.f64.format.order (Op.negFloat .f64 (fN n)) 0 == some .eq) = false ∧ floatToIntVal .f64 (Op.negFloat .f64 (fN n)) .i64 = some (-(n : Int)) := by decide +kernel
theorem fN_no : (FloatKind.f64.format.order (fN 0) 0 == some .eq) = true ∧ (FloatKind.f64.format.order (Op.negFloat .f64 (fN 0)) 0 == some .eq) = true := by decide +kernel
end Go.Proofs.YtbagecjkfcoapaaDoor
