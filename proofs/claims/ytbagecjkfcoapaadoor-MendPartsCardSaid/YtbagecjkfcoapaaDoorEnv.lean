/-
  THE ERRORS THAT THE VARIABLES OF THIS SEAT's PROGRAM HOLD.
-/
import Derived.Test.YtbagecjkfcoapaaDoorErrIs
namespace Go.Proofs.YtbagecjkfcoapaaDoor
open Go.RowKit

def sents : List Nat := [
  0,
  1,
  2,
  ]
def E (A : Nat → Addr) (B : Nat) (w : World) : Prop := Env sents 114 A B w
def errV (A : Nat → Addr) (g : Nat) : Value := .iface 114 (.pointer (some (A g)))
theorem E.below {A : Nat → Addr} {B : Nat} {w w' : World} (h : E A B w) (hb : Below B w w') : E A B w' := Env.below h hb
theorem E.cell {A : Nat → Addr} {B : Nat} {w : World} (h : E A B w) (g : Nat) (hg : g ∈ sents) : w.cell? ⟨g, 0, none⟩ = some (.iface 114 (.pointer (some (A g)))) := h.var g hg

/-- errors.Is at two of the variables' errors -/
theorem is_sents {A : Nat → Addr} {B : Nat} {w : World} (h : E A B w) (g k : Nat) (hg : g ∈ sents) (hk : k ∈ sents) :
    Calls Tryd.prog 48 #[.iface 114 (.pointer (some (A g))), .iface 114 (.pointer (some (A k)))] w fun e w' => e = .returned (.bool (g == k)) ∧ w = w' := by
  by_cases e : g = k
  · subst e
    simpa using is_same (A g) w
  · obtain ⟨ca, ta, ha⟩ := h.row g hg
    obtain ⟨cb, tb, hb⟩ := h.row k hk
    have := is_other (A g) (A k) ca cb ta tb w (h.ne g hg k hk e) ha hb
    rw [show (g == k) = false from beq_eq_false_iff_ne.2 e]
    exact this
end Go.Proofs.YtbagecjkfcoapaaDoor
