/-
  LISTS OF NUMBERS, AS VALUES.
-/
import Derived.Test.YtbagecjkfcoapaaDoorBase
import Derived.ChangeSlices
import Derived.WideShapes
import Derived.DataReads
import Derived.Maps.AppendAt
import Derived.Shelf.Abstract
import Derived.Shelf.RegionOpen
namespace Go.Proofs.YtbagecjkfcoapaaDoor
open Go.RowKit

/-- a value that reads as these numbers -/
def IntsAt (w : World) (v : Value) (xs : List Int) : Prop :=
  (v = .slice none 0 0 ∧ xs = []) ∨ ∃ b off sp cap, v = .slice (some ⟨b, off, sp⟩) xs.length cap ∧ xs.length ≤ cap ∧ cap ≤ maxLen ∧ (xs ≠ [] → sp = none ∧ b < w.heap.size ∧ ∀ i x, xs[i]? = some x → w.cell? ⟨b, off + i, none⟩ = some (.int .i64 x))
theorem IntsAt.below {w w' : World} {v : Value} {xs : List Int} (h : IntsAt w v xs) (hb : Below w.heap.size w w') : IntsAt w' v xs := by
  rcases h with h | ⟨b, off, sp, cap, h1, h2, h3, h4⟩
  · exact .inl h
  · exact .inr ⟨b, off, sp, cap, h1, h2, h3, fun hn => ⟨(h4 hn).1, Nat.lt_of_lt_of_le (h4 hn).2.1 hb.size, fun i x hx => (hb.cell (p := ⟨b, off + i, none⟩) (h4 hn).2.1).trans ((h4 hn).2.2 i x hx)⟩⟩
theorem IntsAt.get {w : World} {v : Value} {xs : List Int} (h : IntsAt w v xs) (hn : xs ≠ []) :
    ∃ b off cap, v = .slice (some ⟨b, off, none⟩) xs.length cap ∧ xs.length ≤ cap ∧ cap ≤ maxLen ∧ b < w.heap.size ∧ ∀ i x, xs[i]? = some x → w.cell? ⟨b, off + i, none⟩ = some (.int .i64 x) := by
  rcases h with ⟨_, h⟩ | ⟨b, off, sp, cap, h1, h2, h3, h4⟩
  · exact absurd h hn
  · obtain ⟨rfl, h5, h6⟩ := h4 hn
    exact ⟨b, off, cap, h1, h2, h3, h5, h6⟩
theorem IntsAt.of_own {w : World} {base n : Nat} {T : TypeId} {v : Value} {xs : List Int} (h : w.ownsRow base T 1 v n (xs.map (Value.int .i64))) (hn : n = xs.length) : IntsAt w v xs := by
  subst hn
  have hl := h.lt
  rcases h.2 with ⟨h1, h2⟩ | ⟨g, cap, cur, rfl, h2, h3, h4, h5, h6, h7⟩
  · exact .inl ⟨h1, List.eq_nil_of_length_eq_zero h2⟩
  · refine .inr ⟨g, 0, none, cap, rfl, h4, h5, fun _ => ⟨rfl, (hl g rfl).2, fun i x hx => ?_⟩⟩
    have := h.cells (g := g) rfl i (.int .i64 x) (by rw [List.getElem?_map, hx]; rfl)
    rw [show (⟨g, 0 + i, none⟩ : Addr) = (⟨g, 0, none⟩ : Addr).add i by unfold Addr.add; by_cases h0 : i = 0 <;> simp [h0]]
    exact this
theorem IntsAt.nil {w : World} : IntsAt w (.slice none 0 0) [] := .inl ⟨rfl, rfl⟩
theorem IntsAt.slice {w : World} {v : Value} {xs : List Int} (h : IntsAt w v xs) : ∃ a cap, v = .slice a xs.length cap := by
  rcases h with ⟨rfl, rfl⟩ | ⟨b, off, sp, cap, rfl, _⟩
  · exact ⟨_, _, rfl⟩
  · exact ⟨_, _, rfl⟩

set_option maxRecDepth 100000 in
theorem IntsAt.open {H : Type} {enc : TypeId × Value → H} {W : World} {base : Nat} {v : Value} {d : DataW H} {ps : List MemPlace} (hval : Value.okWide Tryd.prog W .any base 31 v)
    (hd : DataW.Trod enc Tryd.prog W 0 (fun _ => true) true 31 v d ps) : ∃ xs, IntsAt W v xs := by
  obtain ⟨a0, len0, cap0, rfl⟩ := Go.WideShapes.okWide_slice Tryd.underlying31 hval
  obtain ⟨fuel, hf⟩ := hd
  rcases Go.ChangeShapes.open_ints Tryd.underlying31 Tryd.underlying3 (by kernel_rfl) hf with ⟨h1, _⟩ | ⟨a, len, cap, zs, h1, _, h2, h3, h4, _, h5, _⟩
  · simp [Value.cells] at h1
    obtain ⟨rfl, rfl, rfl⟩ := h1
    exact ⟨[], .nil⟩
  · simp [Value.cells] at h1
    obtain ⟨rfl, rfl, rfl⟩ := h1
    simp only [if_true] at h4
    have hl : (zs.take len0).length = len0 := by rw [List.length_take]; omega
    obtain ⟨b, off, sp⟩ := a
    refine ⟨zs.take len0, .inr ⟨b, off, sp, cap0, by rw [hl], by rw [hl]; exact h2, h3, fun hn => ?_⟩⟩
    have h0 : 0 < zs.length := by
      rcases Nat.eq_zero_or_pos zs.length with h | h
      · exact absurd (by rw [List.eq_nil_of_length_eq_zero h]; simp) hn
      · exact h
    have hc0 := h5 0 h0
    have hsp : sp = none := World.cell?_spot (a := (⟨b, off, sp⟩ : Addr).add 0) hc0
    subst hsp
    refine ⟨rfl, World.block_lt_of_cell? _ _ hc0, fun i x hx => ?_⟩
    rw [List.getElem?_take] at hx
    split at hx
    · have hi : i < zs.length := (List.getElem?_eq_some_iff.1 hx).1
      have := h5 i hi
      rw [show (⟨b, off + i, none⟩ : Addr) = (⟨b, off, none⟩ : Addr).add i by unfold Addr.add; by_cases h0 : i = 0 <;> simp [h0], this, List.getD, hx]
      rfl
    · cases hx

end Go.Proofs.YtbagecjkfcoapaaDoor
