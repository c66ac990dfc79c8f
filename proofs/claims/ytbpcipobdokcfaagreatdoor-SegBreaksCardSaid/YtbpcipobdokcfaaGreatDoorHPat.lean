/-
  A PATTERN THAT COMES IN: what it reads as.
-/
import Derived.Test.YtbpcipobdokcfaaGreatDoorH2
import Derived.ChangeArms
namespace Go.Proofs.YtbpcipobdokcfaaGreatDoor
open Go.RowKit Go.ChangeShapes Go.WideShapes Go.Deep

section
variable {H : Type} {enc : TypeId × Value → H} {W : World}
theorem addr_add (b off i : Nat) : (⟨b, off, none⟩ : Addr).add i = ⟨b, off + i, none⟩ := by
  unfold Addr.add; by_cases h0 : i = 0 <;> simp [h0]
set_option maxRecDepth 100000 in
theorem ItemsAt.open {v : Value} {fuel : Nat} {x : DataW H × List MemPlace} (hf : DataW.trod enc Tryz.prog W 0 (fun _ => true) true fuel 40 [v] = some x) : ∃ l, ItemsAt W v l := by
  rcases open_slice_pairs Tryz.underlying40 Tryz.underlying52 (by kernel_rfl) rfl rfl (by kernel_rfl) (by kernel_rfl) hf with ⟨h1, _⟩ | ⟨a, len, cap, m, n, V0, V1, D0, D1, P0, P1, h1, _, h2, h3, h4, _, h5⟩
  · simp only [List.cons.injEq, and_true] at h1
    exact ⟨[], .inl ⟨h1, rfl⟩⟩
  · simp only [List.cons.injEq, and_true] at h1
    subst h1
    simp only [if_true] at h4
    subst h4
    have key : ∀ i, i < m → ∃ y : N.Item, W.cell? (a.add (i * 2)) = some (.int .i64 y.1) ∧ W.cell? (a.add (i * 2 + 1)) = some (.int .i64 y.2) := by
      intro i hi
      obtain ⟨c0, c1, t0, t1⟩ := h5 i hi
      obtain ⟨k0, e0, _⟩ := DataW.trod_int Tryz.underlying2 t0
      obtain ⟨k1, e1, _⟩ := DataW.trod_int Tryz.underlying3 t1
      simp only [List.cons.injEq, and_true] at e0 e1
      exact ⟨(k0, k1), by rw [c0, e0], by rw [c1, e1]⟩
    let g : Nat → N.Item := fun i => if h : i < m then (key i h).choose else (0, 0)
    have hg : ∀ i, i < m → W.cell? (a.add (i * 2)) = some (.int .i64 (g i).1) ∧ W.cell? (a.add (i * 2 + 1)) = some (.int .i64 (g i).2) := by
      intro i hi
      have : g i = (key i hi).choose := by simp [g, hi]
      rw [this]
      exact (key i hi).choose_spec
    obtain ⟨b, off, sp⟩ := a
    have hlen : ((List.range len).map g).length = len := by simp
    refine ⟨(List.range len).map g, .inr ⟨b, off, sp, m, by rw [hlen], by rw [hlen]; exact h2, h3, fun hn => ?_⟩⟩
    have h0 : 0 < len := by
      rcases Nat.eq_zero_or_pos len with h | h
      · subst h; exact absurd rfl hn
      · exact h
    have hc0 := (hg 0 (by omega)).1
    have hsp : sp = none := World.cell?_spot (a := (⟨b, off, sp⟩ : Addr).add (0 * 2)) hc0
    subst hsp
    refine ⟨rfl, World.block_lt_of_cell? _ _ hc0, fun i y hy => ?_⟩
    rw [List.getElem?_map] at hy
    obtain ⟨j, hj, rfl⟩ := Option.map_eq_some_iff.1 hy
    obtain ⟨hi, rfl⟩ := List.getElem?_eq_some_iff.1 hj
    simp only [List.length_range] at hi
    simp only [List.getElem_range]
    have := hg i (by omega)
    rw [addr_add b off, addr_add b off] at this
    exact this
set_option maxRecDepth 100000 in
theorem pat_open {base : Nat} {v : Value} {d : DataW H} {p : List MemPlace} (hv : Value.okWide Tryz.prog W .any base 42 v) (h : DataW.Trod enc Tryz.prog W 0 (fun _ => true) true 42 v d p) :
    ∃ (st : Bool) (v' : Value) (l : List N.Item), v = .agg #[.bool st, v'] ∧ ItemsAt W v' l := by
  obtain ⟨v0, v1, y0, y1, n, rfl, -, -, h0, h1⟩ := Go.Joins.open_agg2 Tryz.underlying42 (by kernel_rfl) (by kernel_rfl) hv h
  obtain ⟨st, e0, _⟩ := DataW.trod_bool Tryz.underlying4 h0
  simp only [List.cons.injEq, and_true] at e0
  subst e0
  obtain ⟨l, hl⟩ := ItemsAt.open h1
  exact ⟨st, v1, l, rfl, hl⟩
end
end Go.Proofs.YtbpcipobdokcfaaGreatDoor
