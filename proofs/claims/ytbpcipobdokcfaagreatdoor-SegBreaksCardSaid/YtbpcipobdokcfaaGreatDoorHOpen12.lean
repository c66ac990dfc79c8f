/-
  RULES AND MACHINES THAT COME IN: what they read as.
-/
import Derived.Test.YtbpcipobdokcfaaGreatDoorHPat
import Derived.Test.YtbpcipobdokcfaaGreatDoorH5
import Derived.Deep.Slices
import Derived.Deep.Strs
namespace Go.Proofs.YtbpcipobdokcfaaGreatDoor
open Go.RowKit Go.ChangeShapes Go.WideShapes Go.Deep

section
variable {H : Type} {enc : TypeId × Value → H} {W : World}
set_option maxRecDepth 100000 in
theorem pat_cells {fuel : Nat} {cs : List Value} {x : DataW H × List MemPlace} (h : DataW.trod enc Tryz.prog W 0 (fun _ => true) true fuel 42 cs = some x) :
    ∃ (st : Bool) (v : Value) (l : List N.Item), cs = [.bool st, v] ∧ ItemsAt W v l := by
  obtain ⟨y0, y1, n, rfl, hl, h0, h1⟩ := trod_struct2 Tryz.underlying42 h
  have hl2 : cs.length = 2 := hl.trans (by kernel_rfl)
  match cs, hl2 with
  | [c0, c1], _ =>
    obtain ⟨st, e0, _⟩ := DataW.trod_bool Tryz.underlying4 h0
    obtain ⟨l, hli⟩ := ItemsAt.open h1
    have e0' : [c0] = [.bool st] := e0
    simp only [List.cons.injEq, and_true] at e0'
    subst e0'
    exact ⟨st, c1, l, rfl, hli⟩
set_option maxRecDepth 100000 in
theorem rule_cells {fuel : Nat} {cs : List Value} {x : DataW H × List MemPlace} (h : DataW.trod enc Tryz.prog W 0 (fun _ => true) true fuel 44 cs = some x) :
    ∃ (y : D.Rule) (vl vr : Value), cs = [.bool y.1.1, vl, .bool y.2.1.1, vr, .bool y.2.2] ∧ ItemsAt W vl y.1.2 ∧ ItemsAt W vr y.2.1.2 := by
  obtain ⟨y0, y1, y2, n, rfl, hl, h0, h1, h2⟩ := trod_struct3 Tryz.underlying44 h
  have hl5 : cs.length = 5 := hl.trans (by kernel_rfl)
  match cs, hl5 with
  | [c0, c1, c2, c3, c4], _ =>
    obtain ⟨sl, vl, ll, e0, hi0⟩ := pat_cells (cs := [c0, c1]) h0
    obtain ⟨sr, vr, lr, e1, hi1⟩ := pat_cells (cs := [c2, c3]) h1
    obtain ⟨br, e2, _⟩ := DataW.trod_bool Tryz.underlying4 h2
    have e2' : [c4] = [.bool br] := e2
    simp only [List.cons.injEq, and_true] at e0 e1 e2'
    obtain ⟨rfl, rfl⟩ := e0
    obtain ⟨rfl, rfl⟩ := e1
    subst e2'
    exact ⟨((sl, ll), (sr, lr), br), _, _, rfl, hi0, hi1⟩
set_option maxRecDepth 100000 in
theorem RulesAt.open {fuel : Nat} {v : Value} {x : DataW H × List MemPlace} (h : DataW.trod enc Tryz.prog W 0 (fun _ => true) true fuel 22 [v] = some x) : ∃ l, RulesAt W v l := by
  have ce : Tryz.prog.cellsOf 44 = 5 := by kernel_rfl
  rcases open_slice Tryz.underlying22 h with ⟨h1, _⟩ | ⟨a, len, cap, m, n, Dd, Pl, h1, _, h2, h3, h4, _, h5⟩
  · simp only [List.cons.injEq, and_true] at h1
    exact ⟨[], .inl ⟨h1, rfl⟩⟩
  · simp only [List.cons.injEq, and_true] at h1
    subst h1
    simp only [if_true] at h4
    subst h4
    rw [ce] at h5
    have key : ∀ i, i < m → ∃ q : D.Rule × Value × Value, (∀ j u, [Value.bool q.1.1.1, q.2.1, .bool q.1.2.1.1, q.2.2, .bool q.1.2.2][j]? = some u → W.cell? ((a.add (i * 5)).add j) = some u) ∧ ItemsAt W q.2.1 q.1.1.2 ∧ ItemsAt W q.2.2 q.1.2.1.2 := by
      intro i hi
      obtain ⟨cs', h6, h7⟩ := h5 i hi
      obtain ⟨_, hlen, hcell⟩ := World.cells?_some h6
      obtain ⟨y, vl, vr, rfl, h8, h9⟩ := rule_cells h7
      refine ⟨(y, vl, vr), fun j u hu => ?_, h8, h9⟩
      have hj : j < 5 := (List.getElem?_eq_some_iff.1 hu).1
      rw [hcell j hj]
      exact hu
    obtain ⟨q, hq⟩ := choose_lt key
    obtain ⟨b, off, sp⟩ := a
    have hlen : ((List.range len).map fun i => (q i).1).length = len := by simp
    refine ⟨(List.range len).map fun i => (q i).1, .inr ⟨b, off, sp, m, by rw [hlen], by rw [hlen]; exact h2, h3, fun hn => ?_⟩⟩
    have h0 : 0 < len := by
      rcases Nat.eq_zero_or_pos len with h | h
      · subst h; exact absurd rfl hn
      · exact h
    have hc0 := (hq 0 (by omega)).1 0 _ rfl
    have hsp : sp = none := World.cell?_spot (a := ((⟨b, off, sp⟩ : Addr).add (0 * 5)).add 0) hc0
    subst hsp
    refine ⟨rfl, World.block_lt_of_cell? _ _ hc0, fun i y hy => ?_⟩
    rw [List.getElem?_map] at hy
    obtain ⟨j, hj, rfl⟩ := Option.map_eq_some_iff.1 hy
    obtain ⟨hi, rfl⟩ := List.getElem?_eq_some_iff.1 hj
    simp only [List.length_range] at hi
    simp only [List.getElem_range]
    obtain ⟨k1, k2, k3⟩ := hq i (by omega)
    have hc : ∀ j u, [Value.bool (q i).1.1.1, (q i).2.1, .bool (q i).1.2.1.1, (q i).2.2, .bool (q i).1.2.2][j]? = some u → W.cell? ⟨b, off + i * 5 + j, none⟩ = some u := fun j u hu => by
      have := k1 j u hu
      rw [addr_add b off, addr_add b] at this
      exact this
    exact ⟨(q i).2.1, (q i).2.2, hc 0 _ rfl, hc 1 _ rfl, hc 2 _ rfl, hc 3 _ rfl, hc 4 _ rfl, k2, k3⟩
set_option maxRecDepth 100000 in
theorem ints_cells {fuel : Nat} {v : Value} {x : DataW H × List MemPlace} {t e : TypeId} (ht : Tryz.prog.underlying t = some (.slice e)) (he : Tryz.prog.underlying e = some (.int .i64)) (hc : Tryz.prog.cellsOf e = 1)
    (h : DataW.trod enc Tryz.prog W 0 (fun _ => true) true fuel t [v] = some x) : ∃ l, IntsAt W v l := by
  rcases Go.ChangeShapes.open_ints ht he hc h with ⟨h1, _⟩ | ⟨a, len, cap, zs, h1, _, h2, h3, h4, _, h5, _⟩
  · simp only [List.cons.injEq, and_true] at h1
    exact ⟨[], .inl ⟨h1, rfl⟩⟩
  · simp only [List.cons.injEq, and_true] at h1
    subst h1
    simp only [if_true] at h4
    have hl : (zs.take len).length = len := by rw [List.length_take]; omega
    obtain ⟨b, off, sp⟩ := a
    refine ⟨zs.take len, .inr ⟨b, off, sp, cap, by rw [hl], by rw [hl]; exact h2, h3, fun hn => ?_⟩⟩
    have h0 : 0 < zs.length := by
      rcases Nat.eq_zero_or_pos zs.length with h | h
      · exact absurd (by rw [List.eq_nil_of_length_eq_zero h]; simp) hn
      · exact h
    have hc0 := h5 0 h0
    have hsp : sp = none := World.cell?_spot (a := (⟨b, off, sp⟩ : Addr).add 0) hc0
    subst hsp
    refine ⟨rfl, World.block_lt_of_cell? _ _ hc0, fun i x hx => ?_⟩
    rw [List.getElem?_take] at hx
    split at hx
    · have hi : i < zs.length := (List.getElem?_eq_some_iff.1 hx).1
      have := h5 i hi
      rw [show (⟨b, off + i, none⟩ : Addr) = (⟨b, off, none⟩ : Addr).add i by unfold Addr.add; by_cases h0 : i = 0 <;> simp [h0], this, List.getD, hx]
      rfl
    · cases hx
set_option maxRecDepth 100000 in
theorem RowsAt.open {fuel : Nat} {v : Value} {x : DataW H × List MemPlace} (h : DataW.trod enc Tryz.prog W 0 (fun _ => true) true fuel 23 [v] = some x) : ∃ l, RowsAt W v l := by
  rcases open_slice1 Tryz.underlying23 (by kernel_rfl) h with ⟨h1, _⟩ | ⟨a, len, cap, m, n, V, Dd, Pl, h1, _, h2, h3, h4, _, h5⟩
  · simp only [List.cons.injEq, and_true] at h1
    exact ⟨[], .inl ⟨h1, rfl⟩⟩
  · simp only [List.cons.injEq, and_true] at h1
    subst h1
    simp only [if_true] at h4
    subst h4
    have key : ∀ i, i < m → ∃ q : List Int, W.cell? (a.add i) = some (V i) ∧ IntsAt W (V i) q := fun i hi => by
      obtain ⟨k1, k2⟩ := h5 i hi
      obtain ⟨q, hq⟩ := ints_cells Tryz.underlying27 Tryz.underlying3 (by kernel_rfl) k2
      exact ⟨q, k1, hq⟩
    obtain ⟨q, hq⟩ := choose_lt key
    obtain ⟨b, off, sp⟩ := a
    have hlen : ((List.range len).map q).length = len := by simp
    refine ⟨(List.range len).map q, .inr ⟨b, off, sp, m, by rw [hlen], by rw [hlen]; exact h2, h3, fun hn => ?_⟩⟩
    have h0 : 0 < len := by
      rcases Nat.eq_zero_or_pos len with h | h
      · subst h; exact absurd rfl hn
      · exact h
    have hc0 := (hq 0 (by omega)).1
    have hsp : sp = none := World.cell?_spot (a := (⟨b, off, sp⟩ : Addr).add 0) hc0
    subst hsp
    refine ⟨rfl, World.block_lt_of_cell? _ _ hc0, fun i y hy => ?_⟩
    rw [List.getElem?_map] at hy
    obtain ⟨j, hj, rfl⟩ := Option.map_eq_some_iff.1 hy
    obtain ⟨hi, rfl⟩ := List.getElem?_eq_some_iff.1 hj
    simp only [List.length_range] at hi
    simp only [List.getElem_range]
    obtain ⟨k1, k2⟩ := hq i (by omega)
    rw [addr_add b off] at k1
    exact ⟨_, k1, k2⟩
set_option maxRecDepth 100000 in
theorem mach_open {base : Nat} {v : Value} {d : DataW H} {p : List MemPlace} (hv : Value.okWide Tryz.prog W .any base 26 v) (h : DataW.Trod enc Tryz.prog W 0 (fun _ => true) true 26 v d p) :
    ∃ M : D.Mach, MachAt W v M := by
  obtain ⟨v0, v1, y0, y1, n, rfl, -, -, h0, h1⟩ := Go.Joins.open_agg2 Tryz.underlying26 (by kernel_rfl) (by kernel_rfl) hv h
  obtain ⟨l0, hl0⟩ := RowsAt.open h0
  obtain ⟨l1, hl1⟩ := ints_cells Tryz.underlying24 Tryz.underlying2 (by kernel_rfl) h1
  exact ⟨(l0, l1), v0, v1, rfl, hl0, hl1⟩
set_option maxRecDepth 100000 in
theorem rules_open {base : Nat} {v : Value} {d : DataW H} {p : List MemPlace} (hv : Value.okWide Tryz.prog W .any base 22 v) (h : DataW.Trod enc Tryz.prog W 0 (fun _ => true) true 22 v d p) :
    ∃ l, RulesAt W v l := by
  obtain ⟨a0, len0, cap0, rfl⟩ := Go.WideShapes.okWide_slice Tryz.underlying22 hv
  obtain ⟨fuel, hf⟩ := h
  exact RulesAt.open hf
end
end Go.Proofs.YtbpcipobdokcfaaGreatDoor
