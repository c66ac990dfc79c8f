/-
  WHAT A ROW's LIST OF SENTINELS GIVES, however many there are: each variable holds an error of its own.
-/
import Derived.Test.YtbagecjkfcoapaaDoorEnv
import Derived.Stop.LaidErr
import Derived.ProofKit
namespace Go.Proofs.YtbagecjkfcoapaaDoor
open Go.RowKit Go.ChangeShapes

/-- a sentinel: its name, its number, its text -/
abbrev Sent := String × Nat × List UInt8
def sentD (nm : String) (x : Sent) : String × DataW Unit := (x.1, .iface nm (.ptr (.agg [.lit (.string x.2.2)])))

section
variable {P : Program} {nm : String} {W : World} {ti tp te ts : TypeId} {ms : Array (String × TypeId)} {f : Field}
theorem laid_vars (hi : P.underlying ti = some (.interface ms)) (hrow : ∀ u, P.typeName? 3 u = some nm → u = tp)
    (hp : P.underlying tp = some (.pointer te)) (he : P.underlying te = some (.struct #[f])) (hft : f.type = ts) (hfo : f.offset = 0) (hs : P.underlying ts = some .string) (hc : P.cellsOf te = 1) (hcs : P.cellsOf ts = 1) :
    ∀ (L : List Sent) (ps : List MemPlace), DataW.LaidVars P W (L.map (sentD nm)) ps → ps.Nodup →
      (∀ b off, MemPlace.cell b off ∈ ps → (∃ c t, W.heap[b]? = some (.cells c t (0, 0))) ∧ ∀ u v, W.cell? ⟨b, off, none⟩ = some (.iface u v) → Value.okWide P W .any 0 u v) →
      (∀ x ∈ L, P.globalNamed x.1 = some x.2.1 ∧ (P.globals[x.2.1]?).map (·.type) = some ti) →
      ∃ A : Nat → Addr, (∀ x ∈ L, W.cell? ⟨x.2.1, 0, none⟩ = some (.iface tp (.pointer (some (A x.2.1)))) ∧ (∃ c t, W.heap[(A x.2.1).block]? = some (.cells c t (0, 0))) ∧ (A x.2.1).block < W.heap.size ∧ MemPlace.cell (A x.2.1).block (A x.2.1).off ∈ ps) ∧
        ∀ x ∈ L, ∀ y ∈ L, x.2.1 ≠ y.2.1 → A x.2.1 ≠ A y.2.1
  | [], _, _, _, _, _ => ⟨fun _ => ⟨0, 0, none⟩, fun x hx => absurd hx (List.not_mem_nil), fun x hx => absurd hx (List.not_mem_nil)⟩
  | x0 :: L, ps, hv, hnd, hrows, hg => by
    obtain ⟨g0, t0, cs0, f0, p0, q0, hg0, ht0, hv0, hd0, hrest, e0⟩ := hv
    obtain ⟨hgx, htx⟩ := hg x0 (List.mem_cons_self ..)
    obtain rfl := Option.some.inj (hgx.symm.trans hg0)
    obtain rfl := Option.some.inj (htx.symm.trans ht0)
    subst e0
    obtain ⟨l0⟩ := cs0
    have ok0 : ∀ u v, l0 = [.iface u v] → Value.okWide P W .any 0 u v := fun u v e => by
      subst e
      exact (hrows x0.2.1 0 (by simp [MemPlace.row])).2 u v (by simpa using World.var?_cell hg0 hv0 0)
    obtain ⟨a0, s0, rfl, hc0, hs0, hz0, rfl⟩ := errorString_of_trod hi hrow hp he hft hfo hs hc hcs hd0 ok0
    have hcell : W.cell? ⟨x0.2.1, 0, none⟩ = some (.iface tp (.pointer (some a0))) := by simpa using World.var?_cell hg0 hv0 0
    have hm0 : MemPlace.cell a0.block a0.off ∈ MemPlace.row ⟨x0.2.1, 0, none⟩ ([Value.iface tp (.pointer (some a0))].toArray).size ++ MemPlace.row a0 1 ++ q0 := by simp [MemPlace.row]
    obtain ⟨A, h1, h2⟩ := laid_vars hi hrow hp he hft hfo hs hc hcs L q0 hrest (List.Nodup.sublist (List.sublist_append_right _ _) hnd) (fun b off hm => hrows b off (List.mem_append_right _ hm)) (fun x hx => hg x (List.mem_cons_of_mem _ hx))
    have hspot : a0.spot = none := World.cell?_spot hc0
    have hfar : ∀ y ∈ L, a0 ≠ A y.2.1 := by
      intro y hy e
      have hq := (h1 y hy).2.2.2
      rw [← e] at hq
      rw [List.nodup_append] at hnd
      exact hnd.2.2 _ (by simp [MemPlace.row]) _ hq rfl
    have hhead : (∃ c t, W.heap[a0.block]? = some (.cells c t (0, 0))) ∧ a0.block < W.heap.size := by
      obtain ⟨c, t, hb⟩ := (hrows _ _ hm0).1
      exact ⟨⟨c, t, hb⟩, (Array.getElem?_eq_some_iff.1 hb).1⟩
    by_cases hin : ∃ y ∈ L, y.2.1 = x0.2.1
    · -- the same variable twice: its place would be met twice
      obtain ⟨y, hy, e⟩ := hin
      have hcy := (h1 y hy).1
      rw [e, hcell] at hcy
      simp only [Option.some.injEq, Value.iface.injEq, Value.pointer.injEq, true_and] at hcy
      exact absurd (by rw [← e] at hcy; exact hcy) (hfar y hy)
    · have hne : ∀ y ∈ L, y.2.1 ≠ x0.2.1 := fun y hy e => hin ⟨y, hy, e⟩
      refine ⟨fun g => if g = x0.2.1 then a0 else A g, fun x hx => ?_, fun x hx y hy hxy => ?_⟩
      · rcases List.mem_cons.1 hx with rfl | hx
        · simp only [if_true]
          exact ⟨hcell, hhead.1, hhead.2, hm0⟩
        · simp only [if_neg (hne x hx)]
          obtain ⟨k1, k2, k3, k4⟩ := h1 x hx
          exact ⟨k1, k2, k3, List.mem_append_right _ k4⟩
      · rcases List.mem_cons.1 hx with rfl | hx' <;> rcases List.mem_cons.1 hy with rfl | hy'
        · exact absurd rfl hxy
        · simp only [if_true, if_neg (hne y hy')]; exact hfar y hy'
        · simp only [if_true, if_neg (hne x hx')]; exact fun e => hfar x hx' e.symm
        · simp only [if_neg (hne x hx'), if_neg (hne y hy')]; exact h2 x hx' y hy' hxy
end

/-- where the variables' errors lie -/
theorem E_of_list {nm : String} {W : World} {ti te ts : TypeId} {ms : Array (String × TypeId)} {f : Field} (hi : Tryd.prog.underlying ti = some (.interface ms)) (hrow : ∀ u, Tryd.prog.typeName? 3 u = some nm → u = 114)
    (hp : Tryd.prog.underlying 114 = some (.pointer te)) (he : Tryd.prog.underlying te = some (.struct #[f])) (hft : f.type = ts) (hfo : f.offset = 0) (hs : Tryd.prog.underlying ts = some .string) (hc : Tryd.prog.cellsOf te = 1) (hcs : Tryd.prog.cellsOf ts = 1)
    (L : List Sent) (hg : ∀ x ∈ L, Tryd.prog.globalNamed x.1 = some x.2.1 ∧ (Tryd.prog.globals[x.2.1]?).map (·.type) = some ti) (hL : laidMet Tryd.prog (L.map (sentD nm)) W) (hS : ∀ g ∈ sents, ∃ x ∈ L, x.2.1 = g) : ∃ A : Nat → Addr, E A W.heap.size W := by
  obtain ⟨ps, hv, hnd, hrows⟩ := hL
  obtain ⟨A, h1, h2⟩ := laid_vars hi hrow hp he hft hfo hs hc hcs L ps hv hnd hrows hg
  refine ⟨A, fun g hm => ?_, fun g hm => ?_, fun g hm => ?_, fun g hm k hk hgk => ?_⟩
  · obtain ⟨x, hx, rfl⟩ := hS g hm; exact (h1 x hx).1
  · obtain ⟨x, hx, rfl⟩ := hS g hm; exact (h1 x hx).2.1
  · obtain ⟨x, hx, rfl⟩ := hS g hm; exact ⟨World.block_lt_of_cell? _ _ (h1 x hx).1, (h1 x hx).2.2.1⟩
  · obtain ⟨x, hx, rfl⟩ := hS g hm
    obtain ⟨y, hy, rfl⟩ := hS k hk
    exact h2 x hx y hy hgk
end Go.Proofs.YtbagecjkfcoapaaDoor
