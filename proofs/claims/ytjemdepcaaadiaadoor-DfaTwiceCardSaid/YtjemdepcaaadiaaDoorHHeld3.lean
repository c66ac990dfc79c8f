/-
  APPEND OF ALL OF A SLICE, among other pieces. Nothing of any program.
-/
import Derived.Test.YtjemdepcaaadiaaDoorH2
import Derived.Laws.AppendOwnNone
namespace Go.Proofs.YtjemdepcaaadiaaDoor
open Go.RowKit

/-- a slice whose m elements have these cells -/
def CellsOf (W : World) (v : Value) (m : Nat) (cs : List Value) : Prop :=
  (v = .slice none 0 0 ∧ m = 0 ∧ cs = []) ∨ ∃ ad c, v = .slice (some ad) m c ∧ ∀ j u, cs[j]? = some u → W.cell? (ad.add j) = some u
theorem wpList_spread {P : Program} {w0 : World} {ops : Array Oper} {rest : List Oper} {o : Oper} {a : Act} {Q : Exit → Act → World → Prop} (hgd : o.guard = none) (s x : Operand) (t : TypeId)
    (ho : o.op = .call { callee := .builtin .append, args := #[s, x], argTypes := #[t, t] }) {base : Nat} {e : TypeId} {sz bytes : Nat} (hP : PushesN P t e sz bytes) (hsz : 0 < sz) {ps : List Pc} (hS : Sep ps w0) (k : Nat) {v xv : Value} {cs : List Value} {n m : Nat} {xs : List Value}
    (hk : ps[k]? = some (Pc.row base e sz v n xs)) (hs : a.eval s = v) (hx : a.eval x = xv) (hX : CellsOf w0 xv m cs) (hc : cs.length = m * sz) (h1 : ∀ u ∈ cs, u.oneCell' = true) (hn : n + m ≤ 1000000000) (hby : bytes ≤ 10000) (hbase : base ≤ w0.heap.size)
    (h : ∀ v' w', Sep (ps.set k (Pc.row base e sz v' (n + m) (xs ++ cs))) w' → wpList P ops Q rest (a.put o.dst v') w') : wpList P ops Q (o :: rest) a w0 := by
  obtain ⟨i, z, ht, hi, hz0, hz1, hz2, hz3⟩ := hP.out
  rcases hX with ⟨rfl, rfl, rfl⟩ | ⟨ad, c, rfl, hcl⟩
  · refine wpList_append_own_none hgd s x t ho base e i sz ht hi v n xs hs (hS.row k hk) hx ?_
    have := h v w0
    rw [Nat.add_zero, List.append_nil, show ps.set k (Pc.row base e sz v n xs) = ps by
      obtain ⟨h2, h3⟩ := List.getElem?_eq_some_iff.1 hk
      rw [← h3, List.set_getElem_self]] at this
    exact this hS
  · have hb : (n + m) * bytes ≤ 1000000000 * 10000 := Nat.mul_le_mul hn hby
    refine wpList_append_own_at _ hgd s x t ho base e i z sz bytes ht hi hz0 hz1 hz2 hz3 hsz v n xs hs (hS.row k hk) ad m c cs hx hc hcl h1 (by unfold maxLen; omega) (by omega) hbase ?_
    intro v' w' hown hgrow _ hat
    exact h v' w' (hS.grow k hk hgrow hown (by
      rcases hat with e1 | e1
      · exact .inl e1
      · exact .inr (fun q hq => by rw [e1] at hq; simp only [Option.some.injEq] at hq; omega)))
end Go.Proofs.YtjemdepcaaadiaaDoor
