/-
  WHICH STATES ARE REACHED: the program's Reached; rules' machine is right.
-/
import Derived.Test.YtbpcipobdokcfaaGreatDoorH7
import Derived.Test.YtbpcipobdokcfaaGreatDoorH9
namespace Go.Proofs.YtbpcipobdokcfaaGreatDoor
open Go.RowKit Go.Shelf
attribute [local go_sem] Oper.semAt_some

def natRows (M : D.Mach) : List (List Nat) := M.1.map fun r => r.map Int.toNat
def reachK (M : D.Mach) (k : Nat) : List Nat := D.reach (natRows M) k
def reachM (M : D.Mach) : List Nat := reachK M 300
def reachedL (n : Int) (M : D.Mach) : List Int := if machR n M = true then sortI (zs (reachM M)) else []
def reachedPost (n : Int) (M : D.Mach) (w : World) (e : Ending) (w' : World) : Prop :=
  Below w.heap.size w w' ∧ ∃ v, e = .returned (.tuple #[v, .int .i64 (goCode n M)]) ∧ IntsAt w' v (reachedL n M)
theorem natV_zs (T : List Nat) : T.map natV = (zs T).map (Value.int .i64) := by unfold zs; rw [List.map_map]; rfl
theorem natRows_lt {n : Int} {M : D.Mach} (h : machR n M = true) : ∀ r ∈ natRows M, ∀ x ∈ r, x < M.1.length := by
  intro r hr x hx
  obtain ⟨r0, h0, rfl⟩ := List.mem_map.1 hr
  obtain ⟨y, hy, rfl⟩ := List.mem_map.1 hx
  obtain ⟨a, ha⟩ := List.mem_iff_getElem?.1 h0
  have hlt := (List.getElem?_eq_some_iff.1 ha).1
  obtain ⟨n1, n2, -, -, -⟩ := machR_parts h
  obtain ⟨m, rfl⟩ := Int.eq_ofNat_of_zero_le (show 0 ≤ n by omega)
  obtain ⟨r1, h1, h2, h3, -⟩ := machR_row h hlt
  rw [ha] at h1
  cases h1
  obtain ⟨j, hj⟩ := List.mem_iff_getElem?.1 hy
  have hjl := (List.getElem?_eq_some_iff.1 hj).1
  obtain ⟨z, hz, z0, z1⟩ := h3 j (by omega)
  rw [hj] at hz
  cases hz
  omega
theorem reachK_len {n : Int} {M : D.Mach} (h : machR n M = true) (k : Nat) : (reachK M k).length ≤ M.1.length := D.reach_len _ (by have := (machR_parts h).2.2.1; omega) (natRows_lt h) k
theorem reachK_lt {n : Int} {M : D.Mach} (h : machR n M = true) (k : Nat) : ∀ x ∈ reachK M k, x < M.1.length := D.reach_all _ (by have := (machR_parts h).2.2.1; omega) (natRows_lt h) k
theorem reachK_end {n : Int} {M : D.Mach} (_h : machR n M = true) {k : Nat} (hk : (reachK M k).length ≤ k) (hk3 : k ≤ 300) : reachM M = reachK M k := by
  unfold reachM reachK
  have := D.reach_stop (natRows M) hk (300 - k)
  rwa [show k + (300 - k) = 300 by omega] at this
theorem addOne_in {t : List Nat} {x : Nat} (h : x ∈ t) : D.addOne t x = t := by unfold D.addOne; rw [if_pos h]
theorem addOne_out {t : List Nat} {x : Nat} (h : x ∉ t) : D.addOne t x = t ++ [x] := by unfold D.addOne; rw [if_neg h]
theorem zs_mem {T : List Nat} {x : Nat} : (x : Int) ∈ zs T ↔ x ∈ T := by
  unfold zs
  rw [List.mem_map]
  constructor
  · rintro ⟨y, hy, e⟩
    rwa [show x = y by omega]
  · exact fun h => ⟨x, h, rfl⟩

end Go.Proofs.YtbpcipobdokcfaaGreatDoor
