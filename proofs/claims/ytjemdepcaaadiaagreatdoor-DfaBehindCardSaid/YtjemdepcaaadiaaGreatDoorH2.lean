/-
  Texts of this claim, one behind the other: DfP, DfC, Range, Sep, Held, Held2, NfaD, NfaE.
-/
import Derived.Test.YtjemdepcaaadiaaGreatDoorH1
import Derived.RangeFuncNested
import Derived.RangeFuncBound
import Derived.RangeFuncCalls
import Derived.RangeFuncLeaves
import Derived.OwnWalkIn
import Derived.TacticsInMore
import Derived.LoopNIn
import Derived.LoopIn
import Derived.Deep.RegionHeld3

/- PLAIN. Rules' left sides as one machine: their sets of states side by side, numbered as they are met. Nothing of any program. -/
namespace Go.Proofs.YtjemdepcaaadiaaGreatDoor.D

/-- a left side: with Start or not, its items -/
abbrev Side := Bool × List N.Item
/-- sets of states, one of each rule -/
abbrev Sets := List Nat

def sideAt (rs : List Side) (i : Nat) : Side := rs.getD i (false, [])
/-- the class that stands for the k-th column, of n + 1 -/
def cls (n k : Nat) : Int := if k = n then -1 else k
def stepAt (rs : List Side) (S : Sets) (c : Int) (i : Nat) : Nat := N.step (sideAt rs i).2 (sideAt rs i).1 (S.getD i 0) c
def stepAll (rs : List Side) (S : Sets) (c : Int) : Sets := (List.range rs.length).map (stepAt rs S c)
def firstAt (rs : List Side) (i : Nat) : Nat := N.clo (sideAt rs i).2 0
def firstAll (rs : List Side) : Sets := (List.range rs.length).map (firstAt rs)
def doneAt (rs : List Side) (S : Sets) (i : Nat) : Bool := N.doneB (sideAt rs i).2 (S.getD i 0)
/-- which of the first k rules are done -/
def doneTo (rs : List Side) (S : Sets) : Nat → Nat
  | 0 => 0
  | k + 1 => if doneAt rs S k = true then doneTo rs S k ||| 2 ^ k else doneTo rs S k
/-- the number of some sets among those that were met -/
def place (t : List Sets) (s : Sets) : Nat := t.idxOf s
def add (t : List Sets) (s : Sets) : List Sets := if s ∈ t then t else t ++ [s]
/-- a state's first k columns, and what was met then -/
def row (rs : List Side) (n : Nat) (S : Sets) (t : List Sets) : Nat → List Nat × List Sets
  | 0 => ([], t)
  | k + 1 => ((row rs n S t k).1 ++ [place (row rs n S t k).2 (stepAll rs S (cls n k))], add (row rs n S t k).2 (stepAll rs S (cls n k)))
structure Bld where
  todo : List Sets
  next : List (List Nat)
  fits : List Nat
def Bld.go (rs : List Side) (n : Nat) (b : Bld) : Bld :=
  match b.todo[b.next.length]? with
  | none => b
  | some S => ⟨(row rs n S b.todo (n + 1)).2, b.next ++ [(row rs n S b.todo (n + 1)).1], b.fits ++ [doneTo rs S rs.length]⟩
/-- what was met, and the states, behind k rounds -/
def build (rs : List Side) (n : Nat) : Nat → Bld
  | 0 => ⟨[firstAll rs], [], []⟩
  | k + 1 => (build rs n k).go rs n
def isFew (rs : List Side) (n : Nat) : Bool := decide ((build rs n 300).todo.length ≤ 300)

theorem stepAll_len (rs : List Side) (S : Sets) (c : Int) : (stepAll rs S c).length = rs.length := by simp [stepAll]
theorem firstAll_len (rs : List Side) : (firstAll rs).length = rs.length := by simp [firstAll]
theorem stepAll_get (rs : List Side) (S : Sets) (c : Int) (i : Nat) (h : i < rs.length) : (stepAll rs S c)[i]? = some (stepAt rs S c i) := by
  unfold stepAll; rw [List.getElem?_map, List.getElem?_range h]; rfl
theorem sideAt_get {rs : List Side} {i : Nat} {r : Side} (h : rs[i]? = some r) : sideAt rs i = r := by unfold sideAt; rw [List.getD, h]; rfl
theorem doneTo_lt (rs : List Side) (S : Sets) : ∀ k, doneTo rs S k < 2 ^ k
  | 0 => by unfold doneTo; decide
  | k + 1 => by
    have ih := doneTo_lt rs S k
    have h2 : 2 ^ k < 2 ^ (k + 1) := Nat.pow_lt_pow_right (by omega) (by omega)
    unfold doneTo
    split
    · exact Nat.or_lt_two_pow (by omega) h2
    · omega
theorem doneTo_add (rs : List Side) (S : Sets) (k : Nat) : doneTo rs S k + 2 ^ k = doneTo rs S k ||| 2 ^ k := by
  have := Nat.two_pow_add_eq_or_of_lt (doneTo_lt rs S k) 1
  rw [Nat.mul_one] at this
  rw [Nat.add_comm, this, Nat.or_comm]
theorem doneTo_bit (rs : List Side) (S : Sets) (i : Nat) : ∀ k, (doneTo rs S k).testBit i = (decide (i < k) && doneAt rs S i)
  | 0 => by simp [doneTo]
  | k + 1 => by
    have ih := doneTo_bit rs S i k
    unfold doneTo
    by_cases e : i = k
    · subst e
      split
      · rename_i h; rw [Nat.testBit_or, Nat.testBit_two_pow_self, h]; simp
      · rename_i h; rw [ih]; simp at h ⊢; exact h
    · have hd : decide (i < k + 1) = decide (i < k) := by simp; omega
      rw [hd]
      split
      · have hk : decide (k = i) = false := decide_eq_false (by omega)
        rw [Nat.testBit_or, ih, Nat.testBit_two_pow, hk, Bool.or_false]
      · exact ih

/- WHAT WAS MET. -/
theorem place_lt {t : List Sets} {s : Sets} (h : s ∈ t) : place t s < t.length := List.idxOf_lt_length_of_mem h
theorem place_get {t : List Sets} {s : Sets} (h : s ∈ t) : t[place t s]? = some s := by
  have := place_lt h
  unfold place at this ⊢
  rw [List.getElem?_eq_getElem this, List.getElem_idxOf]
theorem place_new {t : List Sets} {s : Sets} (h : s ∉ t) : place t s = t.length := List.idxOf_eq_length h
theorem place_le (t : List Sets) (s : Sets) : place t s ≤ t.length := by
  by_cases h : s ∈ t
  · exact Nat.le_of_lt (place_lt h)
  · rw [place_new h]; exact Nat.le_refl _
theorem place_add (t : List Sets) (s : Sets) : place t s < (add t s).length ∧ (add t s)[place t s]? = some s := by
  unfold add
  by_cases h : s ∈ t
  · rw [if_pos h]; exact ⟨place_lt h, place_get h⟩
  · rw [if_neg h, place_new h]; simp
theorem add_mem (t : List Sets) (s : Sets) : s ∈ add t s := List.mem_of_getElem? (place_add t s).2
theorem add_pre (t : List Sets) (s : Sets) : t <+: add t s := by
  unfold add; split
  · exact List.prefix_refl _
  · exact List.prefix_append _ _
theorem add_le (t : List Sets) (s : Sets) : t.length ≤ (add t s).length := (add_pre t s).length_le
theorem add_nodup {t : List Sets} {s : Sets} (h : t.Nodup) : (add t s).Nodup := by
  unfold add; split
  · exact h
  · rename_i hs
    rw [List.nodup_append]
    exact ⟨h, by simp, fun a ha b hb e => by rw [List.mem_singleton] at hb; subst hb; subst e; exact hs ha⟩
theorem add_all {p : Sets → Prop} {t : List Sets} {s : Sets} (h : ∀ x ∈ t, p x) (hs : p s) : ∀ x ∈ add t s, p x := by
  unfold add; split
  · exact h
  · intro x hx
    rcases List.mem_append.1 hx with hx | hx
    · exact h x hx
    · rw [List.mem_singleton] at hx; subst hx; exact hs
theorem pre_get {α : Type} {a b : List α} (h : a <+: b) {i : Nat} {x : α} (hx : a[i]? = some x) : b[i]? = some x := by
  obtain ⟨c, rfl⟩ := h
  rw [List.getElem?_append_left (List.getElem?_eq_some_iff.1 hx).1]; exact hx

section
variable (rs : List Side) (n : Nat) (S : Sets) (t : List Sets)
theorem row_succ (k : Nat) : row rs n S t (k + 1) = ((row rs n S t k).1 ++ [place (row rs n S t k).2 (stepAll rs S (cls n k))], add (row rs n S t k).2 (stepAll rs S (cls n k))) := rfl
theorem row_len : ∀ k, (row rs n S t k).1.length = k
  | 0 => rfl
  | k + 1 => by rw [row_succ, List.length_append, row_len k]; rfl
theorem row_pre : ∀ k, t <+: (row rs n S t k).2
  | 0 => List.prefix_refl _
  | k + 1 => (row_pre k).trans (by rw [row_succ]; exact add_pre _ _)
theorem row_mono (j : Nat) : ∀ k, (row rs n S t j).2 <+: (row rs n S t (j + k)).2
  | 0 => List.prefix_refl _
  | k + 1 => (row_mono j k).trans (by rw [← Nat.add_assoc, row_succ]; exact add_pre _ _)
theorem row_le {j k : Nat} (h : j ≤ k) : (row rs n S t j).2.length ≤ (row rs n S t k).2.length := by
  obtain ⟨d, rfl⟩ := Nat.exists_eq_add_of_le h
  exact (row_mono rs n S t j d).length_le
theorem row_all {p : Sets → Prop} (ht : ∀ x ∈ t, p x) (hs : ∀ c, p (stepAll rs S c)) : ∀ k, ∀ x ∈ (row rs n S t k).2, p x
  | 0 => ht
  | k + 1 => by rw [row_succ]; exact add_all (row_all ht hs k) (hs _)
theorem row_nodup (ht : t.Nodup) : ∀ k, (row rs n S t k).2.Nodup
  | 0 => ht
  | k + 1 => by rw [row_succ]; exact add_nodup (row_nodup ht k)
/-- a column leads to what its class makes of the sets -/
theorem row_get {j : Nat} : ∀ k, j < k → ∃ m, (row rs n S t k).1[j]? = some m ∧ (row rs n S t k).2[m]? = some (stepAll rs S (cls n j))
  | 0, h => by omega
  | k + 1, h => by
    rw [row_succ]
    by_cases e : j = k
    · subst e
      refine ⟨_, ?_, (place_add _ _).2⟩
      rw [List.getElem?_append_right (by rw [row_len]; exact Nat.le_refl _), row_len]
      simp
    · have hjk : j < k := by omega
      obtain ⟨m, h1, h2⟩ := row_get k hjk
      refine ⟨m, ?_, pre_get (add_pre _ _) h2⟩
      rw [List.getElem?_append_left (by rw [row_len]; omega)]
      exact h1
end

section
variable (rs : List Side) (n : Nat)
theorem go_none {b : Bld} (h : b.todo.length ≤ b.next.length) : b.go rs n = b := by
  unfold Bld.go
  rw [List.getElem?_eq_none h]
theorem go_some {b : Bld} {S : Sets} (h : b.todo[b.next.length]? = some S) : b.go rs n = ⟨(row rs n S b.todo (n + 1)).2, b.next ++ [(row rs n S b.todo (n + 1)).1], b.fits ++ [doneTo rs S rs.length]⟩ := by
  unfold Bld.go
  rw [h]
theorem go_pre (b : Bld) : b.todo <+: (b.go rs n).todo := by
  unfold Bld.go
  split
  · exact List.prefix_refl _
  · exact row_pre _ _ _ _ _
theorem build_le (j : Nat) : ∀ k, (build rs n j).todo.length ≤ (build rs n (j + k)).todo.length
  | 0 => Nat.le_refl _
  | k + 1 => Nat.le_trans (build_le j k) (by rw [← Nat.add_assoc]; exact (go_pre rs n _).length_le)
theorem build_mono {j k : Nat} (h : j ≤ k) : (build rs n j).todo.length ≤ (build rs n k).todo.length := by
  obtain ⟨d, rfl⟩ := Nat.exists_eq_add_of_le h
  exact build_le rs n j d
theorem build_one : ∀ k, 1 ≤ (build rs n k).todo.length
  | 0 => by simp [build]
  | k + 1 => Nat.le_trans (build_one k) (go_pre rs n _).length_le
/-- as long as there is something to do, a round is a state more -/
theorem build_len : ∀ k, (build rs n k).next.length = (build rs n k).fits.length ∧ (build rs n k).next.length ≤ (build rs n k).todo.length ∧ ((build rs n k).next.length = k ∨ ((build rs n k).next.length < k ∧ (build rs n k).next.length = (build rs n k).todo.length))
  | 0 => ⟨rfl, Nat.zero_le _, .inl rfl⟩
  | k + 1 => by
    obtain ⟨h1, h2, h3⟩ := build_len k
    show _ = _ ∧ _ ∧ _
    rcases Nat.lt_or_ge (build rs n k).next.length (build rs n k).todo.length with h | h
    · obtain ⟨S, hS⟩ : ∃ S, (build rs n k).todo[(build rs n k).next.length]? = some S := ⟨_, List.getElem?_eq_getElem h⟩
      have e : build rs n (k + 1) = _ := go_some rs n hS
      rw [e]
      simp only [List.length_append, List.length_cons, List.length_nil]
      have hp := (row_pre rs n S (build rs n k).todo (n + 1)).length_le
      refine ⟨by omega, by omega, .inl ?_⟩
      rcases h3 with h3 | h3
      · omega
      · omega
    · have e : build rs n (k + 1) = _ := go_none rs n h
      rw [e]
      exact ⟨h1, h2, .inr ⟨by rcases h3 with h3 | h3 <;> omega, by omega⟩⟩
theorem build_stop {k : Nat} (h : (build rs n k).todo.length ≤ (build rs n k).next.length) : ∀ m, build rs n (k + m) = build rs n k
  | 0 => rfl
  | m + 1 => by
    have ih := build_stop h m
    show (build rs n (k + m)).go rs n = _
    rw [ih]
    exact go_none rs n h
/-- there is nothing to do any more: these are all states -/
theorem build_end {k : Nat} (hk : k ≤ 300) (h : (build rs n k).todo.length ≤ (build rs n k).next.length) : build rs n 300 = build rs n k := by
  obtain ⟨d, hd⟩ := Nat.exists_eq_add_of_le hk
  rw [hd]
  exact build_stop rs n h d
theorem few_end {k : Nat} (hk : k ≤ 300) (h : (build rs n k).todo.length ≤ (build rs n k).next.length) (hl : (build rs n k).todo.length ≤ 300) : isFew rs n = true := by
  unfold isFew
  rw [build_end rs n hk h]
  exact decide_eq_true hl
theorem few_no {k : Nat} (hk : k ≤ 300) (h : 300 < (build rs n k).todo.length) : isFew rs n = false := by
  unfold isFew
  have := build_mono rs n hk
  exact decide_eq_false (by omega)
theorem build_all {p : Sets → Prop} (h0 : p (firstAll rs)) (hs : ∀ S c, p S → p (stepAll rs S c)) : ∀ k, ∀ x ∈ (build rs n k).todo, p x
  | 0 => by intro x hx; simp only [build, List.mem_singleton] at hx; subst hx; exact h0
  | k + 1 => by
    have ih := build_all h0 hs k
    show ∀ x ∈ ((build rs n k).go rs n).todo, p x
    unfold Bld.go
    split
    · exact ih
    · rename_i S hS
      exact row_all rs n S _ ih (fun c => hs S c (ih S (List.mem_of_getElem? hS))) _
theorem build_nodup : ∀ k, (build rs n k).todo.Nodup
  | 0 => by show [firstAll rs].Nodup; simp
  | k + 1 => by
    show ((build rs n k).go rs n).todo.Nodup
    unfold Bld.go
    split
    · exact build_nodup k
    · exact row_nodup rs n _ _ (build_nodup k) _
end

/-- sets of states that there are -/
def Good (rs : List Side) (S : Sets) : Prop := S.length = rs.length ∧ ∀ i, i < rs.length → S.getD i 0 < 2 ^ (2 * (sideAt rs i).2.length + 1)
theorem good_map (rs : List Side) (f : Nat → Nat) (h : ∀ i, i < rs.length → f i < 2 ^ (2 * (sideAt rs i).2.length + 1)) : Good rs ((List.range rs.length).map f) := by
  refine ⟨by simp, fun i hi => ?_⟩
  rw [List.getD, List.getElem?_map, List.getElem?_range hi]
  exact h i hi
theorem good_step (rs : List Side) (S : Sets) (c : Int) : Good rs (stepAll rs S c) := good_map rs _ fun _ _ => N.step_lt _ _ _ _
theorem good_first (rs : List Side) : Good rs (firstAll rs) := good_map rs _ fun _ _ => N.clo_lt _ 0 (by omega)
theorem good_build (rs : List Side) (n k : Nat) : ∀ x ∈ (build rs n k).todo, Good rs x := build_all rs n (good_first rs) (fun S c _ => good_step rs S c) k
end Go.Proofs.YtjemdepcaaadiaaGreatDoor.D

/- RULES AS VALUES; which are right: the program's answer. -/
namespace Go.Proofs.YtjemdepcaaadiaaGreatDoor
open Go.RowKit

/-- a rule: its left side, its right side, what it says -/
abbrev D.Rule := D.Side × D.Side × Bool
def ruleV (x : D.Rule) (vl vr : Value) : Value := .agg #[.bool x.1.1, vl, .bool x.2.1.1, vr, .bool x.2.2]
/-- a rule that lies in memory -/
def RuleAt (w : World) (b o : Nat) (x : D.Rule) : Prop := ∃ vl vr, w.cell? ⟨b, o, none⟩ = some (.bool x.1.1) ∧ w.cell? ⟨b, o + 1, none⟩ = some vl ∧ w.cell? ⟨b, o + 2, none⟩ = some (.bool x.2.1.1) ∧ w.cell? ⟨b, o + 3, none⟩ = some vr ∧ w.cell? ⟨b, o + 4, none⟩ = some (.bool x.2.2) ∧ ItemsAt w vl x.1.2 ∧ ItemsAt w vr x.2.1.2
theorem RuleAt.below {w w' : World} {b o : Nat} {x : D.Rule} (h : RuleAt w b o x) (hlt : b < w.heap.size) (hb : Below w.heap.size w w') : RuleAt w' b o x := by
  obtain ⟨vl, vr, h0, h1, h2, h3, h4, hl, hr⟩ := h
  have key := fun j => hb.cell (p := ⟨b, j, none⟩) hlt
  exact ⟨vl, vr, (key o).trans h0, (key (o + 1)).trans h1, (key (o + 2)).trans h2, (key (o + 3)).trans h3, (key (o + 4)).trans h4, hl.below hb, hr.below hb⟩
/-- a value that reads as these rules -/
def RulesAt (w : World) (v : Value) (l : List D.Rule) : Prop :=
  (v = .slice none 0 0 ∧ l = []) ∨ ∃ b off sp cap, v = .slice (some ⟨b, off, sp⟩) l.length cap ∧ l.length ≤ cap ∧ cap ≤ maxLen ∧ (l ≠ [] → sp = none ∧ b < w.heap.size ∧ ∀ i x, l[i]? = some x → RuleAt w b (off + i * 5) x)
theorem RulesAt.below {w w' : World} {v : Value} {l : List D.Rule} (h : RulesAt w v l) (hb : Below w.heap.size w w') : RulesAt w' v l := by
  rcases h with h | ⟨b, off, sp, cap, h1, h2, h3, h4⟩
  · exact .inl h
  · exact .inr ⟨b, off, sp, cap, h1, h2, h3, fun hn => ⟨(h4 hn).1, Nat.lt_of_lt_of_le (h4 hn).2.1 hb.size, fun i x hx => ((h4 hn).2.2 i x hx).below (h4 hn).2.1 hb⟩⟩
theorem RulesAt.get {w : World} {v : Value} {l : List D.Rule} (h : RulesAt w v l) (hn : l ≠ []) :
    ∃ b off cap, v = .slice (some ⟨b, off, none⟩) l.length cap ∧ l.length ≤ cap ∧ cap ≤ maxLen ∧ b < w.heap.size ∧ ∀ i x, l[i]? = some x → RuleAt w b (off + i * 5) x := by
  rcases h with ⟨_, h⟩ | ⟨b, off, sp, cap, h1, h2, h3, h4⟩
  · exact absurd h hn
  · obtain ⟨rfl, h5, h6⟩ := h4 hn
    exact ⟨b, off, cap, h1, h2, h3, h5, h6⟩
theorem RulesAt.slice {w : World} {v : Value} {l : List D.Rule} (h : RulesAt w v l) : ∃ a cap, v = .slice a l.length cap := by
  rcases h with ⟨rfl, rfl⟩ | ⟨b, off, sp, cap, rfl, _⟩
  · exact ⟨_, _, rfl⟩
  · exact ⟨_, _, rfl⟩
theorem RulesAt.cap_le {w : World} {ao : Option Addr} {cap n : Nat} {l : List D.Rule} (h : RulesAt w (.slice ao n cap) l) : l.length ≤ cap ∧ cap ≤ 9223372036854775807 := by
  rcases h with ⟨h1, rfl⟩ | ⟨b, off, sp, cap, h1, h2, h3, h4⟩
  · injection h1 with h1 h2 h3; subst h3; simp
  · injection h1 with h1 h2' h3'; subst h3'; unfold maxLen at h3; omega
theorem RulesAt.take {w : World} {ao : Option Addr} {cap cap' : Nat} {l : List D.Rule} (h : RulesAt w (.slice ao l.length cap) l) (n : Nat) (hc : (l.take n).length ≤ cap') (hc' : cap' ≤ cap) : RulesAt w (.slice ao (l.take n).length cap') (l.take n) := by
  rcases h with ⟨h1, rfl⟩ | ⟨b, off, sp, cap, h1, h2, h3, h4⟩
  · injection h1 with h1 h2 h3
    subst h1 h3
    obtain rfl : cap' = 0 := by omega
    simp [RulesAt]
  · injection h1 with h1 h2' h3'
    subst h1 h3'
    refine .inr ⟨b, off, sp, _, rfl, hc, Nat.le_trans hc' h3, fun hn => ?_⟩
    have hn' : l ≠ [] := by rintro rfl; simp at hn
    refine ⟨(h4 hn').1, (h4 hn').2.1, fun i x hx => (h4 hn').2.2 i x ?_⟩
    rw [List.getElem?_take] at hx
    split at hx
    · exact hx
    · cases hx

/-- sizes that a machine may hold -/
def ruleFit (x : D.Rule) : Prop := x.1.2.length ≤ 16777216 ∧ x.2.1.2.length ≤ 16777216
def ruleB (n : Int) (x : D.Rule) : Bool := rightN n x.1.2 && rightN n x.2.1.2 && !x.2.1.1
def rulesB (n : Int) (l : List D.Rule) : Bool := decide (1 ≤ n) && decide (n ≤ 32) && decide (l.length ≤ 40) && l.all (ruleB n)
theorem ruleB_left {n : Int} {x : D.Rule} (h : ruleB n x = true) : rightN n x.1.2 = true := by unfold ruleB at h; simp only [Bool.and_eq_true] at h; exact h.1.1
theorem ruleB_right {n : Int} {x : D.Rule} (h : ruleB n x = true) : rightN n x.2.1.2 = true := by unfold ruleB at h; simp only [Bool.and_eq_true] at h; exact h.1.2

set_option maxHeartbeats 1000000 in
theorem rother_any (x : D.Rule) (vl vr : Value) (n : Int) (bn : Nat) (w : World) (hf : ruleFit x) (hl : ItemsAt w vl x.1.2) (hr : ItemsAt w vr x.2.1.2) (hn : w.cell? ⟨bn, 0, none⟩ = some (.int .i64 n)) (hlt : bn < w.heap.size) :
    Calls Tryz.prog 54 #[ruleV x vl vr, .pointer (some ⟨bn, 0, none⟩)] w fun e w' => e = .returned (.bool (!ruleB n x)) ∧ Below w.heap.size w w' := by
  obtain ⟨⟨stl, il⟩, ⟨str, ir⟩, br⟩ := x
  unfold ruleV ruleB
  obtain ⟨hz1, hz2⟩ := hf
  have hb0 : Below w.heap.size w (w.alloc (.cells #[.bool stl, vl, .bool str, vr, .bool br] 51)) := (Below.refl _ _).alloc (Nat.le_refl _) _
  have HB0 := Box.mk hb0
  have HP1 := Box.mk (prightn_any stl vl il n _ (hl.below hb0) hz1)
  have HP2 := Box.mk (fun w' (hb : Below w.heap.size w w') => prightn_any str vr ir n w' (hr.below hb) hz2)
  have HN := Box.mk (fun w' (hb : Below w.heap.size w w') => (hb.cell (p := ⟨bn, 0, none⟩) hlt).trans hn)
  have HBK := Box.mk (Blk.new w 51 #[.bool stl, vl, .bool str, vr, .bool br])
  have hn0 := HN.out _ hb0
  clear hl hr hn hb0
  have hlt1 : bn < w.heap.size + 1 := by omega
  cases h1 : rightN n il with
  | false =>
    have H1 := Box.mk h1
    clear h1
    go_enter Tryz.func54, Tryz.ntmps54
    go_wp2_with fail
    refine HP1.out.mono ?_; rintro e w1 ⟨rfl, hb1⟩; rw [H1.out]
    have HB1 := Box.mk (HB0.out.trans (hb1.mono HB0.out.size))
    clear hb1 hn0
    go_wp2_with fail
    go_ret
    exact ⟨rfl, HB1.out⟩
  | true =>
    have H1 := Box.mk h1
    clear h1
    go_enter Tryz.func54, Tryz.ntmps54
    go_wp2_with fail
    refine HP1.out.mono ?_; rintro e w1 ⟨rfl, hb1⟩; rw [H1.out]
    have HB1 := Box.mk (HB0.out.trans (hb1.mono HB0.out.size))
    have HBK1 := HBK.out.below hb1 HBK.out.lt
    have c2 : w1.cell? ⟨w.heap.size, 2, none⟩ = some (.bool str) := (HBK1.cell 2).trans rfl
    have c3 : w1.cell? ⟨w.heap.size, 3, none⟩ = some vr := (HBK1.cell 3).trans rfl
    have hn1 := HN.out _ HB1.out
    have l1 := HBK1.lt
    have hs1 := HB1.out.size
    have hb1s : bn < w1.heap.size := by omega
    clear hb1 hn0 HBK1
    cases h2 : rightN n ir with
    | false =>
      have H2 := Box.mk h2
      clear h2
      go_wp2_with fail
      refine (HP2.out _ HB1.out).mono ?_; rintro e w2 ⟨rfl, hb2⟩; rw [H2.out]
      have HB2 := Box.mk (HB1.out.trans (hb2.mono HB1.out.size))
      clear hb2 hn1 c2 c3
      go_wp2_with fail
      go_ret
      exact ⟨ret_bool (by simp [H2.out]), HB2.out⟩
    | true =>
      have H2 := Box.mk h2
      clear h2
      go_wp2_with fail
      refine (HP2.out _ HB1.out).mono ?_; rintro e w2 ⟨rfl, hb2⟩; rw [H2.out]
      have HB2 := Box.mk (HB1.out.trans (hb2.mono HB1.out.size))
      have c2' : w2.cell? ⟨w.heap.size, 2, none⟩ = some (.bool str) := (hb2.cell (p := ⟨w.heap.size, 2, none⟩) l1).trans c2
      have l2 : w.heap.size < w2.heap.size := Nat.lt_of_lt_of_le l1 hb2.size
      clear hb2 hn1 c2 c3
      go_wp2_with fail
      go_ret
      exact ⟨ret_bool (by simp [H2.out]), HB2.out⟩

theorem allr_take (n : Int) (l : List D.Rule) (k : Nat) (x : D.Rule) (h : l[k]? = some x) (ha : (l.take k).all (ruleB n) = true) (hx : ruleB n x = true) : (l.take (k + 1)).all (ruleB n) = true := by
  rw [List.take_add_one, h, List.all_append, ha]; simp [hx]
theorem allr_no (n : Int) (l : List D.Rule) (k : Nat) (x : D.Rule) (h : l[k]? = some x) (hx : ruleB n x = false) : l.all (ruleB n) = false := by
  rw [Bool.eq_false_iff]
  intro ha
  rw [List.all_eq_true] at ha
  rw [ha x (List.mem_of_getElem? h)] at hx
  cases hx

set_option maxHeartbeats 2000000 in
theorem rindex_any (v : Value) (l : List D.Rule) (n : Int) (bn : Nat) (w : World) (hf : ∀ x ∈ l, ruleFit x) (hv : RulesAt w v l) (hz : l.length ≤ 16777216) (hn : w.cell? ⟨bn, 0, none⟩ = some (.int .i64 n)) (hlt : bn < w.heap.size) :
    Calls Tryz.prog 84 #[v, .func (.func 54) #[] #[.pointer (some ⟨bn, 0, none⟩)]] w fun e w' => (∃ i : Int, e = .returned (.int .i64 i) ∧ decide (0 ≤ i) = !l.all (ruleB n)) ∧ Below w.heap.size w w' := by
  have HVB := Box.mk hv
  have HF := Box.mk hf
  obtain ⟨ao, cap, rfl⟩ := hv.slice
  clear hv hf
  have HN := Box.mk hn
  clear hn
  go_enter Tryz.func84, Tryz.ntmps84
  go_wp2
  go_loopw [8] (fun i wr => ∃ k : Nat, k ≤ l.length ∧ i = .int .i64 k ∧ Box ((l.take k).all (ruleB n) = true) ∧ Box (Below w.heap.size w wr)) (fun i _ => l.length - (intOf i).toNat)
  case atStart => exact ⟨0, by omega, rfl, ⟨rfl⟩, ⟨Below.refl _ _⟩⟩
  case round =>
    obtain ⟨k, hk, rfl, ha, hb⟩ := hrel
    by_cases hlt' : k < l.length
    · obtain ⟨x, hx⟩ : ∃ x, l[k]? = some x := ⟨_, List.getElem?_eq_getElem hlt'⟩
      have HX := Box.mk hx
      have HFX := Box.mk (HF.out x (List.mem_of_getElem? hx))
      obtain ⟨g, off, cap2, hg1, hg2, hg3, hg4, hg5⟩ := (HVB.out.below hb.out).get (by rintro rfl; simp at hlt')
      obtain ⟨rfl, rfl⟩ : ao = some ⟨g, off, none⟩ ∧ cap = cap2 := by injection hg1 with h1 h2 h3; exact ⟨h1, h3⟩
      obtain ⟨vl, vr, hc0, hc1, hc2, hc3, hc4, hil, hir⟩ := hg5 k x hx
      have HIL := Box.mk hil
      have HIR := Box.mk hir
      unfold maxLen at hg3
      have HN2 := Box.mk (show wr.cell? ⟨bn, 0, none⟩ = some (.int .i64 n) from (hb.out.cell (p := ⟨bn, 0, none⟩) hlt).trans HN.out)
      have HL2 := Box.mk (show bn < wr.heap.size from Nat.lt_of_lt_of_le hlt hb.out.size)
      have HC := Box.mk (rother_any x vl vr n bn wr HFX.out HIL.out HIR.out HN2.out HL2.out)
      clear hx hg1 hg5 hil hir
      unfold ruleV at HC
      cases hi : ruleB n x with
      | true =>
        have HT := Box.mk (allr_take n l k x HX.out ha.out hi)
        have HI := Box.mk (show (!ruleB n x) = false by rw [hi]; rfl)
        clear hi
        go_wp2_with fail
        refine HC.out.mono ?_; rintro e w1 ⟨rfl, hb1⟩; rw [HI.out]
        have HB1 := Box.mk (show Below w.heap.size w w1 from hb.out.trans (hb1.mono hb.out.size))
        clear hb1
        go_wp2_with fail
        go_roundw
        case rel => exact ⟨k + 1, hlt', by go_num, HT, HB1⟩
        case measure => simp [intOf]; omega
      | false =>
        have HT := Box.mk (allr_no n l k x HX.out hi)
        have HI := Box.mk (show (!ruleB n x) = true by rw [hi]; rfl)
        clear hi
        go_wp2_with fail
        refine HC.out.mono ?_; rintro e w1 ⟨rfl, hb1⟩; rw [HI.out]
        go_wp2_with fail
        go_ret
        exact ⟨⟨k, rfl, by rw [HT.out]; simp⟩, hb.out.trans (hb1.mono hb.out.size)⟩
    · have HT := Box.mk (show l.all (ruleB n) = true by have := ha.out; rwa [List.take_of_length_le (by omega)] at this)
      go_wp2_with fail
      go_ret
      exact ⟨⟨-1, rfl, by rw [HT.out]; rfl⟩, hb.out⟩
theorem rcontains_any (v : Value) (l : List D.Rule) (n : Int) (bn : Nat) (w : World) (hf : ∀ x ∈ l, ruleFit x) (hv : RulesAt w v l) (hz : l.length ≤ 16777216) (hn : w.cell? ⟨bn, 0, none⟩ = some (.int .i64 n)) (hlt : bn < w.heap.size) :
    Calls Tryz.prog 55 #[v, .func (.func 54) #[] #[.pointer (some ⟨bn, 0, none⟩)]] w fun e w' => e = .returned (.bool (!l.all (ruleB n))) ∧ Below w.heap.size w w' := by
  have HI := Box.mk (rindex_any v l n bn w hf hv hz hn hlt)
  clear hf hv hn
  go_enter Tryz.func55, Tryz.ntmps55
  go_wp2_with fail
  refine HI.out.mono ?_; rintro e w1 ⟨⟨i, rfl, hi⟩, hb⟩
  have HX := Box.mk hi
  clear hi
  go_wp2_with fail
  go_ret
  exact ⟨ret_bool (by simpa using HX.out), hb⟩

set_option maxHeartbeats 1000000 in
theorem areRight_any (v : Value) (l : List D.Rule) (n : Int) (w : World) (hf : ∀ x ∈ l, ruleFit x) (hv : RulesAt w v l) (hz : l.length ≤ 16777216) :
    Calls Tryz.prog 37 #[.int .i64 n, v] w fun e w' => e = .returned (.bool (rulesB n l)) ∧ Below w.heap.size w w' := by
  unfold rulesB
  have hw : Below w.heap.size w (w.alloc (.cells #[.int .i64 n] 3)) := (Below.refl _ _).alloc (Nat.le_refl _) _
  have HW := Box.mk hw
  have HC := Box.mk (fun hc => rcontains_any v l n w.heap.size _ hf (hv.below hw) hz hc (by simp))
  have HN := Box.mk ((Blk.new w 3 #[.int .i64 n]).cell 0)
  obtain ⟨ao, cap, rfl⟩ := hv.slice
  clear hv hw hf
  by_cases hn : 1 ≤ n ∧ n ≤ 32
  · obtain ⟨hn1, hn2⟩ := hn
    by_cases hl : l.length ≤ 40
    · go_enter Tryz.func37, Tryz.ntmps37
      go_wp2_with fail
      refine (HC.out (HN.out.trans rfl)).mono ?_; rintro e w1 ⟨rfl, hb⟩
      have HB := Box.mk hb
      clear hb
      go_wp2_with fail
      go_ret
      exact ⟨ret_bool (by simp [hl, hn1, hn2]), HW.out.trans (HB.out.mono HW.out.size)⟩
    · have hl' : 40 < l.length := by omega
      go_enter Tryz.func37, Tryz.ntmps37
      go_wp2_with fail
      go_ret
      exact ⟨ret_bool (by simp <;> omega), HW.out⟩
  · have hn' : n < 1 ∨ (1 ≤ n ∧ 32 < n) := by omega
    rcases hn' with h | ⟨h, h'⟩
    all_goals
      go_enter Tryz.func37, Tryz.ntmps37
      go_wp2_with fail
      go_ret
      exact ⟨ret_bool (by simp <;> omega), HW.out⟩

theorem rulesRight_any (v : Value) (l : List D.Rule) (n : Int) (w : World) (hf : ∀ x ∈ l, ruleFit x) (hv : RulesAt w v l) (hz : l.length ≤ 16777216) :
    Calls Tryz.prog 22 #[v, .int .i64 n] w fun e w' => e = .returned (.bool (rulesB n l)) ∧ Below w.heap.size w w' := by
  have HA := Box.mk (areRight_any v l n w hf hv hz)
  clear hv hf
  go_enter Tryz.func22, Tryz.ntmps22
  go_wp2_with fail
  refine HA.out.mono ?_; rintro e w1 ⟨rfl, hb⟩
  go_wp2_with fail
  go_ret
  exact ⟨rfl, hb⟩
end Go.Proofs.YtjemdepcaaadiaaGreatDoor

/- A RANGE OVER A FUNCTION: one law for the caller, one form of contract for the iterator. The iterator may keep a state of its own in blocks of its own ('own'); the caller's invariant abides what it does there; the rounds leave those blocks alone. -/
namespace Go.Proofs.YtjemdepcaaadiaaGreatDoor
open Go.RowKit

/-- new blocks, and writes to the blocks of one kind -/
structure Turns (own : Nat → Prop) (W W' : World) : Prop where
  os : W'.os = W.os
  tape : W'.tape = W.tape
  output : W'.output = W.output
  size : W.heap.size ≤ W'.heap.size
  block : ∀ k, k < W.heap.size → ¬ own k → W'.heap[k]? = W.heap[k]?
/-- the blocks of one kind lie as they lay -/
structure Holds (own : Nat → Prop) (W W' : World) : Prop where
  size : W.heap.size ≤ W'.heap.size
  block : ∀ k, own k → W'.heap[k]? = W.heap[k]?
section
variable {own own' : Nat → Prop} {A B C : World}
theorem Turns.refl (own : Nat → Prop) (A : World) : Turns own A A := ⟨rfl, rfl, rfl, Nat.le_refl _, fun _ _ _ => rfl⟩
theorem Turns.trans (h : Turns own A B) (k : Turns own B C) : Turns own A C :=
  ⟨k.os.trans h.os, k.tape.trans h.tape, k.output.trans h.output, Nat.le_trans h.size k.size, fun i hi ho => (k.block i (Nat.lt_of_lt_of_le hi h.size) ho).trans (h.block i hi ho)⟩
theorem Turns.mono (h : Turns own A B) (hm : ∀ k, own k → own' k) : Turns own' A B := ⟨h.os, h.tape, h.output, h.size, fun i hi ho => h.block i hi (fun k => ho (hm i k))⟩
theorem Turns.of_below (h : Below A.heap.size A B) : Turns own A B := ⟨h.os, h.tape, h.output, h.size, fun i hi _ => h.block i hi⟩
theorem Turns.of_only {b : Nat} (h : A.grownBy B (some b)) (hb : own b) : Turns own A B :=
  ⟨h.os, h.tape, h.output, h.size, fun i hi ho => h.block i hi (fun e => ho (by cases e; exact hb))⟩
theorem Turns.drew (A : World) : Turns own A A.drew := ⟨rfl, rfl, rfl, Nat.le_refl _, fun _ _ _ => rfl⟩
theorem Turns.alloc (A : World) (o : Obj) : Turns own A (A.alloc o) := .of_below ((Below.refl _ _).alloc (Nat.le_refl _) o)
theorem Turns.setCell (A : World) {p : Addr} (hp : own p.block) (u : Value) : Turns own A (A.setCell p u) :=
  ⟨rfl, rfl, rfl, by simp [World.setCell], fun k _ ho => Below.heap_setCell _ _ _ _ (fun e => ho (by rw [e]; exact hp))⟩
theorem Turns.putObj (A : World) {l : Nat} (hl : own l) (o : Obj) : Turns own A (A.putObj l o) :=
  ⟨rfl, rfl, rfl, by simp, fun k _ ho => World.putObj_heap_other (fun e => ho (by rw [e]; exact hl))⟩
theorem Turns.below (h : Turns own A B) {n : Nat} (hn : n ≤ A.heap.size) (ho : ∀ k, own k → n ≤ k) : Below n A B :=
  ⟨h.os, h.tape, h.output, h.size, fun k hk => h.block k (by omega) (fun e => by have := ho k e; omega)⟩
theorem Turns.blk (h : Turns own A B) {g : Nat} {t : TypeId} {cs : Array Value} (hb : Blk A g t cs) (hg : ¬ own g) : Blk B g t cs := (h.block g hb.lt hg).trans hb
theorem Turns.cell (h : Turns own A B) {p : Addr} {v : Value} (hp : A.cell? p = some v) (hg : ¬ own p.block) : B.cell? p = some v :=
  (World.cell?_of_block (h.block p.block (World.block_lt_of_cell? A p hp) hg)).trans hp
theorem Turns.row (h : Turns own A B) {base : Nat} {e : TypeId} {size : Nat} {v : Value} {n : Nat} {xs : List Value} (hr : A.ownsRow base e size v n xs) (hg : ∀ k, v.ownBlock = some k → ¬ own k) : B.ownsRow base e size v n xs := by
  refine ⟨hr.1, ?_⟩
  rcases hr.2 with hn | ⟨g, cap, cur, rfl, hb, hgg, rest⟩
  · exact .inl hn
  · exact .inr ⟨g, cap, cur, rfl, hb, (h.block g (Array.getElem?_eq_some_iff.1 hgg).1 (hg g rfl)).trans hgg, rest⟩
theorem Holds.refl (own : Nat → Prop) (A : World) : Holds own A A := ⟨Nat.le_refl _, fun _ _ => rfl⟩
theorem Holds.trans (h : Holds own A B) (k : Holds own B C) : Holds own A C := ⟨Nat.le_trans h.size k.size, fun i hi => (k.block i hi).trans (h.block i hi)⟩
theorem Holds.mono (h : Holds own A B) (hm : ∀ k, own' k → own k) : Holds own' A B := ⟨h.size, fun i hi => h.block i (hm i hi)⟩
theorem Holds.of_turns (h : Turns own' A B) (hl : ∀ k, own k → k < A.heap.size) (hd : ∀ k, own k → ¬ own' k) : Holds own A B := ⟨h.size, fun k hk => h.block k (hl k hk) (hd k hk)⟩
end

/-- WHAT AN ITERATOR's CLOSURE PROMISES, the record's number being l: whatever the caller keeps (J) that abides its turns, each round at what comes next: all have come (S), or a round has said that no more is wanted. -/
def IterC {α : Type} (n : Nat) (P : Program) (gf : Nat) (lb : Array Value) (encs : α → Array Value) (own keep : Nat → Prop) (ok : List α → α → Prop) (S : List α → World → Prop) (l : Nat) (W1 : World) : Prop :=
  ∀ (J Jx : List α → World → Prop), (∀ pre W W', J pre W → Turns own W W' → J pre W') → (∀ pre W W', Jx pre W → Turns own W W' → Jx pre W') →
    (∀ pre x W, J pre W → ok pre x → YieldAt Fence.wide (n - 1) P l (encs x) W fun e W' => (e = .returned (.bool true) ∧ J (pre ++ [x]) W' ∧ Holds keep W W') ∨ (e = .returned (.bool false) ∧ Jx (pre ++ [x]) W')) →
    J [] W1 → CallsIn Fence.wide n P gf (#[.func (.yield l) #[] #[]] ++ lb) W1 fun e W' => (∃ v, e = .returned v) ∧ ((∃ xs, S xs W' ∧ J xs W') ∨ (∃ pre, Jx pre W'))

/-- how a round's body may be left -/
def roundP {α : Type} (keep : Nat → Prop) (I : List α → World → Prop) (Ix : Code → List α → World → Prop) (l D : Nat) (xs : List α) (W : World) : Exit → Act → World → Prop
  | .normal, _, W' => Holds (fun k => keep k ∨ k = l ∨ k = D) W W' ∧ I xs W'
  | .ret, _, W' => Holds (fun k => k = l ∨ k = D) W W' ∧ Ix .ret xs W'
  | .exit id, _, W' => Holds (fun k => k = l ∨ k = D) W W' ∧ Ix (.exit id) xs W'
  | .goto t, _, W' => Holds (fun k => k = l ∨ k = D) W W' ∧ Ix (.goto t) xs W'
  | .panic _, _, _ => False
  | .outgrown, _, _ => False

/-- **THE STATEMENT** -/
theorem range_law {α : Type} {P : Program} {n : Nat} {g : Operand} {ps : Array Tmp} {assign body : Code} {Q : Exit → Act → World → Prop} {a : Act} {w : World}
    {gf : Nat} {lb : Array Value} (hg : a.eval g = .func (.func gf) #[] lb) (eg : ∀ args w, (callFunc gf args).run P w = .ok (.enter gf args) w)
    {encs : α → Array Value} {own keep : Nat → Prop} {ok : List α → α → Prop} {S : List α → World → Prop} (hown : ∀ k, own k ∨ keep k → k < w.heap.size)
    (hit : ∀ W1, Turns (fun _ => False) w W1 → IterC (n - 1) P gf lb encs own keep ok S (w.heap.size + 1) W1)
    (hps : ∀ x, (encs x).size = ps.size)
    (I : List α → World → Prop) (Ix : Code → List α → World → Prop)
    (hI : ∀ pre W W', I pre W → Turns (fun k => own k ∨ k = w.heap.size + 1) W W' → I pre W')
    (hIx : ∀ c pre W W', Ix c pre W → Turns (fun k => own k ∨ k = w.heap.size + 1) W W' → Ix c pre W')
    (h0 : I [] w) (Ax : α → Act → World → Prop) (hAx : ∀ x a1 W W', Ax x a1 W → Turns (fun k => k = w.heap.size + 1) W W' → Ax x a1 W')
    (hassign : ∀ (x : α) (W : World) (K : Act → World → Prop), w.heap.size + 2 ≤ W.heap.size → (∀ a1 W1, Turns (fun _ => False) W W1 → Ax x a1 W1 → K a1 W1) →
      assign.wpIn (Fence.wide.inRound (w.heap.size + 1)) (n - 1 - 1) P (Exit.then K (fun _ _ _ => False)) { tmps := (ps.zip (encs x)).foldl (fun t (p, v) => t.setIfInBounds p v) a.tmps, defers := [] } W)
    (hbody : ∀ (pre : List α) (x : α) (a1 : Act) (W : World), w.heap.size + 2 ≤ W.heap.size → I pre W → ok pre x → Ax x a1 W →
      body.wpIn (Fence.wide.inRound (w.heap.size + 1)) (n - 1 - 1) P (roundP keep I Ix (w.heap.size + 1) w.heap.size (pre ++ [x]) W) a1 W)
    (hdone : ∀ (xs : List α) (W : World), w.heap.size + 2 ≤ W.heap.size → S xs W → I xs W → W.heap[w.heap.size]? = some (.deferred (some [])) → Q .normal { a with defers := { target := .collected w.heap.size, args := #[] } :: a.defers } W)
    (hstop : ∀ (c : Code) (pre : List α) (W : World), w.heap.size + 2 ≤ W.heap.size → Ix c pre W → W.heap[w.heap.size]? = some (.deferred (some [])) → c.wpIn Fence.wide n P Q { a with defers := { target := .collected w.heap.size, args := #[] } :: a.defers } W)
    (hS : ∀ xs W W', S xs W → Turns (fun k => k = w.heap.size + 1) W W' → S xs W') :
    (Code.rangeFunc g ps assign body).wpIn Fence.wide n P Q a w := by
  refine wpIn_rangeFunc ?_
  intro fn hfn
  obtain ⟨rec, hrec⟩ : ∃ rec : LoopState → Option Code → Loop, rec = fun st pe => { state := st, pending := pe, fn, tmps := a.tmps, params := ps, assign, body, defers := w.heap.size } := ⟨_, rfl⟩
  obtain ⟨W1, hW1⟩ : ∃ W1, (w.alloc (.deferred (some []))).alloc (.loop (rec .ready none)) = W1 := ⟨_, rfl⟩
  have hL1 : W1.heap[w.heap.size + 1]? = some (.loop (rec .ready none)) := by
    rw [← hW1]; have := World.alloc_heap_new (w.alloc (.deferred (some []))) (.loop (rec .ready none)); rwa [World.size_alloc] at this
  have hK1 : W1.heap[w.heap.size]? = some (.deferred (some [])) := by
    rw [← hW1]; exact (Below.heap_alloc _ _ _ (by simp)).trans (World.alloc_heap_new w _)
  have hT1 : ∀ o, Turns o w W1 := fun o => by rw [← hW1]; exact (Turns.alloc w _).trans (Turns.alloc _ _)
  have hI1 : I [] W1 := hI _ _ _ h0 (hT1 _)
  refine ⟨w.heap.size + 1, [{ target := .collected w.heap.size, args := #[] }], W1, { target := .fn (.func gf) lb, args := #[.func (.yield (w.heap.size + 1)) #[] #[]] }, W1, gf,
    #[.func (.yield (w.heap.size + 1)) #[] #[]] ++ lb, W1, ?_, ?_, ?_, ?_, fun h => by simp [Fence.wide] at h, ?_⟩
  · rw [← hW1, hrec]; exact run_enterLoop_outer _ _ _ _ _
  · simp only [resolve, hg]
    simp [go_sem]
  · intro f' _; trivial
  · simp [invoke, go_sem, eg]
  · have hnl : ¬ own (w.heap.size + 1) := fun h => by have := hown _ (.inl h); omega
    have hnd : ¬ own w.heap.size := fun h => by have := hown _ (.inl h); omega
    refine (hit W1 (hT1 _)
      (fun pre W => I pre W ∧ W.heap[w.heap.size + 1]? = some (.loop (rec .ready none)) ∧ W.heap[w.heap.size]? = some (.deferred (some [])))
      (fun pre W => ∃ c, Ix c pre W ∧ W.heap[w.heap.size + 1]? = some (.loop (rec .done (some c))) ∧ W.heap[w.heap.size]? = some (.deferred (some [])))
      ?_ ?_ ?_ ⟨hI1, hL1, hK1⟩).mono ?_
    · rintro pre W W' ⟨hi, hl, hk⟩ ht
      exact ⟨hI _ _ _ hi (ht.mono fun k => .inl), (ht.block _ (Array.getElem?_eq_some_iff.1 hl).1 hnl).trans hl, (ht.block _ (Array.getElem?_eq_some_iff.1 hk).1 hnd).trans hk⟩
    · rintro pre W W' ⟨c, hi, hl, hk⟩ ht
      exact ⟨c, hIx _ _ _ _ hi (ht.mono fun k => .inl), (ht.block _ (Array.getElem?_eq_some_iff.1 hl).1 hnl).trans hl, (ht.block _ (Array.getElem?_eq_some_iff.1 hk).1 hnd).trans hk⟩
    · -- one round
      rintro pre x W ⟨hi, hl, hk⟩ hok
      have hlt : w.heap.size + 1 < W.heap.size := (Array.getElem?_eq_some_iff.1 hl).1
      have hy := run_yield (P := P) (args := encs x) hl (by rw [hrec]; exact hps x)
      rw [hrec] at hy
      refine ⟨fn, _, assign, body, hy, roundIn_of_wpIn hfn (hassign x W _ (by omega) fun a1 Wa ha hax => ?_)⟩
      have hla : Wa.heap[w.heap.size + 1]? = some (.loop (rec .ready none)) := (ha.block _ hlt (fun h => h)).trans hl
      have hka : Wa.heap[w.heap.size]? = some (.deferred (some [])) := (ha.block _ (by omega) (fun h => h)).trans hk
      have hlta : w.heap.size + 1 < Wa.heap.size := (Array.getElem?_eq_some_iff.1 hla).1
      refine ⟨_, run_beginRound hla (by rw [hrec]), ?_⟩
      obtain ⟨Wb, hWb⟩ : ∃ Wb, Wa.putObj (w.heap.size + 1) (.loop { rec .ready none with state := .busy }) = Wb := ⟨_, rfl⟩
      rw [hWb]
      have htb : ∀ o : Nat → Prop, o (w.heap.size + 1) → Turns o Wa Wb := fun o ho => by rw [← hWb]; exact Turns.putObj _ ho _
      have hlb : Wb.heap[w.heap.size + 1]? = some (.loop { rec .ready none with state := .busy }) := by rw [← hWb]; exact World.putObj_heap_same hlta
      have hkb : Wb.heap[w.heap.size]? = some (.deferred (some [])) := by rw [← hWb]; exact (World.putObj_heap_other (by omega)).trans hka
      have hsb : Wb.heap.size = Wa.heap.size := by rw [← hWb]; simp
      refine wpIn_mono (hbody pre x a1 Wb (by omega) (hI _ _ _ hi ((ha.mono fun _ h => h.elim).trans (htb _ (.inr rfl)))) hok (hAx _ _ _ _ hax (htb _ rfl))) ?_
      have fin : ∀ (jump : Option Code) (W3 : World), Holds (fun k => k = w.heap.size + 1 ∨ k = w.heap.size) Wb W3 →
          (Instr.endRound (w.heap.size + 1) jump).run P W3 = .ok (.bool jump.isNone) (W3.putObj (w.heap.size + 1) (.loop (rec (if jump.isNone then .ready else .done) jump))) ∧
          (W3.putObj (w.heap.size + 1) (.loop (rec (if jump.isNone then .ready else .done) jump))).heap[w.heap.size + 1]? = some (.loop (rec (if jump.isNone then .ready else .done) jump)) ∧
          (W3.putObj (w.heap.size + 1) (.loop (rec (if jump.isNone then .ready else .done) jump))).heap[w.heap.size]? = some (.deferred (some [])) := fun jump W3 hk3 => by
        have hl3 := (hk3.block _ (.inl rfl)).trans hlb
        have := run_endRound (P := P) jump hl3
        rw [hrec] at this ⊢
        exact ⟨this, World.putObj_heap_same (Array.getElem?_eq_some_iff.1 hl3).1, (World.putObj_heap_other (by omega)).trans ((hk3.block _ (.inr rfl)).trans hkb)⟩
      rintro e a3 W3 hp
      cases e with
      | normal =>
        obtain ⟨hh, hi3⟩ := hp
        obtain ⟨hr, hl4, hk4⟩ := fin none W3 (hh.mono fun _ h => .inr h)
        refine ⟨_, _, hr, .inl ⟨rfl, ⟨hI _ _ _ hi3 (Turns.putObj _ (.inr rfl) _), hl4, hk4⟩, ?_⟩⟩
        refine ⟨?_, fun k ho => ?_⟩
        · have := ha.size; have := hh.size; simp; omega
        · have hkw := hown k (.inr ho)
          rw [World.putObj_heap_other (by omega), hh.block k (.inl ho), ← hWb, World.putObj_heap_other (by omega)]
          exact ha.block k (by omega) (fun h => h)
      | ret =>
        obtain ⟨hh, hi3⟩ := hp
        obtain ⟨hr, hl4, hk4⟩ := fin (some .ret) W3 hh
        exact ⟨_, _, hr, .inr ⟨rfl, .ret, hIx _ _ _ _ hi3 (Turns.putObj _ (.inr rfl) _), hl4, hk4⟩⟩
      | exit id =>
        obtain ⟨hh, hi3⟩ := hp
        obtain ⟨hr, hl4, hk4⟩ := fin (some (.exit id)) W3 hh
        exact ⟨_, _, hr, .inr ⟨rfl, .exit id, hIx _ _ _ _ hi3 (Turns.putObj _ (.inr rfl) _), hl4, hk4⟩⟩
      | goto t =>
        obtain ⟨hh, hi3⟩ := hp
        obtain ⟨hr, hl4, hk4⟩ := fin (some (.goto t)) W3 hh
        exact ⟨_, _, hr, .inr ⟨rfl, .goto t, hIx _ _ _ _ hi3 (Turns.putObj _ (.inr rfl) _), hl4, hk4⟩⟩
      | panic ch => exact hp.elim
      | outgrown => exact hp.elim
    · -- behind the iterator
      rintro e W2 ⟨⟨v, rfl⟩, (⟨xs, hSx, hi, hl, hk⟩ | ⟨pre, c, hi, hl, hk⟩)⟩
      · have hlt := (Array.getElem?_eq_some_iff.1 hl).1
        exact ⟨none, _, by have := run_endLoop (P := P) hl (by rw [hrec]; simp); rw [hrec] at this; exact this,
          hdone xs _ (by simp; omega) (hS _ _ _ hSx (Turns.putObj (own := fun k => k = w.heap.size + 1) _ rfl _)) (hI _ _ _ hi (Turns.putObj _ (.inr rfl) _)) ((World.putObj_heap_other (by omega)).trans hk)⟩
      · have hlt := (Array.getElem?_eq_some_iff.1 hl).1
        exact ⟨some c, _, by have := run_endLoop (P := P) hl (by rw [hrec]; simp); rw [hrec] at this; exact this,
          hstop c pre _ (by simp; omega) (hIx _ _ _ _ hi (Turns.putObj _ (.inr rfl) _)) ((World.putObj_heap_other (by omega)).trans hk)⟩
end Go.Proofs.YtjemdepcaaadiaaGreatDoor

/- PIECES OF MEMORY SIDE BY SIDE: each is kept by whatever leaves its blocks alone. Nothing of any one function. -/
namespace Go.Proofs.YtjemdepcaaadiaaGreatDoor
open Go.RowKit

/-- a piece: its blocks, and what is known of it -/
structure Pc where
  fp : Nat → Prop
  ok : World → Prop
  keep : ∀ {own : Nat → Prop} {W W' : World}, ok W → Turns own W W' → (∀ k, fp k → ¬ own k) → ok W'
  lt : ∀ {W : World} {k : Nat}, ok W → fp k → k < W.heap.size

/-- pieces that share no block -/
def Sep : List Pc → World → Prop
  | [], _ => True
  | p :: ps, w => p.ok w ∧ (∀ q ∈ ps, ∀ k, p.fp k → ¬ q.fp k) ∧ Sep ps w

section
variable {W W' : World}
theorem Sep.ok_of : ∀ {ps : List Pc}, Sep ps W → ∀ p ∈ ps, p.ok W
  | _ :: _, ⟨h, _, hs⟩, q, hq => (List.mem_cons.1 hq).elim (fun e => e ▸ h) (fun e => Sep.ok_of hs q e)
theorem Sep.keep {own : Nat → Prop} : ∀ {ps : List Pc}, Sep ps W → Turns own W W' → (∀ p ∈ ps, ∀ k, p.fp k → ¬ own k) → Sep ps W'
  | [], _, _, _ => trivial
  | p :: _, ⟨h, hd, hs⟩, ht, ho => ⟨p.keep h ht (ho p (List.mem_cons_self ..)), hd, Sep.keep hs ht (fun q hq => ho q (List.mem_cons_of_mem _ hq))⟩
theorem Sep.below {ps : List Pc} (h : Sep ps W) (hb : Below W.heap.size W W') : Sep ps W' := h.keep (own := fun _ => False) (Turns.of_below hb) (fun _ _ _ _ h => h)
theorem Sep.head {p : Pc} {ps : List Pc} (h : Sep (p :: ps) W) : p.ok W := h.1
theorem Sep.tail {p : Pc} {ps : List Pc} (h : Sep (p :: ps) W) : Sep ps W := h.2.2
theorem Sep.at' {ps : List Pc} (h : Sep ps W) (i : Nat) {p : Pc} (hi : ps[i]? = some p) : p.ok W := h.ok_of p (List.mem_of_getElem? hi)
theorem Sep.lt {ps : List Pc} (h : Sep ps W) {p : Pc} (hp : p ∈ ps) {k : Nat} (hk : p.fp k) : k < W.heap.size := p.lt (h.ok_of p hp) hk
/-- a new piece -/
theorem Sep.add {p : Pc} {ps : List Pc} (h : Sep ps W) (hb : Below W.heap.size W W') (hp : p.ok W') (hn : ∀ k, p.fp k → W.heap.size ≤ k) : Sep (p :: ps) W' :=
  ⟨hp, fun q hq k hk hqk => by have := hn k hk; have := h.lt hq hqk; omega, h.below hb⟩
/-- what is done to one piece -/
theorem Sep.upd {own : Nat → Prop} : ∀ {ps : List Pc} (i : Nat) {p p' : Pc}, Sep ps W → ps[i]? = some p → Turns own W W' → (∀ k, own k → k < W.heap.size → p.fp k) → p'.ok W' → (∀ k, p'.fp k → p.fp k ∨ W.heap.size ≤ k) → Sep (ps.set i p') W'
  | [], _, _, _, _, hi, _, _, _, _ => by simp at hi
  | q :: ps, 0, p, p', h, hi, ht, ho, hp, hn => by
    simp only [List.getElem?_cons_zero, Option.some.injEq] at hi
    subst hi
    have h' := h
    obtain ⟨h1, h2, h3⟩ := h
    refine ⟨hp, fun r hr k hk hrk => ?_, h3.keep ht (fun r hr k hk hok => ?_)⟩
    · rcases hn k hk with e | e
      · exact h2 r hr k e hrk
      · have := h3.lt hr hrk; omega
    · exact h2 r hr k (ho k hok (h3.lt hr hk)) hk
  | q :: ps, i + 1, p, p', h, hi, ht, ho, hp, hn => by
    rw [List.getElem?_cons_succ] at hi
    have h' := h
    obtain ⟨h1, h2, h3⟩ := h
    have hm := List.mem_of_getElem? hi
    have hq : q.ok W' := q.keep h1 ht (fun k hk hok => h2 p hm k hk (ho k hok (q.lt h1 hk)))
    refine ⟨hq, fun r hr k hk hrk => ?_, Sep.upd i h3 hi ht ho hp hn⟩
    rcases List.mem_or_eq_of_mem_set hr with e | e
    · exact h2 r e k hk hrk
    · subst e
      rcases hn k hrk with e | e
      · exact h2 p hm k hk e
      · have := q.lt h1 hk; omega
theorem Sep.perm {ps qs : List Pc} (hp : ps.Perm qs) : Sep ps W → Sep qs W := by
  induction hp with
  | nil => exact id
  | cons a hp ih => exact fun ⟨h1, h2, h3⟩ => ⟨h1, fun q hq => h2 q (hp.mem_iff.2 hq), ih h3⟩
  | swap a b l =>
    rintro ⟨h1, h2, h3, h4, h5⟩
    refine ⟨h3, fun q hq k hk hqk => ?_, h1, fun q hq => h2 q (List.mem_cons_of_mem _ hq), h5⟩
    rcases List.mem_cons.1 hq with e | e
    · subst e; exact h2 a (List.mem_cons_self ..) k hqk hk
    · exact h4 q e k hk hqk
  | trans _ _ i1 i2 => exact fun h => i2 (i1 h)
/-- a piece that is no longer looked at -/
theorem Sep.drop {ps : List Pc} (i : Nat) (h : Sep ps W) : Sep (ps.eraseIdx i) W := by
  induction ps generalizing i with
  | nil => exact trivial
  | cons p ps ih =>
    cases i with
    | zero => exact h.2.2
    | succ i => exact ⟨h.1, fun q hq => h.2.1 q (List.mem_of_mem_eraseIdx hq), ih i h.2.2⟩
/-- two pieces as one -/
theorem Sep.merge {p q r : Pc} {ps : List Pc} (h : Sep (p :: q :: ps) W) (hr : r.ok W) (hf : ∀ k, r.fp k → p.fp k ∨ q.fp k) : Sep (r :: ps) W :=
  ⟨hr, fun s hs k hk hsk => (hf k hk).elim (fun e => h.2.1 s (List.mem_cons_of_mem _ hs) k e hsk) (fun e => h.2.2.2.1 s hs k e hsk), h.2.2.2.2⟩
/-- what is known of one piece alone is told otherwise -/
theorem Sep.as : ∀ {ps : List Pc} (i : Nat) {p p' : Pc}, Sep ps W → ps[i]? = some p → (p.ok W → p'.ok W) → (∀ k, p'.fp k → p.fp k) → Sep (ps.set i p') W := by
  intro ps i p p' h hi h1 h2
  exact h.upd (own := fun _ => False) i hi (Turns.refl _ _) (fun _ h _ => h.elim) (h1 (h.at' i hi)) (fun k hk => .inl (h2 k hk))
/-- a stretch of pieces is kept alone -/
theorem Sep.apart {p q : Pc} {ps : List Pc} (h : Sep (p :: ps) W) (hq : q ∈ ps) {k : Nat} (hk : p.fp k) : ¬ q.fp k := h.2.1 q hq k hk
end

/- KINDS OF PIECES. -/
/-- all that lies below a mark: as it lay in an old world -/
def Pc.old (n : Nat) (W0 : World) : Pc where
  fp k := k < n
  ok W := n ≤ W.heap.size ∧ Below n W0 W
  keep := fun {_ _ _} h ht ho => ⟨Nat.le_trans h.1 ht.size, h.2.trans ⟨ht.os, ht.tape, ht.output, ht.size, fun k hk => ht.block k (Nat.lt_of_lt_of_le hk h.1) (ho k hk)⟩⟩
  lt := fun {_ _} h hk => Nat.lt_of_lt_of_le hk h.1
/-- a block known whole -/
def Pc.blk (g : Nat) (t : TypeId) (cs : Array Value) : Pc where
  fp k := k = g
  ok W := Blk W g t cs
  keep := fun {_ _ _} h ht ho => ht.blk h (ho g rfl)
  lt := fun {_ _} h hk => hk ▸ h.lt
/-- a row of one's own -/
def Pc.row (base : Nat) (e : TypeId) (s : Nat) (v : Value) (n : Nat) (xs : List Value) : Pc where
  fp k := v.ownBlock = some k
  ok W := W.ownsRow base e s v n xs
  keep := fun {_ _ _} h ht ho => ht.row h ho
  lt := fun {_ _} h hk => (h.lt _ hk).2
/-- a mark of a loop that has ended -/
def Pc.mark (D : Nat) : Pc where
  fp k := k = D
  ok W := W.heap[D]? = some (.deferred (some []))
  keep := fun {_ _ _} h ht ho => (ht.block D (Array.getElem?_eq_some_iff.1 h).1 (ho D rfl)).trans h
  lt := fun {_ _} h hk => hk ▸ (Array.getElem?_eq_some_iff.1 h).1
/-- any object -/
def Pc.obj (g : Nat) (o : Obj) : Pc where
  fp k := k = g
  ok W := W.heap[g]? = some o
  keep := fun {_ _ _} h ht ho => (ht.block g (Array.getElem?_eq_some_iff.1 h).1 (ho g rfl)).trans h
  lt := fun {_ _} h hk => hk ▸ (Array.getElem?_eq_some_iff.1 h).1
/-- rows within a row (m more slots than rows are told of): each once it is full, read alone -/
def Pc.rowsM (m base : Nat) (E e : TypeId) (v : Value) (vs : List Value) (xss : List (List Value)) : Pc where
  fp k := v.ownBlock = some k ∨ ∃ i x, i < xss.length ∧ vs[i]? = some x ∧ x.ownBlock = some k
  ok W := vs.length = xss.length + m ∧ W.ownsRow base E 1 v vs.length vs ∧ ∀ (i : Nat) (xs : List Value), xss[i]? = some xs → ∃ x, vs[i]? = some x ∧ W.ownsRow base e 1 x xs.length xs ∧ x.ownBlock ≠ some (v.ownBlock.getD W.heap.size)
  keep := fun {own W W'} ⟨h0, h1, h2⟩ ht ho => ⟨h0, ht.row h1 (fun k hk => ho k (.inl hk)), fun i xs hi => by
    obtain ⟨x, hx, hr, hn⟩ := h2 i xs hi
    refine ⟨x, hx, ht.row hr (fun k hk => ho k (.inr ⟨i, x, (List.getElem?_eq_some_iff.1 hi).1, hx, hk⟩)), ?_⟩
    cases hv : v.ownBlock with
    | some k => rw [hv] at hn; exact hn
    | none => intro e; have h8 := (hr.lt _ e).2; have h9 := ht.size; rw [Option.getD_none] at h8; omega⟩
  lt := fun {_ _} ⟨_, h1, h2⟩ hk => hk.elim (fun h => (h1.lt _ h).2) (fun ⟨i, x, hi, hx, h⟩ => by
    obtain ⟨x', hx', hr, _⟩ := h2 i _ (List.getElem?_eq_getElem hi)
    rw [hx] at hx'
    cases hx'
    exact (hr.lt _ h).2)
abbrev Pc.rows (base : Nat) (E e : TypeId) (v : Value) (vs : List Value) (xss : List (List Value)) : Pc := Pc.rowsM 0 base E e v vs xss

section
variable {W W' : World}
theorem Pc.old_start (W : World) : (Pc.old W.heap.size W).ok W := ⟨Nat.le_refl _, Below.refl _ _⟩
theorem Sep.start (W : World) : Sep [Pc.old W.heap.size W] W := ⟨Pc.old_start W, fun _ h => absurd h List.not_mem_nil, trivial⟩
theorem Sep.bel {n : Nat} {W0 : World} {ps : List Pc} (h : Sep ps W) (hi : Pc.old n W0 ∈ ps) : Below n W0 W := (h.ok_of _ hi).2
theorem Sep.blk {ps : List Pc} (h : Sep ps W) (i : Nat) {g : Nat} {t : TypeId} {cs : Array Value} (hi : ps[i]? = some (Pc.blk g t cs)) : Blk W g t cs := h.at' i hi
theorem Sep.row {ps : List Pc} (h : Sep ps W) (i : Nat) {base n s : Nat} {e : TypeId} {v : Value} {xs : List Value} (hi : ps[i]? = some (Pc.row base e s v n xs)) : W.ownsRow base e s v n xs := h.at' i hi
/-- a block that is laid -/
theorem Sep.alloc_blk {ps : List Pc} (h : Sep ps W) (t : TypeId) (cs : Array Value) : Sep (Pc.blk W.heap.size t cs :: ps) (W.alloc (.cells cs t)) :=
  h.add ((Below.refl _ _).alloc (Nat.le_refl _) _) (Blk.new W t cs) (fun k hk => by rw [show k = W.heap.size from hk]; exact Nat.le_refl _)
theorem Sep.alloc {ps : List Pc} (h : Sep ps W) (o : Obj) : Sep ps (W.alloc o) := h.below ((Below.refl _ _).alloc (Nat.le_refl _) o)
theorem Sep.drew {ps : List Pc} (h : Sep ps W) : Sep ps W.drew := h.keep (own := fun _ => False) (Turns.drew W) (fun _ _ _ _ h => h)
theorem turns_drewN (own : Nat → Prop) (W : World) (n : Nat) : Turns own W (W.drewN n) := ⟨rfl, rfl, rfl, Nat.le_refl _, fun _ _ _ => rfl⟩
theorem Sep.drewN {ps : List Pc} (h : Sep ps W) (n : Nat) : Sep ps (W.drewN n) := h.keep (own := fun _ => False) (turns_drewN _ W n) (fun _ _ _ _ h => h)
theorem Sep.nil_row {ps : List Pc} (h : Sep ps W) (base s : Nat) (e : TypeId) : Sep (Pc.row base e s (.slice none 0 0) 0 [] :: ps) W :=
  ⟨World.ownsRow_nil _ _ _ _, fun _ _ k hk => by simp [Pc.row, Value.ownBlock] at hk, h⟩
/-- a store in a block known whole -/
theorem Sep.set {ps : List Pc} (h : Sep ps W) (i : Nat) {g : Nat} {t : TypeId} {cs : Array Value} (hi : ps[i]? = some (Pc.blk g t cs)) (j : Nat) (u : Value) : Sep (ps.set i (Pc.blk g t (cs.setIfInBounds j u))) (W.setCell ⟨g, j, none⟩ u) :=
  h.upd (own := fun k => k = g) i hi (Turns.setCell (own := fun k => k = g) W (p := ⟨g, j, none⟩) rfl u) (fun _ hk _ => hk) ((h.blk i hi).set_ j u) (fun _ hk => .inl hk)
theorem own_base {w : World} {base base' : Nat} {e : TypeId} {s : Nat} {v : Value} {n : Nat} {xs : List Value} (h : w.ownsRow base e s v n xs) (hb : base' ≤ base) : w.ownsRow base' e s v n xs :=
  ⟨h.1, h.2.imp id (fun ⟨g, cap, cur, h1, h2, r⟩ => ⟨g, cap, cur, h1, Nat.le_trans hb h2, r⟩)⟩
theorem turns_grown' {own : Nat → Prop} {A B : World} {row : Option Nat} (h : A.grownBy B row) (hr : ∀ k, row = some k → own k) : Turns own A B :=
  ⟨h.os, h.tape, h.output, h.size, fun i hi ho => h.block i hi (fun e => ho (hr i e.symm))⟩
/-- a row that was grown by an append -/
theorem Sep.grow {ps : List Pc} (h : Sep ps W) (i : Nat) {base n n' s : Nat} {e : TypeId} {v v' : Value} {xs xs' : List Value} (hi : ps[i]? = some (Pc.row base e s v n xs)) (hg : W.grownBy W' v.ownBlock) (hr : W'.ownsRow base e s v' n' xs')
    (ho : v'.ownBlock = v.ownBlock ∨ ∀ k, v'.ownBlock = some k → W.heap.size ≤ k) : Sep (ps.set i (Pc.row base e s v' n' xs')) W' :=
  h.upd (own := fun k => v.ownBlock = some k) i hi (turns_grown' hg (fun _ h => h)) (fun _ hk _ => hk) hr (fun k hk => by
    rcases ho with e | e
    · exact .inl (show v.ownBlock = some k by rw [← e]; exact hk)
    · exact .inr (e k hk))
/-- a row that a call has made -/
theorem Sep.got {ps : List Pc} (h : Sep ps W) {base n s : Nat} {e : TypeId} {v : Value} {xs : List Value} (hb : Below W.heap.size W W') (hr : W'.ownsRow W.heap.size e s v n xs) (hB : base ≤ W.heap.size) : Sep (Pc.row base e s v n xs :: ps) W' :=
  h.add hb (own_base hr hB) (fun k hk => (hr.lt k hk).1)
end

/-- a piece at the head goes into another one -/
theorem Sep.join : ∀ {ps : List Pc} (i : Nat) {p q r : Pc} {W : World}, Sep (p :: ps) W → ps[i]? = some q → r.ok W → (∀ k, r.fp k → p.fp k ∨ q.fp k) → Sep (ps.set i r) W
  | [], _, _, _, _, _, _, hi, _, _ => by simp at hi
  | s :: ps, 0, p, q, r, W, h, hi, hr, hf => by
    simp only [List.getElem?_cons_zero, Option.some.injEq] at hi
    subst hi
    exact Sep.merge (ps := ps) h hr hf
  | s :: ps, i + 1, p, q, r, W, h, hi, hr, hf => by
    rw [List.getElem?_cons_succ] at hi
    obtain ⟨h1, h2, h3, h4, h5⟩ := h
    have hm := List.mem_of_getElem? hi
    refine ⟨h3, fun t ht k hk htk => ?_, Sep.join i (p := p) ⟨h1, fun t ht => h2 t (List.mem_cons_of_mem _ ht), h5⟩ hi hr hf⟩
    rcases List.mem_or_eq_of_mem_set ht with e | e
    · exact h4 t e k hk htk
    · subst e
      rcases hf k htk with e | e
      · exact h2 s (List.mem_cons_self ..) k e hk
      · exact h4 q hm k hk e
theorem Sep.nil_rows {ps : List Pc} {W : World} (h : Sep ps W) (base : Nat) (E e : TypeId) : Sep (Pc.rows base E e (.slice none 0 0) [] [] :: ps) W := by
  refine ⟨⟨rfl, World.ownsRow_nil _ _ _ _, fun i xs hi => by simp at hi⟩, fun _ _ k hk => ?_, h⟩
  rcases hk with hk | ⟨i, x, hi, _⟩
  · simp [Value.ownBlock] at hk
  · simp at hi
/-- a row of one row -/
theorem Sep.rows_one {ps : List Pc} {W : World} {base : Nat} {E e : TypeId} {x : Value} {xs : List Value} (h : Sep (Pc.row base e 1 x xs.length xs :: ps) W) (hb : base ≤ W.heap.size) :
    Sep (Pc.rows base E e (.slice (some ⟨W.heap.size, 0, none⟩) 1 1) [x] [xs] :: ps) (W.alloc (.cells #[x] E)) := by
  have h1 := h.row 0 rfl
  have h2 := h.alloc (.cells #[x] E)
  have hlt := h1.lt
  have hnew : (W.alloc (.cells #[x] E)).ownsRow base E 1 (.slice (some ⟨W.heap.size, 0, none⟩) 1 1) 1 [x] :=
    ⟨rfl, .inr ⟨W.heap.size, 1, #[x], rfl, hb, heap_alloc_new _ _, Nat.le_refl _, by unfold maxLen; omega, rfl, rfl⟩⟩
  have h3 : Sep (Pc.row base E 1 (.slice (some ⟨W.heap.size, 0, none⟩) 1 1) 1 [x] :: Pc.row base e 1 x xs.length xs :: ps) (W.alloc (.cells #[x] E)) :=
    h.add ((Below.refl _ _).alloc (Nat.le_refl _) _) hnew (fun k hk => by simp [Pc.row, Value.ownBlock] at hk; omega)
  refine h3.merge ⟨rfl, hnew, fun i ys hi => ?_⟩ (fun k hk => ?_)
  · match i, hi with
    | 0, hi =>
      simp only [List.getElem?_cons_zero, Option.some.injEq] at hi
      subst hi
      exact ⟨x, rfl, h1.alloc _, fun e => by have := (hlt _ e).2; simp [Value.ownBlock] at this⟩
    | i + 1, hi => simp at hi
  · rcases hk with hk | ⟨i, y, hi, hy, hk⟩
    · exact .inl hk
    · simp only [List.length_cons, List.length_nil] at hi
      obtain rfl : i = 0 := by omega
      simp only [List.getElem?_cons_zero, Option.some.injEq] at hy
      subst hy
      exact .inr hk
/-- a row more within a row of rows -/
theorem Sep.push_rows {ps : List Pc} {W W' : World} {base n : Nat} {E e : TypeId} {x v v' : Value} {xs : List Value} {vs : List Value} {xss : List (List Value)} (h : Sep (Pc.row base e 1 x n xs :: ps) W) (i : Nat) (hi : ps[i]? = some (Pc.rows base E e v vs xss)) (hn : n = xs.length)
    (hg : W.grownBy W' v.ownBlock) (hr : W'.ownsRow base E 1 v' (vs.length + 1) (vs ++ [x])) (ho : v'.ownBlock = v.ownBlock ∨ ∀ k, v'.ownBlock = some k → W.heap.size ≤ k) : Sep (ps.set i (Pc.rows base E e v' (vs ++ [x]) (xss ++ [xs]))) W' := by
  subst hn
  obtain ⟨h0, h1, h2⟩ := h.at' (i + 1) (p := Pc.rows base E e v vs xss) (by simpa using hi)
  have hT : Turns (fun k => v.ownBlock = some k) W W' := turns_grown' hg (fun _ h => h)
  have hblk : ∀ k, v'.ownBlock = some k → v.ownBlock = some k ∨ W.heap.size ≤ k := fun k hk => by
    rcases ho with e | e
    · exact .inl (e ▸ hk)
    · exact .inr (e k hk)
  have hin : ∀ (j : Nat) (ys : List Value), xss[j]? = some ys → ∃ y, vs[j]? = some y ∧ W'.ownsRow base e 1 y ys.length ys ∧ y.ownBlock ≠ some (v'.ownBlock.getD W'.heap.size) := by
    intro j ys hj
    obtain ⟨y, hy, hyr, hyn⟩ := h2 j ys hj
    have hne : ∀ k, y.ownBlock = some k → ¬ v.ownBlock = some k := fun k hk hv => by rw [hv] at hyn; exact hyn hk
    have hyr' := hT.row hyr hne
    refine ⟨y, hy, hyr', ?_⟩
    cases hv : v'.ownBlock with
    | none => intro e; have := (hyr'.lt _ e).2; simp at this
    | some k =>
      intro e
      rcases hblk k hv with h | h
      · exact hne k e h
      · have := (hyr.lt k e).2; omega
  have htmp : (Pc.rowsM 1 base E e v' (vs ++ [x]) xss).ok W' := ⟨by rw [List.length_append]; simp at h0 ⊢; omega, by rw [List.length_append]; exact hr, fun j ys hj => by
    obtain ⟨y, hy, h3⟩ := hin j ys hj
    exact ⟨y, by rw [List.getElem?_append_left (List.getElem?_eq_some_iff.1 hy).1]; exact hy, h3⟩⟩
  have hlv : vs.length = xss.length := by simpa using h0
  have hS := h.upd (own := fun k => v.ownBlock = some k) (i + 1) (p' := Pc.rowsM 1 base E e v' (vs ++ [x]) xss) (by simpa using hi) hT (fun k hk _ => Or.inl hk) htmp (fun k hk => by
    rcases hk with hk | ⟨j, y, hj, hy, hk⟩
    · rcases hblk k hk with e | e
      · exact .inl (.inl e)
      · exact .inr e
    · rw [List.getElem?_append_left (by omega)] at hy
      exact .inl (.inr ⟨j, y, hj, hy, hk⟩))
  rw [List.set_cons_succ] at hS
  have hx := hS.row 0 rfl
  have hget : (ps.set i (Pc.rowsM 1 base E e v' (vs ++ [x]) xss))[i]? = some (Pc.rowsM 1 base E e v' (vs ++ [x]) xss) := by
    rw [List.getElem?_set_self (List.getElem?_eq_some_iff.1 hi).1]
  have hxv : ∀ k, x.ownBlock = some k → ¬ v'.ownBlock = some k := fun k hk hv => hS.apart (List.mem_of_getElem? hget) (k := k) hk (.inl hv)
  have := hS.join i (r := Pc.rows base E e v' (vs ++ [x]) (xss ++ [xs])) hget ⟨by simp [hlv], by rw [List.length_append]; exact hr, fun j ys hj => by
      rcases Nat.lt_or_ge j xss.length with hl | hl
      · rw [List.getElem?_append_left hl] at hj
        obtain ⟨y, hy, h3⟩ := hin j ys hj
        exact ⟨y, by rw [List.getElem?_append_left (List.getElem?_eq_some_iff.1 hy).1]; exact hy, h3⟩
      · rw [List.getElem?_append_right hl] at hj
        have hj0 : j - xss.length = 0 := by have := (List.getElem?_eq_some_iff.1 hj).1; simp at this; omega
        rw [hj0] at hj
        simp only [List.getElem?_cons_zero, Option.some.injEq] at hj
        subst hj
        refine ⟨x, by rw [List.getElem?_append_right (by omega), show j - vs.length = 0 by omega]; rfl, hx, ?_⟩
        cases hv : v'.ownBlock with
        | none => intro e; have := (hx.lt _ e).2; simp at this
        | some k => intro e; exact hxv k e hv⟩ (fun k hk => by
      rcases hk with hk | ⟨j, y, hj, hy, hk⟩
      · exact .inr (.inl hk)
      · rcases Nat.lt_or_ge j vs.length with hl | hl
        · exact .inr (.inr ⟨j, y, by omega, hy, hk⟩)
        · rw [List.getElem?_append_right hl] at hy
          have hj0 : j - vs.length = 0 := by have := (List.getElem?_eq_some_iff.1 hy).1; simp at this; omega
          rw [hj0] at hy
          simp only [List.getElem?_cons_zero, Option.some.injEq] at hy
          subst hy
          exact .inl hk)
  rwa [List.set_set] at this

theorem front_perm : ∀ {ps : List Pc} (i : Nat) {p : Pc}, ps[i]? = some p → (ps.Perm (p :: ps.eraseIdx i))
  | [], _, _, h => by simp at h
  | q :: ps, 0, p, h => by
    simp only [List.getElem?_cons_zero, Option.some.injEq] at h
    subst h
    exact List.Perm.refl _
  | q :: ps, i + 1, p, h => by
    rw [List.getElem?_cons_succ] at h
    exact ((front_perm i h).cons q).trans (List.Perm.swap p q _)
/-- a piece is taken to the head -/
theorem Sep.front {ps : List Pc} {W : World} (h : Sep ps W) (i : Nat) {p : Pc} (hi : ps[i]? = some p) : Sep (p :: ps.eraseIdx i) W := h.perm (front_perm i hi)

/-- what an append needs to know of a row's type -/
structure Pushes (P : Program) (t e : TypeId) (bytes : Nat) : Prop where
  out : ∃ (i : TypeInfo) (z : Value), P.underlying t = some (.slice e) ∧ P.info? e = some i ∧ i.zero = some z ∧ i.size = 1 ∧ i.bytes = bytes ∧ z.cells.size = 1
theorem Pushes.mk' {P : Program} {t e : TypeId} {bytes : Nat} {z : Value} (ht : P.underlying t = some (.slice e)) (h : (P.info? e).map (fun i => (i.zero, i.size, i.bytes)) = some (some z, 1, bytes)) (hz : z.cells.size = 1) : Pushes P t e bytes := by
  cases hi : P.info? e with
  | none => rw [hi] at h; cases h
  | some i =>
    rw [hi] at h
    simp only [Option.map_some, Option.some.injEq, Prod.mk.injEq] at h
    exact ⟨i, z, ht, hi, h.1, h.2.1, h.2.2, hz⟩
/-- APPEND OF ONE TO A ROW OF ONE'S OWN, among other pieces -/
theorem wpList_push {P : Program} {w0 : World} {ops : Array Oper} {rest : List Oper} {o : Oper} {a : Act} {Q : Exit → Act → World → Prop} (hgd : o.guard = none) (s x : Operand) (t : TypeId)
    (ho : o.op = .call { callee := .builtin .append, args := #[s, x], argTypes := #[t, t] }) {base : Nat} {e te : TypeId} {bytes : Nat} (hP : Pushes P t e bytes) {ps : List Pc} (hS : Sep ps w0) (k : Nat) {v u : Value} {n : Nat} {xs : List Value}
    (hk : ps[k]? = some (Pc.row base e 1 v n xs)) (hs : a.eval s = v) (hx : a.eval x = .slice (some ⟨w0.heap.size, 0, none⟩) 1 1) (h1 : u.oneCell' = true) (hn : n ≤ 1000000000) (hby : bytes ≤ 1000) (hbase : base ≤ w0.heap.size)
    (h : ∀ v' w', Sep (ps.set k (Pc.row base e 1 v' (n + 1) (xs ++ [u]))) w' → (∃ g c, v' = .slice (some ⟨g, 0, none⟩) (n + 1) c ∧ n + 1 ≤ c ∧ c ≤ 9223372036854775807) → wpList P ops Q rest (a.put o.dst v') w') : wpList P ops Q (o :: rest) a (w0.alloc (.cells #[u] te)) := by
  obtain ⟨i, z, ht, hi, hz0, hz1, hz2, hz3⟩ := hP.out
  have hb : (n + 1) * bytes ≤ 1000000001 * 1000 := Nat.mul_le_mul (by omega) hby
  refine wpList_append_own_at _ hgd s x t ho base e i z 1 bytes ht hi hz0 hz1 hz2 hz3 (by decide) v n xs hs ((hS.row k hk).alloc _) ⟨w0.heap.size, 0, none⟩ 1 1 [u] hx rfl (cell_one_new _ _ _) (by simpa using h1) (by unfold maxLen; omega) (by omega) (by simp; omega) ?_
  intro v' w' hown hgrow _ hat
  have hS' := (hS.alloc (.cells #[u] te)).grow k hk hgrow hown (by
    rcases hat with e1 | e1
    · exact .inl e1
    · exact .inr (fun q hq => by rw [e1] at hq; simp only [Option.some.injEq] at hq; omega))
  refine h v' w' hS' ?_
  rcases hown.2 with ⟨_, h2⟩ | ⟨g, cap, cur, h2, _, _, h3, h4, _⟩
  · omega
  · exact ⟨g, cap, h2, h3, by unfold maxLen at h4; omega⟩

/-- APPEND OF ONE ROW TO A ROW OF ROWS: what is told of the row goes into the other piece -/
theorem wpList_push_rows {P : Program} {w0 : World} {ops : Array Oper} {rest : List Oper} {o : Oper} {a : Act} {Q : Exit → Act → World → Prop} (hgd : o.guard = none) (s x : Operand) (t : TypeId)
    (ho : o.op = .call { callee := .builtin .append, args := #[s, x], argTypes := #[t, t] }) {base : Nat} {E e te : TypeId} {bytes : Nat} (hP : Pushes P t E bytes) {ps : List Pc} {u : Value} {n : Nat} {xs : List Value} (hS : Sep (Pc.row base e 1 u n xs :: ps) w0) (k : Nat) {v : Value} {vs : List Value} {xss : List (List Value)}
    (hk : ps[k]? = some (Pc.rows base E e v vs xss)) (hs : a.eval s = v) (hx : a.eval x = .slice (some ⟨w0.heap.size, 0, none⟩) 1 1) (h1 : u.oneCell' = true) (hlen : n = xs.length) (hn : vs.length ≤ 1000000000) (hby : bytes ≤ 1000) (hbase : base ≤ w0.heap.size)
    (h : ∀ v' w', Sep (ps.set k (Pc.rows base E e v' (vs ++ [u]) (xss ++ [xs]))) w' → (∃ g c, v' = .slice (some ⟨g, 0, none⟩) (vs.length + 1) c ∧ vs.length + 1 ≤ c ∧ c ≤ 9223372036854775807) → wpList P ops Q rest (a.put o.dst v') w') : wpList P ops Q (o :: rest) a (w0.alloc (.cells #[u] te)) := by
  obtain ⟨i, z, ht, hi, hz0, hz1, hz2, hz3⟩ := hP.out
  have hb : (vs.length + 1) * bytes ≤ 1000000001 * 1000 := Nat.mul_le_mul (by omega) hby
  have hrow := (hS.at' (k + 1) (p := Pc.rows base E e v vs xss) (by simpa using hk)).2.1
  refine wpList_append_own_at _ hgd s x t ho base E i z 1 bytes ht hi hz0 hz1 hz2 hz3 (by decide) v vs.length vs hs (hrow.alloc _) ⟨w0.heap.size, 0, none⟩ 1 1 [u] hx rfl (cell_one_new _ _ _) (by simpa using h1) (by unfold maxLen; omega) (by omega) (by simp; omega) ?_
  intro v' w' hown hgrow _ hat
  have hS' := (hS.alloc (.cells #[u] te)).push_rows k hk hlen hgrow hown (by
    rcases hat with e1 | e1
    · exact .inl e1
    · exact .inr (fun q hq => by rw [e1] at hq; simp only [Option.some.injEq] at hq; omega))
  refine h v' w' hS' ?_
  rcases hown.2 with ⟨_, h2⟩ | ⟨g, cap, cur, h2, _, _, h3, h4, _⟩
  · omega
  · exact ⟨g, cap, h2, h3, by unfold maxLen at h4; omega⟩
/-- what a row's shape is -/
theorem own_shape {w : World} {base s n : Nat} {e : TypeId} {v : Value} {xs : List Value} (h : w.ownsRow base e s v n xs) : ∃ a c, v = .slice a n c ∧ n ≤ c ∧ c ≤ 9223372036854775807 := by
  rcases h.2 with ⟨rfl, rfl⟩ | ⟨g, cap, cur, rfl, _, _, h3, h4, _⟩
  · exact ⟨_, _, rfl, Nat.le_refl _, by omega⟩
  · exact ⟨_, _, rfl, h3, by unfold maxLen at h4; omega⟩
end Go.Proofs.YtjemdepcaaadiaaGreatDoor

/- A REGION THAT DRAWS ITS ORDER: what a load yields need hold only till one operation, that waits for it, has come up. Nothing of any program. -/
namespace Go.Proofs.YtjemdepcaaadiaaGreatDoor
open Go.RowKit

section
variable {P : Program} {ops : Array Oper} {Q : Exit → Act → World → Prop} {md : Region.Mode} {k : Nat} {F : World → Prop}

/-- what has come up is closed: with each operation all that it waits for -/
def Closed (md : Region.Mode) (ops : Array Oper) (l : Array Bool) : Prop :=
  ∀ j oj, ops[j]? = some oj → l.getD j true = true → ∀ e ∈ oj.after, Region.binds md e = true → l.getD e.on true = true
def closedB (md : Region.Mode) (ops : Array Oper) (l : Array Bool) : Bool :=
  (List.range ops.size).all fun j => !l.getD j true || match ops[j]? with
    | some oj => oj.after.all fun e => !Region.binds md e || l.getD e.on true
    | none => true
theorem closed_of {l : Array Bool} (h : closedB md ops l = true) : Closed md ops l := by
  intro j oj hj hl e he hb
  unfold closedB at h
  rw [List.all_eq_true] at h
  have h1 := h j (List.mem_range.2 (Array.getElem?_eq_some_iff.1 hj).1)
  rw [hl, hj] at h1
  simp only [Bool.not_true, Bool.false_or] at h1
  have h2 := Array.all_eq_true'.1 h1 e he
  rw [hb] at h2
  simpa using h2
theorem closed_ready {l : Array Bool} {i : Nat} (h : Closed md ops l) (hr : i ∈ Region.ready md ops l) : Closed md ops (l.setIfInBounds i true) := by
  obtain ⟨hun, oi, hoi, hall⟩ := mem_ready.1 hr
  have up : ∀ j, l.getD j true = true → (l.setIfInBounds i true).getD j true = true := by
    intro j hj
    by_cases e : i = j
    · subst e
      rw [Array.getD_eq_getD_getElem?, Array.getElem?_setIfInBounds]
      simp
      split <;> rfl
    · rw [getD_set_ne true e]; exact hj
  intro j oj hj hl e he hb
  by_cases hij : i = j
  · subst hij
    rw [hoi] at hj
    cases hj
    exact up _ (by
      have h1 := hall e he hb
      rcases Nat.lt_or_ge e.on l.size with h' | h'
      · simp [h'] at h1 ⊢; exact h1
      · simp [Array.getElem?_eq_none h'])
  · rw [getD_set_ne true hij] at hl
    exact up _ (h j oj hj hl e he hb)
/-- number k waits for number i, through others -/
def waitsB (md : Region.Mode) (ops : Array Oper) (i : Nat) : Nat → Nat → Bool
  | 0, _ => false
  | f + 1, k => match ops[k]? with
    | some ok => ok.after.any fun e => Region.binds md e && (e.on == i || waitsB md ops i f e.on)
    | none => false
theorem waits_un {l : Array Bool} {i : Nat} (hc : Closed md ops l) (hi : l.getD i true = false) : ∀ (f k : Nat), waitsB md ops i f k = true → l.getD k true = false
  | 0, _, h => by simp [waitsB] at h
  | f + 1, k, h => by
    unfold waitsB at h
    cases hk : ops[k]? with
    | none => rw [hk] at h; cases h
    | some ok =>
      rw [hk] at h
      obtain ⟨e, he, hb⟩ := Array.any_eq_true'.1 h
      simp only [Bool.and_eq_true, Bool.or_eq_true, beq_iff_eq] at hb
      cases hl : l.getD k true with
      | false => rfl
      | true =>
        have h1 := hc k ok hk hl e he hb.1
        rcases hb.2 with e1 | e1
        · rw [e1, hi] at h1; cases h1
        · rw [waits_un hc hi f e.on e1] at h1; cases h1

/-- whatever order is picked from here on; F holds behind every operation, till number k has come up -/
def wpAnyK (P : Program) (md : Region.Mode) (ops : Array Oper) (Q : Exit → Act → World → Prop) (k : Nat) (F : World → Prop) : Nat → Array Bool → Act → World → Prop
  | 0, listed, a, w => Region.ready md ops listed = [] ∧ Q .normal a w
  | fuel + 1, listed, a, w =>
    (Region.ready md ops listed = [] → Q .normal a w) ∧
    ∀ i ∈ Region.ready md ops listed, wpOp P ops Q i (fun a' w' => ((listed.setIfInBounds i true).getD k true = false → F w') ∧ wpAnyK P md ops Q k F fuel (listed.setIfInBounds i true) a' w') a w
theorem wpAny_of_K : ∀ (fuel : Nat) (listed : Array Bool) (a : Act) (w : World), wpAnyK P md ops Q k F fuel listed a w → wpAny P md ops Q fuel listed a w
  | 0, _, _, _, h => h
  | fuel + 1, _, _, _, h => ⟨h.1, fun i hi => wpOp_mono (fun a' w' h' => wpAny_of_K fuel _ a' w' h'.2) (h.2 i hi)⟩

theorem wpAnyK_first {i f : Nat} {oi : Oper} {v : Value} (hi : ops[i]? = some oi) (hsel : ∀ (j : Nat) (o : Oper) cs b, ops[j]? = some o → o.op ≠ .select cs b)
    (hQ : ∀ c a w, Q (.panic c) (a.put oi.dst v) w → Q (.panic c) a w) (hik : i ≠ k) (hwt : waitsB md ops i f k = true) :
    ∀ (fuel : Nat) (listed : Array Bool) (a : Act) (w : World),
      (∀ j oj, ops[j]? = some oj → j ≠ i → listed.getD j true = false → (∀ e ∈ oj.after, Region.binds md e = true → e.on ≠ i) → oi.apart ops oj = true) →
      i ∈ Region.ready md ops listed → Closed md ops listed → YieldsIf P ops F oi v a → (listed.getD k true = false → F w) →
      wpAnyK P md ops Q k F fuel (listed.setIfInBounds i true) (a.put oi.dst v) w → wpAnyK P md ops Q k F (fuel + 1) listed a w := by
  intro fuel
  induction fuel with
  | zero =>
    intro listed a w _ hr hc hy hS H
    refine ⟨fun h => (by rw [h] at hr; cases hr), fun j hj => ?_⟩
    have hF : F w := hS (waits_un hc (mem_ready.1 hr).1 f k hwt)
    by_cases hji : j = i
    · subst hji
      exact YieldsIf.wpOp hi hy hF ⟨fun _ => hF, H⟩
    · have := ready_mono hj hji
      rw [H.1] at this
      cases this
  | succ fuel ih =>
    intro listed a w hfree hr hc hy hS H
    have hF : F w := hS (waits_un hc (mem_ready.1 hr).1 f k hwt)
    refine ⟨fun h => (by rw [h] at hr; cases hr), fun j hj => ?_⟩
    by_cases hji : j = i
    · subst hji
      exact YieldsIf.wpOp hi hy hF ⟨fun _ => hF, H⟩
    · have h1 := H.2 j (ready_mono hj hji)
      obtain ⟨hjun, oj, hoj, hall⟩ := mem_ready.1 hj
      have hnot : ∀ e ∈ oj.after, Region.binds md e = true → e.on ≠ i := fun e he hb heq => by
        have h1 := hall e he hb
        have h0 := (mem_ready.1 hr).1
        rw [heq] at h1
        rcases Nat.lt_or_ge i listed.size with h' | h'
        · simp [h'] at h0 h1; rw [h0] at h1; cases h1
        · simp [Array.getElem?_eq_none h'] at h1
      have h2 := wpOp_putIf hoj (hfree j oj hoj hji hjun hnot) (fun cs b => hsel i oi cs b hi) (fun cs b => hsel j oj cs b hoj) hQ hy h1
      have hfree' : ∀ k ok, ops[k]? = some ok → k ≠ i → (listed.setIfInBounds j true).getD k true = false →
          (∀ e ∈ ok.after, Region.binds md e = true → e.on ≠ i) → oi.apart ops ok = true := fun k ok hk hki hun hno => by
        refine hfree k ok hk hki ?_ hno
        by_cases hjk : j = k
        · subst hjk; exact hjun
        · rw [getD_set_ne true hjk] at hun; exact hun
      refine wpOp_mono (fun a' w' h3 => ?_) h2
      have hS' : (listed.setIfInBounds j true).getD k true = false → F w' := fun h => h3.2.1 (by
        rw [Array.setIfInBounds_comm _ _ (Ne.symm hji), getD_set_ne true hik]; exact h)
      refine ⟨hS', ih (listed.setIfInBounds j true) a' w' hfree' (ready_mono hr (Ne.symm hji)) (closed_ready hc hj) h3.1 hS' ?_⟩
      rw [Array.setIfInBounds_comm _ _ hji]
      exact h3.2.2

/-- take number i first: a load, whose value F tells; number k waits for it -/
theorem wpAnyK_take {i : Nat} {oi : Oper} {v : Value} {fuel : Nat} {listed : Array Bool} {a : Act} {w : World} (hi : ops[i]? = some oi)
    (hs : (Region.noSelect ops && Region.free md ops listed i && (Region.ready md ops listed).contains i && closedB md ops listed && waitsB md ops i ops.size k && !(i == k)) = true)
    (hQ : ∀ c a w, Q (.panic c) (a.put oi.dst v) w → Q (.panic c) a w) (hy : YieldsIf P ops F oi v a) (hS : F w)
    (h : wpAnyK P md ops Q k F fuel (listed.setIfInBounds i true) (a.put oi.dst v) w) : wpAnyK P md ops Q k F (fuel + 1) listed a w := by
  simp only [Bool.and_eq_true, Bool.not_eq_true', beq_eq_false_iff_ne] at hs
  obtain ⟨⟨⟨⟨⟨h1, h2⟩, h3⟩, h4⟩, h5⟩, h6⟩ := hs
  exact wpAnyK_first hi (Region.noSelect_spec h1) hQ h6 h5 fuel listed a w (Region.free_spec hi h2) (by simpa using h3) (closed_of h4) hy (fun _ => hS) h

def AllReadyK (P : Program) (md : Region.Mode) (ops : Array Oper) (Q : Exit → Act → World → Prop) (k : Nat) (F : World → Prop) (fuel : Nat) (listed : Array Bool) (a : Act) (w : World) (rs : List Nat) : Prop :=
  ∀ i ∈ rs, wpOp P ops Q i (fun a' w' => ((listed.setIfInBounds i true).getD k true = false → F w') ∧ wpAnyK P md ops Q k F fuel (listed.setIfInBounds i true) a' w') a w
theorem AllReadyK.nil {fuel : Nat} {listed : Array Bool} {a : Act} {w : World} : AllReadyK P md ops Q k F fuel listed a w [] := fun _ h => by cases h
theorem AllReadyK.cons {fuel : Nat} {listed : Array Bool} {a : Act} {w : World} {i : Nat} {o : Oper} {rs : List Nat} (ho : ops[i]? = some o)
    (h : ∀ K' : Act → World → Prop, Shut (∀ a w, ((listed.setIfInBounds i true).getD k true = false → F w) → wpAnyK P md ops Q k F fuel (listed.setIfInBounds i true) a w → K' a w) → if Region.wanted o (yielded ops a.tmps) = true then Oper.wp P o a w K' Q else K' (a.put o.dst undef) w)
    (hs : AllReadyK P md ops Q k F fuel listed a w rs) : AllReadyK P md ops Q k F fuel listed a w (i :: rs) := fun j hj => by
  rcases List.mem_cons.1 hj with rfl | hj
  · exact wpOp_step ho (fun K' hK => h K' (fun a w hS hW => hK a w ⟨hS, hW⟩))
  · exact hs j hj
theorem wpAnyK_ready {rs : List Nat} {fuel : Nat} {listed : Array Bool} {a : Act} {w : World} (hr : Region.ready md ops listed = rs) (hne : rs ≠ [])
    (h : AllReadyK P md ops Q k F fuel listed a w rs) : wpAnyK P md ops Q k F (fuel + 1) listed a w := ⟨fun h0 => absurd (hr ▸ h0) hne, hr ▸ h⟩
/-- one operation alone may come up -/
theorem wpAnyK_one {i : Nat} {o : Oper} {fuel : Nat} {listed : Array Bool} {a : Act} {w : World} (hr : Region.ready md ops listed = [i]) (ho : ops[i]? = some o)
    (h : ∀ K' : Act → World → Prop, Shut (∀ a w, ((listed.setIfInBounds i true).getD k true = false → F w) → wpAnyK P md ops Q k F fuel (listed.setIfInBounds i true) a w → K' a w) → if Region.wanted o (yielded ops a.tmps) = true then Oper.wp P o a w K' Q else K' (a.put o.dst undef) w) :
    wpAnyK P md ops Q k F (fuel + 1) listed a w := wpAnyK_ready hr (by simp) (AllReadyK.cons ho h AllReadyK.nil)
theorem wpAnyK_done {listed : Array Bool} {a : Act} {w : World} (hr : Region.ready md ops listed = []) (h : Q .normal a w) :
    ∀ fuel, wpAnyK P md ops Q k F fuel listed a w
  | 0 => ⟨hr, h⟩
  | _ + 1 => ⟨fun _ => h, by rw [hr]; simp⟩
theorem wp_region_K {id : Nat} {a : Act} {w : World} (k : Nat) (F : World → Prop) (hm : P.follows .mixedOrders = true)
    (h : wpAnyK P .any ops (NoPanic Q) k F ops.size (Array.replicate ops.size false) a w.drew) : (Code.region id ops true).wp P Q a w :=
  wp_region_noPanic (wp_region_any hm (wpAny_of_K _ _ _ _ h))
end

section
variable {P : Program} {w0 : World} {o : Oper} {a : Act} {K : Act → World → Prop} {Q : Exit → Act → World → Prop} {E' : Prop} {ops : Array Oper}
/-- append of one, as the next operation of a region -/
theorem step_push (hgd : o.guard = none) (s x : Operand) (t : TypeId)
    (ho : o.op = .call { callee := .builtin .append, args := #[s, x], argTypes := #[t, t] }) {base : Nat} {e te : TypeId} {bytes : Nat} (hP : Pushes P t e bytes) {ps : List Pc} (hS : Sep ps w0) (k : Nat) {v u : Value} {n : Nat} {xs : List Value}
    (hk : ps[k]? = some (Pc.row base e 1 v n xs)) (hs : a.eval s = v) (hx : a.eval x = .slice (some ⟨w0.heap.size, 0, none⟩) 1 1) (h1 : u.oneCell' = true) (hn : n ≤ 1000000000) (hby : bytes ≤ 1000) (hbase : base ≤ w0.heap.size)
    (h : ∀ v' w', Sep (ps.set k (Pc.row base e 1 v' (n + 1) (xs ++ [u]))) w' → (∃ g c, v' = .slice (some ⟨g, 0, none⟩) (n + 1) c ∧ n + 1 ≤ c ∧ c ≤ 9223372036854775807) → K (a.put o.dst v') w') :
    if Region.wanted o (yielded ops a.tmps) = true then Oper.wp P o a (w0.alloc (.cells #[u] te)) K Q else E' := by
  obtain ⟨i, z, ht, hi, hz0, hz1, hz2, hz3⟩ := hP.out
  have hb : (n + 1) * bytes ≤ 1000000001 * 1000 := Nat.mul_le_mul (by omega) hby
  rw [if_pos (by simp [Region.wanted, hgd])]
  obtain ⟨v', w', hr, hown, hgrow, -, hat⟩ := run_append_own_at (P := P) (w0.alloc (.cells #[u] te)) base t o.type e i z 1 bytes ht hi hz0 hz1 hz2 hz3 (by decide) v n xs ((hS.row k hk).alloc _) ⟨w0.heap.size, 0, none⟩ 1 1 [u] rfl (cell_one_new _ _ _) (by simpa using h1) (by unfold maxLen; omega) (by omega) (by simp; omega)
  unfold Oper.wp execOp
  simp only [ho, resolve, invoke, builtin, Sem.run_bind, Sem.run_pure, Result.andThen_ok, List.map_toArray, List.map_cons, List.map_nil, hs, hx, hr]
  have hS' := (hS.alloc (.cells #[u] te)).grow k hk hgrow hown (by
    rcases hat with e1 | e1
    · exact .inl e1
    · exact .inr (fun q hq => by rw [e1] at hq; simp only [Option.some.injEq] at hq; omega))
  refine h v' w' hS' ?_
  rcases hown.2 with ⟨_, h2⟩ | ⟨g, cap, cur, h2, _, _, h3, h4, _⟩
  · omega
  · exact ⟨g, cap, h2, h3, by unfold maxLen at h4; omega⟩
end
end Go.Proofs.YtjemdepcaaadiaaGreatDoor

/- APPEND OF ONE ELEMENT OF MANY CELLS, among other pieces. Nothing of any program. -/
namespace Go.Proofs.YtjemdepcaaadiaaGreatDoor
open Go.RowKit

/-- what an append needs to know of a row's type, whose elements have s cells -/
structure PushesN (P : Program) (t e : TypeId) (s bytes : Nat) : Prop where
  out : ∃ (i : TypeInfo) (z : Value), P.underlying t = some (.slice e) ∧ P.info? e = some i ∧ i.zero = some z ∧ i.size = s ∧ i.bytes = bytes ∧ z.cells.size = s
theorem PushesN.mk' {P : Program} {t e : TypeId} {s bytes : Nat} {z : Value} (ht : P.underlying t = some (.slice e)) (h : (P.info? e).map (fun i => (i.zero, i.size, i.bytes)) = some (some z, s, bytes)) (hz : z.cells.size = s) : PushesN P t e s bytes := by
  cases hi : P.info? e with
  | none => rw [hi] at h; cases h
  | some i =>
    rw [hi] at h
    simp only [Option.map_some, Option.some.injEq, Prod.mk.injEq] at h
    exact ⟨i, z, ht, hi, h.1, h.2.1, h.2.2, hz⟩
theorem cells_new (w : World) (cs : List Value) (t : TypeId) : ∀ j u, cs[j]? = some u → (w.alloc (.cells cs.toArray t)).cell? ((⟨w.heap.size, 0, none⟩ : Addr).add j) = some u := by
  intro j u hj
  rw [show (⟨w.heap.size, 0, none⟩ : Addr).add j = ⟨w.heap.size, j, none⟩ by unfold Addr.add; by_cases h0 : j = 0 <;> simp [h0]]
  rw [cell_of_row _ _ _ _ _ _ (heap_alloc_new w _)]
  simpa using hj
section
variable {P : Program} {w0 : World} {o : Oper} {a : Act} {K : Act → World → Prop} {Q : Exit → Act → World → Prop} {E' : Prop} {ops : Array Oper}
theorem run_pushN {t : TypeId} {base : Nat} {e te : TypeId} {sz bytes : Nat} (hP : PushesN P t e sz bytes) (hsz : 0 < sz) {ps : List Pc} (hS : Sep ps w0) (k : Nat) {v : Value} {cs : List Value} {n : Nat} {xs : List Value}
    (hk : ps[k]? = some (Pc.row base e sz v n xs)) (hc : cs.length = sz) (h1 : ∀ u ∈ cs, u.oneCell' = true) (hn : n ≤ 1000000000) (hby : bytes ≤ 10000) (hbase : base ≤ w0.heap.size) (ty : TypeId) :
    ∃ v' w', (Builtin.append_ #[t, t] ty #[v, .slice (some ⟨w0.heap.size, 0, none⟩) 1 1]).run P (w0.alloc (.cells cs.toArray te)) = .ok v' w' ∧ Sep (ps.set k (Pc.row base e sz v' (n + 1) (xs ++ cs))) w' ∧ (∃ g c, v' = .slice (some ⟨g, 0, none⟩) (n + 1) c ∧ n + 1 ≤ c ∧ c ≤ 9223372036854775807) := by
  obtain ⟨i, z, ht, hi, hz0, hz1, hz2, hz3⟩ := hP.out
  have hb : (n + 1) * bytes ≤ 1000000001 * 10000 := Nat.mul_le_mul (by omega) hby
  obtain ⟨v', w', hr, hown, hgrow, -, hat⟩ := run_append_own_at (P := P) (w0.alloc (.cells cs.toArray te)) base t ty e i z sz bytes ht hi hz0 hz1 hz2 hz3 hsz v n xs ((hS.row k hk).alloc _) ⟨w0.heap.size, 0, none⟩ 1 1 cs (by omega) (cells_new _ _ _) h1 (by unfold maxLen; omega) (by omega) (by simp; omega)
  refine ⟨v', w', hr, (hS.alloc (.cells cs.toArray te)).grow k hk hgrow hown (by
    rcases hat with e1 | e1
    · exact .inl e1
    · exact .inr (fun q hq => by rw [e1] at hq; simp only [Option.some.injEq] at hq; omega)), ?_⟩
  rcases hown.2 with ⟨_, h2⟩ | ⟨g, cap, cur, h2, _, _, h3, h4, _⟩
  · omega
  · exact ⟨g, cap, h2, h3, by unfold maxLen at h4; omega⟩
theorem step_pushN (hgd : o.guard = none) (s x : Operand) (t : TypeId)
    (ho : o.op = .call { callee := .builtin .append, args := #[s, x], argTypes := #[t, t] }) {base : Nat} {e te : TypeId} {sz bytes : Nat} (hP : PushesN P t e sz bytes) (hsz : 0 < sz) {ps : List Pc} (hS : Sep ps w0) (k : Nat) {v : Value} {cs : List Value} {n : Nat} {xs : List Value}
    (hk : ps[k]? = some (Pc.row base e sz v n xs)) (hs : a.eval s = v) (hx : a.eval x = .slice (some ⟨w0.heap.size, 0, none⟩) 1 1) (hc : cs.length = sz) (h1 : ∀ u ∈ cs, u.oneCell' = true) (hn : n ≤ 1000000000) (hby : bytes ≤ 10000) (hbase : base ≤ w0.heap.size)
    (h : ∀ v' w', Sep (ps.set k (Pc.row base e sz v' (n + 1) (xs ++ cs))) w' → (∃ g c, v' = .slice (some ⟨g, 0, none⟩) (n + 1) c ∧ n + 1 ≤ c ∧ c ≤ 9223372036854775807) → K (a.put o.dst v') w') :
    if Region.wanted o (yielded ops a.tmps) = true then Oper.wp P o a (w0.alloc (.cells cs.toArray te)) K Q else E' := by
  rw [if_pos (by simp [Region.wanted, hgd])]
  obtain ⟨v', w', hr, h2, h3⟩ := run_pushN (P := P) hP hsz hS k hk hc h1 hn hby hbase o.type (te := te)
  unfold Oper.wp execOp
  simp only [ho, resolve, invoke, builtin, Sem.run_bind, Sem.run_pure, Result.andThen_ok, List.map_toArray, List.map_cons, List.map_nil, hs, hx, hr]
  exact h v' w' h2 h3
theorem wpList_pushN {rest : List Oper} (hgd : o.guard = none) (s x : Operand) (t : TypeId)
    (ho : o.op = .call { callee := .builtin .append, args := #[s, x], argTypes := #[t, t] }) {base : Nat} {e te : TypeId} {sz bytes : Nat} (hP : PushesN P t e sz bytes) (hsz : 0 < sz) {ps : List Pc} (hS : Sep ps w0) (k : Nat) {v : Value} {cs : List Value} {n : Nat} {xs : List Value}
    (hk : ps[k]? = some (Pc.row base e sz v n xs)) (hs : a.eval s = v) (hx : a.eval x = .slice (some ⟨w0.heap.size, 0, none⟩) 1 1) (hc : cs.length = sz) (h1 : ∀ u ∈ cs, u.oneCell' = true) (hn : n ≤ 1000000000) (hby : bytes ≤ 10000) (hbase : base ≤ w0.heap.size)
    (h : ∀ v' w', Sep (ps.set k (Pc.row base e sz v' (n + 1) (xs ++ cs))) w' → (∃ g c, v' = .slice (some ⟨g, 0, none⟩) (n + 1) c ∧ n + 1 ≤ c ∧ c ≤ 9223372036854775807) → wpList P ops Q rest (a.put o.dst v') w') :
    wpList P ops Q (o :: rest) a (w0.alloc (.cells cs.toArray te)) := by
  refine wpList_plain hgd fun K hK => ?_
  obtain ⟨v', w', hr, h2, h3⟩ := run_pushN (P := P) hP hsz hS k hk hc h1 hn hby hbase o.type (te := te)
  unfold Oper.wp execOp
  simp only [ho, resolve, invoke, builtin, Sem.run_bind, Sem.run_pure, Result.andThen_ok, List.map_toArray, List.map_cons, List.map_nil, hs, hx, hr]
  exact hK _ _ (h v' w' h2 h3)
end
/-- the j-th cell of the i-th of elements that have s cells each -/
theorem flat_get {α β : Type} (f : α → List β) (s : Nat) : ∀ (L : List α) (i j : Nat) (x : α), (∀ y ∈ L, (f y).length = s) → L[i]? = some x → j < s → (L.flatMap f)[i * s + j]? = (f x)[j]?
  | [], i, _, _, _, h, _ => by simp at h
  | y :: L, 0, j, x, hl, h, hj => by
    simp only [List.getElem?_cons_zero, Option.some.injEq] at h
    subst h
    rw [List.flatMap_cons, Nat.zero_mul, Nat.zero_add, List.getElem?_append_left (by rw [hl y (List.mem_cons_self ..)]; exact hj)]
  | y :: L, i + 1, j, x, hl, h, hj => by
    rw [List.getElem?_cons_succ] at h
    have hy := hl y (List.mem_cons_self ..)
    rw [List.flatMap_cons, List.getElem?_append_right (by rw [hy, Nat.succ_mul]; omega), hy, show (i + 1) * s + j - s = i * s + j by rw [Nat.succ_mul]; omega]
    exact flat_get f s L i j x (fun z hz => hl z (List.mem_cons_of_mem _ hz)) h hj
end Go.Proofs.YtjemdepcaaadiaaGreatDoor

/- THE RUNNER: what opens one, all its states, what closes a state, which error is told. -/
namespace Go.Proofs.YtjemdepcaaadiaaGreatDoor
open Go.RowKit

/-- the ways on, by how often an item stands -/
def how1 : MapEntry := ⟨.int .i64 0, .func (.func 94) #[] #[], 0⟩
def how2 : MapEntry := ⟨.int .i64 1, .func (.func 95) #[] #[], 1⟩
def how3 : MapEntry := ⟨.int .i64 2, .func (.func 96) #[] #[], 2⟩
/-- a runner that lies in memory -/
structure Rn (w : World) (r m : Nat) (st : Bool) (v : Value) (l : List N.Item) : Prop where
  blk : Blk w r 156 #[.bool st, v, .map (some m)]
  how : w.heap[m]? = some (.map #[how1, how2, how3] 3)
  items : ItemsAt w v l
  right : rightB l = true
theorem Rn.below {w w' : World} {r m : Nat} {st : Bool} {v : Value} {l : List N.Item} (h : Rn w r m st v l) (hb : Below w.heap.size w w') : Rn w' r m st v l :=
  ⟨h.blk.below hb h.blk.lt, (hb.block m (Array.getElem?_eq_some_iff.1 h.how).1).trans h.how, h.items.below hb, h.right⟩
theorem Rn.len {w : World} {r m : Nat} {st : Bool} {v : Value} {l : List N.Item} (h : Rn w r m st v l) : l.length ≤ 10 := by
  have := h.right
  unfold rightB at this
  rw [Bool.and_eq_true] at this
  exact of_decide_eq_true this.1

theorem most_cast (l : List N.Item) : ((2 : Int) ^ (2 * l.length + 1) - 1) = (N.most l : Int) := by
  unfold N.most
  have : 0 < 2 ^ (2 * l.length + 1) := Nat.two_pow_pos _
  rw [show ((2 : Int) ^ (2 * l.length + 1)) = ((2 ^ (2 * l.length + 1) : Nat) : Int) by simp]
  omega

set_option maxHeartbeats 1000000 in
theorem all_any (r m : Nat) (st : Bool) (v : Value) (l : List N.Item) (w : World) (h : Rn w r m st v l) :
    Calls Tryz.prog 97 #[.pointer (some ⟨r, 0, none⟩)] w fun e w' => e = .returned (.int .i64 (N.most l)) ∧ w = w' := by
  have hl := h.len
  obtain ⟨ao, cap, rfl⟩ := h.items.slice
  have c1 : w.cell? ⟨r, 1, none⟩ = some (.slice ao l.length cap) := (h.blk.cell 1).trans rfl
  clear h
  go_enter Tryz.func97, Tryz.ntmps97
  go_wp2
  go_ret
  refine ⟨ret_int ?_, rfl⟩
  have h1 := pow_le (2 * l.length + 1) (by omega)
  have h0 : (0 : Int) ≤ 2 ^ (2 * l.length + 1) := by rw [show ((2 : Int) ^ (2 * l.length + 1)) = ((2 ^ (2 * l.length + 1) : Nat) : Int) by simp]; exact Int.natCast_nonneg _
  rw [← most_cast]
  generalize (2 : Int) ^ (2 * l.length + 1) = z at h0 h1 ⊢
  unfold wrap64
  omega

theorem told_any (A : Nat → Addr) (B : Nat) (w : World) (hE : E A B w) :
    Calls Tryz.prog 77 #[errV A 2] w fun e w' => e = .returned (.int .i64 80) ∧ w = w' := by
  have hg := hE.cell 2 (by decide)
  have HI := Box.mk (is_sents hE 2 2 (by decide) (by decide))
  clear hE
  unfold errV
  go_enter Tryz.func77, Tryz.ntmps77
  go_wp2_with fail
  refine HI.out.mono ?_; rintro e w1 ⟨rfl, rfl⟩
  go_wp2_with fail
  go_ret
  exact ⟨rfl, rfl⟩

def openOk (w : World) (st : Bool) (v : Value) (l : List N.Item) (e : Ending) (w' : World) : Prop := Below w.heap.size w w' ∧ ∃ r m, e = .returned (.tuple #[.pointer (some ⟨r, 0, none⟩), .nilIface]) ∧ Rn w' r m st v l
def openNo (w : World) (A : Nat → Addr) (e : Ending) (w' : World) : Prop := Below w.heap.size w w' ∧ e = .returned (.tuple #[.pointer none, errV A 2])

set_option maxHeartbeats 4000000 in
/-- a pattern that is not right -/
theorem open_bad (A : Nat → Addr) (B : Nat) (st : Bool) (v : Value) (l : List N.Item) (w : World) (hv : ItemsAt w v l) (hz : l.length ≤ 16777216) (hE : E A B w) (hB : B ≤ w.heap.size) (HR : Box (rightB l = false)) (sets : Value) :
    Calls Tryz.prog 76 #[.agg #[.bool st, v], sets] w (openNo w A) := by
  have hmm := @run_makeMap Tryz.prog
  have hins0 := fun (W : World) (o : Obj) => map_ins (P := Tryz.prog) Tryz.underlying154 Tryz.underlying3 (W.alloc o) #[] 0 0 how1.val (W.heap.size + 1) (by simp) rfl
  have hins1 := fun (W : World) (o : Obj) => map_ins (P := Tryz.prog) Tryz.underlying154 Tryz.underlying3 (W.alloc o) #[how1] 1 1 how2.val (W.heap.size + 1) (by simp) rfl
  have hins2 := fun (W : World) (o : Obj) => map_ins (P := Tryz.prog) Tryz.underlying154 Tryz.underlying3 (W.alloc o) #[how1, how2] 2 2 how3.val (W.heap.size + 1) (by simp) rfl
  simp only [List.push_toArray, List.nil_append, List.cons_append, how1, how2, how3, Nat.reduceAdd, Nat.zero_add] at hins0 hins1 hins2
  obtain ⟨W3, hW3⟩ : ∃ W3, W3 = (((w.alloc (.cells #[.bool st, v] 49)).alloc (.map #[how1, how2, how3] 3)).alloc (.cells #[.bool st, v, .map (some (w.heap.size + 1))] 156)) := ⟨_, rfl⟩
  have hw : Below w.heap.size w W3 := by rw [hW3]; exact (((Below.refl _ _).alloc (Nat.le_refl _) _).alloc (by simp) _).alloc (by simp; omega) _
  have HM := Box.mk (show W3.heap[w.heap.size + 1]? = some (.map #[how1, how2, how3] 3) by
    rw [hW3]
    refine (Below.heap_alloc _ _ _ (by simp)).trans ?_
    have := heap_alloc_new (w.alloc (.cells #[.bool st, v] 49)) (.map #[how1, how2, how3] 3)
    simpa using this)
  have HBK := Box.mk (show Blk W3 (w.heap.size + 1 + 1) 156 #[.bool st, v, .map (some (w.heap.size + 1))] by
    rw [hW3]
    have := Blk.new ((w.alloc (.cells #[.bool st, v] 49)).alloc (.map #[how1, how2, how3] 3)) 156 #[.bool st, v, .map (some (w.heap.size + 1))]
    simpa using this)
  have hv3 := hv.below hw
  have HRN := Box.mk (fun hr => (⟨HBK.out, HM.out, hv3, hr⟩ : Rn W3 (w.heap.size + 1 + 1) (w.heap.size + 1) st v l))
  have HP := Box.mk (pright_any st v l W3 hv3 hz)
  have HW := Box.mk hw
  have HE3 := Box.mk (hE.below (hw.mono hB))
  clear hv3 hw hE
  have HV := Box.mk hv
  obtain ⟨ao, cap, rfl⟩ := hv.slice
  clear hv
  have H3 := Box.mk hW3
  clear hW3
  go_enter Tryz.func76, Tryz.ntmps76
  go_wp2_with fail
  refine wp_scope_fwd 0 rfl ?_
  go_wp2_with fail
  have h3 := H3.out
  simp only [how1, how2, how3] at h3
  rw [← h3]
  clear h3 hins0 hins1 hins2 hmm
  refine HP.out.mono ?_; rintro e w1 ⟨rfl, hb1⟩; rw [HR.out]
  have hE1 := HE3.out.below (hb1.mono (Nat.le_trans hB HW.out.size))
  have HB1 := Box.mk hb1
  clear hb1
  go_wp2_with fail
  go_step3
  refine ⟨rfl, ?_⟩
  have hg := hE1.cell 2 (by decide)
  clear hE1
  go_wp2_with fail
  go_region
  go_wp2_with fail
  rw [Exit.noGoto_ret]
  go_ret2
  exact ⟨below_drewN (HW.out.trans (HB1.out.mono HW.out.size)) 1, rfl⟩

set_option maxHeartbeats 4000000 in
/-- no sets are asked about -/
theorem open_ok (A : Nat → Addr) (B : Nat) (st : Bool) (v : Value) (l : List N.Item) (w : World) (hv : ItemsAt w v l) (hz : l.length ≤ 16777216) (hE : E A B w) (hB : B ≤ w.heap.size) (HR : Box (rightB l = true)) :
    Calls Tryz.prog 76 #[.agg #[.bool st, v], .slice none 0 0] w (openOk w st v l) := by
  have hmm := @run_makeMap Tryz.prog
  have hins0 := fun (W : World) (o : Obj) => map_ins (P := Tryz.prog) Tryz.underlying154 Tryz.underlying3 (W.alloc o) #[] 0 0 how1.val (W.heap.size + 1) (by simp) rfl
  have hins1 := fun (W : World) (o : Obj) => map_ins (P := Tryz.prog) Tryz.underlying154 Tryz.underlying3 (W.alloc o) #[how1] 1 1 how2.val (W.heap.size + 1) (by simp) rfl
  have hins2 := fun (W : World) (o : Obj) => map_ins (P := Tryz.prog) Tryz.underlying154 Tryz.underlying3 (W.alloc o) #[how1, how2] 2 2 how3.val (W.heap.size + 1) (by simp) rfl
  simp only [List.push_toArray, List.nil_append, List.cons_append, how1, how2, how3, Nat.reduceAdd, Nat.zero_add] at hins0 hins1 hins2
  obtain ⟨W3, hW3⟩ : ∃ W3, W3 = (((w.alloc (.cells #[.bool st, v] 49)).alloc (.map #[how1, how2, how3] 3)).alloc (.cells #[.bool st, v, .map (some (w.heap.size + 1))] 156)) := ⟨_, rfl⟩
  have hw : Below w.heap.size w W3 := by rw [hW3]; exact (((Below.refl _ _).alloc (Nat.le_refl _) _).alloc (by simp) _).alloc (by simp; omega) _
  have HM := Box.mk (show W3.heap[w.heap.size + 1]? = some (.map #[how1, how2, how3] 3) by
    rw [hW3]
    refine (Below.heap_alloc _ _ _ (by simp)).trans ?_
    have := heap_alloc_new (w.alloc (.cells #[.bool st, v] 49)) (.map #[how1, how2, how3] 3)
    simpa using this)
  have HBK := Box.mk (show Blk W3 (w.heap.size + 1 + 1) 156 #[.bool st, v, .map (some (w.heap.size + 1))] by
    rw [hW3]
    have := Blk.new ((w.alloc (.cells #[.bool st, v] 49)).alloc (.map #[how1, how2, how3] 3)) 156 #[.bool st, v, .map (some (w.heap.size + 1))]
    simpa using this)
  have hv3 := hv.below hw
  have HRN := Box.mk (fun hr => (⟨HBK.out, HM.out, hv3, hr⟩ : Rn W3 (w.heap.size + 1 + 1) (w.heap.size + 1) st v l))
  have HP := Box.mk (pright_any st v l W3 hv3 hz)
  have HW := Box.mk hw
  have HE3 := Box.mk (hE.below (hw.mono hB))
  clear hv3 hw hE
  have HV := Box.mk hv
  obtain ⟨ao, cap, rfl⟩ := hv.slice
  clear hv
  have H3 := Box.mk hW3
  clear hW3
  go_enter Tryz.func76, Tryz.ntmps76
  go_wp2_with fail
  refine wp_scope_fwd 0 rfl ?_
  go_wp2_with fail
  have h3 := H3.out
  simp only [how1, how2, how3] at h3
  rw [← h3]
  clear h3 hins0 hins1 hins2 hmm
  refine HP.out.mono ?_; rintro e w1 ⟨rfl, hb1⟩; rw [HR.out]
  have HRN1 := Box.mk ((HRN.out HR.out).below hb1)
  have HB1 := Box.mk hb1
  clear hb1
  go_wp2_with fail
  go_rounds 1
  go_wp2_with fail
  rw [fwd_ret]
  go_ret2
  exact ⟨HW.out.trans (HB1.out.mono HW.out.size), _, _, rfl, HRN1.out⟩

set_option maxHeartbeats 4000000 in
/-- one set, that may be -/
theorem open_set_ok (A : Nat → Addr) (B : Nat) (st : Bool) (v : Value) (l : List N.Item) (w : World) (hv : ItemsAt w v l) (hz : l.length ≤ 16777216) (hE : E A B w) (hB : B ≤ w.heap.size) (HR : Box (rightB l = true)) (sb : Nat) (x : Int) (hs : w.cell? ⟨sb, 0, none⟩ = some (.int .i64 x)) (h0 : 0 ≤ x) (h1 : x ≤ N.most l) :
    Calls Tryz.prog 76 #[.agg #[.bool st, v], .slice (some ⟨sb, 0, none⟩) 1 1] w (openOk w st v l) := by
  have hmm := @run_makeMap Tryz.prog
  have hins0 := fun (W : World) (o : Obj) => map_ins (P := Tryz.prog) Tryz.underlying154 Tryz.underlying3 (W.alloc o) #[] 0 0 how1.val (W.heap.size + 1) (by simp) rfl
  have hins1 := fun (W : World) (o : Obj) => map_ins (P := Tryz.prog) Tryz.underlying154 Tryz.underlying3 (W.alloc o) #[how1] 1 1 how2.val (W.heap.size + 1) (by simp) rfl
  have hins2 := fun (W : World) (o : Obj) => map_ins (P := Tryz.prog) Tryz.underlying154 Tryz.underlying3 (W.alloc o) #[how1, how2] 2 2 how3.val (W.heap.size + 1) (by simp) rfl
  simp only [List.push_toArray, List.nil_append, List.cons_append, how1, how2, how3, Nat.reduceAdd, Nat.zero_add] at hins0 hins1 hins2
  obtain ⟨W3, hW3⟩ : ∃ W3, W3 = (((w.alloc (.cells #[.bool st, v] 49)).alloc (.map #[how1, how2, how3] 3)).alloc (.cells #[.bool st, v, .map (some (w.heap.size + 1))] 156)) := ⟨_, rfl⟩
  have hw : Below w.heap.size w W3 := by rw [hW3]; exact (((Below.refl _ _).alloc (Nat.le_refl _) _).alloc (by simp) _).alloc (by simp; omega) _
  have HM := Box.mk (show W3.heap[w.heap.size + 1]? = some (.map #[how1, how2, how3] 3) by
    rw [hW3]
    refine (Below.heap_alloc _ _ _ (by simp)).trans ?_
    have := heap_alloc_new (w.alloc (.cells #[.bool st, v] 49)) (.map #[how1, how2, how3] 3)
    simpa using this)
  have HBK := Box.mk (show Blk W3 (w.heap.size + 1 + 1) 156 #[.bool st, v, .map (some (w.heap.size + 1))] by
    rw [hW3]
    have := Blk.new ((w.alloc (.cells #[.bool st, v] 49)).alloc (.map #[how1, how2, how3] 3)) 156 #[.bool st, v, .map (some (w.heap.size + 1))]
    simpa using this)
  have hv3 := hv.below hw
  have HRN := Box.mk (fun hr => (⟨HBK.out, HM.out, hv3, hr⟩ : Rn W3 (w.heap.size + 1 + 1) (w.heap.size + 1) st v l))
  have HP := Box.mk (pright_any st v l W3 hv3 hz)
  have HW := Box.mk hw
  have HE3 := Box.mk (hE.below (hw.mono hB))
  clear hv3 hw hE
  have HV := Box.mk hv
  obtain ⟨ao, cap, rfl⟩ := hv.slice
  clear hv
  have H3 := Box.mk hW3
  clear hW3
  go_enter Tryz.func76, Tryz.ntmps76
  go_wp2_with fail
  refine wp_scope_fwd 0 rfl ?_
  go_wp2_with fail
  have h3 := H3.out
  simp only [how1, how2, how3] at h3
  rw [← h3]
  clear h3 hins0 hins1 hins2 hmm
  refine HP.out.mono ?_; rintro e w1 ⟨rfl, hb1⟩; rw [HR.out]
  have HRN1 := Box.mk ((HRN.out HR.out).below hb1)
  have HB1 := Box.mk hb1
  have hc : w1.cell? ⟨sb, 0, none⟩ = some (.int .i64 x) := ((HW.out.trans (hb1.mono HW.out.size)).cell (p := ⟨sb, 0, none⟩) (World.block_lt_of_cell? w _ hs)).trans hs
  clear hb1 hs
  have h1' : ¬ (N.most l : Int) < x := by omega
  go_wp2_with fail
  refine wp_loop_rounds 2 ?_
  rw [rounds_succ]
  go_wp2_with fail
  refine (all_any _ _ st _ l _ HRN1.out).mono ?_; rintro e w2 ⟨rfl, rfl⟩
  go_wp2_with fail
  rw [rounds_succ]
  go_wp2_with fail
  rw [fwd_ret]
  go_ret2
  exact ⟨HW.out.trans (HB1.out.mono HW.out.size), _, _, rfl, HRN1.out⟩

set_option maxHeartbeats 4000000 in
/-- one set, that may not be -/
theorem open_set_bad (A : Nat → Addr) (B : Nat) (st : Bool) (v : Value) (l : List N.Item) (w : World) (hv : ItemsAt w v l) (hz : l.length ≤ 16777216) (hE : E A B w) (hB : B ≤ w.heap.size) (HR : Box (rightB l = true)) (sb : Nat) (x : Int) (hs : w.cell? ⟨sb, 0, none⟩ = some (.int .i64 x)) (h : x < 0 ∨ (0 ≤ x ∧ (N.most l : Int) < x)) :
    Calls Tryz.prog 76 #[.agg #[.bool st, v], .slice (some ⟨sb, 0, none⟩) 1 1] w (openNo w A) := by
  have hmm := @run_makeMap Tryz.prog
  have hins0 := fun (W : World) (o : Obj) => map_ins (P := Tryz.prog) Tryz.underlying154 Tryz.underlying3 (W.alloc o) #[] 0 0 how1.val (W.heap.size + 1) (by simp) rfl
  have hins1 := fun (W : World) (o : Obj) => map_ins (P := Tryz.prog) Tryz.underlying154 Tryz.underlying3 (W.alloc o) #[how1] 1 1 how2.val (W.heap.size + 1) (by simp) rfl
  have hins2 := fun (W : World) (o : Obj) => map_ins (P := Tryz.prog) Tryz.underlying154 Tryz.underlying3 (W.alloc o) #[how1, how2] 2 2 how3.val (W.heap.size + 1) (by simp) rfl
  simp only [List.push_toArray, List.nil_append, List.cons_append, how1, how2, how3, Nat.reduceAdd, Nat.zero_add] at hins0 hins1 hins2
  obtain ⟨W3, hW3⟩ : ∃ W3, W3 = (((w.alloc (.cells #[.bool st, v] 49)).alloc (.map #[how1, how2, how3] 3)).alloc (.cells #[.bool st, v, .map (some (w.heap.size + 1))] 156)) := ⟨_, rfl⟩
  have hw : Below w.heap.size w W3 := by rw [hW3]; exact (((Below.refl _ _).alloc (Nat.le_refl _) _).alloc (by simp) _).alloc (by simp; omega) _
  have HM := Box.mk (show W3.heap[w.heap.size + 1]? = some (.map #[how1, how2, how3] 3) by
    rw [hW3]
    refine (Below.heap_alloc _ _ _ (by simp)).trans ?_
    have := heap_alloc_new (w.alloc (.cells #[.bool st, v] 49)) (.map #[how1, how2, how3] 3)
    simpa using this)
  have HBK := Box.mk (show Blk W3 (w.heap.size + 1 + 1) 156 #[.bool st, v, .map (some (w.heap.size + 1))] by
    rw [hW3]
    have := Blk.new ((w.alloc (.cells #[.bool st, v] 49)).alloc (.map #[how1, how2, how3] 3)) 156 #[.bool st, v, .map (some (w.heap.size + 1))]
    simpa using this)
  have hv3 := hv.below hw
  have HRN := Box.mk (fun hr => (⟨HBK.out, HM.out, hv3, hr⟩ : Rn W3 (w.heap.size + 1 + 1) (w.heap.size + 1) st v l))
  have HP := Box.mk (pright_any st v l W3 hv3 hz)
  have HW := Box.mk hw
  have HE3 := Box.mk (hE.below (hw.mono hB))
  clear hv3 hw hE
  have HV := Box.mk hv
  obtain ⟨ao, cap, rfl⟩ := hv.slice
  clear hv
  have H3 := Box.mk hW3
  clear hW3
  go_enter Tryz.func76, Tryz.ntmps76
  go_wp2_with fail
  refine wp_scope_fwd 0 rfl ?_
  go_wp2_with fail
  have h3 := H3.out
  simp only [how1, how2, how3] at h3
  rw [← h3]
  clear h3 hins0 hins1 hins2 hmm
  refine HP.out.mono ?_; rintro e w1 ⟨rfl, hb1⟩; rw [HR.out]
  have HRN1 := Box.mk ((HRN.out HR.out).below hb1)
  have hE1 := HE3.out.below (hb1.mono (Nat.le_trans hB HW.out.size))
  have HB1 := Box.mk hb1
  have hc : w1.cell? ⟨sb, 0, none⟩ = some (.int .i64 x) := ((HW.out.trans (hb1.mono HW.out.size)).cell (p := ⟨sb, 0, none⟩) (World.block_lt_of_cell? w _ hs)).trans hs
  clear hb1 hs
  go_wp2_with fail
  refine wp_loop_rounds 2 ?_
  rw [rounds_succ]
  rcases h with h | ⟨h, h'⟩
  · go_wp2_with fail
    go_step3
    refine ⟨rfl, ?_⟩
    have hg := hE1.cell 2 (by decide)
    clear hE1
    go_wp2_with fail
    go_region
    go_wp2_with fail
    rw [Exit.noGoto_ret]
    go_ret2
    exact ⟨below_drewN (HW.out.trans (HB1.out.mono HW.out.size)) 1, rfl⟩
  · go_wp2_with fail
    refine (all_any _ _ st _ l _ HRN1.out).mono ?_; rintro e w2 ⟨rfl, rfl⟩
    go_wp2_with fail
    go_step3
    refine ⟨rfl, ?_⟩
    have hg := hE1.cell 2 (by decide)
    clear hE1
    go_wp2_with fail
    go_region
    go_wp2_with fail
    rw [Exit.noGoto_ret]
    go_ret2
    exact ⟨below_drewN (HW.out.trans (HB1.out.mono HW.out.size)) 1, rfl⟩
end Go.Proofs.YtjemdepcaaadiaaGreatDoor

/- STATES CLOSED BY THE RUNNER. -/
namespace Go.Proofs.YtjemdepcaaadiaaGreatDoor
open Go.RowKit

theorem pow_cast (k : Nat) : (2 : Int) ^ k = ((2 ^ k : Nat) : Int) := by simp
theorem or_pow (S m : Nat) (hS : S < 1099511627776) (hm : m ≤ 39) : bits .or .i64 (S : Int) (wrap64 (2 ^ m)) = ((S ||| 2 ^ m : Nat) : Int) := by
  have h1 := pow_le m (by omega)
  rw [pow_cast] at h1 ⊢
  generalize 2 ^ m = z at h1 ⊢
  rw [IntWalk.wrap64_in _ (by omega), i64_or_nat _ _ (by omega) (by omega)]
theorem or_small (S m k : Nat) (hS : S < 2 ^ k) (hm : m < k) : S ||| 2 ^ m < 2 ^ k := Nat.or_lt_two_pow hS (Nat.pow_lt_pow_right (by omega) hm)
theorem lt_40 (S k : Nat) (hS : S < 2 ^ k) (hk : k ≤ 40) : S < 1099511627776 := by
  have : 2 ^ k ≤ 2 ^ 40 := Nat.pow_le_pow_right (by omega) hk
  omega

set_option maxHeartbeats 4000000 in
theorem closed_any (r m : Nat) (st : Bool) (v : Value) (l : List N.Item) (w : World) (h : Rn w r m st v l) (sb n : Nat) (hs : w.cell? ⟨sb, 0, none⟩ = some (.int .i64 n)) (hn : n ≤ 2 * l.length) :
    Calls Tryz.prog 78 #[.pointer (some ⟨r, 0, none⟩), .slice (some ⟨sb, 0, none⟩) 1 1] w fun e w' => e = .returned (.int .i64 (N.clo l n)) ∧ Below w.heap.size w w' := by
  have hl := h.len
  have HR := Box.mk h
  obtain ⟨ao, cap, rfl⟩ := h.items.slice
  clear h
  go_enter Tryz.func78, Tryz.ntmps78
  go_wp2_with fail
  refine wp_loop_rounds 2 ?_
  rw [rounds_succ]
  go_wp2_with fail
  clear hs
  go_loopw [5, 7] (fun s i wr => ∃ S k : Nat, s = .int .i64 S ∧ i = .int .i64 k ∧ k ≤ 2 * l.length ∧ Box (S ||| N.clo l k = N.clo l n) ∧ Box (S < 2 ^ (2 * l.length + 1)) ∧ Box (Below w.heap.size w wr)) (fun _ i _ => 2 * l.length + 2 - (intOf i).toNat)
  case atStart => exact ⟨0, n, rfl, rfl, hn, ⟨Nat.zero_or _⟩, ⟨Nat.two_pow_pos _⟩, ⟨Below.refl _ _⟩⟩
  case round =>
    obtain ⟨S, k, rfl, rfl, hk, he, hS, hb⟩ := hrel
    have HRr := Box.mk (HR.out.below hb.out)
    have c1 : wr.cell? ⟨r, 1, none⟩ = some (.slice ao l.length cap) := (HRr.out.blk.cell 1).trans rfl
    have HO := Box.mk (or_pow S k (lt_40 _ _ hS.out (by omega)) (by omega))
    by_cases hodd : k % 2 = 1
    · have HC := Box.mk (N.clo_odd l k hodd)
      go_wp2_with fail
      rw [rounds_succ]
      go_wp2_with fail
      go_ret
      exact ⟨ret_int (by rw [HO.out, ← he.out, HC.out]), hb.out⟩
    have hev : k % 2 = 0 := by omega
    by_cases hend : l.length ≤ k / 2
    · have HC := Box.mk (N.clo_end l k hend)
      clear hodd
      go_wp2_with fail
      rw [rounds_succ]
      go_wp2_with fail
      go_ret
      exact ⟨ret_int (by rw [HO.out, ← he.out, HC.out]), hb.out⟩
    obtain ⟨x, hx⟩ : ∃ x, l[k / 2]? = some x := ⟨_, List.getElem?_eq_getElem (by omega)⟩
    obtain ⟨g, off, cap2, hg1, hg2, hg3, hg4, hg5⟩ := HRr.out.items.get (by rintro rfl; simp at hend)
    obtain ⟨rfl, rfl⟩ : ao = some ⟨g, off, none⟩ ∧ cap = cap2 := by injection hg1 with h1 h2 h3; exact ⟨h1, h3⟩
    obtain ⟨hc1, hc2⟩ := hg5 _ x hx
    have HH := Box.mk (show N.howAt l (k / 2) = x.2 by unfold N.howAt; simp [List.getD, hx])
    unfold maxLen at hg3
    have hlt : k / 2 < l.length := by omega
    have hlr := HRr.out.blk.lt
    have t1 : ((k : Int) % 2 == 1) = false := by rw [beq_eq_false_iff_ne]; omega
    have t2 : decide ((l.length : Int) ≤ (k : Int) / 2) = false := by rw [decide_eq_false_iff_not]; omega
    have HBA := Box.mk (fun o m => below_drewN (hb.out.alloc hb.out.size o) m)
    clear hx hg1 hg5 hodd hend
    obtain ⟨set, how⟩ := x
    by_cases h0 : how = 0
    · have HC := Box.mk (N.clo_once l k (HH.out.trans h0))
      subst h0
      go_wp2_with fail
      go_quiet (fail)
      go_wp2_with fail
      rw [rounds_succ]
      go_wp2_with fail
      go_ret
      exact ⟨ret_int (by rw [HO.out, ← he.out, HC.out]), HBA.out _ _⟩
    · have HC := Box.mk (N.clo_next l k hev hlt (by rw [HH.out]; exact h0))
      have t3 : (how == 0) = false := by rw [beq_eq_false_iff_ne]; exact h0
      have HE := Box.mk (show S ||| 2 ^ k ||| N.clo l (k + 2) = N.clo l n by rw [Nat.or_assoc, ← HC.out]; exact he.out)
      have HS := Box.mk (or_small S k _ hS.out (show k < 2 * l.length + 1 by omega))
      go_wp2_with fail
      go_quiet (fail)
      go_wp2_with fail
      go_roundw
      case rel => exact ⟨S ||| 2 ^ k, k + 2, by rw [HO.out], by go_num, by omega, HE, HS, ⟨HBA.out _ _⟩⟩
      case measure => simp [intOf]; omega
end Go.Proofs.YtjemdepcaaadiaaGreatDoor
