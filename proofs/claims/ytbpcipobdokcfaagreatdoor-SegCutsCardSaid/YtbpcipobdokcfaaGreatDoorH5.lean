/-
  Texts of this claim, one behind the other: DfJ, DfK, DfL, DfM, DfN, DfO.
-/
import Derived.Test.YtbpcipobdokcfaaGreatDoorH4
import Derived.Maps.OwnIn

/- WHICH RULES ARE DONE AT SOME SETS; what sets have together; which error is told. -/
namespace Go.Proofs.YtbpcipobdokcfaaGreatDoor
open Go.RowKit Go.Shelf
attribute [local go_sem] Oper.semAt_some

def orAll (xs : List Nat) : Nat := xs.foldl (fun a b => a ||| b) 0
theorem orAll_snoc (xs : List Nat) (x : Nat) : orAll (xs ++ [x]) = orAll xs ||| x := by unfold orAll; rw [List.foldl_append]; rfl
theorem orAll_lt (xs : List Nat) (k : Nat) (h : ∀ x ∈ xs, x < 2 ^ k) : orAll xs < 2 ^ k := by
  have key : ∀ (l : List Nat) (a : Nat), a < 2 ^ k → (∀ x ∈ l, x < 2 ^ k) → l.foldl (fun a b => a ||| b) a < 2 ^ k := by
    intro l
    induction l with
    | nil => intro a ha _; exact ha
    | cons x t ih => intro a ha hx; exact ih _ (Nat.or_lt_two_pow ha (hx x (List.mem_cons_self ..))) (fun y hy => hx y (List.mem_cons_of_mem _ hy))
  exact key xs 0 (Nat.two_pow_pos k) h
theorem take_snoc' {α : Type} (xs : List α) (k : Nat) (x : α) (h : xs[k]? = some x) : xs.take (k + 1) = xs.take k ++ [x] := by rw [List.take_add_one, h]; rfl

set_option maxHeartbeats 1000000 in
theorem union_any (v : Value) (xs : List Nat) (w : World) (hv : IntsAt w v (xs.map fun x : Nat => (x : Int))) (hx : ∀ x ∈ xs, x < 2 ^ 40) (hz : xs.length ≤ 16777216) :
    Calls Tryz.prog 100 #[v] w fun e w' => e = .returned (.int .i64 (orAll xs)) ∧ w = w' := by
  have HV := Box.mk hv
  have HX := Box.mk hx
  obtain ⟨va, vc, rfl⟩ := hv.slice
  rw [List.length_map] at HV ⊢
  clear hv hx
  go_enter Tryz.func100, Tryz.ntmps100
  go_wp2
  go_loop [3, 8] (fun o i => ∃ k : Nat, k ≤ xs.length ∧ i = .int .i64 k ∧ o = .int .i64 (orAll (xs.take k))) (fun _ i => xs.length - (intOf i).toNat)
  case atStart => exact ⟨0, by omega, rfl, rfl⟩
  case round =>
    obtain ⟨k, hk, rfl, rfl⟩ := hrel
    by_cases hlt : k < xs.length
    · obtain ⟨x, hxk⟩ : ∃ x, xs[k]? = some x := ⟨_, List.getElem?_eq_getElem hlt⟩
      obtain ⟨g, off, cap2, hg1, hg2, hg3, hg4, hg5⟩ := HV.out.get (by intro e; have := congrArg List.length e; simp at this; subst this; simp at hlt)
      rw [List.length_map] at hg1 hg2
      obtain ⟨rfl, rfl⟩ : va = some ⟨g, off, none⟩ ∧ vc = cap2 := by injection hg1 with h1 h2 h3; exact ⟨h1, h3⟩
      have hcx := hg5 k x (by rw [List.getElem?_map, hxk]; rfl)
      have h1 := orAll_lt (xs.take k) 40 (fun y hy => HX.out y (List.mem_of_mem_take hy))
      have h2 := HX.out x (List.mem_of_getElem? hxk)
      have HOR := Box.mk (show bits .or .i64 (orAll (xs.take k) : Int) (x : Int) = (orAll (xs.take (k + 1)) : Int) by rw [i64_or_nat _ _ (by omega) (by omega), take_snoc' xs k x hxk, orAll_snoc])
      unfold maxLen at hg3
      clear hg1 hg5 hxk
      go_wp2
      rw [HOR.out]
      go_round
      case rel => exact ⟨k + 1, hlt, by go_num, rfl⟩
      case measure => simp [intOf]; omega
    · obtain rfl : k = xs.length := by omega
      go_wp2
      go_ret
      exact ⟨rfl, rfl⟩

/-- the sets of one, of those of the first k rules that are done -/
def doneL (rs : List D.Side) (S : D.Sets) (k : Nat) : List Nat := ((List.range k).filter (D.doneAt rs S)).map (2 ^ ·)
theorem doneL_yes {rs : List D.Side} {S : D.Sets} {k : Nat} (h : D.doneAt rs S k = true) : doneL rs S (k + 1) = doneL rs S k ++ [2 ^ k] := by
  unfold doneL; rw [List.range_succ, List.filter_append, List.map_append]; simp [h]
theorem doneL_no {rs : List D.Side} {S : D.Sets} {k : Nat} (h : D.doneAt rs S k = false) : doneL rs S (k + 1) = doneL rs S k := by
  unfold doneL; rw [List.range_succ, List.filter_append, List.map_append]; simp [h]
theorem doneL_or (rs : List D.Side) (S : D.Sets) : ∀ k, orAll (doneL rs S k) = D.doneTo rs S k
  | 0 => rfl
  | k + 1 => by
    unfold D.doneTo
    cases h : D.doneAt rs S k with
    | true => rw [doneL_yes h, orAll_snoc, doneL_or rs S k, if_pos rfl]
    | false => rw [doneL_no h, doneL_or rs S k, if_neg (by simp)]
theorem doneL_len (rs : List D.Side) (S : D.Sets) (k : Nat) : (doneL rs S k).length ≤ k := by
  unfold doneL; rw [List.length_map]; exact Nat.le_trans (List.length_filter_le _ _) (by simp)
theorem doneL_lt {rs : List D.Side} {S : D.Sets} {k : Nat} (hk : k ≤ 40) : ∀ x ∈ doneL rs S k, x < 2 ^ 40 := by
  intro x hx
  unfold doneL at hx
  obtain ⟨i, hi, rfl⟩ := List.mem_map.1 hx
  have := List.mem_range.1 (List.mem_filter.1 hi).1
  exact Nat.pow_lt_pow_right (by omega) (by omega)

theorem wrap_pow (k : Nat) (h : k < 40) : wrap64 (2 ^ k) = ((2 ^ k : Nat) : Int) := by
  have h1 := pow_le k (by omega)
  rw [pow_cast] at h1 ⊢
  generalize 2 ^ k = z at h1 ⊢
  exact IntWalk.wrap64_in _ (by omega)
theorem ints_own {w : World} {base n : Nat} {T : TypeId} {v : Value} {xs : List Nat} (h : w.ownsRow base T 1 v n (xs.map natV)) (hn : n = xs.length) : IntsAt w v (xs.map fun x : Nat => (x : Int)) :=
  IntsAt.of_own (n := n) (by rw [List.map_map]; exact h) (by rw [List.length_map]; exact hn)

set_option maxRecDepth 100000 in
set_option maxHeartbeats 4000000 in
theorem bdone_any (A : Nat → Addr) (B b : Nat) (nv fv rv : Value) (n m : Nat) (tv : Value) (rs : List D.Rule) (S : D.Sets) (w : World) (hb : Bb w b nv fv rv n m tv) (hR : RulesAt w rv rs) (hl : rs.length ≤ 40) (hr : ∀ x ∈ rs, rightB x.1.2 = true) (hS : D.Good (lefts rs) S) (hE : E A B w) (hB : B ≤ w.heap.size) :
    Calls Tryz.prog 74 #[.pointer (some ⟨b, 0, none⟩), .agg (keyC S)] w fun e w' => e = .returned (.int .i64 (D.doneTo (lefts rs) S rs.length)) ∧ Below w.heap.size w w' := by
  have HR := Box.mk hR
  have HRI := Box.mk hr
  have HS := Box.mk hS
  have HE := Box.mk hE
  obtain ⟨w1, hw1⟩ : ∃ w1, w1 = w.alloc (.cells (keyC S) 115) := ⟨_, rfl⟩
  have hb1 : Below w.heap.size w w1 := by rw [hw1]; exact (Below.refl _ _).alloc (Nat.le_refl _) _
  have HW1 := Box.mk hw1
  have HB1 := Box.mk hb1
  have HX := Box.mk (show Blk w1 w.heap.size 115 (keyC S) by rw [hw1]; exact Blk.new _ _ _)
  obtain ⟨ao, cap, rfl⟩ := hR.slice
  have c2 : w1.cell? ⟨b, 2, none⟩ = some (.slice ao rs.length cap) := ((hb.below hb1 hb.lt).cell 2).trans rfl
  have l0 : b < w1.heap.size := (hb.below hb1 hb.lt).lt
  obtain ⟨i0, hi, hz0, hz1, hz2⟩ := info_parts i64_info
  clear hR hr hS hE hb hb1 hw1
  go_enter Tryz.func74, Tryz.ntmps74
  go_upto_region 2 with (fail)
  rw [← HW1.out]
  go_wp2_with fail
  clear c2
  go_loopw [5, 13] (fun o i wr => ∃ k : Nat, k ≤ rs.length ∧ i = .int .i64 k ∧ Box (wr.ownsRow w1.heap.size 2 1 o (doneL (lefts rs) S k).length ((doneL (lefts rs) S k).map natV)) ∧ Box (Below w1.heap.size w1 wr))
    (fun _ i _ => rs.length - (intOf i).toNat)
  case atStart => exact ⟨0, by omega, rfl, ⟨World.ownsRow_nil _ _ _ _⟩, ⟨Below.refl _ _⟩⟩
  case round =>
    obtain ⟨k, hk, rfl, ho, hbr⟩ := hrel
    have HBW := Box.mk (HB1.out.trans (hbr.out.mono HB1.out.size))
    by_cases hlt : k < rs.length
    · obtain ⟨x, hx⟩ : ∃ x, rs[k]? = some x := ⟨_, List.getElem?_eq_getElem hlt⟩
      obtain ⟨bg, off, cap2, hg1, hg2, hg3, hg4, hg5⟩ := (HR.out.below HBW.out).get (by rintro rfl; simp at hlt)
      obtain ⟨rfl, rfl⟩ : ao = some ⟨bg, off, none⟩ ∧ cap = cap2 := by injection hg1 with h1 h2 h3; exact ⟨h1, h3⟩
      obtain ⟨vl, vr, hc0, hc1, hc2, hc3, hc4, hil, hir⟩ := hg5 k x hx
      have hrx := HRI.out x (List.mem_of_getElem? hx)
      have hgood := HS.out.2 k (by rw [lefts_len]; exact hlt)
      rw [lefts_at hx] at hgood
      have hSk : S[k]? = some (S.getD k 0) := by
        have : k < S.length := by rw [HS.out.1, lefts_len]; exact hlt
        rw [List.getD, List.getElem?_eq_getElem this]; rfl
      have hxb := HX.out.below hbr.out HX.out.lt
      have cs : wr.cell? ⟨w.heap.size, k, none⟩ = some (.int .i64 (S.getD k 0 : Nat)) := (hxb.cell k).trans (keyC_get S k _ hSk)
      have lx := hxb.lt
      have HDA := Box.mk (show doneV x.1.2 (S.getD k 0 : Nat) = D.doneAt (lefts rs) S k by unfold doneV D.doneAt; rw [setOk_of_lt hrx hgood, Int.toNat_natCast, lefts_at hx]; rfl)
      have HDN := Box.mk (fun W (h : Below wr.heap.size wr W) => pdone_any A B x.1.1 vl x.1.2 (S.getD k 0 : Nat) W (hil.below h) (by have := right_len hrx; omega) (HE.out.below ((HBW.out.trans (h.mono HBW.out.size)).mono hB)) (Nat.le_trans hB (Nat.le_trans HBW.out.size h.size)))
      have HBA := Box.mk (fun o => show Below wr.heap.size wr (wr.alloc o) from (Below.refl _ _).alloc (Nat.le_refl _) _)
      obtain ⟨al, cl, rfl⟩ := hil.slice
      obtain ⟨ar, cr, rfl⟩ := hir.slice
      generalize S.getD k 0 = sk at *
      unfold maxLen at hg3
      obtain ⟨⟨stl, il⟩, ⟨str, ir⟩, br⟩ := x
      simp only at hc0 hc1 hc2 hc3 hc4 HDA HDN
      clear hx hg1 hg5 hil hir hrx hgood hSk hxb
      have hk40 : k < 40 := by omega
      have hdl := doneL_len (lefts rs) S k
      cases hd : D.doneAt (lefts rs) S k with
      | true =>
        have HD := Box.mk hd
        have HDL := Box.mk (doneL_yes hd)
        clear hd
        go_wp2_with fail
        go_region_with ((go_at_call 99; refine (HDN.out _ ?_).mono ?_; exact below_drewN (HBA.out _) _; rintro e w3 ⟨rfl, hb3⟩; rw [HDA.out, HD.out]; have HB3 := Box.mk (show Below wr.heap.size wr w3 from (HBA.out _).trans (Below.mono ⟨hb3.os, hb3.tape, hb3.output, hb3.size, hb3.block⟩ (HBA.out _).size)); clear hb3))
        all_goals
          have HB3' := Box.mk (show Below w1.heap.size w1 w3 from hbr.out.trans (HB3.out.mono hbr.out.size))
          have HO3 := Box.mk (own_below ho.out HB3.out)
          go_wp2_with (at_builtin; refine wpList_append_own _ rfl _ _ 24 rfl w1.heap.size 2 i0 (.int .i64 0) 1 8 Tryz.underlying24 hi hz0 hz1 hz2 rfl (by decide) _ _ _ rfl (HO3.out.alloc _) ⟨w3.heap.size, 0, none⟩ 1 1 [.int .i64 (wrap64 (2 ^ k))] rfl rfl (cell_one_new _ _ _) (by simp [Value.oneCell']) (by unfold maxLen; omega) (by omega) (by have := HB3'.out.size; simp; omega) ?_; intro v' w4 hown' hgrow _)
          have HOW := Box.mk (show w4.ownsRow w1.heap.size 2 1 v' (doneL (lefts rs) S (k + 1)).length ((doneL (lefts rs) S (k + 1)).map natV) by
            rw [HDL.out, List.length_append, List.map_append, show [2 ^ k].map natV = [Value.int .i64 (wrap64 (2 ^ k))] by simp only [List.map_cons, List.map_nil, natV]; rw [wrap_pow k hk40]]
            exact hown')
          have HB4 := Box.mk (show Below w1.heap.size w1 w4 from (HB3'.out.alloc HB3'.out.size _).grown hgrow (by have := HB3'.out.size; simp; omega) (fun q hq => (HO3.out.lt q hq).1))
          clear hown' hgrow
          go_wp2_with fail
          go_roundw
          case rel => exact ⟨k + 1, hlt, by go_num, HOW, HB4⟩
          case measure => simp [intOf]; omega
      | false =>
        have HD := Box.mk hd
        have HDL := Box.mk (doneL_no hd)
        clear hd
        go_wp2_with fail
        go_region_with ((go_at_call 99; refine (HDN.out _ ?_).mono ?_; exact below_drewN (HBA.out _) _; rintro e w3 ⟨rfl, hb3⟩; rw [HDA.out, HD.out]; have HB3 := Box.mk (show Below wr.heap.size wr w3 from (HBA.out _).trans (Below.mono ⟨hb3.os, hb3.tape, hb3.output, hb3.size, hb3.block⟩ (HBA.out _).size)); clear hb3))
        all_goals
          have HB3' := Box.mk (show Below w1.heap.size w1 w3 from hbr.out.trans (HB3.out.mono hbr.out.size))
          have HO3 := Box.mk (own_below ho.out HB3.out)
          go_wp2_with fail
          go_roundw
          case rel => exact ⟨k + 1, hlt, by go_num, ⟨by rw [HDL.out]; exact HO3.out⟩, HB3'⟩
          case measure => simp [intOf]; omega
    · obtain rfl : k = rs.length := by omega
      have hdl := doneL_len (lefts rs) S rs.length
      have HU := Box.mk (union_any _ (doneL (lefts rs) S rs.length) wr (ints_own ho.out rfl) (doneL_lt hl) (by omega))
      clear hdl
      go_wp2_with fail
      refine HU.out.mono ?_; rintro e w2 ⟨rfl, rfl⟩
      go_wp2_with fail
      go_ret
      exact ⟨ret_int (by rw [doneL_or]), HBW.out⟩
end Go.Proofs.YtbpcipobdokcfaaGreatDoor

/- MACHINES AS VALUES; what a builder that is at work has in memory. -/
namespace Go.Proofs.YtbpcipobdokcfaaGreatDoor
open Go.RowKit

/-- a value that reads as lists of numbers -/
def RowsAt (w : World) (v : Value) (rows : List (List Int)) : Prop :=
  (v = .slice none 0 0 ∧ rows = []) ∨ ∃ b off sp cap, v = .slice (some ⟨b, off, sp⟩) rows.length cap ∧ rows.length ≤ cap ∧ cap ≤ maxLen ∧ (rows ≠ [] → sp = none ∧ b < w.heap.size ∧ ∀ i r, rows[i]? = some r → ∃ x, w.cell? ⟨b, off + i, none⟩ = some x ∧ IntsAt w x r)
theorem RowsAt.nil {w : World} : RowsAt w (.slice none 0 0) [] := .inl ⟨rfl, rfl⟩
theorem RowsAt.below {w w' : World} {v : Value} {rows : List (List Int)} (h : RowsAt w v rows) (hb : Below w.heap.size w w') : RowsAt w' v rows := by
  rcases h with h | ⟨b, off, sp, cap, h1, h2, h3, h4⟩
  · exact .inl h
  · refine .inr ⟨b, off, sp, cap, h1, h2, h3, fun hn => ⟨(h4 hn).1, Nat.lt_of_lt_of_le (h4 hn).2.1 hb.size, fun i r hr => ?_⟩⟩
    obtain ⟨x, hx, hi⟩ := (h4 hn).2.2 i r hr
    exact ⟨x, (hb.cell (p := ⟨b, off + i, none⟩) (h4 hn).2.1).trans hx, hi.below hb⟩
theorem RowsAt.get {w : World} {v : Value} {rows : List (List Int)} (h : RowsAt w v rows) (hn : rows ≠ []) :
    ∃ b off cap, v = .slice (some ⟨b, off, none⟩) rows.length cap ∧ rows.length ≤ cap ∧ cap ≤ maxLen ∧ b < w.heap.size ∧ ∀ i r, rows[i]? = some r → ∃ x, w.cell? ⟨b, off + i, none⟩ = some x ∧ IntsAt w x r := by
  rcases h with ⟨_, h⟩ | ⟨b, off, sp, cap, h1, h2, h3, h4⟩
  · exact absurd h hn
  · obtain ⟨rfl, h5, h6⟩ := h4 hn
    exact ⟨b, off, cap, h1, h2, h3, h5, h6⟩
theorem RowsAt.slice {w : World} {v : Value} {rows : List (List Int)} (h : RowsAt w v rows) : ∃ a cap, v = .slice a rows.length cap := by
  rcases h with ⟨rfl, rfl⟩ | ⟨b, off, sp, cap, rfl, _⟩
  · exact ⟨_, _, rfl⟩
  · exact ⟨_, _, rfl⟩
/-- a machine: where each state goes, what fits there -/
abbrev D.Mach := List (List Int) × List Int
def MachAt (w : World) (v : Value) (M : D.Mach) : Prop := ∃ nv fv, v = .agg #[nv, fv] ∧ RowsAt w nv M.1 ∧ IntsAt w fv M.2
theorem MachAt.below {w w' : World} {v : Value} {M : D.Mach} (h : MachAt w v M) (hb : Below w.heap.size w w') : MachAt w' v M := by
  obtain ⟨nv, fv, h1, h2, h3⟩ := h
  exact ⟨nv, fv, h1, h2.below hb, h3.below hb⟩

/- MARKS OF LOOPS THAT HAVE ENDED, among the deferred calls. -/
def MarkOf (D : Nat) : Deferred := { target := .collected D, args := #[] }
/-- marks of loops since a world -/
structure Marks (w0 : World) (Ds : List Nat) (w : World) : Prop where
  at' : ∀ D ∈ Ds, w0.heap.size ≤ D ∧ w.heap[D]? = some (.deferred (some []))
  once : Ds.Nodup
theorem Marks.nil (w0 w : World) : Marks w0 [] w := ⟨fun _ h => absurd h List.not_mem_nil, List.nodup_nil⟩
theorem Marks.turns {w0 w w' : World} {Ds : List Nat} {own : Nat → Prop} (h : Marks w0 Ds w) (ht : Turns own w w') (ho : ∀ D ∈ Ds, ¬ own D) : Marks w0 Ds w' :=
  ⟨fun D hD => ⟨(h.at' D hD).1, (ht.block D (Array.getElem?_eq_some_iff.1 (h.at' D hD).2).1 (ho D hD)).trans (h.at' D hD).2⟩, h.once⟩
theorem Marks.cons {w0 w : World} {Ds : List Nat} {D : Nat} (h : Marks w0 Ds w) (h1 : w0.heap.size ≤ D) (h2 : w.heap[D]? = some (.deferred (some []))) (hn : D ∉ Ds) : Marks w0 (D :: Ds) w :=
  ⟨fun q hE => (List.mem_cons.1 hE).elim (fun e => by subst e; exact ⟨h1, h2⟩) (fun e => h.at' q e), List.nodup_cons.2 ⟨hn, h.once⟩⟩
theorem leaves_marks {F : Fence} {n : Nat} {P : Program} {fn : Func} {tmps : Array Value} {R : Ending → World → Prop} {w0 : World} : ∀ (Ds : List Nat) (w : World), Marks w0 Ds w →
    (∀ w', Turns (fun q => q ∈ Ds) w w' → LeavesInM F n P fn tmps R [] .returning w') → LeavesInM F n P fn tmps R (Ds.map MarkOf) .returning w
  | [], w, _, h => h w (Turns.refl _ _)
  | D :: Ds, w, hM, h => by
    refine ⟨by simp, .inl ⟨D, _, rfl, run_takeDeferred (hM.at' D (List.mem_cons_self ..)).2, ?_⟩⟩
    have hd := List.nodup_cons.1 hM.once
    have ht : Turns (fun q => q = D) w (w.putObj D (.deferred none)) := Turns.putObj (own := fun q => q = D) w rfl _
    refine leaves_marks Ds _ ((⟨fun E hE => hM.at' E (List.mem_cons_of_mem _ hE), hd.2⟩ : Marks w0 Ds w).turns ht (fun E hE e => hd.1 (e ▸ hE))) (fun w' ht' => h w' ?_)
    exact (ht.mono fun k hk => by subst hk; exact List.mem_cons_self ..).trans (ht'.mono fun k hk => List.mem_cons_of_mem _ hk)

theorem turns_old {own own' : Nat → Prop} {w0 w w' : World} (h : Turns own w0 w) (k : Turns own' w w') (ho : ∀ q, q < w0.heap.size → own' q → own q) : Turns own w0 w' :=
  ⟨k.os.trans h.os, k.tape.trans h.tape, k.output.trans h.output, Nat.le_trans h.size k.size, fun i hi hn => (k.block i (Nat.lt_of_lt_of_le hi h.size) (fun e => hn (ho i hi e))).trans (h.block i hi hn)⟩
/-- rows of two kinds lie in two blocks -/
theorem own_ne {w : World} {B B' e e' s s' n n' : Nat} {v v' : Value} {xs xs' : List Value} (h : w.ownsRow B e s v n xs) (h' : w.ownsRow B' e' s' v' n' xs') (he : e ≠ e') {g : Nat} (hg : v.ownBlock = some g) : v'.ownBlock ≠ some g := by
  intro hg'
  rcases h.2 with ⟨rfl, _⟩ | ⟨g1, cap, cur, rfl, _, hc, _⟩
  · simp [Value.ownBlock] at hg
  · rcases h'.2 with ⟨rfl, _⟩ | ⟨g2, cap2, cur2, rfl, _, hc2, _⟩
    · simp [Value.ownBlock] at hg'
    · simp only [Value.ownBlock, Option.some.injEq] at hg hg'
      subst hg; subst hg'
      rw [hc] at hc2
      simp only [Option.some.injEq, Obj.cells.injEq] at hc2
      exact he hc2.2.1
theorem own_blk {w : World} {B e s n : Nat} {v : Value} {xs : List Value} (h : w.ownsRow B e s v n xs) {g t : Nat} {cs : Array Value} (hb : Blk w g t cs) (he : e ≠ t) : v.ownBlock ≠ some g := by
  intro hg
  rcases h.2 with ⟨rfl, _⟩ | ⟨g1, cap, cur, rfl, _, hc, _⟩
  · simp [Value.ownBlock] at hg
  · simp only [Value.ownBlock, Option.some.injEq] at hg
    subst hg
    unfold Blk at hb
    rw [hc] at hb
    simp only [Option.some.injEq, Obj.cells.injEq] at hb
    exact he hb.2.1
theorem own_mark {w : World} {B e s n : Nat} {v : Value} {xs : List Value} (h : w.ownsRow B e s v n xs) {D : Nat} {o : Option (List Deferred)} (hb : w.heap[D]? = some (.deferred o)) : v.ownBlock ≠ some D := by
  intro hg
  rcases h.2 with ⟨rfl, _⟩ | ⟨g1, cap, cur, rfl, _, hc, _⟩
  · simp [Value.ownBlock] at hg
  · simp only [Value.ownBlock, Option.some.injEq] at hg
    subst hg
    rw [hc] at hb
    cases hb

/-- what stands ready ahead of a builder's work: the rules, the errors -/
structure Old (A : Nat → Addr) (B : Nat) (S : List Nat) (rv : Value) (rs : List D.Rule) (b m : Nat) (wE w0 : World) : Prop where
  e : E A B wE
  ed : Env S 209 A B wE
  rules : RulesAt wE rv rs
  hB : B ≤ wE.heap.size
  bel : Below wE.heap.size wE w0
  hb : wE.heap.size ≤ b ∧ b < w0.heap.size
  hm : wE.heap.size ≤ m ∧ m < w0.heap.size
theorem Old.now {A : Nat → Addr} {B : Nat} {S : List Nat} {rv : Value} {rs : List D.Rule} {b m : Nat} {wE w0 w : World} (h : Old A B S rv rs b m wE w0) (ht : Turns (fun q => q = b ∨ q = m) w0 w) : Below wE.heap.size wE w :=
  h.bel.trans (ht.below h.bel.size (fun q hk => hk.elim (fun e => by rw [e]; exact h.hb.1) (fun e => by rw [e]; exact h.hm.1)))

/-- a builder at work: what it met, the states that it made -/
structure BS (w0 : World) (b m n k : Nat) (rv : Value) (t : List D.Sets) (next : List (List Nat)) (fits : List Nat) (nv fv tv : Value) (vs : List Value) (w : World) : Prop where
  mets : Mets w w0.heap.size b m nv fv rv n k tv t
  nrow : w.ownsRow w0.heap.size 27 1 nv next.length vs
  rows : ∀ (i : Nat) (r : List Nat), next[i]? = some r → ∃ v, vs[i]? = some v ∧ w.ownsRow w0.heap.size 3 1 v r.length (r.map natV)
  frow : w.ownsRow w0.heap.size 2 1 fv fits.length (fits.map natV)
  turns : Turns (fun q => q = b ∨ q = m) w0 w
  lb : b < w0.heap.size
  lm : m < w0.heap.size
section
variable {w0 w w' : World} {b m n k : Nat} {rv : Value} {t : List D.Sets} {next : List (List Nat)} {fits : List Nat} {nv fv tv : Value} {vs : List Value}
/-- what leaves the builder's own blocks alone -/
theorem BS.keep {own : Nat → Prop} (h : BS w0 b m n k rv t next fits nv fv tv vs w) (ht : Turns own w w') (hb : ¬ own b) (hm : ¬ own m) (hn : ∀ g, nv.ownBlock = some g → ¬ own g) (hf : ∀ g, fv.ownBlock = some g → ¬ own g) (htv : ∀ g, tv.ownBlock = some g → ¬ own g)
    (hr : ∀ v ∈ vs, ∀ g, v.ownBlock = some g → ¬ own g) (ho : ∀ q, q < w0.heap.size → ¬ own q) : BS w0 b m n k rv t next fits nv fv tv vs w' := by
  refine ⟨⟨ht.blk h.mets.blk hb, (ht.block m (Array.getElem?_eq_some_iff.1 h.mets.met).1 hm).trans h.mets.met, ht.row h.mets.row htv, h.mets.fine, h.mets.apart, h.mets.bm⟩, ht.row h.nrow hn, fun i r hi => ?_, ht.row h.frow hf, turns_old h.turns ht (fun q hq e => absurd e (ho q hq)), h.lb, h.lm⟩
  obtain ⟨v, hv, hrow⟩ := h.rows i r hi
  exact ⟨v, hv, ht.row hrow (hr v (List.mem_of_getElem? hv))⟩
theorem BS.below (h : BS w0 b m n k rv t next fits nv fv tv vs w) (hb : Below w.heap.size w w') : BS w0 b m n k rv t next fits nv fv tv vs w' :=
  h.keep (own := fun _ => False) (Turns.of_below hb) (fun h => h) (fun h => h) (fun _ _ h => h) (fun _ _ h => h) (fun _ _ h => h) (fun _ _ _ _ h => h) (fun _ _ h => h)
theorem BS.rows_of (h : BS w0 b m n k rv t next fits nv fv tv vs w) : ∀ v ∈ vs, ∃ r : List Nat, w.ownsRow w0.heap.size 3 1 v r.length (r.map natV) := by
  intro v hv
  obtain ⟨i, hi⟩ := List.mem_iff_getElem?.1 hv
  have hl : vs.length = next.length := by have := h.nrow.1; omega
  have hin : i < next.length := by have := (List.getElem?_eq_some_iff.1 hi).1; omega
  obtain ⟨v', h1, h2⟩ := h.rows i _ (List.getElem?_eq_getElem hin)
  rw [hi] at h1
  cases h1
  exact ⟨_, h2⟩
/-- the number of some sets has been looked up -/
theorem BS.number (h : BS w0 b m n k rv t next fits nv fv tv vs w) {s : D.Sets} {e : Ending} (hp : numPost w0.heap.size b m nv fv rv n k tv t s w e w') : ∃ tv', BS w0 b m n k rv (D.add t s) next fits nv fv tv' vs w' := by
  obtain ⟨-, ht, tv', hM, -⟩ := hp
  have hlt := h.mets.row.lt
  have hbm : ∀ g, w0.heap.size ≤ g → g ≠ b ∧ g ≠ m := fun g hg => ⟨by have := h.lb; omega, by have := h.lm; omega⟩
  refine ⟨tv', hM, ht.row h.nrow (fun g hg => ?_), fun i r hi => ?_, ht.row h.frow (fun g hg => ?_), turns_old h.turns ht (fun q hq e => ?_), h.lb, h.lm⟩
  · rintro (e | e | e)
    · exact (hbm g (h.nrow.lt g hg).1).1 e
    · exact (hbm g (h.nrow.lt g hg).1).2 e
    · exact own_ne h.nrow h.mets.row (by decide) hg e
  · obtain ⟨v, hv, hrow⟩ := h.rows i r hi
    refine ⟨v, hv, ht.row hrow (fun g hg => ?_)⟩
    rintro (e | e | e)
    · exact (hbm g (hrow.lt g hg).1).1 e
    · exact (hbm g (hrow.lt g hg).1).2 e
    · exact own_ne hrow h.mets.row (by decide) hg e
  · rintro (e | e | e)
    · exact (hbm g (h.frow.lt g hg).1).1 e
    · exact (hbm g (h.frow.lt g hg).1).2 e
    · exact own_ne h.frow h.mets.row (by decide) hg e
  · rcases e with e | e | e
    · exact .inl e
    · exact .inr e
    · have := (hlt q e).1; omega
theorem own_ints {w : World} {base : Nat} {v : Value} {r : List Nat} (h : w.ownsRow base 3 1 v r.length (r.map natV)) : IntsAt w v (r.map fun x : Nat => (x : Int)) := ints_own h rfl
/-- the states, as a machine -/
theorem BS.mach (h : BS w0 b m n k rv t next fits nv fv tv vs w) : RowsAt w nv (next.map fun r => r.map fun x : Nat => (x : Int)) ∧ IntsAt w fv (fits.map fun x : Nat => (x : Int)) := by
  refine ⟨?_, ints_own h.frow rfl⟩
  have hl : vs.length = next.length := by have := h.nrow.1; omega
  rcases h.nrow.2 with ⟨h1, h2⟩ | ⟨g, cap, cur, h1, h2, h3, h4, h5, h6, h7⟩
  · exact .inl ⟨h1, by rw [List.eq_nil_of_length_eq_zero h2]; rfl⟩
  · refine .inr ⟨g, 0, none, cap, by rw [h1, List.length_map], by rw [List.length_map]; exact h4, h5, fun hn => ⟨rfl, (Array.getElem?_eq_some_iff.1 h3).1, fun i r hr => ?_⟩⟩
    rw [List.getElem?_map] at hr
    obtain ⟨r0, h8, rfl⟩ := Option.map_eq_some_iff.1 hr
    obtain ⟨v, hv, hrow⟩ := h.rows i r0 h8
    refine ⟨v, ?_, own_ints hrow⟩
    have := h.nrow.cells (g := g) (by rw [h1]; rfl) i v hv
    rw [show (⟨g, 0 + i, none⟩ : Addr) = (⟨g, 0, none⟩ : Addr).add i by unfold Addr.add; by_cases h0 : i = 0 <;> simp [h0]]
    exact this
end
end Go.Proofs.YtbpcipobdokcfaaGreatDoor

/- WHAT THE BUILDER's WORK BEGINS WITH. -/
namespace Go.Proofs.YtbpcipobdokcfaaGreatDoor
open Go.RowKit Go.Shelf
attribute [local go_sem] Oper.semAt_some

def sideOk (rs : List D.Rule) : Prop := ∀ x ∈ rs, rightB x.1.2 = true
theorem first_all {A : Nat → Addr} {B b n m : Nat} {nv fv rv tv : Value} {rs : List D.Rule} {W : World} (h1 : Bb W b nv fv rv n m tv) (h2 : RulesAt W rv rs) (h3 : E A B W) (h4 : B ≤ W.heap.size) (hr : sideOk rs) (hl : rs.length ≤ 40) :
    Calls Tryz.prog 70 #[.pointer (some ⟨b, 0, none⟩), .func (.func 71) #[] #[]] W fun e w' => e = .returned (.agg (keyC (D.firstAll (lefts rs)))) ∧ Below W.heap.size W w' := by
  have := each_any b nv fv rv n m tv rs 71 #[] (D.firstAt (lefts rs)) W h1 h2 hl (enters_of Tryz.func71 (by kernel_rfl) rfl) (fun i x vl vr W' hx hb hil hir => by
    have := first1_any A B i x vl vr W' (hr x (List.mem_of_getElem? hx)) hil hir (h3.below (hb.mono h4)) (Nat.le_trans h4 hb.size)
    unfold D.firstAt
    rw [lefts_at hx]
    exact this)
  rw [← lefts_len] at this
  exact this
theorem small_of_good {rs : List D.Rule} {s : D.Sets} (hr : sideOk rs) (h : D.Good (lefts rs) s) : Small s := by
  intro x hx
  obtain ⟨i, hi⟩ := List.mem_iff_getElem?.1 hx
  have hl := (List.getElem?_eq_some_iff.1 hi).1
  have hi' : i < rs.length := by have := h.1; rw [lefts_len] at this; omega
  have h2 := h.2 i (by rw [lefts_len]; exact hi')
  rw [lefts_at (List.getElem?_eq_getElem hi'), List.getD, hi] at h2
  exact lt_62 _ (right_len (hr _ (List.getElem_mem hi'))) _ h2
theorem mets_zero {w : World} {base b m : Nat} {nv fv rv : Value} {n k : Nat} (hk : k ≤ 40) (hb : Bb w b nv fv rv n m (.slice none 0 0)) (hm : w.heap[m]? = some (.map #[] 0)) (hbm : b ≠ m) : Mets w base b m nv fv rv n k (.slice none 0 0) [] :=
  ⟨hb, hm, World.ownsRow_nil _ _ _ _, ⟨hk, fun _ h => absurd h List.not_mem_nil, fun _ h => absurd h List.not_mem_nil, List.nodup_nil⟩, fun g hg => by simp [Value.ownBlock] at hg, hbm⟩
theorem bs_zero {w0 w : World} {b m : Nat} {rv : Value} {n k : Nat} (hk : k ≤ 40) (hb : Bb w b (.slice none 0 0) (.slice none 0 0) rv n m (.slice none 0 0)) (hm : w.heap[m]? = some (.map #[] 0)) (hbm : b ≠ m) (hw : Below w0.heap.size w0 w) (lb : b < w0.heap.size) (lm : m < w0.heap.size) :
    BS w0 b m n k rv [] [] [] (.slice none 0 0) (.slice none 0 0) (.slice none 0 0) [] w :=
  ⟨mets_zero hk hb hm hbm, World.ownsRow_nil _ _ _ _, fun i r h => by simp at h, World.ownsRow_nil _ _ _ _, (Turns.of_below (own := fun _ => False) hw).mono (fun _ h => h.elim), lb, lm⟩

end Go.Proofs.YtbpcipobdokcfaaGreatDoor

/- THE BUILDER's INNER LOOP: what it has in memory from round to round. -/
namespace Go.Proofs.YtbpcipobdokcfaaGreatDoor
open Go.RowKit

/-- a builder within a state's row: N1 holds the row, L is the record of the loop -/
structure IN (w0 : World) (N1 L b m n k : Nat) (rv : Value) (t : List D.Sets) (next : List (List Nat)) (fits row : List Nat) (nv fv tv cv : Value) (vs : List Value) (Ds : List Nat) (W : World) : Prop where
  bs : BS w0 b m n k rv t next fits nv fv tv vs W
  cur : Blk W N1 27 #[cv]
  crow : W.ownsRow w0.heap.size 3 1 cv row.length (row.map natV)
  hp : Blk W w0.heap.size 75 #[.pointer (some ⟨b, 0, none⟩)]
  he : Blk W (w0.heap.size + 1) 66 #[.nilIface]
  marks : Marks w0 Ds W
  nlt : ∀ g, nv.ownBlock = some g → g < N1
  flt : ∀ g, fv.ownBlock = some g → g < N1
  vlt : ∀ v ∈ vs, ∀ g, v.ownBlock = some g → g < N1
  tvb : ∀ g, tv.ownBlock = some g → g < N1 ∨ L < g
  cvb : ∀ g, cv.ownBlock = some g → L < g
  dlt : ∀ q ∈ Ds, q < N1
  n0 : w0.heap.size + 1 < N1
  n1 : N1 < L
section
variable {w0 W W' : World} {N1 L b m n k : Nat} {rv : Value} {t : List D.Sets} {next : List (List Nat)} {fits row : List Nat} {nv fv tv cv : Value} {vs : List Value} {Ds : List Nat}
theorem IN.turns {own : Nat → Prop} (h : IN w0 N1 L b m n k rv t next fits row nv fv tv cv vs Ds W) (ht : Turns own W W') (ho : ∀ q, own q → q = L) : IN w0 N1 L b m n k rv t next fits row nv fv tv cv vs Ds W' := by
  have h0 := h.n0
  have h1 := h.n1
  have hb := h.bs.lb
  have hm := h.bs.lm
  refine ⟨h.bs.keep ht (fun e => ?_) (fun e => ?_) (fun g hg e => ?_) (fun g hg e => ?_) (fun g hg e => ?_) (fun v hv g hg e => ?_) (fun q hq e => ?_), ht.blk h.cur (fun e => ?_), ht.row h.crow (fun g hg e => ?_), ht.blk h.hp (fun e => ?_), ht.blk h.he (fun e => ?_), h.marks.turns ht (fun q hq e => ?_), h.nlt, h.flt, h.vlt, h.tvb, h.cvb, h.dlt, h.n0, h.n1⟩
  all_goals have e' := ho _ e
  · omega
  · omega
  · have := h.nlt g hg; omega
  · have := h.flt g hg; omega
  · have := h.tvb g hg; omega
  · have := h.vlt v hv g hg; omega
  · omega
  · omega
  · have := h.cvb g hg; omega
  · omega
  · omega
  · have := h.dlt q hq; omega
theorem IN.number (h : IN w0 N1 L b m n k rv t next fits row nv fv tv cv vs Ds W) {s : D.Sets} {e : Ending} (hp : numPost w0.heap.size b m nv fv rv n k tv t s W e W') (hL : L < W.heap.size) :
    (∃ tv', IN w0 N1 L b m n k rv (D.add t s) next fits row nv fv tv' cv vs Ds W') ∧ Turns (fun q => q = b ∨ q = m ∨ tv.ownBlock = some q) W W' := by
  have h0 := h.n0
  have h1 := h.n1
  have hb := h.bs.lb
  have hm := h.bs.lm
  have ht := hp.2.1
  obtain ⟨tv', hM, hg⟩ := hp.2.2
  have htb : ∀ g, tv'.ownBlock = some g → g < N1 ∨ L < g := by
    intro g hg'
    rcases hg with e | ⟨g2, e, h2⟩
    · exact h.tvb g (by rw [← e]; exact hg')
    · rw [hg'] at e; cases e; right; omega
  have hbs' : BS w0 b m n k rv (D.add t s) next fits nv fv tv' vs W' := by
    have hbm : ∀ g, w0.heap.size ≤ g → g ≠ b ∧ g ≠ m := fun g hg => ⟨by omega, by omega⟩
    refine ⟨hM, ht.row h.bs.nrow (fun g hg => ?_), fun i r hi => ?_, ht.row h.bs.frow (fun g hg => ?_), turns_old h.bs.turns ht (fun q hq e => ?_), h.bs.lb, h.bs.lm⟩
    · rintro (e | e | e)
      · exact (hbm g (h.bs.nrow.lt g hg).1).1 e
      · exact (hbm g (h.bs.nrow.lt g hg).1).2 e
      · exact own_ne h.bs.nrow h.bs.mets.row (by decide) hg e
    · obtain ⟨v, hv, hrow⟩ := h.bs.rows i r hi
      refine ⟨v, hv, ht.row hrow (fun g hg => ?_)⟩
      rintro (e | e | e)
      · exact (hbm g (hrow.lt g hg).1).1 e
      · exact (hbm g (hrow.lt g hg).1).2 e
      · exact own_ne hrow h.bs.mets.row (by decide) hg e
    · rintro (e | e | e)
      · exact (hbm g (h.bs.frow.lt g hg).1).1 e
      · exact (hbm g (h.bs.frow.lt g hg).1).2 e
      · exact own_ne h.bs.frow h.bs.mets.row (by decide) hg e
    · rcases e with e | e | e
      · exact .inl e
      · exact .inr e
      · have := (h.bs.mets.row.lt q e).1; omega
  refine ⟨⟨tv', hbs', ht.blk h.cur ?_, ht.row h.crow (fun g hg => ?_), ht.blk h.hp ?_, ht.blk h.he ?_, h.marks.turns ht (fun q hq => ?_), h.nlt, h.flt, h.vlt, htb, h.cvb, h.dlt, h.n0, h.n1⟩, ht⟩
  · rintro (e | e | e)
    · omega
    · omega
    · exact own_blk h.bs.mets.row h.cur (by decide) e
  · have := h.cvb g hg
    rintro (e | e | e)
    · omega
    · omega
    · exact own_ne h.crow h.bs.mets.row (by decide) hg e
  · rintro (e | e | e)
    · omega
    · omega
    · exact own_blk h.bs.mets.row h.hp (by decide) e
  · rintro (e | e | e)
    · omega
    · omega
    · exact own_blk h.bs.mets.row h.he (by decide) e
  · have h3 := h.marks.at' q hq
    rintro (e | e | e)
    · omega
    · omega
    · exact own_mark h.bs.mets.row h3.2 e
/-- a number more in the row -/
theorem IN.push (h : IN w0 N1 L b m n k rv t next fits row nv fv tv cv vs Ds W) (hL : L < W.heap.size) {x : Nat} {o : Obj} {W1 : World} {cv' : Value} (hown : W1.ownsRow w0.heap.size 3 1 cv' (row.length + 1) (row.map natV ++ [natV x])) (hgrow : (W.alloc o).grownBy W1 cv.ownBlock)
    (hat : cv'.ownBlock = cv.ownBlock ∨ cv'.ownBlock = some (W.alloc o).heap.size) :
    IN w0 N1 L b m n k rv t next fits (row ++ [x]) nv fv tv cv' vs Ds (W1.setCell ⟨N1, 0, none⟩ cv') ∧ Turns (fun q => q = N1 ∨ cv.ownBlock = some q) W (W1.setCell ⟨N1, 0, none⟩ cv') := by
  have h0 := h.n0
  have h1 := h.n1
  have hb := h.bs.lb
  have hm := h.bs.lm
  have hT1 : Turns (fun q => cv.ownBlock = some q) W W1 := (Turns.alloc W o).trans (turns_grown hgrow (fun q hq => hq))
  have hT2 : Turns (fun q => q = N1) W1 (W1.setCell ⟨N1, 0, none⟩ cv') := Turns.setCell (own := fun q => q = N1) W1 (p := ⟨N1, 0, none⟩) rfl _
  have hT := (hT1.mono (own' := fun q => q = N1 ∨ cv.ownBlock = some q) (fun q hq => .inr hq)).trans (hT2.mono (fun q hq => .inl hq))
  have hcb : ∀ g, cv'.ownBlock = some g → L < g := by
    intro g hg
    rcases hat with e | e
    · exact h.cvb g (by rw [← e]; exact hg)
    · rw [hg] at e; simp at e; omega
  have hcur1 : Blk W1 N1 27 #[cv] := hT1.blk h.cur (fun e => own_blk h.crow h.cur (by decide) e)
  refine ⟨⟨h.bs.keep hT ?_ ?_ (fun g hg => ?_) (fun g hg => ?_) (fun g hg => ?_) (fun v hv g hg => ?_) (fun q hq => ?_), hcur1.set_ 0 _, ?_, hT.blk h.hp ?_, hT.blk h.he ?_, h.marks.turns hT (fun q hq => ?_), h.nlt, h.flt, h.vlt, h.tvb, hcb, h.dlt, h.n0, h.n1⟩, hT⟩
  · rintro (e | e)
    · omega
    · have := h.cvb _ e; omega
  · rintro (e | e)
    · omega
    · have := h.cvb _ e; omega
  · have := h.nlt g hg
    rintro (e | e)
    · omega
    · have := h.cvb _ e; omega
  · have := h.flt g hg
    rintro (e | e)
    · omega
    · have := h.cvb _ e; omega
  · rintro (e | e)
    · subst e; exact own_blk h.bs.mets.row h.cur (by decide) hg
    · exact own_ne h.bs.mets.row h.crow (by decide) hg e
  · have := h.vlt v hv g hg
    rintro (e | e)
    · omega
    · have := h.cvb _ e; omega
  · rintro (e | e)
    · omega
    · have := h.cvb _ e; omega
  · rw [List.length_append, List.map_append]
    exact hT2.row hown (fun g hg => by have := hcb g hg; omega)
  · rintro (e | e)
    · omega
    · have := h.cvb _ e; omega
  · rintro (e | e)
    · omega
    · have := h.cvb _ e; omega
  · have := h.dlt q hq
    rintro (e | e)
    · omega
    · have := h.cvb _ e; omega
end

/-- a builder between two states -/
structure FS (w0 : World) (b m n k : Nat) (rv : Value) (t : List D.Sets) (next : List (List Nat)) (fits : List Nat) (nv fv tv : Value) (vs : List Value) (Ds : List Nat) (W : World) : Prop where
  bs : BS w0 b m n k rv t next fits nv fv tv vs W
  hp : Blk W w0.heap.size 75 #[.pointer (some ⟨b, 0, none⟩)]
  he : Blk W (w0.heap.size + 1) 66 #[.nilIface]
  marks : Marks w0 Ds W
section
variable {w0 W W1 : World} {b m n k : Nat} {rv : Value} {t : List D.Sets} {next : List (List Nat)} {fits row : List Nat} {nv fv tv cv nv' fv' : Value} {vs : List Value} {Ds : List Nat}
theorem FS.below {W' : World} (h : FS w0 b m n k rv t next fits nv fv tv vs Ds W) (hb : Below W.heap.size W W') : FS w0 b m n k rv t next fits nv fv tv vs Ds W' :=
  ⟨h.bs.below hb, h.hp.below hb h.hp.lt, h.he.below hb h.he.lt, h.marks.turns (own := fun _ => False) (Turns.of_below hb) (fun _ _ h => h)⟩
/-- a row more -/
theorem FS.push_next (h : FS w0 b m n k rv t next fits nv fv tv vs Ds W) {o : Obj} (hc : W.ownsRow w0.heap.size 3 1 cv row.length (row.map natV)) (hown : W1.ownsRow w0.heap.size 27 1 nv' (next.length + 1) (vs ++ [cv])) (hgrow : (W.alloc o).grownBy W1 nv.ownBlock) :
    FS w0 b m n k rv t (next ++ [row]) fits nv' fv tv (vs ++ [cv]) Ds (W1.setCell ⟨b, 0, none⟩ nv') := by
  have hb := h.bs.lb
  have hm := h.bs.lm
  have hT1 : Turns (fun q => nv.ownBlock = some q) W W1 := (Turns.alloc W o).trans (turns_grown hgrow (fun q hq => hq))
  have hT2 : Turns (fun q => q = b) W1 (W1.setCell ⟨b, 0, none⟩ nv') := Turns.setCell (own := fun q => q = b) W1 (p := ⟨b, 0, none⟩) rfl _
  have hT := (hT1.mono (own' := fun q => q = b ∨ nv.ownBlock = some q) (fun q hq => .inr hq)).trans (hT2.mono (fun q hq => .inl hq))
  have hge : ∀ q, nv.ownBlock = some q → w0.heap.size ≤ q := fun q hq => (h.bs.nrow.lt q hq).1
  have hvl : vs.length = next.length := by have := h.bs.nrow.1; omega
  have hblk1 : Bb W1 b nv fv rv n m tv := hT1.blk h.bs.mets.blk (fun e => by have := hge _ e; omega)
  refine ⟨⟨⟨hblk1.set_ 0 _, (hT.block m (Array.getElem?_eq_some_iff.1 h.bs.mets.met).1 ?_).trans h.bs.mets.met, hT.row h.bs.mets.row (fun g hg => ?_), h.bs.mets.fine, h.bs.mets.apart, h.bs.mets.bm⟩, ?_, fun i r hi => ?_, hT.row h.bs.frow (fun g hg => ?_), turns_old h.bs.turns hT (fun q hq e => ?_), hb, hm⟩, hT.blk h.hp ?_, hT.blk h.he ?_, h.marks.turns hT (fun q hq => ?_)⟩
  · rintro (e | e)
    · exact h.bs.mets.bm e.symm
    · have := hge _ e; omega
  · rintro (e | e)
    · have := (h.bs.mets.row.lt g hg).1; omega
    · exact own_ne h.bs.mets.row h.bs.nrow (by decide) hg e
  · rw [List.length_append]
    exact hT2.row hown (fun g hg => by have := (hown.lt g hg).1; omega)
  · rcases Nat.lt_or_ge i next.length with hlt | hge'
    · rw [List.getElem?_append_left hlt] at hi
      obtain ⟨v, hv, hrow⟩ := h.bs.rows i r hi
      refine ⟨v, by rw [List.getElem?_append_left (by omega)]; exact hv, hT.row hrow (fun g hg => ?_)⟩
      rintro (e | e)
      · have := (hrow.lt g hg).1; omega
      · exact own_ne hrow h.bs.nrow (by decide) hg e
    · rw [List.getElem?_append_right hge'] at hi
      obtain ⟨h1, h2⟩ := List.getElem?_eq_some_iff.1 hi
      simp only [List.length_cons, List.length_nil] at h1
      have hi0 : i - next.length = 0 := by omega
      obtain rfl : row = r := by rw [← h2]; simp [hi0]
      refine ⟨cv, by rw [List.getElem?_append_right (by omega), hvl, hi0]; rfl, hT.row hc (fun g hg => ?_)⟩
      rintro (e | e)
      · have := (hc.lt g hg).1; omega
      · exact own_ne hc h.bs.nrow (by decide) hg e
  · rintro (e | e)
    · have := (h.bs.frow.lt g hg).1; omega
    · exact own_ne h.bs.frow h.bs.nrow (by decide) hg e
  · rcases e with e | e
    · exact .inl e
    · have := hge _ e; omega
  · rintro (e | e)
    · omega
    · exact own_blk h.bs.nrow h.hp (by decide) e
  · rintro (e | e)
    · omega
    · exact own_blk h.bs.nrow h.he (by decide) e
  · have h4 := h.marks.at' q hq
    rintro (e | e)
    · omega
    · exact own_mark h.bs.nrow h4.2 e
/-- a set of rules that fit more -/
theorem FS.push_fits (h : FS w0 b m n k rv t next fits nv fv tv vs Ds W) {o : Obj} {f : Nat} (hown : W1.ownsRow w0.heap.size 2 1 fv' (fits.length + 1) (fits.map natV ++ [natV f])) (hgrow : (W.alloc o).grownBy W1 fv.ownBlock) :
    FS w0 b m n k rv t next (fits ++ [f]) nv fv' tv vs Ds (W1.setCell ⟨b, 1, none⟩ fv') := by
  have hb := h.bs.lb
  have hm := h.bs.lm
  have hT1 : Turns (fun q => fv.ownBlock = some q) W W1 := (Turns.alloc W o).trans (turns_grown hgrow (fun q hq => hq))
  have hT2 : Turns (fun q => q = b) W1 (W1.setCell ⟨b, 1, none⟩ fv') := Turns.setCell (own := fun q => q = b) W1 (p := ⟨b, 1, none⟩) rfl _
  have hT := (hT1.mono (own' := fun q => q = b ∨ fv.ownBlock = some q) (fun q hq => .inr hq)).trans (hT2.mono (fun q hq => .inl hq))
  have hge : ∀ q, fv.ownBlock = some q → w0.heap.size ≤ q := fun q hq => (h.bs.frow.lt q hq).1
  have hblk1 : Bb W1 b nv fv rv n m tv := hT1.blk h.bs.mets.blk (fun e => by have := hge _ e; omega)
  refine ⟨⟨⟨hblk1.set_ 1 _, (hT.block m (Array.getElem?_eq_some_iff.1 h.bs.mets.met).1 ?_).trans h.bs.mets.met, hT.row h.bs.mets.row (fun g hg => ?_), h.bs.mets.fine, h.bs.mets.apart, h.bs.mets.bm⟩, hT.row h.bs.nrow (fun g hg => ?_), fun i r hi => ?_, ?_, turns_old h.bs.turns hT (fun q hq e => ?_), hb, hm⟩, hT.blk h.hp ?_, hT.blk h.he ?_, h.marks.turns hT (fun q hq => ?_)⟩
  · rintro (e | e)
    · exact h.bs.mets.bm e.symm
    · have := hge _ e; omega
  · rintro (e | e)
    · have := (h.bs.mets.row.lt g hg).1; omega
    · exact own_ne h.bs.mets.row h.bs.frow (by decide) hg e
  · rintro (e | e)
    · have := (h.bs.nrow.lt g hg).1; omega
    · exact own_ne h.bs.nrow h.bs.frow (by decide) hg e
  · obtain ⟨v, hv, hrow⟩ := h.bs.rows i r hi
    refine ⟨v, hv, hT.row hrow (fun g hg => ?_)⟩
    rintro (e | e)
    · have := (hrow.lt g hg).1; omega
    · exact own_ne hrow h.bs.frow (by decide) hg e
  · rw [List.length_append, List.map_append]
    exact hT2.row hown (fun g hg => by have := (hown.lt g hg).1; omega)
  · rcases e with e | e
    · exact .inl e
    · have := hge _ e; omega
  · rintro (e | e)
    · omega
    · exact own_blk h.bs.frow h.hp (by decide) e
  · rintro (e | e)
    · omega
    · exact own_blk h.bs.frow h.he (by decide) e
  · have h4 := h.marks.at' q hq
    rintro (e | e)
    · omega
    · exact own_mark h.bs.frow h4.2 e
end
end Go.Proofs.YtbpcipobdokcfaaGreatDoor

/- ONE ROUND OF THE BUILDER's INNER LOOP: a class, and what it makes of some sets. -/
namespace Go.Proofs.YtbpcipobdokcfaaGreatDoor
open Go.RowKit Go.Shelf
attribute [local go_sem] Oper.semAt_some

theorem int_info : (Tryz.prog.info? 3).map (fun i => (i.zero, i.size, i.bytes)) = some (some (.int .i64 0), 1, 8) := by kernel_rfl
def firstLoop : Code → Option Code
  | .loop c => some c
  | .seq a b => match firstLoop a with
    | some c => some c
    | none => firstLoop b
  | .block _ c => firstLoop c
  | .scope c => firstLoop c
  | .cond _ a b => match firstLoop a with
    | some c => some c
    | none => firstLoop b
  | _ => none
def firstRange : Code → Option (Operand × Array Tmp × Code × Code)
  | .rangeFunc g ps asg body => some (g, ps, asg, body)
  | .loop c => firstRange c
  | .seq a b => match firstRange a with
    | some c => some c
    | none => firstRange b
  | .block _ c => firstRange c
  | .scope c => firstRange c
  | .cond _ a b => match firstRange a with
    | some c => some c
    | none => firstRange b
  | _ => none
noncomputable def bldRange : Operand × Array Tmp × Code × Code := (Tryz.f46.body.bind firstRange).getD (.tmp 0, #[], .skip, .skip)
noncomputable def bldBody : Code := bldRange.2.2.2

/-- what the inner loop keeps -/
def InI (w0 : World) (N1 L b m n : Nat) (rv : Value) (sd : List D.Side) (K : Nat) (S : D.Sets) (nv fv : Value) (vs : List Value) (Ds : List Nat) (pre : List Nat) (W : World) : Prop :=
  (D.row sd n S (D.build sd n K).todo pre.length).2.length ≤ 300 ∧ ∃ tv cv, IN w0 N1 L b m n sd.length rv (D.row sd n S (D.build sd n K).todo pre.length).2 (D.build sd n K).next (D.build sd n K).fits (D.row sd n S (D.build sd n K).todo pre.length).1 nv fv tv cv vs Ds W
/-- there were too many -/
def InX (w0 : World) (A : Nat → Addr) (b m : Nat) (sd : List D.Side) (n : Nat) (Ds : List Nat) (W : World) : Prop :=
  D.isFew sd n = false ∧ Turns (fun q => q = b ∨ q = m) w0 W ∧ Blk W (w0.heap.size + 1) 66 #[errV A 2] ∧ Marks w0 Ds W

set_option maxRecDepth 100000 in
set_option maxHeartbeats 4000000 in
theorem inner_any (A : Nat → Addr) (B : Nat) (Se : List Nat) (hSe : 2 ∈ Se) (n' L Dd N1 b m n K : Nat) (rv : Value) (rs : List D.Rule) (S : D.Sets) (nv fv : Value) (vs : List Value) (Ds : List Nat) (keep : Nat → Prop) (wE w0 W0 W : World) (pre : List Nat) (ub : Nat)
    (hO : Old A B Se rv rs b m wE w0) (hI : InI w0 N1 L b m n rv (lefts rs) K S nv fv vs Ds pre W0) (ht : Turns (fun q => q = L) W0 W) (hL : L < W0.heap.size) (hkeep : ∀ q, keep q ∨ q = L ∨ q = Dd → (N1 < q ∧ q ≤ L) ∨ (W0.heap.size ≤ q ∧ q < W.heap.size)) (hK : (D.build (lefts rs) n K).next.length = K) (hS : (D.build (lefts rs) n K).todo[K]? = some S) (hK3 : (D.build (lefts rs) n K).todo.length ≤ 300) (hpre : pre.length ≤ n) (hn : n ≤ 32) (hl : rs.length ≤ 40) (hr : sideOk rs) (hub : Blk W ub 115 (keyC (D.stepAll (lefts rs) S (D.cls n pre.length)))) (s3 s5 s7 s8 s9 s10 s11 s12 s13 s14 s15 s16 s17 s18 s19 s20 s21 s22 s23 s24 s25 s26 s27 s28 s29 s30 s31 s32 s33 s34 s35 s36 s37 s38 s39 s40 s41 s42 s43 s44 s45 s46 s47 s48 s49 s50 s51 s52 s53 s54 s55 s56 s57 s58 s59 s60 s61 s62 s63 s64 s65 s66 s67 s68 s69 s70 s71 s72 s73 s74 s75 s76 s77 : Value) :
    bldBody.wpIn (Fence.wide.inRound L) n' Tryz.prog (roundP keep (InI w0 N1 L b m n rv (lefts rs) K S nv fv vs Ds) (fun c _ W' => c = .ret ∧ InX w0 A b m (lefts rs) n Ds W') L Dd (pre ++ [pre.length]) W) { tmps := (Value.pointer (some ⟨b, 0, none⟩) :: Value.pointer (some ⟨w0.heap.size, 0, none⟩) :: Value.pointer (some ⟨w0.heap.size + 1, 0, none⟩) :: s3 :: Value.pointer (some ⟨N1, 0, none⟩) :: s5 :: Value.pointer (some ⟨ub, 0, none⟩) :: s7 :: s8 :: s9 :: s10 :: s11 :: s12 :: s13 :: s14 :: s15 :: s16 :: s17 :: s18 :: s19 :: s20 :: s21 :: s22 :: s23 :: s24 :: s25 :: s26 :: s27 :: s28 :: s29 :: s30 :: s31 :: s32 :: s33 :: s34 :: s35 :: s36 :: s37 :: s38 :: s39 :: s40 :: s41 :: s42 :: s43 :: s44 :: s45 :: s46 :: s47 :: s48 :: s49 :: s50 :: s51 :: s52 :: s53 :: s54 :: s55 :: s56 :: s57 :: s58 :: s59 :: s60 :: s61 :: s62 :: s63 :: s64 :: s65 :: s66 :: s67 :: s68 :: s69 :: s70 :: s71 :: s72 :: s73 :: s74 :: s75 :: s76 :: s77 :: []).toArray, defers := [] } W := by
  obtain ⟨hlen, tv, cv, hIN0⟩ := hI
  obtain ⟨t, hti⟩ : ∃ t, (D.row (lefts rs) n S (D.build (lefts rs) n K).todo pre.length).2 = t := ⟨_, rfl⟩
  obtain ⟨rw, hrw⟩ : ∃ rw, (D.row (lefts rs) n S (D.build (lefts rs) n K).todo pre.length).1 = rw := ⟨_, rfl⟩
  obtain ⟨s, hs⟩ : ∃ s, D.stepAll (lefts rs) S (D.cls n pre.length) = s := ⟨_, rfl⟩
  have HRS := Box.mk (show D.row (lefts rs) n S (D.build (lefts rs) n K).todo (pre.length + 1) = (rw ++ [D.place t s], D.add t s) by rw [D.row_succ, hti, hrw, hs])
  have hrl : rw.length = pre.length := by rw [← hrw, D.row_len]
  have HRL := Box.mk hrl
  have hrl33 : rw.length ≤ 32 := by omega
  have HTI := Box.mk hti
  have HK := Box.mk hK
  clear hrl hK
  rw [hti] at hlen hIN0
  rw [hrw] at hIN0
  have hgood : D.Good (lefts rs) s := by rw [← hs]; exact D.good_step _ _ _
  have hsl : s.length = rs.length := by have := hgood.1; rwa [lefts_len] at this
  have HIN := Box.mk (hIN0.turns ht (fun q hq => hq))
  have HB := Box.mk hub
  rw [hs] at HB
  have hLW : L < W.heap.size := Nat.lt_of_lt_of_le hL ht.size
  have HNUM := Box.mk ((callsIn_wide (n := n' - 1)).2 (number_any w0.heap.size b m nv fv rv n (lefts rs).length tv t s W HIN.out.bs.mets hgood.1 (small_of_good hr hgood) hlen (Nat.le_of_lt HIN.out.hp.lt)))
  have HIF := Box.mk (show (Tryz.prog.info? 115).map (·.size) = some (keyC s).size by rw [keyInfo, keyC_size s (by omega)])
  have c1 : W.cell? ⟨w0.heap.size, 0, none⟩ = some (.pointer (some ⟨b, 0, none⟩)) := (HIN.out.hp.cell 0).trans rfl
  have l1 := HIN.out.hp.lt
  -- what the round leaves alone
  have HKP := Box.mk (show ∀ W' : World, Turns (fun q => q = b ∨ q = m ∨ tv.ownBlock = some q ∨ q = N1 ∨ cv.ownBlock = some q ∨ q = w0.heap.size + 1) W W' → Holds (fun q => keep q ∨ q = L ∨ q = Dd) W W' from fun W' hT => by
    have htlt := hIN0.bs.mets.row.lt
    have hclt := hIN0.crow.lt
    have hsz := ht.size
    have h0 := hIN0.n0
    have h1 := hIN0.n1
    have hb := hIN0.bs.lb
    have hm := hIN0.bs.lm
    refine Holds.of_turns hT (fun q hq => ?_) (fun q hq => ?_)
    · have := hkeep q hq; omega
    · have hk := hkeep q hq
      rintro (e | e | e | e | e | e)
      · omega
      · omega
      · have h3 := hIN0.tvb q e; have h4 := (htlt q e).2; omega
      · omega
      · have h3 := hIN0.cvb q e; have h4 := (hclt q e).2; omega
      · omega)
  have HSL := Box.mk hsl
  clear hub hs hIN0 hkeep ht hti hrw hsl
  conv => arg 4; whnf
  gi_wp2_with (refine wpListIn_load_row rfl 115 _ rfl ub rfl 115 (keyC s) (0, 0) _ HB.out Tryz.underlying115 rfl HIF.out ?_)
  refine ⟨trivial, fun h => by simp [Fence.wide] at h, (CallsIn.inRound L HNUM.out).mono ?_⟩
  rintro e W1 hp
  obtain ⟨⟨tv', hIN1⟩, hT1⟩ := HIN.out.number hp hLW
  have he := hp.1
  subst he
  have HT1 := Box.mk hT1
  have HIN1 := Box.mk hIN1
  by_cases hfew : D.place t s < 300
  · have hd : decide (D.place t s < 300) = true := decide_eq_true hfew
    rw [hd]
    obtain ⟨ca, cc, rfl⟩ := ownsRow_shape hIN1.crow
    have c4 : W1.cell? ⟨N1, 0, none⟩ = some (.slice ca rw.length cc) := (hIN1.cur.cell 0).trans rfl
    have l4 := hIN1.cur.lt
    obtain ⟨i0, hi, hz0, hz1, hz2⟩ := info_parts int_info
    have HL1 := Box.mk (Nat.lt_of_lt_of_le hLW hT1.size)
    have HTL := Box.mk (show (D.add t s).length ≤ 300 by
      unfold D.add
      split
      · exact hlen
      · rename_i hns
        rw [D.place_new hns] at hfew
        simp; omega)
    have hbs : w0.heap.size ≤ W1.heap.size := Nat.le_of_lt hIN1.hp.lt
    clear hp hIN1 hT1 hd c1 l1
    gi_wp2_with (gi_at_builtin; refine wpListIn_append_own_at _ rfl _ _ 27 rfl w0.heap.size 3 i0 (.int .i64 0) 1 8 Tryz.underlying27 hi hz0 hz1 hz2 rfl (by decide) (.slice ca rw.length cc) _ _ rfl (HIN1.out.crow.alloc _) ⟨W1.heap.size, 0, none⟩ 1 1 [.int .i64 (D.place t s : Int)] rfl rfl (cell_one_new _ _ _) (by simp [Value.oneCell']) (by unfold maxLen; omega) (by omega) (by simp; omega) ?_; intro v' w1 hown' hgrow _ hat; obtain ⟨g', cap', rfl⟩ := ownsRow_succ hown'; have hv1 := (HIN1.out.cur.alloc _).grown hgrow (Ne.symm (own_blk HIN1.out.crow HIN1.out.cur (by decide))); have hc1 := hv1.cell 0; have hf1 := hv1.frozen 0; simp at hc1)
    have hg' : (Value.slice (some ⟨g', 0, none⟩) (rw.length + 1) cap').ownBlock = (Value.slice ca rw.length cc).ownBlock ∨ (Value.slice (some ⟨g', 0, none⟩) (rw.length + 1) cap').ownBlock = some (W1.alloc (.cells #[.int .i64 (D.place t s : Int)] 3)).heap.size := hat
    obtain ⟨hIN2, hT2⟩ := HIN1.out.push HL1.out (x := D.place t s) hown' hgrow hg'
    refine ⟨(HKP.out _ ((HT1.out.mono ?_).trans (hT2.mono ?_))).mono (fun q hq => hq), ?_⟩
    · rintro q (e | e | e)
      · exact .inl e
      · exact .inr (.inl e)
      · exact .inr (.inr (.inl e))
    · rintro q (e | e)
      · exact .inr (.inr (.inr (.inl e)))
      · exact .inr (.inr (.inr (.inr (.inl e))))
    · unfold InI
      rw [List.length_append, List.length_cons, List.length_nil, Nat.zero_add, HRS.out]
      exact ⟨HTL.out, tv', _, hIN2⟩
  · have hd : decide (D.place t s < 300) = false := decide_eq_false hfew
    rw [hd]
    have hns : s ∉ t := fun hm => hfew (Nat.lt_of_lt_of_le (D.place_lt hm) hlen)
    have htl : t.length = 300 := by rw [D.place_new hns] at hfew; omega
    have HFEW := Box.mk (show D.isFew (lefts rs) n = false by
      have hKl : K < (D.build (lefts rs) n K).todo.length := (List.getElem?_eq_some_iff.1 hS).1
      refine D.few_no (lefts rs) n (k := K + 1) (by omega) ?_
      have hgo : D.build (lefts rs) n (K + 1) = _ := D.go_some (lefts rs) n (b := D.build (lefts rs) n K) (by rw [HK.out]; exact hS)
      rw [hgo]
      have hle := D.row_le (lefts rs) n S (D.build (lefts rs) n K).todo (show pre.length + 1 ≤ n + 1 by omega)
      rw [HRS.out] at hle
      have : (D.add t s).length = 301 := by unfold D.add; rw [if_neg hns]; simp; omega
      simp only at hle ⊢
      omega)
    have hbel := hO.now hIN1.bs.turns
    have hed := hO.ed.below (hbel.mono hO.hB)
    have hg : W1.cell? ⟨2, 0, none⟩ = some (errV A 2) := hed.var _ hSe
    have lg : 2 < W1.heap.size := by have h1 := (hed.lt _ hSe).1; have h2 := hO.hB; have h3 := hbel.size; omega
    have cbe : W1.cell? ⟨w0.heap.size + 1, 0, none⟩ = some .nilIface := (hIN1.he.cell 0).trans rfl
    have fbe := hIN1.he.frozen 0
    have lbe := hIN1.he.lt
    have hTS : Turns (fun q => q = w0.heap.size + 1) W1 (W1.setCell ⟨w0.heap.size + 1, 0, none⟩ (errV A 2)) := Turns.setCell (own := fun q => q = w0.heap.size + 1) W1 (p := ⟨w0.heap.size + 1, 0, none⟩) rfl _
    have HX := Box.mk (show InX w0 A b m (lefts rs) n Ds (W1.setCell ⟨w0.heap.size + 1, 0, none⟩ (errV A 2)) from
      ⟨HFEW.out, turns_old hIN1.bs.turns hTS (fun q hq e => by omega), hIN1.he.set_ 0 _, hIN1.marks.turns hTS (fun q hq e => by have := hIN1.dlt q hq; have h4 := (hIN1.marks.at' q hq).2; subst e; rw [show W1.heap[w0.heap.size + 1]? = _ from hIN1.he] at h4; cases h4)⟩)
    have HHO := Box.mk ((HKP.out _ ((hT1.mono (own' := fun q => q = b ∨ q = m ∨ tv.ownBlock = some q ∨ q = N1 ∨ cv.ownBlock = some q ∨ q = w0.heap.size + 1) (by
      rintro q (e | e | e)
      · exact .inl e
      · exact .inr (.inl e)
      · exact .inr (.inr (.inl e)))).trans (hTS.mono (fun q e => .inr (.inr (.inr (.inr (.inr e)))))))).mono (own' := fun q => q = L ∨ q = Dd) (fun q hq => .inr hq))
    clear hp hIN1 hT1 hd c1 l1 hbel hed hTS hns htl hfew
    unfold errV at hg HX HHO
    gi_wp2
    exact ⟨HHO.out, rfl, HX.out⟩
end Go.Proofs.YtbpcipobdokcfaaGreatDoor

/- ONE ROUND OF THE BUILDER's OUTER LOOP: a state. -/
namespace Go.Proofs.YtbpcipobdokcfaaGreatDoor
open Go.RowKit Go.Shelf
attribute [local go_sem] Oper.semAt_some

section
variable {P : Program} {ops : Array Oper} {w : World}
theorem wpStill_mid {Q : Act → Prop} {a : Act} {o : Oper} {rest : List Oper} (hgd : o.guard = none) (ty : TypeId) (x : Operand) (ho : o.op = .load ty x)
    (b off : Nat) (hx : a.eval x = .pointer (some ⟨b, off, none⟩)) (cs : List Value) (d : TypeDesc) (hc : w.rangeAt b off cs)
    (hu : P.underlying ty = some d) (hd : d.isRow = true) (hi : (P.info? ty).map (·.size) = some cs.length)
    (h : wpStill P ops w Q rest (a.put o.dst (.agg cs.toArray))) : wpStill P ops w Q (o :: rest) a := by
  refine wpStill_step fun K hK => ?_
  rw [if_pos (by simp [Region.wanted, hgd])]
  unfold Oper.still execOp
  simp only [ho, hx, Instr.loadAt, Instr.sureAddr, Sem.run_bind, Sem.run_pure, Result.andThen_ok, run_loadVar_mid w b off ty cs d hc hu hd hi, Oper.stillUpon_value]
  exact hK _ h
end
/-- sets that stand in a row of such -/
theorem flat_range {w : World} {base g K : Nat} {n c : Nat} {t : List D.Sets} {S : D.Sets} (h : w.ownsRow base 115 40 (.slice (some ⟨g, 0, none⟩) n c) n (t.flatMap keyL)) (hl : ∀ s ∈ t, s.length ≤ 40) (hS : t[K]? = some S) : w.rangeAt g (K * 40) (keyL S) := by
  intro j v hv
  have key : ∀ (t : List D.Sets) (K : Nat), (∀ s ∈ t, s.length ≤ 40) → t[K]? = some S → (t.flatMap keyL)[K * 40 + j]? = some v := by
    intro t
    induction t with
    | nil => intro K _ h; simp at h
    | cons s t ih =>
      intro K hl hK
      have h40 := keyL_len s (hl s (List.mem_cons_self ..))
      rw [List.flatMap_cons]
      cases K with
      | zero =>
        simp only [List.getElem?_cons_zero, Option.some.injEq] at hK
        subst hK
        rw [Nat.zero_mul, Nat.zero_add, List.getElem?_append_left (List.getElem?_eq_some_iff.1 hv).1]
        exact hv
      | succ K =>
        rw [List.getElem?_cons_succ] at hK
        rw [List.getElem?_append_right (by rw [h40, Nat.succ_mul]; omega), h40, show (K + 1) * 40 + j - 40 = K * 40 + j by rw [Nat.succ_mul]; omega]
        exact ih K (fun s hs => hl s (List.mem_cons_of_mem _ hs)) hK
  have := h.cells (g := g) rfl (K * 40 + j) v (key t K hl hS)
  rw [Addr.add_mid, Nat.zero_add] at this
  exact this

theorem cell_other (w : World) (b i j : Nat) (v : Value) (h : i ≠ j) : (w.setCell ⟨b, i, none⟩ v).cell? ⟨b, j, none⟩ = w.cell? ⟨b, j, none⟩ := World.cell?_setCell_other w _ _ v (by intro e; injection e with _ e2; exact h e2)
theorem sliInfo : (Tryz.prog.info? 27).map (fun i => (i.zero, i.size, i.bytes)) = some (some (.slice none 0 0), 1, 24) := by kernel_rfl
theorem own_below' {w w' : World} {B : Nat} {T s : Nat} {v : Value} {n : Nat} {bs : List Value} (h : w.ownsRow B T s v n bs) (hb : Below w.heap.size w w') : w'.ownsRow B T s v n bs := (Turns.of_below (own := fun _ => False) hb).row h (fun _ _ h => h)
noncomputable def bldLoop : Code := (Tryz.f46.body.bind firstLoop).getD .skip

/-- how things stand at the head of the builder's loop -/
def LS (w0 : World) (b m n : Nat) (rv : Value) (sd : List D.Side) (k : Nat) (Ds : List Nat) (w : World) : Prop :=
  (D.build sd n k).next.length = k ∧ (D.build sd n k).todo.length ≤ 300 ∧ (∃ nv fv tv vs, BS w0 b m n sd.length rv (D.build sd n k).todo (D.build sd n k).next (D.build sd n k).fits nv fv tv vs w) ∧
    Blk w w0.heap.size 75 #[.pointer (some ⟨b, 0, none⟩)] ∧ Blk w (w0.heap.size + 1) 66 #[.nilIface] ∧ Marks w0 Ds w
def WI (w0 : World) (b m n : Nat) (rv : Value) (sd : List D.Side) (a : Act) (w : World) : Prop :=
  ∃ (K : Nat) (Ds : List Nat) (s4 s5 s6 s7 s8 s9 s10 s11 s12 s13 s14 s15 s16 s17 s18 s19 s20 s21 s22 s23 s24 s25 s26 s27 s28 s29 s30 s31 s32 s33 s34 s35 s36 s37 s38 s39 s40 s41 s42 s43 s44 s45 s46 s47 s48 s49 s50 s51 s52 s53 s54 s55 s56 s57 s58 s59 s60 s61 s62 s63 s64 s65 s66 s67 s68 s69 s70 s71 s72 s73 s74 s75 s76 s77 : Value), LS w0 b m n rv sd K Ds w ∧ a = { tmps := (Value.pointer (some ⟨b, 0, none⟩) :: Value.pointer (some ⟨w0.heap.size, 0, none⟩) :: Value.pointer (some ⟨w0.heap.size + 1, 0, none⟩) :: Value.int .i64 (K : Int) :: s4 :: s5 :: s6 :: s7 :: s8 :: s9 :: s10 :: s11 :: s12 :: s13 :: s14 :: s15 :: s16 :: s17 :: s18 :: s19 :: s20 :: s21 :: s22 :: s23 :: s24 :: s25 :: s26 :: s27 :: s28 :: s29 :: s30 :: s31 :: s32 :: s33 :: s34 :: s35 :: s36 :: s37 :: s38 :: s39 :: s40 :: s41 :: s42 :: s43 :: s44 :: s45 :: s46 :: s47 :: s48 :: s49 :: s50 :: s51 :: s52 :: s53 :: s54 :: s55 :: s56 :: s57 :: s58 :: s59 :: s60 :: s61 :: s62 :: s63 :: s64 :: s65 :: s66 :: s67 :: s68 :: s69 :: s70 :: s71 :: s72 :: s73 :: s74 :: s75 :: s76 :: s77 :: []).toArray, defers := Ds.map MarkOf }
def Wmu (a : Act) (_ : World) : Nat := 301 - (intOf (a.tmps.getD 3 undef)).toNat

set_option maxRecDepth 100000 in
set_option maxHeartbeats 4000000 in
theorem round_any (A : Nat → Addr) (B : Nat) (Se : List Nat) (hSe : 2 ∈ Se) (b m n K : Nat) (rv : Value) (rs : List D.Rule) (Ds : List Nat) (wE w0 wr : World) (Q0 : Exit → Act → World → Prop)
    (hO : Old A B Se rv rs b m wE w0) (hLS : LS w0 b m n rv (lefts rs) K Ds wr) (hK : K < (D.build (lefts rs) n K).todo.length) (hl : rs.length ≤ 40) (hr : sideOk rs) (hn : n ≤ 32)
    (hret : ∀ (a : Act) (Ds : List Nat) (W : World), a.defers = Ds.map MarkOf → a.tmps.getD 2 undef = .pointer (some ⟨w0.heap.size + 1, 0, none⟩) → InX w0 A b m (lefts rs) n Ds W → Q0 .ret a W) (s4 s5 s6 s7 s8 s9 s10 s11 s12 s13 s14 s15 s16 s17 s18 s19 s20 s21 s22 s23 s24 s25 s26 s27 s28 s29 s30 s31 s32 s33 s34 s35 s36 s37 s38 s39 s40 s41 s42 s43 s44 s45 s46 s47 s48 s49 s50 s51 s52 s53 s54 s55 s56 s57 s58 s59 s60 s61 s62 s63 s64 s65 s66 s67 s68 s69 s70 s71 s72 s73 s74 s75 s76 s77 : Value) :
    bldLoop.wp Tryz.prog (Exit.then (fun a' w' => WI w0 b m n rv (lefts rs) a' w' ∧ Wmu a' w' < Wmu { tmps := (Value.pointer (some ⟨b, 0, none⟩) :: Value.pointer (some ⟨w0.heap.size, 0, none⟩) :: Value.pointer (some ⟨w0.heap.size + 1, 0, none⟩) :: Value.int .i64 (K : Int) :: s4 :: s5 :: s6 :: s7 :: s8 :: s9 :: s10 :: s11 :: s12 :: s13 :: s14 :: s15 :: s16 :: s17 :: s18 :: s19 :: s20 :: s21 :: s22 :: s23 :: s24 :: s25 :: s26 :: s27 :: s28 :: s29 :: s30 :: s31 :: s32 :: s33 :: s34 :: s35 :: s36 :: s37 :: s38 :: s39 :: s40 :: s41 :: s42 :: s43 :: s44 :: s45 :: s46 :: s47 :: s48 :: s49 :: s50 :: s51 :: s52 :: s53 :: s54 :: s55 :: s56 :: s57 :: s58 :: s59 :: s60 :: s61 :: s62 :: s63 :: s64 :: s65 :: s66 :: s67 :: s68 :: s69 :: s70 :: s71 :: s72 :: s73 :: s74 :: s75 :: s76 :: s77 :: []).toArray, defers := Ds.map MarkOf } wr) Q0) { tmps := (Value.pointer (some ⟨b, 0, none⟩) :: Value.pointer (some ⟨w0.heap.size, 0, none⟩) :: Value.pointer (some ⟨w0.heap.size + 1, 0, none⟩) :: Value.int .i64 (K : Int) :: s4 :: s5 :: s6 :: s7 :: s8 :: s9 :: s10 :: s11 :: s12 :: s13 :: s14 :: s15 :: s16 :: s17 :: s18 :: s19 :: s20 :: s21 :: s22 :: s23 :: s24 :: s25 :: s26 :: s27 :: s28 :: s29 :: s30 :: s31 :: s32 :: s33 :: s34 :: s35 :: s36 :: s37 :: s38 :: s39 :: s40 :: s41 :: s42 :: s43 :: s44 :: s45 :: s46 :: s47 :: s48 :: s49 :: s50 :: s51 :: s52 :: s53 :: s54 :: s55 :: s56 :: s57 :: s58 :: s59 :: s60 :: s61 :: s62 :: s63 :: s64 :: s65 :: s66 :: s67 :: s68 :: s69 :: s70 :: s71 :: s72 :: s73 :: s74 :: s75 :: s76 :: s77 :: []).toArray, defers := Ds.map MarkOf } wr := by
  obtain ⟨hk1, hk2, ⟨nv, fv, tv, vs, hBS⟩, hp, he, hM⟩ := hLS
  obtain ⟨S, hS⟩ : ∃ S, (D.build (lefts rs) n K).todo[K]? = some S := ⟨_, List.getElem?_eq_getElem hK⟩
  have HS := Box.mk hS
  obtain ⟨t, ht⟩ : ∃ t, (D.build (lefts rs) n K).todo = t := ⟨_, rfl⟩
  rw [ht] at hBS hS hK hk2
  have hgood : D.Good (lefts rs) S := D.good_build (lefts rs) n K S (by rw [ht]; exact List.mem_of_getElem? hS)
  have hSl : S.length ≤ 40 := by have := hgood.1; rw [lefts_len] at this; omega
  obtain ⟨tk, hlen⟩ : ∃ q, t.length = q + 1 := ⟨t.length - 1, by omega⟩
  have hrow := hBS.mets.row
  rw [hlen] at hrow
  obtain ⟨g, tc, rfl⟩ := ownsRow_succ hrow
  rw [← hlen] at hrow hBS
  have HBS := Box.mk hBS
  have HP := Box.mk hp
  have HE := Box.mk he
  have HM := Box.mk hM
  have HKX := Box.mk hk1
  have HT := Box.mk ht
  have c1 : wr.cell? ⟨w0.heap.size, 0, none⟩ = some (.pointer (some ⟨b, 0, none⟩)) := (hp.cell 0).trans rfl
  have c5 : wr.cell? ⟨b, 5, none⟩ = some (.slice (some ⟨g, 0, none⟩) t.length tc) := (hBS.mets.blk.cell 5).trans rfl
  have l1 := hp.lt
  have l5 := hBS.mets.blk.lt
  have hK300 : K < 300 := by omega
  clear hk1 hBS hp he hM hrow hlen ht hgood
  unfold WI Wmu
  conv => arg 2; whnf
  go_upto_region 6 with (fail)
  obtain ⟨wB, hwB⟩ : ∃ wB, wB = (wr.alloc (.cells #[.slice none 0 0] 27)).drew := ⟨_, rfl⟩
  have hbB : Below wr.heap.size wr wB := by rw [hwB]; exact below_drewN ((Below.refl _ _).alloc (Nat.le_refl _) _) 1
  have HBB := Box.mk hbB
  have hcur : Blk wB wr.heap.size 27 #[.slice none 0 0] := by rw [hwB]; exact Blk.new wr _ _
  have HCUR := Box.mk hcur
  have hszB : wB.heap.size = wr.heap.size + 1 := by rw [hwB]; simp [World.drew]
  have HSZB := Box.mk hszB
  have HBSB := Box.mk (HBS.out.below hbB)
  have HRG := Box.mk (flat_range HBSB.out.mets.row (fun s hs => by have := HBSB.out.mets.fine.len s hs; rw [lefts_len] at this; omega) hS)
  have HIK := Box.mk (show (Tryz.prog.info? 115).map (·.size) = some (keyL S).length by rw [keyInfo, keyL_len S hSl])
  have b1 : wB.cell? ⟨w0.heap.size, 0, none⟩ = some (.pointer (some ⟨b, 0, none⟩)) := (hbB.cell (p := ⟨w0.heap.size, 0, none⟩) l1).trans c1
  have b5 : wB.cell? ⟨b, 5, none⟩ = some (.slice (some ⟨g, 0, none⟩) t.length tc) := (hbB.cell (p := ⟨b, 5, none⟩) l5).trans c5
  refine wp_region_still_tail 8 (by kernel_rfl) (by kernel_rfl) ?_
  simp only [List.take_succ_cons, List.take_zero, List.drop_succ_cons, List.drop_zero]
  change wpStill _ _ (World.drew _) (fun a' => wpList _ _ _ _ a' (World.drew _)) _ _
  rw [← hwB]
  clear hwB hbB hcur hszB c1 c5 hS
  still_step
  still_step
  still_step
  still_step
  still_step
  still_step
  still_step
  refine wpStill_mid rfl 115 _ rfl g (K * 40) rfl (keyL S) _ HRG.out Tryz.underlying115 rfl HIK.out ?_
  refine wpStill_nil ?_
  change wpList _ _ _ _ (Act.put _ _ (.agg (keyC S))) _
  go_wp2_with (go_at_call 73; refine (stepsM_any _ _ _).mono ?_; rintro e w' ⟨rfl, rfl⟩)
  clear b1 b5 l1 l5
  obtain ⟨wL, hwL⟩ : ∃ wL, wL = (wB.alloc (.cells #[.pointer (some ⟨b, 0, none⟩)] 75)).alloc (.cells (keyC S) 115) := ⟨_, rfl⟩
  have hbL : Below wB.heap.size wB wL := by rw [hwL]; exact ((Below.refl _ _).alloc (Nat.le_refl _) _).alloc (by simp) _
  have hbx : Blk wL wB.heap.size 75 #[.pointer (some ⟨b, 0, none⟩)] := by rw [hwL]; exact (Blk.new wB _ _).alloc _
  have hbl : Blk wL (wB.heap.size + 1) 115 (keyC S) := by
    rw [hwL]
    have := Blk.new (wB.alloc (.cells #[.pointer (some ⟨b, 0, none⟩)] 75)) 115 (keyC S)
    simpa using this
  have hszL : wL.heap.size = wr.heap.size + 3 := by have := HSZB.out; rw [hwL]; simp; omega
  have hszB := HSZB.out
  have hlr := HP.out.lt
  have hler := HE.out.lt
  have hbLr : Below wr.heap.size wr wL := HBB.out.trans (hbL.mono HBB.out.size)
  have hIN0 : InI w0 wr.heap.size (wL.heap.size + 1) b m n rv (lefts rs) K S nv fv vs Ds [] wL := by
    unfold InI
    have hrow0 : D.row (lefts rs) n S (D.build (lefts rs) n K).todo ([] : List Nat).length = ([], t) := by rw [HT.out]; rfl
    rw [hrow0]
    exact ⟨hk2, _, .slice none 0 0, ⟨HBSB.out.below hbL, HCUR.out.below hbL HCUR.out.lt, World.ownsRow_nil _ _ _ _, HP.out.below hbLr HP.out.lt, HE.out.below hbLr HE.out.lt,
      HM.out.turns (own := fun _ => False) (Turns.of_below hbLr) (fun _ _ h => h), fun q hq => (HBS.out.nrow.lt q hq).2, fun q hq => (HBS.out.frow.lt q hq).2,
      fun v hv q hq => by obtain ⟨r, hrw⟩ := HBS.out.rows_of v hv; exact (hrw.lt q hq).2, fun q hq => .inl (HBS.out.mets.row.lt q hq).2, fun q hq => by simp [Value.ownBlock] at hq,
      fun q hq => (Array.getElem?_eq_some_iff.1 (HM.out.at' q hq).2).1, hler, by omega⟩⟩
  have hdlt : ∀ q ∈ Ds, q < wr.heap.size := fun q hq => (Array.getElem?_eq_some_iff.1 (HM.out.at' q hq).2).1
  have hgood : D.Good (lefts rs) S := D.good_build (lefts rs) n K S (List.mem_of_getElem? HS.out)
  have HHO := Box.mk hO
  have HHR := Box.mk hr
  have HKT := Box.mk (show (D.build (lefts rs) n K).todo.length ≤ 300 by rw [HT.out]; exact hk2)
  rw [← hwL]
  clear hwL
  refine (wpIn_wide (n := 9)).1 (range_law3 (α := Nat) (gf := 96) (lb := #[.pointer (some ⟨wB.heap.size, 0, none⟩), .pointer (some ⟨wB.heap.size + 1, 0, none⟩)]) rfl (enters_of Tryz.func96 (by kernel_rfl) rfl)
    (encs := stEnc rs n S) (own := fun _ => False) (keep := fun k => k = wB.heap.size ∨ k = wB.heap.size + 1) (ok := fun pre x => x = pre.length ∧ x ≤ n) (S := fun xs _ => xs = List.range (n + 1)) (G := Gb A B b n m rv rs)
    (fun k hk => by rcases hk with h | h; exact h.elim; omega)
    (fun W1 ht => steps1_iter 7 A B b n m rv rs S _ _ _ W1 hn hr hl hgood (ht.blk hbx (fun h => h)) (ht.blk hbl (fun h => h)))
    (fun _ => rfl)
    (InI w0 wr.heap.size (wL.heap.size + 1) b m n rv (lefts rs) K S nv fv vs Ds)
    (fun c _ W => c = .ret ∧ InX w0 A b m (lefts rs) n Ds W) ?hI ?hIx ?hG hIN0
    (fun x a1 W => ∃ ub, wL.heap.size + 2 ≤ ub ∧ Blk W ub 115 (keyC (D.stepAll (lefts rs) S (D.cls n x))) ∧ a1 = { tmps := (Value.pointer (some ⟨b, 0, none⟩) :: Value.pointer (some ⟨w0.heap.size, 0, none⟩) :: Value.pointer (some ⟨w0.heap.size + 1, 0, none⟩) :: Value.int .i64 (K : Int) :: Value.pointer (some ⟨wr.heap.size, 0, none⟩) :: s5 :: Value.pointer (some ⟨ub, 0, none⟩) :: s7 :: s8 :: s9 :: s10 :: s11 :: s12 :: Value.int .i64 (K : Int) :: Value.pointer (some ⟨b, 0, none⟩) :: Value.pointer (some ⟨b, 0, none⟩) :: Value.pointer (some ⟨b, 5, none⟩) :: Value.slice (some ⟨g, 0, none⟩) t.length tc :: Value.int .i64 (t.length : Int) :: Value.bool true :: s20 :: s21 :: Value.pointer (some ⟨b, 0, none⟩) :: Value.pointer (some ⟨b, 0, none⟩) :: Value.pointer (some ⟨b, 0, none⟩) :: Value.pointer (some ⟨b, 5, none⟩) :: Value.slice (some ⟨g, 0, none⟩) t.length tc :: Value.int .i64 (K : Int) :: Value.pointer (some ⟨g, K * 40, none⟩) :: Value.agg (keyC S) :: Value.func (.func 96) #[] #[.pointer (some ⟨wB.heap.size, 0, none⟩), .pointer (some ⟨wB.heap.size + 1, 0, none⟩)] :: Value.int .i64 (x : Int) :: Value.agg (keyC (D.stepAll (lefts rs) S (D.cls n x))) :: s33 :: s34 :: s35 :: s36 :: s37 :: s38 :: s39 :: s40 :: s41 :: s42 :: s43 :: s44 :: s45 :: s46 :: s47 :: s48 :: s49 :: s50 :: s51 :: s52 :: s53 :: s54 :: s55 :: s56 :: s57 :: s58 :: s59 :: s60 :: s61 :: s62 :: s63 :: s64 :: s65 :: s66 :: s67 :: s68 :: s69 :: s70 :: s71 :: s72 :: s73 :: s74 :: s75 :: s76 :: s77 :: []).toArray, defers := [] })
    ?hAx ?assign ?body ?done ?stop (fun _ _ _ h _ => h))
  case hI =>
    rintro pre W W' ⟨h1, tv2, cv2, h2⟩ ht
    exact ⟨h1, tv2, cv2, h2.turns ht (fun q hq => by rcases hq with h | h; exact h.elim; exact h)⟩
  case hIx =>
    rintro c pre W W' ⟨h1, h2, h3, h4, h5⟩ ht
    refine ⟨h1, h2, turns_old h3 ht (fun q hq e => by rcases e with e | e; exact e.elim; omega), ht.blk h4 (by rintro (e | e); exact e; omega), h5.turns ht (fun q hq e => ?_)⟩
    have := hdlt q hq
    rcases e with e | e
    · exact e
    · omega
  case hG =>
    rintro pre W ⟨h1, tv2, cv2, h2⟩
    have hb := HHO.out.now h2.bs.turns
    exact ⟨⟨_, _, _, h2.bs.mets.blk⟩, HHO.out.rules.below hb, HHO.out.e.below (hb.mono HHO.out.hB), Nat.le_trans HHO.out.hB hb.size⟩
  case hAx =>
    rintro x a1 W W' ⟨ub, h1, h2, h3⟩ ht
    exact ⟨ub, h1, ht.blk h2 (by omega), h3⟩
  case assign =>
    intro x W Kc hW hKc
    have hkl : (D.stepAll (lefts rs) S (D.cls n x)).length ≤ 40 := by rw [D.stepAll_len, lefts_len]; exact hl
    have HIF := Box.mk (show (Tryz.prog.info? 115).map (·.size) = some (keyC (D.stepAll (lefts rs) S (D.cls n x))).size by rw [keyInfo, keyC_size _ hkl])
    have HSZ := Box.mk (show (keyC []).size = (keyC (D.stepAll (lefts rs) S (D.cls n x))).size by rw [keyC_size _ hkl]; rfl)
    clear hkl hszB hszL
    unfold stEnc
    gi_wp2_with (refine wpListIn_store_row rfl 115 _ _ rfl W.heap.size (keyC (D.stepAll (lefts rs) S (D.cls n x))) rfl rfl 115 (keyC []) (Blk.new W _ (keyC [])) HIF.out HSZ.out (keyC_one _) ?_; rw [setRow_new])
    exact hKc _ _ (Turns.alloc _ _) ⟨W.heap.size, hW, Blk.new _ _ _, rfl⟩
  case body =>
    rintro pre x a1 W0 W N hW0 hI0 ht hN ⟨rfl, hx⟩ ⟨ub, hub, hbu, rfl⟩
    exact inner_any A B Se hSe _ (wL.heap.size + 1) wL.heap.size wr.heap.size b m n K rv rs S nv fv vs Ds _ wE w0 W0 W pre ub HHO.out hI0 (ht.mono (fun q hq => by rcases hq with h | h; exact h.elim; exact h)) (by omega)
      (fun q hq => by
        rcases hq with (h | h) | h | h
        · left; omega
        · right; omega
        · left; omega
        · left; omega) HKX.out HS.out HKT.out hx hn hl hr hbu _ _ _ _ _ _ _ _ _ _ _ _ _ _ _ _ _ _ _ _ _ _ _ _ _ _ _ _ _ _ _ _ _ _ _ _ _ _ _ _ _ _ _ _ _ _ _ _ _ _ _ _ _ _ _ _ _ _ _ _ _ _ _ _ _ _ _ _ _ _ _ _ _
  case stop =>
    rintro c pre W hW ⟨rfl, hX⟩ hD
    have HX := Box.mk (show InX w0 A b m (lefts rs) n (wL.heap.size :: Ds) W from ⟨hX.1, hX.2.1, hX.2.2.1, hX.2.2.2.cons (by omega) hD (fun h => by have := hdlt _ h; omega)⟩)
    have HRET := Box.mk (fun a h1 h2 => hret a (wL.heap.size :: Ds) W h1 h2 HX.out)
    clear hX hD hszB hszL hret
    refine wpIn_wide.2 ?_
    go_wp2_with fail
    exact HRET.out _ rfl rfl
  case done =>
    rintro xs W hW hxs ⟨h1, tv2, cv2, h2⟩ hD
    have hxl : xs.length = n + 1 := by rw [hxs]; simp
    rw [hxl] at h1 h2
    have HGO := Box.mk (show D.build (lefts rs) n (K + 1) = _ from D.go_some (lefts rs) n (b := D.build (lefts rs) n K) (by rw [HKX.out]; exact HS.out))
    have HIN := Box.mk h2
    have hrl : (D.row (lefts rs) n S (D.build (lefts rs) n K).todo (n + 1)).1.length = n + 1 := D.row_len _ _ _ _ _
    obtain ⟨t', ht'⟩ : ∃ t', (D.row (lefts rs) n S (D.build (lefts rs) n K).todo (n + 1)).2 = t' := ⟨_, rfl⟩
    obtain ⟨r', hr'⟩ : ∃ r', (D.row (lefts rs) n S (D.build (lefts rs) n K).todo (n + 1)).1 = r' := ⟨_, rfl⟩
    obtain ⟨nx, hnx⟩ : ∃ nx, (D.build (lefts rs) n K).next = nx := ⟨_, rfl⟩
    obtain ⟨fx, hfx⟩ : ∃ fx, (D.build (lefts rs) n K).fits = fx := ⟨_, rfl⟩
    have HXX := Box.mk (And.intro ht' (And.intro hr' (And.intro hnx hfx)))
    rw [ht', hr', hnx, hfx] at h2
    rw [ht'] at h1
    rw [hr'] at hrl
    have hcr := h2.crow
    rw [hrl] at hcr
    obtain ⟨ca, cc, rfl⟩ := ownsRow_shape hcr
    have hnl : nx.length = K := by rw [← hnx]; exact HKX.out
    have hnr := h2.bs.nrow
    rw [hnl] at hnr
    obtain ⟨na, nc, rfl⟩ := ownsRow_shape hnr
    have hDn : wL.heap.size ∉ Ds := fun h => by have := hdlt _ h; omega
    have HFS := Box.mk (show FS w0 b m n (lefts rs).length rv t' nx fx (.slice na K nc) fv tv2 vs (wL.heap.size :: Ds) W from ⟨h2.bs, h2.hp, h2.he, h2.marks.cons (by omega) hD hDn⟩)
    have HCUR2 := Box.mk h2.cur
    have HCR2 := Box.mk h2.crow
    have HNLT := Box.mk h2.nlt
    have HRL := Box.mk hrl
    have HNL := Box.mk hnl
    have HT1 := Box.mk h1
    have hW0 : w0.heap.size < W.heap.size := h2.hp.lt
    have hWN : wr.heap.size < W.heap.size := h2.cur.lt
    have hWb : b < w0.heap.size := h2.bs.lb
    have HNRW := Box.mk hnr
    have HGS := Box.mk hgood
    clear hIN0 h2 hcr hnr hnx hfx ht' hr' hnl hrl hD hDn hxs hxl hszB hszL hret hbx hbl hbL hbLr hO hgood
    go_upto_region 12 with (fail)
    go_cut [] from 46 to 57 (fun wx => Box (∃ nv', FS w0 b m n (lefts rs).length rv t' (nx ++ [r']) fx nv' fv tv2 (vs ++ [.slice ca (n + 1) cc]) (wL.heap.size :: Ds) wx))
    case first =>
      obtain ⟨WR, hWR⟩ : ∃ WR, WR = W.drew := ⟨_, rfl⟩
      have hbR : Below W.heap.size W WR := by rw [hWR]; exact below_drewN (Below.refl _ _) 1
      have hszR : WR.heap.size = W.heap.size := by rw [hWR]; rfl
      have HSR := Box.mk (show WR.cell? ⟨w0.heap.size, 0, none⟩ = some (.pointer (some ⟨b, 0, none⟩)) ∧ WR.cell? ⟨wr.heap.size, 0, none⟩ = some (.slice ca (n + 1) cc) from ⟨(HFS.out.hp.below hbR HFS.out.hp.lt).cell 0, (HCUR2.out.below hbR HCUR2.out.lt).cell 0⟩)
      have HFR := Box.mk (HFS.out.below hbR)
      have HNR := Box.mk (show WR.ownsRow w0.heap.size 27 1 (.slice na K nc) K vs by have := HFR.out.bs.nrow; rwa [HNL.out] at this)
      have HNB := Box.mk (show some b ≠ (Value.slice na K nc).ownBlock from fun e => by have := (HFR.out.bs.nrow.lt b e.symm).1; omega)
      have HPN := Box.mk (fun w1 v' (hown : w1.ownsRow w0.heap.size 27 1 v' (K + 1) (vs ++ [.slice ca (n + 1) cc])) (hgrow : (WR.alloc (.cells #[.slice ca (n + 1) cc] 27)).grownBy w1 (Value.slice na K nc).ownBlock) => HFR.out.push_next (own_below' HCR2.out hbR) (by rw [HNL.out]; exact hown) hgrow)
      have HSG := Box.mk (fun w1 (hgrow : (WR.alloc (.cells #[.slice ca (n + 1) cc] 27)).grownBy w1 (Value.slice na K nc).ownBlock) => show w1.cell? ⟨w0.heap.size, 0, none⟩ = some (.pointer (some ⟨b, 0, none⟩)) ∧ w1.cell? ⟨wr.heap.size, 0, none⟩ = some (.slice ca (n + 1) cc) from
        ⟨((HFR.out.hp.alloc _).grown hgrow (fun e => own_blk HFR.out.bs.nrow HFR.out.hp (by decide) e.symm)).cell 0, (((HCUR2.out.below hbR HCUR2.out.lt).alloc _).grown hgrow (fun e => by have := HNLT.out _ e.symm; omega)).cell 0⟩)
      have HSC := Box.mk (fun (w1 : World) (h : w1.cell? ⟨w0.heap.size, 0, none⟩ = some (.pointer (some ⟨b, 0, none⟩)) ∧ w1.cell? ⟨wr.heap.size, 0, none⟩ = some (.slice ca (n + 1) cc)) (v : Value) => show (w1.setCell ⟨b, 0, none⟩ v).cell? ⟨w0.heap.size, 0, none⟩ = some (.pointer (some ⟨b, 0, none⟩)) ∧ (w1.setCell ⟨b, 0, none⟩ v).cell? ⟨wr.heap.size, 0, none⟩ = some (.slice ca (n + 1) cc) from
        ⟨(World.cell?_of_block (w := w1) (Below.heap_setCell w1 ⟨b, 0, none⟩ v w0.heap.size (by simp; omega))).trans h.1, (World.cell?_of_block (w := w1) (Below.heap_setCell w1 ⟨b, 0, none⟩ v wr.heap.size (by simp; omega))).trans h.2⟩)
      have HSA := Box.mk (show ∀ o, (WR.alloc o).cell? ⟨w0.heap.size, 0, none⟩ = some (.pointer (some ⟨b, 0, none⟩)) ∧ (WR.alloc o).cell? ⟨wr.heap.size, 0, none⟩ = some (.slice ca (n + 1) cc) from fun o =>
        ⟨(HFR.out.hp.alloc o).cell 0, ((HCUR2.out.below hbR HCUR2.out.lt).alloc o).cell 0⟩)
      obtain ⟨j0, hj, hj0, hj1, hj2⟩ := info_parts sliInfo
      have cb0 : WR.cell? ⟨b, 0, none⟩ = some (.slice na K nc) := (HFR.out.bs.mets.blk.cell 0).trans rfl
      have lbR : b < WR.heap.size := HFR.out.bs.mets.blk.lt
      have lw0 : w0.heap.size ≤ WR.heap.size := Nat.le_of_lt HFR.out.hp.lt
      clear hszR
      refine wp_region_noPanic ?_
      refine wp_region_held_drew (S := fun W' => W'.cell? ⟨w0.heap.size, 0, none⟩ = some (.pointer (some ⟨b, 0, none⟩)) ∧ W'.cell? ⟨wr.heap.size, 0, none⟩ = some (.slice ca (n + 1) cc)) (by kernel_rfl) (by rw [← hWR]; exact HSR.out) (fun _ => ?_)
      rw [← hWR]
      clear hWR hbR
      refine wpAnyH_take (i := 0) (v := ?_) rfl (by kernel_rfl) (by kernel_rfl) (by kernel_rfl) (fun _ _ _ h => h) (Or.inl ⟨by kernel_rfl, ?_⟩) HSR.out ?_
      rotate_left
      · (intro w hw; obtain ⟨q1, q2⟩ := hw; go_simp; with_reducible rfl)
      refine wpAnyH_take (i := 1) (v := ?_) rfl (by kernel_rfl) (by kernel_rfl) (by kernel_rfl) (fun _ _ _ h => h) (Or.inl ⟨by kernel_rfl, ?_⟩) HSR.out ?_
      rotate_left
      · (intro w hw; obtain ⟨q1, q2⟩ := hw; go_simp; with_reducible rfl)
      refine wpAnyH_take (i := 2) (v := ?_) rfl (by kernel_rfl) (by kernel_rfl) (by kernel_rfl) (fun _ _ _ h => h) (Or.inl ⟨by kernel_rfl, ?_⟩) HSR.out ?_
      rotate_left
      · first | (intro w _; go_simp; done) | (intro w _; go_simp; with_reducible rfl)
      refine wpAnyH_take (i := 3) (v := ?_) rfl (by kernel_rfl) (by kernel_rfl) (by kernel_rfl) (fun _ _ _ h => h) (Or.inl ⟨by kernel_rfl, ?_⟩) HSR.out ?_
      rotate_left
      · first | (intro w _; go_simp; done) | (intro w _; go_simp; with_reducible rfl)
      refine wpAnyH_take (i := 4) (v := ?_) rfl (by kernel_rfl) (by kernel_rfl) (by kernel_rfl) (fun _ _ _ h => h) (Or.inl ⟨by kernel_rfl, ?_⟩) HSR.out ?_
      rotate_left
      · first | (intro w _; go_simp; done) | (intro w _; go_simp; with_reducible rfl)
      refine wpAnyH_take (i := 6) (v := ?_) rfl (by kernel_rfl) (by kernel_rfl) (by kernel_rfl) (fun _ _ _ h => h) (Or.inl ⟨by kernel_rfl, ?_⟩) HSR.out ?_
      rotate_left
      · (intro w hw; obtain ⟨q1, q2⟩ := hw; go_simp; with_reducible rfl)
      refine wpAnyH_ready (rs := [5, 7]) (by kernel_rfl) (by simp) (AllReadyH.cons rfl (fun KK hKK => ?_) (AllReadyH.cons rfl (fun KK hKK => ?_) AllReadyH.nil))
      · go_simp
        refine hKK.out _ _ HSR.out (fun _ => ?_)
        clear hKK KK
        refine wpAnyH_ready (rs := [7]) (by kernel_rfl) (by simp) (AllReadyH.cons rfl (fun KK hKK => ?_) AllReadyH.nil)
        go_simp
        refine hKK.out _ _ (HSA.out _) (fun _ => ?_)
        clear hKK KK
        refine wpAnyH_ready (rs := [8]) (by kernel_rfl) (by simp) (AllReadyH.cons rfl (fun KK hKK => ?_) AllReadyH.nil)
        refine step_append rfl _ _ 23 rfl w0.heap.size 27 j0 (.slice none 0 0) 1 24 Tryz.underlying23 hj hj0 hj1 hj2 rfl (by decide) (.slice na K nc) _ _ (by kernel_rfl) (HNR.out.alloc _) ⟨WR.heap.size, 0, none⟩ 1 1 [.slice ca (n + 1) cc] (by kernel_rfl) rfl (cell_one_new _ _ _) (by simp [Value.oneCell']) (by unfold maxLen; omega) (by omega) (by simp; omega) ?_
        intro v' w1 hown' hgrow _ hat
        obtain ⟨g', cap', rfl⟩ := ownsRow_succ hown'
        have HF1 := Box.mk (HPN.out w1 _ hown' hgrow)
        have hv1 := (HFR.out.bs.mets.blk.alloc (.cells #[.slice ca (n + 1) cc] 27)).grown hgrow HNB.out
        have c0' := (hv1.cell 0).trans (show _ = some (Value.slice na K nc) from rfl)
        have f0' := hv1.frozen 0
        have HS1 := Box.mk (HSG.out w1 hgrow)
        have lb1 := hv1.lt
        clear hown' hgrow hat hv1
        refine hKK.out _ _ HS1.out (fun _ => ?_)
        clear hKK KK
        refine wpAnyH_take (i := 9) (v := ?_) rfl (by kernel_rfl) (by kernel_rfl) (by kernel_rfl) (fun _ _ _ h => h) (Or.inl ⟨by kernel_rfl, ?_⟩) HS1.out ?_
        rotate_left
        · first | (intro w _; go_simp; done) | (intro w _; go_simp; with_reducible rfl)
        refine wpAnyH_take (i := 10) (v := ?_) rfl (by kernel_rfl) (by kernel_rfl) (by kernel_rfl) (fun _ _ _ h => h) (Or.inl ⟨by kernel_rfl, ?_⟩) HS1.out ?_
        rotate_left
        · first | (intro w _; go_simp; done) | (intro w _; go_simp; with_reducible rfl)
        refine wpAnyH_take (i := 11) (v := ?_) rfl (by kernel_rfl) (by kernel_rfl) (by kernel_rfl) (fun _ _ _ h => h) (Or.inl ⟨by kernel_rfl, ?_⟩) HS1.out ?_
        rotate_left
        · first | (intro w _; go_simp; done) | (intro w _; go_simp; with_reducible rfl)
        refine wpAnyH_ready (rs := [12]) (by kernel_rfl) (by simp) (AllReadyH.cons rfl (fun KK hKK => ?_) AllReadyH.nil)
        go_simp
        refine hKK.out _ _ (HSC.out _ HS1.out _) (fun _ => ?_)
        clear hKK KK
        refine wpAnyH_done (by kernel_rfl) ?_ _
        refine NoPanic.normal ?_
        go_wp2_with fail
        go_meet
        exact ⟨⟨_, HF1.out⟩⟩
      · go_simp
        refine hKK.out _ _ (HSA.out _) (fun _ => ?_)
        clear hKK KK
        refine wpAnyH_ready (rs := [5]) (by kernel_rfl) (by simp) (AllReadyH.cons rfl (fun KK hKK => ?_) AllReadyH.nil)
        go_simp
        refine hKK.out _ _ (HSA.out _) (fun _ => ?_)
        clear hKK KK
        refine wpAnyH_ready (rs := [8]) (by kernel_rfl) (by simp) (AllReadyH.cons rfl (fun KK hKK => ?_) AllReadyH.nil)
        refine step_append rfl _ _ 23 rfl w0.heap.size 27 j0 (.slice none 0 0) 1 24 Tryz.underlying23 hj hj0 hj1 hj2 rfl (by decide) (.slice na K nc) _ _ (by kernel_rfl) (HNR.out.alloc _) ⟨WR.heap.size, 0, none⟩ 1 1 [.slice ca (n + 1) cc] (by kernel_rfl) rfl (cell_one_new _ _ _) (by simp [Value.oneCell']) (by unfold maxLen; omega) (by omega) (by simp; omega) ?_
        intro v' w1 hown' hgrow _ hat
        obtain ⟨g', cap', rfl⟩ := ownsRow_succ hown'
        have HF1 := Box.mk (HPN.out w1 _ hown' hgrow)
        have hv1 := (HFR.out.bs.mets.blk.alloc (.cells #[.slice ca (n + 1) cc] 27)).grown hgrow HNB.out
        have c0' := (hv1.cell 0).trans (show _ = some (Value.slice na K nc) from rfl)
        have f0' := hv1.frozen 0
        have HS1 := Box.mk (HSG.out w1 hgrow)
        have lb1 := hv1.lt
        clear hown' hgrow hat hv1
        refine hKK.out _ _ HS1.out (fun _ => ?_)
        clear hKK KK
        refine wpAnyH_take (i := 9) (v := ?_) rfl (by kernel_rfl) (by kernel_rfl) (by kernel_rfl) (fun _ _ _ h => h) (Or.inl ⟨by kernel_rfl, ?_⟩) HS1.out ?_
        rotate_left
        · first | (intro w _; go_simp; done) | (intro w _; go_simp; with_reducible rfl)
        refine wpAnyH_take (i := 10) (v := ?_) rfl (by kernel_rfl) (by kernel_rfl) (by kernel_rfl) (fun _ _ _ h => h) (Or.inl ⟨by kernel_rfl, ?_⟩) HS1.out ?_
        rotate_left
        · first | (intro w _; go_simp; done) | (intro w _; go_simp; with_reducible rfl)
        refine wpAnyH_take (i := 11) (v := ?_) rfl (by kernel_rfl) (by kernel_rfl) (by kernel_rfl) (fun _ _ _ h => h) (Or.inl ⟨by kernel_rfl, ?_⟩) HS1.out ?_
        rotate_left
        · first | (intro w _; go_simp; done) | (intro w _; go_simp; with_reducible rfl)
        refine wpAnyH_ready (rs := [12]) (by kernel_rfl) (by simp) (AllReadyH.cons rfl (fun KK hKK => ?_) AllReadyH.nil)
        go_simp
        refine hKK.out _ _ (HSC.out _ HS1.out _) (fun _ => ?_)
        clear hKK KK
        refine wpAnyH_done (by kernel_rfl) ?_ _
        refine NoPanic.normal ?_
        go_wp2_with fail
        go_meet
        exact ⟨⟨_, HF1.out⟩⟩
    case rest =>
      obtain ⟨nv', hfs⟩ := hcut.out
      clear hcut
      have hS' : t'[K]? = some S := by
        rw [← HXX.out.1]
        exact D.pre_get (D.row_pre (lefts rs) n S (D.build (lefts rs) n K).todo (n + 1)) HS.out
      have HS' := Box.mk hS'
      have hKt : K < t'.length := (List.getElem?_eq_some_iff.1 hS').1
      have hfw := hfs.bs.frow
      obtain ⟨fa, fc, rfl⟩ := ownsRow_shape hfw
      have hfl : fx.length ≤ 300 := by
        have h9 := D.build_len (lefts rs) n K
        rw [HXX.out.2.2.1, HXX.out.2.2.2, HNL.out] at h9
        omega
      have htw := hfs.bs.mets.row
      obtain ⟨tk2, htk2⟩ : ∃ q, t'.length = q + 1 := ⟨t'.length - 1, by omega⟩
      rw [htk2] at htw
      obtain ⟨g2, tc2, rfl⟩ := ownsRow_succ htw
      rw [← htk2] at hfs htw
      have HFC := Box.mk hfs
      clear hfs hfw htw htk2 hS'
      go_upto_region 13 with (fail)
      have HEND := Box.mk (fun fv' W' (h : FS w0 b m n (lefts rs).length rv t' (nx ++ [r']) (fx ++ [D.doneTo (lefts rs) S rs.length]) nv' fv' (.slice (some ⟨g2, 0, none⟩) t'.length tc2) (vs ++ [.slice ca (n + 1) cc]) (wL.heap.size :: Ds) W') => show LS w0 b m n rv (lefts rs) (K + 1) (wL.heap.size :: Ds) W' by
        have e := HGO.out
        rw [HXX.out.1, HXX.out.2.1, HXX.out.2.2.1, HXX.out.2.2.2, lefts_len] at e
        unfold LS
        rw [e]
        exact ⟨by simp only [List.length_append, List.length_cons, List.length_nil]; rw [HNL.out], HT1.out, ⟨_, _, _, _, h.bs⟩, h.hp, h.he, h.marks⟩)
      obtain ⟨WR, hWR⟩ : ∃ WR, WR = wc.drew := ⟨_, rfl⟩
      have hbR : Below wc.heap.size wc WR := by rw [hWR]; exact below_drewN (Below.refl _ _) 1
      have HFR := Box.mk (HFC.out.below hbR)
      have HFW := Box.mk HFR.out.bs.frow
      have HIK2 := Box.mk (show (Tryz.prog.info? 115).map (·.size) = some (keyL S).length by rw [keyInfo, keyL_len S hSl])
      have lbR : b < WR.heap.size := HFR.out.bs.mets.blk.lt
      have lw0 : w0.heap.size < WR.heap.size := HFR.out.hp.lt
      have cb1 : WR.cell? ⟨b, 1, none⟩ = some (.slice fa fx.length fc) := (HFR.out.bs.mets.blk.cell 1).trans rfl
      have HSB := Box.mk (fun W' (h : Below WR.heap.size WR W') => show W'.cell? ⟨w0.heap.size, 0, none⟩ = some (.pointer (some ⟨b, 0, none⟩)) ∧ W'.cell? ⟨b, 5, none⟩ = some (.slice (some ⟨g2, 0, none⟩) t'.length tc2) ∧ W'.rangeAt g2 (K * 40) (keyL S) from
        ⟨(HFR.out.hp.below h lw0).cell 0, (HFR.out.bs.mets.blk.below h lbR).cell 5, flat_range (own_below' HFR.out.bs.mets.row h) (fun s hs => by have := HFR.out.bs.mets.fine.len s hs; rw [lefts_len] at this; omega) HS'.out⟩)
      have HSR := Box.mk (HSB.out WR (Below.refl _ _))
      have HNB := Box.mk (show some b ≠ (Value.slice fa fx.length fc).ownBlock from fun e => by have := (HFW.out.lt b e.symm).1; omega)
      have HSG := Box.mk (fun (w5 : World) (h : Below WR.heap.size WR w5) (w1 : World) (hgrow : (w5.alloc (.cells #[.int .i64 (D.doneTo (lefts rs) S rs.length : Nat)] 2)).grownBy w1 (Value.slice fa fx.length fc).ownBlock) => show w1.cell? ⟨w0.heap.size, 0, none⟩ = some (.pointer (some ⟨b, 0, none⟩)) ∧ w1.cell? ⟨b, 5, none⟩ = some (.slice (some ⟨g2, 0, none⟩) t'.length tc2) ∧ w1.rangeAt g2 (K * 40) (keyL S) from
        ⟨(((HFR.out.hp.below h lw0).alloc _).grown hgrow (fun e => own_blk HFW.out HFR.out.hp (by decide) e.symm)).cell 0, (((HFR.out.bs.mets.blk.below h lbR).alloc _).grown hgrow HNB.out).cell 5,
          flat_range (((own_below' HFR.out.bs.mets.row h).alloc _).kept hgrow (.inr (fun e => own_ne HFR.out.bs.mets.row HFW.out (by decide) (g := g2) rfl (e.symm.trans rfl)))) (fun s hs => by have := HFR.out.bs.mets.fine.len s hs; rw [lefts_len] at this; omega) HS'.out⟩)
      have HSC := Box.mk (fun (w1 : World) (h : w1.cell? ⟨w0.heap.size, 0, none⟩ = some (.pointer (some ⟨b, 0, none⟩)) ∧ w1.cell? ⟨b, 5, none⟩ = some (.slice (some ⟨g2, 0, none⟩) t'.length tc2) ∧ w1.rangeAt g2 (K * 40) (keyL S)) (v : Value) => show (w1.setCell ⟨b, 1, none⟩ v).cell? ⟨w0.heap.size, 0, none⟩ = some (.pointer (some ⟨b, 0, none⟩)) ∧ (w1.setCell ⟨b, 1, none⟩ v).cell? ⟨b, 5, none⟩ = some (.slice (some ⟨g2, 0, none⟩) t'.length tc2) ∧ (w1.setCell ⟨b, 1, none⟩ v).rangeAt g2 (K * 40) (keyL S) from
        ⟨(World.cell?_of_block (w := w1) (Below.heap_setCell w1 ⟨b, 1, none⟩ v w0.heap.size (by simp; omega))).trans h.1, by rw [cell_other w1 b 1 5 v (by omega)]; exact h.2.1,
          fun j u hu => (World.cell?_of_block (w := w1) (Below.heap_setCell w1 ⟨b, 1, none⟩ v g2 (by have := (HFR.out.bs.mets.row.lt g2 rfl).1; simp; omega))).trans (h.2.2 j u hu)⟩)
      have HPF := Box.mk (fun (w5 : World) (h : Below WR.heap.size WR w5) w1 v' (hown : w1.ownsRow w0.heap.size 2 1 v' (fx.length + 1) (fx.map natV ++ [natV (D.doneTo (lefts rs) S rs.length)])) (hgrow : (w5.alloc (.cells #[.int .i64 (D.doneTo (lefts rs) S rs.length : Nat)] 2)).grownBy w1 (Value.slice fa fx.length fc).ownBlock) => (HFR.out.below h).push_fits hown hgrow)
      have HDN := Box.mk (fun W' (h : Below WR.heap.size WR W') => by
        have hb := HHO.out.now (HFR.out.below h).bs.turns
        exact bdone_any A B b _ _ rv n m _ rs S W' (HFR.out.below h).bs.mets.blk (HHO.out.rules.below hb) hl hr (HGS.out) (HHO.out.e.below (hb.mono HHO.out.hB)) (Nat.le_trans HHO.out.hB hb.size))
      obtain ⟨i0, hi, hi0, hi1, hi2⟩ := info_parts i64_info
      refine wp_region_noPanic ?_
      refine wp_region_held_drew (S := fun W' => W'.cell? ⟨w0.heap.size, 0, none⟩ = some (.pointer (some ⟨b, 0, none⟩)) ∧ W'.cell? ⟨b, 5, none⟩ = some (.slice (some ⟨g2, 0, none⟩) t'.length tc2) ∧ W'.rangeAt g2 (K * 40) (keyL S)) (by kernel_rfl) (by rw [← hWR]; exact HSR.out) (fun _ => ?_)
      rw [← hWR]
      clear hWR hbR
      refine wpAnyH_take (i := 0) (v := ?_) rfl (by kernel_rfl) (by kernel_rfl) (by kernel_rfl) (fun _ _ _ h => h) (Or.inl ⟨by kernel_rfl, ?_⟩) HSR.out ?_
      rotate_left
      · (intro w hw; obtain ⟨q1, q2, q3⟩ := hw; go_simp; with_reducible rfl)
      refine wpAnyH_take (i := 1) (v := ?_) rfl (by kernel_rfl) (by kernel_rfl) (by kernel_rfl) (fun _ _ _ h => h) (Or.inl ⟨by kernel_rfl, ?_⟩) HSR.out ?_
      rotate_left
      · (intro w hw; obtain ⟨q1, q2, q3⟩ := hw; go_simp; with_reducible rfl)
      refine wpAnyH_take (i := 2) (v := ?_) rfl (by kernel_rfl) (by kernel_rfl) (by kernel_rfl) (fun _ _ _ h => h) (Or.inl ⟨by kernel_rfl, ?_⟩) HSR.out ?_
      rotate_left
      · first | (intro w _; go_simp; done) | (intro w _; go_simp; with_reducible rfl)
      refine wpAnyH_take (i := 3) (v := ?_) rfl (by kernel_rfl) (by kernel_rfl) (by kernel_rfl) (fun _ _ _ h => h) (Or.inl ⟨by kernel_rfl, ?_⟩) HSR.out ?_
      rotate_left
      · first | (intro w _; go_simp; done) | (intro w _; go_simp; with_reducible rfl)
      refine wpAnyH_take (i := 4) (v := ?_) rfl (by kernel_rfl) (by kernel_rfl) (by kernel_rfl) (fun _ _ _ h => h) (Or.inl ⟨by kernel_rfl, ?_⟩) HSR.out ?_
      rotate_left
      · first | (intro w _; go_simp; done) | (intro w _; go_simp; with_reducible rfl)
      refine wpAnyH_take (i := 6) (v := ?_) rfl (by kernel_rfl) (by kernel_rfl) (by kernel_rfl) (fun _ _ _ h => h) (Or.inl ⟨by kernel_rfl, ?_⟩) HSR.out ?_
      rotate_left
      · (intro w hw; obtain ⟨q1, q2, q3⟩ := hw; go_simp; with_reducible rfl)
      refine wpAnyH_take (i := 7) (v := ?_) rfl (by kernel_rfl) (by kernel_rfl) (by kernel_rfl) (fun _ _ _ h => h) (Or.inl ⟨by kernel_rfl, ?_⟩) HSR.out ?_
      rotate_left
      · (intro w hw; obtain ⟨q1, q2, q3⟩ := hw; go_simp; with_reducible rfl)
      refine wpAnyH_take (i := 8) (v := ?_) rfl (by kernel_rfl) (by kernel_rfl) (by kernel_rfl) (fun _ _ _ h => h) (Or.inl ⟨by kernel_rfl, ?_⟩) HSR.out ?_
      rotate_left
      · first | (intro w _; go_simp; done) | (intro w _; go_simp; with_reducible rfl)
      refine wpAnyH_take (i := 9) (v := ?_) rfl (by kernel_rfl) (by kernel_rfl) (by kernel_rfl) (fun _ _ _ h => h) (Or.inl ⟨by kernel_rfl, ?_⟩) HSR.out ?_
      rotate_left
      · first | (intro w _; go_simp; done) | (intro w _; go_simp; with_reducible rfl)
      refine wpAnyH_take (i := 10) (v := ?_) rfl (by kernel_rfl) (by kernel_rfl) (by kernel_rfl) (fun _ _ _ h => h) (Or.inl ⟨by kernel_rfl, ?_⟩) HSR.out ?_
      rotate_left
      · (intro w hw; obtain ⟨q1, q2, q3⟩ := hw; go_simp; with_reducible rfl)
      refine wpAnyH_take (i := 11) (v := ?_) rfl (by kernel_rfl) (by kernel_rfl) (by kernel_rfl) (fun _ _ _ h => h) (Or.inl ⟨by kernel_rfl, ?_⟩) HSR.out ?_
      rotate_left
      · first | (intro w _; go_simp; done) | (intro w _; go_simp; with_reducible rfl)
      refine wpAnyH_take (i := 12) (v := ?_) rfl (by kernel_rfl) (by kernel_rfl) (by kernel_rfl) (fun _ _ _ h => h) (Or.inl ⟨by kernel_rfl, ?_⟩) HSR.out ?_
      rotate_left
      · first | (intro w _; go_simp; done) | (intro w _; go_simp; with_reducible rfl)
      refine wpAnyH_take (i := 13) (v := .agg (keyC S)) rfl (by kernel_rfl) (by kernel_rfl) (by kernel_rfl) (fun _ _ _ h => h) (yieldsIf_load_mid (by kernel_rfl) 115 _ rfl g2 (K * 40) (by kernel_rfl) (keyL S) _ (fun w hw => hw.2.2) Tryz.underlying115 rfl HIK2.out) HSR.out ?_
      refine wpAnyH_ready (rs := [5, 14]) (by kernel_rfl) (by simp) (AllReadyH.cons rfl (fun KK hKK => ?_) (AllReadyH.cons rfl (fun KK hKK => ?_) AllReadyH.nil))
      · go_simp
        refine hKK.out _ _ HSR.out (fun _ => ?_)
        clear hKK KK
        refine wpAnyH_ready (rs := [14]) (by kernel_rfl) (by simp) (AllReadyH.cons rfl (fun KK hKK => ?_) AllReadyH.nil)
        go_simp
        go_wp2_with (go_at_call 74; refine (HDN.out _ (Below.refl _ _)).mono ?_; rintro e w5 ⟨rfl, hb5⟩)
        have HB5 := Box.mk (show Below WR.heap.size WR w5 from hb5)
        clear hb5
        have hb5s := HB5.out.size
        have cb1' : w5.cell? ⟨b, 1, none⟩ = some (.slice fa fx.length fc) := (HB5.out.cell (p := ⟨b, 1, none⟩) lbR).trans cb1
        have lb5 : b < w5.heap.size := Nat.lt_of_lt_of_le lbR hb5s
        refine hKK.out _ _ (HSB.out _ HB5.out) (fun _ => ?_)
        clear hKK KK
        refine wpAnyH_ready (rs := [15]) (by kernel_rfl) (by simp) (AllReadyH.cons rfl (fun KK hKK => ?_) AllReadyH.nil)
        go_simp
        refine hKK.out _ _ (HSB.out _ (HB5.out.alloc HB5.out.size _)) (fun _ => ?_)
        clear hKK KK
        refine wpAnyH_ready (rs := [16]) (by kernel_rfl) (by simp) (AllReadyH.cons rfl (fun KK hKK => ?_) AllReadyH.nil)
        refine step_append rfl _ _ 24 rfl w0.heap.size 2 i0 (.int .i64 0) 1 8 Tryz.underlying24 hi hi0 hi1 hi2 rfl (by decide) (.slice fa fx.length fc) _ _ (by kernel_rfl) ((own_below' HFW.out HB5.out).alloc _) ⟨w5.heap.size, 0, none⟩ 1 1 [.int .i64 (D.doneTo (lefts rs) S rs.length : Nat)] (by kernel_rfl) rfl (cell_one_new _ _ _) (by simp [Value.oneCell']) (by unfold maxLen; omega) (by omega) (by simp; omega) ?_
        intro v' w1 hown' hgrow _ hat
        obtain ⟨g', cap', rfl⟩ := ownsRow_succ hown'
        have HF1 := Box.mk (HPF.out w5 HB5.out w1 _ hown' hgrow)
        have hv1 := ((HFR.out.bs.mets.blk.below HB5.out lbR).alloc (.cells #[.int .i64 (D.doneTo (lefts rs) S rs.length : Nat)] 2)).grown hgrow HNB.out
        have c0' := (hv1.cell 1).trans (show _ = some (Value.slice fa fx.length fc) from rfl)
        have f0' := hv1.frozen 1
        have HS1 := Box.mk (HSG.out w5 HB5.out w1 hgrow)
        have lb1 := hv1.lt
        clear hown' hgrow hat hv1
        refine hKK.out _ _ HS1.out (fun _ => ?_)
        clear hKK KK
        refine wpAnyH_take (i := 17) (v := ?_) rfl (by kernel_rfl) (by kernel_rfl) (by kernel_rfl) (fun _ _ _ h => h) (Or.inl ⟨by kernel_rfl, ?_⟩) HS1.out ?_
        rotate_left
        · first | (intro w _; go_simp; done) | (intro w _; go_simp; with_reducible rfl)
        refine wpAnyH_take (i := 18) (v := ?_) rfl (by kernel_rfl) (by kernel_rfl) (by kernel_rfl) (fun _ _ _ h => h) (Or.inl ⟨by kernel_rfl, ?_⟩) HS1.out ?_
        rotate_left
        · first | (intro w _; go_simp; done) | (intro w _; go_simp; with_reducible rfl)
        refine wpAnyH_take (i := 19) (v := ?_) rfl (by kernel_rfl) (by kernel_rfl) (by kernel_rfl) (fun _ _ _ h => h) (Or.inl ⟨by kernel_rfl, ?_⟩) HS1.out ?_
        rotate_left
        · first | (intro w _; go_simp; done) | (intro w _; go_simp; with_reducible rfl)
        refine wpAnyH_ready (rs := [20]) (by kernel_rfl) (by simp) (AllReadyH.cons rfl (fun KK hKK => ?_) AllReadyH.nil)
        go_simp
        refine hKK.out _ _ (HSC.out _ HS1.out _) (fun _ => ?_)
        clear hKK KK
        refine wpAnyH_done (by kernel_rfl) ?_ _
        refine NoPanic.normal ?_
        have HLS := Box.mk (HEND.out _ _ HF1.out)
        go_wp2_with fail
        refine ⟨⟨K + 1, wL.heap.size :: Ds, _, _, _, _, _, _, _, _, _, _, _, _, _, _, _, _, _, _, _, _, _, _, _, _, _, _, _, _, _, _, _, _, _, _, _, _, _, _, _, _, _, _, _, _, _, _, _, _, _, _, _, _, _, _, _, _, _, _, _, _, _, _, _, _, _, _, _, _, _, _, _, _, _, _, HLS.out, rfl⟩, ?_⟩
        simp [intOf]
        omega
      · go_simp
        go_wp2_with (go_at_call 74; refine (HDN.out _ (Below.refl _ _)).mono ?_; rintro e w5 ⟨rfl, hb5⟩)
        have HB5 := Box.mk (show Below WR.heap.size WR w5 from hb5)
        clear hb5
        have hb5s := HB5.out.size
        have cb1' : w5.cell? ⟨b, 1, none⟩ = some (.slice fa fx.length fc) := (HB5.out.cell (p := ⟨b, 1, none⟩) lbR).trans cb1
        have lb5 : b < w5.heap.size := Nat.lt_of_lt_of_le lbR hb5s
        refine hKK.out _ _ (HSB.out _ HB5.out) (fun _ => ?_)
        clear hKK KK
        refine wpAnyH_ready (rs := [5, 15]) (by kernel_rfl) (by simp) (AllReadyH.cons rfl (fun KK hKK => ?_) (AllReadyH.cons rfl (fun KK hKK => ?_) AllReadyH.nil))
        · go_simp
          refine hKK.out _ _ (HSB.out _ HB5.out) (fun _ => ?_)
          clear hKK KK
          refine wpAnyH_ready (rs := [15]) (by kernel_rfl) (by simp) (AllReadyH.cons rfl (fun KK hKK => ?_) AllReadyH.nil)
          go_simp
          refine hKK.out _ _ (HSB.out _ (HB5.out.alloc HB5.out.size _)) (fun _ => ?_)
          clear hKK KK
          refine wpAnyH_ready (rs := [16]) (by kernel_rfl) (by simp) (AllReadyH.cons rfl (fun KK hKK => ?_) AllReadyH.nil)
          refine step_append rfl _ _ 24 rfl w0.heap.size 2 i0 (.int .i64 0) 1 8 Tryz.underlying24 hi hi0 hi1 hi2 rfl (by decide) (.slice fa fx.length fc) _ _ (by kernel_rfl) ((own_below' HFW.out HB5.out).alloc _) ⟨w5.heap.size, 0, none⟩ 1 1 [.int .i64 (D.doneTo (lefts rs) S rs.length : Nat)] (by kernel_rfl) rfl (cell_one_new _ _ _) (by simp [Value.oneCell']) (by unfold maxLen; omega) (by omega) (by simp; omega) ?_
          intro v' w1 hown' hgrow _ hat
          obtain ⟨g', cap', rfl⟩ := ownsRow_succ hown'
          have HF1 := Box.mk (HPF.out w5 HB5.out w1 _ hown' hgrow)
          have hv1 := ((HFR.out.bs.mets.blk.below HB5.out lbR).alloc (.cells #[.int .i64 (D.doneTo (lefts rs) S rs.length : Nat)] 2)).grown hgrow HNB.out
          have c0' := (hv1.cell 1).trans (show _ = some (Value.slice fa fx.length fc) from rfl)
          have f0' := hv1.frozen 1
          have HS1 := Box.mk (HSG.out w5 HB5.out w1 hgrow)
          have lb1 := hv1.lt
          clear hown' hgrow hat hv1
          refine hKK.out _ _ HS1.out (fun _ => ?_)
          clear hKK KK
          refine wpAnyH_take (i := 17) (v := ?_) rfl (by kernel_rfl) (by kernel_rfl) (by kernel_rfl) (fun _ _ _ h => h) (Or.inl ⟨by kernel_rfl, ?_⟩) HS1.out ?_
          rotate_left
          · first | (intro w _; go_simp; done) | (intro w _; go_simp; with_reducible rfl)
          refine wpAnyH_take (i := 18) (v := ?_) rfl (by kernel_rfl) (by kernel_rfl) (by kernel_rfl) (fun _ _ _ h => h) (Or.inl ⟨by kernel_rfl, ?_⟩) HS1.out ?_
          rotate_left
          · first | (intro w _; go_simp; done) | (intro w _; go_simp; with_reducible rfl)
          refine wpAnyH_take (i := 19) (v := ?_) rfl (by kernel_rfl) (by kernel_rfl) (by kernel_rfl) (fun _ _ _ h => h) (Or.inl ⟨by kernel_rfl, ?_⟩) HS1.out ?_
          rotate_left
          · first | (intro w _; go_simp; done) | (intro w _; go_simp; with_reducible rfl)
          refine wpAnyH_ready (rs := [20]) (by kernel_rfl) (by simp) (AllReadyH.cons rfl (fun KK hKK => ?_) AllReadyH.nil)
          go_simp
          refine hKK.out _ _ (HSC.out _ HS1.out _) (fun _ => ?_)
          clear hKK KK
          refine wpAnyH_done (by kernel_rfl) ?_ _
          refine NoPanic.normal ?_
          have HLS := Box.mk (HEND.out _ _ HF1.out)
          go_wp2_with fail
          refine ⟨⟨K + 1, wL.heap.size :: Ds, _, _, _, _, _, _, _, _, _, _, _, _, _, _, _, _, _, _, _, _, _, _, _, _, _, _, _, _, _, _, _, _, _, _, _, _, _, _, _, _, _, _, _, _, _, _, _, _, _, _, _, _, _, _, _, _, _, _, _, _, _, _, _, _, _, _, _, _, _, _, _, _, _, _, HLS.out, rfl⟩, ?_⟩
          simp [intOf]
          omega
        · go_simp
          refine hKK.out _ _ (HSB.out _ (HB5.out.alloc HB5.out.size _)) (fun _ => ?_)
          clear hKK KK
          refine wpAnyH_ready (rs := [5]) (by kernel_rfl) (by simp) (AllReadyH.cons rfl (fun KK hKK => ?_) AllReadyH.nil)
          go_simp
          refine hKK.out _ _ (HSB.out _ (HB5.out.alloc HB5.out.size _)) (fun _ => ?_)
          clear hKK KK
          refine wpAnyH_ready (rs := [16]) (by kernel_rfl) (by simp) (AllReadyH.cons rfl (fun KK hKK => ?_) AllReadyH.nil)
          refine step_append rfl _ _ 24 rfl w0.heap.size 2 i0 (.int .i64 0) 1 8 Tryz.underlying24 hi hi0 hi1 hi2 rfl (by decide) (.slice fa fx.length fc) _ _ (by kernel_rfl) ((own_below' HFW.out HB5.out).alloc _) ⟨w5.heap.size, 0, none⟩ 1 1 [.int .i64 (D.doneTo (lefts rs) S rs.length : Nat)] (by kernel_rfl) rfl (cell_one_new _ _ _) (by simp [Value.oneCell']) (by unfold maxLen; omega) (by omega) (by simp; omega) ?_
          intro v' w1 hown' hgrow _ hat
          obtain ⟨g', cap', rfl⟩ := ownsRow_succ hown'
          have HF1 := Box.mk (HPF.out w5 HB5.out w1 _ hown' hgrow)
          have hv1 := ((HFR.out.bs.mets.blk.below HB5.out lbR).alloc (.cells #[.int .i64 (D.doneTo (lefts rs) S rs.length : Nat)] 2)).grown hgrow HNB.out
          have c0' := (hv1.cell 1).trans (show _ = some (Value.slice fa fx.length fc) from rfl)
          have f0' := hv1.frozen 1
          have HS1 := Box.mk (HSG.out w5 HB5.out w1 hgrow)
          have lb1 := hv1.lt
          clear hown' hgrow hat hv1
          refine hKK.out _ _ HS1.out (fun _ => ?_)
          clear hKK KK
          refine wpAnyH_take (i := 17) (v := ?_) rfl (by kernel_rfl) (by kernel_rfl) (by kernel_rfl) (fun _ _ _ h => h) (Or.inl ⟨by kernel_rfl, ?_⟩) HS1.out ?_
          rotate_left
          · first | (intro w _; go_simp; done) | (intro w _; go_simp; with_reducible rfl)
          refine wpAnyH_take (i := 18) (v := ?_) rfl (by kernel_rfl) (by kernel_rfl) (by kernel_rfl) (fun _ _ _ h => h) (Or.inl ⟨by kernel_rfl, ?_⟩) HS1.out ?_
          rotate_left
          · first | (intro w _; go_simp; done) | (intro w _; go_simp; with_reducible rfl)
          refine wpAnyH_take (i := 19) (v := ?_) rfl (by kernel_rfl) (by kernel_rfl) (by kernel_rfl) (fun _ _ _ h => h) (Or.inl ⟨by kernel_rfl, ?_⟩) HS1.out ?_
          rotate_left
          · first | (intro w _; go_simp; done) | (intro w _; go_simp; with_reducible rfl)
          refine wpAnyH_ready (rs := [20]) (by kernel_rfl) (by simp) (AllReadyH.cons rfl (fun KK hKK => ?_) AllReadyH.nil)
          go_simp
          refine hKK.out _ _ (HSC.out _ HS1.out _) (fun _ => ?_)
          clear hKK KK
          refine wpAnyH_done (by kernel_rfl) ?_ _
          refine NoPanic.normal ?_
          have HLS := Box.mk (HEND.out _ _ HF1.out)
          go_wp2_with fail
          refine ⟨⟨K + 1, wL.heap.size :: Ds, _, _, _, _, _, _, _, _, _, _, _, _, _, _, _, _, _, _, _, _, _, _, _, _, _, _, _, _, _, _, _, _, _, _, _, _, _, _, _, _, _, _, _, _, _, _, _, _, _, _, _, _, _, _, _, _, _, _, _, _, _, _, _, _, _, _, _, _, _, _, _, _, _, _, HLS.out, rfl⟩, ?_⟩
          simp [intOf]
          omega
end Go.Proofs.YtbpcipobdokcfaaGreatDoor
