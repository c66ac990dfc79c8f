/-
  Texts of this claim, one behind the other: NfaG, Held, Held2, Held3, NfaH, NfaI, DfA, DfB, DfP, DfC, DfE.
-/
import Derived.Test.YtbpcipobdokcfaaGreatDoorH2
import Derived.Stop.RegionWithIn
import Derived.Shelf.Abstract
import Derived.Shelf.RegionOpen
import Derived.Deep.RegionHeld3
import Derived.Laws.AppendOwnNone
import Derived.Test.YtbpcipobdokcfaaGreatDoorH1

/- ONE STEP OF THE RUNNER; whether all has fitted. -/
namespace Go.Proofs.YtbpcipobdokcfaaGreatDoor
open Go.RowKit Go.Shelf
attribute [local go_sem] Oper.semAt_some

theorem statesM_any (p : Option Addr) (S c : Int) (w : World) :
    Calls Tryz.prog 128 #[.pointer p, .int .i64 S, .int .i64 c] w fun e w' => e = .returned (.func (.func 133) #[] #[.pointer (some ⟨w.heap.size, 0, none⟩), .pointer (some ⟨w.heap.size + 1, 0, none⟩), .pointer (some ⟨w.heap.size + 1 + 1, 0, none⟩)]) ∧
      ((w.alloc (.cells #[.pointer p] 146)).alloc (.cells #[.int .i64 S] 2)).alloc (.cells #[.int .i64 c] 3) = w' := by
  go_enter Tryz.func128, Tryz.ntmps128
  go_wp2
  go_ret
  exact ⟨rfl, rfl⟩

theorem sum_lt (l : List N.Item) (xs : List Nat) (h : ∀ x ∈ xs, x < 2 * l.length) (a : Nat) (ha : a < 2 ^ (2 * l.length + 1)) : xs.foldl (fun out n => out ||| N.clo l (N.goto l n)) a < 2 ^ (2 * l.length + 1) := by
  induction xs generalizing a with
  | nil => exact ha
  | cons x t ih =>
    exact ih (fun y hy => h y (List.mem_cons_of_mem _ hy)) _ (Nat.or_lt_two_pow ha (N.clo_lt l _ (N.goto_le l x (h x (List.mem_cons_self ..)))))
def outOf (l : List N.Item) (a : Nat) (xs : List Nat) : Nat := xs.foldl (fun out n => out ||| N.clo l (N.goto l n)) a
theorem outOf_snoc (l : List N.Item) (a : Nat) (xs : List Nat) (x : Nat) : outOf l a (xs ++ [x]) = outOf l a xs ||| N.clo l (N.goto l x) := by unfold outOf; rw [List.foldl_append]; rfl

set_option maxHeartbeats 4000000 in
theorem step_any (r m : Nat) (st : Bool) (v : Value) (l : List N.Item) (w : World) (h : Rn w r m st v l) (S : Nat) (hS : S < 4611686018427387904) (c : Int) :
    Calls Tryz.prog 121 #[.pointer (some ⟨r, 0, none⟩), .int .i64 S, .int .i64 c] w fun e w' => e = .returned (.int .i64 (N.step l st S c)) ∧ Below w.heap.size w w' := by
  have hl := h.len
  have HR := Box.mk h
  have c0 : w.cell? ⟨r, 0, none⟩ = some (.bool st) := (h.blk.cell 0).trans rfl
  have l0 := h.blk.lt
  obtain ⟨w2, hw2⟩ : ∃ w2, w2 = (w.alloc (.cells #[.pointer (some ⟨r, 0, none⟩)] 146)).alloc (.cells #[.int .i64 0] 2) := ⟨_, rfl⟩
  have hbw : Below w.heap.size w w2 := by rw [hw2]; exact ((Below.refl _ _).alloc (Nat.le_refl _) _).alloc (by simp) _
  have hb0 : Blk w2 w.heap.size 146 #[.pointer (some ⟨r, 0, none⟩)] := by rw [hw2]; exact (Blk.new w _ _).alloc _
  have hb1 : Blk w2 (w.heap.size + 1) 2 #[.int .i64 0] := by
    rw [hw2]
    have := Blk.new (w.alloc (.cells #[.pointer (some ⟨r, 0, none⟩)] 146)) 2 #[.int .i64 0]
    simpa using this
  have HB0 := Box.mk hb0
  have HB1 := Box.mk hb1
  have HBW := Box.mk hbw
  have HW2 := Box.mk hw2
  clear h hb0 hb1 hbw hw2
  refine (callsIn_wide (n := 9)).1 (callsIn_of_wp_marks Tryz.func121 rfl trivial (wpIn_wide.2 ?_))
  simp only [Tryz.ntmps121, List.size_toArray, List.length_cons, List.length_nil, Nat.reduceAdd, Nat.reduceSub, Array.replicate_succ, Array.replicate_zero, List.push_toArray, List.append_toArray, List.nil_append, List.cons_append]
  go_upto_if 15 with (fail)
  go_cut [] from 16 to 18 (fun wx => Box (Below w.heap.size w wx) ∧ Box (Blk wx w.heap.size 146 #[.pointer (some ⟨r, 0, none⟩)]) ∧ Box (Blk wx (w.heap.size + 1) 2 #[.int .i64 (N.init l st)]))
  case first =>
    rw [← HW2.out]
    clear l0 c0
    cases st with
    | true =>
      go_wp2_with fail
      go_meet
      exact ⟨HBW, HB0, ⟨by rw [show N.init l true = 0 from rfl]; exact HB1.out⟩⟩
    | false =>
      have e0 : w2.cell? ⟨w.heap.size, 0, none⟩ = some (.pointer (some ⟨r, 0, none⟩)) := (HB0.out.cell 0).trans rfl
      have HC := Box.mk (closed_any r m false v l (w2.alloc (.cells #[.int .i64 0] 3)) ((HR.out.below HBW.out).below ((Below.refl _ _).alloc (Nat.le_refl _) _)) w2.heap.size 0 (by simp) (by omega))
      go_wp2_with fail
      refine HC.out.mono ?_; rintro e w3 ⟨rfl, hb3⟩
      have hb13 := (HB1.out.alloc (.cells #[.int .i64 0] 3)).below hb3 (by have := HB1.out.lt; simp; omega)
      have HB13 := Box.mk hb13
      have HB03 := Box.mk ((HB0.out.alloc (.cells #[.int .i64 0] 3)).below hb3 (by have := HB0.out.lt; simp; omega))
      have HBW3 := Box.mk (show Below w.heap.size w w3 from (HBW.out.alloc HBW.out.size _).trans (hb3.mono (by have := HBW.out.size; simp; omega)))
      have e1 : w3.cell? ⟨w.heap.size + 1, 0, none⟩ = some (.int .i64 0) := (hb13.cell 0).trans rfl
      have f1 := hb13.frozen 0
      clear hb3 hb13
      go_wp2_with fail
      go_meet
      exact ⟨⟨HBW3.out.setCell (by simp) _⟩, ⟨HB03.out.far (by simp) _⟩, ⟨HB13.out.set_ 0 _⟩⟩
  case rest =>
    obtain ⟨hbw, hb0, hb1⟩ := hcut
    have e0 : wc.cell? ⟨w.heap.size, 0, none⟩ = some (.pointer (some ⟨r, 0, none⟩)) := (hb0.out.cell 0).trans rfl
    go_wp2_with (go_at_call 128; refine (statesM_any _ _ _ _).mono ?_; rintro e w' ⟨rfl, rfl⟩)
    clear e0
    have hbr : Blk (((wc.alloc (.cells #[.pointer (some ⟨r, 0, none⟩)] 146)).alloc (.cells #[.int .i64 S] 2)).alloc (.cells #[.int .i64 c] 3)) wc.heap.size 146 #[.pointer (some ⟨r, 0, none⟩)] := ((Blk.new wc _ _).alloc _).alloc _
    have hbs : Blk (((wc.alloc (.cells #[.pointer (some ⟨r, 0, none⟩)] 146)).alloc (.cells #[.int .i64 S] 2)).alloc (.cells #[.int .i64 c] 3)) (wc.heap.size + 1) 2 #[.int .i64 S] := by
      have := (Blk.new (wc.alloc (.cells #[.pointer (some ⟨r, 0, none⟩)] 146)) 2 #[.int .i64 S]).alloc (.cells #[.int .i64 c] 3)
      simpa using this
    have hbc : Blk (((wc.alloc (.cells #[.pointer (some ⟨r, 0, none⟩)] 146)).alloc (.cells #[.int .i64 S] 2)).alloc (.cells #[.int .i64 c] 3)) (wc.heap.size + 1 + 1) 3 #[.int .i64 c] := by
      have := Blk.new ((wc.alloc (.cells #[.pointer (some ⟨r, 0, none⟩)] 146)).alloc (.cells #[.int .i64 S] 2)) 3 #[.int .i64 c]
      simpa using this
    have hbL : Below wc.heap.size wc (((wc.alloc (.cells #[.pointer (some ⟨r, 0, none⟩)] 146)).alloc (.cells #[.int .i64 S] 2)).alloc (.cells #[.int .i64 c] 3)) := (((Below.refl _ _).alloc (Nat.le_refl _) _).alloc (by simp) _).alloc (by simp; omega) _
    have hsz : (((wc.alloc (.cells #[.pointer (some ⟨r, 0, none⟩)] 146)).alloc (.cells #[.int .i64 S] 2)).alloc (.cells #[.int .i64 c] 3)).heap.size = wc.heap.size + 3 := by simp
    generalize ((wc.alloc (.cells #[.pointer (some ⟨r, 0, none⟩)] 146)).alloc (.cells #[.int .i64 S] 2)).alloc (.cells #[.int .i64 c] 3) = wL at hbr hbs hbc hbL hsz ⊢
    have hcs := hbw.out.size
    have hb1' := hb1.out.lt
    have hbwL : Below w.heap.size w wL := hbw.out.trans (hbL.mono hcs)
    have hAL : Agree w wL := .of_below hbwL
    refine (wpIn_wide (n := 9)).1 (range_law (α := Nat) (gf := 133) (lb := #[.pointer (some ⟨wc.heap.size, 0, none⟩), .pointer (some ⟨wc.heap.size + 1, 0, none⟩), .pointer (some ⟨wc.heap.size + 1 + 1, 0, none⟩)]) rfl (enters_of Tryz.func133 (by kernel_rfl) rfl)
      (encs := fun x => #[.int .i64 x, .int .i64 (N.goto l x)]) (own := fun _ => False) (keep := keepOf w wc.heap.size (wc.heap.size + 1) (wc.heap.size + 1 + 1)) (ok := fun _ x => x < 2 * l.length) (S := fun xs _ => xs = stepsOf l S c (2 * l.length))
      (fun k hk => by rcases hk with h | h; exact h.elim; unfold keepOf at h; omega)
      (fun W1 ht => states1_iter 7 w r m st v l HR.out S hS c wc.heap.size (wc.heap.size + 1) (wc.heap.size + 1 + 1) _ W1 (hAL.turns ht (fun _ h => h.elim)) (ht.blk hbr (fun h => h)) (ht.blk hbs (fun h => h)) (ht.blk hbc (fun h => h)))
      (fun _ => rfl)
      (fun pre W => Blk W w.heap.size 146 #[.pointer (some ⟨r, 0, none⟩)] ∧ Blk W (w.heap.size + 1) 2 #[.int .i64 (outOf l (N.init l st) pre)] ∧ outOf l (N.init l st) pre < 2 ^ (2 * l.length + 1) ∧ Below w.heap.size w W)
      (fun _ _ _ => False) ?hI (fun _ _ _ _ h _ => h) ⟨(hb0.out.below hbL (by omega)), (hb1.out.below hbL hb1'), N.init_lt l st, hbwL⟩
      (fun x a1 _ => a1 = { tmps := #[.pointer (some ⟨r, 0, none⟩), .int .i64 S, .int .i64 c, .pointer (some ⟨w.heap.size, 0, none⟩), undef, undef, .int .i64 0, .pointer (some ⟨w.heap.size + 1, 0, none⟩), undef, .int .i64 (N.goto l x), .pointer (some ⟨r, 0, none⟩), .pointer (some ⟨r, 0, none⟩), .pointer (some ⟨r, 0, none⟩), .pointer (some ⟨r, 0, none⟩), .bool st, .bool !st, u16, u17, u18, .pointer (some ⟨r, 0, none⟩), .int .i64 S, .int .i64 c, .func (.func 133) #[] #[.pointer (some ⟨wc.heap.size, 0, none⟩), .pointer (some ⟨wc.heap.size + 1, 0, none⟩), .pointer (some ⟨wc.heap.size + 1 + 1, 0, none⟩)], .int .i64 x, .int .i64 (N.goto l x), undef, undef, undef, undef, undef, undef, undef], defers := [] })
      (fun _ _ _ _ h _ => h) ?assign ?body ?done (fun _ _ _ _ h _ => h.elim) (fun _ _ _ h _ => h))
    case hI =>
      rintro pre W W' ⟨h1, h2, h3, h4⟩ ht
      exact ⟨ht.blk h1 (by rintro (h | h); exact h; omega), ht.blk h2 (by rintro (h | h); exact h; omega), h3, h4.trans (ht.below h4.size (fun k hk => by rcases hk with h | h; exact h.elim; omega))⟩
    case assign =>
      intro x W K _ hK
      gi_wp2
      exact hK _ _ (Turns.refl _ _) rfl
    case body =>
      rintro pre x a1 W hW ⟨h1, h2, h3, h4⟩ hx rfl
      have hx' : N.goto l x ≤ 2 * l.length := N.goto_le l x hx
      have HAW := Box.mk (show Agree w W from .of_below h4)
      have HN := Box.mk (show ∀ W3, Turns (fun k => k = w.heap.size + 1) W W3 → Blk W3 (w.heap.size + 1) 2 #[.int .i64 (outOf l (N.init l st) (pre ++ [x]))] → Holds (fun k => keepOf w wc.heap.size (wc.heap.size + 1) (wc.heap.size + 1 + 1) k ∨ k = wL.heap.size + 1 ∨ k = wL.heap.size) W W3 ∧ (Blk W3 w.heap.size 146 #[.pointer (some ⟨r, 0, none⟩)] ∧ Blk W3 (w.heap.size + 1) 2 #[.int .i64 (outOf l (N.init l st) (pre ++ [x]))] ∧ outOf l (N.init l st) (pre ++ [x]) < 2 ^ (2 * l.length + 1) ∧ Below w.heap.size w W3) from fun W3 ht hb =>
        ⟨Holds.of_turns ht (fun k hk => by unfold keepOf at hk; omega) (fun k hk => by unfold keepOf at hk; omega), ht.blk h1 (by omega), hb, by rw [outOf_snoc]; exact Nat.or_lt_two_pow h3 (N.clo_lt l _ hx'), h4.trans (ht.below h4.size (fun k hk => by omega))⟩)
      have HCL := Box.mk (fun (W1 : World) (sb : Nat) (ha : Agree w W1) (hs : W1.cell? ⟨sb, 0, none⟩ = some (.int .i64 (N.goto l x))) => (callsIn_wide (n := 9 - 1 - 1 - 1)).2 (closed_any r m st v l W1 (HR.out.agree ha) sb (N.goto l x) hs hx'))
      have e0 : W.cell? ⟨w.heap.size, 0, none⟩ = some (.pointer (some ⟨r, 0, none⟩)) := (h1.cell 0).trans rfl
      have e1 : W.cell? ⟨w.heap.size + 1, 0, none⟩ = some (.int .i64 (outOf l (N.init l st) pre)) := (h2.cell 0).trans rfl
      have l1 := h1.lt
      have l2 := h2.lt
      have H2 := Box.mk h2
      have H3 := Box.mk h3
      have HOR := Box.mk (show bits .or .i64 (outOf l (N.init l st) pre : Int) (N.clo l (N.goto l x) : Int) = (outOf l (N.init l st) (pre ++ [x]) : Int) by
        have a1 := lt_40 _ _ h3 (by omega)
        have a2 := lt_40 _ _ (N.clo_lt l _ hx') (by omega)
        rw [i64_or_nat _ _ (by omega) (by omega), outOf_snoc])
      clear h1 h2 h3 h4 hbr hbs hbc hbL hsz hbwL hAL l0 c0 hx
      gi_wp2
      gi_region_with ((refine And.intro trivial ?_; gi_at_call 95; refine (HCL.out _ _ ?_ ?_).mono ?_; exact ⟨(HAW.out.alloc _).size, (HAW.out.alloc _).block⟩; simp; rintro e w3 ⟨rfl, hb3⟩; have hT3 : Turns (fun k => k = w.heap.size + 1) W w3 := (Turns.alloc W _).trans (Turns.of_below ⟨hb3.os, hb3.tape, hb3.output, hb3.size, hb3.block⟩); have hB3 : Blk w3 (w.heap.size + 1) 2 #[.int .i64 (outOf l (N.init l st) pre)] := (hb3.block _ (by simp; omega)).trans (H2.out.alloc _); have HT3 := Box.mk hT3; have HB3 := Box.mk hB3; have e3 := (hB3.cell 0).trans (show _ = some (Value.int .i64 (outOf l (N.init l st) pre)) from rfl); have f3 := hB3.frozen 0; clear hb3 hT3 hB3))
      all_goals exact HN.out _ (HT3.out.trans (Turns.setCell (own := fun k => k = w.heap.size + 1) _ (p := ⟨w.heap.size + 1, 0, none⟩) rfl _)) (by rw [HOR.out]; exact HB3.out.set_ 0 _)
    case done =>
      intro xs W hW hS' ⟨h1, h2, h3, h4⟩ hD
      have HV := Box.mk (show outOf l (N.init l st) xs = N.step l st S c by rw [hS']; unfold N.step; rw [fill_steps]; rfl)
      have e1 : W.cell? ⟨w.heap.size + 1, 0, none⟩ = some (.int .i64 (outOf l (N.init l st) xs)) := (h2.cell 0).trans rfl
      have H4 := Box.mk h4
      have HD := Box.mk hD
      have hwl := hbwL.size
      clear h1 h2 h3 h4 hD hbr hbs hbc hbL hsz hbwL hAL l0 c0 hS'
      go_wp2_with fail
      refine ⟨by simp, .inl ⟨_, _, rfl, run_takeDeferred HD.out, ?_⟩⟩
      refine ⟨_, results_tmp rfl _ _ _, ?_⟩
      exact ⟨by rw [← HV.out]; rfl, H4.out.trans ((Turns.putObj (own := fun k => k = wL.heap.size) W rfl _).below H4.out.size (fun k hk => by omega))⟩
end Go.Proofs.YtbpcipobdokcfaaGreatDoor

/- A REGION THAT DRAWS ITS ORDER: what a load yields need hold only till one operation, that waits for it, has come up. Nothing of any program. -/
namespace Go.Proofs.YtbpcipobdokcfaaGreatDoor
open Go.RowKit

section
variable {P : Program} {ops : Array Oper} {Q : Exit → Act → World → Prop} {md : Region.Mode} {k : Nat} {F : World → Prop}

/-- what has come up is closed: with each operation all that it waits for -/
def Closed (md : Region.Mode) (ops : Array Oper) (l : Array Bool) : Prop :=
  ∀ j oj, ops[j]? = some oj → l.getD j true = true → ∀ e ∈ oj.after, Region.binds md e = true → l.getD e.on true = true
def closedB (md : Region.Mode) (ops : Array Oper) (l : Array Bool) : Bool :=
  (List.range ops.size).all fun j => !l.getD j true || match ops[j]? with
    | some oj => oj.after.all fun e => !Region.binds md e || l.getD e.on true
    | none => true
theorem closed_of {l : Array Bool} (h : closedB md ops l = true) : Closed md ops l := by
  intro j oj hj hl e he hb
  unfold closedB at h
  rw [List.all_eq_true] at h
  have h1 := h j (List.mem_range.2 (Array.getElem?_eq_some_iff.1 hj).1)
  rw [hl, hj] at h1
  simp only [Bool.not_true, Bool.false_or] at h1
  have h2 := Array.all_eq_true'.1 h1 e he
  rw [hb] at h2
  simpa using h2
theorem closed_ready {l : Array Bool} {i : Nat} (h : Closed md ops l) (hr : i ∈ Region.ready md ops l) : Closed md ops (l.setIfInBounds i true) := by
  obtain ⟨hun, oi, hoi, hall⟩ := mem_ready.1 hr
  have up : ∀ j, l.getD j true = true → (l.setIfInBounds i true).getD j true = true := by
    intro j hj
    by_cases e : i = j
    · subst e
      rw [Array.getD_eq_getD_getElem?, Array.getElem?_setIfInBounds]
      simp
      split <;> rfl
    · rw [getD_set_ne true e]; exact hj
  intro j oj hj hl e he hb
  by_cases hij : i = j
  · subst hij
    rw [hoi] at hj
    cases hj
    exact up _ (by
      have h1 := hall e he hb
      rcases Nat.lt_or_ge e.on l.size with h' | h'
      · simp [h'] at h1 ⊢; exact h1
      · simp [Array.getElem?_eq_none h'])
  · rw [getD_set_ne true hij] at hl
    exact up _ (h j oj hj hl e he hb)
/-- number k waits for number i, through others -/
def waitsB (md : Region.Mode) (ops : Array Oper) (i : Nat) : Nat → Nat → Bool
  | 0, _ => false
  | f + 1, k => match ops[k]? with
    | some ok => ok.after.any fun e => Region.binds md e && (e.on == i || waitsB md ops i f e.on)
    | none => false
theorem waits_un {l : Array Bool} {i : Nat} (hc : Closed md ops l) (hi : l.getD i true = false) : ∀ (f k : Nat), waitsB md ops i f k = true → l.getD k true = false
  | 0, _, h => by simp [waitsB] at h
  | f + 1, k, h => by
    unfold waitsB at h
    cases hk : ops[k]? with
    | none => rw [hk] at h; cases h
    | some ok =>
      rw [hk] at h
      obtain ⟨e, he, hb⟩ := Array.any_eq_true'.1 h
      simp only [Bool.and_eq_true, Bool.or_eq_true, beq_iff_eq] at hb
      cases hl : l.getD k true with
      | false => rfl
      | true =>
        have h1 := hc k ok hk hl e he hb.1
        rcases hb.2 with e1 | e1
        · rw [e1, hi] at h1; cases h1
        · rw [waits_un hc hi f e.on e1] at h1; cases h1

/-- whatever order is picked from here on; F holds behind every operation, till number k has come up -/
def wpAnyK (P : Program) (md : Region.Mode) (ops : Array Oper) (Q : Exit → Act → World → Prop) (k : Nat) (F : World → Prop) : Nat → Array Bool → Act → World → Prop
  | 0, listed, a, w => Region.ready md ops listed = [] ∧ Q .normal a w
  | fuel + 1, listed, a, w =>
    (Region.ready md ops listed = [] → Q .normal a w) ∧
    ∀ i ∈ Region.ready md ops listed, wpOp P ops Q i (fun a' w' => ((listed.setIfInBounds i true).getD k true = false → F w') ∧ wpAnyK P md ops Q k F fuel (listed.setIfInBounds i true) a' w') a w
theorem wpAny_of_K : ∀ (fuel : Nat) (listed : Array Bool) (a : Act) (w : World), wpAnyK P md ops Q k F fuel listed a w → wpAny P md ops Q fuel listed a w
  | 0, _, _, _, h => h
  | fuel + 1, _, _, _, h => ⟨h.1, fun i hi => wpOp_mono (fun a' w' h' => wpAny_of_K fuel _ a' w' h'.2) (h.2 i hi)⟩

theorem wpAnyK_first {i f : Nat} {oi : Oper} {v : Value} (hi : ops[i]? = some oi) (hsel : ∀ (j : Nat) (o : Oper) cs b, ops[j]? = some o → o.op ≠ .select cs b)
    (hQ : ∀ c a w, Q (.panic c) (a.put oi.dst v) w → Q (.panic c) a w) (hik : i ≠ k) (hwt : waitsB md ops i f k = true) :
    ∀ (fuel : Nat) (listed : Array Bool) (a : Act) (w : World),
      (∀ j oj, ops[j]? = some oj → j ≠ i → listed.getD j true = false → (∀ e ∈ oj.after, Region.binds md e = true → e.on ≠ i) → oi.apart ops oj = true) →
      i ∈ Region.ready md ops listed → Closed md ops listed → YieldsIf P ops F oi v a → (listed.getD k true = false → F w) →
      wpAnyK P md ops Q k F fuel (listed.setIfInBounds i true) (a.put oi.dst v) w → wpAnyK P md ops Q k F (fuel + 1) listed a w := by
  intro fuel
  induction fuel with
  | zero =>
    intro listed a w _ hr hc hy hS H
    refine ⟨fun h => (by rw [h] at hr; cases hr), fun j hj => ?_⟩
    have hF : F w := hS (waits_un hc (mem_ready.1 hr).1 f k hwt)
    by_cases hji : j = i
    · subst hji
      exact YieldsIf.wpOp hi hy hF ⟨fun _ => hF, H⟩
    · have := ready_mono hj hji
      rw [H.1] at this
      cases this
  | succ fuel ih =>
    intro listed a w hfree hr hc hy hS H
    have hF : F w := hS (waits_un hc (mem_ready.1 hr).1 f k hwt)
    refine ⟨fun h => (by rw [h] at hr; cases hr), fun j hj => ?_⟩
    by_cases hji : j = i
    · subst hji
      exact YieldsIf.wpOp hi hy hF ⟨fun _ => hF, H⟩
    · have h1 := H.2 j (ready_mono hj hji)
      obtain ⟨hjun, oj, hoj, hall⟩ := mem_ready.1 hj
      have hnot : ∀ e ∈ oj.after, Region.binds md e = true → e.on ≠ i := fun e he hb heq => by
        have h1 := hall e he hb
        have h0 := (mem_ready.1 hr).1
        rw [heq] at h1
        rcases Nat.lt_or_ge i listed.size with h' | h'
        · simp [h'] at h0 h1; rw [h0] at h1; cases h1
        · simp [Array.getElem?_eq_none h'] at h1
      have h2 := wpOp_putIf hoj (hfree j oj hoj hji hjun hnot) (fun cs b => hsel i oi cs b hi) (fun cs b => hsel j oj cs b hoj) hQ hy h1
      have hfree' : ∀ k ok, ops[k]? = some ok → k ≠ i → (listed.setIfInBounds j true).getD k true = false →
          (∀ e ∈ ok.after, Region.binds md e = true → e.on ≠ i) → oi.apart ops ok = true := fun k ok hk hki hun hno => by
        refine hfree k ok hk hki ?_ hno
        by_cases hjk : j = k
        · subst hjk; exact hjun
        · rw [getD_set_ne true hjk] at hun; exact hun
      refine wpOp_mono (fun a' w' h3 => ?_) h2
      have hS' : (listed.setIfInBounds j true).getD k true = false → F w' := fun h => h3.2.1 (by
        rw [Array.setIfInBounds_comm _ _ (Ne.symm hji), getD_set_ne true hik]; exact h)
      refine ⟨hS', ih (listed.setIfInBounds j true) a' w' hfree' (ready_mono hr (Ne.symm hji)) (closed_ready hc hj) h3.1 hS' ?_⟩
      rw [Array.setIfInBounds_comm _ _ hji]
      exact h3.2.2

/-- take number i first: a load, whose value F tells; number k waits for it -/
theorem wpAnyK_take {i : Nat} {oi : Oper} {v : Value} {fuel : Nat} {listed : Array Bool} {a : Act} {w : World} (hi : ops[i]? = some oi)
    (hs : (Region.noSelect ops && Region.free md ops listed i && (Region.ready md ops listed).contains i && closedB md ops listed && waitsB md ops i ops.size k && !(i == k)) = true)
    (hQ : ∀ c a w, Q (.panic c) (a.put oi.dst v) w → Q (.panic c) a w) (hy : YieldsIf P ops F oi v a) (hS : F w)
    (h : wpAnyK P md ops Q k F fuel (listed.setIfInBounds i true) (a.put oi.dst v) w) : wpAnyK P md ops Q k F (fuel + 1) listed a w := by
  simp only [Bool.and_eq_true, Bool.not_eq_true', beq_eq_false_iff_ne] at hs
  obtain ⟨⟨⟨⟨⟨h1, h2⟩, h3⟩, h4⟩, h5⟩, h6⟩ := hs
  exact wpAnyK_first hi (Region.noSelect_spec h1) hQ h6 h5 fuel listed a w (Region.free_spec hi h2) (by simpa using h3) (closed_of h4) hy (fun _ => hS) h

def AllReadyK (P : Program) (md : Region.Mode) (ops : Array Oper) (Q : Exit → Act → World → Prop) (k : Nat) (F : World → Prop) (fuel : Nat) (listed : Array Bool) (a : Act) (w : World) (rs : List Nat) : Prop :=
  ∀ i ∈ rs, wpOp P ops Q i (fun a' w' => ((listed.setIfInBounds i true).getD k true = false → F w') ∧ wpAnyK P md ops Q k F fuel (listed.setIfInBounds i true) a' w') a w
theorem AllReadyK.nil {fuel : Nat} {listed : Array Bool} {a : Act} {w : World} : AllReadyK P md ops Q k F fuel listed a w [] := fun _ h => by cases h
theorem AllReadyK.cons {fuel : Nat} {listed : Array Bool} {a : Act} {w : World} {i : Nat} {o : Oper} {rs : List Nat} (ho : ops[i]? = some o)
    (h : ∀ K' : Act → World → Prop, Shut (∀ a w, ((listed.setIfInBounds i true).getD k true = false → F w) → wpAnyK P md ops Q k F fuel (listed.setIfInBounds i true) a w → K' a w) → if Region.wanted o (yielded ops a.tmps) = true then Oper.wp P o a w K' Q else K' (a.put o.dst undef) w)
    (hs : AllReadyK P md ops Q k F fuel listed a w rs) : AllReadyK P md ops Q k F fuel listed a w (i :: rs) := fun j hj => by
  rcases List.mem_cons.1 hj with rfl | hj
  · exact wpOp_step ho (fun K' hK => h K' (fun a w hS hW => hK a w ⟨hS, hW⟩))
  · exact hs j hj
theorem wpAnyK_ready {rs : List Nat} {fuel : Nat} {listed : Array Bool} {a : Act} {w : World} (hr : Region.ready md ops listed = rs) (hne : rs ≠ [])
    (h : AllReadyK P md ops Q k F fuel listed a w rs) : wpAnyK P md ops Q k F (fuel + 1) listed a w := ⟨fun h0 => absurd (hr ▸ h0) hne, hr ▸ h⟩
/-- one operation alone may come up -/
theorem wpAnyK_one {i : Nat} {o : Oper} {fuel : Nat} {listed : Array Bool} {a : Act} {w : World} (hr : Region.ready md ops listed = [i]) (ho : ops[i]? = some o)
    (h : ∀ K' : Act → World → Prop, Shut (∀ a w, ((listed.setIfInBounds i true).getD k true = false → F w) → wpAnyK P md ops Q k F fuel (listed.setIfInBounds i true) a w → K' a w) → if Region.wanted o (yielded ops a.tmps) = true then Oper.wp P o a w K' Q else K' (a.put o.dst undef) w) :
    wpAnyK P md ops Q k F (fuel + 1) listed a w := wpAnyK_ready hr (by simp) (AllReadyK.cons ho h AllReadyK.nil)
theorem wpAnyK_done {listed : Array Bool} {a : Act} {w : World} (hr : Region.ready md ops listed = []) (h : Q .normal a w) :
    ∀ fuel, wpAnyK P md ops Q k F fuel listed a w
  | 0 => ⟨hr, h⟩
  | _ + 1 => ⟨fun _ => h, by rw [hr]; simp⟩
theorem wp_region_K {id : Nat} {a : Act} {w : World} (k : Nat) (F : World → Prop) (hm : P.follows .mixedOrders = true)
    (h : wpAnyK P .any ops (NoPanic Q) k F ops.size (Array.replicate ops.size false) a w.drew) : (Code.region id ops true).wp P Q a w :=
  wp_region_noPanic (wp_region_any hm (wpAny_of_K _ _ _ _ h))
end

section
variable {P : Program} {w0 : World} {o : Oper} {a : Act} {K : Act → World → Prop} {Q : Exit → Act → World → Prop} {E' : Prop} {ops : Array Oper}
/-- append of one, as the next operation of a region -/
theorem step_push (hgd : o.guard = none) (s x : Operand) (t : TypeId)
    (ho : o.op = .call { callee := .builtin .append, args := #[s, x], argTypes := #[t, t] }) {base : Nat} {e te : TypeId} {bytes : Nat} (hP : Pushes P t e bytes) {ps : List Pc} (hS : Sep ps w0) (k : Nat) {v u : Value} {n : Nat} {xs : List Value}
    (hk : ps[k]? = some (Pc.row base e 1 v n xs)) (hs : a.eval s = v) (hx : a.eval x = .slice (some ⟨w0.heap.size, 0, none⟩) 1 1) (h1 : u.oneCell' = true) (hn : n ≤ 1000000000) (hby : bytes ≤ 1000) (hbase : base ≤ w0.heap.size)
    (h : ∀ v' w', Sep (ps.set k (Pc.row base e 1 v' (n + 1) (xs ++ [u]))) w' → (∃ g c, v' = .slice (some ⟨g, 0, none⟩) (n + 1) c ∧ n + 1 ≤ c ∧ c ≤ 9223372036854775807) → K (a.put o.dst v') w') :
    if Region.wanted o (yielded ops a.tmps) = true then Oper.wp P o a (w0.alloc (.cells #[u] te)) K Q else E' := by
  obtain ⟨i, z, ht, hi, hz0, hz1, hz2, hz3⟩ := hP.out
  have hb : (n + 1) * bytes ≤ 1000000001 * 1000 := Nat.mul_le_mul (by omega) hby
  rw [if_pos (by simp [Region.wanted, hgd])]
  obtain ⟨v', w', hr, hown, hgrow, -, hat⟩ := run_append_own_at (P := P) (w0.alloc (.cells #[u] te)) base t o.type e i z 1 bytes ht hi hz0 hz1 hz2 hz3 (by decide) v n xs ((hS.row k hk).alloc _) ⟨w0.heap.size, 0, none⟩ 1 1 [u] rfl (cell_one_new _ _ _) (by simpa using h1) (by unfold maxLen; omega) (by omega) (by simp; omega)
  unfold Oper.wp execOp
  simp only [ho, resolve, invoke, builtin, Sem.run_bind, Sem.run_pure, Result.andThen_ok, List.map_toArray, List.map_cons, List.map_nil, hs, hx, hr]
  have hS' := (hS.alloc (.cells #[u] te)).grow k hk hgrow hown (by
    rcases hat with e1 | e1
    · exact .inl e1
    · exact .inr (fun q hq => by rw [e1] at hq; simp only [Option.some.injEq] at hq; omega))
  refine h v' w' hS' ?_
  rcases hown.2 with ⟨_, h2⟩ | ⟨g, cap, cur, h2, _, _, h3, h4, _⟩
  · omega
  · exact ⟨g, cap, h2, h3, by unfold maxLen at h4; omega⟩
end
end Go.Proofs.YtbpcipobdokcfaaGreatDoor

/- APPEND OF ONE ELEMENT OF MANY CELLS, among other pieces. Nothing of any program. -/
namespace Go.Proofs.YtbpcipobdokcfaaGreatDoor
open Go.RowKit

/-- what an append needs to know of a row's type, whose elements have s cells -/
structure PushesN (P : Program) (t e : TypeId) (s bytes : Nat) : Prop where
  out : ∃ (i : TypeInfo) (z : Value), P.underlying t = some (.slice e) ∧ P.info? e = some i ∧ i.zero = some z ∧ i.size = s ∧ i.bytes = bytes ∧ z.cells.size = s
theorem PushesN.mk' {P : Program} {t e : TypeId} {s bytes : Nat} {z : Value} (ht : P.underlying t = some (.slice e)) (h : (P.info? e).map (fun i => (i.zero, i.size, i.bytes)) = some (some z, s, bytes)) (hz : z.cells.size = s) : PushesN P t e s bytes := by
  cases hi : P.info? e with
  | none => rw [hi] at h; cases h
  | some i =>
    rw [hi] at h
    simp only [Option.map_some, Option.some.injEq, Prod.mk.injEq] at h
    exact ⟨i, z, ht, hi, h.1, h.2.1, h.2.2, hz⟩
theorem cells_new (w : World) (cs : List Value) (t : TypeId) : ∀ j u, cs[j]? = some u → (w.alloc (.cells cs.toArray t)).cell? ((⟨w.heap.size, 0, none⟩ : Addr).add j) = some u := by
  intro j u hj
  rw [show (⟨w.heap.size, 0, none⟩ : Addr).add j = ⟨w.heap.size, j, none⟩ by unfold Addr.add; by_cases h0 : j = 0 <;> simp [h0]]
  rw [cell_of_row _ _ _ _ _ _ (heap_alloc_new w _)]
  simpa using hj
section
variable {P : Program} {w0 : World} {o : Oper} {a : Act} {K : Act → World → Prop} {Q : Exit → Act → World → Prop} {E' : Prop} {ops : Array Oper}
theorem run_pushN {t : TypeId} {base : Nat} {e te : TypeId} {sz bytes : Nat} (hP : PushesN P t e sz bytes) (hsz : 0 < sz) {ps : List Pc} (hS : Sep ps w0) (k : Nat) {v : Value} {cs : List Value} {n : Nat} {xs : List Value}
    (hk : ps[k]? = some (Pc.row base e sz v n xs)) (hc : cs.length = sz) (h1 : ∀ u ∈ cs, u.oneCell' = true) (hn : n ≤ 1000000000) (hby : bytes ≤ 10000) (hbase : base ≤ w0.heap.size) (ty : TypeId) :
    ∃ v' w', (Builtin.append_ #[t, t] ty #[v, .slice (some ⟨w0.heap.size, 0, none⟩) 1 1]).run P (w0.alloc (.cells cs.toArray te)) = .ok v' w' ∧ Sep (ps.set k (Pc.row base e sz v' (n + 1) (xs ++ cs))) w' ∧ (∃ g c, v' = .slice (some ⟨g, 0, none⟩) (n + 1) c ∧ n + 1 ≤ c ∧ c ≤ 9223372036854775807) := by
  obtain ⟨i, z, ht, hi, hz0, hz1, hz2, hz3⟩ := hP.out
  have hb : (n + 1) * bytes ≤ 1000000001 * 10000 := Nat.mul_le_mul (by omega) hby
  obtain ⟨v', w', hr, hown, hgrow, -, hat⟩ := run_append_own_at (P := P) (w0.alloc (.cells cs.toArray te)) base t ty e i z sz bytes ht hi hz0 hz1 hz2 hz3 hsz v n xs ((hS.row k hk).alloc _) ⟨w0.heap.size, 0, none⟩ 1 1 cs (by omega) (cells_new _ _ _) h1 (by unfold maxLen; omega) (by omega) (by simp; omega)
  refine ⟨v', w', hr, (hS.alloc (.cells cs.toArray te)).grow k hk hgrow hown (by
    rcases hat with e1 | e1
    · exact .inl e1
    · exact .inr (fun q hq => by rw [e1] at hq; simp only [Option.some.injEq] at hq; omega)), ?_⟩
  rcases hown.2 with ⟨_, h2⟩ | ⟨g, cap, cur, h2, _, _, h3, h4, _⟩
  · omega
  · exact ⟨g, cap, h2, h3, by unfold maxLen at h4; omega⟩
theorem step_pushN (hgd : o.guard = none) (s x : Operand) (t : TypeId)
    (ho : o.op = .call { callee := .builtin .append, args := #[s, x], argTypes := #[t, t] }) {base : Nat} {e te : TypeId} {sz bytes : Nat} (hP : PushesN P t e sz bytes) (hsz : 0 < sz) {ps : List Pc} (hS : Sep ps w0) (k : Nat) {v : Value} {cs : List Value} {n : Nat} {xs : List Value}
    (hk : ps[k]? = some (Pc.row base e sz v n xs)) (hs : a.eval s = v) (hx : a.eval x = .slice (some ⟨w0.heap.size, 0, none⟩) 1 1) (hc : cs.length = sz) (h1 : ∀ u ∈ cs, u.oneCell' = true) (hn : n ≤ 1000000000) (hby : bytes ≤ 10000) (hbase : base ≤ w0.heap.size)
    (h : ∀ v' w', Sep (ps.set k (Pc.row base e sz v' (n + 1) (xs ++ cs))) w' → (∃ g c, v' = .slice (some ⟨g, 0, none⟩) (n + 1) c ∧ n + 1 ≤ c ∧ c ≤ 9223372036854775807) → K (a.put o.dst v') w') :
    if Region.wanted o (yielded ops a.tmps) = true then Oper.wp P o a (w0.alloc (.cells cs.toArray te)) K Q else E' := by
  rw [if_pos (by simp [Region.wanted, hgd])]
  obtain ⟨v', w', hr, h2, h3⟩ := run_pushN (P := P) hP hsz hS k hk hc h1 hn hby hbase o.type (te := te)
  unfold Oper.wp execOp
  simp only [ho, resolve, invoke, builtin, Sem.run_bind, Sem.run_pure, Result.andThen_ok, List.map_toArray, List.map_cons, List.map_nil, hs, hx, hr]
  exact h v' w' h2 h3
theorem wpList_pushN {rest : List Oper} (hgd : o.guard = none) (s x : Operand) (t : TypeId)
    (ho : o.op = .call { callee := .builtin .append, args := #[s, x], argTypes := #[t, t] }) {base : Nat} {e te : TypeId} {sz bytes : Nat} (hP : PushesN P t e sz bytes) (hsz : 0 < sz) {ps : List Pc} (hS : Sep ps w0) (k : Nat) {v : Value} {cs : List Value} {n : Nat} {xs : List Value}
    (hk : ps[k]? = some (Pc.row base e sz v n xs)) (hs : a.eval s = v) (hx : a.eval x = .slice (some ⟨w0.heap.size, 0, none⟩) 1 1) (hc : cs.length = sz) (h1 : ∀ u ∈ cs, u.oneCell' = true) (hn : n ≤ 1000000000) (hby : bytes ≤ 10000) (hbase : base ≤ w0.heap.size)
    (h : ∀ v' w', Sep (ps.set k (Pc.row base e sz v' (n + 1) (xs ++ cs))) w' → (∃ g c, v' = .slice (some ⟨g, 0, none⟩) (n + 1) c ∧ n + 1 ≤ c ∧ c ≤ 9223372036854775807) → wpList P ops Q rest (a.put o.dst v') w') :
    wpList P ops Q (o :: rest) a (w0.alloc (.cells cs.toArray te)) := by
  refine wpList_plain hgd fun K hK => ?_
  obtain ⟨v', w', hr, h2, h3⟩ := run_pushN (P := P) hP hsz hS k hk hc h1 hn hby hbase o.type (te := te)
  unfold Oper.wp execOp
  simp only [ho, resolve, invoke, builtin, Sem.run_bind, Sem.run_pure, Result.andThen_ok, List.map_toArray, List.map_cons, List.map_nil, hs, hx, hr]
  exact hK _ _ (h v' w' h2 h3)
end
/-- the j-th cell of the i-th of elements that have s cells each -/
theorem flat_get {α β : Type} (f : α → List β) (s : Nat) : ∀ (L : List α) (i j : Nat) (x : α), (∀ y ∈ L, (f y).length = s) → L[i]? = some x → j < s → (L.flatMap f)[i * s + j]? = (f x)[j]?
  | [], i, _, _, _, h, _ => by simp at h
  | y :: L, 0, j, x, hl, h, hj => by
    simp only [List.getElem?_cons_zero, Option.some.injEq] at h
    subst h
    rw [List.flatMap_cons, Nat.zero_mul, Nat.zero_add, List.getElem?_append_left (by rw [hl y (List.mem_cons_self ..)]; exact hj)]
  | y :: L, i + 1, j, x, hl, h, hj => by
    rw [List.getElem?_cons_succ] at h
    have hy := hl y (List.mem_cons_self ..)
    rw [List.flatMap_cons, List.getElem?_append_right (by rw [hy, Nat.succ_mul]; omega), hy, show (i + 1) * s + j - s = i * s + j by rw [Nat.succ_mul]; omega]
    exact flat_get f s L i j x (fun z hz => hl z (List.mem_cons_of_mem _ hz)) h hj
end Go.Proofs.YtbpcipobdokcfaaGreatDoor

/- APPEND OF ALL OF A SLICE, among other pieces. Nothing of any program. -/
namespace Go.Proofs.YtbpcipobdokcfaaGreatDoor
open Go.RowKit

/-- a slice whose m elements have these cells -/
def CellsOf (W : World) (v : Value) (m : Nat) (cs : List Value) : Prop :=
  (v = .slice none 0 0 ∧ m = 0 ∧ cs = []) ∨ ∃ ad c, v = .slice (some ad) m c ∧ ∀ j u, cs[j]? = some u → W.cell? (ad.add j) = some u
theorem wpList_spread {P : Program} {w0 : World} {ops : Array Oper} {rest : List Oper} {o : Oper} {a : Act} {Q : Exit → Act → World → Prop} (hgd : o.guard = none) (s x : Operand) (t : TypeId)
    (ho : o.op = .call { callee := .builtin .append, args := #[s, x], argTypes := #[t, t] }) {base : Nat} {e : TypeId} {sz bytes : Nat} (hP : PushesN P t e sz bytes) (hsz : 0 < sz) {ps : List Pc} (hS : Sep ps w0) (k : Nat) {v xv : Value} {cs : List Value} {n m : Nat} {xs : List Value}
    (hk : ps[k]? = some (Pc.row base e sz v n xs)) (hs : a.eval s = v) (hx : a.eval x = xv) (hX : CellsOf w0 xv m cs) (hc : cs.length = m * sz) (h1 : ∀ u ∈ cs, u.oneCell' = true) (hn : n + m ≤ 1000000000) (hby : bytes ≤ 10000) (hbase : base ≤ w0.heap.size)
    (h : ∀ v' w', Sep (ps.set k (Pc.row base e sz v' (n + m) (xs ++ cs))) w' → wpList P ops Q rest (a.put o.dst v') w') : wpList P ops Q (o :: rest) a w0 := by
  obtain ⟨i, z, ht, hi, hz0, hz1, hz2, hz3⟩ := hP.out
  rcases hX with ⟨rfl, rfl, rfl⟩ | ⟨ad, c, rfl, hcl⟩
  · refine wpList_append_own_none hgd s x t ho base e i sz ht hi v n xs hs (hS.row k hk) hx ?_
    have := h v w0
    rw [Nat.add_zero, List.append_nil, show ps.set k (Pc.row base e sz v n xs) = ps by
      obtain ⟨h2, h3⟩ := List.getElem?_eq_some_iff.1 hk
      rw [← h3, List.set_getElem_self]] at this
    exact this hS
  · have hb : (n + m) * bytes ≤ 1000000000 * 10000 := Nat.mul_le_mul hn hby
    refine wpList_append_own_at _ hgd s x t ho base e i z sz bytes ht hi hz0 hz1 hz2 hz3 hsz v n xs hs (hS.row k hk) ad m c cs hx hc hcl h1 (by unfold maxLen; omega) (by omega) hbase ?_
    intro v' w' hown hgrow _ hat
    exact h v' w' (hS.grow k hk hgrow hown (by
      rcases hat with e1 | e1
      · exact .inl e1
      · exact .inr (fun q hq => by rw [e1] at hq; simp only [Option.some.injEq] at hq; omega)))
end Go.Proofs.YtbpcipobdokcfaaGreatDoor

/- WHAT PACKAGE nfa GIVES: Most, First, Step, Done. -/
namespace Go.Proofs.YtbpcipobdokcfaaGreatDoor
open Go.RowKit

def mostV (l : List N.Item) : Int := if rightB l = true then (N.most l : Int) else 0
def firstV (l : List N.Item) : Value := if rightB l = true then .tuple #[.int .i64 (N.clo l 0), .int .i64 0] else .tuple #[.int .i64 0, .int .i64 80]
def setOk (l : List N.Item) (x : Int) : Bool := rightB l && decide (0 ≤ x) && decide (x ≤ N.most l)
def stepV (l : List N.Item) (st : Bool) (x c : Int) : Value := if setOk l x = true then .tuple #[.int .i64 (N.step l st x.toNat c), .int .i64 0] else .tuple #[.int .i64 0, .int .i64 80]
def doneV (l : List N.Item) (x : Int) : Bool := setOk l x && N.doneB l x.toNat

theorem isDone_any (r m : Nat) (st : Bool) (v : Value) (l : List N.Item) (w : World) (h : Rn w r m st v l) (S : Nat) (hS : S < 4611686018427387904) :
    Calls Tryz.prog 122 #[.pointer (some ⟨r, 0, none⟩), .int .i64 S] w fun e w' => e = .returned (.bool (N.doneB l S)) ∧ w = w' := by
  have hl := h.len
  obtain ⟨ao, cap, rfl⟩ := h.items.slice
  have c1 : w.cell? ⟨r, 1, none⟩ = some (.slice ao l.length cap) := (h.blk.cell 1).trans rfl
  have HB := Box.mk (test_bit S (2 * l.length) (by omega))
  clear h
  go_enter Tryz.func122, Tryz.ntmps122
  go_wp2
  go_ret
  exact ⟨ret_bool HB.out, rfl⟩

theorem alloc_below (w : World) (o : Obj) : Below w.heap.size w (w.alloc o) := (Below.refl _ _).alloc (Nat.le_refl _) o

set_option maxHeartbeats 1000000 in
theorem first_any (A : Nat → Addr) (B : Nat) (st : Bool) (v : Value) (l : List N.Item) (w : World) (hv : ItemsAt w v l) (hz : l.length ≤ 16777216) (hE : E A B w) (hB : B ≤ w.heap.size) :
    Calls Tryz.prog 72 #[.agg #[.bool st, v]] w fun e w' => e = .returned (firstV l) ∧ Below w.heap.size w w' := by
  have hb0 := alloc_below w (.cells #[.bool st, v] 42)
  unfold firstV
  cases hr : rightB l with
  | true =>
    have HO := Box.mk (open_ok A B st v l _ (hv.below hb0) hz (hE.below (hb0.mono hB)) (Nat.le_trans hB hb0.size) ⟨hr⟩)
    have HB0 := Box.mk hb0
    clear hb0 hE hv hr
    go_enter Tryz.func72, Tryz.ntmps72
    go_wp2_with fail
    refine HO.out.mono ?_; rintro e w1 ⟨hb1, r, m, rfl, hrn⟩
    have HB1 := Box.mk hb1
    have HC := Box.mk (closed_any r m st v l (w1.alloc (.cells #[.int .i64 0] 3)) (hrn.below (alloc_below _ _)) w1.heap.size 0 (by simp) (by omega))
    clear hb1 hrn
    go_wp2_with fail
    refine HC.out.mono ?_; rintro e w2 ⟨rfl, hb2⟩
    have HB2 := Box.mk ((alloc_below w1 _).trans (hb2.mono (alloc_below w1 _).size))
    clear hb2
    go_wp2_with fail
    go_ret2
    exact ⟨rfl, HB0.out.trans ((HB1.out.trans (HB2.out.mono HB1.out.size)).mono HB0.out.size)⟩
  | false =>
    have HO := Box.mk (open_bad A B st v l _ (hv.below hb0) hz (hE.below (hb0.mono hB)) (Nat.le_trans hB hb0.size) ⟨hr⟩ (.slice none 0 0))
    have HB0 := Box.mk hb0
    have HE := Box.mk hE
    clear hb0 hE hv hr
    go_enter Tryz.func72, Tryz.ntmps72
    go_wp2_with fail
    refine HO.out.mono ?_; rintro e w1 ⟨hb1, rfl⟩
    have HT := Box.mk (told_any A B w1 ((HE.out.below (HB0.out.mono hB)).below (hb1.mono (Nat.le_trans hB HB0.out.size))))
    have HB1 := Box.mk hb1
    unfold errV at HT ⊢
    clear hb1
    go_wp2_with fail
    refine HT.out.mono ?_; rintro e w2 ⟨rfl, rfl⟩
    go_wp2_with fail
    go_ret2
    exact ⟨rfl, HB0.out.trans (HB1.out.mono HB0.out.size)⟩

theorem most_small (l : List N.Item) (h : l.length ≤ 10) : N.most l < 4611686018427387904 := by
  have : 2 ^ (2 * l.length + 1) ≤ 2 ^ 21 := Nat.pow_le_pow_right (by omega) (by omega)
  unfold N.most
  omega
theorem right_len {l : List N.Item} (h : rightB l = true) : l.length ≤ 10 := by
  unfold rightB at h
  rw [Bool.and_eq_true] at h
  exact of_decide_eq_true h.1
theorem cell_two (w : World) (o : Obj) (x : Value) (T : TypeId) : ((w.alloc o).alloc (.cells #[x] T)).cell? ⟨w.heap.size + 1, 0, none⟩ = some x := by
  simp

set_option maxHeartbeats 1000000 in
theorem pstep_any (A : Nat → Addr) (B : Nat) (st : Bool) (v : Value) (l : List N.Item) (x c : Int) (w : World) (hv : ItemsAt w v l) (hz : l.length ≤ 16777216) (hE : E A B w) (hB : B ≤ w.heap.size) :
    Calls Tryz.prog 98 #[.agg #[.bool st, v], .int .i64 x, .int .i64 c] w fun e w' => e = .returned (stepV l st x c) ∧ Below w.heap.size w w' := by
  have hb0 := ((Below.refl w.heap.size w).alloc (Nat.le_refl _) (.cells #[.bool st, v] 42)).alloc (by simp) (.cells #[.int .i64 x] 2)
  have hcx := cell_two w (.cells #[.bool st, v] 42) (.int .i64 x) 2
  unfold stepV
  have HB0 := Box.mk hb0
  have HE := Box.mk hE
  have hE' := hE.below (hb0.mono hB)
  have hB' := Nat.le_trans hB hb0.size
  cases hok : setOk l x with
  | true =>
    have hok' := hok
    unfold setOk at hok
    simp only [Bool.and_eq_true, decide_eq_true_eq] at hok
    obtain ⟨⟨hr, h0⟩, h1⟩ := hok
    have hm := most_small l (right_len hr)
    obtain ⟨S, rfl⟩ := Int.eq_ofNat_of_zero_le h0
    have HO := Box.mk (open_set_ok A B st v l _ (hv.below hb0) hz hE' hB' ⟨hr⟩ (w.heap.size + 1) S hcx h0 h1)
    clear hb0 hE hv hr hE' hB' hok' hcx
    go_enter Tryz.func98, Tryz.ntmps98
    go_wp2_with fail
    refine HO.out.mono ?_; rintro e w1 ⟨hb1, r, m, rfl, hrn⟩
    have HB1 := Box.mk hb1
    have HR := Box.mk hrn
    clear hb1 hrn
    go_wp2_with fail
    refine (step_any r m st v l _ HR.out S (by omega) c).mono ?_; rintro e w2 ⟨rfl, hb2⟩
    have HB2 := Box.mk hb2
    clear hb2
    go_wp2_with fail
    go_ret2
    exact ⟨by simp, HB0.out.trans ((HB1.out.trans (HB2.out.mono HB1.out.size)).mono HB0.out.size)⟩
  | false =>
    have HO := Box.mk (show Calls Tryz.prog 93 #[.agg #[.bool st, v], .slice (some ⟨w.heap.size + 1, 0, none⟩) 1 1] _ (openNo _ A) from by
      cases hr : rightB l with
      | false => exact open_bad A B st v l _ (hv.below hb0) hz hE' hB' ⟨hr⟩ _
      | true =>
        refine open_set_bad A B st v l _ (hv.below hb0) hz hE' hB' ⟨hr⟩ (w.heap.size + 1) x hcx ?_
        unfold setOk at hok
        rw [hr] at hok
        simp at hok
        omega)
    clear hb0 hE hv hE' hB' hok hcx
    go_enter Tryz.func98, Tryz.ntmps98
    go_wp2_with fail
    refine HO.out.mono ?_; rintro e w1 ⟨hb1, rfl⟩
    have HT := Box.mk (told_any A B w1 ((HE.out.below (HB0.out.mono hB)).below (hb1.mono (Nat.le_trans hB HB0.out.size))))
    have HB1 := Box.mk hb1
    unfold errV at HT ⊢
    clear hb1
    go_wp2_with fail
    refine HT.out.mono ?_; rintro e w2 ⟨rfl, rfl⟩
    go_wp2_with fail
    go_ret2
    exact ⟨rfl, HB0.out.trans (HB1.out.mono HB0.out.size)⟩

set_option maxHeartbeats 1000000 in
theorem pdone_any (A : Nat → Addr) (B : Nat) (st : Bool) (v : Value) (l : List N.Item) (x : Int) (w : World) (hv : ItemsAt w v l) (hz : l.length ≤ 16777216) (hE : E A B w) (hB : B ≤ w.heap.size) :
    Calls Tryz.prog 99 #[.agg #[.bool st, v], .int .i64 x] w fun e w' => e = .returned (.bool (doneV l x)) ∧ Below w.heap.size w w' := by
  have hb0 := ((Below.refl w.heap.size w).alloc (Nat.le_refl _) (.cells #[.bool st, v] 42)).alloc (by simp) (.cells #[.int .i64 x] 2)
  have hcx := cell_two w (.cells #[.bool st, v] 42) (.int .i64 x) 2
  unfold doneV
  have HB0 := Box.mk hb0
  have hE' := hE.below (hb0.mono hB)
  have hB' := Nat.le_trans hB hb0.size
  cases hok : setOk l x with
  | true =>
    have hok' := hok
    unfold setOk at hok
    simp only [Bool.and_eq_true, decide_eq_true_eq] at hok
    obtain ⟨⟨hr, h0⟩, h1⟩ := hok
    have hm := most_small l (right_len hr)
    obtain ⟨S, rfl⟩ := Int.eq_ofNat_of_zero_le h0
    have HO := Box.mk (open_set_ok A B st v l _ (hv.below hb0) hz hE' hB' ⟨hr⟩ (w.heap.size + 1) S hcx h0 h1)
    clear hb0 hE hv hr hE' hB' hok' hcx
    go_enter Tryz.func99, Tryz.ntmps99
    go_wp2_with fail
    refine HO.out.mono ?_; rintro e w1 ⟨hb1, r, m, rfl, hrn⟩
    have HB1 := Box.mk hb1
    have HR := Box.mk hrn
    clear hb1 hrn
    go_wp2_with fail
    refine (isDone_any r m st v l _ HR.out S (by omega)).mono ?_; rintro e w2 ⟨rfl, rfl⟩
    go_wp2_with fail
    go_ret
    exact ⟨by simp, HB0.out.trans (HB1.out.mono HB0.out.size)⟩
  | false =>
    have HO := Box.mk (show Calls Tryz.prog 93 #[.agg #[.bool st, v], .slice (some ⟨w.heap.size + 1, 0, none⟩) 1 1] _ (openNo _ A) from by
      cases hr : rightB l with
      | false => exact open_bad A B st v l _ (hv.below hb0) hz hE' hB' ⟨hr⟩ _
      | true =>
        refine open_set_bad A B st v l _ (hv.below hb0) hz hE' hB' ⟨hr⟩ (w.heap.size + 1) x hcx ?_
        unfold setOk at hok
        rw [hr] at hok
        simp at hok
        omega)
    clear hb0 hE hv hE' hB' hok hcx
    go_enter Tryz.func99, Tryz.ntmps99
    go_wp2_with fail
    refine HO.out.mono ?_; rintro e w1 ⟨hb1, rfl⟩
    have HB1 := Box.mk hb1
    unfold errV
    clear hb1
    go_wp2_with fail
    go_ret
    exact ⟨rfl, HB0.out.trans (HB1.out.mono HB0.out.size)⟩
end Go.Proofs.YtbpcipobdokcfaaGreatDoor

/- WHAT PACKAGE nfa GIVES: Run, Fits. -/
namespace Go.Proofs.YtbpcipobdokcfaaGreatDoor
open Go.RowKit

theorem own_below {w w' : World} {B : Nat} {T : TypeId} {v : Value} {n : Nat} {bs : List Value} (h : w.ownsRow B T 1 v n bs) (hb : Below w.heap.size w w') : w'.ownsRow B T 1 v n bs := by
  have hl := h.lt
  refine ⟨h.1, ?_⟩
  rcases h.2 with h2 | ⟨g, cap, cur, h2, h3, h4, h5⟩
  · exact .inl h2
  · exact .inr ⟨g, cap, cur, h2, h3, (hb.block g (hl g (by rw [h2]; rfl)).2).trans h4, h5⟩
def natV (n : Nat) : Value := .int .i64 n
theorem i64_info : (Tryz.prog.info? 2).map (fun i => (i.zero, i.size, i.bytes)) = some (some (.int .i64 0), 1, 8) := by kernel_rfl
theorem bool_info : (Tryz.prog.info? 4).map (fun i => (i.zero, i.size, i.bytes)) = some (some (.bool false), 1, 1) := by kernel_rfl

/-- the sets behind none, one, two .. numbers, as numbers -/
def setsOf (l : List N.Item) (st : Bool) (cs : List Int) : List Int := (N.runs l st (N.clo l 0) cs cs.length).map fun n : Nat => (n : Int)
def runPost (l : List N.Item) (st : Bool) (cs : List Int) (w : World) (e : Ending) (w' : World) : Prop :=
  Below w.heap.size w w' ∧ (rightB l = true → ∃ v, e = .returned (.tuple #[v, .int .i64 0]) ∧ IntsAt w' v (setsOf l st cs)) ∧ (rightB l = false → e = .returned (.tuple #[.slice none 0 0, .int .i64 80]))

theorem lt_62 (l : List N.Item) (hl : l.length ≤ 10) (S : Nat) (hS : S < 2 ^ (2 * l.length + 1)) : S < 4611686018427387904 := by
  have : 2 ^ (2 * l.length + 1) ≤ 2 ^ 21 := Nat.pow_le_pow_right (by omega) (by omega)
  omega

/-- a value that reads as these answers -/
def BoolsAt (w : World) (v : Value) (xs : List Bool) : Prop :=
  (v = .slice none 0 0 ∧ xs = []) ∨ ∃ b off sp cap, v = .slice (some ⟨b, off, sp⟩) xs.length cap ∧ xs.length ≤ cap ∧ cap ≤ maxLen ∧ (xs ≠ [] → sp = none ∧ b < w.heap.size ∧ ∀ i x, xs[i]? = some x → w.cell? ⟨b, off + i, none⟩ = some (.bool x))
theorem BoolsAt.below {w w' : World} {v : Value} {xs : List Bool} (h : BoolsAt w v xs) (hb : Below w.heap.size w w') : BoolsAt w' v xs := by
  rcases h with h | ⟨b, off, sp, cap, h1, h2, h3, h4⟩
  · exact .inl h
  · exact .inr ⟨b, off, sp, cap, h1, h2, h3, fun hn => ⟨(h4 hn).1, Nat.lt_of_lt_of_le (h4 hn).2.1 hb.size, fun i x hx => (hb.cell (p := ⟨b, off + i, none⟩) (h4 hn).2.1).trans ((h4 hn).2.2 i x hx)⟩⟩
theorem BoolsAt.get {w : World} {v : Value} {xs : List Bool} (h : BoolsAt w v xs) (hn : xs ≠ []) :
    ∃ b off cap, v = .slice (some ⟨b, off, none⟩) xs.length cap ∧ xs.length ≤ cap ∧ cap ≤ maxLen ∧ b < w.heap.size ∧ ∀ i x, xs[i]? = some x → w.cell? ⟨b, off + i, none⟩ = some (.bool x) := by
  rcases h with ⟨_, h⟩ | ⟨b, off, sp, cap, h1, h2, h3, h4⟩
  · exact absurd h hn
  · obtain ⟨rfl, h5, h6⟩ := h4 hn
    exact ⟨b, off, cap, h1, h2, h3, h5, h6⟩
theorem BoolsAt.of_own {w : World} {base n : Nat} {T : TypeId} {v : Value} {xs : List Bool} (h : w.ownsRow base T 1 v n (xs.map Value.bool)) (hn : n = xs.length) : BoolsAt w v xs := by
  subst hn
  have hl := h.lt
  rcases h.2 with ⟨h1, h2⟩ | ⟨g, cap, cur, rfl, h2, h3, h4, h5, h6, h7⟩
  · exact .inl ⟨h1, List.eq_nil_of_length_eq_zero h2⟩
  · refine .inr ⟨g, 0, none, cap, rfl, h4, h5, fun _ => ⟨rfl, (hl g rfl).2, fun i x hx => ?_⟩⟩
    have := h.cells (g := g) rfl i (.bool x) (by rw [List.getElem?_map, hx]; rfl)
    rw [show (⟨g, 0 + i, none⟩ : Addr) = (⟨g, 0, none⟩ : Addr).add i by unfold Addr.add; by_cases h0 : i = 0 <;> simp [h0]]
    exact this
theorem BoolsAt.slice {w : World} {v : Value} {xs : List Bool} (h : BoolsAt w v xs) : ∃ a cap, v = .slice a xs.length cap := by
  rcases h with ⟨rfl, rfl⟩ | ⟨b, off, sp, cap, rfl, _⟩
  · exact ⟨_, _, rfl⟩
  · exact ⟨_, _, rfl⟩
theorem ownsRow_shape {w : World} {base : Nat} {e : TypeId} {size : Nat} {v : Value} {n : Nat} {xs : List Value} (h : w.ownsRow base e size v n xs) : ∃ a c, v = .slice a n c := by
  rcases h.2 with ⟨rfl, rfl⟩ | ⟨g, cap, cur, rfl, _⟩
  · exact ⟨_, _, rfl⟩
  · exact ⟨_, _, rfl⟩

def fitsOf (l : List N.Item) (st : Bool) (cs : List Int) : List Bool := (setsOf l st cs).map (doneV l)
def fitsPost (l : List N.Item) (st : Bool) (cs : List Int) (w : World) (e : Ending) (w' : World) : Prop :=
  Below w.heap.size w w' ∧ (rightB l = true → ∃ v, e = .returned (.tuple #[v, .int .i64 0]) ∧ BoolsAt w' v (fitsOf l st cs)) ∧ (rightB l = false → e = .returned (.tuple #[.slice none 0 0, .int .i64 80]))
theorem setsOf_len (l : List N.Item) (st : Bool) (cs : List Int) : (setsOf l st cs).length = cs.length + 1 := by simp [setsOf, N.runs_len]
theorem map_snoc {α β : Type} (f : α → β) (xs : List α) (k : Nat) (x : α) (h : xs[k]? = some x) : (xs.take (k + 1)).map f = (xs.take k).map f ++ [f x] := by
  rw [List.take_add_one, h, List.map_append]; rfl

end Go.Proofs.YtbpcipobdokcfaaGreatDoor

/- SETS OF CLASSES, OF SO MANY CLASSES: which are right, by the program and by the document. -/
namespace Go.Proofs.YtbpcipobdokcfaaGreatDoor
open Go.RowKit

def setN (n set : Int) : Bool := decide (1 ≤ n) && decide (n ≤ 32) && decide (0 ≤ set) && decide (set < 2 ^ n.toNat)
theorem setN_nat (m S : Nat) (h1 : 1 ≤ m) (h2 : m ≤ 32) : setN (m : Int) (S : Int) = decide (S < 2 ^ m) := by
  unfold setN
  rw [Bool.eq_iff_iff]
  simp only [Bool.and_eq_true, decide_eq_true_eq, Int.toNat_natCast]
  have e : ((2 : Int) ^ m) = ((2 ^ m : Nat) : Int) := by simp
  rw [e]
  omega
theorem div_zero (S m : Nat) : ((S : Int) / 2 ^ m == 0) = decide (S < 2 ^ m) := by
  have hd : (S : Int) / 2 ^ m = ((S / 2 ^ m : Nat) : Int) := by simp
  rw [hd, Bool.eq_iff_iff]
  simp only [beq_iff_eq, decide_eq_true_eq]
  have h : S / 2 ^ m = 0 ↔ S < 2 ^ m := by
    rw [Nat.div_eq_zero_iff]
    constructor
    · rintro (h | h)
      · exact absurd h (Nat.pos_iff_ne_zero.1 (Nat.two_pow_pos m))
      · exact h
    · exact .inr
  omega

theorem crightn_any (set n : Int) (w : World) :
    Calls Tryz.prog 108 #[.int .i64 set, .int .i64 n] w fun e w' => e = .returned (.bool (setN n set)) ∧ w = w' := by
  by_cases h1 : 1 ≤ n
  · by_cases h2 : n ≤ 32
    · by_cases h0 : 0 ≤ set
      · obtain ⟨m, rfl⟩ := Int.eq_ofNat_of_zero_le (show 0 ≤ n by omega)
        obtain ⟨S, rfl⟩ := Int.eq_ofNat_of_zero_le h0
        rw [setN_nat m S (by omega) (by omega)]
        have hz := div_zero S m
        cases hd : decide (S < 2 ^ m) with
        | true =>
          rw [hd] at hz
          clear hd
          go_enter Tryz.func108, Tryz.ntmps108
          go_wp2
          go_ret
          exact ⟨rfl, rfl⟩
        | false =>
          rw [hd] at hz
          clear hd
          go_enter Tryz.func108, Tryz.ntmps108
          go_wp2
          go_ret
          exact ⟨rfl, rfl⟩
      · go_enter Tryz.func108, Tryz.ntmps108
        go_wp2
        go_ret
        exact ⟨ret_bool (by unfold setN; simp; omega), rfl⟩
    · go_enter Tryz.func108, Tryz.ntmps108
      go_wp2
      go_ret
      exact ⟨ret_bool (by unfold setN; simp; omega), rfl⟩
  · go_enter Tryz.func108, Tryz.ntmps108
    go_wp2
    go_ret
    exact ⟨ret_bool (by unfold setN; simp; omega), rfl⟩

theorem rcrightn_any (set n : Int) (w : World) :
    Calls Tryz.prog 91 #[.int .i64 set, .int .i64 n] w fun e w' => e = .returned (.bool (setN n set)) ∧ w = w' := by
  by_cases h1 : 1 ≤ n
  · by_cases h2 : n ≤ 32
    · by_cases h0 : 0 ≤ set
      · obtain ⟨m, rfl⟩ := Int.eq_ofNat_of_zero_le (show 0 ≤ n by omega)
        obtain ⟨S, rfl⟩ := Int.eq_ofNat_of_zero_le h0
        rw [setN_nat m S (by omega) (by omega)]
        obtain ⟨q, hq⟩ : ∃ q, 2 ^ m = q := ⟨_, rfl⟩
        have HQ := Box.mk hq
        rw [hq]
        clear hq
        go_enter Tryz.func91, Tryz.ntmps91
        go_wp2_with fail
        refine (worth_any m _ (by omega)).mono ?_; rintro e w1 ⟨rfl, rfl⟩; rw [HQ.out]
        go_wp2_with fail
        go_ret
        exact ⟨rfl, rfl⟩
      · go_enter Tryz.func91, Tryz.ntmps91
        go_wp2_with fail
        go_ret
        exact ⟨ret_bool (by unfold setN; simp; omega), rfl⟩
    · go_enter Tryz.func91, Tryz.ntmps91
      go_wp2_with fail
      go_ret
      exact ⟨ret_bool (by unfold setN; simp; omega), rfl⟩
  · go_enter Tryz.func91, Tryz.ntmps91
    go_wp2_with fail
    go_ret
    exact ⟨ret_bool (by unfold setN; simp; omega), rfl⟩
end Go.Proofs.YtbpcipobdokcfaaGreatDoor

/- WHICH PATTERNS ARE RIGHT, OF SO MANY CLASSES: by the program and by the document. -/
namespace Go.Proofs.YtbpcipobdokcfaaGreatDoor
open Go.RowKit

def itemN (n : Int) (x : N.Item) : Bool := setN n x.1 && decide (0 ≤ x.2) && decide (x.2 ≤ 2)
def rightN (n : Int) (l : List N.Item) : Bool := decide (1 ≤ n) && decide (n ≤ 32) && decide (l.length ≤ 10) && l.all (itemN n)
theorem setN_B {n set : Int} (h : setN n set = true) : setB set = true := by
  unfold setN at h
  simp only [Bool.and_eq_true, decide_eq_true_eq] at h
  obtain ⟨⟨⟨h1, h2⟩, h3⟩, h4⟩ := h
  have hp : 2 ^ n.toNat ≤ 2 ^ 32 := Nat.pow_le_pow_right (by omega) (by omega)
  rw [show ((2 : Int) ^ n.toNat) = ((2 ^ n.toNat : Nat) : Int) by simp] at h4
  unfold setB
  simp only [Bool.and_eq_true, decide_eq_true_eq]
  omega
theorem rightN_B {n : Int} {l : List N.Item} (h : rightN n l = true) : rightB l = true := by
  unfold rightN at h
  simp only [Bool.and_eq_true, decide_eq_true_eq] at h
  unfold rightB
  rw [Bool.and_eq_true]
  refine ⟨decide_eq_true h.1.2, ?_⟩
  rw [List.all_eq_true]
  intro x hx
  have := List.all_eq_true.1 h.2 x hx
  unfold itemN at this
  unfold itemB
  simp only [Bool.and_eq_true] at this ⊢
  exact ⟨⟨setN_B this.1.1, this.1.2⟩, this.2⟩

set_option maxHeartbeats 1000000 in
theorem othern_any (x : N.Item) (n : Int) (bn : Nat) (w : World) (hn : w.cell? ⟨bn, 0, none⟩ = some (.int .i64 n)) (hlt : bn < w.heap.size) :
    Calls Tryz.prog 107 #[.agg #[.int .i64 x.1, .int .i64 x.2], .pointer (some ⟨bn, 0, none⟩)] w fun e w' => e = .returned (.bool (!itemN n x)) ∧ Below w.heap.size w w' := by
  obtain ⟨set, how⟩ := x
  unfold itemN
  have hb : ∀ o1 o2, Below w.heap.size w ((w.alloc o1).alloc o2) := fun o1 o2 => ((Below.refl _ _).alloc (Nat.le_refl _) _).alloc (by simp) _
  go_enter Tryz.func107, Tryz.ntmps107
  rcases Int.lt_or_le how 0 with h | h
  · go_wp2_with fail
    go_ret
    exact ⟨ret_bool (by simp; omega), hb _ _⟩
  rcases Int.lt_or_le 2 how with h2 | h2
  · go_wp2_with fail
    go_ret
    exact ⟨ret_bool (by simp; omega), hb _ _⟩
  have ho := World.cell?_alloc_old
  go_wp2_with (go_at_call 108; refine (crightn_any _ _ _).mono ?_; rintro e w1 ⟨rfl, rfl⟩)
  go_ret
  exact ⟨ret_bool (by simp [h, h2]), hb _ _⟩

theorem alln_take (n : Int) (l : List N.Item) (k : Nat) (x : N.Item) (h : l[k]? = some x) (ha : (l.take k).all (itemN n) = true) (hx : itemN n x = true) : (l.take (k + 1)).all (itemN n) = true := by
  rw [List.take_add_one, h, List.all_append, ha]; simp [hx]
theorem alln_no (n : Int) (l : List N.Item) (k : Nat) (x : N.Item) (h : l[k]? = some x) (hx : itemN n x = false) : l.all (itemN n) = false := by
  rw [Bool.eq_false_iff]
  intro ha
  rw [List.all_eq_true] at ha
  rw [ha x (List.mem_of_getElem? h)] at hx
  cases hx

set_option maxHeartbeats 2000000 in
theorem indexn_any (v : Value) (l : List N.Item) (n : Int) (bn : Nat) (w : World) (hv : ItemsAt w v l) (hz : l.length ≤ 16777216) (hn : w.cell? ⟨bn, 0, none⟩ = some (.int .i64 n)) (hlt : bn < w.heap.size) :
    Calls Tryz.prog 124 #[v, .func (.func 107) #[] #[.pointer (some ⟨bn, 0, none⟩)]] w fun e w' => (∃ i : Int, e = .returned (.int .i64 i) ∧ decide (0 ≤ i) = !l.all (itemN n)) ∧ Below w.heap.size w w' := by
  have HVB := Box.mk hv
  obtain ⟨ao, cap, rfl⟩ := hv.slice
  clear hv
  have HN := Box.mk hn
  clear hn
  go_enter Tryz.func124, Tryz.ntmps124
  go_wp2
  go_loopw [8] (fun i wr => ∃ k : Nat, k ≤ l.length ∧ i = .int .i64 k ∧ Box ((l.take k).all (itemN n) = true) ∧ Box (Below w.heap.size w wr)) (fun i _ => l.length - (intOf i).toNat)
  case atStart => exact ⟨0, by omega, rfl, ⟨rfl⟩, ⟨Below.refl _ _⟩⟩
  case round =>
    obtain ⟨k, hk, rfl, ha, hb⟩ := hrel
    by_cases hlt' : k < l.length
    · obtain ⟨x, hx⟩ : ∃ x, l[k]? = some x := ⟨_, List.getElem?_eq_getElem hlt'⟩
      have HX := Box.mk hx
      obtain ⟨g, off, cap2, hg1, hg2, hg3, hg4, hg5⟩ := (HVB.out.below hb.out).get (by rintro rfl; simp at hlt')
      obtain ⟨rfl, rfl⟩ : ao = some ⟨g, off, none⟩ ∧ cap = cap2 := by injection hg1 with h1 h2 h3; exact ⟨h1, h3⟩
      obtain ⟨hc1, hc2⟩ := hg5 k x hx
      unfold maxLen at hg3
      have HN2 := Box.mk (show wr.cell? ⟨bn, 0, none⟩ = some (.int .i64 n) from (hb.out.cell (p := ⟨bn, 0, none⟩) hlt).trans HN.out)
      have HL2 := Box.mk (show bn < wr.heap.size from Nat.lt_of_lt_of_le hlt hb.out.size)
      clear hx hg1 hg5
      cases hi : itemN n x with
      | true =>
        have HT := Box.mk (alln_take n l k x HX.out ha.out hi)
        have HI := Box.mk (show (!itemN n x) = false by rw [hi]; rfl)
        clear hi
        go_wp2_with fail
        refine (othern_any x n bn _ HN2.out HL2.out).mono ?_; rintro e w1 ⟨rfl, hb1⟩; rw [HI.out]
        have HB1 := Box.mk (show Below w.heap.size w w1 from hb.out.trans (hb1.mono hb.out.size))
        clear hb1
        go_wp2_with fail
        go_roundw
        case rel => exact ⟨k + 1, hlt', by go_num, HT, HB1⟩
        case measure => simp [intOf]; omega
      | false =>
        have HT := Box.mk (alln_no n l k x HX.out hi)
        have HI := Box.mk (show (!itemN n x) = true by rw [hi]; rfl)
        clear hi
        go_wp2_with fail
        refine (othern_any x n bn _ HN2.out HL2.out).mono ?_; rintro e w1 ⟨rfl, hb1⟩; rw [HI.out]
        go_wp2_with fail
        go_ret
        exact ⟨⟨k, rfl, by rw [HT.out]; simp⟩, hb.out.trans (hb1.mono hb.out.size)⟩
    · have HT := Box.mk (show l.all (itemN n) = true by have := ha.out; rwa [List.take_of_length_le (by omega)] at this)
      go_wp2_with fail
      go_ret
      exact ⟨⟨-1, rfl, by rw [HT.out]; rfl⟩, hb.out⟩
theorem containsn_any (v : Value) (l : List N.Item) (n : Int) (bn : Nat) (w : World) (hv : ItemsAt w v l) (hz : l.length ≤ 16777216) (hn : w.cell? ⟨bn, 0, none⟩ = some (.int .i64 n)) (hlt : bn < w.heap.size) :
    Calls Tryz.prog 109 #[v, .func (.func 107) #[] #[.pointer (some ⟨bn, 0, none⟩)]] w fun e w' => e = .returned (.bool (!l.all (itemN n))) ∧ Below w.heap.size w w' := by
  have HI := Box.mk (indexn_any v l n bn w hv hz hn hlt)
  clear hv hn
  go_enter Tryz.func109, Tryz.ntmps109
  go_wp2_with fail
  refine HI.out.mono ?_; rintro e w1 ⟨⟨i, rfl, hi⟩, hb⟩
  have HX := Box.mk hi
  clear hi
  go_wp2_with fail
  go_ret
  exact ⟨ret_bool (by simpa using HX.out), hb⟩

set_option maxHeartbeats 1000000 in
theorem prightn_any (st : Bool) (v : Value) (l : List N.Item) (n : Int) (w : World) (hv : ItemsAt w v l) (hz : l.length ≤ 16777216) :
    Calls Tryz.prog 82 #[.agg #[.bool st, v], .int .i64 n] w fun e w' => e = .returned (.bool (rightN n l)) ∧ Below w.heap.size w w' := by
  unfold rightN
  have hw : Below w.heap.size w ((w.alloc (.cells #[.bool st, v] 42)).alloc (.cells #[.int .i64 n] 3)) := ((Below.refl _ _).alloc (Nat.le_refl _) _).alloc (by simp) _
  have HW := Box.mk hw
  have HV := Box.mk (hv.below hw)
  have HN := Box.mk (show ((w.alloc (.cells #[.bool st, v] 42)).alloc (.cells #[.int .i64 n] 3)).cell? ⟨w.heap.size + 1, 0, none⟩ = some (.int .i64 n) by
    have := World.cell?_alloc_mark (w.alloc (.cells #[.bool st, v] 42)) #[.int .i64 n] 3 (0, 0) 0
    simp at this ⊢)
  obtain ⟨ao, cap, rfl⟩ := hv.slice
  clear hv hw
  by_cases hn : 1 ≤ n ∧ n ≤ 32
  · obtain ⟨hn1, hn2⟩ := hn
    by_cases hl : l.length ≤ 10
    · go_enter Tryz.func82, Tryz.ntmps82
      go_wp2_with fail
      refine (containsn_any _ l n (w.heap.size + 1) _ HV.out hz HN.out (by simp)).mono ?_; rintro e w1 ⟨rfl, hb⟩
      have HB := Box.mk hb
      clear hb
      go_wp2_with fail
      go_ret
      exact ⟨ret_bool (by simp [hl, hn1, hn2]), HW.out.trans (HB.out.mono HW.out.size)⟩
    · have hl' : 10 < l.length := by omega
      go_enter Tryz.func82, Tryz.ntmps82
      go_wp2_with fail
      go_ret
      exact ⟨ret_bool (by simp <;> omega), HW.out⟩
  · have hn' : n < 1 ∨ (1 ≤ n ∧ 32 < n) := by omega
    rcases hn' with h | ⟨h, h'⟩
    all_goals
      go_enter Tryz.func82, Tryz.ntmps82
      go_wp2_with fail
      go_ret
      exact ⟨ret_bool (by simp <;> omega), HW.out⟩

set_option maxHeartbeats 2000000 in
theorem rprightn_any (st : Bool) (v : Value) (l : List N.Item) (n : Int) (w : World) (hv : ItemsAt w v l) (hz : l.length ≤ 16777216) :
    Calls Tryz.prog 65 #[.agg #[.bool st, v], .int .i64 n] w fun e w' => e = .returned (.bool (rightN n l)) ∧ Below w.heap.size w w' := by
  have HVB := Box.mk hv
  obtain ⟨ao, cap, rfl⟩ := hv.slice
  clear hv
  have HB0 := Box.mk (Blk.new w 42 #[.bool st, .slice ao l.length cap])
  have HW0 := Box.mk (((Below.refl w.heap.size w).alloc (Nat.le_refl _) (.cells #[.bool st, .slice ao l.length cap] 42)))
  go_enter Tryz.func65, Tryz.ntmps65
  go_wp2
  go_loopw [5] (fun i wr => ∃ k : Nat, k ≤ l.length ∧ i = .int .i64 k ∧ Box ((l.take k).all (itemN n) = true) ∧ Blk wr w.heap.size 42 #[.bool st, .slice ao l.length cap] ∧ Box (Below w.heap.size w wr)) (fun i _ => l.length - (intOf i).toNat)
  case atStart => exact ⟨0, by omega, rfl, ⟨rfl⟩, HB0.out, HW0⟩
  case round =>
    obtain ⟨k, hk, rfl, ha, hbk, hb⟩ := hrel
    have c1 : wr.cell? ⟨w.heap.size, 1, none⟩ = some (.slice ao l.length cap) := (hbk.cell 1).trans rfl
    have hl0 := hbk.lt
    have HBK := Box.mk hbk
    clear hbk
    by_cases hlt : k < l.length
    · obtain ⟨x, hx⟩ : ∃ x, l[k]? = some x := ⟨_, List.getElem?_eq_getElem hlt⟩
      have HX := Box.mk hx
      obtain ⟨g, off, cap2, hg1, hg2, hg3, hg4, hg5⟩ := (HVB.out.below hb.out).get (by rintro rfl; simp at hlt)
      obtain ⟨rfl, rfl⟩ : ao = some ⟨g, off, none⟩ ∧ cap = cap2 := by injection hg1 with h1 h2 h3; exact ⟨h1, h3⟩
      obtain ⟨hc1, hc2⟩ := hg5 k x hx
      unfold maxLen at hg3
      have HBA := Box.mk (fun o => hb.out.alloc hb.out.size o)
      clear hx hg1 hg5
      obtain ⟨set, how⟩ := x
      cases hs : setN n set with
      | true =>
        have HS := Box.mk hs
        rcases Int.lt_or_le how 0 with h | h
        · have HT := Box.mk (show rightN n l = false by unfold rightN; rw [alln_no n l k _ HX.out (by unfold itemN; simp; omega)]; simp)
          clear hs
          go_wp2_with fail
          refine (rcrightn_any _ _ _).mono ?_; rintro e w1 ⟨rfl, rfl⟩; rw [HS.out]
          go_wp2_with fail
          go_ret
          exact ⟨by rw [HT.out]; rfl, HBA.out _⟩
        rcases Int.lt_or_le 2 how with h2 | h2
        · have HT := Box.mk (show rightN n l = false by unfold rightN; rw [alln_no n l k _ HX.out (by unfold itemN; simp; omega)]; simp)
          clear hs
          go_wp2_with fail
          refine (rcrightn_any _ _ _).mono ?_; rintro e w1 ⟨rfl, rfl⟩; rw [HS.out]
          go_wp2_with fail
          go_ret
          exact ⟨by rw [HT.out]; rfl, HBA.out _⟩
        have HT := Box.mk (alln_take n l k _ HX.out ha.out (show itemN n (set, how) = true by unfold itemN; simp [hs, h, h2]))
        clear hs
        go_wp2_with fail
        refine (rcrightn_any _ _ _).mono ?_; rintro e w1 ⟨rfl, rfl⟩; rw [HS.out]
        go_wp2_with fail
        go_roundw
        case rel => exact ⟨k + 1, hlt, by go_num, HT, HBK.out.alloc _, ⟨HBA.out _⟩⟩
        case measure => simp [intOf]; omega
      | false =>
        have HS := Box.mk hs
        have HT := Box.mk (show rightN n l = false by unfold rightN; rw [alln_no n l k _ HX.out (by unfold itemN; simp [hs])]; simp)
        clear hs
        go_wp2_with fail
        refine (rcrightn_any _ _ _).mono ?_; rintro e w1 ⟨rfl, rfl⟩; rw [HS.out]
        go_wp2_with fail
        go_ret
        exact ⟨by rw [HT.out]; rfl, HBA.out _⟩
    · have HT := Box.mk (show l.all (itemN n) = true by have := ha.out; rwa [List.take_of_length_le (by omega)] at this)
      go_wp2_with fail
      all_goals go_ret
      all_goals refine ⟨ret_bool ?_, hb.out⟩
      all_goals unfold rightN
      all_goals rw [HT.out, Bool.eq_iff_iff]
      all_goals (simp <;> omega)
end Go.Proofs.YtbpcipobdokcfaaGreatDoor

/- PLAIN. Rules' left sides as one machine: their sets of states side by side, numbered as they are met. Nothing of any program. -/
namespace Go.Proofs.YtbpcipobdokcfaaGreatDoor.D

/-- a left side: with Start or not, its items -/
abbrev Side := Bool × List N.Item
/-- sets of states, one of each rule -/
abbrev Sets := List Nat

def sideAt (rs : List Side) (i : Nat) : Side := rs.getD i (false, [])
/-- the class that stands for the k-th column, of n + 1 -/
def cls (n k : Nat) : Int := if k = n then -1 else k
def stepAt (rs : List Side) (S : Sets) (c : Int) (i : Nat) : Nat := N.step (sideAt rs i).2 (sideAt rs i).1 (S.getD i 0) c
def stepAll (rs : List Side) (S : Sets) (c : Int) : Sets := (List.range rs.length).map (stepAt rs S c)
def firstAt (rs : List Side) (i : Nat) : Nat := N.clo (sideAt rs i).2 0
def firstAll (rs : List Side) : Sets := (List.range rs.length).map (firstAt rs)
def doneAt (rs : List Side) (S : Sets) (i : Nat) : Bool := N.doneB (sideAt rs i).2 (S.getD i 0)
/-- which of the first k rules are done -/
def doneTo (rs : List Side) (S : Sets) : Nat → Nat
  | 0 => 0
  | k + 1 => if doneAt rs S k = true then doneTo rs S k ||| 2 ^ k else doneTo rs S k
/-- the number of some sets among those that were met -/
def place (t : List Sets) (s : Sets) : Nat := t.idxOf s
def add (t : List Sets) (s : Sets) : List Sets := if s ∈ t then t else t ++ [s]
/-- a state's first k columns, and what was met then -/
def row (rs : List Side) (n : Nat) (S : Sets) (t : List Sets) : Nat → List Nat × List Sets
  | 0 => ([], t)
  | k + 1 => ((row rs n S t k).1 ++ [place (row rs n S t k).2 (stepAll rs S (cls n k))], add (row rs n S t k).2 (stepAll rs S (cls n k)))
structure Bld where
  todo : List Sets
  next : List (List Nat)
  fits : List Nat
def Bld.go (rs : List Side) (n : Nat) (b : Bld) : Bld :=
  match b.todo[b.next.length]? with
  | none => b
  | some S => ⟨(row rs n S b.todo (n + 1)).2, b.next ++ [(row rs n S b.todo (n + 1)).1], b.fits ++ [doneTo rs S rs.length]⟩
/-- what was met, and the states, behind k rounds -/
def build (rs : List Side) (n : Nat) : Nat → Bld
  | 0 => ⟨[firstAll rs], [], []⟩
  | k + 1 => (build rs n k).go rs n
def isFew (rs : List Side) (n : Nat) : Bool := decide ((build rs n 300).todo.length ≤ 300)

theorem stepAll_len (rs : List Side) (S : Sets) (c : Int) : (stepAll rs S c).length = rs.length := by simp [stepAll]
theorem firstAll_len (rs : List Side) : (firstAll rs).length = rs.length := by simp [firstAll]
theorem stepAll_get (rs : List Side) (S : Sets) (c : Int) (i : Nat) (h : i < rs.length) : (stepAll rs S c)[i]? = some (stepAt rs S c i) := by
  unfold stepAll; rw [List.getElem?_map, List.getElem?_range h]; rfl
theorem sideAt_get {rs : List Side} {i : Nat} {r : Side} (h : rs[i]? = some r) : sideAt rs i = r := by unfold sideAt; rw [List.getD, h]; rfl
theorem doneTo_lt (rs : List Side) (S : Sets) : ∀ k, doneTo rs S k < 2 ^ k
  | 0 => by unfold doneTo; decide
  | k + 1 => by
    have ih := doneTo_lt rs S k
    have h2 : 2 ^ k < 2 ^ (k + 1) := Nat.pow_lt_pow_right (by omega) (by omega)
    unfold doneTo
    split
    · exact Nat.or_lt_two_pow (by omega) h2
    · omega
theorem doneTo_add (rs : List Side) (S : Sets) (k : Nat) : doneTo rs S k + 2 ^ k = doneTo rs S k ||| 2 ^ k := by
  have := Nat.two_pow_add_eq_or_of_lt (doneTo_lt rs S k) 1
  rw [Nat.mul_one] at this
  rw [Nat.add_comm, this, Nat.or_comm]
theorem doneTo_bit (rs : List Side) (S : Sets) (i : Nat) : ∀ k, (doneTo rs S k).testBit i = (decide (i < k) && doneAt rs S i)
  | 0 => by simp [doneTo]
  | k + 1 => by
    have ih := doneTo_bit rs S i k
    unfold doneTo
    by_cases e : i = k
    · subst e
      split
      · rename_i h; rw [Nat.testBit_or, Nat.testBit_two_pow_self, h]; simp
      · rename_i h; rw [ih]; simp at h ⊢; exact h
    · have hd : decide (i < k + 1) = decide (i < k) := by simp; omega
      rw [hd]
      split
      · have hk : decide (k = i) = false := decide_eq_false (by omega)
        rw [Nat.testBit_or, ih, Nat.testBit_two_pow, hk, Bool.or_false]
      · exact ih

/- WHAT WAS MET. -/
theorem place_lt {t : List Sets} {s : Sets} (h : s ∈ t) : place t s < t.length := List.idxOf_lt_length_of_mem h
theorem place_get {t : List Sets} {s : Sets} (h : s ∈ t) : t[place t s]? = some s := by
  have := place_lt h
  unfold place at this ⊢
  rw [List.getElem?_eq_getElem this, List.getElem_idxOf]
theorem place_new {t : List Sets} {s : Sets} (h : s ∉ t) : place t s = t.length := List.idxOf_eq_length h
theorem place_le (t : List Sets) (s : Sets) : place t s ≤ t.length := by
  by_cases h : s ∈ t
  · exact Nat.le_of_lt (place_lt h)
  · rw [place_new h]; exact Nat.le_refl _
theorem place_add (t : List Sets) (s : Sets) : place t s < (add t s).length ∧ (add t s)[place t s]? = some s := by
  unfold add
  by_cases h : s ∈ t
  · rw [if_pos h]; exact ⟨place_lt h, place_get h⟩
  · rw [if_neg h, place_new h]; simp
theorem add_mem (t : List Sets) (s : Sets) : s ∈ add t s := List.mem_of_getElem? (place_add t s).2
theorem add_pre (t : List Sets) (s : Sets) : t <+: add t s := by
  unfold add; split
  · exact List.prefix_refl _
  · exact List.prefix_append _ _
theorem add_le (t : List Sets) (s : Sets) : t.length ≤ (add t s).length := (add_pre t s).length_le
theorem add_nodup {t : List Sets} {s : Sets} (h : t.Nodup) : (add t s).Nodup := by
  unfold add; split
  · exact h
  · rename_i hs
    rw [List.nodup_append]
    exact ⟨h, by simp, fun a ha b hb e => by rw [List.mem_singleton] at hb; subst hb; subst e; exact hs ha⟩
theorem add_all {p : Sets → Prop} {t : List Sets} {s : Sets} (h : ∀ x ∈ t, p x) (hs : p s) : ∀ x ∈ add t s, p x := by
  unfold add; split
  · exact h
  · intro x hx
    rcases List.mem_append.1 hx with hx | hx
    · exact h x hx
    · rw [List.mem_singleton] at hx; subst hx; exact hs
theorem pre_get {α : Type} {a b : List α} (h : a <+: b) {i : Nat} {x : α} (hx : a[i]? = some x) : b[i]? = some x := by
  obtain ⟨c, rfl⟩ := h
  rw [List.getElem?_append_left (List.getElem?_eq_some_iff.1 hx).1]; exact hx

section
variable (rs : List Side) (n : Nat) (S : Sets) (t : List Sets)
theorem row_succ (k : Nat) : row rs n S t (k + 1) = ((row rs n S t k).1 ++ [place (row rs n S t k).2 (stepAll rs S (cls n k))], add (row rs n S t k).2 (stepAll rs S (cls n k))) := rfl
theorem row_len : ∀ k, (row rs n S t k).1.length = k
  | 0 => rfl
  | k + 1 => by rw [row_succ, List.length_append, row_len k]; rfl
theorem row_pre : ∀ k, t <+: (row rs n S t k).2
  | 0 => List.prefix_refl _
  | k + 1 => (row_pre k).trans (by rw [row_succ]; exact add_pre _ _)
theorem row_mono (j : Nat) : ∀ k, (row rs n S t j).2 <+: (row rs n S t (j + k)).2
  | 0 => List.prefix_refl _
  | k + 1 => (row_mono j k).trans (by rw [← Nat.add_assoc, row_succ]; exact add_pre _ _)
theorem row_le {j k : Nat} (h : j ≤ k) : (row rs n S t j).2.length ≤ (row rs n S t k).2.length := by
  obtain ⟨d, rfl⟩ := Nat.exists_eq_add_of_le h
  exact (row_mono rs n S t j d).length_le
theorem row_all {p : Sets → Prop} (ht : ∀ x ∈ t, p x) (hs : ∀ c, p (stepAll rs S c)) : ∀ k, ∀ x ∈ (row rs n S t k).2, p x
  | 0 => ht
  | k + 1 => by rw [row_succ]; exact add_all (row_all ht hs k) (hs _)
theorem row_nodup (ht : t.Nodup) : ∀ k, (row rs n S t k).2.Nodup
  | 0 => ht
  | k + 1 => by rw [row_succ]; exact add_nodup (row_nodup ht k)
/-- a column leads to what its class makes of the sets -/
theorem row_get {j : Nat} : ∀ k, j < k → ∃ m, (row rs n S t k).1[j]? = some m ∧ (row rs n S t k).2[m]? = some (stepAll rs S (cls n j))
  | 0, h => by omega
  | k + 1, h => by
    rw [row_succ]
    by_cases e : j = k
    · subst e
      refine ⟨_, ?_, (place_add _ _).2⟩
      rw [List.getElem?_append_right (by rw [row_len]; exact Nat.le_refl _), row_len]
      simp
    · have hjk : j < k := by omega
      obtain ⟨m, h1, h2⟩ := row_get k hjk
      refine ⟨m, ?_, pre_get (add_pre _ _) h2⟩
      rw [List.getElem?_append_left (by rw [row_len]; omega)]
      exact h1
end

section
variable (rs : List Side) (n : Nat)
theorem go_none {b : Bld} (h : b.todo.length ≤ b.next.length) : b.go rs n = b := by
  unfold Bld.go
  rw [List.getElem?_eq_none h]
theorem go_some {b : Bld} {S : Sets} (h : b.todo[b.next.length]? = some S) : b.go rs n = ⟨(row rs n S b.todo (n + 1)).2, b.next ++ [(row rs n S b.todo (n + 1)).1], b.fits ++ [doneTo rs S rs.length]⟩ := by
  unfold Bld.go
  rw [h]
theorem go_pre (b : Bld) : b.todo <+: (b.go rs n).todo := by
  unfold Bld.go
  split
  · exact List.prefix_refl _
  · exact row_pre _ _ _ _ _
theorem build_le (j : Nat) : ∀ k, (build rs n j).todo.length ≤ (build rs n (j + k)).todo.length
  | 0 => Nat.le_refl _
  | k + 1 => Nat.le_trans (build_le j k) (by rw [← Nat.add_assoc]; exact (go_pre rs n _).length_le)
theorem build_mono {j k : Nat} (h : j ≤ k) : (build rs n j).todo.length ≤ (build rs n k).todo.length := by
  obtain ⟨d, rfl⟩ := Nat.exists_eq_add_of_le h
  exact build_le rs n j d
theorem build_one : ∀ k, 1 ≤ (build rs n k).todo.length
  | 0 => by simp [build]
  | k + 1 => Nat.le_trans (build_one k) (go_pre rs n _).length_le
/-- as long as there is something to do, a round is a state more -/
theorem build_len : ∀ k, (build rs n k).next.length = (build rs n k).fits.length ∧ (build rs n k).next.length ≤ (build rs n k).todo.length ∧ ((build rs n k).next.length = k ∨ ((build rs n k).next.length < k ∧ (build rs n k).next.length = (build rs n k).todo.length))
  | 0 => ⟨rfl, Nat.zero_le _, .inl rfl⟩
  | k + 1 => by
    obtain ⟨h1, h2, h3⟩ := build_len k
    show _ = _ ∧ _ ∧ _
    rcases Nat.lt_or_ge (build rs n k).next.length (build rs n k).todo.length with h | h
    · obtain ⟨S, hS⟩ : ∃ S, (build rs n k).todo[(build rs n k).next.length]? = some S := ⟨_, List.getElem?_eq_getElem h⟩
      have e : build rs n (k + 1) = _ := go_some rs n hS
      rw [e]
      simp only [List.length_append, List.length_cons, List.length_nil]
      have hp := (row_pre rs n S (build rs n k).todo (n + 1)).length_le
      refine ⟨by omega, by omega, .inl ?_⟩
      rcases h3 with h3 | h3
      · omega
      · omega
    · have e : build rs n (k + 1) = _ := go_none rs n h
      rw [e]
      exact ⟨h1, h2, .inr ⟨by rcases h3 with h3 | h3 <;> omega, by omega⟩⟩
theorem build_stop {k : Nat} (h : (build rs n k).todo.length ≤ (build rs n k).next.length) : ∀ m, build rs n (k + m) = build rs n k
  | 0 => rfl
  | m + 1 => by
    have ih := build_stop h m
    show (build rs n (k + m)).go rs n = _
    rw [ih]
    exact go_none rs n h
/-- there is nothing to do any more: these are all states -/
theorem build_end {k : Nat} (hk : k ≤ 300) (h : (build rs n k).todo.length ≤ (build rs n k).next.length) : build rs n 300 = build rs n k := by
  obtain ⟨d, hd⟩ := Nat.exists_eq_add_of_le hk
  rw [hd]
  exact build_stop rs n h d
theorem few_end {k : Nat} (hk : k ≤ 300) (h : (build rs n k).todo.length ≤ (build rs n k).next.length) (hl : (build rs n k).todo.length ≤ 300) : isFew rs n = true := by
  unfold isFew
  rw [build_end rs n hk h]
  exact decide_eq_true hl
theorem few_no {k : Nat} (hk : k ≤ 300) (h : 300 < (build rs n k).todo.length) : isFew rs n = false := by
  unfold isFew
  have := build_mono rs n hk
  exact decide_eq_false (by omega)
theorem build_all {p : Sets → Prop} (h0 : p (firstAll rs)) (hs : ∀ S c, p S → p (stepAll rs S c)) : ∀ k, ∀ x ∈ (build rs n k).todo, p x
  | 0 => by intro x hx; simp only [build, List.mem_singleton] at hx; subst hx; exact h0
  | k + 1 => by
    have ih := build_all h0 hs k
    show ∀ x ∈ ((build rs n k).go rs n).todo, p x
    unfold Bld.go
    split
    · exact ih
    · rename_i S hS
      exact row_all rs n S _ ih (fun c => hs S c (ih S (List.mem_of_getElem? hS))) _
theorem build_nodup : ∀ k, (build rs n k).todo.Nodup
  | 0 => by show [firstAll rs].Nodup; simp
  | k + 1 => by
    show ((build rs n k).go rs n).todo.Nodup
    unfold Bld.go
    split
    · exact build_nodup k
    · exact row_nodup rs n _ _ (build_nodup k) _
end

/-- sets of states that there are -/
def Good (rs : List Side) (S : Sets) : Prop := S.length = rs.length ∧ ∀ i, i < rs.length → S.getD i 0 < 2 ^ (2 * (sideAt rs i).2.length + 1)
theorem good_map (rs : List Side) (f : Nat → Nat) (h : ∀ i, i < rs.length → f i < 2 ^ (2 * (sideAt rs i).2.length + 1)) : Good rs ((List.range rs.length).map f) := by
  refine ⟨by simp, fun i hi => ?_⟩
  rw [List.getD, List.getElem?_map, List.getElem?_range hi]
  exact h i hi
theorem good_step (rs : List Side) (S : Sets) (c : Int) : Good rs (stepAll rs S c) := good_map rs _ fun _ _ => N.step_lt _ _ _ _
theorem good_first (rs : List Side) : Good rs (firstAll rs) := good_map rs _ fun _ _ => N.clo_lt _ 0 (by omega)
theorem good_build (rs : List Side) (n k : Nat) : ∀ x ∈ (build rs n k).todo, Good rs x := build_all rs n (good_first rs) (fun S c _ => good_step rs S c) k
end Go.Proofs.YtbpcipobdokcfaaGreatDoor.D

/- RULES AS VALUES; which are right: the program's answer. -/
namespace Go.Proofs.YtbpcipobdokcfaaGreatDoor
open Go.RowKit

/-- a rule: its left side, its right side, what it says -/
abbrev D.Rule := D.Side × D.Side × Bool
def ruleV (x : D.Rule) (vl vr : Value) : Value := .agg #[.bool x.1.1, vl, .bool x.2.1.1, vr, .bool x.2.2]
/-- a rule that lies in memory -/
def RuleAt (w : World) (b o : Nat) (x : D.Rule) : Prop := ∃ vl vr, w.cell? ⟨b, o, none⟩ = some (.bool x.1.1) ∧ w.cell? ⟨b, o + 1, none⟩ = some vl ∧ w.cell? ⟨b, o + 2, none⟩ = some (.bool x.2.1.1) ∧ w.cell? ⟨b, o + 3, none⟩ = some vr ∧ w.cell? ⟨b, o + 4, none⟩ = some (.bool x.2.2) ∧ ItemsAt w vl x.1.2 ∧ ItemsAt w vr x.2.1.2
theorem RuleAt.below {w w' : World} {b o : Nat} {x : D.Rule} (h : RuleAt w b o x) (hlt : b < w.heap.size) (hb : Below w.heap.size w w') : RuleAt w' b o x := by
  obtain ⟨vl, vr, h0, h1, h2, h3, h4, hl, hr⟩ := h
  have key := fun j => hb.cell (p := ⟨b, j, none⟩) hlt
  exact ⟨vl, vr, (key o).trans h0, (key (o + 1)).trans h1, (key (o + 2)).trans h2, (key (o + 3)).trans h3, (key (o + 4)).trans h4, hl.below hb, hr.below hb⟩
/-- a value that reads as these rules -/
def RulesAt (w : World) (v : Value) (l : List D.Rule) : Prop :=
  (v = .slice none 0 0 ∧ l = []) ∨ ∃ b off sp cap, v = .slice (some ⟨b, off, sp⟩) l.length cap ∧ l.length ≤ cap ∧ cap ≤ maxLen ∧ (l ≠ [] → sp = none ∧ b < w.heap.size ∧ ∀ i x, l[i]? = some x → RuleAt w b (off + i * 5) x)
theorem RulesAt.below {w w' : World} {v : Value} {l : List D.Rule} (h : RulesAt w v l) (hb : Below w.heap.size w w') : RulesAt w' v l := by
  rcases h with h | ⟨b, off, sp, cap, h1, h2, h3, h4⟩
  · exact .inl h
  · exact .inr ⟨b, off, sp, cap, h1, h2, h3, fun hn => ⟨(h4 hn).1, Nat.lt_of_lt_of_le (h4 hn).2.1 hb.size, fun i x hx => ((h4 hn).2.2 i x hx).below (h4 hn).2.1 hb⟩⟩
theorem RulesAt.get {w : World} {v : Value} {l : List D.Rule} (h : RulesAt w v l) (hn : l ≠ []) :
    ∃ b off cap, v = .slice (some ⟨b, off, none⟩) l.length cap ∧ l.length ≤ cap ∧ cap ≤ maxLen ∧ b < w.heap.size ∧ ∀ i x, l[i]? = some x → RuleAt w b (off + i * 5) x := by
  rcases h with ⟨_, h⟩ | ⟨b, off, sp, cap, h1, h2, h3, h4⟩
  · exact absurd h hn
  · obtain ⟨rfl, h5, h6⟩ := h4 hn
    exact ⟨b, off, cap, h1, h2, h3, h5, h6⟩
theorem RulesAt.slice {w : World} {v : Value} {l : List D.Rule} (h : RulesAt w v l) : ∃ a cap, v = .slice a l.length cap := by
  rcases h with ⟨rfl, rfl⟩ | ⟨b, off, sp, cap, rfl, _⟩
  · exact ⟨_, _, rfl⟩
  · exact ⟨_, _, rfl⟩
theorem RulesAt.cap_le {w : World} {ao : Option Addr} {cap n : Nat} {l : List D.Rule} (h : RulesAt w (.slice ao n cap) l) : l.length ≤ cap ∧ cap ≤ 9223372036854775807 := by
  rcases h with ⟨h1, rfl⟩ | ⟨b, off, sp, cap, h1, h2, h3, h4⟩
  · injection h1 with h1 h2 h3; subst h3; simp
  · injection h1 with h1 h2' h3'; subst h3'; unfold maxLen at h3; omega
theorem RulesAt.take {w : World} {ao : Option Addr} {cap cap' : Nat} {l : List D.Rule} (h : RulesAt w (.slice ao l.length cap) l) (n : Nat) (hc : (l.take n).length ≤ cap') (hc' : cap' ≤ cap) : RulesAt w (.slice ao (l.take n).length cap') (l.take n) := by
  rcases h with ⟨h1, rfl⟩ | ⟨b, off, sp, cap, h1, h2, h3, h4⟩
  · injection h1 with h1 h2 h3
    subst h1 h3
    obtain rfl : cap' = 0 := by omega
    simp [RulesAt]
  · injection h1 with h1 h2' h3'
    subst h1 h3'
    refine .inr ⟨b, off, sp, _, rfl, hc, Nat.le_trans hc' h3, fun hn => ?_⟩
    have hn' : l ≠ [] := by rintro rfl; simp at hn
    refine ⟨(h4 hn').1, (h4 hn').2.1, fun i x hx => (h4 hn').2.2 i x ?_⟩
    rw [List.getElem?_take] at hx
    split at hx
    · exact hx
    · cases hx

/-- sizes that a machine may hold -/
def ruleFit (x : D.Rule) : Prop := x.1.2.length ≤ 16777216 ∧ x.2.1.2.length ≤ 16777216
def ruleB (n : Int) (x : D.Rule) : Bool := rightN n x.1.2 && rightN n x.2.1.2 && !x.2.1.1
def rulesB (n : Int) (l : List D.Rule) : Bool := decide (1 ≤ n) && decide (n ≤ 32) && decide (l.length ≤ 40) && l.all (ruleB n)
theorem ruleB_left {n : Int} {x : D.Rule} (h : ruleB n x = true) : rightN n x.1.2 = true := by unfold ruleB at h; simp only [Bool.and_eq_true] at h; exact h.1.1
theorem ruleB_right {n : Int} {x : D.Rule} (h : ruleB n x = true) : rightN n x.2.1.2 = true := by unfold ruleB at h; simp only [Bool.and_eq_true] at h; exact h.1.2

set_option maxHeartbeats 1000000 in
theorem rother_any (x : D.Rule) (vl vr : Value) (n : Int) (bn : Nat) (w : World) (hf : ruleFit x) (hl : ItemsAt w vl x.1.2) (hr : ItemsAt w vr x.2.1.2) (hn : w.cell? ⟨bn, 0, none⟩ = some (.int .i64 n)) (hlt : bn < w.heap.size) :
    Calls Tryz.prog 81 #[ruleV x vl vr, .pointer (some ⟨bn, 0, none⟩)] w fun e w' => e = .returned (.bool (!ruleB n x)) ∧ Below w.heap.size w w' := by
  obtain ⟨⟨stl, il⟩, ⟨str, ir⟩, br⟩ := x
  unfold ruleV ruleB
  obtain ⟨hz1, hz2⟩ := hf
  have hb0 : Below w.heap.size w (w.alloc (.cells #[.bool stl, vl, .bool str, vr, .bool br] 44)) := (Below.refl _ _).alloc (Nat.le_refl _) _
  have HB0 := Box.mk hb0
  have HP1 := Box.mk (prightn_any stl vl il n _ (hl.below hb0) hz1)
  have HP2 := Box.mk (fun w' (hb : Below w.heap.size w w') => prightn_any str vr ir n w' (hr.below hb) hz2)
  have HN := Box.mk (fun w' (hb : Below w.heap.size w w') => (hb.cell (p := ⟨bn, 0, none⟩) hlt).trans hn)
  have HBK := Box.mk (Blk.new w 44 #[.bool stl, vl, .bool str, vr, .bool br])
  have hn0 := HN.out _ hb0
  clear hl hr hn hb0
  have hlt1 : bn < w.heap.size + 1 := by omega
  cases h1 : rightN n il with
  | false =>
    have H1 := Box.mk h1
    clear h1
    go_enter Tryz.func81, Tryz.ntmps81
    go_wp2_with fail
    refine HP1.out.mono ?_; rintro e w1 ⟨rfl, hb1⟩; rw [H1.out]
    have HB1 := Box.mk (HB0.out.trans (hb1.mono HB0.out.size))
    clear hb1 hn0
    go_wp2_with fail
    go_ret
    exact ⟨rfl, HB1.out⟩
  | true =>
    have H1 := Box.mk h1
    clear h1
    go_enter Tryz.func81, Tryz.ntmps81
    go_wp2_with fail
    refine HP1.out.mono ?_; rintro e w1 ⟨rfl, hb1⟩; rw [H1.out]
    have HB1 := Box.mk (HB0.out.trans (hb1.mono HB0.out.size))
    have HBK1 := HBK.out.below hb1 HBK.out.lt
    have c2 : w1.cell? ⟨w.heap.size, 2, none⟩ = some (.bool str) := (HBK1.cell 2).trans rfl
    have c3 : w1.cell? ⟨w.heap.size, 3, none⟩ = some vr := (HBK1.cell 3).trans rfl
    have hn1 := HN.out _ HB1.out
    have l1 := HBK1.lt
    have hs1 := HB1.out.size
    have hb1s : bn < w1.heap.size := by omega
    clear hb1 hn0 HBK1
    cases h2 : rightN n ir with
    | false =>
      have H2 := Box.mk h2
      clear h2
      go_wp2_with fail
      refine (HP2.out _ HB1.out).mono ?_; rintro e w2 ⟨rfl, hb2⟩; rw [H2.out]
      have HB2 := Box.mk (HB1.out.trans (hb2.mono HB1.out.size))
      clear hb2 hn1 c2 c3
      go_wp2_with fail
      go_ret
      exact ⟨ret_bool (by simp [H2.out]), HB2.out⟩
    | true =>
      have H2 := Box.mk h2
      clear h2
      go_wp2_with fail
      refine (HP2.out _ HB1.out).mono ?_; rintro e w2 ⟨rfl, hb2⟩; rw [H2.out]
      have HB2 := Box.mk (HB1.out.trans (hb2.mono HB1.out.size))
      have c2' : w2.cell? ⟨w.heap.size, 2, none⟩ = some (.bool str) := (hb2.cell (p := ⟨w.heap.size, 2, none⟩) l1).trans c2
      have l2 : w.heap.size < w2.heap.size := Nat.lt_of_lt_of_le l1 hb2.size
      clear hb2 hn1 c2 c3
      go_wp2_with fail
      go_ret
      exact ⟨ret_bool (by simp [H2.out]), HB2.out⟩

theorem allr_take (n : Int) (l : List D.Rule) (k : Nat) (x : D.Rule) (h : l[k]? = some x) (ha : (l.take k).all (ruleB n) = true) (hx : ruleB n x = true) : (l.take (k + 1)).all (ruleB n) = true := by
  rw [List.take_add_one, h, List.all_append, ha]; simp [hx]
theorem allr_no (n : Int) (l : List D.Rule) (k : Nat) (x : D.Rule) (h : l[k]? = some x) (hx : ruleB n x = false) : l.all (ruleB n) = false := by
  rw [Bool.eq_false_iff]
  intro ha
  rw [List.all_eq_true] at ha
  rw [ha x (List.mem_of_getElem? h)] at hx
  cases hx

set_option maxHeartbeats 2000000 in
theorem rindex_any (v : Value) (l : List D.Rule) (n : Int) (bn : Nat) (w : World) (hf : ∀ x ∈ l, ruleFit x) (hv : RulesAt w v l) (hz : l.length ≤ 16777216) (hn : w.cell? ⟨bn, 0, none⟩ = some (.int .i64 n)) (hlt : bn < w.heap.size) :
    Calls Tryz.prog 110 #[v, .func (.func 81) #[] #[.pointer (some ⟨bn, 0, none⟩)]] w fun e w' => (∃ i : Int, e = .returned (.int .i64 i) ∧ decide (0 ≤ i) = !l.all (ruleB n)) ∧ Below w.heap.size w w' := by
  have HVB := Box.mk hv
  have HF := Box.mk hf
  obtain ⟨ao, cap, rfl⟩ := hv.slice
  clear hv hf
  have HN := Box.mk hn
  clear hn
  go_enter Tryz.func110, Tryz.ntmps110
  go_wp2
  go_loopw [8] (fun i wr => ∃ k : Nat, k ≤ l.length ∧ i = .int .i64 k ∧ Box ((l.take k).all (ruleB n) = true) ∧ Box (Below w.heap.size w wr)) (fun i _ => l.length - (intOf i).toNat)
  case atStart => exact ⟨0, by omega, rfl, ⟨rfl⟩, ⟨Below.refl _ _⟩⟩
  case round =>
    obtain ⟨k, hk, rfl, ha, hb⟩ := hrel
    by_cases hlt' : k < l.length
    · obtain ⟨x, hx⟩ : ∃ x, l[k]? = some x := ⟨_, List.getElem?_eq_getElem hlt'⟩
      have HX := Box.mk hx
      have HFX := Box.mk (HF.out x (List.mem_of_getElem? hx))
      obtain ⟨g, off, cap2, hg1, hg2, hg3, hg4, hg5⟩ := (HVB.out.below hb.out).get (by rintro rfl; simp at hlt')
      obtain ⟨rfl, rfl⟩ : ao = some ⟨g, off, none⟩ ∧ cap = cap2 := by injection hg1 with h1 h2 h3; exact ⟨h1, h3⟩
      obtain ⟨vl, vr, hc0, hc1, hc2, hc3, hc4, hil, hir⟩ := hg5 k x hx
      have HIL := Box.mk hil
      have HIR := Box.mk hir
      unfold maxLen at hg3
      have HN2 := Box.mk (show wr.cell? ⟨bn, 0, none⟩ = some (.int .i64 n) from (hb.out.cell (p := ⟨bn, 0, none⟩) hlt).trans HN.out)
      have HL2 := Box.mk (show bn < wr.heap.size from Nat.lt_of_lt_of_le hlt hb.out.size)
      have HC := Box.mk (rother_any x vl vr n bn wr HFX.out HIL.out HIR.out HN2.out HL2.out)
      clear hx hg1 hg5 hil hir
      unfold ruleV at HC
      cases hi : ruleB n x with
      | true =>
        have HT := Box.mk (allr_take n l k x HX.out ha.out hi)
        have HI := Box.mk (show (!ruleB n x) = false by rw [hi]; rfl)
        clear hi
        go_wp2_with fail
        refine HC.out.mono ?_; rintro e w1 ⟨rfl, hb1⟩; rw [HI.out]
        have HB1 := Box.mk (show Below w.heap.size w w1 from hb.out.trans (hb1.mono hb.out.size))
        clear hb1
        go_wp2_with fail
        go_roundw
        case rel => exact ⟨k + 1, hlt', by go_num, HT, HB1⟩
        case measure => simp [intOf]; omega
      | false =>
        have HT := Box.mk (allr_no n l k x HX.out hi)
        have HI := Box.mk (show (!ruleB n x) = true by rw [hi]; rfl)
        clear hi
        go_wp2_with fail
        refine HC.out.mono ?_; rintro e w1 ⟨rfl, hb1⟩; rw [HI.out]
        go_wp2_with fail
        go_ret
        exact ⟨⟨k, rfl, by rw [HT.out]; simp⟩, hb.out.trans (hb1.mono hb.out.size)⟩
    · have HT := Box.mk (show l.all (ruleB n) = true by have := ha.out; rwa [List.take_of_length_le (by omega)] at this)
      go_wp2_with fail
      go_ret
      exact ⟨⟨-1, rfl, by rw [HT.out]; rfl⟩, hb.out⟩
theorem rcontains_any (v : Value) (l : List D.Rule) (n : Int) (bn : Nat) (w : World) (hf : ∀ x ∈ l, ruleFit x) (hv : RulesAt w v l) (hz : l.length ≤ 16777216) (hn : w.cell? ⟨bn, 0, none⟩ = some (.int .i64 n)) (hlt : bn < w.heap.size) :
    Calls Tryz.prog 83 #[v, .func (.func 81) #[] #[.pointer (some ⟨bn, 0, none⟩)]] w fun e w' => e = .returned (.bool (!l.all (ruleB n))) ∧ Below w.heap.size w w' := by
  have HI := Box.mk (rindex_any v l n bn w hf hv hz hn hlt)
  clear hf hv hn
  go_enter Tryz.func83, Tryz.ntmps83
  go_wp2_with fail
  refine HI.out.mono ?_; rintro e w1 ⟨⟨i, rfl, hi⟩, hb⟩
  have HX := Box.mk hi
  clear hi
  go_wp2_with fail
  go_ret
  exact ⟨ret_bool (by simpa using HX.out), hb⟩

set_option maxHeartbeats 1000000 in
theorem areRight_any (v : Value) (l : List D.Rule) (n : Int) (w : World) (hf : ∀ x ∈ l, ruleFit x) (hv : RulesAt w v l) (hz : l.length ≤ 16777216) :
    Calls Tryz.prog 54 #[.int .i64 n, v] w fun e w' => e = .returned (.bool (rulesB n l)) ∧ Below w.heap.size w w' := by
  unfold rulesB
  have hw : Below w.heap.size w (w.alloc (.cells #[.int .i64 n] 3)) := (Below.refl _ _).alloc (Nat.le_refl _) _
  have HW := Box.mk hw
  have HC := Box.mk (fun hc => rcontains_any v l n w.heap.size _ hf (hv.below hw) hz hc (by simp))
  have HN := Box.mk ((Blk.new w 3 #[.int .i64 n]).cell 0)
  obtain ⟨ao, cap, rfl⟩ := hv.slice
  clear hv hw hf
  by_cases hn : 1 ≤ n ∧ n ≤ 32
  · obtain ⟨hn1, hn2⟩ := hn
    by_cases hl : l.length ≤ 40
    · go_enter Tryz.func54, Tryz.ntmps54
      go_wp2_with fail
      refine (HC.out (HN.out.trans rfl)).mono ?_; rintro e w1 ⟨rfl, hb⟩
      have HB := Box.mk hb
      clear hb
      go_wp2_with fail
      go_ret
      exact ⟨ret_bool (by simp [hl, hn1, hn2]), HW.out.trans (HB.out.mono HW.out.size)⟩
    · have hl' : 40 < l.length := by omega
      go_enter Tryz.func54, Tryz.ntmps54
      go_wp2_with fail
      go_ret
      exact ⟨ret_bool (by simp <;> omega), HW.out⟩
  · have hn' : n < 1 ∨ (1 ≤ n ∧ 32 < n) := by omega
    rcases hn' with h | ⟨h, h'⟩
    all_goals
      go_enter Tryz.func54, Tryz.ntmps54
      go_wp2_with fail
      go_ret
      exact ⟨ret_bool (by simp <;> omega), HW.out⟩

theorem rulesRight_any (v : Value) (l : List D.Rule) (n : Int) (w : World) (hf : ∀ x ∈ l, ruleFit x) (hv : RulesAt w v l) (hz : l.length ≤ 16777216) :
    Calls Tryz.prog 31 #[v, .int .i64 n] w fun e w' => e = .returned (.bool (rulesB n l)) ∧ Below w.heap.size w w' := by
  have HA := Box.mk (areRight_any v l n w hf hv hz)
  clear hv hf
  go_enter Tryz.func31, Tryz.ntmps31
  go_wp2_with fail
  refine HA.out.mono ?_; rintro e w1 ⟨rfl, hb⟩
  go_wp2_with fail
  go_ret
  exact ⟨rfl, hb⟩
end Go.Proofs.YtbpcipobdokcfaaGreatDoor

/- SETS OF STATES SIDE BY SIDE, AS ARRAYS; the builder that lies in memory; something of each rule. -/
namespace Go.Proofs.YtbpcipobdokcfaaGreatDoor
open Go.RowKit

def keyL (s : D.Sets) : List Value := (s ++ List.replicate (40 - s.length) 0).map natV
/-- sets, one of each rule, as an array: zeros behind them -/
def keyC (s : D.Sets) : Array Value := (keyL s).toArray
theorem keyL_len (s : D.Sets) (h : s.length ≤ 40) : (keyL s).length = 40 := by unfold keyL; rw [List.length_map, List.length_append, List.length_replicate]; omega
theorem keyC_size (s : D.Sets) (h : s.length ≤ 40) : (keyC s).size = 40 := by unfold keyC; rw [List.size_toArray, keyL_len s h]
theorem keyC_get (s : D.Sets) (i x : Nat) (h : s[i]? = some x) : (keyC s)[i]? = some (.int .i64 x) := by
  unfold keyC keyL
  have hi := (List.getElem?_eq_some_iff.1 h).1
  rw [List.getElem?_toArray, List.getElem?_map, List.getElem?_append_left hi, h]
  rfl
theorem keyC_set (s : D.Sets) (x : Nat) (h : s.length < 40) : (keyC s).setIfInBounds s.length (.int .i64 x) = keyC (s ++ [x]) := by
  unfold keyC keyL
  rw [List.setIfInBounds_toArray]
  congr 1
  obtain ⟨d, hd⟩ : ∃ d, 40 - s.length = d + 1 := ⟨40 - s.length - 1, by omega⟩
  have hd2 : 40 - (s ++ [x]).length = d := by simp; omega
  rw [hd, hd2, List.map_append, List.map_append, List.map_append, List.replicate_succ, List.map_cons, List.append_assoc, List.set_append, if_neg (by simp), List.length_map, Nat.sub_self]
  rfl
theorem keyC_one (s : D.Sets) : (keyC s).all (·.oneCell') = true := by
  rw [Array.all_eq_true_iff_forall_mem]
  intro v hv
  unfold keyC keyL at hv
  rw [List.mem_toArray] at hv
  obtain ⟨x, -, rfl⟩ := List.mem_map.1 hv
  rfl
theorem keyInfo : (Tryz.prog.info? 115).map (·.size) = some 40 := by kernel_rfl
theorem load_key {W : World} {b : Nat} {s : D.Sets} (hs : s.length ≤ 40) (h : Blk W b 115 (keyC s)) : (loadVar 115 ⟨b, 0, none⟩).run Tryz.prog W = .ok (.agg (keyC s)) W :=
  run_loadVar_row W b _ _ (keyC s) (0, 0) _ h Tryz.underlying115 rfl (by rw [keyInfo, keyC_size s hs])
theorem store_key {W : World} {b : Nat} {s s' : D.Sets} (hs : s.length ≤ 40) (hs' : s'.length ≤ 40) (h : Blk W b 115 (keyC s)) : (storeVar 115 ⟨b, 0, none⟩ (.agg (keyC s'))).run Tryz.prog W = .ok () (W.setRow b (keyC s')) :=
  run_storeVar_row W b _ _ (keyC s) (keyC s') h (by rw [keyInfo, keyC_size s' hs']) (by rw [keyC_size s hs, keyC_size s' hs']) (keyC_one s')

theorem zero40 : (#[.int .i64 0, .int .i64 0, .int .i64 0, .int .i64 0, .int .i64 0, .int .i64 0, .int .i64 0, .int .i64 0, .int .i64 0, .int .i64 0, .int .i64 0, .int .i64 0, .int .i64 0, .int .i64 0, .int .i64 0, .int .i64 0, .int .i64 0, .int .i64 0, .int .i64 0, .int .i64 0, .int .i64 0, .int .i64 0, .int .i64 0, .int .i64 0, .int .i64 0, .int .i64 0, .int .i64 0, .int .i64 0, .int .i64 0, .int .i64 0, .int .i64 0, .int .i64 0, .int .i64 0, .int .i64 0, .int .i64 0, .int .i64 0, .int .i64 0, .int .i64 0, .int .i64 0, .int .i64 0] : Array Value) = keyC [] := rfl
theorem below_setRow {B : Nat} {a w : World} (h : Below B a w) {g : Nat} (hg : B ≤ g) (cs : Array Value) : Below B a (w.setRow g cs) :=
  ⟨h.os, h.tape, h.output, by simpa [World.setRow] using h.size, fun i hi => (setRow_other w g i cs (by omega)).trans (h.block i hi)⟩
theorem Blk.setRow {w : World} {g : Nat} {t : TypeId} {cs : Array Value} (h : Blk w g t cs) (cs' : Array Value) : Blk (w.setRow g cs') g t cs' := setRow_heap w g cs cs' t (0, 0) h
theorem Blk.setRow_far {w : World} {g k : Nat} {t : TypeId} {cs : Array Value} (h : Blk w g t cs) (hk : g ≠ k) (cs' : Array Value) : Blk (w.setRow k cs') g t cs := (setRow_other w k g cs' hk).trans h
/-- the builder's block -/
def Bb (w : World) (b : Nat) (nv fv rv : Value) (n m : Nat) (tv : Value) : Prop := Blk w b 79 #[nv, fv, rv, .int .i64 n, .map (some m), tv]

set_option maxHeartbeats 4000000 in
theorem each_any (b : Nat) (nv fv rv : Value) (n m : Nat) (tv : Value) (rs : List D.Rule) (g : Nat) (lb : Array Value) (f : Nat → Nat) (w : World) (hb : Bb w b nv fv rv n m tv) (hr : RulesAt w rv rs) (hl : rs.length ≤ 40)
    (eg : ∀ args w, (callFunc g args).run Tryz.prog w = .ok (.enter g args) w)
    (hc : ∀ (i : Nat) (x : D.Rule) (vl vr : Value) (W : World), rs[i]? = some x → Below w.heap.size w W → ItemsAt W vl x.1.2 → ItemsAt W vr x.2.1.2 → Calls Tryz.prog g (#[.int .i64 (i : Int), ruleV x vl vr] ++ lb) W fun e W' => e = .returned (.int .i64 (f i)) ∧ Below W.heap.size W W') :
    Calls Tryz.prog 70 #[.pointer (some ⟨b, 0, none⟩), .func (.func g) #[] lb] w fun e w' => e = .returned (.agg (keyC ((List.range rs.length).map f))) ∧ Below w.heap.size w w' := by
  have HC := Box.mk hc
  clear hc
  have HR := Box.mk hr
  have HB := Box.mk hb
  obtain ⟨ao, cap, rfl⟩ := hr.slice
  have c1 : w.cell? ⟨b, 2, none⟩ = some (.slice ao rs.length cap) := (hb.cell 2).trans rfl
  have l0 := hb.lt
  clear hr hb
  go_enter Tryz.func70, Tryz.ntmps70
  go_wp2
  rw [zero40]
  have HO0 := Box.mk (show Blk ((w.alloc (.cells (keyC []) 115)).alloc (.cells (keyC []) 115)) w.heap.size 115 (keyC []) from (Blk.new w _ _).alloc _)
  have HO1 := Box.mk (show Blk ((w.alloc (.cells (keyC []) 115)).alloc (.cells (keyC []) 115)) (w.heap.size + 1) 115 (keyC []) by
    have := Blk.new (w.alloc (.cells (keyC []) 115)) 115 (keyC [])
    simpa using this)
  have HW0 := Box.mk (show Below w.heap.size w ((w.alloc (.cells (keyC []) 115)).alloc (.cells (keyC []) 115)) from ((Below.refl _ _).alloc (Nat.le_refl _) _).alloc (by simp) _)
  clear c1
  go_loopw [13] (fun i wr => ∃ k : Nat, k ≤ rs.length ∧ i = .int .i64 k ∧ Box (Blk wr w.heap.size 115 (keyC [])) ∧ Box (Blk wr (w.heap.size + 1) 115 (keyC ((List.range k).map f))) ∧ Box (Below w.heap.size w wr)) (fun i _ => rs.length - (intOf i).toNat)
  case atStart => exact ⟨0, by omega, rfl, HO0, HO1, HW0⟩
  case round =>
    obtain ⟨k, hk, rfl, ho0, ho1, hb⟩ := hrel
    clear HO0 HO1 HW0
    by_cases hlt : k < rs.length
    · obtain ⟨x, hx⟩ : ∃ x, rs[k]? = some x := ⟨_, List.getElem?_eq_getElem hlt⟩
      have HX := Box.mk hx
      obtain ⟨bg, off, cap2, hg1, hg2, hg3, hg4, hg5⟩ := (HR.out.below hb.out).get (by rintro rfl; simp at hlt)
      obtain ⟨rfl, rfl⟩ : ao = some ⟨bg, off, none⟩ ∧ cap = cap2 := by injection hg1 with h1 h2 h3; exact ⟨h1, h3⟩
      obtain ⟨vl, vr, hc0, hc1, hc2, hc3, hc4, hil, hir⟩ := hg5 k x hx
      have HCC := Box.mk (fun W (h : Below wr.heap.size wr W) => HC.out k x vl vr W HX.out (hb.out.trans (h.mono hb.out.size)) (hil.below h) (hir.below h))
      unfold maxLen at hg3
      obtain ⟨al, cl, rfl⟩ := hil.slice
      obtain ⟨ar, cr, rfl⟩ := hir.slice
      clear hx hg1 hg5 hil hir
      unfold ruleV at HCC
      obtain ⟨⟨stl, il⟩, ⟨str, ir⟩, br⟩ := x
      simp only at HCC hc0 hc1 hc2 hc3 hc4
      have hb40 : k < 40 := by omega
      have HNX := Box.mk (show ∀ w1 : World, Below (wr.heap.size + 1) (wr.alloc (.cells #[.bool stl, .slice al il.length cl, .bool str, .slice ar ir.length cr, .bool br] 44)) w1 → Box (Blk w1 w.heap.size 115 (keyC [])) ∧ Box (Blk w1 (w.heap.size + 1) 115 (keyC ((List.range k).map f))) ∧ Box (Below w.heap.size w w1) from fun w1 h => by
        have h' : Below wr.heap.size wr w1 := ((Below.refl _ _).alloc (Nat.le_refl _) _).trans (h.mono (by omega))
        exact ⟨⟨ho0.out.below h' ho0.out.lt⟩, ⟨ho1.out.below h' ho1.out.lt⟩, ⟨hb.out.trans (h'.mono hb.out.size)⟩⟩)
      have HST := Box.mk (show ∀ w1 : World, Blk w1 (w.heap.size + 1) 115 (keyC ((List.range k).map f)) → Blk (w1.setCell ⟨w.heap.size + 1, k, none⟩ (.int .i64 (f k))) (w.heap.size + 1) 115 (keyC ((List.range (k + 1)).map f)) from fun w1 h => by
        have := h.set_ k (.int .i64 (f k))
        have e := keyC_set ((List.range k).map f) (f k) (by simp; omega)
        rw [show ((List.range k).map f).length = k by simp] at e
        rw [e] at this
        rw [List.range_succ, List.map_append]
        exact this)
      have hb40 : k < 40 := by omega
      go_wp2_with fail
      refine (HCC.out _ ((Below.refl _ _).alloc (Nat.le_refl _) _)).mono ?_; rintro e w1 ⟨rfl, hb1⟩
      obtain ⟨h0, h1, hbw⟩ := HNX.out w1 (by simpa using hb1)
      have hc1' : ∃ v, w1.cell? ⟨w.heap.size + 1, k, none⟩ = some v := by
        have := h1.out.cell k
        rw [Array.getElem?_eq_getElem (by rw [keyC_size _ (by simp; omega)]; omega)] at this
        exact ⟨_, this⟩
      obtain ⟨vv, hvv⟩ := hc1'
      have hff := h1.out.frozen k
      have hHB := Box.mk hb1
      clear hb1
      go_wp2_with fail
      go_roundw
      case rel => exact ⟨k + 1, hlt, by go_num, ⟨h0.out.far (by simp) _⟩, ⟨HST.out _ h1.out⟩, ⟨hbw.out.setCell (by simp) _⟩⟩
      case measure => simp [intOf]; omega
    · obtain rfl : k = rs.length := by omega
      have hs40 : ((List.range rs.length).map f).length ≤ 40 := by simp; omega
      have HI := Box.mk (show (Tryz.prog.info? 115).map (·.size) = some (keyC ((List.range rs.length).map f)).size by rw [keyInfo, keyC_size _ hs40])
      have HSZ := Box.mk (show (keyC []).size = (keyC ((List.range rs.length).map f)).size by rw [keyC_size _ hs40]; rfl)
      clear hs40
      go_wp2_with (first
        | (refine wpList_load_row rfl 115 _ rfl (w.heap.size + 1) rfl 115 (keyC ((List.range rs.length).map f)) (0, 0) _ ho1.out Tryz.underlying115 rfl HI.out ?_)
        | (refine wpList_store_row rfl 115 _ _ rfl w.heap.size (keyC ((List.range rs.length).map f)) rfl rfl 115 (keyC []) ho0.out HI.out HSZ.out (keyC_one _) ?_))
      exact bodyPost_ret (v := .agg (keyC ((List.range rs.length).map f))) (results_cell_row Tryz.results70 _ _ w.heap.size 115 _ (0, 0) _ rfl (ho0.out.setRow _) Tryz.underlying115 rfl HI.out) rfl ⟨rfl, below_setRow hb.out (Nat.le_refl _) _⟩
end Go.Proofs.YtbpcipobdokcfaaGreatDoor
