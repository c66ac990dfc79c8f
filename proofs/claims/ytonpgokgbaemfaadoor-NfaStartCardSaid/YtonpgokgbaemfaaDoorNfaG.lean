/-
  ONE STEP OF THE RUNNER; whether all has fitted.
-/
import Derived.Test.YtonpgokgbaemfaaDoorNfaF
import Derived.Stop.RegionWithIn
import Derived.Shelf.Abstract
import Derived.Shelf.RegionOpen
namespace Go.Proofs.YtonpgokgbaemfaaDoor
open Go.RowKit Go.Shelf
attribute [local go_sem] Oper.semAt_some

theorem statesM_any (p : Option Addr) (S c : Int) (w : World) :
    Calls Tryd.prog 42 #[.pointer p, .int .i64 S, .int .i64 c] w fun e w' => e = .returned (.func (.func 50) #[] #[.pointer (some ⟨w.heap.size, 0, none⟩), .pointer (some ⟨w.heap.size + 1, 0, none⟩), .pointer (some ⟨w.heap.size + 1 + 1, 0, none⟩)]) ∧
      ((w.alloc (.cells #[.pointer p] 49)).alloc (.cells #[.int .i64 S] 2)).alloc (.cells #[.int .i64 c] 3) = w' := by
  go_enter Tryd.func42, Tryd.ntmps42
  go_wp2
  go_ret
  exact ⟨rfl, rfl⟩

theorem sum_lt (l : List N.Item) (xs : List Nat) (h : ∀ x ∈ xs, x < 2 * l.length) (a : Nat) (ha : a < 2 ^ (2 * l.length + 1)) : xs.foldl (fun out n => out ||| N.clo l (N.goto l n)) a < 2 ^ (2 * l.length + 1) := by
  induction xs generalizing a with
  | nil => exact ha
  | cons x t ih =>
    exact ih (fun y hy => h y (List.mem_cons_of_mem _ hy)) _ (Nat.or_lt_two_pow ha (N.clo_lt l _ (N.goto_le l x (h x (List.mem_cons_self ..)))))
def outOf (l : List N.Item) (a : Nat) (xs : List Nat) : Nat := xs.foldl (fun out n => out ||| N.clo l (N.goto l n)) a
theorem outOf_snoc (l : List N.Item) (a : Nat) (xs : List Nat) (x : Nat) : outOf l a (xs ++ [x]) = outOf l a xs ||| N.clo l (N.goto l x) := by unfold outOf; rw [List.foldl_append]; rfl

set_option maxHeartbeats 4000000 in
theorem step_any (r m : Nat) (st : Bool) (v : Value) (l : List N.Item) (w : World) (h : Rn w r m st v l) (S : Nat) (hS : S < 4611686018427387904) (c : Int) :
    Calls Tryd.prog 29 #[.pointer (some ⟨r, 0, none⟩), .int .i64 S, .int .i64 c] w fun e w' => e = .returned (.int .i64 (N.step l st S c)) ∧ Below w.heap.size w w' := by
  have hl := h.len
  have HR := Box.mk h
  have c0 : w.cell? ⟨r, 0, none⟩ = some (.bool st) := (h.blk.cell 0).trans rfl
  have l0 := h.blk.lt
  obtain ⟨w2, hw2⟩ : ∃ w2, w2 = (w.alloc (.cells #[.pointer (some ⟨r, 0, none⟩)] 49)).alloc (.cells #[.int .i64 0] 2) := ⟨_, rfl⟩
  have hbw : Below w.heap.size w w2 := by rw [hw2]; exact ((Below.refl _ _).alloc (Nat.le_refl _) _).alloc (by simp) _
  have hb0 : Blk w2 w.heap.size 49 #[.pointer (some ⟨r, 0, none⟩)] := by rw [hw2]; exact (Blk.new w _ _).alloc _
  have hb1 : Blk w2 (w.heap.size + 1) 2 #[.int .i64 0] := by
    rw [hw2]
    have := Blk.new (w.alloc (.cells #[.pointer (some ⟨r, 0, none⟩)] 49)) 2 #[.int .i64 0]
    simpa using this
  have HB0 := Box.mk hb0
  have HB1 := Box.mk hb1
  have HBW := Box.mk hbw
  have HW2 := Box.mk hw2
  clear h hb0 hb1 hbw hw2
  refine (callsIn_wide (n := 9)).1 (callsIn_of_wp_marks Tryd.func29 rfl trivial (wpIn_wide.2 ?_))
  simp only [Tryd.ntmps29, List.size_toArray, List.length_cons, List.length_nil, Nat.reduceAdd, Nat.reduceSub, Array.replicate_succ, Array.replicate_zero, List.push_toArray, List.append_toArray, List.nil_append, List.cons_append]
  go_upto_if 15 with (fail)
  go_cut [] from 16 to 18 (fun wx => Box (Below w.heap.size w wx) ∧ Box (Blk wx w.heap.size 49 #[.pointer (some ⟨r, 0, none⟩)]) ∧ Box (Blk wx (w.heap.size + 1) 2 #[.int .i64 (N.init l st)]))
  case first =>
    rw [← HW2.out]
    clear l0 c0
    cases st with
    | true =>
      go_wp2_with fail
      go_meet
      exact ⟨HBW, HB0, ⟨by rw [show N.init l true = 0 from rfl]; exact HB1.out⟩⟩
    | false =>
      have e0 : w2.cell? ⟨w.heap.size, 0, none⟩ = some (.pointer (some ⟨r, 0, none⟩)) := (HB0.out.cell 0).trans rfl
      have HC := Box.mk (closed_any r m false v l (w2.alloc (.cells #[.int .i64 0] 3)) ((HR.out.below HBW.out).below ((Below.refl _ _).alloc (Nat.le_refl _) _)) w2.heap.size 0 (by simp) (by omega))
      go_wp2_with fail
      refine HC.out.mono ?_; rintro e w3 ⟨rfl, hb3⟩
      have hb13 := (HB1.out.alloc (.cells #[.int .i64 0] 3)).below hb3 (by have := HB1.out.lt; simp; omega)
      have HB13 := Box.mk hb13
      have HB03 := Box.mk ((HB0.out.alloc (.cells #[.int .i64 0] 3)).below hb3 (by have := HB0.out.lt; simp; omega))
      have HBW3 := Box.mk (show Below w.heap.size w w3 from (HBW.out.alloc HBW.out.size _).trans (hb3.mono (by have := HBW.out.size; simp; omega)))
      have e1 : w3.cell? ⟨w.heap.size + 1, 0, none⟩ = some (.int .i64 0) := (hb13.cell 0).trans rfl
      have f1 := hb13.frozen 0
      clear hb3 hb13
      go_wp2_with fail
      go_meet
      exact ⟨⟨HBW3.out.setCell (by simp) _⟩, ⟨HB03.out.far (by simp) _⟩, ⟨HB13.out.set_ 0 _⟩⟩
  case rest =>
    obtain ⟨hbw, hb0, hb1⟩ := hcut
    have e0 : wc.cell? ⟨w.heap.size, 0, none⟩ = some (.pointer (some ⟨r, 0, none⟩)) := (hb0.out.cell 0).trans rfl
    go_wp2_with (go_at_call 42; refine (statesM_any _ _ _ _).mono ?_; rintro e w' ⟨rfl, rfl⟩)
    clear e0
    have hbr : Blk (((wc.alloc (.cells #[.pointer (some ⟨r, 0, none⟩)] 49)).alloc (.cells #[.int .i64 S] 2)).alloc (.cells #[.int .i64 c] 3)) wc.heap.size 49 #[.pointer (some ⟨r, 0, none⟩)] := ((Blk.new wc _ _).alloc _).alloc _
    have hbs : Blk (((wc.alloc (.cells #[.pointer (some ⟨r, 0, none⟩)] 49)).alloc (.cells #[.int .i64 S] 2)).alloc (.cells #[.int .i64 c] 3)) (wc.heap.size + 1) 2 #[.int .i64 S] := by
      have := (Blk.new (wc.alloc (.cells #[.pointer (some ⟨r, 0, none⟩)] 49)) 2 #[.int .i64 S]).alloc (.cells #[.int .i64 c] 3)
      simpa using this
    have hbc : Blk (((wc.alloc (.cells #[.pointer (some ⟨r, 0, none⟩)] 49)).alloc (.cells #[.int .i64 S] 2)).alloc (.cells #[.int .i64 c] 3)) (wc.heap.size + 1 + 1) 3 #[.int .i64 c] := by
      have := Blk.new ((wc.alloc (.cells #[.pointer (some ⟨r, 0, none⟩)] 49)).alloc (.cells #[.int .i64 S] 2)) 3 #[.int .i64 c]
      simpa using this
    have hbL : Below wc.heap.size wc (((wc.alloc (.cells #[.pointer (some ⟨r, 0, none⟩)] 49)).alloc (.cells #[.int .i64 S] 2)).alloc (.cells #[.int .i64 c] 3)) := (((Below.refl _ _).alloc (Nat.le_refl _) _).alloc (by simp) _).alloc (by simp; omega) _
    have hsz : (((wc.alloc (.cells #[.pointer (some ⟨r, 0, none⟩)] 49)).alloc (.cells #[.int .i64 S] 2)).alloc (.cells #[.int .i64 c] 3)).heap.size = wc.heap.size + 3 := by simp
    generalize ((wc.alloc (.cells #[.pointer (some ⟨r, 0, none⟩)] 49)).alloc (.cells #[.int .i64 S] 2)).alloc (.cells #[.int .i64 c] 3) = wL at hbr hbs hbc hbL hsz ⊢
    have hcs := hbw.out.size
    have hb1' := hb1.out.lt
    have hbwL : Below w.heap.size w wL := hbw.out.trans (hbL.mono hcs)
    have hAL : Agree w wL := .of_below hbwL
    refine (wpIn_wide (n := 9)).1 (range_law (α := Nat) (gf := 50) (lb := #[.pointer (some ⟨wc.heap.size, 0, none⟩), .pointer (some ⟨wc.heap.size + 1, 0, none⟩), .pointer (some ⟨wc.heap.size + 1 + 1, 0, none⟩)]) rfl (enters_of Tryd.func50 (by kernel_rfl) rfl)
      (encs := fun x => #[.int .i64 x, .int .i64 (N.goto l x)]) (own := fun _ => False) (keep := keepOf w wc.heap.size (wc.heap.size + 1) (wc.heap.size + 1 + 1)) (ok := fun _ x => x < 2 * l.length) (S := fun xs _ => xs = stepsOf l S c (2 * l.length))
      (fun k hk => by rcases hk with h | h; exact h.elim; unfold keepOf at h; omega)
      (fun W1 ht => states1_iter 7 w r m st v l HR.out S hS c wc.heap.size (wc.heap.size + 1) (wc.heap.size + 1 + 1) _ W1 (hAL.turns ht (fun _ h => h.elim)) (ht.blk hbr (fun h => h)) (ht.blk hbs (fun h => h)) (ht.blk hbc (fun h => h)))
      (fun _ => rfl)
      (fun pre W => Blk W w.heap.size 49 #[.pointer (some ⟨r, 0, none⟩)] ∧ Blk W (w.heap.size + 1) 2 #[.int .i64 (outOf l (N.init l st) pre)] ∧ outOf l (N.init l st) pre < 2 ^ (2 * l.length + 1) ∧ Below w.heap.size w W)
      (fun _ _ _ => False) ?hI (fun _ _ _ _ h _ => h) ⟨(hb0.out.below hbL (by omega)), (hb1.out.below hbL hb1'), N.init_lt l st, hbwL⟩
      (fun x a1 _ => a1 = { tmps := #[.pointer (some ⟨r, 0, none⟩), .int .i64 S, .int .i64 c, .pointer (some ⟨w.heap.size, 0, none⟩), undef, undef, .int .i64 0, .pointer (some ⟨w.heap.size + 1, 0, none⟩), undef, .int .i64 (N.goto l x), .pointer (some ⟨r, 0, none⟩), .pointer (some ⟨r, 0, none⟩), .pointer (some ⟨r, 0, none⟩), .pointer (some ⟨r, 0, none⟩), .bool st, .bool !st, u16, u17, u18, .pointer (some ⟨r, 0, none⟩), .int .i64 S, .int .i64 c, .func (.func 50) #[] #[.pointer (some ⟨wc.heap.size, 0, none⟩), .pointer (some ⟨wc.heap.size + 1, 0, none⟩), .pointer (some ⟨wc.heap.size + 1 + 1, 0, none⟩)], .int .i64 x, .int .i64 (N.goto l x), undef, undef, undef, undef, undef, undef, undef], defers := [] })
      (fun _ _ _ _ h _ => h) ?assign ?body ?done (fun _ _ _ _ h _ => h.elim) (fun _ _ _ h _ => h))
    case hI =>
      rintro pre W W' ⟨h1, h2, h3, h4⟩ ht
      exact ⟨ht.blk h1 (by rintro (h | h); exact h; omega), ht.blk h2 (by rintro (h | h); exact h; omega), h3, h4.trans (ht.below h4.size (fun k hk => by rcases hk with h | h; exact h.elim; omega))⟩
    case assign =>
      intro x W K _ hK
      gi_wp2
      exact hK _ _ (Turns.refl _ _) rfl
    case body =>
      rintro pre x a1 W hW ⟨h1, h2, h3, h4⟩ hx rfl
      have hx' : N.goto l x ≤ 2 * l.length := N.goto_le l x hx
      have HAW := Box.mk (show Agree w W from .of_below h4)
      have HN := Box.mk (show ∀ W3, Turns (fun k => k = w.heap.size + 1) W W3 → Blk W3 (w.heap.size + 1) 2 #[.int .i64 (outOf l (N.init l st) (pre ++ [x]))] → Holds (fun k => keepOf w wc.heap.size (wc.heap.size + 1) (wc.heap.size + 1 + 1) k ∨ k = wL.heap.size + 1 ∨ k = wL.heap.size) W W3 ∧ (Blk W3 w.heap.size 49 #[.pointer (some ⟨r, 0, none⟩)] ∧ Blk W3 (w.heap.size + 1) 2 #[.int .i64 (outOf l (N.init l st) (pre ++ [x]))] ∧ outOf l (N.init l st) (pre ++ [x]) < 2 ^ (2 * l.length + 1) ∧ Below w.heap.size w W3) from fun W3 ht hb =>
        ⟨Holds.of_turns ht (fun k hk => by unfold keepOf at hk; omega) (fun k hk => by unfold keepOf at hk; omega), ht.blk h1 (by omega), hb, by rw [outOf_snoc]; exact Nat.or_lt_two_pow h3 (N.clo_lt l _ hx'), h4.trans (ht.below h4.size (fun k hk => by omega))⟩)
      have HCL := Box.mk (fun (W1 : World) (sb : Nat) (ha : Agree w W1) (hs : W1.cell? ⟨sb, 0, none⟩ = some (.int .i64 (N.goto l x))) => (callsIn_wide (n := 9 - 1 - 1 - 1)).2 (closed_any r m st v l W1 (HR.out.agree ha) sb (N.goto l x) hs hx'))
      have e0 : W.cell? ⟨w.heap.size, 0, none⟩ = some (.pointer (some ⟨r, 0, none⟩)) := (h1.cell 0).trans rfl
      have e1 : W.cell? ⟨w.heap.size + 1, 0, none⟩ = some (.int .i64 (outOf l (N.init l st) pre)) := (h2.cell 0).trans rfl
      have l1 := h1.lt
      have l2 := h2.lt
      have H2 := Box.mk h2
      have H3 := Box.mk h3
      have HOR := Box.mk (show bits .or .i64 (outOf l (N.init l st) pre : Int) (N.clo l (N.goto l x) : Int) = (outOf l (N.init l st) (pre ++ [x]) : Int) by
        have a1 := lt_40 _ _ h3 (by omega)
        have a2 := lt_40 _ _ (N.clo_lt l _ hx') (by omega)
        rw [i64_or_nat _ _ (by omega) (by omega), outOf_snoc])
      clear h1 h2 h3 h4 hbr hbs hbc hbL hsz hbwL hAL l0 c0 hx
      gi_wp2
      gi_region_with ((refine And.intro trivial ?_; gi_at_call 28; refine (HCL.out _ _ ?_ ?_).mono ?_; exact ⟨(HAW.out.alloc _).size, (HAW.out.alloc _).block⟩; simp; rintro e w3 ⟨rfl, hb3⟩; have hT3 : Turns (fun k => k = w.heap.size + 1) W w3 := (Turns.alloc W _).trans (Turns.of_below ⟨hb3.os, hb3.tape, hb3.output, hb3.size, hb3.block⟩); have hB3 : Blk w3 (w.heap.size + 1) 2 #[.int .i64 (outOf l (N.init l st) pre)] := (hb3.block _ (by simp; omega)).trans (H2.out.alloc _); have HT3 := Box.mk hT3; have HB3 := Box.mk hB3; have e3 := (hB3.cell 0).trans (show _ = some (Value.int .i64 (outOf l (N.init l st) pre)) from rfl); have f3 := hB3.frozen 0; clear hb3 hT3 hB3))
      all_goals exact HN.out _ (HT3.out.trans (Turns.setCell (own := fun k => k = w.heap.size + 1) _ (p := ⟨w.heap.size + 1, 0, none⟩) rfl _)) (by rw [HOR.out]; exact HB3.out.set_ 0 _)
    case done =>
      intro xs W hW hS' ⟨h1, h2, h3, h4⟩ hD
      have HV := Box.mk (show outOf l (N.init l st) xs = N.step l st S c by rw [hS']; unfold N.step; rw [fill_steps]; rfl)
      have e1 : W.cell? ⟨w.heap.size + 1, 0, none⟩ = some (.int .i64 (outOf l (N.init l st) xs)) := (h2.cell 0).trans rfl
      have H4 := Box.mk h4
      have HD := Box.mk hD
      have hwl := hbwL.size
      clear h1 h2 h3 h4 hD hbr hbs hbc hbL hsz hbwL hAL l0 c0 hS'
      go_wp2_with fail
      refine ⟨by simp, .inl ⟨_, _, rfl, run_takeDeferred HD.out, ?_⟩⟩
      refine ⟨_, results_tmp rfl _ _ _, ?_⟩
      exact ⟨by rw [← HV.out]; rfl, H4.out.trans ((Turns.putObj (own := fun k => k = wL.heap.size) W rfl _).below H4.out.size (fun k hk => by omega))⟩
end Go.Proofs.YtonpgokgbaemfaaDoor
