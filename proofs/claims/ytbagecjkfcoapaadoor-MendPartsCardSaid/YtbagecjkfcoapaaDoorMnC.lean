/-
  THE WALKS OF package mend: Unit, Bad.
-/
import Derived.Test.YtbagecjkfcoapaaDoorMnB
namespace Go.Proofs.YtbagecjkfcoapaaDoor
open Go.RowKit Go.Shelf
attribute [local go_sem] Oper.semAt_some

theorem alloc_below (w : World) (o : Obj) : Below w.heap.size w (w.alloc o) := (Below.refl _ _).alloc (Nat.le_refl _) o
def unitT (l : List UInt8) : Value := .tuple #[.int .i64 ((M.unit l).1 : Int), .bool (M.unit l).2]

set_option maxHeartbeats 1000000 in
theorem unit_any (A : Nat → Addr) (B : Nat) (s : ByteArray) (w : World) (hs : s.size ≤ 16777216) (hE : E A B w) (hB : B ≤ w.heap.size) :
    Calls Tryd.prog 14 #[.string s] w fun e w' => e = .returned (unitT s.data.toList) ∧ Below w.heap.size w w' := by
  have hb0 := alloc_below w (.cells #[.string s] 47)
  have HA := Box.mk (at_any A B w.heap.size s 0 _ (((Blk.new w 47 #[.string s]).cell 0).trans rfl) (Nat.zero_le _) hs (hE.below (hb0.mono hB)) (Nat.le_trans hB hb0.size))
  have HB0 := Box.mk hb0
  rw [List.drop_zero] at HA
  obtain ⟨m, o, hu⟩ : ∃ m o, M.unit s.data.toList = (m, o) := ⟨_, _, rfl⟩
  have HU := Box.mk (show unitV s.data.toList = .agg #[.int .i64 m, .bool o] by unfold unitV; rw [hu])
  have HT := Box.mk (show unitT s.data.toList = .tuple #[.int .i64 m, .bool o] by unfold unitT; rw [hu])
  clear hE hb0 hu
  go_enter Tryd.func14, Tryd.ntmps14
  go_wp2_with fail
  refine HA.out.mono ?_; rintro e w1 ⟨rfl, hb1⟩; rw [HU.out]
  have HB1 := Box.mk (HB0.out.trans (hb1.mono HB0.out.size))
  clear hb1
  go_wp2_with fail
  go_quiet (fail)
  go_wp2_with fail
  go_ret2
  exact ⟨by rw [HT.out]; rfl, below_drewN (HB1.out.trans ((alloc_below w1 _).mono HB1.out.size)) _⟩

theorem bad_snoc (pre : List M.Place) (x : M.Place) : M.bad (pre ++ [x]) = M.bad pre + (if x.2.2 then 0 else 1) := by
  unfold M.bad
  rw [List.filter_append, List.length_append]
  cases h : x.2.2 <;> simp [h]
theorem places_le (l : List UInt8) : (M.places l).length ≤ l.length := by
  have h := M.cut_last l 0 (by omega)
  have key : ∀ (k a : Nat), l.length ≤ a + k → (M.rest l a).length ≤ l.length - a := by
    intro k
    induction k with
    | zero => intro a h; rw [M.rest_end l a (by omega)]; simp
    | succ k ih =>
      intro a h
      by_cases hl : l.length ≤ a
      · rw [M.rest_end l a hl]; simp
      · have hu := M.unit_at (s := l) (a := a) (by omega)
        rw [M.rest_cons l a (by omega), List.length_cons]
        have := ih (a + (M.unit (l.drop a)).1) (by omega)
        omega
  have := key l.length 0 (by omega)
  rw [M.rest_zero] at this
  omega
theorem bad_le (pl : List M.Place) : M.bad pl ≤ pl.length := by unfold M.bad; exact List.length_filter_le _ _
theorem ok_len {l : List UInt8} {pre : List M.Place} {x : M.Place} (h : uOk l pre x) : pre.length < l.length := by
  obtain ⟨t, ht⟩ := h
  have h1 := congrArg List.length ht
  have h2 := places_le l
  simp only [List.length_append, List.length_cons] at h1
  omega

theorem three (w : World) (cs cs1 cs2 : Array Value) (T0 T1 T2 : TypeId) :
    Blk (((w.alloc (.cells cs T0)).alloc (.cells cs1 T1)).alloc (.cells cs2 T2)) w.heap.size T0 cs ∧ Blk (((w.alloc (.cells cs T0)).alloc (.cells cs1 T1)).alloc (.cells cs2 T2)) (w.heap.size + 1) T1 cs1 ∧ Blk (((w.alloc (.cells cs T0)).alloc (.cells cs1 T1)).alloc (.cells cs2 T2)) (w.heap.size + 1 + 1) T2 cs2 ∧
      Below w.heap.size w (((w.alloc (.cells cs T0)).alloc (.cells cs1 T1)).alloc (.cells cs2 T2)) ∧ (((w.alloc (.cells cs T0)).alloc (.cells cs1 T1)).alloc (.cells cs2 T2)).heap.size = w.heap.size + 3 := by
  refine ⟨((Blk.new w _ _).alloc _).alloc _, ?_, ?_, (((Below.refl _ _).alloc (Nat.le_refl _) _).alloc (by simp) _).alloc (by simp; omega) _, by simp⟩
  · have := (Blk.new (w.alloc (.cells cs T0)) T1 cs1).alloc (.cells cs2 T2)
    simpa using this
  · have := Blk.new ((w.alloc (.cells cs T0)).alloc (.cells cs1 T1)) T2 cs2
    simpa using this

set_option maxHeartbeats 2000000 in
theorem bad_any (A : Nat → Addr) (B : Nat) (s : ByteArray) (w : World) (hs : s.size ≤ 16777216) (hE : E A B w) (hB : B ≤ w.heap.size) :
    Calls Tryd.prog 23 #[.string s] w fun e w' => e = .returned (.int .i64 (M.badN s.data.toList)) ∧ Below w.heap.size w w' := by
  have HE := Box.mk hE
  have HSZ := Box.mk (size_eq s)
  clear hE
  refine (callsIn_wide (n := 9)).1 (callsIn_of_wp_marks Tryd.func23 rfl trivial (wpIn_wide.2 ?_))
  simp only [Tryd.ntmps23, List.size_toArray, List.length_cons, List.length_nil, Nat.reduceAdd, Nat.reduceSub, Array.replicate_succ, Array.replicate_zero, List.push_toArray, List.append_toArray, List.nil_append, List.cons_append]
  go_wp2_with (go_at_call 33; refine (unitsM_any _ _).mono ?_; rintro e w' ⟨rfl, rfl⟩)
  obtain ⟨hb0, hb1, hb2, hbL, hsz⟩ := three w #[.int .i64 0] #[.string s] #[.pointer (some ⟨w.heap.size + 1, 0, none⟩)] 3 58 56
  generalize ((w.alloc (.cells #[.int .i64 0] 3)).alloc (.cells #[.string s] 58)).alloc (.cells #[.pointer (some ⟨w.heap.size + 1, 0, none⟩)] 56) = wL at hb0 hb1 hb2 hbL hsz ⊢
  have hEL : E A B wL := HE.out.below (hbL.mono hB)
  refine (wpIn_wide (n := 9)).1 (range_law2 (α := M.Place) (gf := 42) (lb := #[.pointer (some ⟨w.heap.size + 1 + 1, 0, none⟩)]) rfl (enters_of Tryd.func42 (by kernel_rfl) rfl)
    (encs := uEnc) (own := fun _ => False) (keep := fun k => k = w.heap.size + 1 ∨ k = w.heap.size + 1 + 1 ∨ k < B) (ok := uOk s.data.toList) (S := fun xs _ => xs = M.places s.data.toList)
    (fun k hk => by rcases hk with h | h; exact h.elim; omega)
    (fun W1 ht => units1_iter 7 A B (w.heap.size + 1) (w.heap.size + 1 + 1) s hs _ W1 (hEL.below (ht.below (by omega) (fun _ h => h.elim))) (by omega) (ht.blk hb1 (fun h => h)) (ht.blk hb2 (fun h => h)))
    (fun _ => rfl)
    (fun pre W => Blk W w.heap.size 3 #[.int .i64 (M.bad pre)] ∧ Below w.heap.size w W)
    (fun _ _ _ => False) ?hI (fun _ _ _ _ h _ => h) ⟨hb0, hbL⟩
    (fun x a1 W => ∃ ub, wL.heap.size + 2 ≤ ub ∧ Blk W ub 44 #[.int .i64 (x.2.1 : Int), .bool x.2.2] ∧ a1 = { tmps := #[.string s, undef, .int .i64 0, .pointer (some ⟨w.heap.size, 0, none⟩), undef, .pointer (some ⟨ub, 0, none⟩), .string s, .agg #[.string s], .agg #[.string s], .pointer (some ⟨w.heap.size + 1, 0, none⟩), .func (.func 42) #[] #[.pointer (some ⟨w.heap.size + 1 + 1, 0, none⟩)], .int .i64 (x.1 : Int), .agg #[.int .i64 (x.2.1 : Int), .bool x.2.2], undef, undef, undef, undef, undef, undef], defers := [] })
    ?hAx ?assign ?body ?done (fun _ _ _ _ h _ => h.elim) (fun _ _ _ h _ => h))
  case hI =>
    rintro pre W W' ⟨h1, h2⟩ ht
    exact ⟨ht.blk h1 (by rintro (h | h); exact h; omega), h2.trans (ht.below h2.size (fun k hk => by rcases hk with h | h; exact h.elim; omega))⟩
  case hAx =>
    rintro x a1 W W' ⟨ub, h1, h2, h3⟩ ht
    exact ⟨ub, h1, ht.blk h2 (by omega), h3⟩
  case assign =>
    intro x W K hW hK
    unfold uEnc
    gi_wp2
    exact hK _ _ (Turns.alloc _ _) ⟨W.heap.size, hW, Blk.new _ _ _, rfl⟩
  case body =>
    rintro pre x a1 W0 W N hW0 ⟨h1, h2⟩ ht hN hok ⟨ub, hub, hbx, rfl⟩
    have hlen := ok_len hok
    rw [← HSZ.out] at hlen
    have hbl := bad_le pre
    have h1' := ht.blk h1 (by rintro (h | h); exact h; omega)
    have h2' := h2.trans (ht.below h2.size (fun k hk => by rcases hk with h | h; exact h.elim; omega))
    have x1 : W.cell? ⟨ub, 1, none⟩ = some (.bool x.2.2) := (hbx.cell 1).trans rfl
    have HSN := Box.mk (bad_snoc pre x)
    have H1 := Box.mk h1'
    have H2 := Box.mk h2'
    have hs0 := h2'.size
    have hs1 := ht.size
    have c0 : W.cell? ⟨w.heap.size, 0, none⟩ = some (.int .i64 (M.bad pre)) := (h1'.cell 0).trans rfl
    have f0 := h1'.frozen 0
    obtain ⟨xa, xm, xo⟩ := x
    clear h1 h2 h1' h2' hbx hb0 hb1 hb2 hbL hEL hok ht
    cases xo with
    | true =>
      gi_wp2
      exact ⟨Holds.refl _ _, by rw [HSN.out]; exact H1.out, H2.out⟩
    | false =>
      gi_wp2
      have hT : Turns (fun k => k = w.heap.size) W (W.setCell ⟨w.heap.size, 0, none⟩ (.int .i64 ((M.bad pre : Int) + 1))) := Turns.setCell (own := fun k => k = w.heap.size) W (p := ⟨w.heap.size, 0, none⟩) rfl _
      refine ⟨Holds.of_turns hT (fun k hk => by omega) (fun k hk => by omega), ?_, H2.out.trans (hT.below hs0 (fun k hk => by omega))⟩
      have := H1.out.set_ 0 (.int .i64 ((M.bad pre : Int) + 1))
      rw [HSN.out]
      exact this
  case done =>
    intro xs W hW hS ⟨h1, h2⟩ hD
    have c0 : W.cell? ⟨w.heap.size, 0, none⟩ = some (.int .i64 (M.bad xs)) := (h1.cell 0).trans rfl
    have H2 := Box.mk h2
    have HD := Box.mk hD
    have hwl := hsz
    have HV := Box.mk (show M.bad xs = M.badN s.data.toList by rw [hS]; rfl)
    clear h1 h2 hD hb0 hb1 hb2 hbL hEL hS hsz
    go_wp2_with fail
    refine ⟨by simp, .inl ⟨_, _, rfl, run_takeDeferred HD.out, ?_⟩⟩
    refine ⟨_, results_tmp rfl _ _ _, ?_⟩
    exact ⟨by rw [← HV.out]; rfl, H2.out.trans ((Turns.putObj (own := fun k => k = wL.heap.size) W rfl _).below H2.out.size (fun k hk => by omega))⟩
end Go.Proofs.YtbagecjkfcoapaaDoor
