/-
  THE WALKS OF package mend: steps, Next, Back.
-/
import Derived.Test.YtbagecjkfcoapaaDoorMnE
import Derived.Test.YtbagecjkfcoapaaDoorMnF
namespace Go.Proofs.YtbagecjkfcoapaaDoor
open Go.RowKit Go.Shelf
attribute [local go_sem] Oper.semAt_some

theorem places_order (s : List UInt8) : ∀ a, ∀ (pre : List M.Place) (x : M.Place) (t : List M.Place), M.rest s a = pre ++ x :: t → ∀ y ∈ pre, y.1 + y.2.1 ≤ x.1 ∧ 1 ≤ y.2.1 ∧ y.2.1 ≤ 4 := by
  refine M.rest_ind (s := s) (fun a h pre x t he => ?_) (fun a h ih pre x t he y hy => ?_)
  · rw [M.rest_end s a h] at he; simp at he
  · have hu := M.unit_at h
    rw [M.rest_cons s a h] at he
    cases pre with
    | nil => exact absurd hy List.not_mem_nil
    | cons z pre =>
      simp only [List.cons_append, List.cons.injEq] at he
      obtain ⟨rfl, he⟩ := he
      have hx := M.rest_mem s _ x (by rw [he]; simp)
      rcases List.mem_cons.1 hy with rfl | hy
      · exact ⟨hx.1, hu.1, hu.2.1⟩
      · exact ih pre x t he y hy
theorem ok_order {l : List UInt8} {pre : List M.Place} {x : M.Place} (h : uOk l pre x) : ∀ y ∈ pre, y.1 + y.2.1 ≤ x.1 ∧ 1 ≤ y.2.1 ∧ y.2.1 ≤ 4 := by
  obtain ⟨t, ht⟩ := h
  exact places_order l 0 pre x t (by rw [M.rest_zero]; exact ht.symm)
def lenO : Option M.Place → Nat
  | none => 0
  | some x => x.2.1
def cv (pl : List M.Place) (q : Int) : Value := .complex .f64 (fN (lenO (M.fwd pl q))) (fN (lenO (M.bwd pl q)))
theorem fwd_snoc (pre : List M.Place) (x : M.Place) (q : Int) : M.fwd (pre ++ [x]) q = (M.fwd pre q).or (if q = x.1 then some x else none) := by
  unfold M.fwd
  rw [List.find?_append]
  by_cases h : q = x.1
  · subst h; simp [List.find?]
  · have : ((x.1 : Int) == q) = false := by simp; exact fun e => h e.symm
    simp [List.find?, this, h]
theorem bwd_snoc (pre : List M.Place) (x : M.Place) (q : Int) : M.bwd (pre ++ [x]) q = (M.bwd pre q).or (if q = (x.1 : Int) + (x.2.1 : Int) then some x else none) := by
  unfold M.bwd
  rw [List.find?_append]
  by_cases h : q = (x.1 : Int) + (x.2.1 : Int)
  · subst h; simp [List.find?]
  · have : (((x.1 : Int) + (x.2.1 : Int)) == q) = false := by simp; exact fun e => h e.symm
    simp [List.find?, this, h]
theorem fwd_late {pre : List M.Place} {x : M.Place} (ho : ∀ y ∈ pre, y.1 + y.2.1 ≤ x.1 ∧ 1 ≤ y.2.1 ∧ y.2.1 ≤ 4) (q : Int) (hq : (x.1 : Int) ≤ q) : M.fwd pre q = none := by
  unfold M.fwd
  rw [List.find?_eq_none]
  intro y hy
  have := ho y hy
  simp; omega
theorem bwd_late {pre : List M.Place} {x : M.Place} (ho : ∀ y ∈ pre, y.1 + y.2.1 ≤ x.1 ∧ 1 ≤ y.2.1 ∧ y.2.1 ≤ 4) (q : Int) (hq : (x.1 : Int) < q) : M.bwd pre q = none := by
  unfold M.bwd
  rw [List.find?_eq_none]
  intro y hy
  have := ho y hy
  simp; omega
theorem bwd_len {pre : List M.Place} (ho : ∀ y ∈ pre, y.2.1 ≤ 4) (q : Int) : lenO (M.bwd pre q) < 5 := by
  cases h : M.bwd pre q with
  | none => simp [lenO]
  | some x => have := ho x (M.bwd_some h).1; simp only [lenO]; omega
theorem cv_snoc {pre : List M.Place} {x : M.Place} (ho : ∀ y ∈ pre, y.1 + y.2.1 ≤ x.1 ∧ 1 ≤ y.2.1 ∧ y.2.1 ≤ 4) (hx : 1 ≤ x.2.1) (q : Int) :
    cv (pre ++ [x]) q = if q = (x.1 : Int) + (x.2.1 : Int) then .complex .f64 0 (fN x.2.1) else if q = x.1 then .complex .f64 (fN x.2.1) (fN (lenO (M.bwd pre x.1))) else cv pre q := by
  unfold cv
  rw [fwd_snoc, bwd_snoc]
  by_cases h : q = (x.1 : Int) + (x.2.1 : Int)
  · rw [if_pos h, if_pos h, fwd_late ho q (by omega), bwd_late ho q (by omega), if_neg (by omega)]
    simp [lenO, fN_zero]
  · rw [if_neg h, if_neg h]
    by_cases h' : q = x.1
    · subst h'
      rw [fwd_late ho _ (by omega), if_pos rfl, if_pos rfl]
      simp [lenO]
    · rw [if_neg h', if_neg h']
      simp

/-- the map that has come so far -/
def Mp (mb : Nat) (pre : List M.Place) (W : World) : Prop := ∃ es clk, W.heap[mb]? = some (.map es clk) ∧ IntKeys es ∧ ∀ q, (mget es q).getD (.complex .f64 0 0) = cv pre q
theorem zero_c (W : World) : (zeroValue 40).run Tryd.prog W = .ok (.complex .f64 0 0) W := by
  kernel_rfl

set_option maxHeartbeats 2000000 in
theorem steps_any (A : Nat → Addr) (B : Nat) (s : ByteArray) (w : World) (hs : s.size ≤ 100000) (hE : E A B w) (hB : B ≤ w.heap.size) :
    Calls Tryd.prog 28 #[.string s] w fun e w' => (∃ mb, e = .returned (.map (some mb)) ∧ Mp mb (M.places s.data.toList) w') ∧ Below w.heap.size w w' := by
  have hmm := @run_makeMap Tryd.prog
  have HE := Box.mk hE
  have HSZ := Box.mk (size_eq s)
  clear hE
  refine (callsIn_wide (n := 9)).1 (callsIn_of_wp_marks Tryd.func28 rfl trivial (wpIn_wide.2 ?_))
  simp only [Tryd.ntmps28, List.size_toArray, List.length_cons, List.length_nil, Nat.reduceAdd, Nat.reduceSub, Array.replicate_succ, Array.replicate_zero, List.push_toArray, List.append_toArray, List.nil_append, List.cons_append]
  go_wp2_with (go_at_call 33; refine (unitsM_any _ _).mono ?_; rintro e w' ⟨rfl, rfl⟩)
  obtain ⟨hb0, hb1, hb2, hbL, hsz⟩ := three (w.alloc (.map #[] 0)) #[.map (some w.heap.size)] #[.string s] #[.pointer (some ⟨w.heap.size + 1 + 1, 0, none⟩)] 41 58 56
  have hM0 : (((((w.alloc (.map #[] 0)).alloc (.cells #[.map (some w.heap.size)] 41)).alloc (.cells #[.string s] 58)).alloc (.cells #[.pointer (some ⟨w.heap.size + 1 + 1, 0, none⟩)] 56))).heap[w.heap.size]? = some (.map #[] 0) := by
    refine (Below.heap_alloc _ _ _ (by simp; omega)).trans ((Below.heap_alloc _ _ _ (by simp; omega)).trans ((Below.heap_alloc _ _ _ (by simp)).trans (World.alloc_heap_new w _)))
  have hbL := (alloc_below w (.map #[] 0)).trans (hbL.mono (alloc_below w _).size)
  rw [show (w.alloc (.map #[] 0)).heap.size = w.heap.size + 1 from by simp] at hb0 hb1 hb2 hsz
  generalize (((w.alloc (.map #[] 0)).alloc (.cells #[.map (some w.heap.size)] 41)).alloc (.cells #[.string s] 58)).alloc (.cells #[.pointer (some ⟨w.heap.size + 1 + 1, 0, none⟩)] 56) = wL at hb0 hb1 hb2 hbL hsz hM0 ⊢
  have hEL : E A B wL := HE.out.below (hbL.mono hB)
  clear hmm
  refine (wpIn_wide (n := 9)).1 (range_law2 (α := M.Place) (gf := 42) (lb := #[.pointer (some ⟨w.heap.size + 1 + 1 + 1, 0, none⟩)]) rfl (enters_of Tryd.func42 (by kernel_rfl) rfl)
    (encs := uEnc) (own := fun _ => False) (keep := fun k => k = w.heap.size + 1 + 1 ∨ k = w.heap.size + 1 + 1 + 1 ∨ k < B) (ok := uOk s.data.toList) (S := fun xs _ => xs = M.places s.data.toList)
    (fun k hk => by rcases hk with h | h; exact h.elim; omega)
    (fun W1 ht => units1_iter 7 A B (w.heap.size + 1 + 1) (w.heap.size + 1 + 1 + 1) s (by omega) _ W1 (hEL.below (ht.below (by omega) (fun _ h => h.elim))) (by omega) (ht.blk hb1 (fun h => h)) (ht.blk hb2 (fun h => h)))
    (fun _ => rfl)
    (fun pre W => Mp w.heap.size pre W ∧ Blk W (w.heap.size + 1) 41 #[.map (some w.heap.size)] ∧ Below w.heap.size w W)
    (fun _ _ _ => False) ?hI (fun _ _ _ _ h _ => h) ⟨⟨#[], 0, hM0, fun x hx => by simp at hx, fun q => by simp [mget, Instr.findNow, cv, M.fwd, M.bwd, lenO, fN_zero]⟩, hb0, hbL⟩
    (fun x a1 W => ∃ ub, wL.heap.size + 2 ≤ ub ∧ Blk W ub 44 #[.int .i64 (x.2.1 : Int), .bool x.2.2] ∧ a1 = { tmps := #[.string s, undef, .map none, .pointer (some ⟨w.heap.size + 1, 0, none⟩), .int .i64 (x.1 : Int), .pointer (some ⟨ub, 0, none⟩), undef, .map (some w.heap.size), .string s, .agg #[.string s], .agg #[.string s], .pointer (some ⟨w.heap.size + 1 + 1, 0, none⟩), .func (.func 42) #[] #[.pointer (some ⟨w.heap.size + 1 + 1 + 1, 0, none⟩)], .int .i64 (x.1 : Int), .agg #[.int .i64 (x.2.1 : Int), .bool x.2.2], undef, undef, undef, undef, undef, undef, undef, undef, undef, undef, undef, undef, undef, undef, undef, undef, undef, undef, undef], defers := [] })
    ?hAx ?assign ?body ?done (fun _ _ _ _ h _ => h.elim) (fun _ _ _ h _ => h))
  case hI =>
    rintro pre W W' ⟨⟨es, clk, h1, h2, h3⟩, h4, h5⟩ ht
    have := (Array.getElem?_eq_some_iff.1 h1).1
    exact ⟨⟨es, clk, (ht.block w.heap.size this (by rintro (h | h); exact h; omega)).trans h1, h2, h3⟩, ht.blk h4 (by rintro (h | h); exact h; omega), h5.trans (ht.below h5.size (fun k hk => by rcases hk with h | h; exact h.elim; omega))⟩
  case hAx =>
    rintro x a1 W W' ⟨ub, h1, h2, h3⟩ ht
    exact ⟨ub, h1, ht.blk h2 (by omega), h3⟩
  case assign =>
    intro x W K hW hK
    unfold uEnc
    gi_wp2
    exact hK _ _ (Turns.alloc _ _) ⟨W.heap.size, hW, Blk.new _ _ _, rfl⟩
  case body =>
    rintro pre x a1 W0 W N hW0 ⟨⟨es, clk, h1, h2, h3⟩, h4, h5⟩ ht hN hok ⟨ub, hub, hbx, rfl⟩
    have hord := ok_order hok
    obtain ⟨hm1, hm2, hm3⟩ := ok_mem hok
    rw [← HSZ.out] at hm3
    have hx1 : 1 ≤ x.2.1 := by
      obtain ⟨t, hp⟩ := hok
      exact (M.rest_mem s.data.toList 0 x (by rw [M.rest_zero, ← hp]; simp)).2.2.2.2.1
    have hmlt := (Array.getElem?_eq_some_iff.1 h1).1
    have h1' := (ht.block w.heap.size hmlt (by rintro (h | h); exact h; omega)).trans h1
    have h4' := ht.blk h4 (by rintro (h | h); exact h; omega)
    have h5' := h5.trans (ht.below h5.size (fun k hk => by rcases hk with h | h; exact h.elim; omega))
    have hs0 := h5'.size
    have hs1 := ht.size
    have hbl := bwd_len hm1 x.1
    have hl1 := map_get Tryd.underlying41 Tryd.underlying3 W es clk (x.1 : Int) w.heap.size h1' h2 (.complex .f64 0 0) (zero_c W)
    rw [h3] at hl1
    unfold cv at hl1
    rw [fwd_late hord _ (Int.le_refl _)] at hl1
    have hf := fN_facts x.2.1 (by omega) (lenO (M.bwd pre x.1)) hbl
    have hcs := hf.1
    have hcs2 := hf.2
    obtain ⟨es1, clk1, hu1, hi1, hg1⟩ := map_put Tryd.underlying41 Tryd.underlying3 W es clk (x.1 : Int) (.complex .f64 (fN x.2.1) (fN (lenO (M.bwd pre x.1)))) w.heap.size h1' h2
    obtain ⟨W1, hW1⟩ : ∃ W1, W.putObj w.heap.size (.map es1 clk1) = W1 := ⟨_, rfl⟩
    have h11 : W1.heap[w.heap.size]? = some (.map es1 clk1) := by rw [← hW1]; exact World.putObj_heap_same (Array.getElem?_eq_some_iff.1 h1').1
    have hl2 := map_get Tryd.underlying41 Tryd.underlying3 W1 es1 clk1 ((x.1 : Int) + (x.2.1 : Int)) w.heap.size h11 hi1 (.complex .f64 0 0) (zero_c W1)
    rw [hg1, if_neg (by omega), h3] at hl2
    unfold cv at hl2
    rw [fwd_late hord _ (by omega), bwd_late hord _ (by omega)] at hl2
    obtain ⟨es2, clk2, hu2, hi2, hg2⟩ := map_put Tryd.underlying41 Tryd.underlying3 W1 es1 clk1 ((x.1 : Int) + (x.2.1 : Int)) (.complex .f64 0 (fN x.2.1)) w.heap.size h11 hi1
    have hT1 : Turns (fun k => k = w.heap.size) W W1 := by rw [← hW1]; exact Turns.putObj W (by rfl) _
    rw [hW1] at hu1
    have HT2 := Box.mk (hT1.trans (Turns.putObj (own := fun k => k = w.heap.size) W1 (l := w.heap.size) rfl (.map es2 clk2)))
    have hs1' := fun W : World => run_complex_sum (P := Tryd.prog) W .add (.inl rfl) 40 .f64 _ _ _ _ _ _ hcs
    have hs2' := fun W : World => run_complex_sum (P := Tryd.prog) W .add (.inl rfl) 40 .f64 _ _ _ _ _ _ hcs2
    have HMP := Box.mk (show Mp w.heap.size (pre ++ [x]) (W1.putObj w.heap.size (.map es2 clk2)) from ⟨es2, clk2, World.putObj_heap_same (Array.getElem?_eq_some_iff.1 h11).1, hi2, fun q => by
      rw [cv_snoc hord hx1, hg2, hg1, ← h3]
      split
      · rfl
      · split <;> rfl⟩)
    have x0 : W.cell? ⟨ub, 0, none⟩ = some (.int .i64 (x.2.1 : Int)) := (hbx.cell 0).trans rfl
    have y0 : W.cell? ⟨w.heap.size + 1, 0, none⟩ = some (.map (some w.heap.size)) := (h4'.cell 0).trans rfl
    have hbx1 := hT1.blk hbx (by omega)
    have h41 := hT1.blk h4' (by omega)
    have x01 : W1.cell? ⟨ub, 0, none⟩ = some (.int .i64 (x.2.1 : Int)) := (hbx1.cell 0).trans rfl
    have y01 : W1.cell? ⟨w.heap.size + 1, 0, none⟩ = some (.map (some w.heap.size)) := (h41.cell 0).trans rfl
    have H4 := Box.mk h4'
    have H5 := Box.mk h5'
    obtain ⟨xa, xm, xo⟩ := x
    have hxa : xa ≤ 100000 := by have h : xa + xm ≤ s.size := hm3; omega
    have hxm : xm ≤ 4 := hm2
    simp only at hl1 hu1 hl2 hu2 hs1' hs2'
    have hfn : floatOfInt .f64 (xm : Int) = fN xm := rfl
    generalize lenO (M.bwd pre (xa : Int)) = bl at hl1 hu1 hs1'
    simp only [lenO, fN_zero] at hl1 hl2 hs1' hs2'
    generalize fN xm = fm at *
    generalize fN bl = fb at hl1 hu1 hs1'
    clear h1 h2 h3 h4 h5 h1' h4' h5' hbx hb0 hb1 hb2 hbL hEL hok ht hM0 hord hm1 hm2 hm3 hx1 hbl hf hcs hcs2 hi1 hg1 hi2 hg2 hbx1 h41 hT1 h11 hW1
    gi_wp2
    refine ⟨Holds.of_turns HT2.out (fun k hk => by omega) (fun k hk => by omega), HMP.out, HT2.out.blk H4.out (by omega), H5.out.trans (HT2.out.below hs0 (fun k hk => by omega))⟩
  case done =>
    intro xs W hW hS ⟨h1, h2, h3⟩ hD
    have c0 : W.cell? ⟨w.heap.size + 1, 0, none⟩ = some (.map (some w.heap.size)) := (h2.cell 0).trans rfl
    have H1 := Box.mk h1
    have H2 := Box.mk h3
    have HD := Box.mk hD
    have hwl := hsz
    have HV := Box.mk hS
    clear h1 h2 h3 hD hb0 hb1 hb2 hbL hEL hS hsz hM0
    go_wp2_with fail
    refine ⟨by simp, .inl ⟨_, _, rfl, run_takeDeferred HD.out, ?_⟩⟩
    refine ⟨_, results_tmp rfl _ _ _, ?_⟩
    obtain ⟨es, clk, k1, k2, k3⟩ := H1.out
    refine ⟨⟨w.heap.size, rfl, es, clk, ((Turns.putObj (own := fun k => k = wL.heap.size) W rfl (.deferred none)).block w.heap.size (Array.getElem?_eq_some_iff.1 k1).1 (by omega)).trans k1, k2, ?_⟩, H2.out.trans ((Turns.putObj (own := fun k => k = wL.heap.size) W rfl _).below H2.out.size (fun k hk => by omega))⟩
    rw [← HV.out]; exact k3
end Go.Proofs.YtbagecjkfcoapaaDoor
