/-
  THE WALKS OF package mend: Units.
-/
import Derived.Test.YtbagecjkfcoapaaDoorMnC
import Derived.Test.YtbagecjkfcoapaaDoorInts
import Derived.Maps.OwnIn
namespace Go.Proofs.YtbagecjkfcoapaaDoor
open Go.RowKit Go.Shelf
attribute [local go_sem] Oper.semAt_some

def cutsV (l : List UInt8) : List Int := (M.cuts (M.places l)).map fun n : Nat => (n : Int)
def cutsC (pl : List M.Place) : List Value := (M.cuts pl).map fun n : Nat => Value.int .i64 (n : Int)
theorem cutsC_snoc (pre : List M.Place) (x : M.Place) : cutsC (pre ++ [x]) = cutsC pre ++ [.int .i64 ((x.1 : Int) + (x.2.1 : Int))] := by
  unfold cutsC M.cuts
  simp

theorem list_any (b : Nat) (w : World) :
    Calls Tryd.prog 32 #[.slice (some ⟨b, 0, none⟩) 1 1] w fun e w' => e = .returned (.slice (some ⟨b, 0, none⟩) 1 1) ∧ w = w' := by
  go_enter Tryd.func32, Tryd.ntmps32
  go_wp2
  go_ret
  exact ⟨rfl, rfl⟩

set_option maxHeartbeats 2000000 in
theorem units_any (A : Nat → Addr) (B : Nat) (s : ByteArray) (w : World) (hs : s.size ≤ 16777216) (hE : E A B w) (hB : B ≤ w.heap.size) :
    Calls Tryd.prog 19 #[.string s] w fun e w' => (∃ v, e = .returned v ∧ IntsAt w' v (cutsV s.data.toList)) ∧ Below w.heap.size w w' := by
  have HE := Box.mk hE
  have HSZ := Box.mk (size_eq s)
  clear hE
  refine (callsIn_wide (n := 9)).1 (callsIn_of_wp_marks Tryd.func19 rfl trivial (wpIn_wide.2 ?_))
  simp only [Tryd.ntmps19, List.size_toArray, List.length_cons, List.length_nil, Nat.reduceAdd, Nat.reduceSub, Array.replicate_succ, Array.replicate_zero, List.push_toArray, List.append_toArray, List.nil_append, List.cons_append]
  go_wp2_with (first | (go_at_call 32; refine (list_any _ _).mono ?_; rintro e w' ⟨rfl, rfl⟩) | (go_at_call 33; refine (unitsM_any _ _).mono ?_; rintro e w' ⟨rfl, rfl⟩))
  obtain ⟨hb0, hb1, hb2, hbL, hsz⟩ := three (w.alloc (.cells #[.int .i64 0] 3)) #[.slice (some ⟨w.heap.size, 0, none⟩) 1 1] #[.string s] #[.pointer (some ⟨w.heap.size + 1 + 1, 0, none⟩)] 31 58 56
  have hr0 := ((((World.ownsRow_lit (base := w.heap.size) (e := 3) (size := 1) w #[.int .i64 0] 1 (Nat.le_refl _) (by unfold maxLen; omega) rfl).alloc (.cells #[.slice (some ⟨w.heap.size, 0, none⟩) 1 1] 31)).alloc (.cells #[.string s] 58)).alloc (.cells #[.pointer (some ⟨w.heap.size + 1 + 1, 0, none⟩)] 56))
  have hbL := (alloc_below w (.cells #[.int .i64 0] 3)).trans (hbL.mono (alloc_below w _).size)
  rw [show (w.alloc (.cells #[.int .i64 0] 3)).heap.size = w.heap.size + 1 from by simp] at hb0 hb1 hb2 hsz
  generalize (((w.alloc (.cells #[.int .i64 0] 3)).alloc (.cells #[.slice (some ⟨w.heap.size, 0, none⟩) 1 1] 31)).alloc (.cells #[.string s] 58)).alloc (.cells #[.pointer (some ⟨w.heap.size + 1 + 1, 0, none⟩)] 56) = wL at hb0 hb1 hb2 hbL hsz hr0 ⊢
  have hEL : E A B wL := HE.out.below (hbL.mono hB)
  refine (wpIn_wide (n := 9)).1 (range_law2 (α := M.Place) (gf := 42) (lb := #[.pointer (some ⟨w.heap.size + 1 + 1 + 1, 0, none⟩)]) rfl (enters_of Tryd.func42 (by kernel_rfl) rfl)
    (encs := uEnc) (own := fun _ => False) (keep := fun k => k = w.heap.size + 1 + 1 ∨ k = w.heap.size + 1 + 1 + 1 ∨ k < B) (ok := uOk s.data.toList) (S := fun xs _ => xs = M.places s.data.toList)
    (fun k hk => by rcases hk with h | h; exact h.elim; omega)
    (fun W1 ht => units1_iter 7 A B (w.heap.size + 1 + 1) (w.heap.size + 1 + 1 + 1) s hs _ W1 (hEL.below (ht.below (by omega) (fun _ h => h.elim))) (by omega) (ht.blk hb1 (fun h => h)) (ht.blk hb2 (fun h => h)))
    (fun _ => rfl)
    (fun pre W => (∃ v, Blk W (w.heap.size + 1) 31 #[v] ∧ W.ownsRow w.heap.size 3 1 v (pre.length + 1) (cutsC pre) ∧ ∀ g, v.ownBlock = some g → g = w.heap.size ∨ wL.heap.size + 2 ≤ g) ∧ Below w.heap.size w W)
    (fun _ _ _ => False) ?hI (fun _ _ _ _ h _ => h) ⟨⟨_, hb0, hr0, fun g hg => by cases hg; exact .inl rfl⟩, hbL⟩
    (fun x a1 W => ∃ ub, wL.heap.size + 2 ≤ ub ∧ Blk W ub 44 #[.int .i64 (x.2.1 : Int), .bool x.2.2] ∧ a1 = { tmps := #[.string s, undef, .slice none 0 0, .pointer (some ⟨w.heap.size + 1, 0, none⟩), .int .i64 (x.1 : Int), .pointer (some ⟨ub, 0, none⟩), .slice (some ⟨w.heap.size, 0, none⟩) 1 1, .slice (some ⟨w.heap.size, 0, none⟩) 1 1, .string s, .agg #[.string s], .agg #[.string s], .pointer (some ⟨w.heap.size + 1 + 1, 0, none⟩), .func (.func 42) #[] #[.pointer (some ⟨w.heap.size + 1 + 1 + 1, 0, none⟩)], .int .i64 (x.1 : Int), .agg #[.int .i64 (x.2.1 : Int), .bool x.2.2], undef, undef, undef, undef, undef, undef, undef, undef], defers := [] })
    ?hAx ?assign ?body ?done (fun _ _ _ _ h _ => h.elim) (fun _ _ _ h _ => h))
  case hI =>
    rintro pre W W' ⟨⟨v, h1, h2, h3⟩, h4⟩ ht
    exact ⟨⟨v, ht.blk h1 (by rintro (h | h); exact h; omega), ht.row h2 (fun k hk => by rcases h3 k hk with h | h <;> (rintro (h' | h'); exact h'; omega)), h3⟩, h4.trans (ht.below h4.size (fun k hk => by rcases hk with h | h; exact h.elim; omega))⟩
  case hAx =>
    rintro x a1 W W' ⟨ub, h1, h2, h3⟩ ht
    exact ⟨ub, h1, ht.blk h2 (by omega), h3⟩
  case assign =>
    intro x W K hW hK
    unfold uEnc
    gi_wp2
    exact hK _ _ (Turns.alloc _ _) ⟨W.heap.size, hW, Blk.new _ _ _, rfl⟩
  case body =>
    rintro pre x a1 W0 W N hW0 ⟨⟨v, h1, h2, h3⟩, h4⟩ ht hN hok ⟨ub, hub, hbx, rfl⟩
    have hlen := ok_len hok
    rw [← HSZ.out] at hlen
    have hxs : x.1 + x.2.1 ≤ 16777216 := by
      obtain ⟨t, hp⟩ := hok
      have hm : x ∈ M.rest s.data.toList 0 := by rw [M.rest_zero, ← hp]; simp
      have := (M.rest_mem s.data.toList 0 x hm).2.2.2.1
      rw [← HSZ.out] at this
      omega
    have hlt := h2.lt
    have hs0 := h4.size
    have hs1 := ht.size
    have hv1 := ht.blk h1 (by rintro (h | h); exact h; omega)
    have hv2 := ht.row h2 (fun k hk => by rcases h3 k hk with h | h <;> (rintro (h' | h'); exact h'; have := (hlt k hk).2; omega))
    have h4' := h4.trans (ht.below h4.size (fun k hk => by rcases hk with h | h; exact h.elim; omega))
    have x0 : W.cell? ⟨ub, 0, none⟩ = some (.int .i64 (x.2.1 : Int)) := (hbx.cell 0).trans rfl
    have hc : W.cell? ⟨w.heap.size + 1, 0, none⟩ = some v := (hv1.cell 0).trans rfl
    have hf := hv1.frozen 0
    have HV := Box.mk hv1
    have HL := Box.mk hlt
    have H3 := Box.mk h3
    have H4 := Box.mk h4'
    have HR := Box.mk hv2
    have HSN := Box.mk (cutsC_snoc pre x)
    obtain ⟨i0, hi, hz0, hz1, hz2⟩ := info_parts int_info
    have HNB := Box.mk (show v.ownBlock ≠ some (w.heap.size + 1) from fun e => by rcases h3 _ e with h | h <;> omega)
    obtain ⟨xa, xm, xo⟩ := x
    have hxa : xa ≤ 16777216 := Nat.le_trans (Nat.le_add_right _ _) hxs
    have hxm : xm ≤ 16777216 := Nat.le_trans (Nat.le_add_left _ _) hxs
    clear hxs
    obtain ⟨og, oc, rfl⟩ := ownsRow_succ hv2
    clear h1 h2 h3 h4 hv1 hv2 h4' hbx hb0 hb1 hb2 hbL hEL hok ht hr0 hlt
    gi_wp2_with (gi_at_builtin; refine wpListIn_append_own_at _ rfl _ _ 31 rfl w.heap.size 3 i0 (.int .i64 0) 1 8 Tryd.underlying31 hi hz0 hz1 hz2 rfl (by decide) (.slice (some ⟨og, 0, none⟩) (pre.length + 1) oc) _ _ rfl (HR.out.alloc _) ⟨W.heap.size, 0, none⟩ 1 1 [.int .i64 ((xa : Int) + (xm : Int))] rfl rfl (cell_one_new _ _ _) (by simp [Value.oneCell']) (by unfold maxLen; omega) (by omega) (by simp; omega) ?_; intro v' w1 hown' hgrow _ hat; obtain ⟨g', cap', rfl⟩ := ownsRow_succ hown'; have hv1 := (HV.out.alloc _).grown hgrow (Ne.symm HNB.out); have hc1 := hv1.cell 0; have hf1 := hv1.frozen 0; simp at hc1)
    have hg' : g' = og ∨ g' = W.heap.size + 1 := by
      rcases hat with h | h
      · left; simpa [Value.ownBlock] using h
      · right; simpa [Value.ownBlock] using h
    have hwsz : wL.heap.size = w.heap.size + 1 + 3 := hsz
    have hog := H3.out og rfl
    have hogl := (HL.out og rfl).2
    have hT : Turns (fun k => k = og ∨ k = w.heap.size + 1) W (w1.setCell ⟨w.heap.size + 1, 0, none⟩ (.slice (some ⟨g', 0, none⟩) (pre.length + 1 + 1) cap')) :=
      ((Turns.alloc W _).trans (Turns.of_grown hgrow (fun k hk => .inl (by simpa [Value.ownBlock] using hk.symm)))).trans (Turns.setCell _ (.inr rfl) _)
    refine ⟨Holds.of_turns hT (fun k hk => by omega) (fun k hk h => by omega), ⟨_, hv1.set_ 0 _, ?_, fun g hg => ?_⟩, H4.out.trans (hT.below H4.out.size (fun k hk => by omega))⟩
    · rw [HSN.out]
      have := (Turns.setCell (own := fun k => k = w.heap.size + 1) w1 (p := ⟨w.heap.size + 1, 0, none⟩) rfl (.slice (some ⟨g', 0, none⟩) (pre.length + 1 + 1) cap')).row hown' (fun k hk => by simp [Value.ownBlock] at hk; omega)
      simpa using this
    · have : g = g' := by simpa [Value.ownBlock] using hg.symm
      omega
  case done =>
    intro xs W hW hS ⟨⟨v, h1, h2, h3⟩, h4⟩ hD
    have c0 : W.cell? ⟨w.heap.size + 1, 0, none⟩ = some v := (h1.cell 0).trans rfl
    have H2 := Box.mk h4
    have HD := Box.mk hD
    have HR := Box.mk h2
    have HS := Box.mk hS
    have H3 := Box.mk h3
    clear h1 h2 h3 h4 hD hb0 hb1 hb2 hbL hEL hS hr0
    go_wp2_with fail
    refine ⟨by simp, .inl ⟨_, _, rfl, run_takeDeferred HD.out, ?_⟩⟩
    refine ⟨_, results_tmp rfl _ _ _, ?_⟩
    have hr := (Turns.putObj (own := fun k => k = wL.heap.size) W rfl (.deferred none)).row HR.out (fun k hk => by rcases H3.out k hk with h | h <;> omega)
    refine ⟨⟨v, rfl, IntsAt.of_own (n := xs.length + 1) (T := 3) (base := w.heap.size) ?_ ?_⟩, H2.out.trans ((Turns.putObj (own := fun k => k = wL.heap.size) W rfl _).below H2.out.size (fun k hk => by omega))⟩
    · rw [HS.out] at hr ⊢
      unfold cutsV
      rw [List.map_map]
      exact hr
    · rw [HS.out]; simp [cutsV, M.cuts]
end Go.Proofs.YtbagecjkfcoapaaDoor
