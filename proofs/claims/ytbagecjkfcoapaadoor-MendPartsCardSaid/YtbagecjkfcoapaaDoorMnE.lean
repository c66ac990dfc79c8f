/-
  THE WALKS OF package mend: Repair.
-/
import Derived.Test.YtbagecjkfcoapaaDoorMnC
import Derived.Test.YtbagecjkfcoapaaDoorBuild2
namespace Go.Proofs.YtbagecjkfcoapaaDoor
open Go.RowKit Go.Shelf
attribute [local go_sem] Oper.semAt_some

theorem repair_snoc (l : List UInt8) (pre : List M.Place) (x : M.Place) : M.repair l (pre ++ [x]) = M.repair l pre ++ M.mended l x := by
  unfold M.repair
  rw [List.flatMap_append]
  simp
theorem mended_len (l : List UInt8) (x : M.Place) (h : x.2.1 ≤ 4) : (M.mended l x).length ≤ 4 := by
  unfold M.mended
  split
  · rw [List.length_take]; omega
  · decide
theorem repair_len (l : List UInt8) (pre : List M.Place) (h : ∀ x ∈ pre, x.2.1 ≤ 4) : (M.repair l pre).length ≤ 4 * pre.length := by
  induction pre with
  | nil => simp [M.repair]
  | cons x t ih =>
    have h1 := ih (fun y hy => h y (List.mem_cons_of_mem _ hy))
    have h2 := mended_len l x (h x (List.mem_cons_self ..))
    unfold M.repair at h1 ⊢
    rw [List.flatMap_cons, List.length_append, List.length_cons]
    omega
theorem ok_mem {l : List UInt8} {pre : List M.Place} {x : M.Place} (h : uOk l pre x) : (∀ y ∈ pre, y.2.1 ≤ 4) ∧ x.2.1 ≤ 4 ∧ x.1 + x.2.1 ≤ l.length := by
  obtain ⟨t, ht⟩ := h
  have key : ∀ y ∈ M.places l, y.2.1 ≤ 4 ∧ y.1 + y.2.1 ≤ l.length := by
    intro y hy
    rw [← M.rest_zero] at hy
    have := M.rest_mem l 0 y hy
    exact ⟨this.2.2.2.2.2, this.2.2.2.1⟩
  refine ⟨fun y hy => (key y (by rw [← ht]; simp [hy])).1, (key x (by rw [← ht]; simp)).1, (key x (by rw [← ht]; simp)).2⟩
def mkS : ByteArray := ⟨#[239, 191, 189]⟩
theorem enc_mark : encV 65533 = .tuple #[.string mkS, .int .i64 0] := by
  unfold encV
  rw [if_pos (by decide +kernel), show U.enc 65533 = [239, 191, 189] by decide +kernel]
  rfl

set_option maxHeartbeats 2000000 in
theorem repair_any (A : Nat → Addr) (B : Nat) (s : ByteArray) (w : World) (hs : s.size ≤ 100000) (hE : E A B w) (hB : B ≤ w.heap.size) :
    Calls Tryd.prog 21 #[.string s] w fun e w' => e = .returned (.string ⟨(M.fix s.data.toList).toArray⟩) ∧ Below w.heap.size w w' := by
  have hb00 := alloc_below w (.cells #[.string s] 9)
  have HEN := Box.mk (enc_any A B 65533 _ (hE.below (hb00.mono hB)))
  have HB00 := Box.mk hb00
  have HBKs := Box.mk (Blk.new w 9 #[.string s])
  have HE := Box.mk hE
  have HSZ := Box.mk (size_eq s)
  clear hE hb00
  refine (callsIn_wide (n := 9)).1 (callsIn_of_wp_marks Tryd.func21 rfl trivial (wpIn_wide.2 ?_))
  simp only [Tryd.ntmps21, List.size_toArray, List.length_cons, List.length_nil, Nat.reduceAdd, Nat.reduceSub, Array.replicate_succ, Array.replicate_zero, List.push_toArray, List.append_toArray, List.nil_append, List.cons_append]
  go_wp2_with fail
  refine HEN.out.mono ?_; rintro e w1 ⟨rfl, hb1⟩; rw [enc_mark]
  have HB1 := Box.mk (HB00.out.trans (hb1.mono HB00.out.size))
  have hbs1 := HBKs.out.below hb1 HBKs.out.lt
  have c0 : w1.cell? ⟨w.heap.size, 0, none⟩ = some (.string s) := (hbs1.cell 0).trans rfl
  have l0 := hbs1.lt
  have HBS1 := Box.mk hbs1
  clear hb1 hbs1
  go_wp2_with (go_at_call 33; refine (unitsM_any _ _).mono ?_; rintro e w' ⟨rfl, rfl⟩)
  clear c0
  obtain ⟨hb0, hb1, hb2, hbL, hsz⟩ := three (w1.alloc (.cells #[.string mkS] 9)) #[.pointer none, .slice none 0 0] #[.string s] #[.pointer (some ⟨w1.heap.size + 1 + 1, 0, none⟩)] 65 58 56
  have hmk := (((Blk.new w1 9 #[.string mkS]).alloc (.cells #[.pointer none, .slice none 0 0] 65)).alloc (.cells #[.string s] 58)).alloc (.cells #[.pointer (some ⟨w1.heap.size + 1 + 1, 0, none⟩)] 56)
  have hbL := (alloc_below w1 (.cells #[.string mkS] 9)).trans (hbL.mono (alloc_below w1 _).size)
  rw [show (w1.alloc (.cells #[.string mkS] 9)).heap.size = w1.heap.size + 1 from by simp] at hb0 hb1 hb2 hsz
  generalize (((w1.alloc (.cells #[.string mkS] 9)).alloc (.cells #[.pointer none, .slice none 0 0] 65)).alloc (.cells #[.string s] 58)).alloc (.cells #[.pointer (some ⟨w1.heap.size + 1 + 1, 0, none⟩)] 56) = wL at hb0 hb1 hb2 hbL hsz hmk ⊢
  have hw1 := HB1.out.size
  have hbs := HBS1.out.below hbL HBS1.out.lt
  have hbLw : Below w.heap.size w wL := HB1.out.trans (hbL.mono HB1.out.size)
  have hEL : E A B wL := HE.out.below (hbLw.mono hB)
  have hBu : BuildAt (wL.heap.size + 2) (w1.heap.size + 1) (.slice none 0 0) (M.repair s.data.toList []) wL := ⟨.inl hb0, World.ownsRow_nil _ _ _ _, by simp [Value.ownBlock]⟩
  refine (wpIn_wide (n := 9)).1 (range_law2 (α := M.Place) (gf := 42) (lb := #[.pointer (some ⟨w1.heap.size + 1 + 1 + 1, 0, none⟩)]) rfl (enters_of Tryd.func42 (by kernel_rfl) rfl)
    (encs := uEnc) (own := fun _ => False) (keep := fun k => k = w1.heap.size + 1 + 1 ∨ k = w1.heap.size + 1 + 1 + 1 ∨ k < B) (ok := uOk s.data.toList) (S := fun xs _ => xs = M.places s.data.toList)
    (fun k hk => by rcases hk with h | h; exact h.elim; omega)
    (fun W1 ht => units1_iter 7 A B (w1.heap.size + 1 + 1) (w1.heap.size + 1 + 1 + 1) s (by omega) _ W1 (hEL.below (ht.below (by omega) (fun _ h => h.elim))) (by omega) (ht.blk hb1 (fun h => h)) (ht.blk hb2 (fun h => h)))
    (fun _ => rfl)
    (fun pre W => Blk W w.heap.size 9 #[.string s] ∧ Blk W w1.heap.size 9 #[.string mkS] ∧ (∃ v, BuildAt (wL.heap.size + 2) (w1.heap.size + 1) v (M.repair s.data.toList pre) W) ∧ Below w.heap.size w W)
    (fun _ _ _ => False) ?hI (fun _ _ _ _ h _ => h) ⟨hbs, hmk, ⟨_, hBu⟩, hbLw⟩
    (fun x a1 W => ∃ ub, wL.heap.size + 2 ≤ ub ∧ Blk W ub 44 #[.int .i64 (x.2.1 : Int), .bool x.2.2] ∧ a1 = { tmps := #[.string s, .pointer (some ⟨w.heap.size, 0, none⟩), .string ⟨#[]⟩, .pointer (some ⟨w1.heap.size, 0, none⟩), .int .i64 0, .pointer (some ⟨w1.heap.size + 1, 0, none⟩), .int .i64 (x.1 : Int), .pointer (some ⟨ub, 0, none⟩), undef, .tuple #[.string mkS, .int .i64 0], .tuple #[.string mkS, .int .i64 0], .string mkS, .int .i64 0, .string s, .agg #[.string s], .agg #[.string s], .pointer (some ⟨w1.heap.size + 1 + 1, 0, none⟩), .func (.func 42) #[] #[.pointer (some ⟨w1.heap.size + 1 + 1 + 1, 0, none⟩)], .int .i64 (x.1 : Int), .agg #[.int .i64 (x.2.1 : Int), .bool x.2.2], undef, undef, undef, undef, undef, undef, undef, undef, undef, undef, undef, undef, undef, undef, undef, undef, undef], defers := [] })
    ?hAx ?assign ?body ?done (fun _ _ _ _ h _ => h.elim) (fun _ _ _ h _ => h))
  case hI =>
    rintro pre W W' ⟨h1, h2, ⟨v, h3⟩, h4⟩ ht
    exact ⟨ht.blk h1 (by rintro (h | h); exact h; omega), ht.blk h2 (by rintro (h | h); exact h; omega), ⟨v, h3.turns ht (by rintro (h | h); exact h; omega) (fun k hk => by have := (h3.own.lt k hk).1; rintro (h | h); exact h; omega)⟩, h4.trans (ht.below h4.size (fun k hk => by rcases hk with h | h; exact h.elim; omega))⟩
  case hAx =>
    rintro x a1 W W' ⟨ub, h1, h2, h3⟩ ht
    exact ⟨ub, h1, ht.blk h2 (by omega), h3⟩
  case assign =>
    intro x W K hW hK
    unfold uEnc
    gi_wp2
    exact hK _ _ (Turns.alloc _ _) ⟨W.heap.size, hW, Blk.new _ _ _, rfl⟩
  case body =>
    rintro pre x a1 W0 W N hW0 ⟨h1, h2, ⟨v, h3⟩, h4⟩ ht hN hok ⟨ub, hub, hbx, rfl⟩
    have hlen := ok_len hok
    rw [← HSZ.out] at hlen
    obtain ⟨hm1, hm2, hm3⟩ := ok_mem hok
    rw [← HSZ.out] at hm3
    have hrl := repair_len s.data.toList pre hm1
    have hs1 := ht.size
    have k1 := ht.blk h1 (by rintro (h | h); exact h; omega)
    have k2 := ht.blk h2 (by rintro (h | h); exact h; omega)
    have k3 := h3.turns ht (by rintro (h | h); exact h; omega) (fun k hk => by have := (h3.own.lt k hk).1; rintro (h | h); exact h; omega)
    have k4 := h4.trans (ht.below h4.size (fun k hk => by rcases hk with h | h; exact h.elim; omega))
    have HOL := Box.mk h3.own.lt
    have x0 : W.cell? ⟨ub, 0, none⟩ = some (.int .i64 (x.2.1 : Int)) := (hbx.cell 0).trans rfl
    have x1 : W.cell? ⟨ub, 1, none⟩ = some (.bool x.2.2) := (hbx.cell 1).trans rfl
    have x2 := hbx.lt
    have y0 : W.cell? ⟨w.heap.size, 0, none⟩ = some (.string s) := (k1.cell 0).trans rfl
    have y1 : W.cell? ⟨w1.heap.size, 0, none⟩ = some (.string mkS) := (k2.cell 0).trans rfl
    have y2 := k1.lt
    have y3 := k2.lt
    have K1 := Box.mk k1
    have K2 := Box.mk k2
    have K3 := Box.mk k3
    have K4 := Box.mk k4
    have HSN := Box.mk (repair_snoc s.data.toList pre x)
    obtain ⟨xa, xm, xo⟩ := x
    have hxa : xa ≤ 100000 := by have h : xa + xm ≤ s.size := hm3; omega
    have hxm : xm ≤ 4 := hm2
    have hxs : xa + xm ≤ s.size := hm3
    clear h1 h2 h3 h4 k1 k2 k3 k4 hbx hb0 hb1 hb2 hbL hEL hok ht hmk hbs hbLw hBu hm1 hm2 hm3
    cases xo with
    | true =>
      have hxe : (s.extract xa (xa + xm)).data.toList = (s.data.toList.drop xa).take xm := by rw [Lib.extract_data]; congr 1; omega
      have HXE := Box.mk hxe
      have hxz : (s.extract xa (xa + xm)).size ≤ 4 := by rw [size_eq, hxe, List.length_take]; omega
      clear hxe
      gi_wp2
      refine ⟨trivial, ((callsIn_wide (n := 6)).2 (bWrite2_any (wL.heap.size + 2) (w1.heap.size + 1) v _ (s.extract xa (xa + xm)) _ (K3.out.turns (Turns.alloc (own := fun _ => False) W _) (fun h => h) (fun _ _ h => h)) (by omega) (by omega) (by simp; omega))).mono ?_⟩
      rintro e w3 ⟨rfl, ⟨v', hbv⟩, ht3⟩
      have HBV := Box.mk (show BuildAt (wL.heap.size + 2) (w1.heap.size + 1) v' (M.repair s.data.toList (pre ++ [(xa, xm, true)])) w3 by
        rw [HSN.out]
        rw [HXE.out] at hbv
        exact hbv)
      have hT := (Turns.alloc (own := fun k => k = w1.heap.size + 1 ∨ v.ownBlock = some k) W (.cells #[.int .i64 xm, .bool true] 44)).trans ht3
      have HT := Box.mk hT
      clear hbv ht3 hT
      gi_wp2
      refine ⟨Holds.of_turns HT.out (fun k hk => by omega) (fun k hk h => ?_), HT.out.blk K1.out (fun h => ?_), HT.out.blk K2.out (fun h => ?_), ⟨v', HBV.out⟩, K4.out.trans (HT.out.below K4.out.size (fun k hk => ?_))⟩
      · rcases h with h | h
        · omega
        · have := HOL.out k h; omega
      · rcases h with h | h
        · omega
        · have := HOL.out _ h; omega
      · rcases h with h | h
        · omega
        · have := HOL.out _ h; omega
      · rcases hk with h | h
        · omega
        · have := HOL.out _ h; omega
    | false =>
      gi_wp2
      refine ⟨trivial, ((callsIn_wide (n := 6)).2 (bWrite2_any (wL.heap.size + 2) (w1.heap.size + 1) v _ mkS _ (K3.out.turns (Turns.alloc (own := fun _ => False) W _) (fun h => h) (fun _ _ h => h)) (by show _ + 3 ≤ _; omega) (by omega) (by simp; omega))).mono ?_⟩
      rintro e w3 ⟨rfl, ⟨v', hbv⟩, ht3⟩
      have HBV := Box.mk (show BuildAt (wL.heap.size + 2) (w1.heap.size + 1) v' (M.repair s.data.toList (pre ++ [(xa, xm, false)])) w3 by
        rw [HSN.out]
        skip
        exact hbv)
      have hT := (Turns.alloc (own := fun k => k = w1.heap.size + 1 ∨ v.ownBlock = some k) W (.cells #[.int .i64 xm, .bool true] 44)).trans ht3
      have HT := Box.mk hT
      clear hbv ht3 hT
      gi_wp2
      refine ⟨Holds.of_turns HT.out (fun k hk => by omega) (fun k hk h => ?_), HT.out.blk K1.out (fun h => ?_), HT.out.blk K2.out (fun h => ?_), ⟨v', HBV.out⟩, K4.out.trans (HT.out.below K4.out.size (fun k hk => ?_))⟩
      · rcases h with h | h
        · omega
        · have := HOL.out k h; omega
      · rcases h with h | h
        · omega
        · have := HOL.out _ h; omega
      · rcases h with h | h
        · omega
        · have := HOL.out _ h; omega
      · rcases hk with h | h
        · omega
        · have := HOL.out _ h; omega
  case done =>
    intro xs W hW hS ⟨h1, h2, ⟨v, h3⟩, h4⟩ hD
    have HBS := Box.mk (bString2_any (wL.heap.size + 2) (w1.heap.size + 1) v (M.repair s.data.toList xs) W h3)
    have HOL := Box.mk h3.own.lt
    have H4 := Box.mk h4
    have HD := Box.mk hD
    have HV := Box.mk (show M.repair s.data.toList xs = M.fix s.data.toList by rw [hS]; rfl)
    have hws := h4.size
    have hwle : w1.heap.size + 1 + 3 ≤ wL.heap.size := by omega
    clear hsz h1 h2 h3 h4 hD hb0 hb1 hb2 hbL hEL hmk hbs hbLw hBu hS
    go_wp2_with fail
    refine HBS.out.mono ?_; rintro e w2 ⟨rfl, ht5⟩
    have HD2 := Box.mk ((ht5.block wL.heap.size (by omega) (fun h => by have := HOL.out _ h; omega)).trans HD.out)
    have HT5 := Box.mk (H4.out.trans (ht5.below H4.out.size (fun k hk => by have := HOL.out _ hk; omega)))
    clear ht5
    go_wp2_with fail
    refine ⟨by simp, .inl ⟨_, _, rfl, run_takeDeferred HD2.out, ?_⟩⟩
    refine ⟨_, results_tmp rfl _ _ _, ?_⟩
    exact ⟨by rw [← HV.out]; rfl, HT5.out.trans ((Turns.putObj (own := fun k => k = wL.heap.size) w2 rfl _).below HT5.out.size (fun k hk => by omega))⟩
end Go.Proofs.YtbagecjkfcoapaaDoor
