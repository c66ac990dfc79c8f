/-
  THE WALKS OF package mend: whether bytes begin a scalar's, the unit at a place.
-/
import Derived.Test.YtbagecjkfcoapaaDoorMnP
import Derived.Test.YtbagecjkfcoapaaDoorScIter
namespace Go.Proofs.YtbagecjkfcoapaaDoor
open Go.RowKit

theorem decV_none {l : List UInt8} (h : U.dec l = none) : decV l = .tuple #[.int .i64 0, .int .i64 0, .bool false] := by unfold decV; rw [h]; rfl
theorem decV_some {l : List UInt8} {r : Int} {n : Nat} (h : U.dec l = some (r, n)) : decV l = .tuple #[.int .i64 r, .int .i64 n, .bool true] := by unfold decV; rw [h]; rfl
/-- what the program asks of one tail -/
def hit (p t : List UInt8) : Bool := match U.dec (p ++ t) with | some (_, n) => n == p.length + t.length | none => false
theorem beg_hits (p : List UInt8) : M.begB p = (hit p [128] || hit p [128, 128]) := rfl
theorem hit_cases (p t : List UInt8) : (hit p t = false ∧ decV (p ++ t) = .tuple #[.int .i64 0, .int .i64 0, .bool false]) ∨ (∃ (r : Int) (n : Nat), hit p t = false ∧ decV (p ++ t) = .tuple #[.int .i64 r, .int .i64 n, .bool true] ∧ ((n : Int) == (p.length : Int) + (t.length : Int)) = false) ∨
    (∃ (r : Int), hit p t = true ∧ decV (p ++ t) = .tuple #[.int .i64 r, .int .i64 ((p.length + t.length : Nat) : Int), .bool true]) := by
  cases h : U.dec (p ++ t) with
  | none => exact .inl ⟨by unfold hit; rw [h], decV_none h⟩
  | some q =>
    obtain ⟨r, n⟩ := q
    by_cases hn : n = p.length + t.length
    · subst hn
      exact .inr (.inr ⟨r, by unfold hit; rw [h]; simp, decV_some h⟩)
    · exact .inr (.inl ⟨r, n, by unfold hit; rw [h]; simpa using hn, decV_some h, by rw [beq_eq_false_iff_ne]; omega⟩)
theorem append_list (s t : ByteArray) : (s ++ t).data.toList = s.data.toList ++ t.data.toList := by
  rw [ByteArray.data_append, Array.toList_append]
theorem append_size (s t : ByteArray) : (s ++ t).size = s.size + t.size := ByteArray.size_append

set_option maxHeartbeats 2000000 in
theorem begin_any (A : Nat → Addr) (B : Nat) (s : ByteArray) (w : World) (hs : s.size ≤ 16777216) (hE : E A B w) (hB : B ≤ w.heap.size) :
    Calls Tryd.prog 41 #[.string s] w fun e w' => e = .returned (.bool (M.begB s.data.toList)) ∧ Below w.heap.size w w' := by
  have hb0 := (Below.refl w.heap.size w).alloc (Nat.le_refl _) (.cells #[.string ⟨#[128]⟩, .string ⟨#[128, 128]⟩] 9)
  have HE := Box.mk (hE.below (hb0.mono hB))
  have HB0 := Box.mk hb0
  have HSZ := Box.mk (size_eq s)
  have HBK := Box.mk (Blk.new w 9 #[.string ⟨#[128]⟩, .string ⟨#[128, 128]⟩])
  rw [beg_hits]
  clear hE hb0
  go_enter Tryd.func41, Tryd.ntmps41
  go_wp2_with fail
  refine wp_loop_rounds 3 ?_
  rw [rounds_succ]
  go_wp2_with fail
  refine (dec_any A B _ _ ?_ HE.out (Nat.le_trans hB HB0.out.size)).mono ?_
  · rw [append_size]; show s.size + 1 ≤ maxLen; unfold maxLen; omega
  rintro e w1 ⟨rfl, hb1⟩
  rw [append_list, show (⟨#[128]⟩ : ByteArray).data.toList = [128] from rfl]
  have HB1 := Box.mk (HB0.out.trans (hb1.mono HB0.out.size))
  have HE1 := Box.mk (HE.out.below (hb1.mono (Nat.le_trans hB HB0.out.size)))
  have hbk1 := HBK.out.below hb1 HBK.out.lt
  have c1 : w1.cell? ⟨w.heap.size, 1, none⟩ = some (.string ⟨#[128, 128]⟩) := (hbk1.cell 1).trans rfl
  clear hb1 hbk1
  have H1 := Box.mk (hit_cases s.data.toList [128])
  have H2 := Box.mk (hit_cases s.data.toList [128, 128])
  rcases H1.out with ⟨h1, h2⟩ | ⟨r, n, h1, h2, h3⟩ | ⟨r, h1, h2⟩
  case inr.inr =>
    have HV := Box.mk h2
    have HH := Box.mk h1
    have t1 : (((s.data.toList.length + 1 : Nat) : Int) == (s.size : Int) + 1) = true := by rw [HSZ.out, beq_iff_eq]; omega
    rw [h2]
    clear h1 h2 H1 H2
    go_wp2_with fail
    go_ret
    exact ⟨by rw [HH.out]; rfl, HB1.out⟩
  all_goals
    have HH1 := Box.mk h1
    rw [h2]
    first | (have t1 : ((n : Int) == (s.size : Int) + 1) = false := by rw [HSZ.out]; exact h3) | skip
    clear h1 h2 H1
    try clear h3
    go_wp2_with fail
    rw [rounds_succ]
    go_wp2_with fail
    refine (dec_any A B _ _ ?_ HE1.out (Nat.le_trans hB HB1.out.size)).mono ?_
    · rw [append_size]; show s.size + 2 ≤ maxLen; unfold maxLen; omega
    rintro e w2 ⟨rfl, hb2⟩
    rw [append_list, show (⟨#[128, 128]⟩ : ByteArray).data.toList = [128, 128] from rfl]
    have HB2 := Box.mk (HB1.out.trans (hb2.mono HB1.out.size))
    clear hb2 c1
    rcases H2.out with ⟨k1, k2⟩ | ⟨r', n', k1, k2, k3⟩ | ⟨r', k1, k2⟩
    · have HH2 := Box.mk k1
      rw [k2]
      clear k1 k2 H2
      go_wp2_with fail
      rw [rounds_succ]
      go_wp2_with fail
      go_ret
      exact ⟨by rw [HH1.out, HH2.out]; rfl, HB2.out⟩
    · have HH2 := Box.mk k1
      have t2 : ((n' : Int) == (s.size : Int) + 2) = false := by rw [HSZ.out]; exact k3
      rw [k2]
      clear k1 k2 k3 H2
      go_wp2_with fail
      rw [rounds_succ]
      go_wp2_with fail
      go_ret
      exact ⟨by rw [HH1.out, HH2.out]; rfl, HB2.out⟩
    · have HH2 := Box.mk k1
      have t2 : (((s.data.toList.length + 2 : Nat) : Int) == (s.size : Int) + 2) = true := by rw [HSZ.out, beq_iff_eq]; omega
      rw [k2]
      clear k1 k2 H2
      go_wp2_with fail
      go_ret
      exact ⟨by rw [HH1.out, HH2.out]; rfl, HB2.out⟩

def unitV (l : List UInt8) : Value := .agg #[.int .i64 ((M.unit l).1 : Int), .bool (M.unit l).2]
theorem drop_str (s : ByteArray) (a : Nat) : (s.extract a s.size).data.toList = s.data.toList.drop a := Lib.extract_to_end s a
theorem drop_size (s : ByteArray) (a : Nat) : (s.extract a s.size).size = s.size - a := by
  rw [size_eq, drop_str, List.length_drop, ← size_eq]
set_option maxHeartbeats 2000000 in
theorem at_any (A : Nat → Addr) (B : Nat) (tb : Nat) (s : ByteArray) (a : Nat) (w : World) (ht : w.cell? ⟨tb, 0, none⟩ = some (.string s)) (ha : a ≤ s.size) (hs : s.size ≤ 16777216) (hE : E A B w) (hB : B ≤ w.heap.size) :
    Calls Tryd.prog 29 #[.pointer (some ⟨tb, 0, none⟩), .int .i64 a] w fun e w' => e = .returned (unitV (s.data.toList.drop a)) ∧ Below w.heap.size w w' := by
  have htl := World.block_lt_of_cell? w _ ht
  obtain ⟨X, hX⟩ : ∃ X, X = s.extract a s.size := ⟨_, rfl⟩
  have hXl : X.data.toList = s.data.toList.drop a := by rw [hX]; exact drop_str s a
  have hXs : X.size ≤ 16777216 := by rw [hX, drop_size]; omega
  have HX := Box.mk hX
  rw [← hXl]
  have hb0 := ((Below.refl w.heap.size w).alloc (Nat.le_refl _) (.cells #[.int .i64 0, .bool false] 44)).alloc (by simp) (.cells #[.int .i64 1, .bool false] 44)
  have HE := Box.mk (hE.below (hb0.mono hB))
  have HB0 := Box.mk hb0
  have HBK := Box.mk ((Blk.new w 44 #[.int .i64 0, .bool false]).alloc (.cells #[.int .i64 1, .bool false] 44))
  have HBK6 := Box.mk (show Blk ((w.alloc (.cells #[.int .i64 0, .bool false] 44)).alloc (.cells #[.int .i64 1, .bool false] 44)) (w.heap.size + 1) 44 #[.int .i64 1, .bool false] by
    have := Blk.new (w.alloc (.cells #[.int .i64 0, .bool false] 44)) 44 #[.int .i64 1, .bool false]
    simpa using this)
  clear hE hb0 hX hXl hs
  cases hl : X.data.toList with
  | nil =>
    have hz := isEmpty_nil hl
    rw [HX.out] at hz
    have HU := Box.mk (show unitV X.data.toList = .agg #[.int .i64 0, .bool false] by rw [hl]; rfl)
    rw [← hl]
    clear hl
    go_enter Tryd.func29, Tryd.ntmps29
    go_wp2_with fail
    refine wp_scope_fwd 0 rfl ?_
    go_wp2_with fail
    rw [fwd_ret]
    exact bodyPost_ret (v := .agg #[.int .i64 0, .bool false]) (by simp [results, Tryd.results29, go_sem]) rfl ⟨by rw [HU.out], HB0.out⟩
  | cons c t =>
    have hz := isEmpty_cons hl
    rw [HX.out] at hz
    have HL := Box.mk hl
    rw [← hl]
    clear hl
    have HD := Box.mk (dec_any A B X _ (by unfold maxLen; omega) HE.out (Nat.le_trans hB HB0.out.size))
    go_enter Tryd.func29, Tryd.ntmps29
    go_wp2_with fail
    refine wp_scope_fwd 0 rfl ?_
    go_wp2_with fail
    rw [← HX.out]
    refine HD.out.mono ?_; rintro e w1 ⟨rfl, hb1⟩
    have HB1 := Box.mk (HB0.out.trans (hb1.mono HB0.out.size))
    have HE1 := Box.mk (HE.out.below (hb1.mono (Nat.le_trans hB HB0.out.size)))
    have hbk := HBK.out.below hb1 HBK.out.lt
    have hbk6 := HBK6.out.below hb1 HBK6.out.lt
    clear hb1 hz
    cases hd : U.dec X.data.toList with
    | some q =>
      obtain ⟨r, n⟩ := q
      rw [decV_some hd]
      have HU := Box.mk (show unitV X.data.toList = .agg #[.int .i64 n, .bool true] by unfold unitV; rw [M.unit_some hd])
      have c0 : w1.cell? ⟨w.heap.size, 0, none⟩ = some (.int .i64 0) := (hbk.cell 0).trans rfl
      have c1 : w1.cell? ⟨w.heap.size, 1, none⟩ = some (.bool false) := (hbk.cell 1).trans rfl
      have f0 := hbk.frozen 0
      have f1 := hbk.frozen 1
      clear hd hbk6
      have hfin := (hbk.set_ 0 (.int .i64 n)).set_ 1 (.bool true)
      have hbfin := (HB1.out.setCell (p := ⟨w.heap.size, 0, none⟩) (Nat.le_refl _) (.int .i64 n)).setCell (p := ⟨w.heap.size, 1, none⟩) (Nat.le_refl _) (.bool true)
      have HFIN := Box.mk hfin
      have HBFIN := Box.mk hbfin
      clear hfin hbfin hbk
      go_wp2_with fail
      rw [fwd_ret]
      have hfin := HFIN.out
      have hbfin := HBFIN.out
      generalize (w1.setCell ⟨w.heap.size, 0, none⟩ (.int .i64 n)).setCell ⟨w.heap.size, 1, none⟩ (.bool true) = W2 at hfin hbfin ⊢
      have d0 : W2.cell? ⟨w.heap.size, 0, none⟩ = some (.int .i64 n) := (hfin.cell 0).trans rfl
      have d1 : W2.cell? ⟨w.heap.size, 1, none⟩ = some (.bool true) := (hfin.cell 1).trans rfl
      exact bodyPost_ret (v := .agg #[.int .i64 n, .bool true]) (by simp [results, Tryd.results29, go_sem, d0, d1]) rfl ⟨by rw [HU.out], hbfin⟩
    | none =>
      rw [decV_none hd]
      have HUB := Box.mk (show unitV X.data.toList = .agg #[.int .i64 (M.badLen X.data.toList), .bool false] by unfold unitV; rw [M.unit_none hd])
      clear hd
      have HK := Box.mk hbk
      have HK6 := Box.mk hbk6
      have HBK1 := HB1
      have HSL := Box.mk (size_eq X)
      clear hbk hbk6
      cases ht' : t with
      | nil =>
        have HBL := Box.mk (show M.badLen X.data.toList = 1 by rw [HL.out, ht']; rfl)
        have t2 : decide ((2 : Int) ≤ (X.size : Int)) = false := by rw [HSL.out, HL.out, ht']; rfl
        clear ht'
        have c0 : w1.cell? ⟨w.heap.size, 0, none⟩ = some (.int .i64 0) := (HK.out.cell 0).trans rfl
        have c1 : w1.cell? ⟨w.heap.size, 1, none⟩ = some (.bool false) := (HK.out.cell 1).trans rfl
        have k0 : w1.cell? ⟨w.heap.size + 1, 0, none⟩ = some (.int .i64 1) := (HK6.out.cell 0).trans rfl
        have k1 : w1.cell? ⟨w.heap.size + 1, 1, none⟩ = some (.bool false) := (HK6.out.cell 1).trans rfl
        have f0 := HK.out.frozen 0
        have f1 := HK.out.frozen 1
        go_wp2_with fail
        refine wp_loop_rounds 1 ?_
        rw [rounds_succ]
        go_wp2_with fail
        go_step3
        go_wp2_with fail
        rw [fwd_ret]
        have hfin := (HK.out.set_ 0 (.int .i64 1)).set_ 1 (.bool false)
        have hbfin := (HBK1.out.setCell (p := ⟨w.heap.size, 0, none⟩) (Nat.le_refl _) (.int .i64 1)).setCell (p := ⟨w.heap.size, 1, none⟩) (Nat.le_refl _) (.bool false)
        generalize (w1.setCell ⟨w.heap.size, 0, none⟩ (.int .i64 1)).setCell ⟨w.heap.size, 1, none⟩ (.bool false) = W2 at hfin hbfin ⊢
        have d0 : W2.cell? ⟨w.heap.size, 0, none⟩ = some (.int .i64 1) := (hfin.cell 0).trans rfl
        have d1 : W2.cell? ⟨w.heap.size, 1, none⟩ = some (.bool false) := (hfin.cell 1).trans rfl
        exact bodyPost_ret (v := .agg #[.int .i64 1, .bool false]) (by simp [results, Tryd.results29, go_sem, d0, d1]) rfl ⟨by rw [HUB.out, HBL.out]; rfl, hbfin⟩
      | cons d t' =>
        have hL2 : X.data.toList = c :: d :: t' := by rw [HL.out, ht']
        have hsz2 : 2 ≤ X.size := by rw [HSL.out, hL2]; simp
        have HL2 := Box.mk hL2
        have hx2 : (X.extract 0 2).data.toList = [c, d] := by rw [Lib.extract_data, hL2]; rfl
        have hx2s : (X.extract 0 2).size = 2 := by rw [size_eq, hx2]; rfl
        have HBG := Box.mk (begin_any A B (X.extract 0 2) w1 (by rw [hx2s]; omega) HE1.out (Nat.le_trans hB HB1.out.size))
        rw [hx2, M.beg_two] at HBG
        clear hx2 hx2s hL2 ht'
        cases hb2 : (decide (2 ≤ U.rowN (U.b2i c)) && M.rng c d) with
        | false =>
          have HBL := Box.mk (show M.badLen X.data.toList = 1 by rw [HL2.out]; exact M.bad_one _ hb2)
          rw [hb2] at HBG
          clear hb2
          go_wp2_with fail
          refine wp_loop_rounds 3 ?_
          rw [rounds_succ]
          go_wp2_with fail
          refine HBG.out.mono ?_; rintro e w2 ⟨rfl, hb3⟩
          have HK := Box.mk (HK.out.below hb3 HK.out.lt)
          have HK6 := Box.mk (HK6.out.below hb3 HK6.out.lt)
          have HBK1 := Box.mk (HB1.out.trans (hb3.mono HB1.out.size))
          clear hb3
          have c0 : w2.cell? ⟨w.heap.size, 0, none⟩ = some (.int .i64 0) := (HK.out.cell 0).trans rfl
          have c1 : w2.cell? ⟨w.heap.size, 1, none⟩ = some (.bool false) := (HK.out.cell 1).trans rfl
          have k0 : w2.cell? ⟨w.heap.size + 1, 0, none⟩ = some (.int .i64 1) := (HK6.out.cell 0).trans rfl
          have k1 : w2.cell? ⟨w.heap.size + 1, 1, none⟩ = some (.bool false) := (HK6.out.cell 1).trans rfl
          have f0 := HK.out.frozen 0
          have f1 := HK.out.frozen 1
          go_wp2_with fail
          go_step3
          refine ⟨rfl, ?_⟩
          go_wp2_with fail
          rw [Exit.noGoto_ret]
          have hfin := (HK.out.set_ 0 (.int .i64 1)).set_ 1 (.bool false)
          have hbfin := (HBK1.out.setCell (p := ⟨w.heap.size, 0, none⟩) (Nat.le_refl _) (.int .i64 1)).setCell (p := ⟨w.heap.size, 1, none⟩) (Nat.le_refl _) (.bool false)
          generalize (w2.setCell ⟨w.heap.size, 0, none⟩ (.int .i64 1)).setCell ⟨w.heap.size, 1, none⟩ (.bool false) = W2 at hfin hbfin ⊢
          have d0 : W2.cell? ⟨w.heap.size, 0, none⟩ = some (.int .i64 1) := (hfin.cell 0).trans rfl
          have d1 : W2.cell? ⟨w.heap.size, 1, none⟩ = some (.bool false) := (hfin.cell 1).trans rfl
          exact bodyPost_ret (v := .agg #[.int .i64 1, .bool false]) (by simp [results, Tryd.results29, go_sem, d0, d1]) rfl ⟨by rw [HUB.out, HBL.out]; rfl, hbfin⟩
        | true =>
          rw [hb2] at HBG
          have HB2V := Box.mk hb2
          clear hb2
          go_wp2_with fail
          refine wp_loop_rounds 3 ?_
          rw [rounds_succ]
          go_wp2_with fail
          refine HBG.out.mono ?_; rintro e w2 ⟨rfl, hb3⟩
          have HE2 := Box.mk (HE1.out.below (hb3.mono (Nat.le_trans hB HB1.out.size)))
          have hk6 := HK6.out.below hb3 HK6.out.lt
          have p0 : w2.cell? ⟨w.heap.size + 1, 0, none⟩ = some (.int .i64 1) := (hk6.cell 0).trans rfl
          have p1 := hk6.frozen 0
          have HK := Box.mk ((HK.out.below hb3 HK.out.lt).far (p := ⟨w.heap.size + 1, 0, none⟩) (by simp) (.int .i64 2))
          have HK6 := Box.mk (hk6.set_ 0 (.int .i64 2))
          have hb3' := HB1.out.trans (hb3.mono HB1.out.size)
          have HBK1 := Box.mk (hb3'.setCell (p := ⟨w.heap.size + 1, 0, none⟩) (by simp) (.int .i64 2))
          have HE3 := Box.mk (HE2.out.below (((Below.refl B w2).setCell (p := ⟨w.heap.size + 1, 0, none⟩) (by show B ≤ w.heap.size + 1; omega) (.int .i64 2))))
          have HSS := Box.mk (show (w2.setCell ⟨w.heap.size + 1, 0, none⟩ (.int .i64 2)).heap.size = w2.heap.size by simp [World.setCell])
          have HBW := Box.mk (show B ≤ w2.heap.size from Nat.le_trans hB hb3'.size)
          clear hb3 hb3' hk6
          go_wp2_with fail
          generalize w2.setCell ⟨w.heap.size + 1, 0, none⟩ (.int .i64 2) = w3 at HK HK6 HBK1 HE3 HSS ⊢
          clear p0 p1
          rw [rounds_succ]
          cases ht2 : t' with
          | nil =>
            have HBL := Box.mk (show M.badLen X.data.toList = 2 by rw [HL2.out, ht2]; exact M.bad_two HB2V.out)
            have t3 : decide ((3 : Int) ≤ (X.size : Int)) = false := by rw [HSL.out, HL2.out, ht2]; rfl
            clear ht2
            have c0 : w3.cell? ⟨w.heap.size, 0, none⟩ = some (.int .i64 0) := (HK.out.cell 0).trans rfl
            have c1 : w3.cell? ⟨w.heap.size, 1, none⟩ = some (.bool false) := (HK.out.cell 1).trans rfl
            have k0 : w3.cell? ⟨w.heap.size + 1, 0, none⟩ = some (.int .i64 2) := (HK6.out.cell 0).trans rfl
            have k1 : w3.cell? ⟨w.heap.size + 1, 1, none⟩ = some (.bool false) := (HK6.out.cell 1).trans rfl
            have f0 := HK.out.frozen 0
            have f1 := HK.out.frozen 1
            go_wp2_with fail
            go_step3
            go_wp2_with fail
            rw [fwd_ret]
            have hfin := (HK.out.set_ 0 (.int .i64 2)).set_ 1 (.bool false)
            have hbfin := (HBK1.out.setCell (p := ⟨w.heap.size, 0, none⟩) (Nat.le_refl _) (.int .i64 2)).setCell (p := ⟨w.heap.size, 1, none⟩) (Nat.le_refl _) (.bool false)
            generalize (w3.setCell ⟨w.heap.size, 0, none⟩ (.int .i64 2)).setCell ⟨w.heap.size, 1, none⟩ (.bool false) = W2 at hfin hbfin ⊢
            have d0 : W2.cell? ⟨w.heap.size, 0, none⟩ = some (.int .i64 2) := (hfin.cell 0).trans rfl
            have d1 : W2.cell? ⟨w.heap.size, 1, none⟩ = some (.bool false) := (hfin.cell 1).trans rfl
            exact bodyPost_ret (v := .agg #[.int .i64 2, .bool false]) (by simp [results, Tryd.results29, go_sem, d0, d1]) rfl ⟨by rw [HUB.out, HBL.out]; rfl, hbfin⟩
          | cons e' t2 =>
            have hL3 : X.data.toList = c :: d :: e' :: t2 := by rw [HL2.out, ht2]
            have hsz3 : 3 ≤ X.size := by rw [HSL.out, hL3]; simp
            have HL3 := Box.mk hL3
            have hx3 : (X.extract 0 3).data.toList = [c, d, e'] := by rw [Lib.extract_data, hL3]; rfl
            have hx3s : (X.extract 0 3).size = 3 := by rw [size_eq, hx3]; rfl
            have HBG3 := Box.mk (begin_any A B (X.extract 0 3) w3 (by rw [hx3s]; omega) HE3.out (by rw [HSS.out]; exact HBW.out))
            rw [hx3, M.beg_three] at HBG3
            clear hx3 hx3s hL3 ht2 hsz2
            have HRG := Box.mk (show M.rng c d = true by have := HB2V.out; rw [Bool.and_eq_true] at this; exact this.2)
            rw [HRG.out, Bool.and_true] at HBG3
            cases hb5 : (decide (U.rowN (U.b2i c) = 3) && U.isTail e') with
            | false =>
              have HBL := Box.mk (show M.badLen X.data.toList = 2 by rw [HL3.out]; exact M.bad_not _ HB2V.out hb5)
              rw [hb5] at HBG3
              clear hb5
              go_wp2_with fail
              refine HBG3.out.mono ?_; rintro e w4 ⟨rfl, hb6⟩
              have HBK1 := Box.mk (HBK1.out.trans (hb6.mono HBK1.out.size))
              have HK := Box.mk (HK.out.below hb6 HK.out.lt)
              have HK6 := Box.mk (HK6.out.below hb6 HK6.out.lt)
              clear hb6
              have c0 : w4.cell? ⟨w.heap.size, 0, none⟩ = some (.int .i64 0) := (HK.out.cell 0).trans rfl
              have c1 : w4.cell? ⟨w.heap.size, 1, none⟩ = some (.bool false) := (HK.out.cell 1).trans rfl
              have k0 : w4.cell? ⟨w.heap.size + 1, 0, none⟩ = some (.int .i64 2) := (HK6.out.cell 0).trans rfl
              have k1 : w4.cell? ⟨w.heap.size + 1, 1, none⟩ = some (.bool false) := (HK6.out.cell 1).trans rfl
              have f0 := HK.out.frozen 0
              have f1 := HK.out.frozen 1
              go_wp2_with fail
              go_step3
              refine ⟨rfl, ?_⟩
              go_wp2_with fail
              rw [Exit.noGoto_ret]
              have hfin := (HK.out.set_ 0 (.int .i64 2)).set_ 1 (.bool false)
              have hbfin := (HBK1.out.setCell (p := ⟨w.heap.size, 0, none⟩) (Nat.le_refl _) (.int .i64 2)).setCell (p := ⟨w.heap.size, 1, none⟩) (Nat.le_refl _) (.bool false)
              generalize (w4.setCell ⟨w.heap.size, 0, none⟩ (.int .i64 2)).setCell ⟨w.heap.size, 1, none⟩ (.bool false) = W2 at hfin hbfin ⊢
              have d0 : W2.cell? ⟨w.heap.size, 0, none⟩ = some (.int .i64 2) := (hfin.cell 0).trans rfl
              have d1 : W2.cell? ⟨w.heap.size, 1, none⟩ = some (.bool false) := (hfin.cell 1).trans rfl
              exact bodyPost_ret (v := .agg #[.int .i64 2, .bool false]) (by simp [results, Tryd.results29, go_sem, d0, d1]) rfl ⟨by rw [HUB.out, HBL.out]; rfl, hbfin⟩
            | true =>
              have HBL := Box.mk (show M.badLen X.data.toList = 3 by rw [HL3.out]; exact M.bad_three _ HB2V.out hb5)
              rw [hb5] at HBG3
              clear hb5
              go_wp2_with fail
              refine HBG3.out.mono ?_; rintro e w4 ⟨rfl, hb6⟩
              have hb6' := HBK1.out.trans (hb6.mono HBK1.out.size)
              have hk6 := HK6.out.below hb6 HK6.out.lt
              have p0 : w4.cell? ⟨w.heap.size + 1, 0, none⟩ = some (.int .i64 2) := (hk6.cell 0).trans rfl
              have p1 := hk6.frozen 0
              have HK := Box.mk ((HK.out.below hb6 HK.out.lt).far (p := ⟨w.heap.size + 1, 0, none⟩) (by simp) (.int .i64 3))
              have HK6 := Box.mk (hk6.set_ 0 (.int .i64 3))
              have HBK1 := Box.mk (hb6'.setCell (p := ⟨w.heap.size + 1, 0, none⟩) (by simp) (.int .i64 3))
              clear hb6 hb6' hk6
              go_wp2_with fail
              generalize w4.setCell ⟨w.heap.size + 1, 0, none⟩ (.int .i64 3) = w5 at HK HK6 HBK1 ⊢
              clear p0 p1
              rw [rounds_succ]
              have c0 : w5.cell? ⟨w.heap.size, 0, none⟩ = some (.int .i64 0) := (HK.out.cell 0).trans rfl
              have c1 : w5.cell? ⟨w.heap.size, 1, none⟩ = some (.bool false) := (HK.out.cell 1).trans rfl
              have k0 : w5.cell? ⟨w.heap.size + 1, 0, none⟩ = some (.int .i64 3) := (HK6.out.cell 0).trans rfl
              have k1 : w5.cell? ⟨w.heap.size + 1, 1, none⟩ = some (.bool false) := (HK6.out.cell 1).trans rfl
              have f0 := HK.out.frozen 0
              have f1 := HK.out.frozen 1
              go_wp2_with fail
              go_step3
              go_wp2_with fail
              rw [fwd_ret]
              have hfin := (HK.out.set_ 0 (.int .i64 3)).set_ 1 (.bool false)
              have hbfin := (HBK1.out.setCell (p := ⟨w.heap.size, 0, none⟩) (Nat.le_refl _) (.int .i64 3)).setCell (p := ⟨w.heap.size, 1, none⟩) (Nat.le_refl _) (.bool false)
              generalize (w5.setCell ⟨w.heap.size, 0, none⟩ (.int .i64 3)).setCell ⟨w.heap.size, 1, none⟩ (.bool false) = W2 at hfin hbfin ⊢
              have d0 : W2.cell? ⟨w.heap.size, 0, none⟩ = some (.int .i64 3) := (hfin.cell 0).trans rfl
              have d1 : W2.cell? ⟨w.heap.size, 1, none⟩ = some (.bool false) := (hfin.cell 1).trans rfl
              exact bodyPost_ret (v := .agg #[.int .i64 3, .bool false]) (by simp [results, Tryd.results29, go_sem, d0, d1]) rfl ⟨by rw [HUB.out, HBL.out]; rfl, hbfin⟩
end Go.Proofs.YtbagecjkfcoapaaDoor
