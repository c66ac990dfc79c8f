/-
  THE DOCUMENT's Unit OF LAYER 2.
-/
import Derived.Test.YtbagecjkfcoapaaDoorMnC
import Derived.Test.YtbagecjkfcoapaaDoorScRef
namespace Go.Proofs.YtbagecjkfcoapaaDoor
open Go.RowKit

theorem unitT_no {l : List UInt8} {n : Nat} (h : U.dec l = none) (hn : M.badLen l = n) : unitT l = .tuple #[.int .i64 n, .bool false] := by
  unfold unitT; rw [M.unit_none h, hn]
theorem unitT_yes {l : List UInt8} {r : Int} {n : Nat} (h : U.dec l = some (r, n)) : unitT l = .tuple #[.int .i64 n, .bool true] := by
  unfold unitT M.unit; rw [h]
theorem decV_no' {l : List UInt8} (h : U.dec l = none) : decV l = .tuple #[.int .i64 0, .int .i64 0, .bool false] := by unfold decV; rw [h]; rfl
theorem decV_yes' {l : List UInt8} {r : Int} {n : Nat} (h : U.dec l = some (r, n)) : decV l = .tuple #[.int .i64 r, .int .i64 n, .bool true] := by unfold decV; rw [h]; rfl
theorem rng_no {c d : UInt8} (h : ¬ (U.rowLo (U.b2i c) ≤ U.b2i d ∧ U.b2i d ≤ U.rowHi (U.b2i c))) (p : Bool) : (p && M.rng c d) = false := by
  have := M.rng_iff c d
  cases hr : M.rng c d with
  | false => simp
  | true => exact absurd (this.1 hr) h
theorem rng_yes {c d : UInt8} (h : U.rowLo (U.b2i c) ≤ U.b2i d ∧ U.b2i d ≤ U.rowHi (U.b2i c)) (hk : 2 ≤ U.rowN (U.b2i c)) : (decide (2 ≤ U.rowN (U.b2i c)) && M.rng c d) = true := by
  rw [(M.rng_iff c d).2 h, decide_eq_true hk]; rfl
theorem tail_no {e : UInt8} (h : ¬ (128 ≤ U.b2i e ∧ U.b2i e ≤ 191)) (p : Bool) : (p && U.isTail e) = false := by
  cases hr : U.isTail e with
  | false => simp
  | true => exact absurd (U.tail_range hr) h
theorem tail_yes {e : UInt8} (h : 128 ≤ U.b2i e ∧ U.b2i e ≤ 191) : U.isTail e = true := (U.isTail_iff e).2 h

set_option maxHeartbeats 4000000 in
theorem runit_any (s : ByteArray) (w : World) (hs : s.size ≤ 16777216) :
    Calls Tryd.prog 15 #[.string s] w fun e w' => e = .returned (unitT s.data.toList) ∧ w = w' := by
  have HD := Box.mk (rdec_any s w (Nat.le_trans hs (by decide)))
  cases hl : s.data.toList with
  | nil =>
    have hz := isEmpty_nil hl
    have HV := Box.mk (show unitT [] = .tuple #[.int .i64 0, .bool false] from rfl)
    clear hl HD
    go_enter Tryd.func15, Tryd.ntmps15
    go_wp2_with fail
    go_ret2
    exact ⟨by rw [HV.out]; rfl, rfl⟩
  | cons c t =>
    have hz := isEmpty_cons hl
    rw [hl] at HD
    have i0 := idx_of Tryd.underlying9 s 0 (d := c) (by rw [hl]; rfl) 0 rfl
    have hc0 := U.b2i_nonneg c
    have hc1 := U.b2i_lt c
    have Hrow := Box.mk (rrow_any (U.b2i c) hc0 hc1)
    have hsz : (s.size : Int) = t.length + 1 := by rw [size_eq, hl]; simp
    cases hd : U.dec (c :: t) with
    | some rn =>
      obtain ⟨r, n⟩ := rn
      have HDV := Box.mk (decV_yes' hd)
      have HV := Box.mk (unitT_yes hd)
      clear hl hd i0 Hrow
      go_enter Tryd.func15, Tryd.ntmps15
      go_wp2_with fail
      refine HD.out.mono ?_; rintro e w1 ⟨rfl, rfl⟩; rw [HDV.out]
      go_wp2_with fail
      go_ret2
      exact ⟨by rw [HV.out]; rfl, rfl⟩
    | none =>
      have HDV := Box.mk (decV_no' hd)
      rcases t with _ | ⟨d, t⟩
      · have HV := Box.mk (unitT_no (n := 1) hd rfl)
        have hsz1 : s.size = 1 := by simp at hsz; omega
        clear hl hd hsz
        generalize U.b2i c = x at *
        generalize U.rowN x = k at *
        generalize U.rowLo x = lo at *
        generalize U.rowHi x = hi at *
        go_enter Tryd.func15, Tryd.ntmps15
        go_wp2_with fail
        refine HD.out.mono ?_; rintro e w1 ⟨rfl, rfl⟩; rw [HDV.out]
        go_wp2_with fail
        refine (Hrow.out _).mono ?_; rintro e w1 ⟨rfl, rfl⟩
        go_wp2_with fail
        all_goals go_ret2
        all_goals exact ⟨by rw [HV.out]; rfl, rfl⟩
      · have i1 := idx_of Tryd.underlying9 s 1 (d := d) (by rw [hl]; rfl) 1 rfl
        have hd0 := U.b2i_nonneg d
        have hd1 := U.b2i_lt d
        have hz2 : 2 ≤ s.size := by simp at hsz; omega
        by_cases hk : 1 ≤ U.rowN (U.b2i c) ∧ U.rowLo (U.b2i c) ≤ U.b2i d ∧ U.b2i d ≤ U.rowHi (U.b2i c)
        · have hlo := U.rowLo_ge (U.b2i c) (by omega)
          have hhi := U.rowHi_le (U.b2i c) (by omega)
          have hk2 : 2 ≤ U.rowN (U.b2i c) := by
            rcases U.rowN_cases (U.b2i c) with e | e | e | e | e
            · omega
            · omega
            · rw [U.dec_one e, if_pos (by omega)] at hd; cases hd
            · omega
            · omega
          have hr := rng_yes hk.2 hk2
          rcases t with _ | ⟨e, t⟩
          · have HV := Box.mk (unitT_no (n := 2) hd (M.bad_two hr))
            have hsz1 : s.size = 2 := by simp at hsz; omega
            clear hl hd hsz hr hlo hhi
            generalize U.b2i c = x at *
            generalize U.b2i d = y at *
            generalize U.rowN x = k at *
            generalize U.rowLo x = lo at *
            generalize U.rowHi x = hi at *
            obtain ⟨hk, hk3, hk4⟩ := hk
            go_enter Tryd.func15, Tryd.ntmps15
            go_wp2_with fail
            refine HD.out.mono ?_; rintro e w1 ⟨rfl, rfl⟩; rw [HDV.out]
            go_wp2_with fail
            refine (Hrow.out _).mono ?_; rintro e w1 ⟨rfl, rfl⟩
            go_wp2_with fail
            go_rounds 1
            all_goals go_ret2
            all_goals exact ⟨by rw [HV.out]; rfl, rfl⟩
          · have i2 := idx_of Tryd.underlying9 s 2 (d := e) (by rw [hl]; rfl) 2 rfl
            have he0 := U.b2i_nonneg e
            have he1 := U.b2i_lt e
            have hz3 : 3 ≤ s.size := by simp at hsz; omega
            by_cases ht : 128 ≤ U.b2i e ∧ U.b2i e ≤ 191
            · have hk3 : U.rowN (U.b2i c) = 3 := by
                rcases U.rowN_cases (U.b2i c) with e' | e' | e' | e' | e'
                · omega
                · omega
                · omega
                · rw [U.dec_two e', if_pos (by omega)] at hd; cases hd
                · exact e'
              have hb := M.bad_three t hr (by rw [decide_eq_true hk3, tail_yes ht]; rfl)
              have HV := Box.mk (unitT_no (n := 3) hd hb)
              rcases t with _ | ⟨g, t⟩
              · have hsz1 : s.size = 3 := by simp at hsz; omega
                clear hl hd hsz hr hlo hhi hb
                generalize U.b2i c = x at *
                generalize U.b2i d = y at *
                generalize U.b2i e = z at *
                rw [hk3] at Hrow
                generalize U.rowN x = k at *
                generalize U.rowLo x = lo at *
                generalize U.rowHi x = hi at *
                obtain ⟨hk, hk5, hk4⟩ := hk
                obtain ⟨ht1, ht2⟩ := ht
                go_enter Tryd.func15, Tryd.ntmps15
                go_wp2_with fail
                refine HD.out.mono ?_; rintro e w1 ⟨rfl, rfl⟩; rw [HDV.out]
                go_wp2_with fail
                refine (Hrow.out _).mono ?_; rintro e w1 ⟨rfl, rfl⟩
                go_wp2_with fail
                go_rounds 2
                all_goals go_ret2
                all_goals exact ⟨by rw [HV.out]; rfl, rfl⟩
              · have i3 := idx_of Tryd.underlying9 s 3 (d := g) (by rw [hl]; rfl) 3 rfl
                have hg0 := U.b2i_nonneg g
                have hg1 := U.b2i_lt g
                have hz4 : 4 ≤ s.size := by simp at hsz; omega
                have hng : ¬ (128 ≤ U.b2i g ∧ U.b2i g ≤ 191) := fun h => by
                  rw [U.dec_three hk3, if_pos (by omega)] at hd; cases hd
                clear hl hd hsz hr hlo hhi hb
                generalize U.b2i c = x at *
                generalize U.b2i d = y at *
                generalize U.b2i e = z at *
                generalize U.b2i g = v at *
                rw [hk3] at Hrow
                generalize U.rowN x = k at *
                generalize U.rowLo x = lo at *
                generalize U.rowHi x = hi at *
                obtain ⟨hk, hk5, hk4⟩ := hk
                obtain ⟨ht1, ht2⟩ := ht
                rcases (show v < 128 ∨ (128 ≤ v ∧ 191 < v) by omega) with hv | ⟨hv, hv2⟩
                · clear hng
                  go_enter Tryd.func15, Tryd.ntmps15
                  go_wp2_with fail
                  refine HD.out.mono ?_; rintro e w1 ⟨rfl, rfl⟩; rw [HDV.out]
                  go_wp2_with fail
                  refine (Hrow.out _).mono ?_; rintro e w1 ⟨rfl, rfl⟩
                  go_wp2_with fail
                  go_rounds 2
                  all_goals go_ret2
                  all_goals exact ⟨by rw [HV.out]; rfl, rfl⟩
                · clear hng
                  go_enter Tryd.func15, Tryd.ntmps15
                  go_wp2_with fail
                  refine HD.out.mono ?_; rintro e w1 ⟨rfl, rfl⟩; rw [HDV.out]
                  go_wp2_with fail
                  refine (Hrow.out _).mono ?_; rintro e w1 ⟨rfl, rfl⟩
                  go_wp2_with fail
                  go_rounds 2
                  all_goals go_ret2
                  all_goals exact ⟨by rw [HV.out]; rfl, rfl⟩
            · have HV := Box.mk (unitT_no (n := 2) hd (M.bad_not t hr (tail_no ht _)))
              clear hl hd hsz hr hlo hhi
              generalize U.b2i c = x at *
              generalize U.b2i d = y at *
              generalize U.b2i e = z at *
              generalize U.rowN x = k at *
              generalize U.rowLo x = lo at *
              generalize U.rowHi x = hi at *
              obtain ⟨hk, hk3, hk4⟩ := hk
              rcases (show z < 128 ∨ (128 ≤ z ∧ 191 < z) by omega) with hv | ⟨hv, hv2⟩
              · clear ht
                go_enter Tryd.func15, Tryd.ntmps15
                go_wp2_with fail
                refine HD.out.mono ?_; rintro e w1 ⟨rfl, rfl⟩; rw [HDV.out]
                go_wp2_with fail
                refine (Hrow.out _).mono ?_; rintro e w1 ⟨rfl, rfl⟩
                go_wp2_with fail
                go_rounds 1
                all_goals go_ret2
                all_goals exact ⟨by rw [HV.out]; rfl, rfl⟩
              · clear ht
                go_enter Tryd.func15, Tryd.ntmps15
                go_wp2_with fail
                refine HD.out.mono ?_; rintro e w1 ⟨rfl, rfl⟩; rw [HDV.out]
                go_wp2_with fail
                refine (Hrow.out _).mono ?_; rintro e w1 ⟨rfl, rfl⟩
                go_wp2_with fail
                go_rounds 1
                all_goals go_ret2
                all_goals exact ⟨by rw [HV.out]; rfl, rfl⟩
        · have HV := Box.mk (unitT_no (n := 1) hd (by
            by_cases hk1 : 1 ≤ U.rowN (U.b2i c)
            · exact M.bad_one _ (rng_no (fun h => hk ⟨hk1, h⟩) _)
            · exact M.bad_one _ (by rw [decide_eq_false (by omega)]; rfl)))
          clear hl hd hsz
          generalize U.b2i c = x at *
          generalize U.b2i d = y at *
          generalize U.rowN x = k at *
          generalize U.rowLo x = lo at *
          generalize U.rowHi x = hi at *
          rcases (show k < 1 ∨ (1 ≤ k ∧ y < lo) ∨ (1 ≤ k ∧ lo ≤ y ∧ hi < y) by omega) with hq | ⟨hq1, hq2⟩ | ⟨hq1, hq2, hq3⟩
          · clear hk
            go_enter Tryd.func15, Tryd.ntmps15
            go_wp2_with fail
            refine HD.out.mono ?_; rintro e w1 ⟨rfl, rfl⟩; rw [HDV.out]
            go_wp2_with fail
            refine (Hrow.out _).mono ?_; rintro e w1 ⟨rfl, rfl⟩
            go_wp2_with fail
            all_goals go_ret2
            all_goals exact ⟨by rw [HV.out]; rfl, rfl⟩
          · clear hk
            go_enter Tryd.func15, Tryd.ntmps15
            go_wp2_with fail
            refine HD.out.mono ?_; rintro e w1 ⟨rfl, rfl⟩; rw [HDV.out]
            go_wp2_with fail
            refine (Hrow.out _).mono ?_; rintro e w1 ⟨rfl, rfl⟩
            go_wp2_with fail
            all_goals go_ret2
            all_goals exact ⟨by rw [HV.out]; rfl, rfl⟩
          · clear hk
            go_enter Tryd.func15, Tryd.ntmps15
            go_wp2_with fail
            refine HD.out.mono ?_; rintro e w1 ⟨rfl, rfl⟩; rw [HDV.out]
            go_wp2_with fail
            refine (Hrow.out _).mono ?_; rintro e w1 ⟨rfl, rfl⟩
            go_wp2_with fail
            all_goals go_ret2
            all_goals exact ⟨by rw [HV.out]; rfl, rfl⟩
end Go.Proofs.YtbagecjkfcoapaaDoor
