/-
  THE DOCUMENT's Bad, Next, Back OF LAYER 2.
-/
import Derived.Test.YtbagecjkfcoapaaDoorMnV
import Derived.Test.YtbagecjkfcoapaaDoorMnJ
namespace Go.Proofs.YtbagecjkfcoapaaDoor
open Go.RowKit

theorem runits_c (s : ByteArray) (m : Nat) (hm : Box ((M.places s.data.toList).length + 1 = m + 1)) (w : World) (hs : s.size ≤ 100000) :
    Calls Tryd.prog 20 #[.string s] w fun e w' => (∃ g off cap, e = .returned (.slice (some ⟨g, off, none⟩) (m + 1) cap) ∧ Box (CutsAt w' g off cap s.data.toList)) ∧ Below w.heap.size w w' := by
  rw [← hm.out]
  exact (runits_any s w hs).mono fun e w' ⟨⟨v, he, hi⟩, hb⟩ => by
    obtain ⟨g, off, cap, rfl, hc⟩ := cuts_of hi
    exact ⟨⟨g, off, cap, he, ⟨hc⟩⟩, hb⟩
theorem take_snoc {α : Type} {l : List α} {k : Nat} {x : α} (h : l[k]? = some x) : l.take (k + 1) = l.take k ++ [x] := by
  rw [List.take_add_one, h]; rfl

set_option maxHeartbeats 1000000 in
theorem rnext_any (s : ByteArray) (q : Int) (w : World) (hs : s.size ≤ 100000) :
    Calls Tryd.prog 16 #[.string s, .int .i64 q] w fun e w' => e = .returned (nextV s.data.toList q) ∧ Below w.heap.size w w' := by
  have HSZ := Box.mk (size_eq s)
  obtain ⟨m, hm⟩ : ∃ m, (M.places s.data.toList).length = m := ⟨_, rfl⟩
  have hmz := places_le s.data.toList
  rw [hm, ← HSZ.out] at hmz
  have HM := Box.mk hm
  have HU := Box.mk (runits_c s m ⟨by rw [hm]⟩ w hs)
  clear hm
  go_enter Tryd.func16, Tryd.ntmps16
  go_wp2_with fail
  refine HU.out.mono ?_; rintro e w1 ⟨⟨g, off, cap, rfl, HC⟩, hb1⟩
  have HB1 := Box.mk hb1
  have hcap1 : m + 1 ≤ cap := by have := HC.out.2.1; have := HM.out; omega
  have hcap2 : cap ≤ 9223372036854775807 := by have := HC.out.2.2.1; unfold maxLen at this; omega
  clear hb1
  go_wp2_with fail
  go_loopw [7] (fun i wr => ∃ k : Nat, k ≤ m ∧ i = .int .i64 k ∧ wr = w1 ∧ Box (M.fwd ((M.places s.data.toList).take k) q = none)) (fun i _ => m - (intOf i).toNat)
  case atStart => exact ⟨0, by omega, rfl, rfl, ⟨rfl⟩⟩
  case round =>
    obtain ⟨k, hk, rfl, rfl, hn⟩ := hrel
    by_cases hlt : k < m
    · obtain ⟨x, hx, g1, g2, g3, -, g4, g5, g6, -⟩ := M.cuts_get (s := s.data.toList) (i := k) (by rw [HM.out]; exact hlt)
      have k0 : wr.cell? ⟨g, off + k, none⟩ = some (.int .i64 (x.1 : Int)) := HC.out.2.2.2 k x.1 g1
      have k1 : wr.cell? ⟨g, off + (k + 1), none⟩ = some (.int .i64 ((x.1 + x.2.1 : Nat) : Int)) := HC.out.2.2.2 (k + 1) _ g2
      have HSN := Box.mk (show M.fwd ((M.places s.data.toList).take (k + 1)) q = (M.fwd ((M.places s.data.toList).take k) q).or (if q = x.1 then some x else none) by rw [take_snoc hx, fwd_snoc])
      have HN := Box.mk (next_yes g3)
      obtain ⟨xa, xm, xo⟩ := x
      clear hx g1 g2 g3 g4 g5 g6
      simp only at k0 k1
      by_cases hq : (xa : Int) = q
      · subst hq
        clear hn HSN
        generalize hz : xa + xm = z at k1
        have HZ := Box.mk hz
        clear hz
        go_wp2_with fail
        go_ret2
        refine ⟨?_, HB1.out⟩
        rw [HN.out]
        have := HZ.out
        simp only
        rw [show (xa : Int) + (xm : Int) = (z : Int) by omega]
        rfl
      · have hq1 : ((xa : Int) == q) = false := by rw [beq_eq_false_iff_ne]; exact hq
        have HN1 := Box.mk (show M.fwd ((M.places s.data.toList).take (k + 1)) q = none by rw [HSN.out, hn.out, if_neg (fun e => hq e.symm)]; rfl)
        clear k1 HN HSN hn
        go_wp2_with fail
        go_roundw
        case rel => exact ⟨k + 1, hlt, by go_num, trivial, HN1⟩
        case measure => simp [intOf]; try omega
    · obtain rfl : k = m := by omega
      have HN := Box.mk (next_no (show M.fwd (M.places s.data.toList) q = none by have := hn.out; rwa [List.take_of_length_le (by rw [HM.out]; omega)] at this))
      clear hn
      go_wp2_with fail
      go_ret2
      exact ⟨by rw [HN.out]; rfl, HB1.out⟩

set_option maxHeartbeats 1000000 in
theorem rback_any (s : ByteArray) (q : Int) (w : World) (hs : s.size ≤ 100000) :
    Calls Tryd.prog 17 #[.string s, .int .i64 q] w fun e w' => e = .returned (backV s.data.toList q) ∧ Below w.heap.size w w' := by
  have HSZ := Box.mk (size_eq s)
  obtain ⟨m, hm⟩ : ∃ m, (M.places s.data.toList).length = m := ⟨_, rfl⟩
  have hmz := places_le s.data.toList
  rw [hm, ← HSZ.out] at hmz
  have HM := Box.mk hm
  have HU := Box.mk (runits_c s m ⟨by rw [hm]⟩ w hs)
  clear hm
  go_enter Tryd.func17, Tryd.ntmps17
  go_wp2_with fail
  refine HU.out.mono ?_; rintro e w1 ⟨⟨g, off, cap, rfl, HC⟩, hb1⟩
  have HB1 := Box.mk hb1
  have hcap1 : m + 1 ≤ cap := by have := HC.out.2.1; have := HM.out; omega
  have hcap2 : cap ≤ 9223372036854775807 := by have := HC.out.2.2.1; unfold maxLen at this; omega
  clear hb1
  go_wp2_with fail
  go_loopw [7] (fun i wr => ∃ k : Nat, k ≤ m ∧ i = .int .i64 k ∧ wr = w1 ∧ Box (M.bwd ((M.places s.data.toList).take k) q = none)) (fun i _ => m - (intOf i).toNat)
  case atStart => exact ⟨0, by omega, rfl, rfl, ⟨rfl⟩⟩
  case round =>
    obtain ⟨k, hk, rfl, rfl, hn⟩ := hrel
    by_cases hlt : k < m
    · obtain ⟨x, hx, g1, g2, -, g3, g4, g5, g6, -⟩ := M.cuts_get (s := s.data.toList) (i := k) (by rw [HM.out]; exact hlt)
      have k0 : wr.cell? ⟨g, off + k, none⟩ = some (.int .i64 (x.1 : Int)) := HC.out.2.2.2 k x.1 g1
      have k1 : wr.cell? ⟨g, off + (k + 1), none⟩ = some (.int .i64 ((x.1 + x.2.1 : Nat) : Int)) := HC.out.2.2.2 (k + 1) _ g2
      have HSN := Box.mk (show M.bwd ((M.places s.data.toList).take (k + 1)) q = (M.bwd ((M.places s.data.toList).take k) q).or (if q = (x.1 : Int) + (x.2.1 : Int) then some x else none) by rw [take_snoc hx, bwd_snoc])
      have HN := Box.mk (back_yes g3)
      obtain ⟨xa, xm, xo⟩ := x
      clear hx g1 g2 g3 g4 g5 g6
      simp only at k0 k1
      obtain ⟨z, hz⟩ : ∃ z, xa + xm = z := ⟨_, rfl⟩
      simp only [hz] at HN
      rw [hz] at k1
      by_cases hq : (z : Int) = q
      · subst hq
        clear hn HSN hz
        go_wp2_with fail
        go_ret2
        exact ⟨by rw [HN.out]; rfl, HB1.out⟩
      · have hq1 : ((z : Int) == q) = false := by rw [beq_eq_false_iff_ne]; exact hq
        have HN1 := Box.mk (show M.bwd ((M.places s.data.toList).take (k + 1)) q = none by rw [HSN.out, hn.out, if_neg (by simp only; omega)]; rfl)
        clear k0 HN HSN hn hz
        go_wp2_with fail
        go_roundw
        case rel => exact ⟨k + 1, hlt, by go_num, trivial, HN1⟩
        case measure => simp [intOf]; try omega
    · obtain rfl : k = m := by omega
      have HN := Box.mk (back_no (show M.bwd (M.places s.data.toList) q = none by have := hn.out; rwa [List.take_of_length_le (by rw [HM.out]; omega)] at this))
      clear hn
      go_wp2_with fail
      go_ret2
      exact ⟨by rw [HN.out]; rfl, HB1.out⟩

set_option maxHeartbeats 1000000 in
theorem rbad_any (s : ByteArray) (w : World) (hs : s.size ≤ 100000) :
    Calls Tryd.prog 24 #[.string s] w fun e w' => e = .returned (.int .i64 (M.badN s.data.toList)) ∧ Below w.heap.size w w' := by
  have HSZ := Box.mk (size_eq s)
  obtain ⟨m, hm⟩ : ∃ m, (M.places s.data.toList).length = m := ⟨_, rfl⟩
  have hmz := places_le s.data.toList
  rw [hm, ← HSZ.out] at hmz
  have HM := Box.mk hm
  have HU := Box.mk (runits_c s m ⟨by rw [hm]⟩ w hs)
  clear hm
  go_enter Tryd.func24, Tryd.ntmps24
  go_wp2_with fail
  refine HU.out.mono ?_; rintro e w1 ⟨⟨g, off, cap, rfl, HC⟩, hb1⟩
  have HB1 := Box.mk hb1
  have hcap1 : m + 1 ≤ cap := by have := HC.out.2.1; have := HM.out; omega
  have hcap2 : cap ≤ 9223372036854775807 := by have := HC.out.2.2.1; unfold maxLen at this; omega
  clear hb1
  go_wp2_with fail
  go_loopw [3, 5] (fun n i wr => ∃ k b : Nat, k ≤ m ∧ b ≤ k ∧ n = .int .i64 b ∧ i = .int .i64 k ∧ wr = w1 ∧ Box (M.bad ((M.places s.data.toList).take k) = b)) (fun _ i _ => m - (intOf i).toNat)
  case atStart => exact ⟨0, 0, by omega, by omega, rfl, rfl, rfl, ⟨rfl⟩⟩
  case round =>
    obtain ⟨k, b, hk, hbk, rfl, rfl, rfl, hn⟩ := hrel
    by_cases hlt : k < m
    · obtain ⟨x, hx, g1, g2, -, g3, g4, g5, g6, g7⟩ := M.cuts_get (s := s.data.toList) (i := k) (by rw [HM.out]; exact hlt)
      have k0 : wr.cell? ⟨g, off + k, none⟩ = some (.int .i64 (x.1 : Int)) := HC.out.2.2.2 k x.1 g1
      have HSN := Box.mk (show M.bad ((M.places s.data.toList).take (k + 1)) = b + (if x.2.2 then 0 else 1) by rw [take_snoc hx, bad_snoc, hn.out])
      obtain ⟨xa, xm, xo⟩ := x
      simp only at k0 g7 g6
      have hxa : xa ≤ s.size := by rw [HSZ.out]; omega
      obtain ⟨X, hX⟩ : ∃ X, s.extract xa s.size = X := ⟨_, rfl⟩
      have hXl := drop_extract s xa
      rw [hX] at hXl
      have hXs : X.size ≤ 16777216 := by rw [size_eq, hXl, List.length_drop, ← HSZ.out]; omega
      have HV := Box.mk (show unitT X.data.toList = .tuple #[.int .i64 xm, .bool xo] by rw [hXl]; unfold unitT; rw [g7])
      have hsl := slice_from' (P := Tryd.prog) (T := 9) Tryd.underlying9 s xa ⟨by omega, by omega⟩
      rw [Int.toNat_natCast, hX] at hsl
      have HRU := Box.mk (runit_any X wr hXs)
      clear hx g1 g2 g3 g4 g5 g6 g7 hX hXl hXs hn
      go_wp2_with fail
      refine HRU.out.mono ?_; rintro e w3 ⟨rfl, rfl⟩; rw [HV.out]
      cases xo with
      | true =>
        go_wp2_with fail
        go_roundw
        case rel => exact ⟨k + 1, b, hlt, by omega, rfl, by go_num, trivial, ⟨HSN.out⟩⟩
        case measure => simp [intOf]; try omega
      | false =>
        go_wp2_with fail
        go_roundw
        case rel => exact ⟨k + 1, b + 1, hlt, by omega, by go_num, by go_num, trivial, ⟨HSN.out⟩⟩
        case measure => simp [intOf]; try omega
    · obtain rfl : k = m := by omega
      have HN := Box.mk (show M.badN s.data.toList = b by have := hn.out; rwa [List.take_of_length_le (by rw [HM.out]; omega)] at this)
      clear hn
      go_wp2_with fail
      go_ret
      exact ⟨by rw [HN.out]; rfl, HB1.out⟩
end Go.Proofs.YtbagecjkfcoapaaDoor
