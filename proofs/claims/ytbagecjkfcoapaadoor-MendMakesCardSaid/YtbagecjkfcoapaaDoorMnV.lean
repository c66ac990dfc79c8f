/-
  THE DOCUMENT's Units OF LAYER 2.
-/
import Derived.Test.YtbagecjkfcoapaaDoorMnU
import Derived.Test.YtbagecjkfcoapaaDoorMnD
namespace Go.Proofs.YtbagecjkfcoapaaDoor
open Go.RowKit

theorem drop_extract (s : ByteArray) (a : Nat) : (s.extract a s.size).data.toList = s.data.toList.drop a := by
  rw [Lib.extract_data, List.take_of_length_le (by rw [List.length_drop, ← size_eq]; omega)]

theorem slice_from' {P : Program} {T : TypeId} (hT : P.underlying T = some .string) (s : ByteArray) (lo : Int) (h : 0 ≤ lo ∧ lo ≤ s.size) :
    ∀ W, (Instr.slice T (.string s) (some (.int .i64 lo)) none none).run P W = .ok (.string (s.extract lo.toNat s.size)) W := by
  intro W
  rw [run_slice_string_from_if W _ _ _ _ hT, if_pos (by omega)]

set_option maxHeartbeats 2000000 in
theorem runits_any (s : ByteArray) (w : World) (hs : s.size ≤ 100000) :
    Calls Tryd.prog 20 #[.string s] w fun e w' => (∃ v, e = .returned v ∧ IntsAt w' v (cutsV s.data.toList)) ∧ Below w.heap.size w w' := by
  have HSZ := Box.mk (size_eq s)
  obtain ⟨i0, hi, hz0, hz1, hz2⟩ := info_parts int_info
  go_enter Tryd.func20, Tryd.ntmps20
  go_wp2_with fail
  go_loopw [3, 4] (fun o i wr => ∃ (a : Nat) (pre : List M.Place), a ≤ s.size ∧ i = .int .i64 a ∧ Box (pre ++ M.rest s.data.toList a = M.places s.data.toList) ∧ Box (wr.ownsRow w.heap.size 3 1 o (pre.length + 1) (cutsC pre)) ∧ Box (Below w.heap.size w wr))
    (fun _ i _ => s.size - (intOf i).toNat)
  case atStart =>
    refine ⟨0, [], by omega, rfl, ⟨by rw [M.rest_zero]; rfl⟩, ⟨?_⟩, ⟨alloc_below _ _⟩⟩
    exact World.ownsRow_lit (base := w.heap.size) (e := 3) (size := 1) w #[.int .i64 0] 1 (Nat.le_refl _) (by unfold maxLen; omega) rfl
  case round =>
    obtain ⟨a, pre, ha, rfl, hp, ho, hb⟩ := hrel
    by_cases hlt : a < s.size
    · have hlt' : a < s.data.toList.length := by rw [← HSZ.out]; exact hlt
      obtain ⟨m, ok, hu⟩ : ∃ m ok, M.unit (s.data.toList.drop a) = (m, ok) := ⟨_, _, rfl⟩
      have hua := M.unit_at hlt'
      have hrc := M.rest_cons s.data.toList a hlt'
      rw [hu] at hua hrc
      simp only at hua hrc
      obtain ⟨X, hX⟩ : ∃ X, s.extract a s.size = X := ⟨_, rfl⟩
      have hXl := drop_extract s a
      rw [hX] at hXl
      have hXs : X.size ≤ 16777216 := by rw [size_eq, hXl, List.length_drop, ← HSZ.out]; omega
      have HU := Box.mk (show unitT X.data.toList = .tuple #[.int .i64 m, .bool ok] by rw [hXl]; unfold unitT; rw [hu])
      have HP := Box.mk (show pre ++ (a, m, ok) :: M.rest s.data.toList (a + m) = M.places s.data.toList by rw [← hrc]; exact hp.out)
      have hpl : pre.length < s.size := by
        have h1 := congrArg List.length HP.out
        have h2 := places_le s.data.toList
        simp only [List.length_append, List.length_cons] at h1
        rw [← HSZ.out] at h2
        omega
      have ham : a + m ≤ s.size := by rw [HSZ.out]; exact hua.2.2
      have hm1 := hua.1
      have hm4 := hua.2.1
      have hsl := slice_from' (P := Tryd.prog) (T := 9) Tryd.underlying9 s a ⟨by omega, by omega⟩
      rw [Int.toNat_natCast, hX] at hsl
      have HRU := Box.mk (runit_any X wr hXs)
      have HSN := Box.mk (cutsC_snoc pre (a, m, ok))
      clear hlt' hu hua hrc hX hXl hXs hp
      obtain ⟨og, oc, rfl⟩ := ownsRow_succ ho.out
      go_wp2_with fail
      refine HRU.out.mono ?_; rintro e w3 ⟨rfl, rfl⟩; rw [HU.out]
      go_wp2_with (at_builtin; refine wpList_append_own _ rfl _ _ 31 rfl w.heap.size 3 i0 (.int .i64 0) 1 8 Tryd.underlying31 hi hz0 hz1 hz2 rfl (by decide) _ _ _ rfl (ho.out.alloc _) ⟨wr.heap.size, 0, none⟩ 1 1 [.int .i64 ((a : Int) + (m : Int))] rfl rfl (cell_one_new _ _ _) (by simp [Value.oneCell']) (by unfold maxLen; omega) (by omega) (by have := hb.out.size; simp; omega) ?_; intro v' w4 hown' hgrow _; obtain ⟨g', cap', rfl⟩ := ownsRow_succ hown')
      have HOW := Box.mk (show w4.ownsRow w.heap.size 3 1 (.slice (some ⟨g', 0, none⟩) (pre.length + 1 + 1) cap') ((pre ++ [(a, m, ok)]).length + 1) (cutsC (pre ++ [(a, m, ok)])) by rw [HSN.out, List.length_append]; exact hown')
      have HB4 := Box.mk (show Below w.heap.size w w4 from (hb.out.alloc hb.out.size _).grown hgrow (by have := hb.out.size; simp; omega) (fun q hq => (ho.out.lt q hq).1))
      clear hown' hgrow
      go_wp2_with fail
      go_roundw
      case rel => exact ⟨a + m, pre ++ [(a, m, ok)], ham, by go_num, ⟨by rw [List.append_assoc]; exact HP.out⟩, HOW, HB4⟩
      case measure => simp [intOf]; omega
    · have HEND := Box.mk (show pre = M.places s.data.toList by
        have := hp.out
        rw [M.rest_end _ _ (by rw [← HSZ.out]; omega), List.append_nil] at this
        exact this)
      obtain ⟨og, oc, rfl⟩ := ownsRow_succ ho.out
      go_wp2_with fail
      go_ret
      refine ⟨⟨_, rfl, ?_⟩, hb.out⟩
      have := ho.out
      rw [HEND.out] at this
      refine IntsAt.of_own (n := (M.places s.data.toList).length + 1) (T := 3) (base := w.heap.size) ?_ (by unfold cutsV; rw [List.length_map, M.cuts_len])
      unfold cutsV
      rw [List.map_map]
      have h2 : pre.length = (M.places s.data.toList).length := by rw [HEND.out]
      rw [← h2]
      rw [← h2] at this
      exact this
end Go.Proofs.YtbagecjkfcoapaaDoor
