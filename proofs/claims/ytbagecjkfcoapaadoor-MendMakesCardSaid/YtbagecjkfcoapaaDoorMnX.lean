/-
  THE DOCUMENT's Repair OF LAYER 2.
-/
import Derived.Test.YtbagecjkfcoapaaDoorMnW
import Derived.Test.YtbagecjkfcoapaaDoorMnE
import Derived.Test.YtbagecjkfcoapaaDoorMnK
import Derived.IntWalk
import Derived.Deep.RegionLaw
import Derived.Laws.IdiomStrings
import Derived.Laws.BytesArg
namespace Go.Proofs.YtbagecjkfcoapaaDoor
open Go.RowKit

/-- append of a text's bytes, as one step of a region -/
theorem step_append_str {P : Program} {ops : Array Oper} {o : Oper} {a : Act} (w : World) {K : Act → World → Prop} {Q : Exit → Act → World → Prop} {E : Prop} (hgd : o.guard = none) (sl x : Operand) (t u : TypeId)
    (ho : o.op = .call { callee := .builtin .append, args := #[sl, x], argTypes := #[t, u] })
    (base : Nat) (e : TypeId) (i : TypeInfo) (ht : P.underlying t = some (.slice e)) (hu : P.underlying u = some .string) (hi : P.info? e = some i) (hz : i.zero = some (.int .u8 0))
    (hsize : i.size = 1) (hby : i.bytes = 1)
    (v : Value) (n : Nat) (xs : List Value) (hs : a.eval sl = v) (hown : w.ownsRow base e 1 v n xs) (s : ByteArray) (hx : a.eval x = .string s)
    (h63 : n + s.size ≤ maxLen) (hbytes : n + s.size ≤ 140737488355328) (hbase : base ≤ w.heap.size)
    (h : ∀ v' w', w'.ownsRow base e 1 v' (n + s.size) (xs ++ Lib.strCells s) → w.grownBy w' v.ownBlock → K (a.put o.dst v') w') :
    if Region.wanted o (yielded ops a.tmps) = true then Oper.wp P o a w K Q else E := by
  have hw : Region.wanted o (yielded ops a.tmps) = true := by simp [Region.wanted, hgd]
  rw [if_pos hw]
  obtain ⟨v', w', hr, h2, h3, h4⟩ := Lib.run_append_own_string (P := P) w base t u o.type e i ht hu hi hz hsize hby v n xs hown s h63 hbytes hbase
  unfold Oper.wp execOp
  simp only [ho, resolve, invoke, builtin, Sem.run_bind, Sem.run_pure, Result.andThen_ok, List.map_toArray, List.map_cons, List.map_nil, hs, hx, hr]
  exact h v' w' h2 h3

/-- a row of bytes, as a text -/
theorem conv_own {P : Program} {src dst e : TypeId} {W : World} {base n : Nat} {v : Value} {l : List UInt8} (hs : P.underlying src = some (.slice e)) (he : P.underlying e = some (.int .u8)) (hd : P.underlying dst = some .string)
    (h : W.ownsRow base e 1 v n (Lib.byteCells l)) : (convert src dst v).run P W = .ok (.string ⟨l.toArray⟩) W := by
  have hn : l.length = n := by have := h.1; rw [Lib.byteCells_length, Nat.mul_one] at this; exact this
  subst hn
  rcases h.2 with ⟨rfl, h2⟩ | ⟨g, cap, cur, rfl, -⟩
  · obtain rfl := List.eq_nil_of_length_eq_zero h2
    exact run_convert_bytes_nil W src e hs he 0 0 dst hd
  · refine run_convert_bytes_back W src dst e _ cap l hs he hd fun j hj => ?_
    exact h.cells (g := g) rfl j (.int .u8 (l[j].toNat : Int)) (by unfold Lib.byteCells; rw [List.getElem?_map, List.getElem?_eq_getElem hj]; rfl)
theorem cells_join (a b : List UInt8) : Lib.byteCells (a ++ b) = Lib.byteCells a ++ Lib.byteCells b := by simp [Lib.byteCells]
theorem row_slice {w : World} {base : Nat} {e : TypeId} {size : Nat} {v : Value} {n : Nat} {xs : List Value} (h : w.ownsRow base e size v n xs) : ∃ a c, v = .slice a n c := by
  rcases h.2 with ⟨rfl, rfl⟩ | ⟨g, cap, cur, rfl, _⟩
  · exact ⟨_, _, rfl⟩
  · exact ⟨_, _, rfl⟩
theorem row_below {w w' : World} {base : Nat} {e : TypeId} {v : Value} {n : Nat} {xs : List Value} (h : w.ownsRow base e 1 v n xs) (hb : Below w.heap.size w w') : w'.ownsRow base e 1 v n xs :=
  (Turns.of_below hb).row h (fun _ _ h => h)

set_option maxHeartbeats 2000000 in
theorem rrepair_any (s : ByteArray) (w : World) (hs : s.size ≤ 100000) :
    Calls Tryd.prog 22 #[.string s] w fun e w' => e = .returned (.string ⟨(M.fix s.data.toList).toArray⟩) ∧ Below w.heap.size w w' := by
  have HSZ := Box.mk (size_eq s)
  obtain ⟨m, hm⟩ : ∃ m, (M.places s.data.toList).length = m := ⟨_, rfl⟩
  have hmz := places_le s.data.toList
  rw [hm, ← HSZ.out] at hmz
  have HM := Box.mk hm
  have HU := Box.mk (runits_c s m ⟨by rw [hm]⟩ w hs)
  obtain ⟨i0, hi, hz0, hz1, hz2⟩ := info_parts u8Info
  clear hm
  go_enter Tryd.func22, Tryd.ntmps22
  go_wp2_with fail
  refine HU.out.mono ?_; rintro e w1 ⟨⟨g, off, cap, rfl, HC⟩, hb1⟩
  have HB1 := Box.mk hb1
  have hcap1 : m + 1 ≤ cap := by have := HC.out.2.1; have := HM.out; omega
  have hcap2 : cap ≤ 9223372036854775807 := by have := HC.out.2.2.1; unfold maxLen at this; omega
  clear hb1
  go_wp2_with fail
  go_loopw [3, 5] (fun o i wr => ∃ k n : Nat, k ≤ m ∧ n ≤ 4 * k ∧ i = .int .i64 k ∧ Box (wr.ownsRow w1.heap.size 5 1 o n (Lib.byteCells (M.repair s.data.toList ((M.places s.data.toList).take k)))) ∧ Box (Below w1.heap.size w1 wr)) (fun _ i _ => m - (intOf i).toNat)
  case atStart => exact ⟨0, 0, by omega, by omega, rfl, ⟨World.ownsRow_nil _ _ _ _⟩, ⟨Below.refl _ _⟩⟩
  case round =>
    obtain ⟨k, n, hk, hnk, rfl, ho, hb⟩ := hrel
    by_cases hlt : k < m
    · obtain ⟨x, hx, g1, g2, -, g3, g4, g5, g6, g7⟩ := M.cuts_get (s := s.data.toList) (i := k) (by rw [HM.out]; exact hlt)
      have hcu := HC.out.below hb.out
      have k0 : wr.cell? ⟨g, off + k, none⟩ = some (.int .i64 (x.1 : Int)) := hcu.2.2.2 k x.1 g1
      have k1 : wr.cell? ⟨g, off + (k + 1), none⟩ = some (.int .i64 ((x.1 + x.2.1 : Nat) : Int)) := hcu.2.2.2 (k + 1) _ g2
      have HSN := Box.mk (show Lib.byteCells (M.repair s.data.toList ((M.places s.data.toList).take (k + 1))) = Lib.byteCells (M.repair s.data.toList ((M.places s.data.toList).take k)) ++ Lib.byteCells (M.mended s.data.toList x) by rw [take_snoc hx, repair_snoc, cells_join])
      obtain ⟨xa, xm, xo⟩ := x
      simp only at k0 k1 g5 g6 g7
      have hxa : xa + xm ≤ s.size := by rw [HSZ.out]; exact g6
      obtain ⟨X, hX⟩ : ∃ X, s.extract xa s.size = X := ⟨_, rfl⟩
      have hXl := drop_extract s xa
      rw [hX] at hXl
      have hXs : X.size ≤ 16777216 := by rw [size_eq, hXl, List.length_drop, ← HSZ.out]; omega
      have HV := Box.mk (show unitT X.data.toList = .tuple #[.int .i64 xm, .bool xo] by rw [hXl]; unfold unitT; rw [g7])
      have hsl := slice_from' (P := Tryd.prog) (T := 9) Tryd.underlying9 s xa ⟨by omega, by omega⟩
      rw [Int.toNat_natCast, hX] at hsl
      have HRU := Box.mk (runit_any X wr hXs)
      have HO3 := Box.mk (row_below ho.out (drew_below' wr 1))
      obtain ⟨oa, oc, rfl⟩ := row_slice ho.out
      clear hx g1 g2 g3 g4 g6 g7 hX hXl hXs hcu
      cases xo with
      | true =>
        have hYl : (s.extract xa (xa + xm)).data.toList = (s.data.toList.drop xa).take xm := by rw [Lib.extract_data, Nat.add_sub_cancel_left]
        have hs2 := slice_str (P := Tryd.prog) (T := 9) Tryd.underlying9 s xa ((xa + xm : Nat) : Int) ⟨by omega, by omega, by omega⟩
        rw [Int.toNat_natCast, Int.toNat_natCast] at hs2
        obtain ⟨Y, hY⟩ : ∃ Y, s.extract xa (xa + xm) = Y := ⟨_, rfl⟩
        rw [hY] at hs2 hYl
        have hYz : Y.size ≤ 4 := by rw [size_eq, hYl, List.length_take]; omega
        have HY := Box.mk (show Lib.byteCells (M.mended s.data.toList (xa, xm, true)) = Lib.strCells Y by unfold M.mended Lib.strCells Lib.byteCells; rw [if_pos rfl, hYl])
        clear hYl hY
        generalize xa + xm = z at k1 hs2 hxa
        have hw1 : IntKind.i64.wrap ((k : Int) + 1) = (k : Int) + 1 := IntWalk.i64_in _ (by omega)
        have hw2 : 0 ≤ (k : Int) + 1 := by omega
        have hw3 : ((k : Int) + 1).toNat = k + 1 := by omega
        have hw4 : (k : Int) + 1 < (m : Int) + 1 := by omega
        have hw5 : (k : Int) < (m : Int) + 1 := by omega
        go_wp2_with fail
        refine HRU.out.mono ?_; rintro e w3 ⟨rfl, rfl⟩; rw [HV.out]
        go_wp2_with fail
        go_region_law (refine step_append_str _ rfl _ _ 63 9 rfl w1.heap.size 5 i0 Tryd.underlying63 Tryd.underlying9 hi hz0 hz1 hz2 _ _ _ rfl HO3.out Y rfl ?c3 ?c4 ?c5 ?_; (case c3 => unfold maxLen; omega); (case c4 => omega); (case c5 => have := hb.out.size; simp; omega); intro v' w4 hown' hgrow; obtain ⟨oa', oc', rfl⟩ := row_slice hown')
        all_goals
          have HOW := Box.mk (show w4.ownsRow w1.heap.size 5 1 (.slice oa' (n + Y.size) oc') (n + Y.size) (Lib.byteCells (M.repair s.data.toList ((M.places s.data.toList).take (k + 1)))) by rw [HSN.out, HY.out]; exact hown')
          have HB4 := Box.mk (show Below w1.heap.size w1 w4 from (hb.out.trans ((drew_below' wr 1).mono hb.out.size)).grown hgrow (by have := hb.out.size; simp; omega) (fun q hq => (ho.out.lt q hq).1))
          clear hown' hgrow hw1 hw2 hw3 hw4 hw5
          go_wp2_with fail
          go_roundw
          case rel => exact ⟨k + 1, n + Y.size, hlt, by omega, by go_num, HOW, HB4⟩
          case measure => simp [intOf]; try omega
      | false =>
        have HY := Box.mk (show Lib.byteCells (M.mended s.data.toList (xa, xm, false)) = Lib.strCells ⟨#[239, 191, 189]⟩ by unfold M.mended; rfl)
        clear k1
        go_wp2_with fail
        refine HRU.out.mono ?_; rintro e w3 ⟨rfl, rfl⟩; rw [HV.out]
        go_wp2_with (at_builtin; refine Lib.wpList_append_own_string _ rfl _ _ 63 9 rfl w1.heap.size 5 i0 Tryd.underlying63 Tryd.underlying9 hi hz0 hz1 hz2 _ _ _ rfl ho.out ⟨#[239, 191, 189]⟩ rfl ?c3 ?c4 ?c5 ?_)
        case c3 => show n + 3 ≤ maxLen; unfold maxLen; omega
        case c4 => show n + 3 ≤ _; omega
        case c5 => have := hb.out.size; omega
        intro v' w4 hown' hgrow _
        obtain ⟨oa', oc', rfl⟩ := row_slice hown'
        have HOW := Box.mk (show w4.ownsRow w1.heap.size 5 1 (.slice oa' (n + 3) oc') (n + 3) (Lib.byteCells (M.repair s.data.toList ((M.places s.data.toList).take (k + 1)))) by rw [HSN.out, HY.out]; exact hown')
        have HB4 := Box.mk (show Below w1.heap.size w1 w4 from hb.out.grown hgrow (by have := hb.out.size; omega) (fun q hq => (ho.out.lt q hq).1))
        clear hown' hgrow
        go_wp2_with fail
        go_roundw
        case rel => exact ⟨k + 1, n + 3, hlt, by omega, by go_num, HOW, HB4⟩
        case measure => simp [intOf]; try omega
    · obtain rfl : k = m := by omega
      have hrow := ho.out
      rw [List.take_of_length_le (by rw [HM.out]; omega)] at hrow
      have hcv := conv_own (P := Tryd.prog) (src := 63) (dst := 9) Tryd.underlying63 Tryd.underlying5 Tryd.underlying9 hrow
      obtain ⟨F, hF⟩ : ∃ F, M.repair s.data.toList (M.places s.data.toList) = F := ⟨_, rfl⟩
      rw [hF] at hcv
      have HF := Box.mk (show M.fix s.data.toList = F from hF)
      obtain ⟨oa, oc, rfl⟩ := row_slice ho.out
      clear hrow hF
      go_wp2_with fail
      go_ret
      exact ⟨by rw [HF.out]; rfl, HB1.out.trans (hb.out.mono HB1.out.size)⟩
end Go.Proofs.YtbagecjkfcoapaaDoor
