/-
  THE TEXT OF A LIST OF NUMBERS: the program's and the document's.
-/
import Derived.Test.YtpmdmphdldnjiaaDoorScText
import Derived.Lib.BufferRead
namespace Go.Proofs.YtpmdmphdldnjiaaDoor
open Go.RowKit

def textV (xs : List Int) : Value := if xs.all U.right = true then .tuple #[.string ⟨(U.textOf xs).toArray⟩, .int .i64 0] else .tuple #[.string ⟨#[]⟩, .int .i64 10]
theorem textOf_le (xs : List Int) : (U.textOf xs).length ≤ 4 * xs.length := by
  induction xs with
  | nil => simp [U.textOf]
  | cons x t ih =>
    have := U.enc_len x
    simp only [U.textOf, List.flatMap_cons, List.length_append, List.length_cons] at ih ⊢
    omega
theorem textOf_take (xs : List Int) (k : Nat) (x : Int) (h : xs[k]? = some x) : U.textOf (xs.take (k + 1)) = U.textOf (xs.take k) ++ U.enc x := by
  rw [List.take_add_one, h, U.textOf_append]; simp [U.textOf]
theorem all_take (xs : List Int) (k : Nat) (x : Int) (h : xs[k]? = some x) (ha : (xs.take k).all U.right = true) (hx : U.right x = true) : (xs.take (k + 1)).all U.right = true := by
  rw [List.take_add_one, h, List.all_append, ha]; simp [hx]
theorem textV_no (xs : List Int) (k : Nat) (x : Int) (h : xs[k]? = some x) (hx : U.right x = false) : textV xs = .tuple #[.string ⟨#[]⟩, .int .i64 10] := by
  unfold textV
  rw [if_neg]
  intro ha
  rw [List.all_eq_true] at ha
  rw [ha x (List.mem_of_getElem? h)] at hx
  cases hx
theorem textV_yes (xs : List Int) (h : xs.all U.right = true) : textV xs = .tuple #[.string ⟨(U.textOf xs).toArray⟩, .int .i64 0] := by unfold textV; rw [if_pos h]

theorem isBuilder_below {w w' : World} {B b : Nat} {bs : List Value} (h : Lib.IsBuilder 60 5 B b bs w) (hb : Below w.heap.size w w') : Lib.IsBuilder 60 5 B b bs w' := by
  have key : ∀ p, Lib.BuilderAt 60 5 B b p bs w → Lib.BuilderAt 60 5 B b p bs w' := by
    rintro p hp
    have hlt := hp.lt
    obtain ⟨hB, v, hk, ho, hne⟩ := hp
    refine ⟨hB, v, (hb.block b hlt).trans hk, ?_, hne⟩
    have hol := ho.lt
    refine ⟨ho.1, ?_⟩
    rcases ho.2 with h2 | ⟨g, cap, cur, h2, h3, h4, h5⟩
    · exact .inl h2
    · exact .inr ⟨g, cap, cur, h2, h3, (hb.block g (hol g (by rw [h2]; rfl)).2).trans h4, h5⟩
  rcases h with h | h
  · exact .inl (key _ h)
  · exact .inr (key _ h)

set_option maxHeartbeats 4000000 in
theorem text_any (A : Nat → Addr) (B : Nat) (v : Value) (xs : List Int) (w : World) (hv : IntsAt w v xs) (hz : xs.length ≤ 1000) (hE : E A B w) (hB : B ≤ w.heap.size) :
    Calls Tryd.prog 23 #[v] w fun e w' => e = .returned (textV xs) ∧ Below w.heap.size w w' := by
  have HVB := Box.mk hv
  obtain ⟨ao, cap, rfl⟩ := hv.slice
  clear hv
  have HE := Box.mk hE
  clear hE
  go_enter Tryd.func23, Tryd.ntmps23
  go_wp2
  have hW1 : Below w.heap.size w (w.alloc (.cells #[.pointer none, .slice none 0 0] 60)) := (Below.refl _ _).alloc (Nat.le_refl _) _
  have hF := Lib.fresh_isBuilder 60 5 w
  go_loopw [11] (fun i wr => ∃ k : Nat, k ≤ xs.length ∧ i = .int .i64 k ∧ Box ((xs.take k).all U.right = true) ∧ Box (Lib.IsBuilder 60 5 w.heap.size w.heap.size (Lib.byteCells (U.textOf (xs.take k))) wr) ∧ Box (Below w.heap.size w wr))
    (fun i _ => xs.length - (intOf i).toNat)
  case atStart => exact ⟨0, by omega, rfl, ⟨rfl⟩, ⟨hF⟩, ⟨hW1⟩⟩
  case round =>
    obtain ⟨k, hk, rfl, ha, hib, hb⟩ := hrel
    clear hW1 hF
    by_cases hlt : k < xs.length
    · obtain ⟨x, hx⟩ : ∃ x, xs[k]? = some x := ⟨_, List.getElem?_eq_getElem hlt⟩
      have HX := Box.mk hx
      have HE2 := Box.mk (HE.out.below (hb.out.mono hB))
      obtain ⟨g, off, cap2, hg1, hg2, hg3, hg4, hg5⟩ := (HVB.out.below hb.out).get (by rintro rfl; simp at hlt)
      obtain ⟨rfl, rfl⟩ : ao = some ⟨g, off, none⟩ ∧ cap = cap2 := by injection hg1 with h1 h2 h3; exact ⟨h1, h3⟩
      have hc := hg5 k x hx
      unfold maxLen at hg3
      clear hx hg1 hg5
      cases hr : U.right x with
      | true =>
        have HV := Box.mk (encV_yes' x hr)
        have HA := Box.mk (all_take xs k x HX.out ha.out hr)
        clear hr
        go_wp2_with fail
        refine (enc_any A B x _ HE2.out).mono ?_; rintro e w1 ⟨rfl, hb1⟩; rw [HV.out]
        have HB1 := Box.mk hb1
        have HI1 := Box.mk (isBuilder_below hib.out hb1)
        have HS1 := Box.mk (show w.heap.size ≤ w1.heap.size from Nat.le_trans hb.out.size hb1.size)
        have HTL := Box.mk (show (U.textOf (xs.take k)).length + (⟨(U.enc x).toArray⟩ : ByteArray).size ≤ 16777216 by
          have h1 := textOf_le (xs.take k)
          have h2 := (U.enc_len x).2
          rw [List.length_take] at h1
          rw [str_size]; omega)
        clear hb1
        go_wp2_with fail
        refine (bWrite_any w.heap.size w.heap.size _ _ _ HI1.out HTL.out HS1.out).mono ?_; rintro e w2 ⟨rfl, hi2, hb2⟩
        have HI2 := Box.mk (show Lib.IsBuilder 60 5 w.heap.size w.heap.size (Lib.byteCells (U.textOf (xs.take (k + 1)))) w2 by rw [textOf_take xs k x HX.out]; exact hi2)
        have HB2' := Box.mk (show Below w.heap.size w w2 from (hb.out.trans (HB1.out.mono hb.out.size)).trans hb2)
        clear hi2 hb2
        go_wp2_with fail
        go_roundw
        case rel => exact ⟨k + 1, hlt, by go_num, HA, HI2, HB2'⟩
        case measure => simp [intOf]; omega
      | false =>
        have HV := Box.mk (encV_no hr)
        have HT := Box.mk (textV_no xs k x HX.out hr)
        clear hr
        go_wp2_with fail
        refine (enc_any A B x _ HE2.out).mono ?_; rintro e w1 ⟨rfl, hb1⟩; rw [HV.out]
        go_wp2_with fail
        go_ret2
        exact ⟨by rw [HT.out]; rfl, hb.out.trans (hb1.mono hb.out.size)⟩
    · have HT := Box.mk (show xs.all U.right = true by have := ha.out; rwa [List.take_of_length_le (by omega)] at this)
      have HI := Box.mk (show Lib.IsBuilder 60 5 w.heap.size w.heap.size (Lib.byteCells (U.textOf xs)) wr by have := hib.out; rwa [List.take_of_length_le (by omega)] at this)
      go_wp2_with fail
      refine (bString_any w.heap.size w.heap.size _ _ HI.out hb.out.size).mono ?_; rintro e w1 ⟨rfl, hb1⟩
      go_wp2_with fail
      go_ret2
      exact ⟨by rw [textV_yes xs HT.out]; rfl, hb.out.trans hb1⟩

theorem own_below {w w' : World} {B : Nat} {v : Value} {n : Nat} {bs : List Value} (h : w.ownsRow B 5 1 v n bs) (hb : Below w.heap.size w w') : w'.ownsRow B 5 1 v n bs := by
  have hl := h.lt
  refine ⟨h.1, ?_⟩
  rcases h.2 with h2 | ⟨g, cap, cur, h2, h3, h4, h5⟩
  · exact .inl h2
  · exact .inr ⟨g, cap, cur, h2, h3, (hb.block g (hl g (by rw [h2]; rfl)).2).trans h4, h5⟩
/-- a row of bytes of one's own, as a string -/
theorem own_bytes {w : World} {B : Nat} {v : Value} {l : List UInt8} (h : w.ownsRow B 5 1 v l.length (Lib.byteCells l)) :
    (convert 44 9 v).run Tryd.prog w = .ok (.string ⟨l.toArray⟩) w := by
  rcases h.2 with ⟨rfl, h2⟩ | ⟨g, cap, cur, rfl, h2, h3, h4⟩
  · obtain rfl := List.eq_nil_of_length_eq_zero h2
    exact Lib.run_convert_nil_bytes w _ _ _ 0 Tryd.underlying44 Tryd.underlying5 Tryd.underlying9
  · have hc := h.cells (g := g) rfl
    rw [run_convert_bytes_arg w 44 5 Tryd.underlying44 Tryd.underlying5 g 0 l.length cap (l.map fun b => (b.toNat : Int)) (by simp) (fun i hi => ?_) 9 Tryd.underlying9]
    · show Result.ok (Value.string ⟨((l.map fun b => (b.toNat : Int)).map U.byte).toArray⟩) w = _
      rw [List.map_map, show (U.byte ∘ fun b : UInt8 => (b.toNat : Int)) = id from funext fun b => U.byte_b2i b, List.map_id]
    · have := hc i (.int .u8 ((l.map fun b => (b.toNat : Int)).getD i 0)) (by
        simp [Lib.byteCells, List.getElem?_map, List.getElem?_eq_getElem hi])
      rw [show (⟨g, 0 + i, none⟩ : Addr) = (⟨g, 0, none⟩ : Addr).add i by unfold Addr.add; by_cases h0 : i = 0 <;> simp [h0]]
      exact this

set_option maxHeartbeats 4000000 in
theorem rtext_any (v : Value) (xs : List Int) (w : World) (hv : IntsAt w v xs) (hz : xs.length ≤ 1000) :
    Calls Tryd.prog 24 #[v] w fun e w' => e = .returned (textV xs) ∧ Below w.heap.size w w' := by
  obtain ⟨i0, hi, hz0, hz1, hz2⟩ := info_parts u8Info
  have HVB := Box.mk hv
  obtain ⟨ao, cap, rfl⟩ := hv.slice
  clear hv
  go_enter Tryd.func24, Tryd.ntmps24
  go_wp2
  go_loopw [5, 4] (fun i o wr => ∃ k : Nat, k ≤ xs.length ∧ i = .int .i64 k ∧ Box ((xs.take k).all U.right = true) ∧ Box (wr.ownsRow w.heap.size 5 1 o (U.textOf (xs.take k)).length (Lib.byteCells (U.textOf (xs.take k)))) ∧ Box (Below w.heap.size w wr))
    (fun i _ _ => xs.length - (intOf i).toNat)
  case atStart => exact ⟨0, by omega, rfl, ⟨rfl⟩, ⟨World.ownsRow_nil _ _ _ _⟩, ⟨Below.refl _ _⟩⟩
  case round =>
    obtain ⟨k, hk, rfl, ha, ho, hb⟩ := hrel
    by_cases hlt : k < xs.length
    · obtain ⟨x, hx⟩ : ∃ x, xs[k]? = some x := ⟨_, List.getElem?_eq_getElem hlt⟩
      have HX := Box.mk hx
      obtain ⟨g, off, cap2, hg1, hg2, hg3, hg4, hg5⟩ := (HVB.out.below hb.out).get (by rintro rfl; simp at hlt)
      obtain ⟨rfl, rfl⟩ : ao = some ⟨g, off, none⟩ ∧ cap = cap2 := by injection hg1 with h1 h2 h3; exact ⟨h1, h3⟩
      have hc := hg5 k x hx
      unfold maxLen at hg3
      clear hx hg1 hg5
      cases hr : U.right x with
      | true =>
        have HV := Box.mk (encV_yes' x hr)
        have HA := Box.mk (all_take xs k x HX.out ha.out hr)
        have HS1 := Box.mk (show w.heap.size ≤ wr.heap.size from hb.out.size)
        have HTL := Box.mk (show (U.textOf (xs.take k)).length + (⟨(U.enc x).toArray⟩ : ByteArray).size ≤ 16777216 by
          have h1 := textOf_le (xs.take k)
          have h2 := (U.enc_len x).2
          rw [List.length_take] at h1
          rw [str_size]; omega)
        have HTX := Box.mk (textOf_take xs k x HX.out)
        clear hr
        go_wp2_with fail
        refine (renc_any x _).mono ?_; rintro e w1 ⟨rfl, hb1⟩; rw [HV.out]
        have HO1 := Box.mk (show w1.ownsRow w.heap.size 5 1 _ _ _ from own_below ho.out hb1)
        have HB1 := Box.mk (show Below w.heap.size w w1 from hb.out.trans (hb1.mono hb.out.size))
        clear hb1
        go_wp2_with (at_builtin; refine Lib.wpList_append_own_string _ rfl _ _ 44 9 rfl w.heap.size 5 i0 Tryd.underlying44 Tryd.underlying9 hi hz0 hz1 hz2 _ _ _ rfl HO1.out _ rfl (by have := HTL.out; unfold maxLen; omega) (by have := HTL.out; omega) HB1.out.size ?_; intro v' w2 hown' hgrow _)
        have HO2 := Box.mk (show w2.ownsRow w.heap.size 5 1 v' (U.textOf (xs.take (k + 1))).length (Lib.byteCells (U.textOf (xs.take (k + 1)))) by
          rw [HTX.out, List.length_append]
          rw [str_size] at hown'
          rw [show Lib.byteCells (U.textOf (xs.take k) ++ U.enc x) = Lib.byteCells (U.textOf (xs.take k)) ++ Lib.strCells ⟨(U.enc x).toArray⟩ by simp [Lib.byteCells, Lib.strCells]]
          exact hown')
        have HB2 := Box.mk (show Below w.heap.size w w2 from HB1.out.grown hgrow HB1.out.size (fun k hk => (HO1.out.lt k hk).1))
        clear hown' hgrow
        obtain ⟨a2, n2, c2, rfl⟩ : ∃ ao n' cap, v' = .slice ao n' cap := by
          rcases HO2.out.2 with ⟨hv, _⟩ | ⟨g, cap, cur, hv, _⟩
          · exact ⟨_, _, _, hv⟩
          · exact ⟨_, _, _, hv⟩
        go_wp2_with fail
        go_roundw
        case rel => exact ⟨k + 1, hlt, by go_num, HA, HO2, HB2⟩
        case measure => simp [intOf]; omega
      | false =>
        have HV := Box.mk (encV_no hr)
        have HT := Box.mk (textV_no xs k x HX.out hr)
        clear hr
        go_wp2_with fail
        refine (renc_any x _).mono ?_; rintro e w1 ⟨rfl, hb1⟩; rw [HV.out]
        go_wp2_with fail
        go_ret2
        exact ⟨by rw [HT.out]; rfl, hb.out.trans (hb1.mono hb.out.size)⟩
    · have HT := Box.mk (show xs.all U.right = true by have := ha.out; rwa [List.take_of_length_le (by omega)] at this)
      have ho' := ho.out
      rw [List.take_of_length_le (by omega)] at ho'
      have hc := own_bytes ho'
      clear ho
      rcases ho'.2 with ⟨rfl, _⟩ | ⟨g, cap2, cur, rfl, _⟩
      all_goals
        clear ho'
        go_wp2_with fail
        go_ret2
        exact ⟨by rw [textV_yes xs HT.out]; rfl, hb.out⟩
end Go.Proofs.YtpmdmphdldnjiaaDoor
