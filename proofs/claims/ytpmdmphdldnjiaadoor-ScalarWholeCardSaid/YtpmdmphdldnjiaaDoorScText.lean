/-
  LISTS OF NUMBERS, AS VALUES; few, Ints, the document's Scalars, Valid and Text, the program's Text.
-/
import Derived.Test.YtpmdmphdldnjiaaDoorScLaw2
import Derived.Test.YtpmdmphdldnjiaaDoorBuild
import Derived.ChangeSlices
import Derived.WideShapes
import Derived.DataReads
namespace Go.Proofs.YtpmdmphdldnjiaaDoor
open Go.RowKit

/-- a value that reads as these numbers -/
def IntsAt (w : World) (v : Value) (xs : List Int) : Prop :=
  (v = .slice none 0 0 ∧ xs = []) ∨ ∃ b off sp cap, v = .slice (some ⟨b, off, sp⟩) xs.length cap ∧ xs.length ≤ cap ∧ cap ≤ maxLen ∧ (xs ≠ [] → sp = none ∧ b < w.heap.size ∧ ∀ i x, xs[i]? = some x → w.cell? ⟨b, off + i, none⟩ = some (.int .i64 x))
theorem IntsAt.below {w w' : World} {v : Value} {xs : List Int} (h : IntsAt w v xs) (hb : Below w.heap.size w w') : IntsAt w' v xs := by
  rcases h with h | ⟨b, off, sp, cap, h1, h2, h3, h4⟩
  · exact .inl h
  · exact .inr ⟨b, off, sp, cap, h1, h2, h3, fun hn => ⟨(h4 hn).1, Nat.lt_of_lt_of_le (h4 hn).2.1 hb.size, fun i x hx => (hb.cell (p := ⟨b, off + i, none⟩) (h4 hn).2.1).trans ((h4 hn).2.2 i x hx)⟩⟩
theorem IntsAt.get {w : World} {v : Value} {xs : List Int} (h : IntsAt w v xs) (hn : xs ≠ []) :
    ∃ b off cap, v = .slice (some ⟨b, off, none⟩) xs.length cap ∧ xs.length ≤ cap ∧ cap ≤ maxLen ∧ b < w.heap.size ∧ ∀ i x, xs[i]? = some x → w.cell? ⟨b, off + i, none⟩ = some (.int .i64 x) := by
  rcases h with ⟨_, h⟩ | ⟨b, off, sp, cap, h1, h2, h3, h4⟩
  · exact absurd h hn
  · obtain ⟨rfl, h5, h6⟩ := h4 hn
    exact ⟨b, off, cap, h1, h2, h3, h5, h6⟩
theorem IntsAt.of_own {w : World} {base n : Nat} {v : Value} {xs : List Int} (h : w.ownsRow base 3 1 v n (xs.map (Value.int .i64))) (hn : n = xs.length) : IntsAt w v xs := by
  subst hn
  have hl := h.lt
  rcases h.2 with ⟨h1, h2⟩ | ⟨g, cap, cur, rfl, h2, h3, h4, h5, h6, h7⟩
  · exact .inl ⟨h1, List.eq_nil_of_length_eq_zero h2⟩
  · refine .inr ⟨g, 0, none, cap, rfl, h4, h5, fun _ => ⟨rfl, (hl g rfl).2, fun i x hx => ?_⟩⟩
    have := h.cells (g := g) rfl i (.int .i64 x) (by rw [List.getElem?_map, hx]; rfl)
    rw [show (⟨g, 0 + i, none⟩ : Addr) = (⟨g, 0, none⟩ : Addr).add i by unfold Addr.add; by_cases h0 : i = 0 <;> simp [h0]]
    exact this
theorem IntsAt.nil {w : World} : IntsAt w (.slice none 0 0) [] := .inl ⟨rfl, rfl⟩
theorem IntsAt.slice {w : World} {v : Value} {xs : List Int} (h : IntsAt w v xs) : ∃ a cap, v = .slice a xs.length cap := by
  rcases h with ⟨rfl, rfl⟩ | ⟨b, off, sp, cap, rfl, _⟩
  · exact ⟨_, _, rfl⟩
  · exact ⟨_, _, rfl⟩

set_option maxRecDepth 100000 in
theorem IntsAt.open {H : Type} {enc : TypeId × Value → H} {W : World} {base : Nat} {v : Value} {d : DataW H} {ps : List MemPlace} (hval : Value.okWide Tryd.prog W .any base 34 v)
    (hd : DataW.Trod enc Tryd.prog W 0 (fun _ => true) true 34 v d ps) : ∃ xs, IntsAt W v xs := by
  obtain ⟨a0, len0, cap0, rfl⟩ := Go.WideShapes.okWide_slice Tryd.underlying34 hval
  obtain ⟨fuel, hf⟩ := hd
  rcases Go.ChangeShapes.open_ints Tryd.underlying34 Tryd.underlying3 (by kernel_rfl) hf with ⟨h1, _⟩ | ⟨a, len, cap, zs, h1, _, h2, h3, h4, _, h5, _⟩
  · simp [Value.cells] at h1
    obtain ⟨rfl, rfl, rfl⟩ := h1
    exact ⟨[], .nil⟩
  · simp [Value.cells] at h1
    obtain ⟨rfl, rfl, rfl⟩ := h1
    simp only [if_true] at h4
    have hl : (zs.take len0).length = len0 := by rw [List.length_take]; omega
    obtain ⟨b, off, sp⟩ := a
    refine ⟨zs.take len0, .inr ⟨b, off, sp, cap0, by rw [hl], by rw [hl]; exact h2, h3, fun hn => ?_⟩⟩
    have h0 : 0 < zs.length := by
      rcases Nat.eq_zero_or_pos zs.length with h | h
      · exact absurd (by rw [List.eq_nil_of_length_eq_zero h]; simp) hn
      · exact h
    have hc0 := h5 0 h0
    have hsp : sp = none := World.cell?_spot (a := (⟨b, off, sp⟩ : Addr).add 0) hc0
    subst hsp
    refine ⟨rfl, World.block_lt_of_cell? _ _ hc0, fun i x hx => ?_⟩
    rw [List.getElem?_take] at hx
    split at hx
    · have hi : i < zs.length := (List.getElem?_eq_some_iff.1 hx).1
      have := h5 i hi
      rw [show (⟨b, off + i, none⟩ : Addr) = (⟨b, off, none⟩ : Addr).add i by unfold Addr.add; by_cases h0 : i = 0 <;> simp [h0], this, List.getD, hx]
      rfl
    · cases hx

theorem few_any (v : Value) (xs : List Int) (w : World) (h : IntsAt w v xs) :
    Calls Tryd.prog 20 #[v] w fun e w' => (∃ v', e = .returned v' ∧ IntsAt w v' (xs.take 100)) ∧ w = w' := by
  rcases h with ⟨rfl, rfl⟩ | ⟨b, off, sp, cap, rfl, h1, h2, h4⟩
  · go_enter Tryd.func20, Tryd.ntmps20
    go_wp2
    go_ret
    exact ⟨⟨_, rfl, .nil⟩, rfl⟩
  · unfold maxLen at h2
    have H4 := Box.mk h4
    clear h4
    go_enter Tryd.func20, Tryd.ntmps20
    go_wp2
    go_ret
    refine ⟨⟨.slice (some ⟨b, off, sp⟩) (min (xs.length : Int) 100).toNat cap, rfl, .inr ⟨b, off, sp, cap, ?_, ?_, ?_, fun hn => ?_⟩⟩, rfl⟩
    · rw [show (min (xs.length : Int) 100).toNat = (xs.take 100).length by rw [List.length_take]; omega]
    · rw [List.length_take]; omega
    · unfold maxLen; exact h2
    · have hn' : xs ≠ [] := by rintro rfl; exact hn rfl
      refine ⟨(H4.out hn').1, (H4.out hn').2.1, fun i x hx => (H4.out hn').2.2 i x ?_⟩
      rw [List.getElem?_take] at hx
      split at hx
      · exact hx
      · cases hx

theorem ints_same (a b : Value) (xs : List Int) (w : World) (ha : IntsAt w a xs) (hb : IntsAt w b xs) (hz : xs.length ≤ 16777216) :
    Calls Tryd.prog 26 #[a, b] w fun e w' => e = .returned (.bool true) ∧ ∃ n, w' = w.drewN n := by
  cases hxs : xs with
  | nil =>
    subst hxs
    obtain ⟨a1, ca, rfl⟩ := ha.slice
    obtain ⟨b1, cb, rfl⟩ := hb.slice
    clear ha hb
    go_enter Tryd.func26, Tryd.ntmps26
    go_wp2
    go_rounds 1
    go_ret
    exact ⟨rfl, 0, rfl⟩
  | cons x t =>
    have hne : 0 < xs.length := by rw [hxs]; simp
    have hnn : xs ≠ [] := by rw [hxs]; simp
    obtain ⟨ba, oa, ca, rfl, ha1, ha2, ha3, ha4⟩ := ha.get hnn
    obtain ⟨bb, ob, cb, rfl, hb1, hb2, hb3, hb4⟩ := hb.get hnn
    clear ha hb hnn
    clear hxs
    have HA := Box.mk ha4
    have HB := Box.mk hb4
    clear ha4 hb4
    unfold maxLen at ha2 hb2
    go_enter Tryd.func26, Tryd.ntmps26
    go_wp2
    go_loopw [5] (fun i wr => ∃ k n : Nat, k ≤ xs.length ∧ i = .int .i64 k ∧ wr = w.drewN n) (fun i _ => xs.length - (intOf i).toNat)
    case atStart => exact ⟨0, 0, by omega, rfl, rfl⟩
    case round =>
      obtain ⟨k, n, hk, rfl, rfl⟩ := hrel
      by_cases hlt : k < xs.length
      · obtain ⟨y, hy⟩ : ∃ y, xs[k]? = some y := ⟨_, List.getElem?_eq_getElem hlt⟩
        have c1 := HA.out k y hy
        have c2 := HB.out k y hy
        clear hy
        go_wp2
        go_region
        go_wp2
        go_roundw
        case rel => exact ⟨k + 1, n + 1, hlt, by go_num, rfl⟩
        case measure => simp [intOf]; omega
      · go_wp2
        go_ret
        exact ⟨rfl, n, rfl⟩

/- THE DOCUMENT'S SCALARS. -/
set_option maxHeartbeats 2000000 in
theorem rscal_any (s : ByteArray) (w : World) (hs : s.size ≤ 16777216) :
    Calls Tryd.prog 22 #[.string s] w (scPost s w) := by
  obtain ⟨i0, hi, hz0, hz1, hz2⟩ := info_parts int_info
  have HS := Box.mk hs
  go_enter Tryd.func22, Tryd.ntmps22
  go_wp2
  go_loopw [0, 4] (fun a v wr => ∃ (pre : List Int) (rest : ByteArray), rest.size ≤ s.size ∧ pre.length + rest.size ≤ s.size ∧ a = .string rest ∧ Box (U.textOf pre ++ rest.data.toList = s.data.toList ∧ ∀ r ∈ pre, U.right r = true) ∧ Box (wr.ownsRow w.heap.size 3 1 v pre.length (pre.map (Value.int .i64))) ∧ Box (Below w.heap.size w wr))
    (fun a _ _ => match a with | .string r => r.size | _ => 0)
  case atStart => exact ⟨[], s, Nat.le_refl _, by simp, rfl, ⟨⟨rfl, fun r hr => by cases hr⟩⟩, ⟨World.ownsRow_nil _ _ _ _⟩, ⟨Below.refl _ _⟩⟩
  case round =>
    obtain ⟨pre, rest, hrs, hpl, rfl, hp, ho, hb⟩ := hrel
    cases hl : rest.data.toList with
    | nil =>
      have hz := isEmpty_nil hl
      have HX := Box.mk (show U.scalars s.data.toList = some pre from (U.scalars_iff _ _).2 ⟨by rw [← hp.out.1, hl, List.append_nil], hp.out.2⟩)
      clear hl hpl hrs
      go_wp2
      go_ret2
      refine ⟨hb.out, ?_⟩
      rw [HX.out]
      exact ⟨_, rfl, ho.out⟩
    | cons c t =>
      have hz := isEmpty_cons hl
      have hne : rest.data.toList ≠ [] := by rw [hl]; simp
      cases hd : U.dec rest.data.toList with
      | none =>
        have HV := Box.mk (decV_no hd)
        have HX := Box.mk (show U.scalars s.data.toList = none by
          cases hx : U.scalars s.data.toList with
          | none => rfl
          | some l =>
            obtain ⟨h1, h2⟩ := (U.scalars_iff _ _).1 hx
            have h3 : U.scalars (U.textOf pre ++ rest.data.toList) = some l := by rw [hp.out.1]; exact hx
            rw [U.scalars_textOf pre hp.out.2, U.scalars_none hne hd] at h3
            cases h3)
        have HR := Box.mk (show rest.size ≤ maxLen by have := HS.out; unfold maxLen; omega)
        clear hl hne hd hpl hrs
        go_wp2_with fail
        refine (rdec_any rest _ HR.out).mono ?_; rintro e w1 ⟨rfl, rfl⟩; rw [HV.out]
        go_wp2_with fail
        go_ret2
        refine ⟨hb.out, ?_⟩
        rw [HX.out]
        rfl
      | some q =>
        obtain ⟨r, n⟩ := q
        obtain ⟨hr, he, h1, h4, hlen⟩ := U.dec_some hd
        have HV := Box.mk (decV_yes hd)
        rw [← size_eq] at hlen
        have HP := Box.mk (show U.textOf (pre ++ [r]) ++ (rest.extract n rest.size).data.toList = s.data.toList ∧ ∀ x ∈ pre ++ [r], U.right x = true by
          constructor
          · rw [U.textOf_append, List.append_assoc, ← hp.out.1]
            refine congrArg (U.textOf pre ++ ·) ?_
            rw [Lib.extract_data, List.take_of_length_le (by rw [List.length_drop, ← size_eq]; exact Nat.le_refl _)]
            show U.enc r ++ [] ++ _ = _
            rw [he, List.append_nil, List.take_append_drop]
          · intro x hx
            rcases List.mem_append.1 hx with hx | hx
            · exact hp.out.2 x hx
            · simp at hx; rw [hx]; exact hr)
        have HR := Box.mk (show rest.size ≤ maxLen by have := HS.out; unfold maxLen; omega)
        have HN := Box.mk (show (rest.extract n rest.size).size = rest.size - n by rw [size_eq, Lib.extract_data, List.length_take, List.length_drop, ← size_eq]; omega)
        have hpz : pre.length ≤ 16777216 := by have := HS.out; omega
        have HB := Box.mk (show w.heap.size ≤ wr.heap.size from hb.out.size)
        clear hl hne hd he hr
        go_wp2_with fail
        refine (rdec_any rest _ HR.out).mono ?_; rintro e w1 ⟨rfl, rfl⟩; rw [HV.out]
        go_wp2_with (at_builtin; refine wpList_append_own _ rfl _ _ 34 rfl w.heap.size 3 i0 (.int .i64 0) 1 8 Tryd.underlying34 hi hz0 hz1 hz2 rfl (by decide) _ _ _ rfl (ho.out.alloc _) ⟨wr.heap.size, 0, none⟩ 1 1 [.int .i64 r] rfl rfl (cell_one_new _ _ _) (by simp [Value.oneCell']) (by unfold maxLen; omega) (by omega) (by have := HB.out; simp; omega) ?_; intro v' w1 hown' hgrow _; obtain ⟨g', cap', rfl⟩ := ownsRow_succ hown')
        have HO := Box.mk hown'
        have HG := Box.mk (show Below w.heap.size w w1 from (hb.out.alloc HB.out _).grown hgrow (by have := HB.out; simp; omega) (fun k hk => (ho.out.lt k hk).1))
        clear hown' hgrow
        go_roundw
        case rel =>
          refine ⟨pre ++ [r], rest.extract n rest.size, by rw [HN.out]; omega, by rw [HN.out, List.length_append]; simp; omega, rfl, HP, ⟨?_⟩, HG⟩
          have := HO.out
          simpa using this
        case measure => have := HN.out; show (rest.extract n rest.size).size < rest.size; omega

theorem rvalid_any (s : ByteArray) (w : World) (hs : s.size ≤ 16777216) :
    Calls Tryd.prog 25 #[.string s] w fun e w' => e = .returned (.bool (U.valid s.data.toList)) ∧ Below w.heap.size w w' := by
  go_enter Tryd.func25, Tryd.ntmps25
  go_wp2_with fail
  refine (rscal_any s _ hs).mono ?_
  rintro e w1 ⟨hb, hm⟩
  cases hx : U.scalars s.data.toList with
  | none =>
    rw [hx] at hm
    obtain rfl := hm
    have HV := Box.mk (show U.valid s.data.toList = false by unfold U.valid; rw [hx]; rfl)
    clear hx
    go_wp2_with fail
    go_ret
    exact ⟨by rw [HV.out]; rfl, hb⟩
  | some xs =>
    rw [hx] at hm
    obtain ⟨v, rfl, ho⟩ := hm
    obtain ⟨a, cap, rfl⟩ := (IntsAt.of_own ho rfl).slice
    have HV := Box.mk (show U.valid s.data.toList = true by unfold U.valid; rw [hx]; rfl)
    clear ho hx
    go_wp2_with fail
    go_ret
    exact ⟨by rw [HV.out]; rfl, hb⟩
end Go.Proofs.YtpmdmphdldnjiaaDoor
