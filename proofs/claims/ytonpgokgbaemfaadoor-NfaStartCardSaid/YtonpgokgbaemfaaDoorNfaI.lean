/-
  WHAT PACKAGE nfa GIVES: Run, Fits.
-/
import Derived.Test.YtonpgokgbaemfaaDoorNfaH
namespace Go.Proofs.YtonpgokgbaemfaaDoor
open Go.RowKit

theorem own_below {w w' : World} {B : Nat} {T : TypeId} {v : Value} {n : Nat} {bs : List Value} (h : w.ownsRow B T 1 v n bs) (hb : Below w.heap.size w w') : w'.ownsRow B T 1 v n bs := by
  have hl := h.lt
  refine ⟨h.1, ?_⟩
  rcases h.2 with h2 | ⟨g, cap, cur, h2, h3, h4, h5⟩
  · exact .inl h2
  · exact .inr ⟨g, cap, cur, h2, h3, (hb.block g (hl g (by rw [h2]; rfl)).2).trans h4, h5⟩
def natV (n : Nat) : Value := .int .i64 n
theorem i64_info : (Tryd.prog.info? 2).map (fun i => (i.zero, i.size, i.bytes)) = some (some (.int .i64 0), 1, 8) := by kernel_rfl
theorem bool_info : (Tryd.prog.info? 4).map (fun i => (i.zero, i.size, i.bytes)) = some (some (.bool false), 1, 1) := by kernel_rfl

/-- the sets behind none, one, two .. numbers, as numbers -/
def setsOf (l : List N.Item) (st : Bool) (cs : List Int) : List Int := (N.runs l st (N.clo l 0) cs cs.length).map fun n : Nat => (n : Int)
def runPost (l : List N.Item) (st : Bool) (cs : List Int) (w : World) (e : Ending) (w' : World) : Prop :=
  Below w.heap.size w w' ∧ (rightB l = true → ∃ v, e = .returned (.tuple #[v, .int .i64 0]) ∧ IntsAt w' v (setsOf l st cs)) ∧ (rightB l = false → e = .returned (.tuple #[.slice none 0 0, .int .i64 80]))

theorem lt_62 (l : List N.Item) (hl : l.length ≤ 10) (S : Nat) (hS : S < 2 ^ (2 * l.length + 1)) : S < 4611686018427387904 := by
  have : 2 ^ (2 * l.length + 1) ≤ 2 ^ 21 := Nat.pow_le_pow_right (by omega) (by omega)
  omega

set_option maxHeartbeats 4000000 in
theorem run_any (A : Nat → Addr) (B : Nat) (st : Bool) (v : Value) (l : List N.Item) (cv : Value) (cs : List Int) (w : World) (hv : ItemsAt w v l) (hz : l.length ≤ 16777216) (hc : IntsAt w cv cs) (hcz : cs.length ≤ 1000) (hE : E A B w) (hB : B ≤ w.heap.size) :
    Calls Tryd.prog 12 #[.agg #[.bool st, v], cv] w (runPost l st cs w) := by
  have hb0 := alloc_below w (.cells #[.bool st, v] 24)
  have HC := Box.mk hc
  obtain ⟨ca, ccap, rfl⟩ := hc.slice
  clear hc
  cases hr : rightB l with
  | true =>
    have HO := Box.mk (open_ok A B st v l _ (hv.below hb0) hz (hE.below (hb0.mono hB)) (Nat.le_trans hB hb0.size) ⟨hr⟩)
    have HB0 := Box.mk hb0
    have hl := right_len hr
    have HRT := Box.mk hr
    obtain ⟨i0, hi, hz0, hz1, hz2⟩ := info_parts i64_info
    clear hb0 hE hv hr
    go_enter Tryd.func12, Tryd.ntmps12
    go_wp2_with fail
    refine HO.out.mono ?_; rintro e w1 ⟨hb1, r, m, rfl, hrn⟩
    have HB1 := Box.mk (HB0.out.trans (hb1.mono HB0.out.size))
    have HR1 := Box.mk hrn
    have HCL := Box.mk (closed_any r m st v l (w1.alloc (.cells #[.int .i64 0] 3)) (hrn.below (alloc_below _ _)) w1.heap.size 0 (by simp) (by omega))
    clear hb1 hrn
    go_wp2_with fail
    refine HCL.out.mono ?_; rintro e w2 ⟨rfl, hb2⟩
    have HR2 := Box.mk ((HR1.out.below (alloc_below _ _)).below hb2)
    have HB2 := Box.mk (show Below w.heap.size w w2 from HB1.out.trans (((alloc_below w1 _).trans (hb2.mono (alloc_below w1 _).size)).mono HB1.out.size))
    clear hb2
    go_wp2_with fail
    go_loopw [8, 9, 28] (fun s o i wr => ∃ k : Nat, k ≤ cs.length ∧ i = .int .i64 k ∧ s = .int .i64 (N.at' l st (N.clo l 0) cs k) ∧ Box (wr.ownsRow w2.heap.size 2 1 o (k + 1) ((N.runs l st (N.clo l 0) cs k).map natV)) ∧ Box (Below w2.heap.size w2 wr))
      (fun _ _ i _ => cs.length - (intOf i).toNat)
    case atStart =>
      refine ⟨0, by omega, rfl, by rw [N.at_zero], ⟨?_⟩, ⟨alloc_below _ _⟩⟩
      rw [N.runs_zero]
      have := World.ownsRow_lit (base := w2.heap.size) (e := 2) (size := 1) w2 #[.int .i64 (N.clo l 0)] 1 (Nat.le_refl _) (by unfold maxLen; omega) rfl
      simpa [natV] using this
    case round =>
      obtain ⟨k, hk, rfl, rfl, ho, hb⟩ := hrel
      have hrn := Box.mk (HR2.out.below hb.out)
      by_cases hlt : k < cs.length
      · obtain ⟨x, hx⟩ : ∃ x, cs[k]? = some x := ⟨_, List.getElem?_eq_getElem hlt⟩
        obtain ⟨g, off, cap2, hg1, hg2, hg3, hg4, hg5⟩ := (HC.out.below (HB2.out.trans (hb.out.mono HB2.out.size))).get (by rintro rfl; simp at hlt)
        obtain ⟨rfl, rfl⟩ : ca = some ⟨g, off, none⟩ ∧ ccap = cap2 := by injection hg1 with h1 h2 h3; exact ⟨h1, h3⟩
        have hcx := hg5 k x hx
        have HSU := Box.mk (N.at_succ l st (N.clo l 0) cs k x hx)
        have HSL := Box.mk (lt_62 l hl _ (N.at_lt l st (N.clo l 0) cs (N.clo_lt l 0 (by omega)) k hk))
        have HST := Box.mk (step_any r m st v l wr hrn.out _ HSL.out x)
        have HRS := Box.mk (N.runs_succ l st (N.clo l 0) cs k)
        unfold maxLen at hg3
        clear hx hg1 hg5
        obtain ⟨og, oc, rfl⟩ := ownsRow_succ ho.out
        go_wp2_with fail
        refine HST.out.mono ?_; rintro e w3 ⟨rfl, hb3⟩; rw [← HSU.out]
        have HO3 := Box.mk (own_below ho.out hb3)
        have HB3 := Box.mk (show Below w2.heap.size w2 w3 from hb.out.trans (hb3.mono hb.out.size))
        clear hb3
        go_wp2_with (at_builtin; refine wpList_append_own _ rfl _ _ 29 rfl w2.heap.size 2 i0 (.int .i64 0) 1 8 Tryd.underlying29 hi hz0 hz1 hz2 rfl (by decide) _ _ _ rfl (HO3.out.alloc _) ⟨w3.heap.size, 0, none⟩ 1 1 [.int .i64 (N.at' l st (N.clo l 0) cs (k + 1))] rfl rfl (cell_one_new _ _ _) (by simp [Value.oneCell']) (by unfold maxLen; omega) (by omega) (by have := HB3.out.size; simp; omega) ?_; intro v' w4 hown' hgrow _; obtain ⟨g', cap', rfl⟩ := ownsRow_succ hown')
        have HOW := Box.mk (show w4.ownsRow w2.heap.size 2 1 (.slice (some ⟨g', 0, none⟩) (k + 1 + 1) cap') (k + 1 + 1) ((N.runs l st (N.clo l 0) cs (k + 1)).map natV) by rw [HRS.out, List.map_append]; exact hown')
        have HB4 := Box.mk (show Below w2.heap.size w2 w4 from (HB3.out.alloc HB3.out.size _).grown hgrow (by have := HB3.out.size; simp; omega) (fun q hq => (HO3.out.lt q hq).1))
        clear hown' hgrow
        go_wp2_with fail
        go_roundw
        case rel => exact ⟨k + 1, hlt, by go_num, rfl, HOW, HB4⟩
        case measure => simp [intOf]; omega
      · obtain rfl : k = cs.length := by omega
        obtain ⟨og, oc, rfl⟩ := ownsRow_succ ho.out
        go_wp2_with fail
        go_ret2
        refine ⟨HB2.out.trans (hb.out.mono HB2.out.size), fun _ => ⟨_, rfl, ?_⟩, fun h => ?_⟩
        · refine IntsAt.of_own (n := cs.length + 1) (T := 2) (base := w2.heap.size) ?_ (by simp [setsOf, N.runs_len])
          unfold setsOf
          rw [List.map_map]
          exact ho.out
        · rw [HRT.out] at h; cases h
  | false =>
    have HO := Box.mk (open_bad A B st v l _ (hv.below hb0) hz (hE.below (hb0.mono hB)) (Nat.le_trans hB hb0.size) ⟨hr⟩ (.slice none 0 0))
    have HB0 := Box.mk hb0
    have HE := Box.mk hE
    have HRT := Box.mk hr
    clear hb0 hE hv hr
    go_enter Tryd.func12, Tryd.ntmps12
    go_wp2_with fail
    refine HO.out.mono ?_; rintro e w1 ⟨hb1, rfl⟩
    have HT := Box.mk (told_any A B w1 ((HE.out.below (HB0.out.mono hB)).below (hb1.mono (Nat.le_trans hB HB0.out.size))))
    have HB1 := Box.mk hb1
    unfold errV at HT ⊢
    clear hb1
    go_wp2_with fail
    refine HT.out.mono ?_; rintro e w2 ⟨rfl, rfl⟩
    go_wp2_with fail
    go_ret2
    exact ⟨HB0.out.trans (HB1.out.mono HB0.out.size), fun h => (by rw [HRT.out] at h; cases h), fun _ => rfl⟩

/-- a value that reads as these answers -/
def BoolsAt (w : World) (v : Value) (xs : List Bool) : Prop :=
  (v = .slice none 0 0 ∧ xs = []) ∨ ∃ b off sp cap, v = .slice (some ⟨b, off, sp⟩) xs.length cap ∧ xs.length ≤ cap ∧ cap ≤ maxLen ∧ (xs ≠ [] → sp = none ∧ b < w.heap.size ∧ ∀ i x, xs[i]? = some x → w.cell? ⟨b, off + i, none⟩ = some (.bool x))
theorem BoolsAt.below {w w' : World} {v : Value} {xs : List Bool} (h : BoolsAt w v xs) (hb : Below w.heap.size w w') : BoolsAt w' v xs := by
  rcases h with h | ⟨b, off, sp, cap, h1, h2, h3, h4⟩
  · exact .inl h
  · exact .inr ⟨b, off, sp, cap, h1, h2, h3, fun hn => ⟨(h4 hn).1, Nat.lt_of_lt_of_le (h4 hn).2.1 hb.size, fun i x hx => (hb.cell (p := ⟨b, off + i, none⟩) (h4 hn).2.1).trans ((h4 hn).2.2 i x hx)⟩⟩
theorem BoolsAt.get {w : World} {v : Value} {xs : List Bool} (h : BoolsAt w v xs) (hn : xs ≠ []) :
    ∃ b off cap, v = .slice (some ⟨b, off, none⟩) xs.length cap ∧ xs.length ≤ cap ∧ cap ≤ maxLen ∧ b < w.heap.size ∧ ∀ i x, xs[i]? = some x → w.cell? ⟨b, off + i, none⟩ = some (.bool x) := by
  rcases h with ⟨_, h⟩ | ⟨b, off, sp, cap, h1, h2, h3, h4⟩
  · exact absurd h hn
  · obtain ⟨rfl, h5, h6⟩ := h4 hn
    exact ⟨b, off, cap, h1, h2, h3, h5, h6⟩
theorem BoolsAt.of_own {w : World} {base n : Nat} {T : TypeId} {v : Value} {xs : List Bool} (h : w.ownsRow base T 1 v n (xs.map Value.bool)) (hn : n = xs.length) : BoolsAt w v xs := by
  subst hn
  have hl := h.lt
  rcases h.2 with ⟨h1, h2⟩ | ⟨g, cap, cur, rfl, h2, h3, h4, h5, h6, h7⟩
  · exact .inl ⟨h1, List.eq_nil_of_length_eq_zero h2⟩
  · refine .inr ⟨g, 0, none, cap, rfl, h4, h5, fun _ => ⟨rfl, (hl g rfl).2, fun i x hx => ?_⟩⟩
    have := h.cells (g := g) rfl i (.bool x) (by rw [List.getElem?_map, hx]; rfl)
    rw [show (⟨g, 0 + i, none⟩ : Addr) = (⟨g, 0, none⟩ : Addr).add i by unfold Addr.add; by_cases h0 : i = 0 <;> simp [h0]]
    exact this
theorem BoolsAt.slice {w : World} {v : Value} {xs : List Bool} (h : BoolsAt w v xs) : ∃ a cap, v = .slice a xs.length cap := by
  rcases h with ⟨rfl, rfl⟩ | ⟨b, off, sp, cap, rfl, _⟩
  · exact ⟨_, _, rfl⟩
  · exact ⟨_, _, rfl⟩
theorem ownsRow_shape {w : World} {base : Nat} {e : TypeId} {size : Nat} {v : Value} {n : Nat} {xs : List Value} (h : w.ownsRow base e size v n xs) : ∃ a c, v = .slice a n c := by
  rcases h.2 with ⟨rfl, rfl⟩ | ⟨g, cap, cur, rfl, _⟩
  · exact ⟨_, _, rfl⟩
  · exact ⟨_, _, rfl⟩

def fitsOf (l : List N.Item) (st : Bool) (cs : List Int) : List Bool := (setsOf l st cs).map (doneV l)
def fitsPost (l : List N.Item) (st : Bool) (cs : List Int) (w : World) (e : Ending) (w' : World) : Prop :=
  Below w.heap.size w w' ∧ (rightB l = true → ∃ v, e = .returned (.tuple #[v, .int .i64 0]) ∧ BoolsAt w' v (fitsOf l st cs)) ∧ (rightB l = false → e = .returned (.tuple #[.slice none 0 0, .int .i64 80]))
theorem setsOf_len (l : List N.Item) (st : Bool) (cs : List Int) : (setsOf l st cs).length = cs.length + 1 := by simp [setsOf, N.runs_len]
theorem map_snoc {α β : Type} (f : α → β) (xs : List α) (k : Nat) (x : α) (h : xs[k]? = some x) : (xs.take (k + 1)).map f = (xs.take k).map f ++ [f x] := by
  rw [List.take_add_one, h, List.map_append]; rfl

set_option maxHeartbeats 4000000 in
theorem fits_any (A : Nat → Addr) (B : Nat) (st : Bool) (v : Value) (l : List N.Item) (cv : Value) (cs : List Int) (w : World) (hv : ItemsAt w v l) (hz : l.length ≤ 16777216) (hc : IntsAt w cv cs) (hcz : cs.length ≤ 1000) (hE : E A B w) (hB : B ≤ w.heap.size) :
    Calls Tryd.prog 14 #[.agg #[.bool st, v], cv] w (fitsPost l st cs w) := by
  have hb0 := alloc_below w (.cells #[.bool st, v] 24)
  have HRUN := Box.mk (run_any A B st v l cv cs _ (hv.below hb0) hz (hc.below hb0) hcz (hE.below (hb0.mono hB)) (Nat.le_trans hB hb0.size))
  have HBK := Box.mk (Blk.new w 24 #[.bool st, v])
  have HB0 := Box.mk hb0
  have HE := Box.mk hE
  have HV := Box.mk hv
  obtain ⟨ca, ccap, rfl⟩ := hc.slice
  obtain ⟨i0, hi, hz0, hz1, hz2⟩ := info_parts bool_info
  clear hc hb0 hE hv
  cases hr : rightB l with
  | true =>
    have HRT := Box.mk hr
    clear hr
    go_enter Tryd.func14, Tryd.ntmps14
    go_wp2_with fail
    refine HRUN.out.mono ?_; rintro e w1 ⟨hb1, hyes, -⟩
    obtain ⟨rv, rfl, hri⟩ := hyes HRT.out
    have hzl := setsOf_len l st cs
    obtain ⟨xs, hxs⟩ : ∃ xs, xs = setsOf l st cs := ⟨_, rfl⟩
    rw [← hxs] at hri hzl
    have HX := Box.mk hxs
    have HB1 := Box.mk (HB0.out.trans (hb1.mono HB0.out.size))
    have HBK1 := Box.mk (HBK.out.below hb1 HBK.out.lt)
    have HI := Box.mk hri
    have hxz : xs.length ≤ 1001 := by omega
    have HZL := Box.mk hzl
    obtain ⟨ra, rcap, rfl⟩ := hri.slice
    clear hb1 hyes hri hxs hzl
    go_wp2_with fail
    go_loopw [8, 22] (fun o i wr => ∃ k : Nat, k ≤ xs.length ∧ i = .int .i64 k ∧ Box (wr.ownsRow w1.heap.size 4 1 o k ((xs.take k).map fun x => Value.bool (doneV l x))) ∧ Box (Below w1.heap.size w1 wr))
      (fun _ i _ => xs.length - (intOf i).toNat)
    case atStart => exact ⟨0, by omega, rfl, ⟨World.ownsRow_nil _ _ _ _⟩, ⟨Below.refl _ _⟩⟩
    case round =>
      obtain ⟨k, hk, rfl, ho, hb⟩ := hrel
      have hbk := HBK1.out.below hb.out HBK1.out.lt
      have c0 : wr.cell? ⟨w.heap.size, 0, none⟩ = some (.bool st) := (hbk.cell 0).trans rfl
      have c1 : wr.cell? ⟨w.heap.size, 1, none⟩ = some v := (hbk.cell 1).trans rfl
      clear hbk
      by_cases hlt : k < xs.length
      · obtain ⟨x, hx⟩ : ∃ x, xs[k]? = some x := ⟨_, List.getElem?_eq_getElem hlt⟩
        obtain ⟨g, off, cap2, hg1, hg2, hg3, hg4, hg5⟩ := (HI.out.below hb.out).get (by rintro rfl; simp at hlt)
        obtain ⟨rfl, rfl⟩ : ra = some ⟨g, off, none⟩ ∧ rcap = cap2 := by injection hg1 with h1 h2 h3; exact ⟨h1, h3⟩
        have hcx := hg5 k x hx
        have HSN := Box.mk (map_snoc (fun x => Value.bool (doneV l x)) xs k x hx)
        have hbw := HB1.out.trans (hb.out.mono HB1.out.size)
        have HD := Box.mk (pdone_any A B st v l x wr (HV.out.below hbw) hz (HE.out.below (hbw.mono hB)) (Nat.le_trans hB hbw.size))
        unfold maxLen at hg3
        clear hx hg1 hg5 hbw
        obtain ⟨oa, oc, rfl⟩ := ownsRow_shape ho.out
        go_wp2_with fail
        refine HD.out.mono ?_; rintro e w3 ⟨rfl, hb3⟩
        have HO3 := Box.mk (own_below ho.out hb3)
        have HB3 := Box.mk (show Below w1.heap.size w1 w3 from hb.out.trans (hb3.mono hb.out.size))
        clear hb3
        go_wp2_with (at_builtin; refine wpList_append_own _ rfl _ _ 33 rfl w1.heap.size 4 i0 (.bool false) 1 1 Tryd.underlying33 hi hz0 hz1 hz2 rfl (by decide) _ _ _ rfl (HO3.out.alloc _) ⟨w3.heap.size, 0, none⟩ 1 1 [.bool (doneV l x)] rfl rfl (cell_one_new _ _ _) (by simp [Value.oneCell']) (by unfold maxLen; omega) (by omega) (by have := HB3.out.size; simp; omega) ?_; intro v' w4 hown' hgrow _; obtain ⟨g', cap', rfl⟩ := ownsRow_succ hown')
        have HOW := Box.mk (show w4.ownsRow w1.heap.size 4 1 (.slice (some ⟨g', 0, none⟩) (k + 1) cap') (k + 1) ((xs.take (k + 1)).map fun x => Value.bool (doneV l x)) by rw [HSN.out]; exact hown')
        have HB4 := Box.mk (show Below w1.heap.size w1 w4 from (HB3.out.alloc HB3.out.size _).grown hgrow (by have := HB3.out.size; simp; omega) (fun q hq => (HO3.out.lt q hq).1))
        clear hown' hgrow
        go_wp2_with fail
        go_roundw
        case rel => exact ⟨k + 1, hlt, by go_num, HOW, HB4⟩
        case measure => simp [intOf]; omega
      · obtain rfl : k = xs.length := by omega
        obtain ⟨oa, oc, rfl⟩ := ownsRow_shape ho.out
        go_wp2_with fail
        go_ret2
        refine ⟨HB1.out.trans (hb.out.mono HB1.out.size), fun _ => ⟨_, rfl, ?_⟩, fun h => ?_⟩
        · refine BoolsAt.of_own (n := xs.length) (T := 4) (base := w1.heap.size) ?_ (by rw [HX.out]; simp [fitsOf])
          have := ho.out
          rw [List.take_length] at this
          unfold fitsOf
          rw [← HX.out, List.map_map]
          exact this
        · rw [HRT.out] at h; cases h
  | false =>
    have HRT := Box.mk hr
    clear hr
    go_enter Tryd.func14, Tryd.ntmps14
    go_wp2_with fail
    refine HRUN.out.mono ?_; rintro e w1 ⟨hb1, -, hno⟩
    obtain rfl := hno HRT.out
    have HB1 := Box.mk (HB0.out.trans (hb1.mono HB0.out.size))
    clear hb1 hno
    go_wp2_with fail
    go_ret2
    exact ⟨HB1.out, fun h => (by rw [HRT.out] at h; cases h), fun _ => rfl⟩
end Go.Proofs.YtonpgokgbaemfaaDoor
