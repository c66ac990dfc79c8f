/-
  Texts of this claim, one behind the other: NfaM, NfaN, NfaQ, NfaO, NfaR.
-/
import Derived.Test.YtjemdepcaaadiaaDoorH3

/- THE LAWS OF LAYER 10, WALKED: lists compared, the first forty numbers, what is shown. -/
namespace Go.Proofs.YtjemdepcaaadiaaDoor
open Go.RowKit

theorem few_any (v : Value) (xs : List Int) (w : World) (h : IntsAt w v xs) :
    Calls Tryd.prog 22 #[v] w fun e w' => (∃ v', e = .returned v' ∧ IntsAt w v' (xs.take 40)) ∧ w = w' := by
  rcases h with ⟨rfl, rfl⟩ | ⟨b, off, sp, cap, rfl, h1, h2, h4⟩
  · go_enter Tryd.func22, Tryd.ntmps22
    go_wp2
    go_ret
    exact ⟨⟨_, rfl, .nil⟩, rfl⟩
  · have HT := Box.mk (show IntsAt w (.slice (some ⟨b, off, sp⟩) (xs.take 40).length cap) (xs.take 40) from .inr ⟨b, off, sp, cap, rfl, by rw [List.length_take]; omega, h2, fun hn => by
      have hn' : xs ≠ [] := by rintro rfl; exact hn rfl
      refine ⟨(h4 hn').1, (h4 hn').2.1, fun i x hx => (h4 hn').2.2 i x ?_⟩
      rw [List.getElem?_take] at hx
      split at hx
      · exact hx
      · cases hx⟩)
    unfold maxLen at h2
    clear h4
    go_enter Tryd.func22, Tryd.ntmps22
    go_wp2
    all_goals go_ret
    · have hlt : 40 < xs.length := by omega
      refine ⟨⟨_, rfl, ?_⟩, rfl⟩
      have := HT.out
      rw [show (xs.take 40).length = 40 by rw [List.length_take]; omega] at this
      exact this
    · have hle : xs.length ≤ 40 := by omega
      refine ⟨⟨_, rfl, ?_⟩, rfl⟩
      have := HT.out
      rw [List.take_of_length_le hle] at this ⊢
      exact this

theorem drew_below (w : World) (n : Nat) : Below w.heap.size w (w.drewN n) := below_drewN (Below.refl _ _) n

theorem sets_same (a b : Value) (xs : List Int) (w : World) (ha : IntsAt w a xs) (hb : IntsAt w b xs) :
    Calls Tryd.prog 48 #[a, b] w fun e w' => e = .returned (.bool true) ∧ Below w.heap.size w w' := by
  cases hxs : xs with
  | nil =>
    subst hxs
    obtain ⟨a1, ca, rfl⟩ := ha.slice
    obtain ⟨b1, cb, rfl⟩ := hb.slice
    clear ha hb
    go_enter Tryd.func48, Tryd.ntmps48
    go_wp2
    go_rounds 1
    go_ret
    exact ⟨rfl, Below.refl _ _⟩
  | cons x t =>
    have hne : 0 < xs.length := by rw [hxs]; simp
    have hnn : xs ≠ [] := by rw [hxs]; simp
    obtain ⟨ba, oa, ca, rfl, ha1, ha2, ha3, ha4⟩ := ha.get hnn
    obtain ⟨bb, ob, cb, rfl, hb1, hb2, hb3, hb4⟩ := hb.get hnn
    clear ha hb hnn
    clear hxs
    have HA := Box.mk ha4
    have HB := Box.mk hb4
    clear ha4 hb4
    unfold maxLen at ha2 hb2
    go_enter Tryd.func48, Tryd.ntmps48
    go_wp2
    go_loopw [5] (fun i wr => ∃ k n : Nat, k ≤ xs.length ∧ i = .int .i64 k ∧ wr = w.drewN n) (fun i _ => xs.length - (intOf i).toNat)
    case atStart => exact ⟨0, 0, by omega, rfl, rfl⟩
    case round =>
      obtain ⟨k, n, hk, rfl, rfl⟩ := hrel
      by_cases hlt : k < xs.length
      · obtain ⟨y, hy⟩ : ∃ y, xs[k]? = some y := ⟨_, List.getElem?_eq_getElem hlt⟩
        have c1 := HA.out k y hy
        have c2 := HB.out k y hy
        clear hy
        go_wp2
        go_region
        go_wp2
        go_roundw
        case rel => exact ⟨k + 1, n + 1, hlt, by go_num, rfl⟩
        case measure => simp [intOf]; omega
      · go_wp2
        go_ret
        exact ⟨rfl, drew_below _ _⟩

theorem bools_same (a b : Value) (xs : List Bool) (w : World) (ha : BoolsAt w a xs) (hb : BoolsAt w b xs) :
    Calls Tryd.prog 49 #[a, b] w fun e w' => e = .returned (.bool true) ∧ Below w.heap.size w w' := by
  cases hxs : xs with
  | nil =>
    subst hxs
    obtain ⟨a1, ca, rfl⟩ := ha.slice
    obtain ⟨b1, cb, rfl⟩ := hb.slice
    clear ha hb
    go_enter Tryd.func49, Tryd.ntmps49
    go_wp2
    go_rounds 1
    go_ret
    exact ⟨rfl, Below.refl _ _⟩
  | cons x t =>
    have hne : 0 < xs.length := by rw [hxs]; simp
    have hnn : xs ≠ [] := by rw [hxs]; simp
    obtain ⟨ba, oa, ca, rfl, ha1, ha2, ha3, ha4⟩ := ha.get hnn
    obtain ⟨bb, ob, cb, rfl, hb1, hb2, hb3, hb4⟩ := hb.get hnn
    clear ha hb hnn
    clear hxs
    have HA := Box.mk ha4
    have HB := Box.mk hb4
    clear ha4 hb4
    unfold maxLen at ha2 hb2
    go_enter Tryd.func49, Tryd.ntmps49
    go_wp2
    go_loopw [5] (fun i wr => ∃ k n : Nat, k ≤ xs.length ∧ i = .int .i64 k ∧ wr = w.drewN n) (fun i _ => xs.length - (intOf i).toNat)
    case atStart => exact ⟨0, 0, by omega, rfl, rfl⟩
    case round =>
      obtain ⟨k, n, hk, rfl, rfl⟩ := hrel
      by_cases hlt : k < xs.length
      · obtain ⟨y, hy⟩ : ∃ y, xs[k]? = some y := ⟨_, List.getElem?_eq_getElem hlt⟩
        have c1 := HA.out k y hy
        have c2 := HB.out k y hy
        clear hy
        go_wp2
        go_region
        go_wp2
        go_roundw
        case rel => exact ⟨k + 1, n + 1, hlt, by go_num, rfl⟩
        case measure => simp [intOf]; omega
      · go_wp2
        go_ret
        exact ⟨rfl, drew_below _ _⟩

theorem row_at (xs : List Value) (w : World) (T : TypeId) (i : Nat) (x : Value) (hx : xs[i]? = some x) : (w.alloc (.cells xs.toArray T)).cell? ⟨w.heap.size, i, none⟩ = some x := by
  have := World.cell?_alloc_mark w xs.toArray T (0, 0) i
  rw [this]
  simpa using hx
theorem IntsAt.lit (w : World) (T : TypeId) (xs : List Int) (hz : xs.length ≤ 1000) : IntsAt (w.alloc (.cells (xs.map (Value.int .i64)).toArray T)) (.slice (some ⟨w.heap.size, 0, none⟩) xs.length xs.length) xs :=
  .inr ⟨w.heap.size, 0, none, xs.length, rfl, Nat.le_refl _, by unfold maxLen; omega, fun _ => ⟨rfl, by simp, fun i x hx => by
    rw [Nat.zero_add]; exact row_at _ w T i _ (by rw [List.getElem?_map, hx]; rfl)⟩⟩
theorem BoolsAt.lit (w : World) (T : TypeId) (xs : List Bool) (hz : xs.length ≤ 1000) : BoolsAt (w.alloc (.cells (xs.map Value.bool).toArray T)) (.slice (some ⟨w.heap.size, 0, none⟩) xs.length xs.length) xs :=
  .inr ⟨w.heap.size, 0, none, xs.length, rfl, Nat.le_refl _, by unfold maxLen; omega, fun _ => ⟨rfl, by simp, fun i x hx => by
    rw [Nat.zero_add]; exact row_at _ w T i _ (by rw [List.getElem?_map, hx]; rfl)⟩⟩

/-- the pattern that is shown -/
def shownL : List N.Item := [(1, 0), (2, 1)]
theorem shown_items (w : World) (T : TypeId) : ItemsAt (w.alloc (.cells #[.int .i64 1, .int .i64 0, .int .i64 2, .int .i64 1] T)) (.slice (some ⟨w.heap.size, 0, none⟩) 2 2) shownL := by
  refine .inr ⟨w.heap.size, 0, none, 2, rfl, by decide, by decide, fun _ => ⟨rfl, by simp, fun i x hx => ?_⟩⟩
  have hr := row_at [.int .i64 1, .int .i64 0, .int .i64 2, .int .i64 1] w T
  match i, hx with
  | 0, hx => cases hx; exact ⟨hr 0 _ rfl, hr 1 _ rfl⟩
  | 1, hx => cases hx; exact ⟨hr 2 _ rfl, hr 3 _ rfl⟩
theorem shown_right : rightB shownL = true := by decide +kernel
theorem shown_sets : setsOf shownL false [0, 1] = [1, 21, 21] := by decide +kernel
theorem shown_fits : fitsOf shownL false [0, 1, 0, 5] = [false, true, true, true, false] := by decide +kernel
theorem shown_step : stepV shownL false 32 0 = .tuple #[.int .i64 0, .int .i64 80] := by
  unfold stepV; rw [show setOk shownL 32 = false by decide +kernel]; rfl
theorem shown_most : mostV shownL = 31 := by decide +kernel

/-- where a walk stands: the errors lie where they lay, what was there when it began is as it was -/
structure St (A : Nat → Addr) (B : Nat) (W0 w : World) : Prop where
  e : E A B w
  b : Below W0.heap.size W0 w
  hB : B ≤ W0.heap.size
section
variable {A : Nat → Addr} {B : Nat} {W0 w w' : World}
theorem St.step (h : St A B W0 w) (hb : Below w.heap.size w w') : St A B W0 w' := ⟨h.e.below (hb.mono (Nat.le_trans h.hB h.b.size)), h.b.trans (hb.mono h.b.size), h.hB⟩
theorem St.le (h : St A B W0 w) : B ≤ w.heap.size := Nat.le_trans h.hB h.b.size
theorem St.start (h : E A B w) (hB : B ≤ w.heap.size) : St A B w w := ⟨h, Below.refl _ _, hB⟩
theorem St.alloc (h : St A B W0 w) (o : Obj) : St A B W0 (w.alloc o) := h.step (alloc_below w o)
theorem St.agree (h : St A B W0 w) : Agree W0 w := .of_below h.b
end

set_option maxHeartbeats 400000 in
theorem shown_any (A : Nat → Addr) (B : Nat) (w : World) (hE : E A B w) (hB : B ≤ w.heap.size) :
    Calls Tryd.prog 20 #[] w fun e w' => e = .returned (.bool true) ∧ Below w.heap.size w w' := by
  obtain ⟨W0, hW0⟩ : ∃ W0, W0 = (w.alloc (.cells #[.int .i64 1, .int .i64 0, .int .i64 2, .int .i64 1] 79)).alloc (.cells #[.bool false, .slice (some ⟨w.heap.size, 0, none⟩) 2 2] 44) := ⟨_, rfl⟩
  have hb0 : Below w.heap.size w W0 := by rw [hW0]; exact ((Below.refl _ _).alloc (Nat.le_refl _) _).alloc (by simp) _
  have HV := Box.mk (show ItemsAt W0 (.slice (some ⟨w.heap.size, 0, none⟩) 2 2) shownL by rw [hW0]; exact (shown_items w _).below (alloc_below _ _))
  have HBK := Box.mk (show Blk W0 (w.heap.size + 1) 44 #[.bool false, .slice (some ⟨w.heap.size, 0, none⟩) 2 2] by
    rw [hW0]
    have := Blk.new (w.alloc (.cells #[.int .i64 1, .int .i64 0, .int .i64 2, .int .i64 1] 79)) 44 #[.bool false, .slice (some ⟨w.heap.size, 0, none⟩) 2 2]
    simpa using this)
  have HS0 := Box.mk (show St A B W0 W0 from St.start (hE.below (hb0.mono hB)) (Nat.le_trans hB hb0.size))
  have HB0 := Box.mk hb0
  have HW0 := Box.mk hW0
  have hc0 : ∀ W, St A B W0 W → W.cell? ⟨w.heap.size + 1, 0, none⟩ = some (.bool false) := fun W h => ((HBK.out.below h.b HBK.out.lt).cell 0).trans rfl
  have hc1 : ∀ W, St A B W0 W → W.cell? ⟨w.heap.size + 1, 1, none⟩ = some (.slice (some ⟨w.heap.size, 0, none⟩) 2 2) := fun W h => ((HBK.out.below h.b HBK.out.lt).cell 1).trans rfl
  have HC0 := Box.mk hc0
  have HC1 := Box.mk hc1
  clear hE hb0 hW0 hc0 hc1
  go_enter Tryd.func20, Tryd.ntmps20
  go_wp2_with fail
  have hS1 := HS0.out.alloc (.cells #[.int .i64 0, .int .i64 1] 3)
  have hw := HW0.out
  have hz : W0.heap.size = w.heap.size + 1 + 1 := by rw [hw]; simp
  have HZ := Box.mk hz
  have HI1 := Box.mk (show IntsAt (W0.alloc (.cells #[.int .i64 0, .int .i64 1] 3)) (.slice (some ⟨w.heap.size + 1 + 1, 0, none⟩) 2 2) [0, 1] by rw [← hz]; exact IntsAt.lit W0 3 [0, 1] (by decide))
  have HR1 := Box.mk (run_any A B false _ shownL _ [0, 1] _ (HV.out.below hS1.b) (by decide) HI1.out (by decide) hS1.e hS1.le)
  clear hz
  rw [← hw]
  clear hw
  refine HR1.out.mono ?_; rintro e w1 ⟨hb1, hyes, -⟩
  obtain ⟨v1, rfl, hi1⟩ := hyes shown_right
  rw [shown_sets] at hi1
  have hS2 := hS1.step hb1
  have HV1 := Box.mk hi1
  have HS2 := Box.mk hS2
  have c0 := HC0.out _ hS2
  have c1 := HC1.out _ hS2
  clear hS1 hb1 hyes hi1
  go_wp2_with fail
  have hS3 := HS2.out.alloc (.cells #[.int .i64 0, .int .i64 1, .int .i64 0, .int .i64 5] 3)
  have HI2 := Box.mk (show IntsAt (w1.alloc (.cells #[.int .i64 0, .int .i64 1, .int .i64 0, .int .i64 5] 3)) (.slice (some ⟨w1.heap.size, 0, none⟩) 4 4) [0, 1, 0, 5] from IntsAt.lit w1 3 [0, 1, 0, 5] (by decide))
  have HR2 := Box.mk (fits_any A B false _ shownL _ [0, 1, 0, 5] _ (HV.out.below hS3.b) (by decide) HI2.out (by decide) hS3.e hS3.le)
  refine HR2.out.mono ?_; rintro e w2 ⟨hb2, hyes, -⟩
  obtain ⟨v2, rfl, hi2⟩ := hyes shown_right
  rw [shown_fits] at hi2
  have hS4 := hS3.step hb2
  have HV1' := Box.mk ((HV1.out.below (alloc_below w1 _)).below hb2)
  have HV2 := Box.mk hi2
  have HS4 := Box.mk hS4
  have d0 := HC0.out _ hS4
  have d1 := HC1.out _ hS4
  clear hS3 hS4 hb2 hyes hi2 c0 c1
  go_wp2_with fail
  refine (pstep_any A B false _ shownL 32 0 _ (HV.out.below HS4.out.b) (by decide) HS4.out.e HS4.out.le).mono ?_; rintro e w3 ⟨rfl, hb3⟩
  rw [shown_step]
  have hS5 := HS4.out.step hb3
  have HV13 := Box.mk (HV1'.out.below hb3)
  have HV23 := Box.mk (HV2.out.below hb3)
  have HS5 := Box.mk hS5
  clear hS5 hb3 d0 d1
  go_wp2_with fail
  have hS6 := HS5.out.alloc (.cells #[.int .i64 1, .int .i64 21, .int .i64 21] 2)
  have HI3 := Box.mk (show IntsAt (w3.alloc (.cells #[.int .i64 1, .int .i64 21, .int .i64 21] 2)) (.slice (some ⟨w3.heap.size, 0, none⟩) 3 3) [1, 21, 21] from IntsAt.lit w3 2 [1, 21, 21] (by decide))
  refine (sets_same _ _ [1, 21, 21] _ (HV13.out.below (alloc_below w3 _)) HI3.out).mono ?_; rintro e w4 ⟨rfl, hb4⟩
  have hS7 := hS6.step hb4
  have HV24 := Box.mk ((HV23.out.below (alloc_below w3 _)).below hb4)
  have HS7 := Box.mk hS7
  clear hS6 hS7 hb4
  go_wp2_with fail
  have hS8 := HS7.out.alloc (.cells #[.bool false, .bool true, .bool true, .bool true, .bool false] 4)
  have HI4 := Box.mk (show BoolsAt (w4.alloc (.cells #[.bool false, .bool true, .bool true, .bool true, .bool false] 4)) (.slice (some ⟨w4.heap.size, 0, none⟩) 5 5) [false, true, true, true, false] from BoolsAt.lit w4 4 [false, true, true, true, false] (by decide))
  refine (bools_same _ _ [false, true, true, true, false] _ (HV24.out.below (alloc_below w4 _)) HI4.out).mono ?_; rintro e w5 ⟨rfl, hb5⟩
  have hS9 := hS8.step hb5
  have HS9 := Box.mk hS9
  have f0 := HC0.out _ hS9
  have f1 := HC1.out _ hS9
  clear hS8 hS9 hb5
  go_wp2_with fail
  refine (most_any A B false _ shownL _ (HV.out.below HS9.out.b) (by decide) HS9.out.e HS9.out.le).mono ?_; rintro e w6 ⟨rfl, hb6⟩
  rw [shown_most]
  have HS10 := Box.mk (HS9.out.step hb6)
  clear hb6 f0 f1
  go_wp2_with fail
  go_ret
  exact ⟨rfl, HB0.out.trans (HS10.out.b.mono HB0.out.size)⟩
end Go.Proofs.YtjemdepcaaadiaaDoor

/- THE LAWS OF LAYER 10, WALKED. -/
namespace Go.Proofs.YtjemdepcaaadiaaDoor
open Go.RowKit

theorem first_pair (l : List N.Item) : ∃ a e, firstV l = .tuple #[.int .i64 a, .int .i64 e] := by
  unfold firstV
  split
  · exact ⟨_, _, rfl⟩
  · exact ⟨_, _, rfl⟩
theorem step_pair (l : List N.Item) (st : Bool) (x c : Int) : ∃ a e, stepV l st x c = .tuple #[.int .i64 a, .int .i64 e] := by
  unfold stepV
  split
  · exact ⟨_, _, rfl⟩
  · exact ⟨_, _, rfl⟩

def codeOf (l : List N.Item) : Int := if rightB l = true then 0 else 80
def setsR (l : List N.Item) (st : Bool) (cs : List Int) : List Int := if rightB l = true then setsOf l st cs else []
def fitsR (l : List N.Item) (st : Bool) (cs : List Int) : List Bool := if rightB l = true then fitsOf l st cs else []
theorem runPost.all {l : List N.Item} {st : Bool} {cs : List Int} {w w' : World} {e : Ending} (h : runPost l st cs w e w') : Below w.heap.size w w' ∧ ∃ v, e = .returned (.tuple #[v, .int .i64 (codeOf l)]) ∧ IntsAt w' v (setsR l st cs) := by
  obtain ⟨hb, hy, hn⟩ := h
  unfold codeOf setsR
  cases hr : rightB l with
  | true => exact ⟨hb, hy hr⟩
  | false => exact ⟨hb, _, hn hr, .nil⟩
theorem fitsPost.all {l : List N.Item} {st : Bool} {cs : List Int} {w w' : World} {e : Ending} (h : fitsPost l st cs w e w') : Below w.heap.size w w' ∧ ∃ v, e = .returned (.tuple #[v, .int .i64 (codeOf l)]) ∧ BoolsAt w' v (fitsR l st cs) := by
  obtain ⟨hb, hy, hn⟩ := h
  unfold codeOf fitsR
  cases hr : rightB l with
  | true => exact ⟨hb, hy hr⟩
  | false => exact ⟨hb, _, hn hr, .inl ⟨rfl, rfl⟩⟩

end Go.Proofs.YtjemdepcaaadiaaDoor

/- THE LAWS OF LAYER 10, WALKED: where a pattern with Start has fitted; no set has a state that there is not. -/
namespace Go.Proofs.YtjemdepcaaadiaaDoor
open Go.RowKit

theorem fits_get {l : List N.Item} {cs : List Int} {i : Nat} {a : Bool} (st : Bool) (h : (fitsOf l st cs)[i]? = some a) : i ≤ cs.length ∧ a = doneV l (N.at' l st (N.clo l 0) cs i : Int) := by
  unfold fitsOf setsOf at h
  rw [List.map_map, List.getElem?_map] at h
  obtain ⟨S, hS, rfl⟩ := Option.map_eq_some_iff.1 h
  have hi : i < (N.runs l st (N.clo l 0) cs cs.length).length := (List.getElem?_eq_some_iff.1 hS).1
  rw [N.runs_len] at hi
  rw [N.runs_get _ _ _ _ _ _ (by omega)] at hS
  cases hS
  exact ⟨by omega, rfl⟩
theorem fits_start {l : List N.Item} {cs : List Int} (hr : rightB l = true) {i : Nat} {a b : Bool} (ha : (fitsOf l true cs)[i]? = some a) (hb : (fitsOf l false cs)[i]? = some b) (h : a = true) : b = true := by
  obtain ⟨hi, rfl⟩ := fits_get true ha
  obtain ⟨-, rfl⟩ := fits_get false hb
  have hl := N.clo_lt l 0 (by omega)
  have h1 := N.at_lt l true (N.clo l 0) cs hl i hi
  have h2 := N.at_lt l false (N.clo l 0) cs hl i hi
  unfold doneV at h ⊢
  rw [Bool.and_eq_true] at h ⊢
  refine ⟨?_, ?_⟩
  · unfold setOk N.most
    rw [hr]
    have : 0 < 2 ^ (2 * l.length + 1) := Nat.two_pow_pos _
    simp only [Bool.true_and, Bool.and_eq_true, decide_eq_true_eq]
    omega
  · rw [Int.toNat_natCast] at h ⊢
    exact N.done_mono l cs _ i hi h.2
theorem fitsOf_len (l : List N.Item) (st : Bool) (cs : List Int) : (fitsOf l st cs).length = cs.length + 1 := by unfold fitsOf; rw [List.length_map, setsOf_len]

theorem sets_get {l : List N.Item} {cs : List Int} {st : Bool} {i : Nat} {x : Int} (h : (setsOf l st cs)[i]? = some x) : i ≤ cs.length ∧ x = (N.at' l st (N.clo l 0) cs i : Int) := by
  unfold setsOf at h
  rw [List.getElem?_map] at h
  obtain ⟨S, hS, rfl⟩ := Option.map_eq_some_iff.1 h
  have hi : i < (N.runs l st (N.clo l 0) cs cs.length).length := (List.getElem?_eq_some_iff.1 hS).1
  rw [N.runs_len] at hi
  rw [N.runs_get _ _ _ _ _ _ (by omega)] at hS
  cases hS
  exact ⟨by omega, rfl⟩
theorem St.trans {A : Nat → Addr} {B : Nat} {W0 W1 W2 : World} (h : St A B W0 W1) (k : St A B W1 W2) : St A B W0 W2 := h.step k.b

end Go.Proofs.YtjemdepcaaadiaaDoor

/- THE LAWS OF LAYER 10, WALKED: unions, and where a pattern with Start has fitted. -/
namespace Go.Proofs.YtjemdepcaaadiaaDoor
open Go.RowKit

theorem wf_range {n : Int} (h : (Lit.int .i64 n).wf = true) : -9223372036854775808 ≤ n ∧ n ≤ 9223372036854775807 := by
  simp only [Lit.wf, Bool.and_eq_true, decide_eq_true_eq] at h
  exact h
theorem ofInt_neg (a : Int) (h0 : -9223372036854775808 ≤ a) (h1 : a < 0) : 9223372036854775808 ≤ (BitVec.ofInt 64 a).toNat := by
  rw [BitVec.toNat_ofInt]
  omega
theorem or_nonneg (a b : Int) (ha : -9223372036854775808 ≤ a) (hb : -9223372036854775808 ≤ b) (h : 0 ≤ bits .or .i64 a b) : 0 ≤ a ∧ 0 ≤ b := by
  have key : (BitVec.ofInt 64 a ||| BitVec.ofInt 64 b).toNat < 9223372036854775808 := by
    rcases Nat.lt_or_ge (BitVec.ofInt 64 a ||| BitVec.ofInt 64 b).toNat 9223372036854775808 with h' | h'
    · exact h'
    · exfalso
      have hlt := (BitVec.ofInt 64 a ||| BitVec.ofInt 64 b).isLt
      have h2 : 0 ≤ IntKind.i64.wrap ((BitVec.ofInt 64 a ||| BitVec.ofInt 64 b).toNat : Int) := h
      rw [IntKind.wrap_i64] at h2
      generalize (BitVec.ofInt 64 a ||| BitVec.ofInt 64 b).toNat = z at *
      omega
  rw [BitVec.toNat_or] at key
  constructor
  · rcases Int.lt_or_le a 0 with h' | h'
    · have h1 := ofInt_neg a ha h'
      have h2 : (BitVec.ofInt 64 a).toNat ≤ (BitVec.ofInt 64 a).toNat ||| (BitVec.ofInt 64 b).toNat := Nat.left_le_or
      omega
    · exact h'
  · rcases Int.lt_or_le b 0 with h' | h'
    · have h1 := ofInt_neg b hb h'
      have h2 : (BitVec.ofInt 64 b).toNat ≤ (BitVec.ofInt 64 a).toNat ||| (BitVec.ofInt 64 b).toNat := Nat.right_le_or
      omega
    · exact h'
theorem stepV_no {l : List N.Item} {st : Bool} {x c : Int} (h : setOk l x = false) : stepV l st x c = .tuple #[.int .i64 0, .int .i64 80] := by unfold stepV; rw [h]; rfl
theorem stepV_yes {l : List N.Item} {st : Bool} {x c : Int} (h : setOk l x = true) : stepV l st x c = .tuple #[.int .i64 (N.step l st x.toNat c), .int .i64 0] := by unfold stepV; rw [h]; rfl
theorem setOk_lt {l : List N.Item} {S : Nat} (h : setOk l (S : Int) = true) : S < 2 ^ (2 * l.length + 1) := by
  have h1 := (setOk_yes h).2.2
  unfold N.most at h1
  have : 0 < 2 ^ (2 * l.length + 1) := Nat.two_pow_pos _
  omega
theorem setOk_of_lt {l : List N.Item} {S : Nat} (hr : rightB l = true) (h : S < 2 ^ (2 * l.length + 1)) : setOk l (S : Int) = true := by
  unfold setOk N.most
  rw [hr]
  simp only [Bool.true_and, Bool.and_eq_true, decide_eq_true_eq]
  omega
theorem setOk_or {l : List N.Item} {S T : Nat} (hs : setOk l (S : Int) = true) (ht : setOk l (T : Int) = true) : setOk l ((S ||| T : Nat) : Int) = true :=
  setOk_of_lt (setOk_yes hs).1 (Nat.or_lt_two_pow (setOk_lt hs) (setOk_lt ht))
theorem or_cast {l : List N.Item} (hl : l.length ≤ 10) {S T : Nat} (hs : S < 2 ^ (2 * l.length + 1)) (ht : T < 2 ^ (2 * l.length + 1)) : bits .or .i64 (S : Int) (T : Int) = ((S ||| T : Nat) : Int) := by
  have h1 := lt_62 l hl S hs
  have h2 := lt_62 l hl T ht
  exact i64_or_nat S T (by omega) (by omega)

end Go.Proofs.YtjemdepcaaadiaaDoor

/- THE LAWS OF LAYER 10, WALKED: the states behind some numbers are the steps from those behind fewer. -/
namespace Go.Proofs.YtjemdepcaaadiaaDoor
open Go.RowKit

theorem IntsAt.take {w : World} {ao : Option Addr} {cap : Nat} {xs : List Int} (h : IntsAt w (.slice ao xs.length cap) xs) (n : Nat) : IntsAt w (.slice ao (xs.take n).length cap) (xs.take n) := by
  rcases h with ⟨h1, rfl⟩ | ⟨b, off, sp, cap, h1, h2, h3, h4⟩
  · injection h1 with h1 h2 h3
    subst h1 h3
    simp [IntsAt]
  · injection h1 with h1 h2' h3'
    subst h1 h3'
    refine .inr ⟨b, off, sp, _, rfl, by rw [List.length_take]; omega, h3, fun hn => ?_⟩
    have hn' : xs ≠ [] := by rintro rfl; simp at hn
    refine ⟨(h4 hn').1, (h4 hn').2.1, fun i x hx => (h4 hn').2.2 i x ?_⟩
    rw [List.getElem?_take] at hx
    split at hx
    · exact hx
    · cases hx
theorem IntsAt.cap_le {w : World} {ao : Option Addr} {cap n : Nat} {xs : List Int} (h : IntsAt w (.slice ao n cap) xs) : xs.length ≤ cap ∧ cap ≤ 9223372036854775807 := by
  rcases h with ⟨h1, rfl⟩ | ⟨b, off, sp, cap, h1, h2, h3, h4⟩
  · injection h1 with h1 h2 h3; subst h3; simp
  · injection h1 with h1 h2' h3'; subst h3'; unfold maxLen at h3; omega
theorem setsOf_take (l : List N.Item) (st : Bool) (cs : List Int) (n : Nat) (h : n ≤ cs.length) : (setsOf l st cs).take (n + 1) = setsOf l st (cs.take n) := by
  unfold setsOf
  rw [← List.map_take, N.runs_take _ _ _ _ _ _ h, List.length_take, Nat.min_eq_left h]
theorem setsOf_at (l : List N.Item) (st : Bool) (cs : List Int) (i : Nat) (h : i ≤ cs.length) : (setsOf l st cs)[i]? = some (N.at' l st (N.clo l 0) cs i : Int) := by
  unfold setsOf
  rw [List.getElem?_map, N.runs_get _ _ _ _ _ _ h]
  rfl

end Go.Proofs.YtjemdepcaaadiaaDoor
