/-
  THE LAW MendMakes, WALKED.
-/
import Derived.Test.YtbagecjkfcoapaaDoorMnX
import Derived.Test.YtbagecjkfcoapaaDoorIntsEq
namespace Go.Proofs.YtbagecjkfcoapaaDoor
open Go.RowKit

section
variable {A : Nat → Addr} {B : Nat} {W0 w : World}
theorem units_i (s : ByteArray) (xs : List Int) (n : Nat) (hx : Box (cutsV s.data.toList = xs)) (hn : Box (xs.length = n)) (hs : Box (s.size ≤ 100000)) (h : St A B W0 w) :
    Calls Tryd.prog 19 #[.string s] w fun e w' => (∃ a c, e = .returned (.slice a n c) ∧ Box (IntsAt w' (.slice a n c) xs)) ∧ Below w.heap.size w w' ∧ St A B W0 w' :=
  (units_any A B s w (Nat.le_trans hs.out (by decide)) h.e h.le).mono fun e w' ⟨⟨v, he, hi⟩, hb⟩ => by
    rw [hx.out] at hi
    obtain ⟨a, c, rfl⟩ := hi.slice
    rw [hn.out] at he hi
    exact ⟨⟨a, c, he, ⟨hi⟩⟩, hb, h.step hb⟩
theorem runits_i (s : ByteArray) (xs : List Int) (n : Nat) (hx : Box (cutsV s.data.toList = xs)) (hn : Box (xs.length = n)) (hs : Box (s.size ≤ 100000)) (h : St A B W0 w) :
    Calls Tryd.prog 20 #[.string s] w fun e w' => (∃ a c, e = .returned (.slice a n c) ∧ Box (IntsAt w' (.slice a n c) xs)) ∧ Below w.heap.size w w' ∧ St A B W0 w' :=
  (runits_any s w hs.out).mono fun e w' ⟨⟨v, he, hi⟩, hb⟩ => by
    rw [hx.out] at hi
    obtain ⟨a, c, rfl⟩ := hi.slice
    rw [hn.out] at he hi
    exact ⟨⟨a, c, he, ⟨hi⟩⟩, hb, h.step hb⟩
theorem runit_b (s : ByteArray) (v : Value) (hv : Box (unitT s.data.toList = v)) (hs : Box (s.size ≤ 100000)) (h : St A B W0 w) :
    Calls Tryd.prog 15 #[.string s] w fun e w' => e = .returned v ∧ St A B W0 w' := by
  rw [← hv.out]; exact (runit_any s w (Nat.le_trans hs.out (by decide))).mono fun _ _ ⟨he, hb⟩ => ⟨he, hb ▸ h⟩
theorem rnext_b (s : ByteArray) (q : Int) (v : Value) (hv : Box (nextV s.data.toList q = v)) (hs : Box (s.size ≤ 100000)) (h : St A B W0 w) :
    Calls Tryd.prog 16 #[.string s, .int .i64 q] w fun e w' => e = .returned v ∧ St A B W0 w' := by
  rw [← hv.out]; exact (rnext_any s q w hs.out).mono fun _ _ ⟨he, hb⟩ => ⟨he, h.step hb⟩
theorem rback_b (s : ByteArray) (q : Int) (v : Value) (hv : Box (backV s.data.toList q = v)) (hs : Box (s.size ≤ 100000)) (h : St A B W0 w) :
    Calls Tryd.prog 17 #[.string s, .int .i64 q] w fun e w' => e = .returned v ∧ St A B W0 w' := by
  rw [← hv.out]; exact (rback_any s q w hs.out).mono fun _ _ ⟨he, hb⟩ => ⟨he, h.step hb⟩
theorem rbad_b (s : ByteArray) (n : Nat) (hv : Box (M.badN s.data.toList = n)) (hs : Box (s.size ≤ 100000)) (h : St A B W0 w) :
    Calls Tryd.prog 24 #[.string s] w fun e w' => e = .returned (.int .i64 n) ∧ St A B W0 w' := by
  rw [← hv.out]; exact (rbad_any s w hs.out).mono fun _ _ ⟨he, hb⟩ => ⟨he, h.step hb⟩
theorem rrep_b (s t : ByteArray) (hv : Box ((⟨(M.fix s.data.toList).toArray⟩ : ByteArray) = t)) (hs : Box (s.size ≤ 100000)) (h : St A B W0 w) :
    Calls Tryd.prog 22 #[.string s] w fun e w' => e = .returned (.string t) ∧ St A B W0 w' := by
  rw [← hv.out]; exact (rrepair_any s w hs.out).mono fun _ _ ⟨he, hb⟩ => ⟨he, h.step hb⟩
end

set_option maxHeartbeats 2000000 in
theorem makes_walk (A : Nat → Addr) (B : Nat) (s c t : ByteArray) (q un na ne ba be : Int) (uo : Bool) (xs : List Int) (n b : Nat) (w : World) (hc : Box (s.size ≤ maxLen ∧ cutS s = c)) (zc : Box (c.size ≤ 100000))
    (hu : Box (unitT c.data.toList = .tuple #[.int .i64 un, .bool uo])) (hn : Box (nextV c.data.toList q = .tuple #[.int .i64 na, .int .i64 ne])) (hb : Box (backV c.data.toList q = .tuple #[.int .i64 ba, .int .i64 be]))
    (hx : Box (cutsV c.data.toList = xs)) (hxn : Box (xs.length = n)) (hxz : Box (xs.length ≤ 16777216)) (ht : Box ((⟨(M.fix c.data.toList).toArray⟩ : ByteArray) = t)) (hbad : Box (M.badN c.data.toList = b)) (h0 : St A B w w) :
    Calls Tryd.prog 4 #[.string s, .int .i64 q] w fun e w' => e = .returned (.bool true) ∧ St A B w w' := by
  go_enter Tryd.func4, Tryd.ntmps4
  go_wp2_with fail
  refine (shown_st A B w _ h0).mono ?_; rintro e w1 ⟨rfl, h1⟩
  go_wp2_with fail
  refine (cut_b s _ _ hc).mono ?_; rintro e w2 ⟨rfl, rfl⟩
  go_wp2_with fail
  refine (unit_b _ _ hu zc h1).mono ?_; rintro e w2 ⟨rfl, h2⟩
  go_wp2_with fail
  refine (runit_b _ _ hu zc h2).mono ?_; rintro e w3 ⟨rfl, h3⟩
  go_wp2_with fail
  refine (next_b _ _ _ hn zc h3).mono ?_; rintro e w4 ⟨rfl, h4⟩
  go_wp2_with fail
  refine (rnext_b _ _ _ hn zc h4).mono ?_; rintro e w5 ⟨rfl, h5⟩
  go_wp2_with fail
  refine (back_b _ _ _ hb zc h5).mono ?_; rintro e w6 ⟨rfl, h6⟩
  go_wp2_with fail
  refine (rback_b _ _ _ hb zc h6).mono ?_; rintro e w7 ⟨rfl, h7⟩
  have HS7 := Box.mk h7
  clear h0 h1 h2 h3 h4 h5 h6 h7
  go_wp2_with fail
  refine (units_i _ _ _ hx hxn zc HS7.out).mono ?_; rintro e w8 ⟨⟨a1, c1, rfl, HI1⟩, -, h8⟩
  have HS8 := Box.mk h8
  clear h8
  go_wp2_with fail
  refine (runits_i _ _ _ hx hxn zc HS8.out).mono ?_; rintro e w9 ⟨⟨a2, c2, rfl, HI2⟩, hb9, h9⟩
  have HI3 := Box.mk (HI1.out.below hb9)
  have HS9 := Box.mk h9
  clear h9 hb9
  go_wp2_with fail
  refine (ints_same _ _ xs _ HI3.out HI2.out hxz.out).mono ?_; rintro e w10 ⟨rfl, k, rfl⟩
  have HS10 := Box.mk (HS9.out.step (drew_below' _ k))
  go_wp2_with fail
  refine (rep_b _ _ ht zc HS10.out).mono ?_; rintro e w11 ⟨rfl, h11⟩
  go_wp2_with fail
  refine (rrep_b _ _ ht zc h11).mono ?_; rintro e w12 ⟨rfl, h12⟩
  go_wp2_with fail
  refine (bad_b _ _ hbad zc h12).mono ?_; rintro e w13 ⟨rfl, h13⟩
  go_wp2_with fail
  refine (rbad_b _ _ hbad zc h13).mono ?_; rintro e w14 ⟨rfl, h14⟩
  go_wp2_with fail
  go_ret
  exact ⟨rfl, h14⟩

theorem law_MendMakes (A : Nat → Addr) (B : Nat) (s : ByteArray) (q : Int) (w : World) (hs : s.size ≤ maxLen) (hE : E A B w) (hB : B ≤ w.heap.size) :
    Calls Tryd.prog 4 #[.string s, .int .i64 q] w fun e w' => e = .returned (.bool true) ∧ Below w.heap.size w w' := by
  have hz := cutS_size s
  have hp := places_le (cutS s).data.toList
  rw [← size_eq] at hp
  have hl : (cutsV (cutS s).data.toList).length ≤ 16777216 := by unfold cutsV; rw [List.length_map, M.cuts_len]; omega
  obtain ⟨na, ne, hn⟩ := nextV_tuple (cutS s).data.toList q
  obtain ⟨ba, be, hb⟩ := backV_tuple (cutS s).data.toList q
  exact (makes_walk A B s _ _ q _ na ne ba be _ _ _ _ w ⟨⟨hs, rfl⟩⟩ ⟨by omega⟩ ⟨rfl⟩ ⟨hn⟩ ⟨hb⟩ ⟨rfl⟩ ⟨rfl⟩ ⟨hl⟩ ⟨rfl⟩ ⟨rfl⟩ (St.start hE hB)).mono fun e w' ⟨he, h⟩ => ⟨he, h.b⟩
end Go.Proofs.YtbagecjkfcoapaaDoor
