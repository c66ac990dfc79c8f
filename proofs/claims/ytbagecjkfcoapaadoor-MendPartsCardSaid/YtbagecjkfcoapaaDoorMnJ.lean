/-
  THE UNITS OF A TEXT, AS A LIST THAT LIES IN MEMORY; the law MendWalks, walked.
-/
import Derived.Test.YtbagecjkfcoapaaDoorMnS
namespace Go.Proofs.YtbagecjkfcoapaaDoor
open Go.RowKit

def CutsAt (w : World) (g off cap : Nat) (l : List UInt8) : Prop := g < w.heap.size ∧ (M.places l).length + 1 ≤ cap ∧ cap ≤ maxLen ∧ ∀ (k p : Nat), (M.cuts (M.places l))[k]? = some p → w.cell? ⟨g, off + k, none⟩ = some (.int .i64 (p : Int))
theorem CutsAt.below {w w' : World} {g off cap : Nat} {l : List UInt8} (h : CutsAt w g off cap l) (hb : Below w.heap.size w w') : CutsAt w' g off cap l :=
  ⟨Nat.lt_of_lt_of_le h.1 hb.size, h.2.1, h.2.2.1, fun k p hk => (hb.cell (p := ⟨g, off + k, none⟩) h.1).trans (h.2.2.2 k p hk)⟩
theorem cuts_of {w : World} {v : Value} {l : List UInt8} (h : IntsAt w v (cutsV l)) : ∃ g off cap, v = .slice (some ⟨g, off, none⟩) ((M.places l).length + 1) cap ∧ CutsAt w g off cap l := by
  have hl : (cutsV l).length = (M.places l).length + 1 := by unfold cutsV; rw [List.length_map, M.cuts_len]
  obtain ⟨g, off, cap, h1, h2, h3, h4, h5⟩ := h.get (by intro e; rw [e] at hl; simp at hl)
  rw [hl] at h1 h2
  refine ⟨g, off, cap, h1, h4, h2, h3, fun k p hk => h5 k p ?_⟩
  unfold cutsV
  rw [List.getElem?_map, hk]; rfl
theorem CutsAt.step {A : Nat → Addr} {B : Nat} {w w' : World} {g off cap : Nat} {l : List UInt8} (h : CutsAt w g off cap l) (hs : St A B w w') : CutsAt w' g off cap l := h.below hs.b
section
variable {A : Nat → Addr} {B : Nat} {W0 w : World}
theorem units_c (s : ByteArray) (l : List UInt8) (n : Nat) (hl : Box (s.data.toList = l)) (hn : Box ((M.places l).length + 1 = n)) (hs : Box (s.size ≤ 100000)) (h : St A B W0 w) :
    Calls Tryd.prog 19 #[.string s] w fun e w' => (∃ g off cap, e = .returned (.slice (some ⟨g, off, none⟩) n cap) ∧ Box (CutsAt w' g off cap l)) ∧ Below w.heap.size w w' ∧ St A B W0 w' := by
  rw [← hl.out] at hn ⊢
  rw [← hn.out]
  exact (units_any A B s w (Nat.le_trans hs.out (by decide)) h.e h.le).mono fun e w' ⟨⟨v, he, hi⟩, hb⟩ => by
    obtain ⟨g, off, cap, rfl, hc⟩ := cuts_of hi
    exact ⟨⟨g, off, cap, he, ⟨hc⟩⟩, hb, h.step hb⟩
theorem back_c (s : ByteArray) (q : Int) (v : Value) (hv : Box (backV s.data.toList q = v)) (hs : Box (s.size ≤ 100000)) (h : St A B W0 w) :
    Calls Tryd.prog 13 #[.string s, .int .i64 q] w fun e w' => e = .returned v ∧ Below w.heap.size w w' ∧ St A B W0 w' := by
  rw [← hv.out]; exact (mback_any A B s q w hs.out h.e h.le).mono fun _ _ ⟨he, hb⟩ => ⟨he, hb, h.step hb⟩
end

set_option maxHeartbeats 2000000 in
theorem walks_walk (A : Nat → Addr) (B : Nat) (s c : ByteArray) (m : Nat) (w : World) (hc : Box (s.size ≤ maxLen ∧ cutS s = c)) (zc : Box (c.size ≤ 100000)) (zz : c.size ≤ 300) (hm : Box ((M.places c.data.toList).length + 1 = m + 1)) (hmz : m ≤ 300) (h0 : St A B w w) :
    Calls Tryd.prog 7 #[.string s] w fun e w' => e = .returned (.bool true) ∧ St A B w w' := by
  have HSZ := Box.mk (size_eq c)
  go_enter Tryd.func7, Tryd.ntmps7
  go_wp2_with fail
  refine (shown_st A B w _ h0).mono ?_; rintro e w1 ⟨rfl, h1⟩
  go_wp2_with fail
  refine (cut_b s _ _ hc).mono ?_; rintro e w2 ⟨rfl, rfl⟩
  go_wp2_with fail
  refine (units_c _ _ _ ⟨rfl⟩ hm zc h1).mono ?_; rintro e w3 ⟨⟨g, off, cap, rfl, HC⟩, -, h3⟩
  have HCAP := Box.mk (And.intro HC.out.2.1 HC.out.2.2.1)
  have hcap1 : m + 1 ≤ cap := by have := HC.out.2.1; have := hm.out; omega
  have hcap2 : cap ≤ 9223372036854775807 := by have := HC.out.2.2.1; unfold maxLen at this; omega
  go_wp2_with fail
  go_loopw [5, 6] (fun v i wr => ∃ k p : Nat, k ≤ m ∧ v = .int .i64 p ∧ i = .int .i64 k ∧ Box ((M.cuts (M.places c.data.toList))[k]? = some p) ∧ Box (St A B w wr) ∧ Box (CutsAt wr g off cap c.data.toList)) (fun _ i _ => (intOf i).toNat)
  case atStart =>
    refine ⟨m, c.size, Nat.le_refl _, rfl, by go_num, ⟨?_⟩, ⟨h3⟩, HC⟩
    have := M.cuts_last c.data.toList
    rw [show (M.places c.data.toList).length = m by have := hm.out; omega, ← HSZ.out] at this
    exact this
  case round =>
    obtain ⟨k, p, hk, rfl, rfl, hp, hst, hcu⟩ := hrel
    cases k with
    | zero =>
      obtain rfl : p = 0 := by have := hp.out; rw [M.cuts_zero] at this; cases this; rfl
      clear hcu hp
      go_wp2_with fail
      go_ret
      exact ⟨rfl, hst.out⟩
    | succ j =>
      obtain ⟨x, -, g1, g2, -, g3, g4, g5, g6, -⟩ := M.cuts_get (s := c.data.toList) (i := j) (by have := hm.out; omega)
      obtain rfl : p = x.1 + x.2.1 := by have := hp.out; rw [g2] at this; cases this; rfl
      have HB := Box.mk (back_yes g3)
      have hx : x.1 + x.2.1 ≤ 300 := by rw [← HSZ.out] at g6; omega
      have HG1 := Box.mk g1
      have HG2 := Box.mk g2
      obtain ⟨xa, xm, xo⟩ := x
      generalize hq : xa + xm = q at *
      clear g1 g2 g3 g4 g5 g6 h0 h1 h3 hq
      go_wp2_with fail
      refine (back_c c q _ HB zc hst.out).mono ?_; rintro e w4 ⟨rfl, hb4, h4⟩
      have HC4 := Box.mk (hcu.out.below hb4)
      have H4 := Box.mk h4
      have k0 : w4.cell? ⟨g, off + j, none⟩ = some (.int .i64 (xa : Int)) := HC4.out.2.2.2 j xa HG1.out
      have k1 : w4.cell? ⟨g, off + (j + 1), none⟩ = some (.int .i64 (q : Int)) := HC4.out.2.2.2 (j + 1) q HG2.out
      clear hb4 h4
      go_wp2_with fail
      go_roundw
      case rel => exact ⟨j, xa, by omega, rfl, by go_num, HG1, H4, HC4⟩
      case measure => simp [intOf]; try omega

theorem law_MendWalks (A : Nat → Addr) (B : Nat) (s : ByteArray) (w : World) (hs : s.size ≤ maxLen) (hE : E A B w) (hB : B ≤ w.heap.size) :
    Calls Tryd.prog 7 #[.string s] w fun e w' => e = .returned (.bool true) ∧ Below w.heap.size w w' := by
  have hz := cutS_size s
  have hp := places_le (cutS s).data.toList
  rw [← size_eq] at hp
  exact (walks_walk A B s _ _ w ⟨⟨hs, rfl⟩⟩ ⟨by omega⟩ hz ⟨rfl⟩ (by omega) (St.start hE hB)).mono fun e w' ⟨he, h⟩ => ⟨he, h.b⟩
end Go.Proofs.YtbagecjkfcoapaaDoor
