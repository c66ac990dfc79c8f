/-
  THE LAW MendCounts, WALKED.
-/
import Derived.Test.YtbagecjkfcoapaaDoorMnJ
import Derived.Test.YtbagecjkfcoapaaDoorMnR
import Derived.IntWalk
namespace Go.Proofs.YtbagecjkfcoapaaDoor
open Go.RowKit

theorem drew_below' (w : World) (n : Nat) : Below w.heap.size w (w.drewN n) := below_drewN (Below.refl _ _) n
theorem scal_c {A : Nat → Addr} {B : Nat} {W0 w : World} (s : ByteArray) (xs : List Int) (m : Nat) (hx : Box (U.scalars s.data.toList = some xs)) (hm : Box (xs.length = m)) (hs : Box (s.size ≤ 100000)) (h : St A B W0 w) :
    Calls Tryd.prog 26 #[.string s] w fun e w' => (∃ a cap, e = .returned (.tuple #[.slice a m cap, .int .i64 0])) ∧ Below w.heap.size w w' ∧ St A B W0 w' := by
  refine (scal_any A B s w (Nat.le_trans hs.out (by decide)) h.e h.le).mono fun e w' hp => ?_
  obtain ⟨hb, hq⟩ := hp
  rw [hx.out] at hq
  obtain ⟨v, rfl, ho⟩ := hq
  have hi := IntsAt.of_own ho rfl
  obtain ⟨a, cap, rfl⟩ := hi.slice
  exact ⟨⟨a, cap, by rw [hm.out]⟩, hb, h.step hb⟩

theorem rep_c {A : Nat → Addr} {B : Nat} {W0 w : World} (s t : ByteArray) (hv : Box ((⟨(M.fix s.data.toList).toArray⟩ : ByteArray) = t)) (hs : Box (s.size ≤ 100000)) (h : St A B W0 w) :
    Calls Tryd.prog 21 #[.string s] w fun e w' => e = .returned (.string t) ∧ Below w.heap.size w w' ∧ St A B W0 w' := by
  rw [← hv.out]; exact (repair_any A B s w hs.out h.e h.le).mono fun _ _ ⟨he, hb⟩ => ⟨he, hb, h.step hb⟩
theorem bad_c {A : Nat → Addr} {B : Nat} {W0 w : World} (s : ByteArray) (n : Nat) (hv : Box (M.badN s.data.toList = n)) (hs : Box (s.size ≤ 100000)) (h : St A B W0 w) :
    Calls Tryd.prog 23 #[.string s] w fun e w' => e = .returned (.int .i64 n) ∧ Below w.heap.size w w' ∧ St A B W0 w' := by
  rw [← hv.out]; exact (bad_any A B s w (Nat.le_trans hs.out (by decide)) h.e h.le).mono fun _ _ ⟨he, hb⟩ => ⟨he, hb, h.step hb⟩

set_option maxHeartbeats 2000000 in
theorem counts_walk (A : Nat → Addr) (B : Nat) (s c t : ByteArray) (xs : List Int) (m : Nat) (w : World) (hc : Box (s.size ≤ maxLen ∧ cutS s = c)) (zc : Box (c.size ≤ 100000)) (zz : c.size ≤ 300) (hm : Box ((M.places c.data.toList).length + 1 = m + 1)) (hmz : m ≤ 300)
    (ht : Box ((⟨(M.fix c.data.toList).toArray⟩ : ByteArray) = t)) (zt : Box (t.size ≤ 100000)) (hx : Box (U.scalars t.data.toList = some xs)) (hxm : Box (xs.length = m)) (h0 : St A B w w) :
    Calls Tryd.prog 9 #[.string s] w fun e w' => e = .returned (.bool true) ∧ St A B w w' := by
  have HSZ := Box.mk (size_eq c)
  go_enter Tryd.func9, Tryd.ntmps9
  go_wp2_with fail
  refine (shown_st A B w _ h0).mono ?_; rintro e w1 ⟨rfl, h1⟩
  go_wp2_with fail
  refine (cut_b s _ _ hc).mono ?_; rintro e w2 ⟨rfl, rfl⟩
  go_wp2_with fail
  refine (units_c _ _ _ ⟨rfl⟩ hm zc h1).mono ?_; rintro e w3 ⟨⟨g, off, cap, rfl, HC⟩, -, h3⟩
  have hcap1 : m + 1 ≤ cap := by have := HC.out.2.1; have := hm.out; omega
  have hcap2 : cap ≤ 9223372036854775807 := by have := HC.out.2.2.1; unfold maxLen at this; omega
  have HS3 := Box.mk h3
  clear h0 h1 h3
  go_wp2_with fail
  refine (rep_c _ _ ht zc HS3.out).mono ?_; rintro e w4 ⟨rfl, hb4, h4⟩
  have HC4 := Box.mk (HC.out.below hb4)
  have HS4 := Box.mk h4
  clear hb4 h4
  go_wp2_with fail
  refine (scal_c _ xs m hx hxm zt HS4.out).mono ?_; rintro e w5 ⟨⟨la, lc, rfl⟩, hb5, h5⟩
  have hc5 := HC4.out.below hb5
  have HC5 := Box.mk hc5
  have HS5 := Box.mk h5
  have k0 : w5.cell? ⟨g, off, none⟩ = some (.int .i64 0) := hc5.2.2.2 0 0 (M.cuts_zero _)
  have k1 : w5.cell? ⟨g, off + m, none⟩ = some (.int .i64 (c.size : Int)) := by
    have := M.cuts_last c.data.toList
    rw [show (M.places c.data.toList).length = m by have := hm.out; omega, ← HSZ.out] at this
    exact hc5.2.2.2 m _ this
  clear hb5 h5 hc5
  go_wp2_with fail
  clear k0 k1
  go_loopw [7] (fun i wr => ∃ k : Nat, k ≤ m ∧ i = .int .i64 k ∧ Box (St A B w wr) ∧ Box (CutsAt wr g off cap c.data.toList)) (fun i _ => m - (intOf i).toNat)
  case atStart => exact ⟨0, by omega, rfl, HS5, HC5⟩
  case round =>
    obtain ⟨k, hk, rfl, hst, hcu⟩ := hrel
    by_cases hlt : k < m
    · obtain ⟨x, -, g1, g2, -, -, g4, g5, g6, -⟩ := M.cuts_get (s := c.data.toList) (i := k) (by have := hm.out; omega)
      have hx : x.1 + x.2.1 ≤ 300 := by rw [← HSZ.out] at g6; omega
      have k0 : wr.cell? ⟨g, off + k, none⟩ = some (.int .i64 (x.1 : Int)) := hcu.out.2.2.2 k x.1 g1
      have k1 : wr.cell? ⟨g, off + (k + 1), none⟩ = some (.int .i64 ((x.1 + x.2.1 : Nat) : Int)) := hcu.out.2.2.2 (k + 1) _ g2
      have hgl := hcu.out.1
      obtain ⟨xa, xm, xo⟩ := x
      have hq1 : xa < xa + xm := by simp only at g4; omega
      have hq2 : xa + xm ≤ xa + 4 := by simp only at g5; omega
      clear g1 g2 g4 g5 g6
      simp only at hx k0 k1
      generalize xa + xm = q at hx k1 hq1 hq2
      have hw1 : IntKind.i64.wrap ((k : Int) + 1) = (k : Int) + 1 := IntWalk.i64_in _ (by omega)
      have hw5 : IntKind.i64.wrap ((xa : Int) + 4) = (xa : Int) + 4 := IntWalk.i64_in _ (by omega)
      have hw2 : 0 ≤ (k : Int) + 1 := by omega
      have hw3 : ((k : Int) + 1).toNat = k + 1 := by omega
      have hw4 : (k : Int) + 1 < (m : Int) + 1 := by omega
      have hd1 : decide (q ≤ xa) = false := by simp; omega
      have hd2 : decide ((xa : Int) + 4 < (q : Int)) = false := by simp; omega
      go_wp2_with fail
      go_region
      clear hw1 hw5 hw2 hw3 hw4
      go_wp2_with fail
      go_roundw
      case rel => exact ⟨k + 1, hlt, by go_num, ⟨hst.out.step (drew_below' _ _)⟩, ⟨hcu.out.below (drew_below' _ _)⟩⟩
      case measure => simp [intOf]; try omega
    · go_wp2_with fail
      go_ret
      exact ⟨rfl, hst.out⟩

theorem law_MendCounts (A : Nat → Addr) (B : Nat) (s : ByteArray) (w : World) (hs : s.size ≤ maxLen) (hE : E A B w) (hB : B ≤ w.heap.size) :
    Calls Tryd.prog 9 #[.string s] w fun e w' => e = .returned (.bool true) ∧ Below w.heap.size w w' := by
  have hz := cutS_size s
  have hp := places_le (cutS s).data.toList
  have hl := fix_len (cutS s).data.toList
  rw [← size_eq] at hp hl
  obtain ⟨xs, h1, h2⟩ := M.scalars_fix (cutS s).data.toList
  exact (counts_walk A B s _ _ xs _ w ⟨⟨hs, rfl⟩⟩ ⟨by omega⟩ hz ⟨rfl⟩ (by omega) ⟨rfl⟩ ⟨by rw [size_eq]; simp; omega⟩ ⟨h1⟩ ⟨by rw [h2, M.places_len]⟩ (St.start hE hB)).mono fun e w' ⟨he, h⟩ => ⟨he, h.b⟩
end Go.Proofs.YtbagecjkfcoapaaDoor
