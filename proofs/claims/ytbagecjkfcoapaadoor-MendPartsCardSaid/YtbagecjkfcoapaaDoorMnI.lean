/-
  THE LAWS OF LAYER 2, WALKED: what the law's own functions do.
-/
import Derived.Test.YtbagecjkfcoapaaDoorMnH
import Derived.Test.YtbagecjkfcoapaaDoorMnD
import Derived.Test.YtbagecjkfcoapaaDoorScIter
namespace Go.Proofs.YtbagecjkfcoapaaDoor
open Go.RowKit

/-- where a law's walk stands: the errors lie where they lay, what was there when the call began is as it was -/
structure St (A : Nat → Addr) (B : Nat) (W0 w : World) : Prop where
  e : E A B w
  b : Below W0.heap.size W0 w
  hB : B ≤ W0.heap.size
section
variable {A : Nat → Addr} {B : Nat} {W0 w w' : World}
theorem St.step (h : St A B W0 w) (hb : Below w.heap.size w w') : St A B W0 w' := ⟨h.e.below (hb.mono (Nat.le_trans h.hB h.b.size)), h.b.trans (hb.mono h.b.size), h.hB⟩
theorem St.le (h : St A B W0 w) : B ≤ w.heap.size := Nat.le_trans h.hB h.b.size
theorem St.start (h : E A B w) (hB : B ≤ w.heap.size) : St A B w w := ⟨h, Below.refl _ _, hB⟩
theorem valid_b (s : ByteArray) (b : Bool) (hb : Box (U.valid s.data.toList = b)) (hs : Box (s.size ≤ 100000)) (h : St A B W0 w) :
    Calls Tryd.prog 25 #[.string s] w fun e w' => e = .returned (.bool b) ∧ St A B W0 w' := by
  rw [← hb.out]; exact (valid_any A B s w (Nat.le_trans hs.out (by decide)) h.e h.le).mono fun _ _ ⟨he, hb⟩ => ⟨he, h.step hb⟩
theorem next_b (s : ByteArray) (q : Int) (v : Value) (hv : Box (nextV s.data.toList q = v)) (hs : Box (s.size ≤ 100000)) (h : St A B W0 w) :
    Calls Tryd.prog 12 #[.string s, .int .i64 q] w fun e w' => e = .returned v ∧ St A B W0 w' := by
  rw [← hv.out]; exact (mnext_any A B s q w hs.out h.e h.le).mono fun _ _ ⟨he, hb⟩ => ⟨he, h.step hb⟩
theorem back_b (s : ByteArray) (q : Int) (v : Value) (hv : Box (backV s.data.toList q = v)) (hs : Box (s.size ≤ 100000)) (h : St A B W0 w) :
    Calls Tryd.prog 13 #[.string s, .int .i64 q] w fun e w' => e = .returned v ∧ St A B W0 w' := by
  rw [← hv.out]; exact (mback_any A B s q w hs.out h.e h.le).mono fun _ _ ⟨he, hb⟩ => ⟨he, h.step hb⟩
theorem unit_b (s : ByteArray) (v : Value) (hv : Box (unitT s.data.toList = v)) (hs : Box (s.size ≤ 100000)) (h : St A B W0 w) :
    Calls Tryd.prog 14 #[.string s] w fun e w' => e = .returned v ∧ St A B W0 w' := by
  rw [← hv.out]; exact (unit_any A B s w (Nat.le_trans hs.out (by decide)) h.e h.le).mono fun _ _ ⟨he, hb⟩ => ⟨he, h.step hb⟩
theorem bad_b (s : ByteArray) (n : Nat) (hv : Box (M.badN s.data.toList = n)) (hs : Box (s.size ≤ 100000)) (h : St A B W0 w) :
    Calls Tryd.prog 23 #[.string s] w fun e w' => e = .returned (.int .i64 n) ∧ St A B W0 w' := by
  rw [← hv.out]; exact (bad_any A B s w (Nat.le_trans hs.out (by decide)) h.e h.le).mono fun _ _ ⟨he, hb⟩ => ⟨he, h.step hb⟩
theorem rep_b (s t : ByteArray) (hv : Box ((⟨(M.fix s.data.toList).toArray⟩ : ByteArray) = t)) (hs : Box (s.size ≤ 100000)) (h : St A B W0 w) :
    Calls Tryd.prog 21 #[.string s] w fun e w' => e = .returned (.string t) ∧ St A B W0 w' := by
  rw [← hv.out]; exact (repair_any A B s w hs.out h.e h.le).mono fun _ _ ⟨he, hb⟩ => ⟨he, h.step hb⟩
end
theorem unit_k : unitT [226, 130, 97] = .tuple #[.int .i64 2, .bool false] := by unfold unitT; rw [show M.unit [226, 130, 97] = (2, false) by decide +kernel]; rfl
theorem next_k1 : nextV [97, 226, 130, 97] 1 = .tuple #[.int .i64 3, .int .i64 0] := by unfold nextV; rw [show M.fwd (M.places [97, 226, 130, 97]) 1 = some (1, 2, false) by decide +kernel]; rfl
theorem next_k2 : nextV [97, 226, 130, 97] 2 = .tuple #[.int .i64 0, .int .i64 12] := by unfold nextV; rw [show M.fwd (M.places [97, 226, 130, 97]) 2 = none by decide +kernel]
theorem back_k : backV [97, 226, 130, 97] 3 = .tuple #[.int .i64 1, .int .i64 0] := by unfold backV; rw [show M.bwd (M.places [97, 226, 130, 97]) 3 = some (1, 2, false) by decide +kernel]; rfl
theorem fix_k : (⟨(M.fix [97, 226, 130, 97]).toArray⟩ : ByteArray) = ⟨#[97, 239, 191, 189, 97]⟩ := by rw [show M.fix [97, 226, 130, 97] = [97, 239, 191, 189, 97] by decide +kernel]
theorem bad_k : M.badN [237, 160, 128] = 3 := by decide +kernel

set_option maxHeartbeats 2000000 in
theorem shown_st (A : Nat → Addr) (B : Nat) (W0 w : World) (h : St A B W0 w) :
    Calls Tryd.prog 10 #[] w fun e w' => e = .returned (.bool true) ∧ St A B W0 w' := by
  go_enter Tryd.func10, Tryd.ntmps10
  go_wp2_with fail
  refine (unit_b ⟨#[226, 130, 97]⟩ _ ⟨unit_k⟩ ⟨by decide⟩ h).mono ?_; rintro e w1 ⟨rfl, h1⟩
  go_wp2_with fail
  refine (next_b ⟨#[97, 226, 130, 97]⟩ 1 _ ⟨next_k1⟩ ⟨by decide⟩ h1).mono ?_; rintro e w2 ⟨rfl, h2⟩
  go_wp2_with fail
  refine (back_b ⟨#[97, 226, 130, 97]⟩ 3 _ ⟨back_k⟩ ⟨by decide⟩ h2).mono ?_; rintro e w3 ⟨rfl, h3⟩
  go_wp2_with fail
  refine (next_b ⟨#[97, 226, 130, 97]⟩ 2 _ ⟨next_k2⟩ ⟨by decide⟩ h3).mono ?_; rintro e w4 ⟨rfl, h4⟩
  go_wp2_with fail
  refine (rep_b ⟨#[97, 226, 130, 97]⟩ _ ⟨fix_k⟩ ⟨by decide⟩ h4).mono ?_; rintro e w5 ⟨rfl, h5⟩
  go_wp2_with fail
  refine (bad_b ⟨#[237, 160, 128]⟩ _ ⟨bad_k⟩ ⟨by decide⟩ h5).mono ?_; rintro e w6 ⟨rfl, h6⟩
  go_wp2_with fail
  go_ret
  exact ⟨rfl, h6⟩

def cutS (s : ByteArray) : ByteArray := if 300 < s.size then s.extract 0 300 else s
theorem cutS_list (s : ByteArray) : (cutS s).data.toList = s.data.toList.take 300 := by
  unfold cutS
  split
  · rw [Lib.extract_data]; rfl
  · rw [List.take_of_length_le (by rw [← size_eq]; omega)]
theorem cutS_size (s : ByteArray) : (cutS s).size ≤ 300 := by rw [size_eq, cutS_list, List.length_take]; omega
theorem cut_min (s : ByteArray) : s.extract 0 (min (s.size : Int) 300).toNat = cutS s := by
  unfold cutS
  split
  · rw [show (min (s.size : Int) 300).toNat = 300 by omega]
  · rw [show (min (s.size : Int) 300).toNat = s.size by omega]
    exact ByteArray.extract_zero_size
theorem cut_st (s : ByteArray) (w : World) (hs : s.size ≤ maxLen) :
    Calls Tryd.prog 11 #[.string s] w fun e w' => e = .returned (.string (cutS s)) ∧ w = w' := by
  unfold maxLen at hs
  have HC := Box.mk (cut_min s)
  go_enter Tryd.func11, Tryd.ntmps11
  go_wp2
  go_ret
  exact ⟨by rw [← HC.out]; rfl, rfl⟩
theorem cut_b (s c : ByteArray) (w : World) (h : Box (s.size ≤ maxLen ∧ cutS s = c)) :
    Calls Tryd.prog 11 #[.string s] w fun e w' => e = .returned (.string c) ∧ w = w' := by rw [← h.out.2]; exact cut_st s w h.out.1
end Go.Proofs.YtbagecjkfcoapaaDoor
