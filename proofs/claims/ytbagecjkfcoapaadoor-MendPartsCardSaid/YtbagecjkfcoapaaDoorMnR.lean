/-
  THE LAW MendRights, WALKED.
-/
import Derived.Test.YtbagecjkfcoapaaDoorMnI
namespace Go.Proofs.YtbagecjkfcoapaaDoor
open Go.RowKit

theorem fix_len (l : List UInt8) : (M.fix l).length ≤ 4 * l.length := by
  have h1 := repair_len l (M.places l) (fun x hx => (places_mem hx).2.2.2)
  have h2 := places_le l
  unfold M.fix
  omega
theorem str_eta (s : ByteArray) : (⟨s.data.toList.toArray⟩ : ByteArray) = s := by cases s; simp
theorem list_no {s t : ByteArray} (h : s ≠ t) : ¬ s.toList = t.toList := fun e => by
  rw [ByteArray.toList_eq, ByteArray.toList_eq] at e
  exact h (by rw [← str_eta s, ← str_eta t, e])
theorem str_ne {s : ByteArray} {l : List UInt8} (h : l ≠ s.data.toList) : (⟨l.toArray⟩ : ByteArray) ≠ s := fun e => h (by rw [← e])

set_option maxHeartbeats 1000000 in
theorem rights_walk (A : Nat → Addr) (B : Nat) (s c t : ByteArray) (n : Nat) (b : Bool) (w : World) (hc : Box (s.size ≤ maxLen ∧ cutS s = c)) (zc : Box (c.size ≤ 100000)) (zt : Box (t.size ≤ 100000))
    (ht : Box ((⟨(M.fix c.data.toList).toArray⟩ : ByteArray) = t)) (hn : Box (M.badN c.data.toList = n)) (hv : Box (U.valid c.data.toList = b)) (hvt : Box (U.valid t.data.toList = true)) (htt : Box ((⟨(M.fix t.data.toList).toArray⟩ : ByteArray) = t)) (hnt : Box (M.badN t.data.toList = 0))
    (hy : b = true → t = c ∧ n = 0) (hno : b = false → t ≠ c ∧ 0 < n) (h0 : St A B w w) :
    Calls Tryd.prog 8 #[.string s] w fun e w' => e = .returned (.bool true) ∧ St A B w w' := by
  cases b with
  | true =>
    obtain ⟨rfl, rfl⟩ := hy rfl
    clear hy hno
    go_enter Tryd.func8, Tryd.ntmps8
    go_wp2_with fail
    refine (shown_st A B w _ h0).mono ?_; rintro e w1 ⟨rfl, h1⟩
    go_wp2_with fail
    refine (cut_b s _ _ hc).mono ?_; rintro e w2 ⟨rfl, rfl⟩
    go_wp2_with fail
    refine (rep_b _ _ ht zc h1).mono ?_; rintro e w2 ⟨rfl, h2⟩
    go_wp2_with fail
    refine (valid_b _ _ hvt zt h2).mono ?_; rintro e w3 ⟨rfl, h3⟩
    go_wp2_with fail
    refine (rep_b _ _ htt zt h3).mono ?_; rintro e w4 ⟨rfl, h4⟩
    go_wp2_with fail
    refine (valid_b _ _ hv zc h4).mono ?_; rintro e w5 ⟨rfl, h5⟩
    go_wp2_with fail
    refine (bad_b _ _ hn zc h5).mono ?_; rintro e w6 ⟨rfl, h6⟩
    go_wp2_with fail
    refine (valid_b _ _ hv zc h6).mono ?_; rintro e w7 ⟨rfl, h7⟩
    go_wp2_with fail
    refine (bad_b _ _ hnt zt h7).mono ?_; rintro e w8 ⟨rfl, h8⟩
    go_wp2_with fail
    go_ret
    exact ⟨rfl, h8⟩
  | false =>
    obtain ⟨hne, hpos⟩ := hno rfl
    have hbe := list_no hne
    have hb1 : (t.toList == c.toList) = false := by rw [beq_eq_false_iff_ne]; exact hbe
    have hb2 : ((n : Int) == 0) = false := by rw [beq_eq_false_iff_ne]; omega
    clear hy hno
    go_enter Tryd.func8, Tryd.ntmps8
    go_wp2_with fail
    refine (shown_st A B w _ h0).mono ?_; rintro e w1 ⟨rfl, h1⟩
    go_wp2_with fail
    refine (cut_b s _ _ hc).mono ?_; rintro e w2 ⟨rfl, rfl⟩
    go_wp2_with fail
    refine (rep_b _ _ ht zc h1).mono ?_; rintro e w2 ⟨rfl, h2⟩
    go_wp2_with fail
    refine (valid_b _ _ hvt zt h2).mono ?_; rintro e w3 ⟨rfl, h3⟩
    go_wp2_with fail
    refine (rep_b _ _ htt zt h3).mono ?_; rintro e w4 ⟨rfl, h4⟩
    go_wp2_with fail
    refine (valid_b _ _ hv zc h4).mono ?_; rintro e w5 ⟨rfl, h5⟩
    go_wp2_with fail
    refine (bad_b _ _ hn zc h5).mono ?_; rintro e w6 ⟨rfl, h6⟩
    go_wp2_with fail
    refine (valid_b _ _ hv zc h6).mono ?_; rintro e w7 ⟨rfl, h7⟩
    go_wp2_with fail
    refine (bad_b _ _ hnt zt h7).mono ?_; rintro e w8 ⟨rfl, h8⟩
    go_wp2_with fail
    go_ret
    exact ⟨rfl, h8⟩

theorem law_MendRights (A : Nat → Addr) (B : Nat) (s : ByteArray) (w : World) (hs : s.size ≤ maxLen) (hE : E A B w) (hB : B ≤ w.heap.size) :
    Calls Tryd.prog 8 #[.string s] w fun e w' => e = .returned (.bool true) ∧ Below w.heap.size w w' := by
  have hz := cutS_size s
  have hl := fix_len (cutS s).data.toList
  rw [← size_eq] at hl
  have hv := M.valid_fix (cutS s).data.toList
  have hf := M.fix_valid _ hv
  refine (rights_walk A B s _ ⟨(M.fix (cutS s).data.toList).toArray⟩ (M.badN (cutS s).data.toList) (U.valid (cutS s).data.toList) w ⟨⟨hs, rfl⟩⟩ ⟨by omega⟩ ⟨by rw [size_eq]; simp; omega⟩ ⟨rfl⟩ ⟨rfl⟩ ⟨rfl⟩ ⟨hv⟩ ⟨by rw [List.toList_toArray, hf.1]⟩ ⟨hf.2⟩ ?_ ?_ (St.start hE hB)).mono fun e w' ⟨he, h⟩ => ⟨he, h.b⟩
  · intro h
    have := M.fix_valid _ h
    exact ⟨by rw [this.1], this.2⟩
  · intro h
    refine ⟨str_ne fun e => ?_, Nat.pos_of_ne_zero fun e => ?_⟩
    · rw [(M.fix_iff _).1 e] at h; cases h
    · rw [(M.bad_iff _).1 e] at h; cases h
end Go.Proofs.YtbagecjkfcoapaaDoor
