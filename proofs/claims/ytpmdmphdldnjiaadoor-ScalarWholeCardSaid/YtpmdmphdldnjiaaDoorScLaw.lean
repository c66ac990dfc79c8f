/-
  THE LAWS OF LAYER 1, WALKED: what the law's own functions do.
-/
import Derived.Test.YtpmdmphdldnjiaaDoorScIter
namespace Go.Proofs.YtpmdmphdldnjiaaDoor
open Go.RowKit

/-- where a law's walk stands: the errors lie where they lay, what was there when the call began is as it was -/
structure St (A : Nat → Addr) (B : Nat) (W0 w : World) : Prop where
  e : E A B w
  b : Below W0.heap.size W0 w
  hB : B ≤ W0.heap.size
section
variable {A : Nat → Addr} {B : Nat} {W0 w w' : World}
theorem St.step (h : St A B W0 w) (hb : Below w.heap.size w w') : St A B W0 w' := ⟨h.e.below (hb.mono (Nat.le_trans h.hB h.b.size)), h.b.trans (hb.mono h.b.size), h.hB⟩
theorem St.le (h : St A B W0 w) : B ≤ w.heap.size := Nat.le_trans h.hB h.b.size
theorem St.start (h : E A B w) (hB : B ≤ w.heap.size) : St A B w w := ⟨h, Below.refl _ _, hB⟩
theorem enc_st (r : Int) (h : St A B W0 w) : Calls Tryd.prog 12 #[.int .i64 r] w fun e w' => e = .returned (encV r) ∧ St A B W0 w' :=
  (enc_any A B r w h.e).mono fun _ _ ⟨he, hb⟩ => ⟨he, h.step hb⟩
theorem renc_st (r : Int) (h : St A B W0 w) : Calls Tryd.prog 13 #[.int .i64 r] w fun e w' => e = .returned (encV r) ∧ St A B W0 w' :=
  (renc_any r w).mono fun _ _ ⟨he, hb⟩ => ⟨he, h.step hb⟩
theorem dec_st (s : ByteArray) (hs : s.size ≤ 16777216) (h : St A B W0 w) : Calls Tryd.prog 14 #[.string s] w fun e w' => e = .returned (decV s.data.toList) ∧ St A B W0 w' :=
  (dec_any A B s w (by unfold maxLen; omega) h.e h.le).mono fun _ _ ⟨he, hb⟩ => ⟨he, h.step hb⟩
theorem rdec_st (s : ByteArray) (hs : s.size ≤ 16777216) (h : St A B W0 w) : Calls Tryd.prog 16 #[.string s] w fun e w' => e = .returned (decV s.data.toList) ∧ St A B W0 w' :=
  (rdec_any s w (by unfold maxLen; omega)).mono fun _ _ ⟨he, hb⟩ => ⟨he, hb ▸ h⟩
theorem valid_st (s : ByteArray) (hs : s.size ≤ 16777216) (h : St A B W0 w) : Calls Tryd.prog 19 #[.string s] w fun e w' => e = .returned (.bool (U.valid s.data.toList)) ∧ St A B W0 w' :=
  (valid_any A B s w hs h.e h.le).mono fun _ _ ⟨he, hb⟩ => ⟨he, h.step hb⟩
end

theorem dec_k1 : decV [240, 159, 152, 128, 120] = .tuple #[.int .i64 128512, .int .i64 4, .bool true] := by
  unfold decV; rw [show U.dec [240, 159, 152, 128, 120] = some (128512, 4) by decide +kernel]; rfl
theorem dec_k2 : decV [237, 160, 128] = .tuple #[.int .i64 0, .int .i64 0, .bool false] := by
  unfold decV; rw [show U.dec [237, 160, 128] = none by decide +kernel]; rfl
theorem enc_k1 : encV 8364 = .tuple #[.string ⟨#[226, 130, 172]⟩, .int .i64 0] := by
  unfold encV; rw [if_pos (by decide +kernel), show U.enc 8364 = [226, 130, 172] by decide +kernel]
theorem enc_k2 : encV 55296 = .tuple #[.string ⟨#[]⟩, .int .i64 10] := encV_no (by decide +kernel)
theorem valid_k : U.valid [195, 169] = true := by decide +kernel

set_option maxHeartbeats 2000000 in
theorem shown_st (A : Nat → Addr) (B : Nat) (W0 w : World) (h : St A B W0 w) :
    Calls Tryd.prog 11 #[] w fun e w' => e = .returned (.bool true) ∧ St A B W0 w' := by
  go_enter Tryd.func11, Tryd.ntmps11
  go_wp2_with fail
  refine (enc_st 8364 h).mono ?_; rintro e w1 ⟨rfl, h1⟩; rw [enc_k1]
  go_wp2_with fail
  refine (dec_st _ (by decide) h1).mono ?_; rintro e w2 ⟨rfl, h2⟩; rw [dec_k1]
  go_wp2_with fail
  refine (dec_st _ (by decide) h2).mono ?_; rintro e w3 ⟨rfl, h3⟩; rw [dec_k2]
  go_wp2_with fail
  refine (enc_st 55296 h3).mono ?_; rintro e w4 ⟨rfl, h4⟩; rw [enc_k2]
  go_wp2_with fail
  refine (valid_st _ (by decide) h4).mono ?_; rintro e w5 ⟨rfl, h5⟩; rw [valid_k]
  go_wp2_with fail
  go_ret
  exact ⟨rfl, h5⟩

def cutS (s : ByteArray) : ByteArray := if 300 < s.size then s.extract 0 300 else s
theorem cutS_list (s : ByteArray) : (cutS s).data.toList = s.data.toList.take 300 := by
  unfold cutS
  split
  · rw [Lib.extract_data]; rfl
  · rw [List.take_of_length_le (by rw [← size_eq]; omega)]
theorem cutS_size (s : ByteArray) : (cutS s).size ≤ 300 := by rw [size_eq, cutS_list, List.length_take]; omega
theorem cut_st (s : ByteArray) (w : World) (hs : s.size ≤ maxLen) :
    Calls Tryd.prog 15 #[.string s] w fun e w' => e = .returned (.string (cutS s)) ∧ w = w' := by
  unfold maxLen at hs
  have HC := Box.mk (show (300 < s.size → cutS s = s.extract 0 300) ∧ (¬ 300 < s.size → cutS s = s) from ⟨fun h => by unfold cutS; rw [if_pos h], fun h => by unfold cutS; rw [if_neg h]⟩)
  go_enter Tryd.func15, Tryd.ntmps15
  go_wp2
  · go_ret
    exact ⟨by rw [HC.out.1 (by omega)]; rfl, rfl⟩
  · go_ret
    exact ⟨by rw [HC.out.2 (by omega)]; rfl, rfl⟩

theorem encV_form (r : Int) : ∃ (a : ByteArray) (e : Int), encV r = .tuple #[.string a, .int .i64 e] := by
  unfold encV; split <;> exact ⟨_, _, rfl⟩
theorem decV_form (l : List UInt8) : ∃ (x n : Int) (ok : Bool), decV l = .tuple #[.int .i64 x, .int .i64 n, .bool ok] := by
  unfold decV; cases U.dec l <;> exact ⟨_, _, _, rfl⟩

set_option maxHeartbeats 2000000 in
theorem law_ScalarBytes (A : Nat → Addr) (B : Nat) (r : Int) (s : ByteArray) (w : World) (hs : s.size ≤ maxLen) (hE : E A B w) (hB : B ≤ w.heap.size) :
    Calls Tryd.prog 3 #[.int .i64 r, .string s] w fun e w' => e = .returned (.bool true) ∧ Below w.heap.size w w' := by
  have h0 := St.start hE hB
  obtain ⟨ea, ee, hen⟩ := encV_form r
  obtain ⟨dx, dn, dk, hde⟩ := decV_form (cutS s).data.toList
  have HEN := Box.mk hen
  have HDE := Box.mk hde
  have hz := cutS_size s
  have HZ := Box.mk (show (cutS s).size ≤ 16777216 by omega)
  clear hen hde hE hz
  go_enter Tryd.func3, Tryd.ntmps3
  go_wp2_with fail
  refine (shown_st A B w _ h0).mono ?_; rintro e w1 ⟨rfl, h1⟩
  go_wp2_with fail
  refine (enc_st r h1).mono ?_; rintro e w2 ⟨rfl, h2⟩; rw [HEN.out]
  go_wp2_with fail
  refine (renc_st r h2).mono ?_; rintro e w3 ⟨rfl, h3⟩; rw [HEN.out]
  go_wp2_with fail
  refine (cut_st s _ hs).mono ?_; rintro e w3 ⟨rfl, rfl⟩
  go_wp2_with fail
  refine (dec_st _ HZ.out h3).mono ?_; rintro e w4 ⟨rfl, h4⟩; rw [HDE.out]
  go_wp2_with fail
  refine (cut_st s _ hs).mono ?_; rintro e w3 ⟨rfl, rfl⟩
  go_wp2_with fail
  refine (rdec_st _ HZ.out h4).mono ?_; rintro e w5 ⟨rfl, h5⟩; rw [HDE.out]
  go_wp2_with fail
  refine (right_any r _).mono ?_; rintro e w3 ⟨rfl, rfl⟩
  go_wp2_with fail
  refine (rright_any r _).mono ?_; rintro e w3 ⟨rfl, rfl⟩
  go_wp2_with fail
  go_ret
  exact ⟨rfl, h5.b⟩
end Go.Proofs.YtpmdmphdldnjiaaDoor
