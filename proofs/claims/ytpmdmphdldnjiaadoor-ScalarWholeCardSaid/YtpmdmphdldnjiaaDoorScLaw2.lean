/-
  THE LAWS OF LAYER 1, WALKED: ScalarJoins, ScalarOrder, ScalarFirst, ScalarBack, ScalarPieces.
-/
import Derived.Test.YtpmdmphdldnjiaaDoorScLaw
import Derived.Test.YtpmdmphdldnjiaaDoorUtf2
namespace Go.Proofs.YtpmdmphdldnjiaaDoor
open Go.RowKit

section
variable {A : Nat → Addr} {B : Nat} {W0 w : World}
theorem valid_b (s : ByteArray) (b : Bool) (hb : Box (U.valid s.data.toList = b)) (hs : Box (s.size ≤ 16777216)) (h : St A B W0 w) :
    Calls Tryd.prog 19 #[.string s] w fun e w' => e = .returned (.bool b) ∧ St A B W0 w' := by rw [← hb.out]; exact valid_st s hs.out h
theorem dec_b (s : ByteArray) (v : Value) (hv : Box (decV s.data.toList = v)) (hs : Box (s.size ≤ 16777216)) (h : St A B W0 w) :
    Calls Tryd.prog 14 #[.string s] w fun e w' => e = .returned v ∧ St A B W0 w' := by rw [← hv.out]; exact dec_st s hs.out h
theorem enc_b (r : Int) (v : Value) (hv : Box (encV r = v)) (h : St A B W0 w) :
    Calls Tryd.prog 12 #[.int .i64 r] w fun e w' => e = .returned v ∧ St A B W0 w' := by rw [← hv.out]; exact enc_st r h
theorem right_b (r : Int) (b : Bool) (hb : Box (U.right r = b)) (w : World) :
    Calls Tryd.prog 17 #[.int .i64 r] w fun e w' => e = .returned (.bool b) ∧ w = w' := by rw [← hb.out]; exact right_any r w
end
theorem cut_b (s c : ByteArray) (w : World) (h : Box (s.size ≤ maxLen ∧ cutS s = c)) :
    Calls Tryd.prog 15 #[.string s] w fun e w' => e = .returned (.string c) ∧ w = w' := by rw [← h.out.2]; exact cut_st s w h.out.1
theorem append_list (s t : ByteArray) : (s ++ t).data.toList = s.data.toList ++ t.data.toList := by simp
theorem append_size (s t : ByteArray) : (s ++ t).size = s.size + t.size := by simp

set_option maxHeartbeats 2000000 in
theorem joins_walk (A : Nat → Addr) (B : Nat) (s t c d : ByteArray) (a b x : Bool) (w : World) (hc : Box (s.size ≤ maxLen ∧ cutS s = c)) (hd : Box (t.size ≤ maxLen ∧ cutS t = d)) (hcz : c.size ≤ 300) (hdz : d.size ≤ 300)
    (zc : Box (c.size ≤ 16777216)) (zd : Box (d.size ≤ 16777216)) (zx : Box ((c ++ d).size ≤ 16777216)) (z0 : Box ((⟨#[]⟩ : ByteArray).size ≤ 16777216)) (v0 : Box (U.valid (⟨#[]⟩ : ByteArray).data.toList = true))
    (va : Box (U.valid c.data.toList = a)) (vb : Box (U.valid d.data.toList = b)) (vx : Box (U.valid (c ++ d).data.toList = x)) (h1 : a = true → x = b) (h2 : b = true → x = a) (h0 : St A B w w) :
    Calls Tryd.prog 5 #[.string s, .string t] w fun e w' => e = .returned (.bool true) ∧ St A B w w' := by
  cases a <;> cases b <;> cases x <;> simp only [false_implies, forall_const, Bool.true_eq_false, Bool.false_eq_true] at h1 h2
  ·
    clear h1 h2
    go_enter Tryd.func5, Tryd.ntmps5
    go_wp2_with fail
    refine (shown_st A B w _ h0).mono ?_; rintro e w1 ⟨rfl, h1⟩
    go_wp2_with fail
    refine (cut_b s c _ hc).mono ?_; rintro e w2 ⟨rfl, rfl⟩
    go_wp2_with fail
    refine (cut_b t d _ hd).mono ?_; rintro e w2 ⟨rfl, rfl⟩
    go_wp2_with fail
    refine (valid_b _ _ va zc h1).mono ?_; rintro e w2 ⟨rfl, h2⟩
    go_wp2_with fail
    refine (valid_b _ _ vb zd h2).mono ?_; rintro e w3 ⟨rfl, h3⟩
    go_wp2_with fail
    refine (valid_b _ _ v0 z0 h3).mono ?_; rintro e w4 ⟨rfl, h4⟩
    go_wp2_with fail
    go_ret
    exact ⟨rfl, by assumption⟩
  ·
    clear h1 h2
    go_enter Tryd.func5, Tryd.ntmps5
    go_wp2_with fail
    refine (shown_st A B w _ h0).mono ?_; rintro e w1 ⟨rfl, h1⟩
    go_wp2_with fail
    refine (cut_b s c _ hc).mono ?_; rintro e w2 ⟨rfl, rfl⟩
    go_wp2_with fail
    refine (cut_b t d _ hd).mono ?_; rintro e w2 ⟨rfl, rfl⟩
    go_wp2_with fail
    refine (valid_b _ _ va zc h1).mono ?_; rintro e w2 ⟨rfl, h2⟩
    go_wp2_with fail
    refine (valid_b _ _ vb zd h2).mono ?_; rintro e w3 ⟨rfl, h3⟩
    go_wp2_with fail
    refine (valid_b _ _ v0 z0 h3).mono ?_; rintro e w4 ⟨rfl, h4⟩
    go_wp2_with fail
    go_ret
    exact ⟨rfl, by assumption⟩
  ·
    clear h1 h2
    go_enter Tryd.func5, Tryd.ntmps5
    go_wp2_with fail
    refine (shown_st A B w _ h0).mono ?_; rintro e w1 ⟨rfl, h1⟩
    go_wp2_with fail
    refine (cut_b s c _ hc).mono ?_; rintro e w2 ⟨rfl, rfl⟩
    go_wp2_with fail
    refine (cut_b t d _ hd).mono ?_; rintro e w2 ⟨rfl, rfl⟩
    go_wp2_with fail
    refine (valid_b _ _ va zc h1).mono ?_; rintro e w2 ⟨rfl, h2⟩
    go_wp2_with fail
    refine (valid_b _ _ vb zd h2).mono ?_; rintro e w3 ⟨rfl, h3⟩
    go_wp2_with fail
    refine (valid_b _ _ vx zx h3).mono ?_; rintro e w4 ⟨rfl, h4⟩
    go_wp2_with fail
    refine (valid_b _ _ va zc h4).mono ?_; rintro e w5 ⟨rfl, h5⟩
    go_wp2_with fail
    refine (valid_b _ _ v0 z0 h5).mono ?_; rintro e w6 ⟨rfl, h6⟩
    go_wp2_with fail
    go_ret
    exact ⟨rfl, by assumption⟩
  ·
    clear h1 h2
    go_enter Tryd.func5, Tryd.ntmps5
    go_wp2_with fail
    refine (shown_st A B w _ h0).mono ?_; rintro e w1 ⟨rfl, h1⟩
    go_wp2_with fail
    refine (cut_b s c _ hc).mono ?_; rintro e w2 ⟨rfl, rfl⟩
    go_wp2_with fail
    refine (cut_b t d _ hd).mono ?_; rintro e w2 ⟨rfl, rfl⟩
    go_wp2_with fail
    refine (valid_b _ _ va zc h1).mono ?_; rintro e w2 ⟨rfl, h2⟩
    go_wp2_with fail
    refine (valid_b _ _ vx zx h2).mono ?_; rintro e w3 ⟨rfl, h3⟩
    go_wp2_with fail
    refine (valid_b _ _ vb zd h3).mono ?_; rintro e w4 ⟨rfl, h4⟩
    go_wp2_with fail
    refine (valid_b _ _ vb zd h4).mono ?_; rintro e w5 ⟨rfl, h5⟩
    go_wp2_with fail
    refine (valid_b _ _ v0 z0 h5).mono ?_; rintro e w6 ⟨rfl, h6⟩
    go_wp2_with fail
    go_ret
    exact ⟨rfl, by assumption⟩
  ·
    clear h1 h2
    go_enter Tryd.func5, Tryd.ntmps5
    go_wp2_with fail
    refine (shown_st A B w _ h0).mono ?_; rintro e w1 ⟨rfl, h1⟩
    go_wp2_with fail
    refine (cut_b s c _ hc).mono ?_; rintro e w2 ⟨rfl, rfl⟩
    go_wp2_with fail
    refine (cut_b t d _ hd).mono ?_; rintro e w2 ⟨rfl, rfl⟩
    go_wp2_with fail
    refine (valid_b _ _ va zc h1).mono ?_; rintro e w2 ⟨rfl, h2⟩
    go_wp2_with fail
    refine (valid_b _ _ vx zx h2).mono ?_; rintro e w3 ⟨rfl, h3⟩
    go_wp2_with fail
    refine (valid_b _ _ vb zd h3).mono ?_; rintro e w4 ⟨rfl, h4⟩
    go_wp2_with fail
    refine (valid_b _ _ vb zd h4).mono ?_; rintro e w5 ⟨rfl, h5⟩
    go_wp2_with fail
    refine (valid_b _ _ vx zx h5).mono ?_; rintro e w6 ⟨rfl, h6⟩
    go_wp2_with fail
    refine (valid_b _ _ va zc h6).mono ?_; rintro e w7 ⟨rfl, h7⟩
    go_wp2_with fail
    refine (valid_b _ _ v0 z0 h7).mono ?_; rintro e w8 ⟨rfl, h8⟩
    go_wp2_with fail
    go_ret
    exact ⟨rfl, by assumption⟩
theorem law_ScalarJoins (A : Nat → Addr) (B : Nat) (s t : ByteArray) (w : World) (hs : s.size ≤ maxLen) (ht : t.size ≤ maxLen) (hE : E A B w) (hB : B ≤ w.heap.size) :
    Calls Tryd.prog 5 #[.string s, .string t] w fun e w' => e = .returned (.bool true) ∧ Below w.heap.size w w' := by
  have zs := cutS_size s
  have zt := cutS_size t
  refine (joins_walk A B s t _ _ (U.valid (cutS s).data.toList) (U.valid (cutS t).data.toList) (U.valid (cutS s ++ cutS t).data.toList) w ⟨⟨hs, rfl⟩⟩ ⟨⟨ht, rfl⟩⟩ zs zt ⟨by omega⟩ ⟨by omega⟩ ⟨by rw [append_size]; omega⟩ ⟨by decide⟩ ⟨rfl⟩ ⟨rfl⟩ ⟨rfl⟩ ⟨rfl⟩ ?_ ?_ (St.start hE hB)).mono fun e w' ⟨he, h⟩ => ⟨he, h.b⟩
  · intro h; rw [append_list]; exact U.valid_append_left h _
  · intro h; rw [append_list]; exact U.valid_joins h

theorem encV_no' (r : Int) (h : U.right r = false) : encV r = .tuple #[.string ⟨#[]⟩, .int .i64 10] := encV_no h
theorem encV_yes' (r : Int) (h : U.right r = true) : encV r = .tuple #[.string ⟨(U.enc r).toArray⟩, .int .i64 0] := by unfold encV; rw [if_pos h]
theorem decV_no {l : List UInt8} (h : U.dec l = none) : decV l = .tuple #[.int .i64 0, .int .i64 0, .bool false] := by unfold decV; rw [h]; rfl
theorem decV_yes {l : List UInt8} {r : Int} {n : Nat} (h : U.dec l = some (r, n)) : decV l = .tuple #[.int .i64 r, .int .i64 n, .bool true] := by unfold decV; rw [h]; rfl
theorem str_list (l : List UInt8) : (⟨l.toArray⟩ : ByteArray).data.toList = l := rfl
theorem str_tolist (l : List UInt8) : (⟨l.toArray⟩ : ByteArray).toList = l := by rw [ByteArray.toList_eq]
theorem str_size (l : List UInt8) : (⟨l.toArray⟩ : ByteArray).size = l.length := by rw [size_eq]

set_option maxHeartbeats 2000000 in
theorem order_walk (A : Nat → Addr) (B : Nat) (a b : Int) (S T : ByteArray) (e f : Int) (w : World) (ha : Box (encV a = .tuple #[.string S, .int .i64 e])) (hb : Box (encV b = .tuple #[.string T, .int .i64 f]))
    (h : e = 10 ∨ (e = 0 ∧ f = 10) ∨ (e = 0 ∧ f = 0 ∧ Op.bytesLess S.toList T.toList = decide (a < b) ∧ (¬ a > b → S.size ≤ T.size) ∧ 1 ≤ S.size ∧ S.size ≤ 4 ∧ T.size ≤ 4)) (h0 : St A B w w) :
    Calls Tryd.prog 6 #[.int .i64 a, .int .i64 b] w fun e w' => e = .returned (.bool true) ∧ St A B w w' := by
  rcases h with rfl | ⟨rfl, rfl⟩ | ⟨rfl, rfl, hl, hn, s1, s4, t4⟩
  case' inr.inr => rcases Int.lt_trichotomy a b with hab | hab | hab
  case' inr.inr.inl =>
    rw [decide_eq_true hab] at hl
    have hn' := hn (by omega)
    have hg : ¬ a > b := by omega
  case' inr.inr.inr.inl =>
    subst hab
    rw [decide_eq_false (by omega)] at hl
    have hn' := hn (by omega)
  case' inr.inr.inr.inr =>
    rw [decide_eq_false (by omega)] at hl
    have hn' : ¬ a < b := by omega
  all_goals
    try clear hn
    go_enter Tryd.func6, Tryd.ntmps6
    go_wp2_with fail
    refine (shown_st A B w _ h0).mono ?_; rintro e w1 ⟨rfl, h1⟩
    go_wp2_with fail
    refine (enc_b _ _ ha h1).mono ?_; rintro e w2 ⟨rfl, h2⟩
    go_wp2_with fail
    refine (enc_b _ _ hb h2).mono ?_; rintro e w3 ⟨rfl, h3⟩
    go_wp2_with fail
    go_ret
    refine ⟨ret_bool ?_, by assumption⟩
    first | rfl | (simp; omega)
theorem law_ScalarOrder (A : Nat → Addr) (B : Nat) (a b : Int) (w : World) (hE : E A B w) (hB : B ≤ w.heap.size) :
    Calls Tryd.prog 6 #[.int .i64 a, .int .i64 b] w fun e w' => e = .returned (.bool true) ∧ Below w.heap.size w w' := by
  obtain ⟨tb, fb, hb⟩ := encV_form b
  cases ha : U.right a with
  | false => exact (order_walk A B a b _ tb _ fb w ⟨encV_no ha⟩ ⟨hb⟩ (.inl rfl) (St.start hE hB)).mono fun e w' ⟨he, h⟩ => ⟨he, h.b⟩
  | true =>
    cases hb' : U.right b with
    | false => exact (order_walk A B a b _ _ _ _ w ⟨encV_yes' a ha⟩ ⟨encV_no hb'⟩ (.inr (.inl ⟨rfl, rfl⟩)) (St.start hE hB)).mono fun e w' ⟨he, h⟩ => ⟨he, h.b⟩
    | true =>
      obtain ⟨h1, h2⟩ := U.enc_order a b ha hb'
      refine (order_walk A B a b _ _ _ _ w ⟨encV_yes' a ha⟩ ⟨encV_yes' b hb'⟩ (.inr (.inr ⟨rfl, rfl, ?_, ?_, ?_, ?_, ?_⟩)) (St.start hE hB)).mono fun e w' ⟨he, h⟩ => ⟨he, h.b⟩
      · rw [str_tolist, str_tolist]; exact h1
      · intro h; rw [str_size, str_size]; exact h2 h
      · rw [str_size]; exact (U.enc_len a).1
      · rw [str_size]; exact (U.enc_len a).2
      · rw [str_size]; exact (U.enc_len b).2

set_option maxHeartbeats 2000000 in
theorem first_none (A : Nat → Addr) (B : Nat) (s t c : ByteArray) (w : World) (hc : Box (s.size ≤ maxLen ∧ cutS s = c)) (zc : Box (c.size ≤ 16777216)) (hd : Box (decV c.data.toList = .tuple #[.int .i64 0, .int .i64 0, .bool false])) (h0 : St A B w w) :
    Calls Tryd.prog 7 #[.string s, .string t] w fun e w' => e = .returned (.bool true) ∧ St A B w w' := by
  go_enter Tryd.func7, Tryd.ntmps7
  go_wp2_with fail
  refine (shown_st A B w _ h0).mono ?_; rintro e w1 ⟨rfl, h1⟩
  go_wp2_with fail
  refine (cut_b s c _ hc).mono ?_; rintro e w2 ⟨rfl, rfl⟩
  go_wp2_with fail
  refine (dec_b c _ hd zc h1).mono ?_; rintro e w2 ⟨rfl, h2⟩
  go_wp2_with fail
  go_ret
  exact ⟨rfl, by assumption⟩
theorem dec_bl {A : Nat → Addr} {B : Nat} {W0 w : World} (s : ByteArray) (v : Value) (hv : Box (decV s.data.toList = v)) (hs : Box (s.size ≤ 16777216)) (h : St A B W0 w) :
    Calls Tryd.prog 14 #[.string s] w fun e w' => e = .returned v ∧ Below w.heap.size w w' := by
  rw [← hv.out]; exact dec_any A B s w (by have := hs.out; unfold maxLen; omega) h.e h.le
theorem St.drew {A : Nat → Addr} {B : Nat} {W0 w : World} (h : St A B W0 w) : St A B W0 w.drew := h.step (Below.refl _ _).drew

set_option maxHeartbeats 4000000 in
theorem first_some (A : Nat → Addr) (B : Nat) (s t c d : ByteArray) (r : Int) (n : Nat) (w : World) (hc : Box (s.size ≤ maxLen ∧ cutS s = c)) (hd : Box (t.size ≤ maxLen ∧ cutS t = d)) (zc : Box (c.size ≤ 16777216)) (z1 : Box ((c.extract 0 n ++ d).size ≤ 16777216)) (z2 : Box ((c.extract 0 n).size ≤ 16777216))
    (hn1 : 1 ≤ n) (hn2 : n ≤ c.size) (hcz : c.size ≤ 300) (hdz : d.size ≤ 300)
    (hv : Box (decV c.data.toList = .tuple #[.int .i64 r, .int .i64 n, .bool true])) (hv1 : Box (decV (c.extract 0 n ++ d).data.toList = .tuple #[.int .i64 r, .int .i64 n, .bool true])) (hv2 : Box (decV (c.extract 0 n).data.toList = .tuple #[.int .i64 r, .int .i64 n, .bool true])) (h0 : St A B w w) :
    Calls Tryd.prog 7 #[.string s, .string t] w fun e w' => e = .returned (.bool true) ∧ St A B w w' := by
  go_enter Tryd.func7, Tryd.ntmps7
  go_wp2_with fail
  refine (shown_st A B w _ h0).mono ?_; rintro e w1 ⟨rfl, h1⟩
  go_wp2_with fail
  refine (cut_b s c _ hc).mono ?_; rintro e w2 ⟨rfl, rfl⟩
  go_wp2_with fail
  refine (dec_b c _ hv zc h1).mono ?_; rintro e w2 ⟨rfl, h2⟩
  clear h0 h1
  go_wp2_with fail
  refine wp_region_class (St A B w) (by kernel_rfl) (by kernel_rfl) h2.drew (fun hne => ?_)
  clear h2
  repeat (any_goals (first
    | go_big_quiet_step (first | (go_at_call 15; exact class_same (cut_b t d _ hd) (CW.h _)) | (go_at_call 14; exact class_call (dec_bl _ _ hv1 z1 (CW.h _)) (fun _ hb => St.step (CW.h _) hb)))
    | quiet_step (first | (go_at_call 15; exact class_same (cut_b t d _ hd) (CW.h _)) | (go_at_call 14; exact class_call (dec_bl _ _ hv1 z1 (CW.h _)) (fun _ hb => St.step (CW.h _) hb)))))
  refine wpQuiet_nil ?_
  rintro w3 ⟨⟨_, h3⟩, rfl⟩
  clear hne
  go_wp2_with fail
  refine (dec_b _ _ hv2 z2 h3).mono ?_; rintro e w4 ⟨rfl, h4⟩
  go_wp2_with fail
  go_ret
  exact ⟨rfl, by assumption⟩
theorem ex_list (s : ByteArray) (n : Nat) : (s.extract 0 n).data.toList = s.data.toList.take n := by rw [Lib.extract_data]; rfl
theorem ex_size (s : ByteArray) (n : Nat) : (s.extract 0 n).size ≤ s.size := by rw [size_eq, ex_list, List.length_take, size_eq]; omega
theorem law_ScalarFirst (A : Nat → Addr) (B : Nat) (s t : ByteArray) (w : World) (hs : s.size ≤ maxLen) (ht : t.size ≤ maxLen) (hE : E A B w) (hB : B ≤ w.heap.size) :
    Calls Tryd.prog 7 #[.string s, .string t] w fun e w' => e = .returned (.bool true) ∧ Below w.heap.size w w' := by
  have zs := cutS_size s
  have zt := cutS_size t
  cases hd : U.dec (cutS s).data.toList with
  | none => exact (first_none A B s t _ w ⟨⟨hs, rfl⟩⟩ ⟨by omega⟩ ⟨decV_no hd⟩ (St.start hE hB)).mono fun e w' ⟨he, h⟩ => ⟨he, h.b⟩
  | some p =>
    obtain ⟨r, n⟩ := p
    obtain ⟨hr, hen, h1, h4, hl⟩ := U.dec_some hd
    have hx := ex_size (cutS s) n
    refine (first_some A B s t _ _ r n w ⟨⟨hs, rfl⟩⟩ ⟨⟨ht, rfl⟩⟩ ⟨by omega⟩ ⟨by rw [append_size]; omega⟩ ⟨by omega⟩ h1 (by rw [size_eq]; exact hl) zs zt ⟨decV_yes hd⟩ ⟨decV_yes ?_⟩ ⟨decV_yes ?_⟩ (St.start hE hB)).mono fun e w' ⟨he, h⟩ => ⟨he, h.b⟩
    · rw [append_list, ex_list]; exact U.dec_take hd _
    · rw [ex_list]; have := U.dec_take hd []; rwa [List.append_nil] at this
end Go.Proofs.YtpmdmphdldnjiaaDoor
