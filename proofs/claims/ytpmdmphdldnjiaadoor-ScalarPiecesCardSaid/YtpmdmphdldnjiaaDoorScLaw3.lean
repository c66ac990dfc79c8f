/-
  THE LAWS OF LAYER 1, WALKED: ScalarBack, ScalarPieces.
-/
import Derived.Test.YtpmdmphdldnjiaaDoorScLaw2
namespace Go.Proofs.YtpmdmphdldnjiaaDoor
open Go.RowKit

set_option maxHeartbeats 4000000 in
theorem back_walk (A : Nat → Addr) (B : Nat) (r : Int) (s c T u : ByteArray) (e f x n1 b n2 : Int) (ra k1 k2 : Bool) (w : World) (hc : Box (s.size ≤ maxLen ∧ cutS s = c)) (hcz : c.size ≤ 300) (hTz : T.size ≤ 4) (zc : Box (c.size ≤ 16777216)) (zx : Box ((T ++ c).size ≤ 16777216))
    (hT : Box (encV r = .tuple #[.string T, .int .i64 e])) (hra : Box (U.right r = ra)) (hx : Box (decV (T ++ c).data.toList = .tuple #[.int .i64 x, .int .i64 n1, .bool k1])) (hb : Box (decV c.data.toList = .tuple #[.int .i64 b, .int .i64 n2, .bool k2])) (hu : Box (encV b = .tuple #[.string u, .int .i64 f]))
    (h1 : (e = 0 ∧ ra = true ∧ x = r ∧ n1 = T.size ∧ k1 = true) ∨ (e = 10 ∧ ra = false)) (h2 : (b = 0 ∧ n2 = 0 ∧ k2 = false) ∨ ∃ m : Nat, n2 = m ∧ 0 < m ∧ m ≤ c.size ∧ k2 = true ∧ f = 0 ∧ u = c.extract 0 m) (h0 : St A B w w) :
    Calls Tryd.prog 4 #[.int .i64 r, .string s] w fun e w' => e = .returned (.bool true) ∧ St A B w w' := by
  rcases h1 with ⟨rfl, rfl, rfl, rfl, rfl⟩ | ⟨rfl, rfl⟩ <;> rcases h2 with ⟨rfl, rfl, rfl⟩ | ⟨m, rfl, hm0, hm1, rfl, rfl, rfl⟩
  all_goals
    go_enter Tryd.func4, Tryd.ntmps4
    go_wp2_with fail
    refine (shown_st A B w _ h0).mono ?_; rintro e w1 ⟨rfl, h1⟩
    go_wp2_with fail
    refine (enc_b _ _ hT h1).mono ?_; rintro e w2 ⟨rfl, h2⟩
    go_wp2_with fail
    refine (cut_b s c _ hc).mono ?_; rintro e w3 ⟨rfl, rfl⟩
    go_wp2_with fail
    refine (dec_b _ _ hx zx h2).mono ?_; rintro e w3 ⟨rfl, h3⟩
    go_wp2_with fail
    refine (right_b _ _ hra _).mono ?_; rintro e w4 ⟨rfl, rfl⟩
    go_wp2_with fail
    refine (cut_b s c _ hc).mono ?_; rintro e w4 ⟨rfl, rfl⟩
    go_wp2_with fail
    refine (dec_b _ _ hb zc h3).mono ?_; rintro e w4 ⟨rfl, h4⟩
    go_wp2_with fail
    refine (enc_b _ _ hu h4).mono ?_; rintro e w5 ⟨rfl, h5⟩
    go_wp2_with (go_at_call 15; refine (cut_b s c _ hc).mono ?_; rintro e w6 ⟨rfl, rfl⟩)
    go_ret
    exact ⟨rfl, by assumption⟩
theorem law_ScalarBack (A : Nat → Addr) (B : Nat) (r : Int) (s : ByteArray) (w : World) (hs : s.size ≤ maxLen) (hE : E A B w) (hB : B ≤ w.heap.size) :
    Calls Tryd.prog 4 #[.int .i64 r, .string s] w fun e w' => e = .returned (.bool true) ∧ Below w.heap.size w w' := by
  have zs := cutS_size s
  have hc : Box (s.size ≤ maxLen ∧ cutS s = cutS s) := ⟨⟨hs, rfl⟩⟩
  have zc : Box ((cutS s).size ≤ 16777216) := ⟨by omega⟩
  obtain ⟨u0, f0, hu0⟩ := encV_form 0
  cases hr : U.right r with
  | true =>
    have hl := U.enc_len r
    have hz : (⟨(U.enc r).toArray⟩ : ByteArray).size ≤ 4 := by rw [str_size]; exact hl.2
    have zx : Box (((⟨(U.enc r).toArray⟩ : ByteArray) ++ cutS s).size ≤ 16777216) := ⟨by rw [append_size]; omega⟩
    have hx : Box (decV ((⟨(U.enc r).toArray⟩ : ByteArray) ++ cutS s).data.toList = .tuple #[.int .i64 r, .int .i64 ((⟨(U.enc r).toArray⟩ : ByteArray).size : Nat), .bool true]) := ⟨by
      rw [append_list, str_list, str_size]; exact decV_yes (U.dec_enc r hr _)⟩
    cases hd : U.dec (cutS s).data.toList with
    | none => exact (back_walk A B r s _ _ _ _ _ _ _ _ _ _ _ _ w hc zs hz zc zx ⟨encV_yes' r hr⟩ ⟨hr⟩ hx ⟨decV_no hd⟩ ⟨hu0⟩ (.inl ⟨rfl, rfl, rfl, rfl, rfl⟩) (.inl ⟨rfl, rfl, rfl⟩) (St.start hE hB)).mono fun e w' ⟨he, h⟩ => ⟨he, h.b⟩
    | some p =>
      obtain ⟨b, n⟩ := p
      obtain ⟨hr', hen, h1, h4, hl'⟩ := U.dec_some hd
      have hu : encV b = .tuple #[.string ((cutS s).extract 0 n), .int .i64 0] := by
        rw [encV_yes' b hr', show (⟨(U.enc b).toArray⟩ : ByteArray) = (cutS s).extract 0 n from ByteArray.ext (Array.toList_inj.1 (by rw [ex_list]; exact hen))]
      exact (back_walk A B r s _ _ _ _ _ _ _ _ _ _ _ _ w hc zs hz zc zx ⟨encV_yes' r hr⟩ ⟨hr⟩ hx ⟨decV_yes hd⟩ ⟨hu⟩ (.inl ⟨rfl, rfl, rfl, rfl, rfl⟩) (.inr ⟨n, rfl, h1, by rw [size_eq]; exact hl', rfl, rfl, rfl⟩) (St.start hE hB)).mono fun e w' ⟨he, h⟩ => ⟨he, h.b⟩
  | false =>
    have zx : Box (((⟨#[]⟩ : ByteArray) ++ cutS s).size ≤ 16777216) := ⟨by rw [append_size]; have : (⟨#[]⟩ : ByteArray).size = 0 := rfl; omega⟩
    obtain ⟨dx, dn, dk, hx⟩ := decV_form ((⟨#[]⟩ : ByteArray) ++ cutS s).data.toList
    cases hd : U.dec (cutS s).data.toList with
    | none => exact (back_walk A B r s _ _ _ _ _ _ _ _ _ _ _ _ w hc zs (by decide) zc zx ⟨encV_no hr⟩ ⟨hr⟩ ⟨hx⟩ ⟨decV_no hd⟩ ⟨hu0⟩ (.inr ⟨rfl, rfl⟩) (.inl ⟨rfl, rfl, rfl⟩) (St.start hE hB)).mono fun e w' ⟨he, h⟩ => ⟨he, h.b⟩
    | some p =>
      obtain ⟨b, n⟩ := p
      obtain ⟨hr', hen, h1, h4, hl'⟩ := U.dec_some hd
      have hu : encV b = .tuple #[.string ((cutS s).extract 0 n), .int .i64 0] := by
        rw [encV_yes' b hr', show (⟨(U.enc b).toArray⟩ : ByteArray) = (cutS s).extract 0 n from ByteArray.ext (Array.toList_inj.1 (by rw [ex_list]; exact hen))]
      exact (back_walk A B r s _ _ _ _ _ _ _ _ _ _ _ _ w hc zs (by decide) zc zx ⟨encV_no hr⟩ ⟨hr⟩ ⟨hx⟩ ⟨decV_yes hd⟩ ⟨hu⟩ (.inr ⟨rfl, rfl⟩) (.inr ⟨n, rfl, h1, by rw [size_eq]; exact hl', rfl, rfl, rfl⟩) (St.start hE hB)).mono fun e w' ⟨he, h⟩ => ⟨he, h.b⟩

set_option maxHeartbeats 4000000 in
theorem pieces_walk (A : Nat → Addr) (B : Nat) (r : Int) (S : ByteArray) (e : Int) (w : World) (hz : S.size ≤ 4) (hS : Box (encV r = .tuple #[.string S, .int .i64 e]))
    (hp : Box (∀ k : Nat, 1 ≤ k → k < S.size → U.valid (S.extract 0 k).data.toList = false ∧ U.valid (S.extract k S.size).data.toList = false))
    (h : (e = 10 ∧ S.toList.isEmpty = true ∧ S.size = 0) ∨ (e = 0 ∧ S.toList.isEmpty = false ∧ 1 ≤ S.size)) (h0 : St A B w w) :
    Calls Tryd.prog 8 #[.int .i64 r] w fun e w' => e = .returned (.bool true) ∧ St A B w w' := by
  rcases h with ⟨rfl, he, hl⟩ | ⟨rfl, he, hl⟩
  all_goals
    go_enter Tryd.func8, Tryd.ntmps8
    go_wp2_with fail
    refine (shown_st A B w _ h0).mono ?_; rintro e w1 ⟨rfl, h1⟩
    go_wp2_with fail
    refine (enc_b _ _ hS h1).mono ?_; rintro e w2 ⟨rfl, h2⟩
    go_wp2_with fail
  · go_rounds 1
    go_ret
    exact ⟨rfl, by assumption⟩
  · clear h0 h1
    go_loopw [6] (fun i wr => ∃ k : Nat, 1 ≤ k ∧ k ≤ S.size ∧ i = .int .i64 k ∧ St A B w wr) (fun i _ => S.size - (intOf i).toNat)
    case atStart => exact ⟨1, by omega, hl, rfl, h2⟩
    case round =>
      obtain ⟨k, hk1, hk2, rfl, h3⟩ := hrel
      by_cases hlt : k < S.size
      · obtain ⟨v1, v2⟩ := hp.out k hk1 hlt
        have V1 := Box.mk v1
        have V2 := Box.mk v2
        have z1 : Box ((S.extract 0 k).size ≤ 16777216) := ⟨by have := ex_size S k; omega⟩
        have z2 : Box ((S.extract k S.size).size ≤ 16777216) := ⟨by rw [size_eq, Lib.extract_data]; simp; have := size_eq S; omega⟩
        clear v1 v2
        go_wp2_with fail
        refine (valid_b _ _ V1 z1 h3).mono ?_; rintro e w4 ⟨rfl, h4⟩
        go_wp2_with fail
        refine (valid_b _ _ V2 z2 h4).mono ?_; rintro e w5 ⟨rfl, h5⟩
        go_wp2_with fail
        go_roundw
        case rel => exact ⟨k + 1, by omega, hlt, by go_num, h5⟩
        case measure => simp [intOf]; omega
      · go_wp2_with fail
        go_ret
        exact ⟨rfl, h3⟩
theorem ex_list2 (s : ByteArray) (k : Nat) : (s.extract k s.size).data.toList = s.data.toList.drop k := by
  rw [Lib.extract_data, List.take_of_length_le (by rw [List.length_drop, ← size_eq]; exact Nat.le_refl _)]
theorem law_ScalarPieces (A : Nat → Addr) (B : Nat) (r : Int) (w : World) (hE : E A B w) (hB : B ≤ w.heap.size) :
    Calls Tryd.prog 8 #[.int .i64 r] w fun e w' => e = .returned (.bool true) ∧ Below w.heap.size w w' := by
  cases hr : U.right r with
  | false => exact (pieces_walk A B r _ _ w (by decide) ⟨encV_no hr⟩ ⟨fun k h1 h2 => absurd h2 (by have : (⟨#[]⟩ : ByteArray).size = 0 := rfl; omega)⟩ (.inl ⟨rfl, isEmpty_nil rfl, rfl⟩) (St.start hE hB)).mono fun e w' ⟨he, h⟩ => ⟨he, h.b⟩
  | true =>
    have hl := U.enc_len r
    have he : (⟨(U.enc r).toArray⟩ : ByteArray).toList.isEmpty = false := by
      rw [str_tolist]
      cases h : U.enc r with
      | nil => rw [h] at hl; simp at hl
      | cons _ _ => rfl
    refine (pieces_walk A B r _ _ w (by rw [str_size]; exact hl.2) ⟨encV_yes' r hr⟩ ⟨fun k h1 h2 => ?_⟩ (.inr ⟨rfl, he, by rw [str_size]; exact hl.1⟩) (St.start hE hB)).mono fun e w' ⟨he, h⟩ => ⟨he, h.b⟩
    rw [str_size] at h2
    rw [ex_list, ex_list2, str_list]
    exact U.pieces r hr k h1 h2
end Go.Proofs.YtpmdmphdldnjiaaDoor
