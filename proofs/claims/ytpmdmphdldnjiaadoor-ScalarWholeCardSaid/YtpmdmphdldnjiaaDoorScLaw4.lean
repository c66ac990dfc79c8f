/-
  THE LAWS OF LAYER 1, WALKED: ScalarTexts, ScalarWhole.
-/
import Derived.Test.YtpmdmphdldnjiaaDoorScText2
namespace Go.Proofs.YtpmdmphdldnjiaaDoor
open Go.RowKit

section
variable {A : Nat → Addr} {B : Nat} {W0 w w' : World}
/-- the world of a call, then of the next -/
structure Sn (A : Nat → Addr) (B : Nat) (W0 w : World) : Prop where
  e : E A B w
  b : Below W0.heap.size W0 w
  hB : B ≤ W0.heap.size
theorem Sn.next (h : St A B W0 w) : St A B w w := ⟨h.e, Below.refl _ _, h.le⟩
theorem IntsAt.st {v : Value} {xs : List Int} (hv : IntsAt W0 v xs) (h : St A B W0 w) : IntsAt w v xs := hv.below h.b
theorem few_st (v : Value) (xs l : List Int) (hl : Box (xs.take 100 = l)) (h : IntsAt w v xs) : Calls Tryd.prog 20 #[v] w fun e w' => (∃ a c, e = .returned (.slice a l.length c) ∧ Box (IntsAt w (.slice a l.length c) l)) ∧ w = w' :=
  (few_any v xs w h).mono fun _ _ ⟨⟨v', h1, h2⟩, h3⟩ => by
    rw [hl.out] at h2
    obtain ⟨a, c, rfl⟩ := h2.slice
    exact ⟨⟨a, c, h1, ⟨h2⟩⟩, h3⟩
end

def scV (o : Option (List Int)) (v : Value) : Value := match o with
  | none => .tuple #[.slice none 0 0, .int .i64 11]
  | some _ => .tuple #[v, .int .i64 0]
theorem sc_some {s : ByteArray} {xs : List Int} {w w' : World} {e : Ending} (h : scPost s w e w') (hx : Box (U.scalars s.data.toList = some xs)) :
    ∃ a cap, e = .returned (.tuple #[.slice a xs.length cap, .int .i64 0]) ∧ Box (IntsAt w' (.slice a xs.length cap) xs) ∧ Below w.heap.size w w' := by
  obtain ⟨hb, hm⟩ := h
  rw [hx.out] at hm
  obtain ⟨v, rfl, ho⟩ := hm
  have hi := IntsAt.of_own ho rfl
  obtain ⟨a, cap, rfl⟩ := hi.slice
  exact ⟨a, cap, rfl, ⟨hi⟩, hb⟩
theorem sc_none {s : ByteArray} {w w' : World} {e : Ending} (h : scPost s w e w') (hx : Box (U.scalars s.data.toList = none)) :
    e = .returned (.tuple #[.slice none 0 0, .int .i64 11]) ∧ Below w.heap.size w w' := by
  obtain ⟨hb, hm⟩ := h
  rw [hx.out] at hm
  exact ⟨hm, hb⟩

theorem textV_form (xs : List Int) : ∃ (u : ByteArray) (g : Int), textV xs = .tuple #[.string u, .int .i64 g] := by
  unfold textV; split <;> exact ⟨_, _, rfl⟩

theorem scalars_len (k : Nat) : ∀ (s : List UInt8) (l : List Int), s.length ≤ k → U.scalars s = some l → l.length ≤ s.length := by
  intro s l hk h
  obtain ⟨h1, h2⟩ := (U.scalars_iff _ _).1 h
  rw [← h1]
  clear h h1 hk
  induction l with
  | nil => simp
  | cons x t ih =>
    have := ih (fun r hr => h2 r (List.mem_cons_of_mem _ hr))
    have hl := U.enc_len x
    simp only [U.textOf, List.flatMap_cons, List.length_append, List.length_cons] at this ⊢
    omega

set_option maxHeartbeats 4000000 in
theorem law_ScalarTexts (A : Nat → Addr) (B : Nat) (s : ByteArray) (v : Value) (xs : List Int) (w : World) (hs : s.size ≤ maxLen) (hv : IntsAt w v xs) (hE : E A B w) (hB : B ≤ w.heap.size) :
    Calls Tryd.prog 9 #[.string s, v] w fun e w' => e = .returned (.bool true) ∧ Below w.heap.size w w' := by
  have h0 := St.start hE hB
  have hz := cutS_size s
  obtain ⟨c, hc⟩ : ∃ c, cutS s = c := ⟨_, rfl⟩
  rw [hc] at hz
  have HC := Box.mk (And.intro hs hc)
  clear hc
  obtain ⟨l, hl⟩ : ∃ l, xs.take 100 = l := ⟨_, rfl⟩
  have hlz : l.length ≤ 100 := by rw [← hl, List.length_take]; omega
  have HXL := Box.mk hl
  clear hl
  have HZ := Box.mk (show c.size ≤ 16777216 by omega)
  obtain ⟨u, g, ht⟩ := textV_form l
  have HT := Box.mk ht
  have HL := Box.mk (show l.length ≤ 1000 by omega)
  have HV := Box.mk hv
  obtain ⟨va, vc, rfl⟩ := hv.slice
  clear ht hE hv hs hz hlz
  cases hx : U.scalars c.data.toList with
  | none =>
    have HX := Box.mk hx
    have HVA := Box.mk (show U.valid c.data.toList = false by unfold U.valid; rw [hx]; rfl)
    clear hx
    go_enter Tryd.func9, Tryd.ntmps9
    go_wp2_with fail
    refine (shown_st A B w _ h0).mono ?_; rintro e w1 ⟨rfl, h1⟩
    go_wp2_with fail
    refine (cut_b s c _ HC).mono ?_; rintro e w2 ⟨rfl, rfl⟩
    go_wp2_with fail
    refine (few_st _ xs l HXL (HV.out.st h1)).mono ?_; rintro e w2 ⟨⟨fa, fc, rfl, HF⟩, rfl⟩
    go_wp2_with fail
    refine (scal_any A B c _ HZ.out h1.e h1.le).mono ?_; intro e w2 hp
    obtain ⟨rfl, hb2⟩ := sc_none hp HX
    have h2 := h1.step hb2
    have HF2 := Box.mk (HF.out.below hb2)
    clear hp hb2
    go_wp2_with fail
    refine (rscal_any c _ HZ.out).mono ?_; intro e w3 hp
    obtain ⟨rfl, hb3⟩ := sc_none hp HX
    have h3 := h2.step hb3
    have HF3 := Box.mk (HF2.out.below hb3)
    clear hp hb3
    go_wp2_with fail
    refine (text_any A B _ _ _ HF3.out HL.out h3.e h3.le).mono ?_; rintro e w4 ⟨rfl, hb4⟩; rw [HT.out]
    have h4 := h3.step hb4
    have HF4 := Box.mk (HF3.out.below hb4)
    clear hb4
    go_wp2_with fail
    refine (rtext_any _ _ _ HF4.out HL.out).mono ?_; rintro e w5 ⟨rfl, hb5⟩; rw [HT.out]
    have h5 := h4.step hb5
    clear hb5
    go_wp2_with fail
    refine (valid_b c _ HVA HZ h5).mono ?_; rintro e w6 ⟨rfl, h6⟩
    go_wp2_with fail
    refine (rvalid_any c _ HZ.out).mono ?_; rintro e w7 ⟨rfl, hb7⟩; rw [HVA.out]
    have h7 := h6.step hb7
    clear hb7
    go_wp2_with fail
    refine (ints_same _ _ [] _ .nil .nil (by simp)).mono ?_; rintro e w8 ⟨rfl, n, rfl⟩
    go_wp2_with fail
    go_ret
    exact ⟨rfl, below_drewN h7.b n⟩
  | some ys =>
    have HX := Box.mk hx
    have HVA := Box.mk (show U.valid c.data.toList = true by unfold U.valid; rw [hx]; rfl)
    have HYL := Box.mk (show ys.length ≤ 16777216 by have := scalars_len _ _ _ (Nat.le_refl _) hx; rw [← size_eq] at this; have := HZ.out; omega)
    clear hx
    go_enter Tryd.func9, Tryd.ntmps9
    go_wp2_with fail
    refine (shown_st A B w _ h0).mono ?_; rintro e w1 ⟨rfl, h1⟩
    go_wp2_with fail
    refine (cut_b s c _ HC).mono ?_; rintro e w2 ⟨rfl, rfl⟩
    go_wp2_with fail
    refine (few_st _ xs l HXL (HV.out.st h1)).mono ?_; rintro e w2 ⟨⟨fa, fc, rfl, HF⟩, rfl⟩
    go_wp2_with fail
    refine (scal_any A B c _ HZ.out h1.e h1.le).mono ?_; intro e w2 hp
    obtain ⟨aa, ac, rfl, HA2, hb2⟩ := sc_some hp HX
    have h2 := h1.step hb2
    have HF2 := Box.mk (HF.out.below hb2)
    clear hp hb2
    go_wp2_with fail
    refine (rscal_any c _ HZ.out).mono ?_; intro e w3 hp
    obtain ⟨ba, bc, rfl, HB3, hb3⟩ := sc_some hp HX
    have h3 := h2.step hb3
    have HF3 := Box.mk (HF2.out.below hb3)
    have HA3 := Box.mk (HA2.out.below hb3)
    clear hp hb3
    go_wp2_with fail
    refine (text_any A B _ _ _ HF3.out HL.out h3.e h3.le).mono ?_; rintro e w4 ⟨rfl, hb4⟩; rw [HT.out]
    have h4 := h3.step hb4
    have HF4 := Box.mk (HF3.out.below hb4)
    have HA4 := Box.mk (HA3.out.below hb4)
    have HB4 := Box.mk (HB3.out.below hb4)
    clear hb4
    go_wp2_with fail
    refine (rtext_any _ _ _ HF4.out HL.out).mono ?_; rintro e w5 ⟨rfl, hb5⟩; rw [HT.out]
    have h5 := h4.step hb5
    have HA5 := Box.mk (HA4.out.below hb5)
    have HB5 := Box.mk (HB4.out.below hb5)
    clear hb5
    go_wp2_with fail
    refine (valid_b c _ HVA HZ (Sn.next h5)).mono ?_; rintro e w6 ⟨rfl, h6⟩
    have HA6 := Box.mk (HA5.out.below h6.b)
    have HB6 := Box.mk (HB5.out.below h6.b)
    have h6' := h5.step h6.b
    clear h6
    go_wp2_with fail
    refine (rvalid_any c _ HZ.out).mono ?_; rintro e w7 ⟨rfl, hb7⟩; rw [HVA.out]
    have HA7 := Box.mk (HA6.out.below hb7)
    have HB7 := Box.mk (HB6.out.below hb7)
    have h7 := h6'.step hb7
    clear hb7
    go_wp2_with fail
    refine (ints_same _ _ ys _ HA7.out HB7.out HYL.out).mono ?_; rintro e w8 ⟨rfl, n, rfl⟩
    go_wp2_with fail
    go_ret
    exact ⟨rfl, below_drewN h7.b n⟩

theorem textV_str {ys : List Int} {c : ByteArray} (h : U.scalars c.data.toList = some ys) : textV ys = .tuple #[.string c, .int .i64 0] := by
  obtain ⟨h1, h2⟩ := (U.scalars_iff _ _).1 h
  rw [textV_yes ys (List.all_eq_true.2 h2), h1]
theorem textV_nil : textV [] = .tuple #[.string ⟨#[]⟩, .int .i64 0] := textV_yes [] rfl
theorem textV_no' {l : List Int} (h : l.all U.right = false) : textV l = .tuple #[.string ⟨#[]⟩, .int .i64 10] := by unfold textV; rw [if_neg (by rw [h]; decide)]
theorem scalars_text {l : List Int} (h : l.all U.right = true) : U.scalars (⟨(U.textOf l).toArray⟩ : ByteArray).data.toList = some l := (U.scalars_iff _ _).2 ⟨rfl, List.all_eq_true.1 h⟩
theorem scalars_empty : U.scalars (⟨#[]⟩ : ByteArray).data.toList = some [] := rfl

set_option maxHeartbeats 4000000 in
theorem whole_none_no (A : Nat → Addr) (B : Nat) (s c u : ByteArray) (va : Option Addr) (vc : Nat) (xs l ys : List Int) (w : World) (HC : Box (s.size ≤ maxLen ∧ cutS s = c)) (HZ : Box (c.size ≤ 16777216)) (_HUZ : Box (u.size ≤ 16777216)) (HXL : Box (xs.take 100 = l)) (HL : Box (l.length ≤ 1000)) (_HYL : Box (ys.length ≤ 1000))
    (HV : Box (IntsAt w (.slice va xs.length vc) xs)) (HX : Box (U.scalars c.data.toList = none)) (HVA : Box (U.valid c.data.toList = false)) (HT : Box (textV [] = .tuple #[.string ⟨#[]⟩, .int .i64 0])) (HT2 : Box (textV l = .tuple #[.string ⟨#[]⟩, .int .i64 10])) (HX2 : Box (U.scalars (⟨#[]⟩ : ByteArray).data.toList = some [])) (HN0 : Box ((⟨#[]⟩ : ByteArray).size ≤ 16777216)) (h0 : St A B w w) :
    Calls Tryd.prog 10 #[.string s, .slice va xs.length vc] w fun e w' => e = .returned (.bool true) ∧ St A B w w' := by
  go_enter Tryd.func10, Tryd.ntmps10
  go_wp2_with fail
  refine (shown_st A B w _ h0).mono ?_; rintro e w1 ⟨rfl, h1⟩
  go_wp2_with fail
  refine (cut_b s c _ HC).mono ?_; rintro e w2 ⟨rfl, rfl⟩
  go_wp2_with fail
  refine (few_st _ xs l HXL (HV.out.st h1)).mono ?_; rintro e w2 ⟨⟨fa, fc, rfl, HF⟩, rfl⟩
  go_wp2_with fail
  refine (scal_any A B c _ HZ.out h1.e h1.le).mono ?_; intro e w2 hp
  obtain ⟨rfl, hb2⟩ := sc_none hp HX
  have h2 := h1.step hb2
  have HF2 := Box.mk (HF.out.below hb2)
  clear hp hb2
  go_wp2_with fail
  refine (text_any A B _ [] _ .nil (by simp) h2.e h2.le).mono ?_; rintro e w3 ⟨rfl, hb3⟩; rw [HT.out]
  have h3 := h2.step hb3
  have HF3 := Box.mk (HF2.out.below hb3)
  clear hb3
  go_wp2_with fail
  refine (text_any A B _ _ _ HF3.out HL.out h3.e h3.le).mono ?_; rintro e w4 ⟨rfl, hb4⟩; rw [HT2.out]
  have h4 := h3.step hb4
  have HF4 := Box.mk (HF3.out.below hb4)
  clear hb4
  go_wp2_with fail
  refine (scal_any A B _ _ HN0.out h4.e h4.le).mono ?_; intro e w5 hp
  obtain ⟨ba, bc, rfl, HB5, hb5⟩ := sc_some hp HX2
  have h5 := h4.step hb5
  have HF5 := Box.mk (HF4.out.below hb5)
  clear hp hb5
  go_wp2_with fail
  refine (valid_b c _ HVA HZ (Sn.next h5)).mono ?_; rintro e w6 ⟨rfl, h6⟩
  have h6' := h5.step h6.b
  clear h6
  go_wp2_with fail
  go_ret
  exact ⟨rfl, h6'⟩

set_option maxHeartbeats 4000000 in
theorem whole_none_ok (A : Nat → Addr) (B : Nat) (s c u : ByteArray) (va : Option Addr) (vc : Nat) (xs l ys : List Int) (w : World) (HC : Box (s.size ≤ maxLen ∧ cutS s = c)) (HZ : Box (c.size ≤ 16777216)) (HUZ : Box (u.size ≤ 16777216)) (HXL : Box (xs.take 100 = l)) (HL : Box (l.length ≤ 1000)) (_HYL : Box (ys.length ≤ 1000))
    (HV : Box (IntsAt w (.slice va xs.length vc) xs)) (HX : Box (U.scalars c.data.toList = none)) (HVA : Box (U.valid c.data.toList = false)) (HT : Box (textV [] = .tuple #[.string ⟨#[]⟩, .int .i64 0])) (HT2 : Box (textV l = .tuple #[.string u, .int .i64 0])) (HX2 : Box (U.scalars u.data.toList = some l)) (HVU : Box (U.valid u.data.toList = true)) (h0 : St A B w w) :
    Calls Tryd.prog 10 #[.string s, .slice va xs.length vc] w fun e w' => e = .returned (.bool true) ∧ St A B w w' := by
  go_enter Tryd.func10, Tryd.ntmps10
  go_wp2_with fail
  refine (shown_st A B w _ h0).mono ?_; rintro e w1 ⟨rfl, h1⟩
  go_wp2_with fail
  refine (cut_b s c _ HC).mono ?_; rintro e w2 ⟨rfl, rfl⟩
  go_wp2_with fail
  refine (few_st _ xs l HXL (HV.out.st h1)).mono ?_; rintro e w2 ⟨⟨fa, fc, rfl, HF⟩, rfl⟩
  go_wp2_with fail
  refine (scal_any A B c _ HZ.out h1.e h1.le).mono ?_; intro e w2 hp
  obtain ⟨rfl, hb2⟩ := sc_none hp HX
  have h2 := h1.step hb2
  have HF2 := Box.mk (HF.out.below hb2)
  clear hp hb2
  go_wp2_with fail
  refine (text_any A B _ [] _ .nil (by simp) h2.e h2.le).mono ?_; rintro e w3 ⟨rfl, hb3⟩; rw [HT.out]
  have h3 := h2.step hb3
  have HF3 := Box.mk (HF2.out.below hb3)
  clear hb3
  go_wp2_with fail
  refine (text_any A B _ _ _ HF3.out HL.out h3.e h3.le).mono ?_; rintro e w4 ⟨rfl, hb4⟩; rw [HT2.out]
  have h4 := h3.step hb4
  have HF4 := Box.mk (HF3.out.below hb4)
  clear hb4
  go_wp2_with fail
  refine (scal_any A B u _ HUZ.out h4.e h4.le).mono ?_; intro e w5 hp
  obtain ⟨ba, bc, rfl, HB5, hb5⟩ := sc_some hp HX2
  have h5 := h4.step hb5
  have HF5 := Box.mk (HF4.out.below hb5)
  clear hp hb5
  go_wp2_with fail
  refine (valid_b c _ HVA HZ (Sn.next h5)).mono ?_; rintro e w6 ⟨rfl, h6⟩
  have HF6 := Box.mk (HF5.out.below h6.b)
  have HB6 := Box.mk (HB5.out.below h6.b)
  have h6' := h5.step h6.b
  clear h6
  go_wp2_with fail
  refine (ints_same _ _ l _ HB6.out HF6.out (by have := HL.out; omega)).mono ?_; rintro e w7 ⟨rfl, n, rfl⟩
  have h7 : St A B w (w6.drewN n) := h6'.step (below_drewN (Below.refl _ _) n)
  clear h6'
  go_wp2_with fail
  refine (valid_b u _ HVU HUZ h7).mono ?_; rintro e w8 ⟨rfl, h8⟩
  go_wp2_with fail
  go_ret
  exact ⟨rfl, h8⟩

set_option maxHeartbeats 4000000 in
theorem whole_some_no (A : Nat → Addr) (B : Nat) (s c u : ByteArray) (va : Option Addr) (vc : Nat) (xs l ys : List Int) (w : World) (HC : Box (s.size ≤ maxLen ∧ cutS s = c)) (HZ : Box (c.size ≤ 16777216)) (_HUZ : Box (u.size ≤ 16777216)) (HXL : Box (xs.take 100 = l)) (HL : Box (l.length ≤ 1000)) (HYL : Box (ys.length ≤ 1000))
    (HV : Box (IntsAt w (.slice va xs.length vc) xs)) (HX : Box (U.scalars c.data.toList = some ys)) (HVA : Box (U.valid c.data.toList = true)) (HT : Box (textV ys = .tuple #[.string c, .int .i64 0])) (HT2 : Box (textV l = .tuple #[.string ⟨#[]⟩, .int .i64 10])) (HX2 : Box (U.scalars (⟨#[]⟩ : ByteArray).data.toList = some [])) (HN0 : Box ((⟨#[]⟩ : ByteArray).size ≤ 16777216)) (h0 : St A B w w) :
    Calls Tryd.prog 10 #[.string s, .slice va xs.length vc] w fun e w' => e = .returned (.bool true) ∧ St A B w w' := by
  go_enter Tryd.func10, Tryd.ntmps10
  go_wp2_with fail
  refine (shown_st A B w _ h0).mono ?_; rintro e w1 ⟨rfl, h1⟩
  go_wp2_with fail
  refine (cut_b s c _ HC).mono ?_; rintro e w2 ⟨rfl, rfl⟩
  go_wp2_with fail
  refine (few_st _ xs l HXL (HV.out.st h1)).mono ?_; rintro e w2 ⟨⟨fa, fc, rfl, HF⟩, rfl⟩
  go_wp2_with fail
  refine (scal_any A B c _ HZ.out h1.e h1.le).mono ?_; intro e w2 hp
  obtain ⟨aa, ac, rfl, HA2, hb2⟩ := sc_some hp HX
  have h2 := h1.step hb2
  have HF2 := Box.mk (HF.out.below hb2)
  clear hp hb2
  go_wp2_with fail
  refine (text_any A B _ _ _ HA2.out HYL.out h2.e h2.le).mono ?_; rintro e w3 ⟨rfl, hb3⟩; rw [HT.out]
  have h3 := h2.step hb3
  have HF3 := Box.mk (HF2.out.below hb3)
  clear hb3
  go_wp2_with fail
  refine (text_any A B _ _ _ HF3.out HL.out h3.e h3.le).mono ?_; rintro e w4 ⟨rfl, hb4⟩; rw [HT2.out]
  have h4 := h3.step hb4
  have HF4 := Box.mk (HF3.out.below hb4)
  clear hb4
  go_wp2_with fail
  refine (scal_any A B _ _ HN0.out h4.e h4.le).mono ?_; intro e w5 hp
  obtain ⟨ba, bc, rfl, HB5, hb5⟩ := sc_some hp HX2
  have h5 := h4.step hb5
  have HF5 := Box.mk (HF4.out.below hb5)
  clear hp hb5
  go_wp2_with fail
  refine (valid_b c _ HVA HZ (Sn.next h5)).mono ?_; rintro e w6 ⟨rfl, h6⟩
  have h6' := h5.step h6.b
  clear h6
  go_wp2_with fail
  go_ret
  exact ⟨rfl, h6'⟩

set_option maxHeartbeats 4000000 in
theorem whole_some_ok (A : Nat → Addr) (B : Nat) (s c u : ByteArray) (va : Option Addr) (vc : Nat) (xs l ys : List Int) (w : World) (HC : Box (s.size ≤ maxLen ∧ cutS s = c)) (HZ : Box (c.size ≤ 16777216)) (HUZ : Box (u.size ≤ 16777216)) (HXL : Box (xs.take 100 = l)) (HL : Box (l.length ≤ 1000)) (HYL : Box (ys.length ≤ 1000))
    (HV : Box (IntsAt w (.slice va xs.length vc) xs)) (HX : Box (U.scalars c.data.toList = some ys)) (HVA : Box (U.valid c.data.toList = true)) (HT : Box (textV ys = .tuple #[.string c, .int .i64 0])) (HT2 : Box (textV l = .tuple #[.string u, .int .i64 0])) (HX2 : Box (U.scalars u.data.toList = some l)) (HVU : Box (U.valid u.data.toList = true)) (h0 : St A B w w) :
    Calls Tryd.prog 10 #[.string s, .slice va xs.length vc] w fun e w' => e = .returned (.bool true) ∧ St A B w w' := by
  go_enter Tryd.func10, Tryd.ntmps10
  go_wp2_with fail
  refine (shown_st A B w _ h0).mono ?_; rintro e w1 ⟨rfl, h1⟩
  go_wp2_with fail
  refine (cut_b s c _ HC).mono ?_; rintro e w2 ⟨rfl, rfl⟩
  go_wp2_with fail
  refine (few_st _ xs l HXL (HV.out.st h1)).mono ?_; rintro e w2 ⟨⟨fa, fc, rfl, HF⟩, rfl⟩
  go_wp2_with fail
  refine (scal_any A B c _ HZ.out h1.e h1.le).mono ?_; intro e w2 hp
  obtain ⟨aa, ac, rfl, HA2, hb2⟩ := sc_some hp HX
  have h2 := h1.step hb2
  have HF2 := Box.mk (HF.out.below hb2)
  clear hp hb2
  go_wp2_with fail
  refine (text_any A B _ _ _ HA2.out HYL.out h2.e h2.le).mono ?_; rintro e w3 ⟨rfl, hb3⟩; rw [HT.out]
  have h3 := h2.step hb3
  have HF3 := Box.mk (HF2.out.below hb3)
  clear hb3
  go_wp2_with fail
  refine (text_any A B _ _ _ HF3.out HL.out h3.e h3.le).mono ?_; rintro e w4 ⟨rfl, hb4⟩; rw [HT2.out]
  have h4 := h3.step hb4
  have HF4 := Box.mk (HF3.out.below hb4)
  clear hb4
  go_wp2_with fail
  refine (scal_any A B u _ HUZ.out h4.e h4.le).mono ?_; intro e w5 hp
  obtain ⟨ba, bc, rfl, HB5, hb5⟩ := sc_some hp HX2
  have h5 := h4.step hb5
  have HF5 := Box.mk (HF4.out.below hb5)
  clear hp hb5
  go_wp2_with fail
  refine (valid_b c _ HVA HZ (Sn.next h5)).mono ?_; rintro e w6 ⟨rfl, h6⟩
  have HF6 := Box.mk (HF5.out.below h6.b)
  have HB6 := Box.mk (HB5.out.below h6.b)
  have h6' := h5.step h6.b
  clear h6
  go_wp2_with fail
  refine (ints_same _ _ l _ HB6.out HF6.out (by have := HL.out; omega)).mono ?_; rintro e w7 ⟨rfl, n, rfl⟩
  have h7 : St A B w (w6.drewN n) := h6'.step (below_drewN (Below.refl _ _) n)
  clear h6'
  go_wp2_with fail
  refine (valid_b u _ HVU HUZ h7).mono ?_; rintro e w8 ⟨rfl, h8⟩
  go_wp2_with fail
  go_ret
  exact ⟨rfl, h8⟩

theorem law_ScalarWhole (A : Nat → Addr) (B : Nat) (s : ByteArray) (v : Value) (xs : List Int) (w : World) (hs : s.size ≤ maxLen) (hv : IntsAt w v xs) (hE : E A B w) (hB : B ≤ w.heap.size) :
    Calls Tryd.prog 10 #[.string s, v] w fun e w' => e = .returned (.bool true) ∧ Below w.heap.size w w' := by
  have h0 := St.start hE hB
  have hz := cutS_size s
  have HC : Box (s.size ≤ maxLen ∧ cutS s = cutS s) := ⟨⟨hs, rfl⟩⟩
  have HZ : Box ((cutS s).size ≤ 16777216) := ⟨by omega⟩
  have HL : Box ((xs.take 100).length ≤ 1000) := ⟨by rw [List.length_take]; omega⟩
  obtain ⟨va, vc, rfl⟩ := hv.slice
  have HV := Box.mk hv
  have hul : (⟨(U.textOf (xs.take 100)).toArray⟩ : ByteArray).size ≤ 16777216 := by
    have := textOf_le (xs.take 100)
    rw [List.length_take] at this
    rw [str_size]; omega
  cases hx : U.scalars (cutS s).data.toList with
  | none =>
    have HVA : Box (U.valid (cutS s).data.toList = false) := ⟨by unfold U.valid; rw [hx]; rfl⟩
    cases hr : (xs.take 100).all U.right with
    | true => exact (whole_none_ok A B s _ _ va vc xs _ [] w HC HZ ⟨hul⟩ ⟨rfl⟩ HL ⟨by simp⟩ HV ⟨hx⟩ HVA ⟨textV_nil⟩ ⟨textV_yes _ hr⟩ ⟨scalars_text hr⟩ ⟨by unfold U.valid; rw [scalars_text hr]; rfl⟩ h0).mono fun e w' ⟨he, h⟩ => ⟨he, h.b⟩
    | false => exact (whole_none_no A B s _ ⟨#[]⟩ va vc xs _ [] w HC HZ ⟨by decide⟩ ⟨rfl⟩ HL ⟨by simp⟩ HV ⟨hx⟩ HVA ⟨textV_nil⟩ ⟨textV_no' hr⟩ ⟨scalars_empty⟩ ⟨by decide⟩ h0).mono fun e w' ⟨he, h⟩ => ⟨he, h.b⟩
  | some ys =>
    have HVA : Box (U.valid (cutS s).data.toList = true) := ⟨by unfold U.valid; rw [hx]; rfl⟩
    have HYL : Box (ys.length ≤ 1000) := ⟨by have := scalars_len _ _ _ (Nat.le_refl _) hx; rw [← size_eq] at this; omega⟩
    cases hr : (xs.take 100).all U.right with
    | true => exact (whole_some_ok A B s _ _ va vc xs _ ys w HC HZ ⟨hul⟩ ⟨rfl⟩ HL HYL HV ⟨hx⟩ HVA ⟨textV_str hx⟩ ⟨textV_yes _ hr⟩ ⟨scalars_text hr⟩ ⟨by unfold U.valid; rw [scalars_text hr]; rfl⟩ h0).mono fun e w' ⟨he, h⟩ => ⟨he, h.b⟩
    | false => exact (whole_some_no A B s _ ⟨#[]⟩ va vc xs _ ys w HC HZ ⟨by decide⟩ ⟨rfl⟩ HL HYL HV ⟨hx⟩ HVA ⟨textV_str hx⟩ ⟨textV_no' hr⟩ ⟨scalars_empty⟩ ⟨by decide⟩ h0).mono fun e w' ⟨he, h⟩ => ⟨he, h.b⟩
end Go.Proofs.YtpmdmphdldnjiaaDoor
