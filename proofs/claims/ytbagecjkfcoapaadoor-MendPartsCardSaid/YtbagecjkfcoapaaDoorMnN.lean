/-
  THE LAW MendParts, WALKED.
-/
import Derived.Test.YtbagecjkfcoapaaDoorMnL
import Derived.Deep.RegionWith
import Derived.IntWalk
namespace Go.Proofs.YtbagecjkfcoapaaDoor
open Go.RowKit

theorem slice_from {P : Program} {T : TypeId} (hT : P.underlying T = some .string) (s : ByteArray) (lo : Int) (h : 0 ≤ lo ∧ lo ≤ s.size) :
    ∀ W, (Instr.slice T (.string s) (some (.int .i64 lo)) none none).run P W = .ok (.string (s.extract lo.toNat s.size)) W := by
  intro W
  rw [run_slice_string_from_if W _ _ _ _ hT, if_pos (by omega)]

theorem from_extract (s : ByteArray) (a : Nat) : (s.extract a s.size).data.toList = s.data.toList.drop a := by
  rw [Lib.extract_data, List.take_of_length_le (by rw [List.length_drop, ← size_eq]; omega)]

section
variable (A : Nat → Addr) (B : Nat) (s c : ByteArray) (m : Nat) (w : World) (hc : Box (s.size ≤ maxLen ∧ cutS s = c)) (zc : Box (c.size ≤ 100000)) (hm : Box ((M.places c.data.toList).length + 1 = m + 1))
include hc zc hm
set_option maxHeartbeats 1000000 in
theorem parts_low (n : Int) (hn : n < 0) (h0 : St A B w w) :
    Calls Tryd.prog 5 #[.string s, .int .i64 n] w fun e w' => e = .returned (.bool true) ∧ St A B w w' := by
  go_enter Tryd.func5, Tryd.ntmps5
  go_wp2_with fail
  refine (shown_st A B w _ h0).mono ?_; rintro e w1 ⟨rfl, h1⟩
  go_wp2_with fail
  refine (cut_b s _ _ hc).mono ?_; rintro e w2 ⟨rfl, rfl⟩
  go_wp2_with fail
  refine (units_c _ _ _ ⟨rfl⟩ hm zc h1).mono ?_; rintro e w3 ⟨⟨g, off, cap, rfl, HC⟩, -, h3⟩
  go_wp2_with fail
  go_ret
  exact ⟨rfl, h3⟩
set_option maxHeartbeats 1000000 in
theorem parts_high (hmz : m ≤ 300) (n : Int) (hn : (m : Int) + 1 ≤ n) (h0 : St A B w w) :
    Calls Tryd.prog 5 #[.string s, .int .i64 n] w fun e w' => e = .returned (.bool true) ∧ St A B w w' := by
  go_enter Tryd.func5, Tryd.ntmps5
  go_wp2_with fail
  refine (shown_st A B w _ h0).mono ?_; rintro e w1 ⟨rfl, h1⟩
  go_wp2_with fail
  refine (cut_b s _ _ hc).mono ?_; rintro e w2 ⟨rfl, rfl⟩
  go_wp2_with fail
  refine (units_c _ _ _ ⟨rfl⟩ hm zc h1).mono ?_; rintro e w3 ⟨⟨g, off, cap, rfl, HC⟩, -, h3⟩
  go_wp2_with fail
  go_ret
  exact ⟨rfl, h3⟩
end

set_option maxHeartbeats 4000000 in
theorem parts_mid (A : Nat → Addr) (B : Nat) (s c c1 f f1 : ByteArray) (m d k p b b1 : Nat) (hdk : d + k = m) (w : World) (hc : Box (s.size ≤ maxLen ∧ cutS s = c)) (zc : Box (c.size ≤ 100000)) (zc1 : Box (c1.size ≤ 100000)) (_zz : c.size ≤ 300) (hm : Box ((M.places c.data.toList).length + 1 = m + 1)) (hmz : m ≤ 300) (_hk : k ≤ m) (hp : p ≤ c.size)
    (hcut : Box ((M.cuts (M.places c.data.toList))[k]? = some p)) (hc1 : c.extract p c.size = c1) (hf : Box ((⟨(M.fix c.data.toList).toArray⟩ : ByteArray) = f)) (hf1 : Box ((⟨(M.fix c1.data.toList).toArray⟩ : ByteArray) = f1)) (zf : f1.size ≤ f.size) (zf' : f.size ≤ 1200) (hff : f.extract (f.size - f1.size) f.size = f1)
    (hb : Box (M.badN c.data.toList = b)) (hb1 : Box (M.badN c1.data.toList = b1)) (hbb : b1 ≤ b) (hm1 : Box ((M.places c1.data.toList).length + 1 = d + 1)) (h0 : St A B w w) :
    Calls Tryd.prog 5 #[.string s, .int .i64 k] w fun e w' => e = .returned (.bool true) ∧ St A B w w' := by
  have hs1 := slice_from (P := Tryd.prog) (T := 9) Tryd.underlying9 c p ⟨by omega, by omega⟩
  have hs2 := slice_from (P := Tryd.prog) (T := 9) Tryd.underlying9 f ((f.size : Int) - (f1.size : Int)) ⟨by omega, by omega⟩
  rw [Int.toNat_natCast, hc1] at hs1
  rw [show ((f.size : Int) - (f1.size : Int)).toNat = f.size - f1.size by omega, hff] at hs2
  have HS1 := Box.mk hs1
  have HS2 := Box.mk hs2
  clear hs1 hs2 hc1 hff
  have hdz : d ≤ 300 := by omega
  go_enter Tryd.func5, Tryd.ntmps5
  go_wp2_with fail
  refine (shown_st A B w _ h0).mono ?_; rintro e w1 ⟨rfl, h1⟩
  go_wp2_with fail
  refine (cut_b s _ _ hc).mono ?_; rintro e w2 ⟨rfl, rfl⟩
  go_wp2_with fail
  refine (units_c _ _ _ ⟨rfl⟩ hm zc h1).mono ?_; rintro e w3 ⟨⟨g, off, cap, rfl, HC⟩, -, h3⟩
  have hcap1 : m + 1 ≤ cap := by have := HC.out.2.1; have := hm.out; omega
  have hcap2 : cap ≤ 9223372036854775807 := by have := HC.out.2.2.1; unfold maxLen at this; omega
  have k0 : w3.cell? ⟨g, off + k, none⟩ = some (.int .i64 (p : Int)) := HC.out.2.2.2 k p hcut.out
  have HS3 := Box.mk h3
  have HRa := Box.mk (fun W (h : St A B w W) => rep_c (A := A) (B := B) (W0 := w) (w := W) c1 f1 hf1 zc1 h)
  have HRb := Box.mk (fun W (h : St A B w W) => rep_c (A := A) (B := B) (W0 := w) (w := W) c f hf zc h)
  have HBa := Box.mk (fun W (h : St A B w W) => bad_c (A := A) (B := B) (W0 := w) (w := W) c1 b1 hb1 zc1 h)
  have HBb := Box.mk (fun W (h : St A B w W) => bad_c (A := A) (B := B) (W0 := w) (w := W) c b hb zc h)
  have HUa := Box.mk (fun W (h : St A B w W) => units_c (A := A) (B := B) (W0 := w) (w := W) c1 _ (d + 1) ⟨rfl⟩ hm1 zc1 h)
  clear h0 h1 h3 HC
  go_wp2_with fail
  have hs1 := HS1.out
  have hs2 := HS2.out
  clear k0
  have hgl : decide (b1 ≤ b) = true := by simp; exact hbb
  have hw1 : IntKind.i64.wrap ((f.size : Int) - (f1.size : Int)) = (f.size : Int) - (f1.size : Int) := IntWalk.i64_in _ (by omega)
  have hw2 : IntKind.i64.wrap ((m : Int) + 1 - (k : Int)) = (m : Int) + 1 - (k : Int) := IntWalk.i64_in _ (by omega)
  have hmk : ((d : Int) + 1 == (m : Int) + 1 - (k : Int)) = true := by rw [beq_iff_eq]; omega
  have hmk2 : (d : Int) + 1 = (m : Int) + 1 - (k : Int) ↔ True := by simp; omega
  refine wp_region_any (by kernel_rfl) ?_
  try (change wpAny _ _ _ _ _ _ _ (World.drew _))
  refine wpAny_take (i := 0) (v := ?_) rfl (by kernel_rfl) (by kernel_rfl) (by kernel_rfl) (fun _ _ _ h => h) (Or.inl ⟨by kernel_rfl, ?_⟩) ?_
  rotate_left
  · first | (intro w; go_simp; done) | (intro w; go_simp; with_reducible rfl)
  refine wpAny_take (i := 1) (v := ?_) rfl (by kernel_rfl) (by kernel_rfl) (by kernel_rfl) (fun _ _ _ h => h) (Or.inl ⟨by kernel_rfl, ?_⟩) ?_
  rotate_left
  · first | (intro w; go_simp; done) | (intro w; go_simp; with_reducible rfl)
  refine wpAny_take (i := 2) (v := ?_) rfl (by kernel_rfl) (by kernel_rfl) (by kernel_rfl) (fun _ _ _ h => h) (Or.inl ⟨by kernel_rfl, ?_⟩) ?_
  rotate_left
  · first | (intro w; go_simp; done) | (intro w; go_simp; with_reducible rfl)
  refine wpAny_take (i := 3) (v := ?_) rfl (by kernel_rfl) (by kernel_rfl) (by kernel_rfl) (fun _ _ _ h => h) (Or.inl ⟨by kernel_rfl, ?_⟩) ?_
  rotate_left
  · first | (intro w; go_simp; done) | (intro w; go_simp; with_reducible rfl)
  refine wpAny_take (i := 4) (v := ?_) rfl (by kernel_rfl) (by kernel_rfl) (by kernel_rfl) (fun _ _ _ h => h) (Or.inl ⟨by kernel_rfl, ?_⟩) ?_
  rotate_left
  · first | (intro w; go_simp; done) | (intro w; go_simp; with_reducible rfl)
  refine wpAny_take (i := 6) (v := ?_) rfl (by kernel_rfl) (by kernel_rfl) (by kernel_rfl) (fun _ _ _ h => h) (Or.inl ⟨by kernel_rfl, ?_⟩) ?_
  rotate_left
  · first | (intro w; go_simp; done) | (intro w; go_simp; with_reducible rfl)
  refine wpAny_take (i := 8) (v := ?_) rfl (by kernel_rfl) (by kernel_rfl) (by kernel_rfl) (fun _ _ _ h => h) (Or.inl ⟨by kernel_rfl, ?_⟩) ?_
  rotate_left
  · first | (intro w; go_simp; done) | (intro w; go_simp; with_reducible rfl)
  refine wpAny_take (i := 11) (v := ?_) rfl (by kernel_rfl) (by kernel_rfl) (by kernel_rfl) (fun _ _ _ h => h) (Or.inl ⟨by kernel_rfl, ?_⟩) ?_
  rotate_left
  · first | (intro w; go_simp; done) | (intro w; go_simp; with_reducible rfl)
  refine wpAny_take (i := 12) (v := ?_) rfl (by kernel_rfl) (by kernel_rfl) (by kernel_rfl) (fun _ _ _ h => h) (Or.inl ⟨by kernel_rfl, ?_⟩) ?_
  rotate_left
  · first | (intro w; go_simp; done) | (intro w; go_simp; with_reducible rfl)
  refine wpAny_take (i := 13) (v := ?_) rfl (by kernel_rfl) (by kernel_rfl) (by kernel_rfl) (fun _ _ _ h => h) (Or.inl ⟨by kernel_rfl, ?_⟩) ?_
  rotate_left
  · first | (intro w; go_simp; done) | (intro w; go_simp; with_reducible rfl)
  refine wpAny_ready (rs := [5]) (by kernel_rfl) (by simp) ?_
  refine AllReady.cons rfl (fun K hK => ?_) AllReady.nil
  go_simp
  go_wp2_with (go_at_call 21; refine (HRa.out _ (HS3.out.step (drew_below' _ 1))).mono ?_; rintro e w5 ⟨rfl, -, h5⟩)
  first | (refine hK _ _ ?_; clear hK K) | skip
  refine wpAny_ready (rs := [7]) (by kernel_rfl) (by simp) ?_
  refine AllReady.cons rfl (fun K hK => ?_) AllReady.nil
  go_simp
  go_wp2_with (go_at_call 21; refine (HRb.out _ h5).mono ?_; rintro e w6 ⟨rfl, -, h6⟩)
  first | (refine hK _ _ ?_; clear hK K) | skip
  refine wpAny_ready (rs := [9]) (by kernel_rfl) (by simp) ?_
  refine AllReady.cons rfl (fun K hK => ?_) AllReady.nil
  go_simp
  go_wp2_with (go_at_call 21; refine (HRb.out _ h6).mono ?_; rintro e w7 ⟨rfl, -, h7⟩)
  first | (refine hK _ _ ?_; clear hK K) | skip
  refine wpAny_take (i := 10) (v := ?_) rfl (by kernel_rfl) (by kernel_rfl) (by kernel_rfl) (fun _ _ _ h => h) (Or.inl ⟨by kernel_rfl, ?_⟩) ?_
  rotate_left
  · first | (intro w; go_simp; done) | (intro w; go_simp; with_reducible rfl)
  refine wpAny_ready (rs := [14]) (by kernel_rfl) (by simp) ?_
  refine AllReady.cons rfl (fun K hK => ?_) AllReady.nil
  go_simp
  go_wp2_with (go_at_call 21; refine (HRa.out _ h7).mono ?_; rintro e w8 ⟨rfl, -, h8⟩)
  first | (refine hK _ _ ?_; clear hK K) | skip
  refine wpAny_take (i := 15) (v := ?_) rfl (by kernel_rfl) (by kernel_rfl) (by kernel_rfl) (fun _ _ _ h => h) (Or.inl ⟨by kernel_rfl, ?_⟩) ?_
  rotate_left
  · first | (intro w; go_simp; done) | (intro w; go_simp; with_reducible rfl)
  refine wpAny_take (i := 16) (v := ?_) rfl (by kernel_rfl) (by kernel_rfl) (by kernel_rfl) (fun _ _ _ h => h) (Or.inl ⟨by kernel_rfl, ?_⟩) ?_
  rotate_left
  · first | (intro w; go_simp; done) | (intro w; go_simp; with_reducible rfl)
  refine wpAny_take (i := 17) (v := ?_) rfl (by kernel_rfl) (by kernel_rfl) (by kernel_rfl) (fun _ _ _ h => h) (Or.inl ⟨by kernel_rfl, ?_⟩) ?_
  rotate_left
  · first | (intro w; go_simp; done) | (intro w; go_simp; with_reducible rfl)
  refine wpAny_take (i := 18) (v := ?_) rfl (by kernel_rfl) (by kernel_rfl) (by kernel_rfl) (fun _ _ _ h => h) (Or.inl ⟨by kernel_rfl, ?_⟩) ?_
  rotate_left
  · first | (intro w; go_simp; done) | (intro w; go_simp; with_reducible rfl)
  refine wpAny_take (i := 19) (v := ?_) rfl (by kernel_rfl) (by kernel_rfl) (by kernel_rfl) (fun _ _ _ h => h) (Or.inl ⟨by kernel_rfl, ?_⟩) ?_
  rotate_left
  · first | (intro w; go_simp; done) | (intro w; go_simp; with_reducible rfl)
  refine wpAny_take (i := 20) (v := ?_) rfl (by kernel_rfl) (by kernel_rfl) (by kernel_rfl) (fun _ _ _ h => h) (Or.inl ⟨by kernel_rfl, ?_⟩) ?_
  rotate_left
  · first | (intro w; go_simp; done) | (intro w; go_simp; with_reducible rfl)
  refine wpAny_take (i := 21) (v := ?_) rfl (by kernel_rfl) (by kernel_rfl) (by kernel_rfl) (fun _ _ _ h => h) (Or.inl ⟨by kernel_rfl, ?_⟩) ?_
  rotate_left
  · first | (intro w; go_simp; done) | (intro w; go_simp; with_reducible rfl)
  refine wpAny_take (i := 22) (v := ?_) rfl (by kernel_rfl) (by kernel_rfl) (by kernel_rfl) (fun _ _ _ h => h) (Or.inl ⟨by kernel_rfl, ?_⟩) ?_
  rotate_left
  · first | (intro w; go_simp; done) | (intro w; go_simp; with_reducible rfl)
  refine wpAny_take (i := 23) (v := ?_) rfl (by kernel_rfl) (by kernel_rfl) (by kernel_rfl) (fun _ _ _ h => h) (Or.inl ⟨by kernel_rfl, ?_⟩) ?_
  rotate_left
  · first | (intro w; go_simp; done) | (intro w; go_simp; with_reducible rfl)
  refine wpAny_take (i := 25) (v := ?_) rfl (by kernel_rfl) (by kernel_rfl) (by kernel_rfl) (fun _ _ _ h => h) (Or.inl ⟨by kernel_rfl, ?_⟩) ?_
  rotate_left
  · first | (intro w; go_simp; done) | (intro w; go_simp; with_reducible rfl)
  refine wpAny_ready (rs := [24]) (by kernel_rfl) (by simp) ?_
  refine AllReady.cons rfl (fun K hK => ?_) AllReady.nil
  go_simp
  go_wp2_with (go_at_call 23; refine (HBa.out _ h8).mono ?_; rintro e w9 ⟨rfl, -, h9⟩)
  first | (refine hK _ _ ?_; clear hK K) | skip
  refine wpAny_ready (rs := [26]) (by kernel_rfl) (by simp) ?_
  refine AllReady.cons rfl (fun K hK => ?_) AllReady.nil
  go_simp
  go_wp2_with (go_at_call 23; refine (HBb.out _ h9).mono ?_; rintro e w10 ⟨rfl, -, h10⟩)
  first | (refine hK _ _ ?_; clear hK K) | skip
  refine wpAny_take (i := 27) (v := ?_) rfl (by kernel_rfl) (by kernel_rfl) (by kernel_rfl) (fun _ _ _ h => h) (Or.inl ⟨by kernel_rfl, ?_⟩) ?_
  rotate_left
  · first | (intro w; go_simp; done) | (intro w; go_simp; with_reducible rfl)
  refine wpAny_take (i := 28) (v := ?_) rfl (by kernel_rfl) (by kernel_rfl) (by kernel_rfl) (fun _ _ _ h => h) (Or.inl ⟨by kernel_rfl, ?_⟩) ?_
  rotate_left
  · first | (intro w; go_simp; done) | (intro w; go_simp; with_reducible rfl)
  refine wpAny_take (i := 29) (v := ?_) rfl (by kernel_rfl) (by kernel_rfl) (by kernel_rfl) (fun _ _ _ h => h) (Or.inl ⟨by kernel_rfl, ?_⟩) ?_
  rotate_left
  · first | (intro w; go_simp; done) | (intro w; go_simp; with_reducible rfl)
  refine wpAny_take (i := 30) (v := ?_) rfl (by kernel_rfl) (by kernel_rfl) (by kernel_rfl) (fun _ _ _ h => h) (Or.inl ⟨by kernel_rfl, ?_⟩) ?_
  rotate_left
  · first | (intro w; go_simp; done) | (intro w; go_simp; with_reducible rfl)
  refine wpAny_take (i := 31) (v := ?_) rfl (by kernel_rfl) (by kernel_rfl) (by kernel_rfl) (fun _ _ _ h => h) (Or.inl ⟨by kernel_rfl, ?_⟩) ?_
  rotate_left
  · first | (intro w; go_simp; done) | (intro w; go_simp; with_reducible rfl)
  refine wpAny_take (i := 32) (v := ?_) rfl (by kernel_rfl) (by kernel_rfl) (by kernel_rfl) (fun _ _ _ h => h) (Or.inl ⟨by kernel_rfl, ?_⟩) ?_
  rotate_left
  · first | (intro w; go_simp; done) | (intro w; go_simp; with_reducible rfl)
  refine wpAny_take (i := 35) (v := ?_) rfl (by kernel_rfl) (by kernel_rfl) (by kernel_rfl) (fun _ _ _ h => h) (Or.inl ⟨by kernel_rfl, ?_⟩) ?_
  rotate_left
  · first | (intro w; go_simp; done) | (intro w; go_simp; with_reducible rfl)
  refine wpAny_take (i := 36) (v := ?_) rfl (by kernel_rfl) (by kernel_rfl) (by kernel_rfl) (fun _ _ _ h => h) (Or.inl ⟨by kernel_rfl, ?_⟩) ?_
  rotate_left
  · first | (intro w; go_simp; done) | (intro w; go_simp; with_reducible rfl)
  refine wpAny_take (i := 37) (v := ?_) rfl (by kernel_rfl) (by kernel_rfl) (by kernel_rfl) (fun _ _ _ h => h) (Or.inl ⟨by kernel_rfl, ?_⟩) ?_
  rotate_left
  · first | (intro w; go_simp; done) | (intro w; go_simp; with_reducible rfl)
  refine wpAny_take (i := 38) (v := ?_) rfl (by kernel_rfl) (by kernel_rfl) (by kernel_rfl) (fun _ _ _ h => h) (Or.inl ⟨by kernel_rfl, ?_⟩) ?_
  rotate_left
  · first | (intro w; go_simp; done) | (intro w; go_simp; with_reducible rfl)
  refine wpAny_ready (rs := [33]) (by kernel_rfl) (by simp) ?_
  refine AllReady.cons rfl (fun K hK => ?_) AllReady.nil
  go_simp
  go_wp2_with (go_at_call 19; refine (HUa.out _ h10).mono ?_; rintro e w11 ⟨⟨ga, oa, ca, rfl, -⟩, -, h11⟩)
  first | (refine hK _ _ ?_; clear hK K) | skip
  refine wpAny_take (i := 34) (v := ?_) rfl (by kernel_rfl) (by kernel_rfl) (by kernel_rfl) (fun _ _ _ h => h) (Or.inl ⟨by kernel_rfl, ?_⟩) ?_
  rotate_left
  · first | (intro w; go_simp; done) | (intro w; go_simp; with_reducible rfl)
  refine wpAny_take (i := 39) (v := ?_) rfl (by kernel_rfl) (by kernel_rfl) (by kernel_rfl) (fun _ _ _ h => h) (Or.inl ⟨by kernel_rfl, ?_⟩) ?_
  rotate_left
  · first | (intro w; go_simp; done) | (intro w; go_simp; with_reducible rfl)
  refine wpAny_take (i := 40) (v := ?_) rfl (by kernel_rfl) (by kernel_rfl) (by kernel_rfl) (fun _ _ _ h => h) (Or.inl ⟨by kernel_rfl, ?_⟩) ?_
  rotate_left
  · first | (intro w; go_simp; done) | (intro w; go_simp; with_reducible rfl)
  refine wpAny_take (i := 41) (v := ?_) rfl (by kernel_rfl) (by kernel_rfl) (by kernel_rfl) (fun _ _ _ h => h) (Or.inl ⟨by kernel_rfl, ?_⟩) ?_
  rotate_left
  · first | (intro w; go_simp; done) | (intro w; go_simp; with_reducible rfl)
  refine wpAny_done (by kernel_rfl) ?_ _
  go_wp2_with fail
  go_ret
  exact ⟨rfl, h11⟩

theorem law_MendParts (A : Nat → Addr) (B : Nat) (s : ByteArray) (n : Int) (w : World) (hs : s.size ≤ maxLen) (hE : E A B w) (hB : B ≤ w.heap.size) :
    Calls Tryd.prog 5 #[.string s, .int .i64 n] w fun e w' => e = .returned (.bool true) ∧ Below w.heap.size w w' := by
  have hz := cutS_size s
  have hp := places_le (cutS s).data.toList
  have hl := fix_len (cutS s).data.toList
  rw [← size_eq] at hp hl
  have h0 := St.start hE hB
  suffices h : Calls Tryd.prog 5 #[.string s, .int .i64 n] w fun e w' => e = .returned (.bool true) ∧ St A B w w' from h.mono fun e w' ⟨he, h⟩ => ⟨he, h.b⟩
  by_cases hn : n < 0
  · exact parts_low A B s _ _ w ⟨⟨hs, rfl⟩⟩ ⟨by omega⟩ ⟨rfl⟩ n hn h0
  by_cases hm : ((M.places (cutS s).data.toList).length : Int) + 1 ≤ n
  · exact parts_high A B s _ _ w ⟨⟨hs, rfl⟩⟩ ⟨by omega⟩ ⟨rfl⟩ (by omega) n hm h0
  obtain ⟨k, rfl⟩ : ∃ k : Nat, n = k := ⟨n.toNat, by omega⟩
  obtain ⟨p, hc, hpl, ⟨pre, hpre⟩, hbad, hlen⟩ := M.cuts_rest (s := (cutS s).data.toList) (n := k) (by rw [M.cuts_len]; omega)
  rw [← size_eq] at hpl
  have hcl := from_extract (cutS s) p
  have hL := congrArg List.length hpre
  rw [List.length_append] at hL
  have s1 : (⟨(M.fix (cutS s).data.toList).toArray⟩ : ByteArray).size = (M.fix (cutS s).data.toList).length := by rw [size_eq]
  have s2 : (⟨(M.fix ((cutS s).extract p (cutS s).size).data.toList).toArray⟩ : ByteArray).size = (M.fix ((cutS s).data.toList.drop p)).length := by rw [size_eq, hcl]
  have s3 : ((cutS s).extract p (cutS s).size).size ≤ 300 := by rw [size_eq, hcl, List.length_drop, ← size_eq]; omega
  refine parts_mid A B s (cutS s) ((cutS s).extract p (cutS s).size) ⟨(M.fix (cutS s).data.toList).toArray⟩ ⟨(M.fix ((cutS s).extract p (cutS s).size).data.toList).toArray⟩ _ (M.places ((cutS s).data.toList.drop p)).length k p _ _ hlen w ⟨⟨hs, rfl⟩⟩ ⟨by omega⟩ ⟨by omega⟩ hz ⟨rfl⟩ (by omega) (by omega) hpl ⟨hc⟩ rfl ⟨rfl⟩ ⟨rfl⟩
    (by omega) (by omega) ?_ ⟨rfl⟩ ⟨rfl⟩ ?_ ⟨?_⟩ h0
  · rw [← str_eta (ByteArray.extract _ _ _), from_extract, s1, s2]
    rw [show (⟨(M.fix (cutS s).data.toList).toArray⟩ : ByteArray).data.toList = pre ++ M.fix ((cutS s).data.toList.drop p) from hpre, show (M.fix (cutS s).data.toList).length - (M.fix ((cutS s).data.toList.drop p)).length = pre.length by omega, List.drop_left, hcl]
  · rw [hcl]; exact hbad
  · rw [hcl]
end Go.Proofs.YtbagecjkfcoapaaDoor
