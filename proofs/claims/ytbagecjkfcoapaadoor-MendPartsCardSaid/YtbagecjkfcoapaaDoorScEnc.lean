/-
  THE WALKS OF package scalar: Right, a scalar's bytes, the scalar that a text begins with.
-/
import Derived.Test.YtbagecjkfcoapaaDoorScNext
namespace Go.Proofs.YtbagecjkfcoapaaDoor
open Go.RowKit

theorem or_u8_128 : ∀ x : Fin 64, bits .or .u8 128 (x.val : Int) = 128 + (x.val : Int) := by decide +kernel
theorem or_u8_192 : ∀ x : Fin 32, bits .or .u8 192 (x.val : Int) = 192 + (x.val : Int) := by decide +kernel
theorem or_u8_224 : ∀ x : Fin 16, bits .or .u8 224 (x.val : Int) = 224 + (x.val : Int) := by decide +kernel
theorem or_u8_240 : ∀ x : Fin 8, bits .or .u8 240 (x.val : Int) = 240 + (x.val : Int) := by decide +kernel
theorem or128 (x : Int) (h0 : 0 ≤ x) (h1 : x < 64) : bits .or .u8 128 x = 128 + x := by
  have := or_u8_128 ⟨x.toNat, by omega⟩; simpa [Int.toNat_of_nonneg h0] using this
theorem or192 (x : Int) (h0 : 0 ≤ x) (h1 : x < 32) : bits .or .u8 192 x = 192 + x := by
  have := or_u8_192 ⟨x.toNat, by omega⟩; simpa [Int.toNat_of_nonneg h0] using this
theorem or224 (x : Int) (h0 : 0 ≤ x) (h1 : x < 16) : bits .or .u8 224 x = 224 + x := by
  have := or_u8_224 ⟨x.toNat, by omega⟩; simpa [Int.toNat_of_nonneg h0] using this
theorem or240 (x : Int) (h0 : 0 ≤ x) (h1 : x < 8) : bits .or .u8 240 x = 240 + x := by
  have := or_u8_240 ⟨x.toNat, by omega⟩; simpa [Int.toNat_of_nonneg h0] using this
theorem and_63' (x : Int) (h0 : 0 ≤ x) (h1 : x < 9223372036854775808) : bits .and .i64 x 63 % 256 = x % 64 := by rw [and_63 x h0 h1]; omega

set_option maxHeartbeats 400000 in
theorem right_any (r : Int) (w : World) :
    Calls Tryd.prog 43 #[.int .i64 r] w fun e w' => e = .returned (.bool (U.right r)) ∧ w = w' := by
  go_enter Tryd.func43, Tryd.ntmps43
  go_wp2
  all_goals go_ret
  all_goals exact ⟨ret_bool (by first | (simp [U.right, *]; done) | (simp [U.right]; omega)), rfl⟩

set_option maxHeartbeats 2000000 in
theorem parts_2 (r : Int) (g : Nat) (w : World) (h0 : 0 ≤ r) (h1 : r < 2048) (hg : Blk w g 5 #[.int .u8 192, .int .u8 128]) :
    Calls Tryd.prog 44 #[.int .i64 r, .slice (some ⟨g, 0, none⟩) 2 2] w fun e w' => e = .returned (.string (strOfNums [192 + r / 64, 128 + r % 64])) ∧ Below w.heap.size w w' := by
  have hmk : ∀ w, (Instr.makeSlice 63 (.int .i64 2) (.int .i64 2)).run Tryd.prog w = .ok (.slice (some ⟨w.heap.size, 0, none⟩) 2 2) (w.alloc (.cells #[.int .u8 0, .int .u8 0] 5)) := fun _ => by kernel_rfl
  have c0 : w.cell? ⟨g, 0, none⟩ = some (.int .u8 192) := (hg.cell 0).trans rfl
  have c1 : w.cell? ⟨g, 1, none⟩ = some (.int .u8 128) := (hg.cell 1).trans rfl
  have hlt := hg.lt
  have cc := fun (w : World) (a b : Int) => conv_bytes (P := Tryd.prog) (src := 63) (dst := 9) Tryd.underlying63 Tryd.underlying5 Tryd.underlying9 [a, b] w 2 2 rfl 5
  simp only [List.map_cons, List.map_nil] at cc
  have E0 := Box.mk (show bits .or .u8 192 (bits .and .i64 (r / 64) 63 % 256) = 192 + r / 64 by rw [and_63' _ (by omega) (by omega), or192 _ (by omega) (by omega)]; try omega)
  have E1 := Box.mk (show bits .or .u8 128 (bits .and .i64 (r) 63 % 256) = 128 + r % 64 by rw [and_63' _ (by omega) (by omega), or128 _ (by omega) (by omega)]; try omega)
  clear hg
  go_enter Tryd.func44, Tryd.ntmps44
  go_wp2_with fail
  go_rounds 3
  go_ret
  exact ⟨ret1 (by rw [← E0.out, ← E1.out]; rfl), (Below.refl _ _).alloc (Nat.le_refl _) _⟩

set_option maxHeartbeats 2000000 in
theorem parts_3 (r : Int) (g : Nat) (w : World) (h0 : 0 ≤ r) (h1 : r < 65536) (hg : Blk w g 5 #[.int .u8 224, .int .u8 128, .int .u8 128]) :
    Calls Tryd.prog 44 #[.int .i64 r, .slice (some ⟨g, 0, none⟩) 3 3] w fun e w' => e = .returned (.string (strOfNums [224 + r / 4096, 128 + r / 64 % 64, 128 + r % 64])) ∧ Below w.heap.size w w' := by
  have hmk : ∀ w, (Instr.makeSlice 63 (.int .i64 3) (.int .i64 3)).run Tryd.prog w = .ok (.slice (some ⟨w.heap.size, 0, none⟩) 3 3) (w.alloc (.cells #[.int .u8 0, .int .u8 0, .int .u8 0] 5)) := fun _ => by kernel_rfl
  have c0 : w.cell? ⟨g, 0, none⟩ = some (.int .u8 224) := (hg.cell 0).trans rfl
  have c1 : w.cell? ⟨g, 1, none⟩ = some (.int .u8 128) := (hg.cell 1).trans rfl
  have c2 : w.cell? ⟨g, 2, none⟩ = some (.int .u8 128) := (hg.cell 2).trans rfl
  have hlt := hg.lt
  have cc := fun (w : World) (a b c : Int) => conv_bytes (P := Tryd.prog) (src := 63) (dst := 9) Tryd.underlying63 Tryd.underlying5 Tryd.underlying9 [a, b, c] w 3 3 rfl 5
  simp only [List.map_cons, List.map_nil] at cc
  have E0 := Box.mk (show bits .or .u8 224 (bits .and .i64 (r / 64 / 64) 63 % 256) = 224 + r / 4096 by rw [and_63' _ (by omega) (by omega), or224 _ (by omega) (by omega)]; try omega)
  have E1 := Box.mk (show bits .or .u8 128 (bits .and .i64 (r / 64) 63 % 256) = 128 + r / 64 % 64 by rw [and_63' _ (by omega) (by omega), or128 _ (by omega) (by omega)]; try omega)
  have E2 := Box.mk (show bits .or .u8 128 (bits .and .i64 (r) 63 % 256) = 128 + r % 64 by rw [and_63' _ (by omega) (by omega), or128 _ (by omega) (by omega)]; try omega)
  clear hg
  go_enter Tryd.func44, Tryd.ntmps44
  go_wp2_with fail
  go_rounds 4
  go_ret
  exact ⟨ret1 (by rw [← E0.out, ← E1.out, ← E2.out]; rfl), (Below.refl _ _).alloc (Nat.le_refl _) _⟩

set_option maxHeartbeats 2000000 in
theorem parts_4 (r : Int) (g : Nat) (w : World) (h0 : 0 ≤ r) (h1 : r < 2097152) (hg : Blk w g 5 #[.int .u8 240, .int .u8 128, .int .u8 128, .int .u8 128]) :
    Calls Tryd.prog 44 #[.int .i64 r, .slice (some ⟨g, 0, none⟩) 4 4] w fun e w' => e = .returned (.string (strOfNums [240 + r / 262144, 128 + r / 4096 % 64, 128 + r / 64 % 64, 128 + r % 64])) ∧ Below w.heap.size w w' := by
  have hmk : ∀ w, (Instr.makeSlice 63 (.int .i64 4) (.int .i64 4)).run Tryd.prog w = .ok (.slice (some ⟨w.heap.size, 0, none⟩) 4 4) (w.alloc (.cells #[.int .u8 0, .int .u8 0, .int .u8 0, .int .u8 0] 5)) := fun _ => by kernel_rfl
  have c0 : w.cell? ⟨g, 0, none⟩ = some (.int .u8 240) := (hg.cell 0).trans rfl
  have c1 : w.cell? ⟨g, 1, none⟩ = some (.int .u8 128) := (hg.cell 1).trans rfl
  have c2 : w.cell? ⟨g, 2, none⟩ = some (.int .u8 128) := (hg.cell 2).trans rfl
  have c3 : w.cell? ⟨g, 3, none⟩ = some (.int .u8 128) := (hg.cell 3).trans rfl
  have hlt := hg.lt
  have cc := fun (w : World) (a b c d : Int) => conv_bytes (P := Tryd.prog) (src := 63) (dst := 9) Tryd.underlying63 Tryd.underlying5 Tryd.underlying9 [a, b, c, d] w 4 4 rfl 5
  simp only [List.map_cons, List.map_nil] at cc
  have E0 := Box.mk (show bits .or .u8 240 (bits .and .i64 (r / 64 / 64 / 64) 63 % 256) = 240 + r / 262144 by rw [and_63' _ (by omega) (by omega), or240 _ (by omega) (by omega)]; try omega)
  have E1 := Box.mk (show bits .or .u8 128 (bits .and .i64 (r / 64 / 64) 63 % 256) = 128 + r / 4096 % 64 by rw [and_63' _ (by omega) (by omega), or128 _ (by omega) (by omega)]; try omega)
  have E2 := Box.mk (show bits .or .u8 128 (bits .and .i64 (r / 64) 63 % 256) = 128 + r / 64 % 64 by rw [and_63' _ (by omega) (by omega), or128 _ (by omega) (by omega)]; try omega)
  have E3 := Box.mk (show bits .or .u8 128 (bits .and .i64 (r) 63 % 256) = 128 + r % 64 by rw [and_63' _ (by omega) (by omega), or128 _ (by omega) (by omega)]; try omega)
  clear hg
  go_enter Tryd.func44, Tryd.ntmps44
  go_wp2_with fail
  go_rounds 5
  go_ret
  exact ⟨ret1 (by rw [← E0.out, ← E1.out, ← E2.out, ← E3.out]; rfl), (Below.refl _ _).alloc (Nat.le_refl _) _⟩

set_option maxHeartbeats 2000000 in
theorem enc_any (A : Nat → Addr) (B : Nat) (r : Int) (w : World) (hE : E A B w) :
    Calls Tryd.prog 34 #[.int .i64 r] w fun e w' => e = .returned (encV r) ∧ Below w.heap.size w w' := by
  by_cases hr : U.right r = true
  case neg =>
    have hr' : U.right r = false := by simpa using hr
    have hc := right_any r
    rw [hr'] at hc
    have HC := Box.mk hc
    have HD := Box.mk (encV_no hr')
    have HT := Box.mk (told_scalar A B w hE)
    have e0 := hE.cell 1 (by decide)
    clear hc hr hr' hE
    go_enter Tryd.func34, Tryd.ntmps34
    go_wp2_with (first
      | (go_at_call 43; refine (HC.out _).mono ?_; rintro e w' ⟨rfl, rfl⟩)
      | (go_at_call 38; refine (HT.out).mono ?_; rintro e w' ⟨rfl, rfl⟩))
    go_ret2
    exact ⟨by rw [HD.out]; rfl, Below.refl _ _⟩
  have hb := (U.right_iff r).1 hr
  obtain ⟨g0, g1, _⟩ := hb
  have hc := right_any r
  rw [hr] at hc
  have HC := Box.mk hc
  have HE := Box.mk (fun (l : List Int) => encV_yes (l := l) hr)
  clear hc hr hE
  by_cases k1 : r < 128
  · have c1 := fun (w : World) (a : Int) => conv_bytes (P := Tryd.prog) (src := 63) (dst := 9) Tryd.underlying63 Tryd.underlying5 Tryd.underlying9 [a] w 1 1 rfl 5
    simp only [List.map_cons, List.map_nil] at c1
    go_enter Tryd.func34, Tryd.ntmps34
    go_wp2_with (first | (go_at_call 43; refine (HC.out _).mono ?_; rintro e w' ⟨rfl, rfl⟩))
    go_ret2
    exact ⟨ret1 (HE.out [r] (by unfold U.enc; rw [if_pos (by omega)]; rfl)), (Below.refl _ _).alloc (Nat.le_refl _) _⟩
  by_cases k2 : r < 2048
  ·
    have HP := Box.mk (fun W => parts_2 r w.heap.size W (by omega) (by omega))
    have HV := Box.mk (HE.out [192 + r / 64, 128 + r % 64] (by unfold U.enc; rw [if_neg (by omega), if_pos (by omega)]; rfl))
    go_enter Tryd.func34, Tryd.ntmps34
    go_wp2_with (first
      | (go_at_call 43; refine (HC.out _).mono ?_; rintro e w' ⟨rfl, rfl⟩)
      | (go_at_call 44; refine (HP.out _ (Blk.new w _ _)).mono ?_; rintro e w' ⟨rfl, hb⟩))
    go_ret2
    exact ⟨ret1 HV.out, ((Below.refl _ _).alloc (Nat.le_refl _) _).trans (hb.mono (by simp))⟩
  by_cases k3 : r < 65536
  ·
    have HP := Box.mk (fun W => parts_3 r w.heap.size W (by omega) (by omega))
    have HV := Box.mk (HE.out [224 + r / 4096, 128 + r / 64 % 64, 128 + r % 64] (by unfold U.enc; rw [if_neg (by omega), if_neg (by omega), if_pos (by omega)]; rfl))
    go_enter Tryd.func34, Tryd.ntmps34
    go_wp2_with (first
      | (go_at_call 43; refine (HC.out _).mono ?_; rintro e w' ⟨rfl, rfl⟩)
      | (go_at_call 44; refine (HP.out _ (Blk.new w _ _)).mono ?_; rintro e w' ⟨rfl, hb⟩))
    go_ret2
    exact ⟨ret1 HV.out, ((Below.refl _ _).alloc (Nat.le_refl _) _).trans (hb.mono (by simp))⟩
  ·
    have HP := Box.mk (fun W => parts_4 r w.heap.size W (by omega) (by omega))
    have HV := Box.mk (HE.out [240 + r / 262144, 128 + r / 4096 % 64, 128 + r / 64 % 64, 128 + r % 64] (by unfold U.enc; rw [if_neg (by omega), if_neg (by omega), if_neg (by omega)]; rfl))
    go_enter Tryd.func34, Tryd.ntmps34
    go_wp2_with (first
      | (go_at_call 43; refine (HC.out _).mono ?_; rintro e w' ⟨rfl, rfl⟩)
      | (go_at_call 44; refine (HP.out _ (Blk.new w _ _)).mono ?_; rintro e w' ⟨rfl, hb⟩))
    go_ret2
    exact ⟨ret1 HV.out, ((Below.refl _ _).alloc (Nat.le_refl _) _).trans (hb.mono (by simp))⟩

set_option maxHeartbeats 1000000 in
/-- the scalar that a text begins with -/
theorem dec_any (A : Nat → Addr) (B : Nat) (s : ByteArray) (w : World) (hs : s.size ≤ maxLen) (hE : E A B w) (hB : B ≤ w.heap.size) :
    Calls Tryd.prog 40 #[.string s] w fun e w' => e = .returned (decV s.data.toList) ∧ Below w.heap.size w w' := by
  have HN := Box.mk (next_any A B w.heap.size .nilIface s (w.alloc (.cells #[.string s, .nilIface] 75)) hs (hE.below ((Below.refl B w).alloc hB _)) hB (Blk.new w _ _))
  clear hE
  go_enter Tryd.func40, Tryd.ntmps40
  go_wp2_with fail
  refine HN.out.mono ?_
  intro e w' hN
  unfold nextPost at hN
  cases hd : U.dec s.data.toList with
  | none =>
    rw [hd] at hN
    obtain ⟨rfl, hk, hg⟩ := hN
    have HD := Box.mk hd
    clear hd hk
    go_wp2_with fail
    go_ret3
    refine ⟨by unfold decV; rw [HD.out]; rfl, ?_⟩
    exact ((Below.refl _ _).alloc (Nat.le_refl _) _).trans (only_below hg (Nat.le_refl _) (by simp))
  | some p =>
    obtain ⟨r, n⟩ := p
    rw [hd] at hN
    obtain ⟨rfl, hk, hg⟩ := hN
    have hn := (U.dec_some hd).2.2.1
    have HD := Box.mk hd
    clear hd hk
    go_wp2_with fail
    go_ret3
    refine ⟨by unfold decV; rw [HD.out]; exact ret3 rfl rfl (vbool (by simp; omega)), ?_⟩
    exact ((Below.refl _ _).alloc (Nat.le_refl _) _).trans (only_below hg (Nat.le_refl _) (by simp))
end Go.Proofs.YtbagecjkfcoapaaDoor
