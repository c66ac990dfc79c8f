/-
  STATES CLOSED BY THE RUNNER.
-/
import Derived.Test.YtonpgokgbaemfaaDoorNfaD
namespace Go.Proofs.YtonpgokgbaemfaaDoor
open Go.RowKit

theorem pow_cast (k : Nat) : (2 : Int) ^ k = ((2 ^ k : Nat) : Int) := by simp
theorem or_pow (S m : Nat) (hS : S < 1099511627776) (hm : m ≤ 39) : bits .or .i64 (S : Int) (wrap64 (2 ^ m)) = ((S ||| 2 ^ m : Nat) : Int) := by
  have h1 := pow_le m (by omega)
  rw [pow_cast] at h1 ⊢
  generalize 2 ^ m = z at h1 ⊢
  rw [IntWalk.wrap64_in _ (by omega), i64_or_nat _ _ (by omega) (by omega)]
theorem or_small (S m k : Nat) (hS : S < 2 ^ k) (hm : m < k) : S ||| 2 ^ m < 2 ^ k := Nat.or_lt_two_pow hS (Nat.pow_lt_pow_right (by omega) hm)
theorem lt_40 (S k : Nat) (hS : S < 2 ^ k) (hk : k ≤ 40) : S < 1099511627776 := by
  have : 2 ^ k ≤ 2 ^ 40 := Nat.pow_le_pow_right (by omega) hk
  omega

set_option maxHeartbeats 4000000 in
theorem closed_any (r m : Nat) (st : Bool) (v : Value) (l : List N.Item) (w : World) (h : Rn w r m st v l) (sb n : Nat) (hs : w.cell? ⟨sb, 0, none⟩ = some (.int .i64 n)) (hn : n ≤ 2 * l.length) :
    Calls Tryd.prog 28 #[.pointer (some ⟨r, 0, none⟩), .slice (some ⟨sb, 0, none⟩) 1 1] w fun e w' => e = .returned (.int .i64 (N.clo l n)) ∧ Below w.heap.size w w' := by
  have hl := h.len
  have HR := Box.mk h
  obtain ⟨ao, cap, rfl⟩ := h.items.slice
  clear h
  go_enter Tryd.func28, Tryd.ntmps28
  go_wp2_with fail
  refine wp_loop_rounds 2 ?_
  rw [rounds_succ]
  go_wp2_with fail
  clear hs
  go_loopw [5, 7] (fun s i wr => ∃ S k : Nat, s = .int .i64 S ∧ i = .int .i64 k ∧ k ≤ 2 * l.length ∧ Box (S ||| N.clo l k = N.clo l n) ∧ Box (S < 2 ^ (2 * l.length + 1)) ∧ Box (Below w.heap.size w wr)) (fun _ i _ => 2 * l.length + 2 - (intOf i).toNat)
  case atStart => exact ⟨0, n, rfl, rfl, hn, ⟨Nat.zero_or _⟩, ⟨Nat.two_pow_pos _⟩, ⟨Below.refl _ _⟩⟩
  case round =>
    obtain ⟨S, k, rfl, rfl, hk, he, hS, hb⟩ := hrel
    have HRr := Box.mk (HR.out.below hb.out)
    have c1 : wr.cell? ⟨r, 1, none⟩ = some (.slice ao l.length cap) := (HRr.out.blk.cell 1).trans rfl
    have HO := Box.mk (or_pow S k (lt_40 _ _ hS.out (by omega)) (by omega))
    by_cases hodd : k % 2 = 1
    · have HC := Box.mk (N.clo_odd l k hodd)
      go_wp2_with fail
      rw [rounds_succ]
      go_wp2_with fail
      go_ret
      exact ⟨ret_int (by rw [HO.out, ← he.out, HC.out]), hb.out⟩
    have hev : k % 2 = 0 := by omega
    by_cases hend : l.length ≤ k / 2
    · have HC := Box.mk (N.clo_end l k hend)
      clear hodd
      go_wp2_with fail
      rw [rounds_succ]
      go_wp2_with fail
      go_ret
      exact ⟨ret_int (by rw [HO.out, ← he.out, HC.out]), hb.out⟩
    obtain ⟨x, hx⟩ : ∃ x, l[k / 2]? = some x := ⟨_, List.getElem?_eq_getElem (by omega)⟩
    obtain ⟨g, off, cap2, hg1, hg2, hg3, hg4, hg5⟩ := HRr.out.items.get (by rintro rfl; simp at hend)
    obtain ⟨rfl, rfl⟩ : ao = some ⟨g, off, none⟩ ∧ cap = cap2 := by injection hg1 with h1 h2 h3; exact ⟨h1, h3⟩
    obtain ⟨hc1, hc2⟩ := hg5 _ x hx
    have HH := Box.mk (show N.howAt l (k / 2) = x.2 by unfold N.howAt; simp [List.getD, hx])
    unfold maxLen at hg3
    have hlt : k / 2 < l.length := by omega
    have hlr := HRr.out.blk.lt
    have t1 : ((k : Int) % 2 == 1) = false := by rw [beq_eq_false_iff_ne]; omega
    have t2 : decide ((l.length : Int) ≤ (k : Int) / 2) = false := by rw [decide_eq_false_iff_not]; omega
    have HBA := Box.mk (fun o m => below_drewN (hb.out.alloc hb.out.size o) m)
    clear hx hg1 hg5 hodd hend
    obtain ⟨set, how⟩ := x
    by_cases h0 : how = 0
    · have HC := Box.mk (N.clo_once l k (HH.out.trans h0))
      subst h0
      go_wp2_with fail
      go_quiet (fail)
      go_wp2_with fail
      rw [rounds_succ]
      go_wp2_with fail
      go_ret
      exact ⟨ret_int (by rw [HO.out, ← he.out, HC.out]), HBA.out _ _⟩
    · have HC := Box.mk (N.clo_next l k hev hlt (by rw [HH.out]; exact h0))
      have t3 : (how == 0) = false := by rw [beq_eq_false_iff_ne]; exact h0
      have HE := Box.mk (show S ||| 2 ^ k ||| N.clo l (k + 2) = N.clo l n by rw [Nat.or_assoc, ← HC.out]; exact he.out)
      have HS := Box.mk (or_small S k _ hS.out (show k < 2 * l.length + 1 by omega))
      go_wp2_with fail
      go_quiet (fail)
      go_wp2_with fail
      go_roundw
      case rel => exact ⟨S ||| 2 ^ k, k + 2, by rw [HO.out], by go_num, by omega, HE, HS, ⟨HBA.out _ _⟩⟩
      case measure => simp [intOf]; omega
end Go.Proofs.YtonpgokgbaemfaaDoor
