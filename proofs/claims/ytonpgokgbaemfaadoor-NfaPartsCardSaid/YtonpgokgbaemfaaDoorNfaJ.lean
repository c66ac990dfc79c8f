/-
  THE DOCUMENT's ANSWERS OF LAYER 10: add, step, Most, First, Step, Done.
-/
import Derived.Test.YtonpgokgbaemfaaDoorNfaI
namespace Go.Proofs.YtonpgokgbaemfaaDoor
open Go.RowKit

theorem add_or (S n : Nat) (h : S.testBit n = false) : S + 2 ^ n = S ||| 2 ^ n := by
  have hp : 2 ^ (n + 1) = 2 * 2 ^ n := by rw [Nat.pow_succ]; omega
  have hpos : 0 < 2 ^ n := Nat.two_pow_pos n
  rw [Nat.testBit_eq_decide_div_mod_eq, decide_eq_false_iff_not] at h
  have hb : S % 2 ^ (n + 1) < 2 ^ n := by
    rw [hp, Nat.mul_comm, Nat.mod_mul]
    have : S / 2 ^ n % 2 = 0 := by omega
    rw [this]
    have := Nat.mod_lt S hpos
    omega
  have hS : 2 ^ (n + 1) * (S / 2 ^ (n + 1)) + S % 2 ^ (n + 1) = S := Nat.div_add_mod _ _
  generalize S / 2 ^ (n + 1) = a at hS
  generalize S % 2 ^ (n + 1) = b at hS hb
  have h1 : 2 ^ (n + 1) * a + b = 2 ^ (n + 1) * a ||| b := Nat.two_pow_add_eq_or_of_lt (by omega) a
  have h2 : 2 ^ n * 1 + b = 2 ^ n * 1 ||| b := Nat.two_pow_add_eq_or_of_lt hb 1
  have h3 : 2 ^ (n + 1) * a + (2 ^ n * 1 + b) = 2 ^ (n + 1) * a ||| (2 ^ n * 1 + b) := Nat.two_pow_add_eq_or_of_lt (by omega) a
  rw [Nat.mul_one] at h2 h3
  rw [← hS, show 2 ^ (n + 1) * a + b + 2 ^ n = 2 ^ (n + 1) * a + (2 ^ n + b) by omega, h3, h2, h1, Nat.or_assoc, Nat.or_comm b]
theorem or_has (S n : Nat) (h : S.testBit n = true) : S ||| 2 ^ n = S := by
  apply Nat.eq_of_testBit_eq
  intro i
  rw [Nat.testBit_or, Nat.testBit_two_pow]
  by_cases e : n = i
  · subst e; rw [h]; rfl
  · simp [e]

set_option maxHeartbeats 4000000 in
theorem radd_any (st : Bool) (v : Value) (l : List N.Item) (hl : l.length ≤ 12) : ∀ (d n S : Nat) (w : World), 2 * l.length + 2 - n ≤ d → n ≤ 2 * l.length → S < 2 ^ (2 * l.length + 1) → ItemsAt w v l →
    Calls Tryd.prog 34 #[.agg #[.bool st, v], .int .i64 S, .int .i64 n] w fun e w' => e = .returned (.int .i64 ((S ||| N.clo l n : Nat) : Int)) ∧ Below w.heap.size w w' := by
  intro d
  induction d with
  | zero => intro n S w hd hn hS hv; omega
  | succ d ih =>
    intro n S w hd hn hS hv
    have IH := Box.mk ih
    have HV := Box.mk hv
    have HB0 := Box.mk (Blk.new w 24 #[.bool st, v])
    have HW0 := Box.mk (alloc_below w (.cells #[.bool st, v] 24))
    have HS := Box.mk hS
    have hS2 : S < 1099511627776 := lt_40 _ _ hS (by omega)
    obtain ⟨ao, cap, rfl⟩ := hv.slice
    obtain ⟨q, hq⟩ : ∃ q, 2 ^ n = q := ⟨_, rfl⟩
    have hq1 : q ≤ 1099511627776 := by rw [← hq]; exact Nat.pow_le_pow_right (n := 2) (by omega) (show n ≤ 40 by omega)
    have HQ := Box.mk hq
    have HD := Box.mk hd
    clear hv ih hS hq hd
    go_enter Tryd.func34, Tryd.ntmps34
    go_wp2_with fail
    refine (has_any S n _ (by omega) (by omega)).mono ?_; rintro e w1 ⟨rfl, rfl⟩
    go_upto_if 10 with (fail)
    go_cut [1] from 9 to 14 (fun s wx => s = .int .i64 ((S ||| 2 ^ n : Nat) : Int) ∧ Box (Below w.heap.size w wx) ∧ Box (Blk wx w.heap.size 24 #[.bool st, .slice ao l.length cap]))
    case first =>
      cases hb : S.testBit n with
      | true =>
        have HO := Box.mk (or_has S n hb)
        clear hb
        go_wp2_with fail
        go_meet
        exact ⟨by rw [HO.out], HW0, HB0⟩
      | false =>
        have HO := Box.mk (add_or S n hb)
        clear hb
        go_wp2_with fail
        refine (bit_any n _ (by omega)).mono ?_; rintro e w1 ⟨rfl, rfl⟩; rw [HQ.out]
        go_wp2_with fail
        go_meet
        exact ⟨vint (by rw [← HO.out, HQ.out]; simp), HW0, HB0⟩
    case rest =>
      obtain ⟨rfl, hb, hbk⟩ := hcut
      have c0 : wc.cell? ⟨w.heap.size, 0, none⟩ = some (.bool st) := (hbk.out.cell 0).trans rfl
      have c1 : wc.cell? ⟨w.heap.size, 1, none⟩ = some (.slice ao l.length cap) := (hbk.out.cell 1).trans rfl
      by_cases hodd : n % 2 = 1
      · have HC := Box.mk (N.clo_odd l n hodd)
        have t1 : ((n : Int) % 2 == 0) = false := by rw [beq_eq_false_iff_ne]; omega
        clear hodd
        go_wp2_with fail
        go_ret
        exact ⟨by rw [HC.out]; rfl, hb.out⟩
      have t1 : ((n : Int) % 2 == 0) = true := by rw [beq_iff_eq]; omega
      by_cases hend : l.length ≤ n / 2
      · have HC := Box.mk (N.clo_end l n hend)
        have t2 : decide ((n : Int) / 2 < (l.length : Int)) = false := by rw [decide_eq_false_iff_not]; omega
        clear hodd
        go_wp2_with fail
        go_ret
        exact ⟨by rw [HC.out]; rfl, hb.out⟩
      have t2 : decide ((n : Int) / 2 < (l.length : Int)) = true := by rw [decide_eq_true_eq]; omega
      obtain ⟨x, hx⟩ : ∃ x, l[n / 2]? = some x := ⟨_, List.getElem?_eq_getElem (by omega)⟩
      obtain ⟨g, off, cap2, hg1, hg2, hg3, hg4, hg5⟩ := (HV.out.below hb.out).get (by rintro rfl; simp at hend)
      obtain ⟨rfl, rfl⟩ : ao = some ⟨g, off, none⟩ ∧ cap = cap2 := by injection hg1 with h1 h2 h3; exact ⟨h1, h3⟩
      obtain ⟨hc1, hc2⟩ := hg5 _ x hx
      have HH := Box.mk (show N.howAt l (n / 2) = x.2 by unfold N.howAt; simp [List.getD, hx])
      unfold maxLen at hg3
      have hlt : n / 2 < l.length := by omega
      obtain ⟨set, how⟩ := x
      by_cases h0 : how = 0
      · have HC := Box.mk (N.clo_once l n (HH.out.trans h0))
        subst h0
        clear hx hg1 hg5 hodd hend
        go_wp2_with fail
        go_ret
        exact ⟨by rw [HC.out]; rfl, hb.out⟩
      · have HC := Box.mk (N.clo_next l n (by omega) hlt (by rw [HH.out]; exact h0))
        have t3 : (how == 0) = false := by rw [beq_eq_false_iff_ne]; exact h0
        have HI := Box.mk (IH.out (n + 2) (S ||| 2 ^ n) wc (by have := HD.out; omega) (by omega) (or_small S n _ HS.out (by omega)) (HV.out.below hb.out))
        have HN := Box.mk (show ((n : Int) + 2) = ((n + 2 : Nat) : Int) by omega)
        clear hx hg1 hg5 hodd hend
        go_wp2_with fail
        rw [HN.out]
        refine HI.out.mono ?_; rintro e w2 ⟨rfl, hb2⟩
        have HB2 := Box.mk (hb.out.trans (hb2.mono hb.out.size))
        clear hb2
        go_wp2_with fail
        go_ret
        exact ⟨by rw [HC.out, ← Nat.or_assoc]; rfl, HB2.out⟩

theorem fill_bound (l : List N.Item) (S : Nat) (c : Int) (k : Nat) (hk : k ≤ 2 * l.length) : N.fill l S c 0 k < 2 ^ (2 * l.length + 1) := N.fill_lt l S c 0 (Nat.two_pow_pos _) k hk

set_option maxHeartbeats 4000000 in
theorem rstep_any (st : Bool) (v : Value) (l : List N.Item) (hr : rightB l = true) (S : Nat) (hS : S < 4611686018427387904) (c : Int) (w : World) (hv : ItemsAt w v l) :
    Calls Tryd.prog 30 #[.agg #[.bool st, v], .int .i64 S, .int .i64 c] w fun e w' => e = .returned (.int .i64 (N.step l st S c)) ∧ Below w.heap.size w w' := by
  have hl := right_len hr
  have HRT := Box.mk hr
  have HV := Box.mk hv
  have HB0 := Box.mk (Blk.new w 24 #[.bool st, v])
  have HW0 := Box.mk (alloc_below w (.cells #[.bool st, v] 24))
  obtain ⟨ao, cap, rfl⟩ := hv.slice
  clear hv hr
  go_enter Tryd.func30, Tryd.ntmps30
  go_wp2_with fail
  go_loopw [7, 8] (fun o i wr => ∃ k : Nat, k ≤ 2 * l.length ∧ i = .int .i64 k ∧ o = .int .i64 (N.fill l S c 0 k) ∧ Box (Blk wr w.heap.size 24 #[.bool st, .slice ao l.length cap]) ∧ Box (Below w.heap.size w wr)) (fun _ i _ => 2 * l.length - (intOf i).toNat)
  case atStart => exact ⟨0, by omega, rfl, rfl, HB0, HW0⟩
  case round =>
    obtain ⟨k, hk, rfl, rfl, hbk, hb⟩ := hrel
    have c0 : wr.cell? ⟨w.heap.size, 0, none⟩ = some (.bool st) := (hbk.out.cell 0).trans rfl
    have c1 : wr.cell? ⟨w.heap.size, 1, none⟩ = some (.slice ao l.length cap) := (hbk.out.cell 1).trans rfl
    have l0 := hbk.out.lt
    have HF := Box.mk (fill_bound l S c k hk)
    by_cases hlt : k < 2 * l.length
    · obtain ⟨x, hx⟩ : ∃ x, l[k / 2]? = some x := ⟨_, List.getElem?_eq_getElem (by omega)⟩
      obtain ⟨g, off, cap2, hg1, hg2, hg3, hg4, hg5⟩ := (HV.out.below hb.out).get (by rintro rfl; simp at hlt)
      obtain ⟨rfl, rfl⟩ : ao = some ⟨g, off, none⟩ ∧ cap = cap2 := by injection hg1 with h1 h2 h3; exact ⟨h1, h3⟩
      obtain ⟨hc1, hc2⟩ := hg5 _ x hx
      obtain ⟨hw0, hw1⟩ := right_item HRT.out hx
      have HH := Box.mk (show N.howAt l (k / 2) = x.2 ∧ N.setAt l (k / 2) = x.1 by unfold N.howAt N.setAt; simp [List.getD, hx])
      unfold maxLen at hg3
      have hlt2 : k / 2 < l.length := by omega
      have HFS := Box.mk (N.fill_succ l S c 0 k)
      obtain ⟨set, how⟩ := x
      have HBA := Box.mk (show Below w.heap.size w (wr.alloc (.cells #[.int .i64 set, .int .i64 how] 48)) from hb.out.alloc hb.out.size _)
      have HBKA := Box.mk (hbk.out.alloc (.cells #[.int .i64 set, .int .i64 how] 48))
      have HA := Box.mk (fun n hn => radd_any st (.slice (some ⟨g, off, none⟩) l.length cap) l (by omega) _ n (N.fill l S c 0 k) (wr.alloc (.cells #[.int .i64 set, .int .i64 how] 48)) (Nat.le_refl _) hn HF.out (HV.out.below HBA.out))
      have HGL := Box.mk (N.goto_le l k hlt)
      clear hx hg1 hg5
      cases hbit : S.testBit k with
      | false =>
        have HBT := Box.mk hbit
        have HG := Box.mk (show N.fill l S c 0 (k + 1) = N.fill l S c 0 k by rw [HFS.out, if_neg]; unfold N.goes; rw [hbit]; simp)
        clear hbit
        go_wp2_with fail
        refine (has_any S k _ (by omega) hS).mono ?_; rintro e w1 ⟨rfl, rfl⟩; rw [HBT.out]
        go_wp2_with fail
        go_roundw
        case rel => exact ⟨k + 1, hlt, by go_num, by rw [HG.out], HBKA, HBA⟩
        case measure => simp [intOf]; omega
      | true =>
        have HBT := Box.mk hbit
        cases hhas : N.hasC set c with
        | false =>
          have HHAS := Box.mk hhas
          have HG := Box.mk (show N.fill l S c 0 (k + 1) = N.fill l S c 0 k by rw [HFS.out, if_neg]; unfold N.goes; rw [hbit, HH.out.2, hhas]; simp)
          clear hbit hhas
          go_wp2_with fail
          refine (has_any S k _ (by omega) hS).mono ?_; rintro e w1 ⟨rfl, rfl⟩; rw [HBT.out]
          go_wp2_with fail
          refine (rchas_any set c _).mono ?_; rintro e w1 ⟨rfl, rfl⟩; rw [HHAS.out]
          go_wp2_with fail
          go_roundw
          case rel => exact ⟨k + 1, hlt, by go_num, by rw [HG.out], HBKA, HBA⟩
          case measure => simp [intOf]; omega
        | true =>
          have HHAS := Box.mk hhas
          have HG := Box.mk (show N.fill l S c 0 (k + 1) = N.fill l S c 0 k ||| N.clo l (N.goto l k) by rw [HFS.out, if_pos]; unfold N.goes; rw [hbit, HH.out.2, hhas]; rfl)
          clear hbit hhas
          by_cases hodd : k % 2 = 1
          · have t1 : ((k : Int) % 2 == 1) = true := by rw [beq_iff_eq]; omega
            have HGO := Box.mk (show N.goto l k = k - 1 by unfold N.goto; rw [if_pos hodd])
            have HN := Box.mk (show ((k : Int) - 1) = ((k - 1 : Nat) : Int) by omega)
            have k1 : 1 ≤ k := by omega
            clear hodd
            go_wp2_with fail
            refine (has_any S k _ (by omega) hS).mono ?_; rintro e w1 ⟨rfl, rfl⟩; rw [HBT.out]
            go_wp2_with fail
            refine (rchas_any set c _).mono ?_; rintro e w1 ⟨rfl, rfl⟩; rw [HHAS.out]
            go_wp2_with fail
            rw [HN.out]
            refine (HA.out (k - 1) (by omega)).mono ?_; rintro e w1 ⟨rfl, hb1⟩
            have HB1 := Box.mk (HBA.out.trans (hb1.mono HBA.out.size))
            have HBK1 := Box.mk (HBKA.out.below hb1 HBKA.out.lt)
            clear hb1
            go_wp2_with fail
            go_roundw
            case rel => exact ⟨k + 1, hlt, by go_num, by rw [HG.out, HGO.out], HBK1, HB1⟩
            case measure => simp [intOf]; omega
          have t1 : ((k : Int) % 2 == 1) = false := by rw [beq_eq_false_iff_ne]; omega
          rcases (show how = 0 ∨ how = 1 ∨ how = 2 by omega) with rfl | rfl | rfl
          · have HGO := Box.mk (show N.goto l k = k + 2 by unfold N.goto; rw [if_neg hodd, if_pos HH.out.1])
            have hev : k % 2 = 0 := by omega
            have HN := Box.mk (show ((k : Int) + 2) = ((k + 2 : Nat) : Int) by omega)
            clear hodd
            go_wp2_with fail
            refine (has_any S k _ (by omega) hS).mono ?_; rintro e w1 ⟨rfl, rfl⟩; rw [HBT.out]
            go_wp2_with fail
            refine (rchas_any set c _).mono ?_; rintro e w1 ⟨rfl, rfl⟩; rw [HHAS.out]
            go_wp2_with fail
            rw [HN.out]
            refine (HA.out (k + 2) (by omega)).mono ?_; rintro e w1 ⟨rfl, hb1⟩
            have HB1 := Box.mk (HBA.out.trans (hb1.mono HBA.out.size))
            have HBK1 := Box.mk (HBKA.out.below hb1 HBKA.out.lt)
            clear hb1
            go_wp2_with fail
            go_roundw
            case rel => exact ⟨k + 1, hlt, by go_num, by rw [HG.out, HGO.out], HBK1, HB1⟩
            case measure => simp [intOf]; omega
          · have HGO := Box.mk (show N.goto l k = k by unfold N.goto; rw [if_neg hodd, if_neg (by rw [HH.out.1]; simp), if_pos HH.out.1])
            have hev : k % 2 = 0 := by omega
            clear hodd
            go_wp2_with fail
            refine (has_any S k _ (by omega) hS).mono ?_; rintro e w1 ⟨rfl, rfl⟩; rw [HBT.out]
            go_wp2_with fail
            refine (rchas_any set c _).mono ?_; rintro e w1 ⟨rfl, rfl⟩; rw [HHAS.out]
            go_wp2_with fail
            refine (HA.out (k) (by omega)).mono ?_; rintro e w1 ⟨rfl, hb1⟩
            have HB1 := Box.mk (HBA.out.trans (hb1.mono HBA.out.size))
            have HBK1 := Box.mk (HBKA.out.below hb1 HBKA.out.lt)
            clear hb1
            go_wp2_with fail
            go_roundw
            case rel => exact ⟨k + 1, hlt, by go_num, by rw [HG.out, HGO.out], HBK1, HB1⟩
            case measure => simp [intOf]; omega
          · have HGO := Box.mk (show N.goto l k = k + 1 by unfold N.goto; rw [if_neg hodd, if_neg (by rw [HH.out.1]; simp), if_neg (by rw [HH.out.1]; simp)])
            have hev : k % 2 = 0 := by omega
            have HN := Box.mk (show ((k : Int) + 1) = ((k + 1 : Nat) : Int) by omega)
            clear hodd
            go_wp2_with fail
            refine (has_any S k _ (by omega) hS).mono ?_; rintro e w1 ⟨rfl, rfl⟩; rw [HBT.out]
            go_wp2_with fail
            refine (rchas_any set c _).mono ?_; rintro e w1 ⟨rfl, rfl⟩; rw [HHAS.out]
            go_wp2_with fail
            rw [HN.out]
            refine (HA.out (k + 1) (by omega)).mono ?_; rintro e w1 ⟨rfl, hb1⟩
            have HB1 := Box.mk (HBA.out.trans (hb1.mono HBA.out.size))
            have HBK1 := Box.mk (HBKA.out.below hb1 HBKA.out.lt)
            clear hb1
            go_wp2_with fail
            go_roundw
            case rel => exact ⟨k + 1, hlt, by go_num, by rw [HG.out, HGO.out], HBK1, HB1⟩
            case measure => simp [intOf]; omega
    · obtain rfl : k = 2 * l.length := by omega
      have hbw := hb.out
      have HA := Box.mk (radd_any st (.slice ao l.length cap) l (by omega) _ 0 (N.fill l S c 0 (2 * l.length)) wr (Nat.le_refl _) (by omega) HF.out (HV.out.below hbw))
      clear hbw
      cases st with
      | true =>
        go_wp2_with fail
        go_ret
        exact ⟨by rfl, hb.out⟩
      | false =>
        have HFL := Box.mk (N.fill_last l S c (N.clo l 0) (2 * l.length))
        go_wp2_with fail
        refine HA.out.mono ?_; rintro e w1 ⟨rfl, hb1⟩
        have HB1 := Box.mk (hb.out.trans (hb1.mono hb.out.size))
        clear hb1
        go_wp2_with fail
        go_ret
        exact ⟨by rw [HFL.out]; rfl, HB1.out⟩
end Go.Proofs.YtonpgokgbaemfaaDoor
