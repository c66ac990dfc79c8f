/-
  THE LAWS OF LAYER 13, WALKED: which cuts are right, which part a place lies in, the next cut, the one ahead, cuts that are moved.
-/
import Derived.Test.YtbpcipobdokcfaaGreatDoorHSgY
import Derived.Test.YtbpcipobdokcfaaGreatDoorHSgW
namespace Go.Proofs.YtbpcipobdokcfaaGreatDoor
open Go.RowKit Go.Shelf
attribute [local go_sem] Oper.semAt_some

set_option maxRecDepth 100000 in
set_option maxHeartbeats 8000000 in
theorem law_SegTells (A : Nat → Addr) (B : Nat) (v : Value) (cs : List Int) (n p : Int) (w : World) (hv : IntsAt w v cs) (hp : fit64 p) (hS : Sg A B w) :
    Calls Tryz.prog 7 #[v, .int .i64 n, .int .i64 p] w fun e w' => e = .returned (.bool true) ∧ Below w.heap.size w w' := by
  have HS := Box.mk hS
  have HV := Box.mk hv
  have HP := Box.mk hp.2
  obtain ⟨ao, cap, rfl⟩ := hv.slice
  clear hS hv hp
  go_enter Tryz.func7, Tryz.ntmps7
  go_wp2_with fail
  refine (shown13_any A B w HS.out).mono ?_; rintro e w1 ⟨rfl, hb1⟩
  have HL := Box.mk (list13_any _ cs w1 (HV.out.below hb1))
  have HB1 := Box.mk hb1
  clear hb1
  go_wp2_with fail
  refine HL.out.mono ?_; rintro e w2 ⟨⟨v', rfl, hc⟩, rfl⟩
  have hcl := list12_len cs
  generalize list12 cs = c at hc hcl
  have HC := Box.mk (fun W (h : Below w1.heap.size w1 W) => hc.below h)
  have HCL := Box.mk hcl
  have HZ := Box.mk (show c.length ≤ 1000000 by omega)
  obtain ⟨co, cc, rfl⟩ := hc.slice
  have HSG := Box.mk (fun W (h : Below w1.heap.size w1 W) => HS.out.below (below_tr HB1.out h))
  have HSH := Box.mk (fun (b : Int) W (h : Below w1.heap.size w1 W) => shift_any _ c b W (HC.out W h) HZ.out)
  have HRS := Box.mk (fun (b : Int) W (h : Below w1.heap.size w1 W) => rshift13_any _ c b W (HC.out W h) HZ.out)
  have HEQ := Box.mk (fun (b : Int) (q r : Value) (W : World) (h : IntsAt W q (shiftC c b)) (h2 : IntsAt W r (shiftC c b)) => yes_of (ints_eq q r (shiftC c b) (shiftC c b) W h h2 (by rw [shiftC_len]; omega) (by rw [shiftC_len]; omega)) rfl)
  clear hc HL hcl
  go_wp2_with fail
  refine (sPart_any A B _ c p w1 (HC.out _ (Below.refl _ _)) HZ.out (HSG.out _ (Below.refl _ _)).g (HSG.out _ (Below.refl _ _)).le).mono ?_; rintro e w3 ⟨rfl, hb3⟩
  have D3 := Box.mk hb3
  have HPV := Box.mk (fun W (h : Below w1.heap.size w1 W) => rpart13_any _ c p W (HC.out W h) HZ.out)
  clear hb3
  generalize partC c p = P1 at HPV ⊢
  obtain ⟨p1, p2⟩ := P1
  unfold twoV at HPV ⊢
  go_wp2_with fail
  refine (HPV.out _ D3.out).mono ?_; rintro e w4 ⟨rfl, hb4⟩
  have D4 := Box.mk (below_tr D3.out hb4)
  clear hb4 HPV
  go_wp2_with fail
  refine (sNext_any A B _ c p w4 (HC.out _ D4.out) HZ.out (HSG.out _ D4.out).g (HSG.out _ D4.out).le).mono ?_; rintro e w5 ⟨rfl, hb5⟩
  have D5 := Box.mk (below_tr D4.out hb5)
  have HNV := Box.mk (fun W (h : Below w1.heap.size w1 W) => rnext13_any _ c p W (HC.out W h) HZ.out)
  clear hb5
  generalize nextC c p = P2 at HNV ⊢
  obtain ⟨n1, n2⟩ := P2
  unfold twoV at HNV ⊢
  go_wp2_with fail
  refine (HNV.out _ D5.out).mono ?_; rintro e w6 ⟨rfl, hb6⟩
  have D6 := Box.mk (below_tr D5.out hb6)
  clear hb6 HNV
  go_wp2_with fail
  refine (sBack_any A B _ c p w6 (HC.out _ D6.out) HZ.out (HSG.out _ D6.out).g (HSG.out _ D6.out).le HP.out).mono ?_; rintro e w7 ⟨rfl, hb7⟩
  have D7 := Box.mk (below_tr D6.out hb7)
  have HBV := Box.mk (fun W (h : Below w1.heap.size w1 W) => rback13_any _ c p W (HC.out W h) HZ.out HP.out)
  clear hb7
  generalize backC c p = P3 at HBV ⊢
  obtain ⟨b1, b2⟩ := P3
  unfold twoV at HBV ⊢
  go_wp2_with fail
  refine (HBV.out _ D7.out).mono ?_; rintro e w8 ⟨rfl, hb8⟩
  have D8 := Box.mk (below_tr D7.out hb8)
  clear hb8 HBV
  go_wp2_with fail
  refine (sright_any _ c n w8 (HC.out _ D8.out) (by have := HZ.out; omega)).mono ?_; rintro e w9 ⟨rfl, rfl⟩
  have HRV := Box.mk (rright13_any _ c n w8 (HC.out _ D8.out) HZ.out)
  generalize G.right c n = R1 at HRV ⊢
  go_wp2_with fail
  refine HRV.out.mono ?_; rintro e w10 ⟨rfl, hb10⟩
  have D10 := Box.mk (below_tr D8.out hb10)
  clear hb10
  go_wp2_with fail
  refine (HSH.out _ _ D10.out).mono ?_; rintro e w11 ⟨⟨v11, rfl, h11⟩, hb11⟩
  have H11 := Box.mk h11
  have D11 := Box.mk (below_tr D10.out hb11)
  clear h11 hb11
  go_wp2_with fail
  refine (HRS.out _ _ D11.out).mono ?_; rintro e w12 ⟨⟨v12, rfl, h12⟩, hb12⟩
  have H12 := Box.mk h12
  have H112 := Box.mk (H11.out.below hb12)
  have D12 := Box.mk (below_tr D11.out hb12)
  clear h12 hb12
  go_wp2_with fail
  refine (HEQ.out _ _ _ _ H112.out H12.out).mono ?_; rintro e w13 ⟨rfl, hb13⟩
  have D13 := Box.mk (below_tr D12.out hb13)
  clear hb13
  go_wp2_with fail
  go_ret
  exact ⟨rfl, below_tr HB1.out D13.out⟩
end Go.Proofs.YtbpcipobdokcfaaGreatDoor
