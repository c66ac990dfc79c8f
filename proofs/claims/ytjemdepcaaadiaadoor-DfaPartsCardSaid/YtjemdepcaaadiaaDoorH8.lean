/-
  Texts of this claim, one behind the other: Df4, Card, Card2, Pat, Open12, Df5, Df10.
-/
import Derived.Test.YtjemdepcaaadiaaDoorH7
import Derived.Test.YtjemdepcaaadiaaDoorCards
import Derived.Test.YtjemdepcaaadiaaDoorTie
import Derived.Test.YtjemdepcaaadiaaDoorH1
import Derived.ProofKit
import Derived.OpenShut
import Derived.Deep.DeepHandedRow
import Derived.Deep.DeepWitnessRowRef
import Derived.Stop.LaidTwo
import Derived.Below
import Derived.ChangeSame
import Derived.WideKeyArgs
import Derived.ChangeArms
import Derived.Test.YtjemdepcaaadiaaDoorH5
import Derived.Deep.Slices
import Derived.Deep.Strs
import Derived.Test.YtjemdepcaaadiaaDoorH3

/- IS A MACHINE KNOWN? The laws' shown of layer 12. -/
namespace Go.Proofs.YtjemdepcaaadiaaDoor
open Go.RowKit Go.Shelf
attribute [local go_sem] Oper.semAt_some

def one12 : D.Rule := ((false, [(1, 0)]), (false, [(2, 0)]), false)
def M012 : D.Mach := ([[1, 0, 0], [1, 0, 0]], [0, 1])
set_option maxRecDepth 100000 in
theorem code12_a : compCode [one12] 2 = 0 ∧ compM [one12] 2 = M012 := by
  have h1 : rulesB 2 [one12] = true := by decide +kernel
  have h2 : (D.build (lefts [one12]) 2 2).todo.length ≤ (D.build (lefts [one12]) 2 2).next.length := by decide +kernel
  have h3 : D.build (lefts [one12]) 2 300 = D.build (lefts [one12]) 2 2 := D.build_end _ _ (by omega) h2
  have h4 : D.isFew (lefts [one12]) 2 = true := D.few_end _ _ (k := 2) (by omega) h2 (by decide +kernel)
  have h5 : machB (D.build (lefts [one12]) 2 2) = M012 := by decide +kernel
  refine ⟨?_, ?_⟩
  · unfold compCode; rw [h1, show (2 : Int).toNat = 2 from rfl, h4]; rfl
  · unfold compM machOf; rw [h1, show (2 : Int).toNat = 2 from rfl, h4, h3, h5]; rfl
theorem code12_b : compCode [one12] 1 = 90 := by
  have h1 : rulesB 1 [one12] = false := by decide +kernel
  unfold compCode; rw [h1]; rfl
theorem go12_a : machR 2 M012 = true ∧ goM 2 M012 [0, 1, 0, 7] = [0, 1, 0, 1, 0] ∧ fitsM 2 M012 [0, 1] = [0, 1, 0] := by decide +kernel
theorem fit12 : MachFit M012 := ⟨by decide, by decide, by decide⟩
theorem rule12 : ∀ x ∈ [one12], ruleFit x := by
  intro x hx
  rw [List.mem_singleton.1 hx]
  exact ⟨by decide, by decide⟩
/-- the errors of this layer, and the world that they lie in -/
structure Sd (A : Nat → Addr) (B : Nat) (w : World) : Prop where
  e : E A B w
  d : Ed A B w
  le : B ≤ w.heap.size
theorem Sd.below {A : Nat → Addr} {B : Nat} {w w' : World} (h : Sd A B w) (hb : Below w.heap.size w w') : Sd A B w' := ⟨h.e.below (hb.mono h.le), h.d.below (hb.mono h.le), Nat.le_trans h.le hb.size⟩
theorem below_tr {a b c : World} (h : Below a.heap.size a b) (k : Below b.heap.size b c) : Below a.heap.size a c := h.trans (k.mono h.size)
theorem yes_of {P : Program} {f : FuncId} {args : Array Value} {w : World} {p : Prop} [Decidable p] (h : Calls P f args w fun e w' => e = .returned (.bool (decide p)) ∧ Below w.heap.size w w') (hp : p) : Calls P f args w fun e w' => e = .returned (.bool true) ∧ Below w.heap.size w w' :=
  h.mono fun _ _ ⟨h1, h2⟩ => ⟨by rw [h1, decide_eq_true hp], h2⟩
theorem ml_lit (W : World) (T1 T2 T3 : TypeId) : MachAt ((((W.alloc (.cells #[.int .i64 1, .int .i64 0, .int .i64 0] T1)).alloc (.cells #[.int .i64 1, .int .i64 0, .int .i64 0] T1)).alloc (.cells #[.slice (some ⟨W.heap.size, 0, none⟩) 3 3, .slice (some ⟨W.heap.size + 1, 0, none⟩) 3 3] T2)).alloc (.cells #[.int .i64 0, .int .i64 1] T3))
    (.agg #[.slice (some ⟨W.heap.size + 1 + 1, 0, none⟩) 2 2, .slice (some ⟨W.heap.size + 1 + 1 + 1, 0, none⟩) 2 2]) M012 := by
  obtain ⟨W1, h1⟩ : ∃ W1, W1 = W.alloc (.cells #[.int .i64 1, .int .i64 0, .int .i64 0] T1) := ⟨_, rfl⟩
  obtain ⟨W2, h2⟩ : ∃ W2, W2 = W1.alloc (.cells #[.int .i64 1, .int .i64 0, .int .i64 0] T1) := ⟨_, rfl⟩
  obtain ⟨W3, h3⟩ : ∃ W3, W3 = W2.alloc (.cells #[.slice (some ⟨W.heap.size, 0, none⟩) 3 3, .slice (some ⟨W.heap.size + 1, 0, none⟩) 3 3] T2) := ⟨_, rfl⟩
  obtain ⟨W4, h4⟩ : ∃ W4, W4 = W3.alloc (.cells #[.int .i64 0, .int .i64 1] T3) := ⟨_, rfl⟩
  have s1 : W1.heap.size = W.heap.size + 1 := by rw [h1]; simp
  have s2 : W2.heap.size = W.heap.size + 1 + 1 := by rw [h2]; simp [s1]
  have s3 : W3.heap.size = W.heap.size + 1 + 1 + 1 := by rw [h3]; simp [s2]
  rw [← h1, ← h2, ← h3, ← h4]
  have i1 := ints_lit W [1, 0, 0] T1 3 rfl (by omega) #[.int .i64 1, .int .i64 0, .int .i64 0] rfl
  have i2 := ints_lit W1 [1, 0, 0] T1 3 rfl (by omega) #[.int .i64 1, .int .i64 0, .int .i64 0] rfl
  have i3 := ints_lit W3 [0, 1] T3 2 rfl (by omega) #[.int .i64 0, .int .i64 1] rfl
  rw [← h1] at i1
  rw [← h2] at i2
  rw [← h4] at i3
  have b34 : Below W3.heap.size W3 W4 := by rw [h4]; exact alloc_below _ _
  have b23 : Below W2.heap.size W2 W3 := by rw [h3]; exact alloc_below _ _
  have b12 : Below W1.heap.size W1 W2 := by rw [h2]; exact alloc_below _ _
  have b24 := below_tr b23 b34
  have b14 := below_tr b12 b24
  have hbk : Blk W3 W2.heap.size T2 #[.slice (some ⟨W.heap.size, 0, none⟩) 3 3, .slice (some ⟨W.heap.size + 1, 0, none⟩) 3 3] := by rw [h3]; exact Blk.new _ _ _
  have hbk4 := hbk.below b34 hbk.lt
  refine ⟨_, _, rfl, .inr ⟨W.heap.size + 1 + 1, 0, none, 2, rfl, Nat.le_refl _, by unfold maxLen; omega, fun _ => ⟨rfl, by have := hbk4.lt; omega, fun i r hr => ?_⟩⟩, by rw [← s3]; exact i3⟩
  rw [s2] at hbk4
  match i, hr with
  | 0, hr =>
    simp only [M012, List.getElem?_cons_zero, Option.some.injEq] at hr
    subst hr
    exact ⟨_, (hbk4.cell 0).trans rfl, i1.below b14⟩
  | 1, hr =>
    simp only [M012, List.getElem?_cons_succ, List.getElem?_cons_zero, Option.some.injEq] at hr
    subst hr
    exact ⟨_, (hbk4.cell 1).trans rfl, by rw [← s1]; exact i2.below b24⟩
  | i + 2, hr => simp [M012] at hr

set_option maxRecDepth 100000 in
set_option maxHeartbeats 8000000 in
theorem shown12_any (A : Nat → Addr) (B : Nat) (w : World) (hS : Sd A B w) :
    Calls Tryd.prog 9 #[] w fun e w' => e = .returned (.bool true) ∧ Below w.heap.size w w' := by
  have HS := Box.mk hS
  clear hS
  go_enter Tryd.func9, Tryd.ntmps9
  go_wp2_with fail
  refine (single_any 1 2 w).mono ?_; rintro e w1 ⟨hb1, al, ar, rfl, hil, hir⟩
  -- the rule, and a list of it
  obtain ⟨V1, hV1⟩ : ∃ V1, V1 = w1.alloc (.cells #[.bool false, .slice al 1 1, .bool false, .slice ar 1 1, .bool false] 46) := ⟨_, rfl⟩
  have hk1 : Below w1.heap.size w1 V1 := by rw [hV1]; exact alloc_below _ _
  have HIL := Box.mk (fun W (h : Below w1.heap.size w1 W) => hil.below h)
  have HIR := Box.mk (fun W (h : Below w1.heap.size w1 W) => hir.below h)
  have HV1 := Box.mk (below_tr hb1 hk1)
  have HK1 := Box.mk hk1
  have HP1 := Box.mk (show Blk V1 w1.heap.size 46 #[.bool false, .slice al 1 1, .bool false, .slice ar 1 1, .bool false] by rw [hV1]; exact Blk.new _ _ _)
  have HS1 := Box.mk (show V1.heap.size = w1.heap.size + 1 by rw [hV1]; simp)
  have HRL := Box.mk (fun W (h : Below w1.heap.size w1 W) => rules_one (x := one12) (HIL.out W h) (HIR.out W h) 46)
  obtain ⟨V2, hV2⟩ : ∃ V2, V2 = V1.alloc (.cells #[.bool false, .slice al 1 1, .bool false, .slice ar 1 1, .bool false] 46) := ⟨_, rfl⟩
  have hk2 : Below V1.heap.size V1 V2 := by rw [hV2]; exact alloc_below _ _
  have HV2 := Box.mk (below_tr HV1.out hk2)
  have HT2 := Box.mk (below_tr HK1.out hk2)
  have HR2 := Box.mk (show RulesAt V2 (.slice (some ⟨w1.heap.size + 1, 0, none⟩) 1 1) [one12] by rw [hV2, ← HS1.out]; exact HRL.out V1 HK1.out)
  have HC2 := Box.mk (compile_any A B _ [one12] 2 V2 rule12 HR2.out (by simp) (HS.out.below HV2.out).e (HS.out.below HV2.out).d (HS.out.below HV2.out).le)
  have HP2 := Box.mk (HP1.out.below hk2 HP1.out.lt)
  clear hb1 hil hir hk1 hk2
  go_wp2_with fail
  rw [← hV1, ← hV2]
  clear hV1 hV2
  refine HC2.out.mono ?_; rintro e w2 ⟨hb2, mv, rfl, hm⟩
  rw [code12_a.1]
  rw [code12_a.2] at hm
  have HM2 := Box.mk hm
  obtain ⟨NV0, FV0, rfl, hra, hia⟩ := hm
  obtain ⟨na, nc, rfl⟩ : ∃ na nc, NV0 = .slice na 2 nc := hra.slice
  obtain ⟨fa, fc, rfl⟩ : ∃ fa fc, FV0 = .slice fa 2 fc := hia.slice
  clear hra hia
  have HB2 := Box.mk (below_tr HV2.out hb2)
  have HTw2 := Box.mk (below_tr HT2.out hb2)
  have HP3 := Box.mk (HP2.out.below hb2 HP2.out.lt)
  obtain ⟨V3, hV3⟩ : ∃ V3, V3 = w2.alloc (.cells #[.slice na 2 nc, .slice fa 2 fc] 28) := ⟨_, rfl⟩
  have HV3 := Box.mk (show Below w2.heap.size w2 V3 by rw [hV3]; exact alloc_below _ _)
  have HS3 := Box.mk (show V3.heap.size = w2.heap.size + 1 by rw [hV3]; simp)
  have HMB := Box.mk (show Blk V3 w2.heap.size 28 #[.slice na 2 nc, .slice fa 2 fc] by rw [hV3]; exact Blk.new _ _ _)
  obtain ⟨V4, hV4⟩ : ∃ V4, V4 = V3.alloc (.cells #[.int .i64 0, .int .i64 1, .int .i64 0, .int .i64 7] 3) := ⟨_, rfl⟩
  have HV4 := Box.mk (show Below V3.heap.size V3 V4 by rw [hV4]; exact alloc_below _ _)
  have HI4 := Box.mk (show IntsAt V4 (.slice (some ⟨w2.heap.size + 1, 0, none⟩) 4 4) [0, 1, 0, 7] by rw [hV4, ← HS3.out]; exact ints_lit V3 [0, 1, 0, 7] 3 4 rfl (by omega) _ rfl)
  have HW4 := Box.mk (below_tr HB2.out (below_tr HV3.out HV4.out))
  have HG4 := Box.mk (mgo_any A B (.agg #[.slice na 2 nc, .slice fa 2 fc]) (.slice (some ⟨w2.heap.size + 1, 0, none⟩) 4 4) M012 2 [0, 1, 0, 7] V4 (HM2.out.below (below_tr HV3.out HV4.out)) fit12 HI4.out (by simp) (HS.out.below HW4.out).d (HS.out.below HW4.out).le)
  clear hb2
  go_wp2_with fail
  rw [← hV3, ← hV4]
  clear hV3 hV4
  refine HG4.out.mono ?_; rintro e w3 ⟨hb3, gv, rfl, hown⟩
  rw [show goCode 2 M012 = 0 by unfold goCode; rw [go12_a.1]; rfl]
  rw [go12_a.1, if_pos rfl, if_pos rfl, show (2 : Int).toNat = 2 from rfl, go12_a.2.1] at hown
  have HG := Box.mk (row_ints hown rfl)
  obtain ⟨ga, gc, rfl⟩ : ∃ ga gc, gv = .slice ga 5 gc := by obtain ⟨a, c, h, -, -⟩ := own_shape hown; exact ⟨a, c, h⟩
  have HTw3 := Box.mk (below_tr HTw2.out (below_tr HV3.out (below_tr HV4.out hb3)))
  have HB3 := Box.mk (below_tr HW4.out hb3)
  have hmb := (HMB.out.below HV4.out HMB.out.lt)
  have HMB3 := Box.mk (hmb.below hb3 hmb.lt)
  have HP4 := Box.mk (HP3.out.below (below_tr HV3.out (below_tr HV4.out hb3)) HP3.out.lt)
  have HM3 := Box.mk (HM2.out.below (below_tr HV3.out (below_tr HV4.out hb3)))
  have c0 : w3.cell? ⟨w2.heap.size, 0, none⟩ = some (.slice na 2 nc) := (HMB3.out.cell 0).trans rfl
  have c1 : w3.cell? ⟨w2.heap.size, 1, none⟩ = some (.slice fa 2 fc) := (HMB3.out.cell 1).trans rfl
  have l0 := HMB3.out.lt
  obtain ⟨V5, hV5⟩ : ∃ V5, V5 = w3.alloc (.cells #[.int .i64 0, .int .i64 1] 3) := ⟨_, rfl⟩
  have HV5 := Box.mk (show Below w3.heap.size w3 V5 by rw [hV5]; exact alloc_below _ _)
  have HI5 := Box.mk (show IntsAt V5 (.slice (some ⟨w3.heap.size, 0, none⟩) 2 2) [0, 1] by rw [hV5]; exact ints_lit w3 [0, 1] 3 2 rfl (by omega) _ rfl)
  have HW5 := Box.mk (below_tr HB3.out HV5.out)
  have HF5 := Box.mk (mfits_any A B (.agg #[.slice na 2 nc, .slice fa 2 fc]) (.slice (some ⟨w3.heap.size, 0, none⟩) 2 2) M012 2 [0, 1] V5 (HM3.out.below HV5.out) fit12 HI5.out (by simp) (HS.out.below HW5.out).d (HS.out.below HW5.out).le)
  clear hb3 hown hmb
  go_wp2_with fail
  rw [← hV5]
  clear hV5
  refine HF5.out.mono ?_; rintro e w4 ⟨hb4, fv4, rfl, hfi⟩
  rw [show goCode 2 M012 = 0 by unfold goCode; rw [go12_a.1]; rfl]
  rw [go12_a.1, if_pos rfl, show (2 : Int).toNat = 2 from rfl, go12_a.2.2] at hfi
  have HFI := Box.mk hfi
  obtain ⟨ha, hc, rfl⟩ : ∃ ha hc, fv4 = .slice ha 3 hc := hfi.slice
  have HB4 := Box.mk (below_tr HW5.out hb4)
  have h35 := below_tr HV5.out hb4
  have HTw4 := Box.mk (below_tr HTw3.out h35)
  have HMB4 := Box.mk (HMB3.out.below h35 HMB3.out.lt)
  have HP5 := Box.mk (HP4.out.below h35 HP4.out.lt)
  have HM4 := Box.mk (HM3.out.below h35)
  have HG4' := Box.mk (HG.out.below h35)
  have p0 : w4.cell? ⟨w1.heap.size, 0, none⟩ = some (.bool false) := (HP5.out.cell 0).trans rfl
  have p1 : w4.cell? ⟨w1.heap.size, 1, none⟩ = some (.slice al 1 1) := (HP5.out.cell 1).trans rfl
  have p2 : w4.cell? ⟨w1.heap.size, 2, none⟩ = some (.bool false) := (HP5.out.cell 2).trans rfl
  have p3 : w4.cell? ⟨w1.heap.size, 3, none⟩ = some (.slice ar 1 1) := (HP5.out.cell 3).trans rfl
  have p4 : w4.cell? ⟨w1.heap.size, 4, none⟩ = some (.bool false) := (HP5.out.cell 4).trans rfl
  have pl := HP5.out.lt
  obtain ⟨V6, hV6⟩ : ∃ V6, V6 = w4.alloc (.cells #[.bool false, .slice al 1 1, .bool false, .slice ar 1 1, .bool false] 46) := ⟨_, rfl⟩
  have HV6 := Box.mk (show Below w4.heap.size w4 V6 by rw [hV6]; exact alloc_below _ _)
  have HW6 := Box.mk (below_tr HB4.out HV6.out)
  have HR6 := Box.mk (show RulesAt V6 (.slice (some ⟨w4.heap.size, 0, none⟩) 1 1) [one12] by
    rw [hV6]
    exact HRL.out w4 HTw4.out)
  have HC6 := Box.mk (compile_any A B _ [one12] 1 V6 rule12 HR6.out (by simp) (HS.out.below HW6.out).e (HS.out.below HW6.out).d (HS.out.below HW6.out).le)
  clear hb4 hfi h35 c0 c1 l0
  go_wp2_with fail
  rw [← hV6]
  clear hV6
  refine HC6.out.mono ?_; rintro e w5 ⟨hb5, mv5, rfl, hm5⟩
  rw [code12_b]
  obtain ⟨NV5, FV5, rfl, hra5, hia5⟩ := hm5
  obtain ⟨na5, nc5, rfl⟩ := hra5.slice
  obtain ⟨fa5, fc5, rfl⟩ := hia5.slice
  have h46 := below_tr HV6.out hb5
  have HB5 := Box.mk (below_tr HW6.out hb5)
  obtain ⟨V7, hV7⟩ : ∃ V7, V7 = w5.alloc (.cells #[.slice na5 (compM [one12] 1).1.length nc5, .slice fa5 (compM [one12] 1).2.length fc5] 28) := ⟨_, rfl⟩
  have HV7 := Box.mk (show Below w5.heap.size w5 V7 by rw [hV7]; exact alloc_below _ _)
  have HS7 := Box.mk (show V7.heap.size = w5.heap.size + 1 by rw [hV7]; simp)
  have h47 := below_tr h46 HV7.out
  obtain ⟨V11, hV11⟩ : ∃ V11, V11 = (((V7.alloc (.cells #[.int .i64 1, .int .i64 0, .int .i64 0] 3)).alloc (.cells #[.int .i64 1, .int .i64 0, .int .i64 0] 3)).alloc (.cells #[.slice (some ⟨V7.heap.size, 0, none⟩) 3 3, .slice (some ⟨V7.heap.size + 1, 0, none⟩) 3 3] 34)).alloc (.cells #[.int .i64 0, .int .i64 1] 2) := ⟨_, rfl⟩
  have HML := Box.mk (show MachAt V11 (.agg #[.slice (some ⟨w5.heap.size + 1 + 1 + 1, 0, none⟩) 2 2, .slice (some ⟨w5.heap.size + 1 + 1 + 1 + 1, 0, none⟩) 2 2]) M012 by
    rw [hV11, ← HS7.out]; exact ml_lit V7 _ _ _)
  have HV11 := Box.mk (show Below V7.heap.size V7 V11 by rw [hV11]; exact ((((Below.refl _ _).alloc (Nat.le_refl _) _).alloc (by simp) _).alloc (by simp; omega) _).alloc (by simp; omega) _)
  have h411 := below_tr h47 HV11.out
  have HSM := Box.mk (same12_any (.agg #[.slice na 2 nc, .slice fa 2 fc]) (.agg #[.slice (some ⟨w5.heap.size + 1 + 1 + 1, 0, none⟩) 2 2, .slice (some ⟨w5.heap.size + 1 + 1 + 1 + 1, 0, none⟩) 2 2]) M012 M012 V11 (HM4.out.below h411) HML.out fit12 fit12 |> fun h => yes_of h rfl)
  have HB11 := Box.mk (below_tr HB5.out (below_tr HV7.out HV11.out))
  have HG11 := Box.mk (HG4'.out.below h411)
  have HF11 := Box.mk (HFI.out.below h411)
  have hmb7 := HMB4.out.below h46 HMB4.out.lt
  have c0 : w5.cell? ⟨w2.heap.size, 0, none⟩ = some (.slice na 2 nc) := (hmb7.cell 0).trans rfl
  have c1 : w5.cell? ⟨w2.heap.size, 1, none⟩ = some (.slice fa 2 fc) := (hmb7.cell 1).trans rfl
  have l0 := hmb7.lt
  rw [HS7.out] at hV11
  clear hb5 hra5 hia5 h46 h47 h411 hmb7 p0 p1 p2 p3 p4 pl
  go_wp2_with fail
  rw [← hV7, ← hV11]
  clear hV7 hV11 c0 c1 l0
  refine HSM.out.mono ?_; rintro e w6 ⟨rfl, hb6⟩
  obtain ⟨V12, hV12⟩ : ∃ V12, V12 = w6.alloc (.cells #[.int .i64 0, .int .i64 1, .int .i64 0, .int .i64 1, .int .i64 0] 3) := ⟨_, rfl⟩
  have h612 : Below w6.heap.size w6 V12 := by rw [hV12]; exact alloc_below _ _
  have HI12 := Box.mk (show IntsAt V12 (.slice (some ⟨w6.heap.size, 0, none⟩) 5 5) [0, 1, 0, 1, 0] by rw [hV12]; exact ints_lit w6 [0, 1, 0, 1, 0] 3 5 rfl (by omega) _ rfl)
  have HE12 := Box.mk (ints_eq (.slice ga 5 gc) (.slice (some ⟨w6.heap.size, 0, none⟩) 5 5) [0, 1, 0, 1, 0] [0, 1, 0, 1, 0] V12 (HG11.out.below (below_tr hb6 h612)) HI12.out (by simp) (by simp) |> fun h => yes_of h rfl)
  have HB12 := Box.mk (below_tr HB11.out (below_tr hb6 h612))
  have HF12 := Box.mk (HF11.out.below (below_tr hb6 h612))
  clear hb6 h612
  go_wp2_with fail
  rw [← hV12]
  clear hV12
  refine HE12.out.mono ?_; rintro e w7 ⟨rfl, hb7⟩
  obtain ⟨V13, hV13⟩ : ∃ V13, V13 = w7.alloc (.cells #[.int .i64 0, .int .i64 1, .int .i64 0] 2) := ⟨_, rfl⟩
  have h713 : Below w7.heap.size w7 V13 := by rw [hV13]; exact alloc_below _ _
  have HI13 := Box.mk (show IntsAt V13 (.slice (some ⟨w7.heap.size, 0, none⟩) 3 3) [0, 1, 0] by rw [hV13]; exact ints_lit w7 [0, 1, 0] 2 3 rfl (by omega) _ rfl)
  have HE13 := Box.mk (lsets12_eq (.slice ha 3 hc) (.slice (some ⟨w7.heap.size, 0, none⟩) 3 3) [0, 1, 0] [0, 1, 0] V13 (HF12.out.below (below_tr hb7 h713)) HI13.out (by simp) (by simp) |> fun h => yes_of h rfl)
  have HB13 := Box.mk (below_tr HB12.out (below_tr hb7 h713))
  clear hb7 h713
  go_wp2_with fail
  rw [← hV13]
  clear hV13
  refine HE13.out.mono ?_; rintro e w8 ⟨rfl, hb8⟩
  have HB14 := Box.mk (below_tr HB13.out hb8)
  clear hb8
  go_wp2_with fail
  go_ret
  exact ⟨rfl, HB14.out⟩
end Go.Proofs.YtjemdepcaaadiaaDoor

/- WHAT THE CARDS OF THIS SEAT SHARE: the sentinels that the rows lay, a world that holds them, and the wrap from a walk that answers true to a row. -/
namespace Go.Proofs.YtjemdepcaaadiaaDoor
open Go.ChangeShapes Go.WideShapes Go.ChangeAt Go.RowKit

section
variable {H : Type} {enc : TypeId × Value → H} {P : Program}
theorem post_of_below {f : Func} {s : ChangeSpec} {apart fresh handsOn again : Bool} {W W' : World} {args : Array Value} {v : Value} {ds gs : List (DataW H)} {before pa pv : List MemPlace}
    (hW : DataW.Whole enc P f.params.toList s.vars apart W args.toList ds gs before)
    (hres : ∀ (b : Nat) (sp : Nat → Bool) (hd : Bool), DataW.TrodAll enc P W' b sp hd f.resultTypes.toList (v.resultList f.resultTypes.size) (s.fn H (ds ++ gs)).results [])
    (hargs : ∀ sp : Nat → Bool, (∀ p ∈ before, sp p.block = true) → DataW.TrodAll enc P W' 0 sp true f.params.toList args.toList (s.fn H (ds ++ gs)).args pa)
    (hvars : ∀ sp : Nat → Bool, (∀ p ∈ before, sp p.block = true) → DataW.TrodVars enc P W' sp s.vars (s.fn H (ds ++ gs)).vars pv)
    (hps : before = pa ++ pv) (hb : Below W.heap.size W W')
    (hok : ∀ (j : Nat) (t : TypeId) (r : Value), f.resultTypes[j]? = some t → (v.resultList f.resultTypes.size)[j]? = some r → Value.okWide P W' .any 0 t r) :
    s.post enc P f apart fresh handsOn again W args v W' := by
  have hlt : ∀ p ∈ before, p.block < W.heap.size := fun p hp => hW.lt p hp
  have hold : ∀ p ∈ before, (fun b => decide (b < W.heap.size)) p.block = true := fun p hp => by simpa using hlt p hp
  refine ⟨ds, gs, before, [], pa, pv, hW, hres _ _ _, hargs _ hold, hvars _ hold, World.keptBut_mono (fun p hp => ⟨hp, ?_⟩) (hb.frame (· ∈ before)), fun _ => ?_⟩
  · rw [hps, List.mem_append] at hp
    exact Or.inr hp
  · obtain ⟨_, _, _, _, _, hz, hn⟩ := hW
    refine ⟨hok, _, _, ([] ++ pa) ++ pv, ⟨[] ++ pa, pv, trodAll_append (hargs _ (fun _ _ => rfl)) (hres _ _ _), hvars _ (fun _ _ => rfl), rfl, ?_, ?_⟩, ?_⟩
    · intro b off hp
      have hin : MemPlace.cell b off ∈ before := by rw [hps]; simpa using hp
      rw [hb.frozen (hlt _ hin)]
      exact hz b off hin
    · intro ha
      have := hn ha
      rw [hps] at this
      simpa using this
    · intro p hp _
      rw [hps]
      simpa using hp
end

theorem own : ownKnob Tryd.prog.godebug = none := by kernel_rfl
theorem cellsErr : Tryd.prog.cellsOf 202 = 1 := by kernel_rfl
theorem cellsStr : Tryd.prog.cellsOf 9 = 1 := by kernel_rfl
theorem starErr : "*" ++ "errors.errorString" = "*errors.errorString" := by decide
theorem rowErr (u : TypeId) (h : Tryd.prog.typeName? 3 u = some "*errors.errorString") : u = 177 :=
  typeName_ptr_named (nm := "errors.errorString") (by rw [starErr]; kernel_rfl) (by kernel_rfl) (by decide) u (by rw [starErr]; exact h)
theorem gN0 : Tryd.prog.globalNamed "virama/nfa.errPattern" = some 2 ∧ (Tryd.prog.globals[2]?).map (·.type) = some 61 := ⟨by kernel_rfl, by kernel_rfl⟩
theorem gN1 : Tryd.prog.globalNamed "virama/dfa.errRule" = some 0 ∧ (Tryd.prog.globals[0]?).map (·.type) = some 61 := ⟨by kernel_rfl, by kernel_rfl⟩
theorem gN2 : Tryd.prog.globalNamed "virama/dfa.errMachine" = some 1 ∧ (Tryd.prog.globals[1]?).map (·.type) = some 61 := ⟨by kernel_rfl, by kernel_rfl⟩
/-- the sentinels: names, numbers, texts -/
def sentList : List Sent := [("virama/nfa.errPattern", 2, [110, 111, 32, 112, 97, 116, 116, 101, 114, 110]), ("virama/dfa.errRule", 0, [110, 111, 32, 114, 117, 108, 101, 115]), ("virama/dfa.errMachine", 1, [110, 111, 32, 109, 97, 99, 104, 105, 110, 101])]
noncomputable def low : Nat := (World.holding Tryd.prog default ⟨#[], #[], []⟩).heap.size
noncomputable def laidWorld (os : Os) : World :=
  let w0 := World.holding Tryd.prog os ⟨#[(.cells #[.string { data := #[110, 111, 32, 112, 97, 116, 116, 101, 114, 110] }] 202 : Obj), (.cells #[.string { data := #[110, 111, 32, 114, 117, 108, 101, 115] }] 202 : Obj), (.cells #[.string { data := #[110, 111, 32, 109, 97, 99, 104, 105, 110, 101] }] 202 : Obj)], #[], []⟩
  { w0 with heap := (((w0.heap.modify 2 fun
      | .cells _ t frozen => .cells #[.iface 177 (.pointer (some ⟨low + 0, 0, none⟩))] t frozen
      | o => o).modify 0 fun
      | .cells _ t frozen => .cells #[.iface 177 (.pointer (some ⟨low + 1, 0, none⟩))] t frozen
      | o => o).modify 1 fun
      | .cells _ t frozen => .cells #[.iface 177 (.pointer (some ⟨low + 2, 0, none⟩))] t frozen
      | o => o) }
set_option maxRecDepth 100000 in
theorem laid_met (os : Os) (args : Array Value) : laidMet Tryd.prog Rows.dfaCompilesRow.laid ((laidWorld os).forCall (fun _ _ => 0) ⟨#[], args, []⟩).memory :=
  laidMet_of_run (ps := [.cell 2 0, .cell (low + 0) 0, .cell 0 0, .cell (low + 1) 0, .cell 1 0, .cell (low + 2) 0]) 8 (by kernel_rfl) (by kernel_rfl) (by kernel_rfl)

/-- where the variables' errors lie -/
theorem Env_of_laid {W : World} (hL : laidMetH Tryd.prog Rows.dfaCompilesRow.laid W) : ∃ A : Nat → Addr, Env (sentList.map (·.2.1)) 177 A W.heap.size W :=
  Env_of_list Tryd.underlying61 rowErr Tryd.underlying177 Tryd.underlying202 rfl rfl Tryd.underlying9 cellsErr cellsStr sentList
    (List.forall_mem_cons.2 ⟨gN0, List.forall_mem_cons.2 ⟨gN1, List.forall_mem_cons.2 ⟨gN2, fun _ h => absurd h List.not_mem_nil⟩⟩⟩) hL
theorem E_of_laid {W : World} (hL : laidMetH Tryd.prog Rows.dfaCompilesRow.laid W) : ∃ A : Nat → Addr, Sd A W.heap.size W := by
  obtain ⟨A, h⟩ := Env_of_laid hL
  exact ⟨A, env_sub h (by decide), env_sub h (by decide), Nat.le_refl _⟩
end Go.Proofs.YtjemdepcaaadiaaDoor

/- A call that answers true and changes nothing of what was there: its arguments read as they did, whatever they are. -/
namespace Go.Proofs.YtjemdepcaaadiaaDoor
open Go.ChangeShapes Go.WideShapes Go.ChangeAt Go.RowKit

section
variable {H : Type} {enc : TypeId × Value → H} {P : Program}
theorem args_stay (hl : laidOutB P = true) {W W' : World} (hb : Below W.heap.size W W') : ∀ (ts : List TypeId) {vs : List Value} {ds : List (DataW H)} {ps : List MemPlace}, (∀ t ∈ ts, P.readableRec t = true ∧ t < P.types.size) →
    DataW.TrodAll enc P W 0 (fun _ => true) true ts vs ds ps → (∀ p ∈ ps, p.block < W.heap.size) → ∀ sp : Nat → Bool, (∀ p ∈ ps, sp p.block = true) → DataW.TrodAll enc P W' 0 sp true ts vs ds ps
  | [], vs, ds, ps, _, h, _, sp, _ => by
    obtain ⟨rfl, rfl, rfl⟩ := trodAll_nil h
    exact trodAll_mk0
  | t :: ts, vs, ds, ps, hr, h, hlt, sp, hs => by
    obtain ⟨v, vs', d, ds', p, q, rfl, rfl, rfl, h1, h2⟩ := trodAll_cons h
    have ht := hr t (List.mem_cons_self ..)
    exact trodAll_cons_mk (WideElems.Trod_stays hl ht.1 ht.2 h1 (fun x hx => hb.same (hlt x (List.mem_append_left _ hx))) (fun x hx => hs x (List.mem_append_left _ hx)))
      (args_stay hl hb ts (fun t' h' => hr t' (List.mem_cons_of_mem _ h')) h2 (fun x hx => hlt x (List.mem_append_right _ hx)) sp (fun x hx => hs x (List.mem_append_right _ hx)))

theorem post_true {f : Func} {s : ChangeSpec} {apart fresh handsOn again : Bool} {W W' : World} {args : Array Value} {ds : List (DataW H)} {before : List MemPlace} {tb : TypeId} (hl : laidOutB P = true)
    (hv : s.vars = []) (hW : DataW.Whole enc P f.params.toList s.vars apart W args.toList ds [] before) (hb : Below W.heap.size W W') (htb : P.underlying tb = some .bool) (hr : f.resultTypes = #[tb])
    (hread : ∀ t ∈ f.params.toList, P.readableRec t = true ∧ t < P.types.size) (hs : s.fn H ds = { results := [.lit (.bool true)], args := ds }) :
    s.post enc P f apart fresh handsOn again W args (.bool true) W' := by
  have hW' := hW
  obtain ⟨p, q, hA, hV, he, hfz, hnd⟩ := hW
  rw [hv] at hV
  obtain ⟨-, rfl⟩ := trodVars_none hV
  rw [List.append_nil] at he
  subst he
  have hlt : ∀ x ∈ before, x.block < W.heap.size := fun x hx => hW'.lt x hx
  have hs' : s.fn H (ds ++ []) = { results := [.lit (.bool true)], args := ds } := by rw [List.append_nil]; exact hs
  refine post_of_below (pa := before) (pv := []) hW' ?_ ?_ ?_ (by simp) hb (ok_one hr rfl (okWide_bool_mk htb _))
  · intro b sp hd
    rw [hs', hr]
    exact trodAll_mk1 (shut_bool htb _)
  · intro sp hsp
    rw [hs']
    exact args_stay hl hb _ hread hA hlt sp hsp
  · intro sp _
    rw [hs', hv]
    rfl
end
end Go.Proofs.YtjemdepcaaadiaaDoor

/- A PATTERN THAT COMES IN: what it reads as. -/
namespace Go.Proofs.YtjemdepcaaadiaaDoor
open Go.RowKit Go.ChangeShapes Go.WideShapes Go.Deep

section
variable {H : Type} {enc : TypeId × Value → H} {W : World}
theorem addr_add (b off i : Nat) : (⟨b, off, none⟩ : Addr).add i = ⟨b, off + i, none⟩ := by
  unfold Addr.add; by_cases h0 : i = 0 <;> simp [h0]
set_option maxRecDepth 100000 in
theorem ItemsAt.open {v : Value} {fuel : Nat} {x : DataW H × List MemPlace} (hf : DataW.trod enc Tryd.prog W 0 (fun _ => true) true fuel 42 [v] = some x) : ∃ l, ItemsAt W v l := by
  rcases open_slice_pairs Tryd.underlying42 Tryd.underlying79 (by kernel_rfl) rfl rfl (by kernel_rfl) (by kernel_rfl) hf with ⟨h1, _⟩ | ⟨a, len, cap, m, n, V0, V1, D0, D1, P0, P1, h1, _, h2, h3, h4, _, h5⟩
  · simp only [List.cons.injEq, and_true] at h1
    exact ⟨[], .inl ⟨h1, rfl⟩⟩
  · simp only [List.cons.injEq, and_true] at h1
    subst h1
    simp only [if_true] at h4
    subst h4
    have key : ∀ i, i < m → ∃ y : N.Item, W.cell? (a.add (i * 2)) = some (.int .i64 y.1) ∧ W.cell? (a.add (i * 2 + 1)) = some (.int .i64 y.2) := by
      intro i hi
      obtain ⟨c0, c1, t0, t1⟩ := h5 i hi
      obtain ⟨k0, e0, _⟩ := DataW.trod_int Tryd.underlying2 t0
      obtain ⟨k1, e1, _⟩ := DataW.trod_int Tryd.underlying3 t1
      simp only [List.cons.injEq, and_true] at e0 e1
      exact ⟨(k0, k1), by rw [c0, e0], by rw [c1, e1]⟩
    let g : Nat → N.Item := fun i => if h : i < m then (key i h).choose else (0, 0)
    have hg : ∀ i, i < m → W.cell? (a.add (i * 2)) = some (.int .i64 (g i).1) ∧ W.cell? (a.add (i * 2 + 1)) = some (.int .i64 (g i).2) := by
      intro i hi
      have : g i = (key i hi).choose := by simp [g, hi]
      rw [this]
      exact (key i hi).choose_spec
    obtain ⟨b, off, sp⟩ := a
    have hlen : ((List.range len).map g).length = len := by simp
    refine ⟨(List.range len).map g, .inr ⟨b, off, sp, m, by rw [hlen], by rw [hlen]; exact h2, h3, fun hn => ?_⟩⟩
    have h0 : 0 < len := by
      rcases Nat.eq_zero_or_pos len with h | h
      · subst h; exact absurd rfl hn
      · exact h
    have hc0 := (hg 0 (by omega)).1
    have hsp : sp = none := World.cell?_spot (a := (⟨b, off, sp⟩ : Addr).add (0 * 2)) hc0
    subst hsp
    refine ⟨rfl, World.block_lt_of_cell? _ _ hc0, fun i y hy => ?_⟩
    rw [List.getElem?_map] at hy
    obtain ⟨j, hj, rfl⟩ := Option.map_eq_some_iff.1 hy
    obtain ⟨hi, rfl⟩ := List.getElem?_eq_some_iff.1 hj
    simp only [List.length_range] at hi
    simp only [List.getElem_range]
    have := hg i (by omega)
    rw [addr_add b off, addr_add b off] at this
    exact this
set_option maxRecDepth 100000 in
theorem pat_open {base : Nat} {v : Value} {d : DataW H} {p : List MemPlace} (hv : Value.okWide Tryd.prog W .any base 44 v) (h : DataW.Trod enc Tryd.prog W 0 (fun _ => true) true 44 v d p) :
    ∃ (st : Bool) (v' : Value) (l : List N.Item), v = .agg #[.bool st, v'] ∧ ItemsAt W v' l := by
  obtain ⟨v0, v1, y0, y1, n, rfl, -, -, h0, h1⟩ := Go.Joins.open_agg2 Tryd.underlying44 (by kernel_rfl) (by kernel_rfl) hv h
  obtain ⟨st, e0, _⟩ := DataW.trod_bool Tryd.underlying4 h0
  simp only [List.cons.injEq, and_true] at e0
  subst e0
  obtain ⟨l, hl⟩ := ItemsAt.open h1
  exact ⟨st, v1, l, rfl, hl⟩
end
end Go.Proofs.YtjemdepcaaadiaaDoor

/- RULES AND MACHINES THAT COME IN: what they read as. -/
namespace Go.Proofs.YtjemdepcaaadiaaDoor
open Go.RowKit Go.ChangeShapes Go.WideShapes Go.Deep

section
variable {H : Type} {enc : TypeId × Value → H} {W : World}
set_option maxRecDepth 100000 in
theorem pat_cells {fuel : Nat} {cs : List Value} {x : DataW H × List MemPlace} (h : DataW.trod enc Tryd.prog W 0 (fun _ => true) true fuel 44 cs = some x) :
    ∃ (st : Bool) (v : Value) (l : List N.Item), cs = [.bool st, v] ∧ ItemsAt W v l := by
  obtain ⟨y0, y1, n, rfl, hl, h0, h1⟩ := trod_struct2 Tryd.underlying44 h
  have hl2 : cs.length = 2 := hl.trans (by kernel_rfl)
  match cs, hl2 with
  | [c0, c1], _ =>
    obtain ⟨st, e0, _⟩ := DataW.trod_bool Tryd.underlying4 h0
    obtain ⟨l, hli⟩ := ItemsAt.open h1
    have e0' : [c0] = [.bool st] := e0
    simp only [List.cons.injEq, and_true] at e0'
    subst e0'
    exact ⟨st, c1, l, rfl, hli⟩
set_option maxRecDepth 100000 in
theorem rule_cells {fuel : Nat} {cs : List Value} {x : DataW H × List MemPlace} (h : DataW.trod enc Tryd.prog W 0 (fun _ => true) true fuel 46 cs = some x) :
    ∃ (y : D.Rule) (vl vr : Value), cs = [.bool y.1.1, vl, .bool y.2.1.1, vr, .bool y.2.2] ∧ ItemsAt W vl y.1.2 ∧ ItemsAt W vr y.2.1.2 := by
  obtain ⟨y0, y1, y2, n, rfl, hl, h0, h1, h2⟩ := trod_struct3 Tryd.underlying46 h
  have hl5 : cs.length = 5 := hl.trans (by kernel_rfl)
  match cs, hl5 with
  | [c0, c1, c2, c3, c4], _ =>
    obtain ⟨sl, vl, ll, e0, hi0⟩ := pat_cells (cs := [c0, c1]) h0
    obtain ⟨sr, vr, lr, e1, hi1⟩ := pat_cells (cs := [c2, c3]) h1
    obtain ⟨br, e2, _⟩ := DataW.trod_bool Tryd.underlying4 h2
    have e2' : [c4] = [.bool br] := e2
    simp only [List.cons.injEq, and_true] at e0 e1 e2'
    obtain ⟨rfl, rfl⟩ := e0
    obtain ⟨rfl, rfl⟩ := e1
    subst e2'
    exact ⟨((sl, ll), (sr, lr), br), _, _, rfl, hi0, hi1⟩
set_option maxRecDepth 100000 in
theorem RulesAt.open {fuel : Nat} {v : Value} {x : DataW H × List MemPlace} (h : DataW.trod enc Tryd.prog W 0 (fun _ => true) true fuel 22 [v] = some x) : ∃ l, RulesAt W v l := by
  have ce : Tryd.prog.cellsOf 46 = 5 := by kernel_rfl
  rcases open_slice Tryd.underlying22 h with ⟨h1, _⟩ | ⟨a, len, cap, m, n, Dd, Pl, h1, _, h2, h3, h4, _, h5⟩
  · simp only [List.cons.injEq, and_true] at h1
    exact ⟨[], .inl ⟨h1, rfl⟩⟩
  · simp only [List.cons.injEq, and_true] at h1
    subst h1
    simp only [if_true] at h4
    subst h4
    rw [ce] at h5
    have key : ∀ i, i < m → ∃ q : D.Rule × Value × Value, (∀ j u, [Value.bool q.1.1.1, q.2.1, .bool q.1.2.1.1, q.2.2, .bool q.1.2.2][j]? = some u → W.cell? ((a.add (i * 5)).add j) = some u) ∧ ItemsAt W q.2.1 q.1.1.2 ∧ ItemsAt W q.2.2 q.1.2.1.2 := by
      intro i hi
      obtain ⟨cs', h6, h7⟩ := h5 i hi
      obtain ⟨_, hlen, hcell⟩ := World.cells?_some h6
      obtain ⟨y, vl, vr, rfl, h8, h9⟩ := rule_cells h7
      refine ⟨(y, vl, vr), fun j u hu => ?_, h8, h9⟩
      have hj : j < 5 := (List.getElem?_eq_some_iff.1 hu).1
      rw [hcell j hj]
      exact hu
    obtain ⟨q, hq⟩ := choose_lt key
    obtain ⟨b, off, sp⟩ := a
    have hlen : ((List.range len).map fun i => (q i).1).length = len := by simp
    refine ⟨(List.range len).map fun i => (q i).1, .inr ⟨b, off, sp, m, by rw [hlen], by rw [hlen]; exact h2, h3, fun hn => ?_⟩⟩
    have h0 : 0 < len := by
      rcases Nat.eq_zero_or_pos len with h | h
      · subst h; exact absurd rfl hn
      · exact h
    have hc0 := (hq 0 (by omega)).1 0 _ rfl
    have hsp : sp = none := World.cell?_spot (a := ((⟨b, off, sp⟩ : Addr).add (0 * 5)).add 0) hc0
    subst hsp
    refine ⟨rfl, World.block_lt_of_cell? _ _ hc0, fun i y hy => ?_⟩
    rw [List.getElem?_map] at hy
    obtain ⟨j, hj, rfl⟩ := Option.map_eq_some_iff.1 hy
    obtain ⟨hi, rfl⟩ := List.getElem?_eq_some_iff.1 hj
    simp only [List.length_range] at hi
    simp only [List.getElem_range]
    obtain ⟨k1, k2, k3⟩ := hq i (by omega)
    have hc : ∀ j u, [Value.bool (q i).1.1.1, (q i).2.1, .bool (q i).1.2.1.1, (q i).2.2, .bool (q i).1.2.2][j]? = some u → W.cell? ⟨b, off + i * 5 + j, none⟩ = some u := fun j u hu => by
      have := k1 j u hu
      rw [addr_add b off, addr_add b] at this
      exact this
    exact ⟨(q i).2.1, (q i).2.2, hc 0 _ rfl, hc 1 _ rfl, hc 2 _ rfl, hc 3 _ rfl, hc 4 _ rfl, k2, k3⟩
set_option maxRecDepth 100000 in
theorem ints_cells {fuel : Nat} {v : Value} {x : DataW H × List MemPlace} {t e : TypeId} (ht : Tryd.prog.underlying t = some (.slice e)) (he : Tryd.prog.underlying e = some (.int .i64)) (hc : Tryd.prog.cellsOf e = 1)
    (h : DataW.trod enc Tryd.prog W 0 (fun _ => true) true fuel t [v] = some x) : ∃ l, IntsAt W v l := by
  rcases Go.ChangeShapes.open_ints ht he hc h with ⟨h1, _⟩ | ⟨a, len, cap, zs, h1, _, h2, h3, h4, _, h5, _⟩
  · simp only [List.cons.injEq, and_true] at h1
    exact ⟨[], .inl ⟨h1, rfl⟩⟩
  · simp only [List.cons.injEq, and_true] at h1
    subst h1
    simp only [if_true] at h4
    have hl : (zs.take len).length = len := by rw [List.length_take]; omega
    obtain ⟨b, off, sp⟩ := a
    refine ⟨zs.take len, .inr ⟨b, off, sp, cap, by rw [hl], by rw [hl]; exact h2, h3, fun hn => ?_⟩⟩
    have h0 : 0 < zs.length := by
      rcases Nat.eq_zero_or_pos zs.length with h | h
      · exact absurd (by rw [List.eq_nil_of_length_eq_zero h]; simp) hn
      · exact h
    have hc0 := h5 0 h0
    have hsp : sp = none := World.cell?_spot (a := (⟨b, off, sp⟩ : Addr).add 0) hc0
    subst hsp
    refine ⟨rfl, World.block_lt_of_cell? _ _ hc0, fun i x hx => ?_⟩
    rw [List.getElem?_take] at hx
    split at hx
    · have hi : i < zs.length := (List.getElem?_eq_some_iff.1 hx).1
      have := h5 i hi
      rw [show (⟨b, off + i, none⟩ : Addr) = (⟨b, off, none⟩ : Addr).add i by unfold Addr.add; by_cases h0 : i = 0 <;> simp [h0], this, List.getD, hx]
      rfl
    · cases hx
set_option maxRecDepth 100000 in
theorem RowsAt.open {fuel : Nat} {v : Value} {x : DataW H × List MemPlace} (h : DataW.trod enc Tryd.prog W 0 (fun _ => true) true fuel 25 [v] = some x) : ∃ l, RowsAt W v l := by
  rcases open_slice1 Tryd.underlying25 (by kernel_rfl) h with ⟨h1, _⟩ | ⟨a, len, cap, m, n, V, Dd, Pl, h1, _, h2, h3, h4, _, h5⟩
  · simp only [List.cons.injEq, and_true] at h1
    exact ⟨[], .inl ⟨h1, rfl⟩⟩
  · simp only [List.cons.injEq, and_true] at h1
    subst h1
    simp only [if_true] at h4
    subst h4
    have key : ∀ i, i < m → ∃ q : List Int, W.cell? (a.add i) = some (V i) ∧ IntsAt W (V i) q := fun i hi => by
      obtain ⟨k1, k2⟩ := h5 i hi
      obtain ⟨q, hq⟩ := ints_cells Tryd.underlying34 Tryd.underlying3 (by kernel_rfl) k2
      exact ⟨q, k1, hq⟩
    obtain ⟨q, hq⟩ := choose_lt key
    obtain ⟨b, off, sp⟩ := a
    have hlen : ((List.range len).map q).length = len := by simp
    refine ⟨(List.range len).map q, .inr ⟨b, off, sp, m, by rw [hlen], by rw [hlen]; exact h2, h3, fun hn => ?_⟩⟩
    have h0 : 0 < len := by
      rcases Nat.eq_zero_or_pos len with h | h
      · subst h; exact absurd rfl hn
      · exact h
    have hc0 := (hq 0 (by omega)).1
    have hsp : sp = none := World.cell?_spot (a := (⟨b, off, sp⟩ : Addr).add 0) hc0
    subst hsp
    refine ⟨rfl, World.block_lt_of_cell? _ _ hc0, fun i y hy => ?_⟩
    rw [List.getElem?_map] at hy
    obtain ⟨j, hj, rfl⟩ := Option.map_eq_some_iff.1 hy
    obtain ⟨hi, rfl⟩ := List.getElem?_eq_some_iff.1 hj
    simp only [List.length_range] at hi
    simp only [List.getElem_range]
    obtain ⟨k1, k2⟩ := hq i (by omega)
    rw [addr_add b off] at k1
    exact ⟨_, k1, k2⟩
set_option maxRecDepth 100000 in
theorem mach_open {base : Nat} {v : Value} {d : DataW H} {p : List MemPlace} (hv : Value.okWide Tryd.prog W .any base 28 v) (h : DataW.Trod enc Tryd.prog W 0 (fun _ => true) true 28 v d p) :
    ∃ M : D.Mach, MachAt W v M := by
  obtain ⟨v0, v1, y0, y1, n, rfl, -, -, h0, h1⟩ := Go.Joins.open_agg2 Tryd.underlying28 (by kernel_rfl) (by kernel_rfl) hv h
  obtain ⟨l0, hl0⟩ := RowsAt.open h0
  obtain ⟨l1, hl1⟩ := ints_cells Tryd.underlying26 Tryd.underlying2 (by kernel_rfl) h1
  exact ⟨(l0, l1), v0, v1, rfl, hl0, hl1⟩
set_option maxRecDepth 100000 in
theorem rules_open {base : Nat} {v : Value} {d : DataW H} {p : List MemPlace} (hv : Value.okWide Tryd.prog W .any base 22 v) (h : DataW.Trod enc Tryd.prog W 0 (fun _ => true) true 22 v d p) :
    ∃ l, RulesAt W v l := by
  obtain ⟨a0, len0, cap0, rfl⟩ := Go.WideShapes.okWide_slice Tryd.underlying22 hv
  obtain ⟨fuel, hf⟩ := h
  exact RulesAt.open hf
end
end Go.Proofs.YtjemdepcaaadiaaDoor

/- THE LAWS OF LAYER 12, WALKED: rules' machines. -/
namespace Go.Proofs.YtjemdepcaaadiaaDoor
open Go.RowKit Go.Shelf
attribute [local go_sem] Oper.semAt_some

theorem few12_len (l : List D.Rule) : (few12 l).length ≤ 6 := by unfold few12; rw [List.length_take]; omega
theorem few12_fit (l : List D.Rule) : ∀ x ∈ few12 l, ruleFit x := by
  intro x hx
  unfold few12 few11 at hx
  obtain ⟨y, -, rfl⟩ := List.mem_map.1 (List.mem_of_mem_take hx)
  unfold ruleFit cutR
  simp only [List.length_take]
  omega
theorem build_rows (sd : List D.Side) (n : Nat) : ∀ k, ∀ r ∈ (D.build sd n k).next, r.length = n + 1
  | 0, r, h => absurd h List.not_mem_nil
  | k + 1, r, h => by
    have e : D.build sd n (k + 1) = (D.build sd n k).go sd n := rfl
    rw [e] at h
    unfold D.Bld.go at h
    split at h
    · exact build_rows sd n k r h
    · rcases List.mem_append.1 h with h | h
      · exact build_rows sd n k r h
      · rw [List.mem_singleton.1 h, D.row_len]
theorem compM_fit (rs : List D.Rule) (n : Int) : MachFit (compM rs n) := by
  unfold compM
  split
  · rename_i h
    rw [Bool.and_eq_true] at h
    obtain ⟨h1, h2, h3, -⟩ := rulesB_parts h.1
    have hf : (D.build (lefts rs) n.toNat 300).todo.length ≤ 300 := of_decide_eq_true h.2
    have hl := D.build_len (lefts rs) n.toNat 300
    have hr := build_rows (lefts rs) n.toNat 300
    unfold machOf machB MachFit
    generalize D.build (lefts rs) n.toNat 300 = BB at *
    refine ⟨by simp only [List.length_map]; omega, by simp only [List.length_map]; omega, fun r hr' => ?_⟩
    obtain ⟨r0, h5, rfl⟩ := List.mem_map.1 hr'
    rw [List.length_map, hr r0 h5]
    omega
  · exact ⟨by decide, by decide, fun r hr => absurd hr List.not_mem_nil⟩

set_option maxRecDepth 100000 in
set_option maxHeartbeats 4000000 in
theorem law_DfaCompiles (A : Nat → Addr) (B : Nat) (v : Value) (rs : List D.Rule) (n : Int) (w : World) (hv : RulesAt w v rs) (hS : Sd A B w) :
    Calls Tryd.prog 3 #[v, .int .i64 n] w fun e w' => e = .returned (.bool true) ∧ Below w.heap.size w w' := by
  have HS := Box.mk hS
  have HV := Box.mk hv
  obtain ⟨ao, cap, rfl⟩ := hv.slice
  clear hS hv
  go_enter Tryd.func3, Tryd.ntmps3
  go_wp2_with fail
  refine (shown12_any A B w HS.out).mono ?_; rintro e w1 ⟨rfl, hb1⟩
  have HF := Box.mk (few12_any _ rs w1 (HV.out.below hb1))
  have HB1 := Box.mk hb1
  clear hb1
  go_wp2_with fail
  refine HF.out.mono ?_; rintro e w2 ⟨hb2, v', rfl, hr2⟩
  obtain ⟨R, hR⟩ : ∃ R, few12 rs = R := ⟨_, rfl⟩
  have HRF := Box.mk (show (∀ x ∈ R, ruleFit x) ∧ R.length ≤ 16777216 by rw [← hR]; exact ⟨few12_fit rs, by have := few12_len rs; omega⟩)
  rw [hR] at hr2
  have HR2 := Box.mk hr2
  have HB2 := Box.mk (below_tr HB1.out hb2)
  obtain ⟨ro, rc, rfl⟩ := hr2.slice
  have HC := Box.mk (compile_any A B _ R n w2 HRF.out.1 HR2.out HRF.out.2 (HS.out.below HB2.out).e (HS.out.below HB2.out).d (HS.out.below HB2.out).le)
  clear hb2 hr2 hR
  go_wp2_with fail
  refine HC.out.mono ?_; rintro e w3 ⟨hb3, m1, rfl, hm1⟩
  have HM1 := Box.mk hm1
  obtain ⟨nv1, fv1, rfl, hra, hia⟩ := hm1
  obtain ⟨na1, nc1, rfl⟩ := hra.slice
  obtain ⟨fa1, fc1, rfl⟩ := hia.slice
  obtain ⟨V3, hV3⟩ : ∃ V3, V3 = w3.alloc (.cells #[.slice na1 (compM R n).1.length nc1, .slice fa1 (compM R n).2.length fc1] 28) := ⟨_, rfl⟩
  have h33 : Below w3.heap.size w3 V3 := by rw [hV3]; exact alloc_below _ _
  have HB3 := Box.mk (below_tr HB2.out (below_tr hb3 h33))
  have HM1' := Box.mk (HM1.out.below h33)
  have HK1 := Box.mk (show Blk V3 w3.heap.size 28 #[.slice na1 (compM R n).1.length nc1, .slice fa1 (compM R n).2.length fc1] by rw [hV3]; exact Blk.new _ _ _)
  have HC2 := Box.mk (compile12_any _ R n V3 HRF.out.1 (HR2.out.below (below_tr hb3 h33)) HRF.out.2)
  clear hb3 hra hia h33
  go_wp2_with fail
  rw [← hV3]
  clear hV3
  refine HC2.out.mono ?_; rintro e w4 ⟨hb4, m2, rfl, hm2⟩
  have HM2 := Box.mk hm2
  obtain ⟨nv2, fv2, rfl, hra, hia⟩ := hm2
  obtain ⟨na2, nc2, rfl⟩ := hra.slice
  obtain ⟨fa2, fc2, rfl⟩ := hia.slice
  have HK2 := Box.mk (HK1.out.below hb4 HK1.out.lt)
  have c0 : w4.cell? ⟨w3.heap.size, 0, none⟩ = some (.slice na1 (compM R n).1.length nc1) := (HK2.out.cell 0).trans rfl
  have c1 : w4.cell? ⟨w3.heap.size, 1, none⟩ = some (.slice fa1 (compM R n).2.length fc1) := (HK2.out.cell 1).trans rfl
  have l0 := HK2.out.lt
  obtain ⟨V4, hV4⟩ : ∃ V4, V4 = w4.alloc (.cells #[.slice na2 (compM R n).1.length nc2, .slice fa2 (compM R n).2.length fc2] 28) := ⟨_, rfl⟩
  have h44 : Below w4.heap.size w4 V4 := by rw [hV4]; exact alloc_below _ _
  have HB4 := Box.mk (below_tr HB3.out (below_tr hb4 h44))
  have HSM := Box.mk (same12_any _ _ (compM R n) (compM R n) V4 (HM1'.out.below (below_tr hb4 h44)) (HM2.out.below h44) (compM_fit R n) (compM_fit R n) |> fun h => yes_of h rfl)
  clear hb4 hra hia h44
  go_wp2_with fail
  rw [← hV4]
  clear hV4 c0 c1 l0
  refine HSM.out.mono ?_; rintro e w5 ⟨rfl, hb5⟩
  have HB5 := Box.mk (below_tr HB4.out hb5)
  clear hb5
  go_wp2_with fail
  go_ret
  exact ⟨rfl, HB5.out⟩
end Go.Proofs.YtjemdepcaaadiaaDoor

/- A MACHINE CUT, numbers cut: the laws' Table and list (layer 12). -/
namespace Go.Proofs.YtjemdepcaaadiaaDoor
open Go.RowKit Go.Shelf
attribute [local go_sem] Oper.semAt_some

theorem ints_take {w : World} {ao : Option Addr} {cap : Nat} {xs : List Int} (h : IntsAt w (.slice ao xs.length cap) xs) (n : Nat) : IntsAt w (.slice ao (xs.take n).length cap) (xs.take n) := by
  rcases h with ⟨h1, rfl⟩ | ⟨b, off, sp, cap, h1, h2, h3, h4⟩
  · injection h1 with h1 h2 h3
    subst h1 h3
    simp [IntsAt]
  · injection h1 with h1 h2' h3'
    subst h1 h3'
    refine .inr ⟨b, off, sp, _, rfl, by rw [List.length_take]; omega, h3, fun hn => ?_⟩
    have hn' : xs ≠ [] := by rintro rfl; simp at hn
    refine ⟨(h4 hn').1, (h4 hn').2.1, fun i x hx => (h4 hn').2.2 i x ?_⟩
    rw [List.getElem?_take] at hx
    split at hx
    · exact hx
    · cases hx
theorem ints_cap {w : World} {ao : Option Addr} {cap n : Nat} {xs : List Int} (h : IntsAt w (.slice ao n cap) xs) : xs.length ≤ cap ∧ cap ≤ 9223372036854775807 := by
  rcases h with ⟨h1, rfl⟩ | ⟨b, off, sp, cap, h1, h2, h3, h4⟩
  · injection h1 with h1 h2 h3; subst h3; simp
  · injection h1 with h1 h2' h3'; subst h3'; unfold maxLen at h3; omega
def list12 (l : List Int) : List Int := l.take 30
def tableM (M : D.Mach) : D.Mach := ((M.1.take 302).map fun r => r.take 34, M.2.take 302)
theorem tableM_fit (M : D.Mach) : MachFit (tableM M) := by
  unfold tableM MachFit
  refine ⟨by simp only [List.length_map, List.length_take]; omega, by simp only [List.length_take]; omega, fun r hr => ?_⟩
  obtain ⟨r0, -, rfl⟩ := List.mem_map.1 hr
  rw [List.length_take]
  omega
theorem rows_own {W : World} {base n : Nat} {T : TypeId} {v : Value} {vs : List Value} {L : List (List Int)} (h : W.ownsRow base T 1 v n vs) (hn : n = L.length) (hV : ∀ (i : Nat) (r : List Int), L[i]? = some r → ∃ x, vs[i]? = some x ∧ IntsAt W x r) : RowsAt W v L := by
  subst hn
  rcases h.2 with ⟨h1, h2⟩ | ⟨g, cap, cur, h1, h2, h3, h4, h5, h6, h7⟩
  · rw [List.eq_nil_of_length_eq_zero h2]; exact .inl ⟨h1, rfl⟩
  · refine .inr ⟨g, 0, none, cap, h1, h4, h5, fun hn => ⟨rfl, (Array.getElem?_eq_some_iff.1 h3).1, fun i r hr => ?_⟩⟩
    obtain ⟨x, hx, hi⟩ := hV i r hr
    refine ⟨x, ?_, hi⟩
    have h8 := h.cells (g := g) (by rw [h1]; rfl) i x hx
    rw [show (⟨g, 0, none⟩ : Addr).add i = ⟨g, 0 + i, none⟩ by unfold Addr.add; split <;> simp_all] at h8
    exact h8

theorem list12_any (v : Value) (l : List Int) (w : World) (hv : IntsAt w v l) :
    Calls Tryd.prog 15 #[v] w fun e w' => (∃ v', e = .returned v' ∧ IntsAt w v' (list12 l)) ∧ w = w' := by
  obtain ⟨ao, cap, rfl⟩ := hv.slice
  obtain ⟨hc1, hc2⟩ := ints_cap hv
  have HT := Box.mk (ints_take hv 30)
  clear hv
  unfold list12
  rcases Nat.lt_or_ge 30 l.length with h | h
  · go_enter Tryd.func15, Tryd.ntmps15
    go_wp2_with fail
    go_ret
    refine ⟨⟨_, rfl, ?_⟩, rfl⟩
    have := HT.out
    rw [show (l.take 30).length = 30 by rw [List.length_take]; omega] at this
    exact this
  · go_enter Tryd.func15, Tryd.ntmps15
    go_wp2_with fail
    go_ret
    refine ⟨⟨_, rfl, ?_⟩, rfl⟩
    have := HT.out
    rw [List.take_of_length_le h] at this ⊢
    exact this

/-- rows with their values, that can be read -/
def RowsV (W : World) (vs : List Value) (L : List (List Int)) : Prop := vs.length = L.length ∧ ∀ (i : Nat) (r : List Int), L[i]? = some r → ∃ x, vs[i]? = some x ∧ IntsAt W x r
theorem RowsV.snoc {W : World} {vs : List Value} {L : List (List Int)} (h : RowsV W vs L) {x : Value} {r : List Int} (hx : IntsAt W x r) : RowsV W (vs ++ [x]) (L ++ [r]) := by
  refine ⟨by rw [List.length_append, List.length_append, h.1]; rfl, fun i q hq => ?_⟩
  rcases Nat.lt_or_ge i L.length with hl | hl
  · rw [List.getElem?_append_left hl] at hq
    obtain ⟨y, hy, h2⟩ := h.2 i q hq
    exact ⟨y, by rw [List.getElem?_append_left (by rw [h.1]; exact hl)]; exact hy, h2⟩
  · rw [List.getElem?_append_right hl] at hq
    have hi0 : i - L.length = 0 := by have := (List.getElem?_eq_some_iff.1 hq).1; simp at this; omega
    rw [hi0] at hq
    simp only [List.getElem?_cons_zero, Option.some.injEq] at hq
    subst hq
    exact ⟨x, by rw [List.getElem?_append_right (by rw [h.1]; exact hl), h.1, hi0]; rfl, hx⟩
def cutRow (r : List Int) : List Int := r.take 34

set_option maxRecDepth 100000 in
set_option maxHeartbeats 8000000 in
theorem table_any (v : Value) (M : D.Mach) (w : World) (hv : MachAt w v M) :
    Calls Tryd.prog 14 #[v] w fun e w' => Below w.heap.size w w' ∧ ∃ nv fv, e = .returned (.agg #[nv, fv]) ∧ (∀ g, nv.ownBlock = some g → w.heap.size ≤ g) ∧ RowsAt w' nv (tableM M).1 ∧ IntsAt w' fv (tableM M).2 := by
  obtain ⟨na, fa, rfl, hra, hia⟩ := hv
  have HRA := Box.mk hra
  obtain ⟨aa, ca, rfl⟩ := hra.slice
  obtain ⟨fo, fc, rfl⟩ := hia.slice
  obtain ⟨hf1, hf2⟩ := ints_cap hia
  have HFT := Box.mk (ints_take hia 302)
  obtain ⟨nf, hnf⟩ : ∃ nf, (M.2.take 302).length = nf := ⟨_, rfl⟩
  have HNF := Box.mk (show nf = min 302 M.2.length by rw [← hnf, List.length_take])
  rw [hnf] at HFT
  have HNFE := Box.mk hnf
  obtain ⟨m, hm⟩ : ∃ m, m = min M.1.length 302 := ⟨_, rfl⟩
  have HM := Box.mk hm
  have hm1 : m ≤ M.1.length := by omega
  have hm2 : m ≤ 302 := by omega
  obtain ⟨w3, hw3⟩ : ∃ w3, w3 = ((w.alloc (.cells #[.slice aa M.1.length ca, .slice fo M.2.length fc] 28)).alloc (.cells #[.slice none 0 0, .slice none 0 0] 28)).alloc (.cells #[.slice none 0 0, .slice fo nf fc] 28) := ⟨_, rfl⟩
  have HS3 := Box.mk (show ∃ vs, RowsV w vs ((M.1.take 0).map cutRow) ∧ Sep [Pc.row w.heap.size 34 1 (.slice none 0 0) 0 vs, Pc.blk (w.heap.size + 1 + 1) 28 #[.slice none 0 0, .slice fo nf fc], Pc.blk (w.heap.size + 1) 28 #[.slice none 0 0, .slice none 0 0], Pc.blk w.heap.size 28 #[.slice aa M.1.length ca, .slice fo M.2.length fc], Pc.old w.heap.size w] w3 by
    have h1 := (((Sep.start w).alloc_blk 28 #[.slice aa M.1.length ca, .slice fo M.2.length fc]).alloc_blk 28 #[.slice none 0 0, .slice none 0 0]).alloc_blk 28 #[.slice none 0 0, .slice fo nf fc]
    refine ⟨[], ⟨rfl, fun i r h => by simp at h⟩, ?_⟩
    rw [hw3]
    have h2 := h1.nil_row w.heap.size 1 34
    simpa using h2)
  have HW3 := Box.mk hw3
  clear hra hia hm hnf hw3
  go_enter Tryd.func14, Tryd.ntmps14
  rcases (show (302 < M.2.length ∧ nf = 302) ∨ (M.2.length ≤ 302 ∧ nf = M.2.length) by have := HNF.out; omega) with ⟨hq, hq2⟩ | ⟨hq, hq2⟩
  all_goals
    have hw3 := HW3.out
    go_upto_region 2 with (fail)
    first | rw [hq2] at hw3 | skip
    rw [← hw3]
    clear hw3 hq hq2
    go_wp2_with fail
    go_loopw [4] (fun i wr => ∃ k : Nat, k ≤ m ∧ i = .int .i64 k ∧ Box (∃ nv vs, RowsV w vs ((M.1.take k).map cutRow) ∧ Sep [Pc.row w.heap.size 34 1 nv k vs, Pc.blk (w.heap.size + 1 + 1) 28 #[nv, .slice fo nf fc], Pc.blk (w.heap.size + 1) 28 #[.slice none 0 0, .slice none 0 0], Pc.blk w.heap.size 28 #[.slice aa M.1.length ca, .slice fo M.2.length fc], Pc.old w.heap.size w] wr)) (fun i _ => m - (intOf i).toNat)
    case atStart => obtain ⟨vs, h1, h2⟩ := HS3.out; exact ⟨0, by omega, rfl, ⟨_, vs, h1, h2⟩⟩
    case round =>
      obtain ⟨k, hk, rfl, hbox⟩ := hrel
      obtain ⟨nv, vs, hvs, hsep⟩ := hbox.out
      have HVS := Box.mk hvs
      have HSEP := Box.mk hsep
      have HBR := Box.mk (show Below w.heap.size w wr from hsep.bel (by simp))
      obtain ⟨no, nc, rfl, hn1, hn2⟩ := own_shape (hsep.row 0 rfl)
      have HG3 := Box.mk (hsep.blk 1 rfl)
      have HG2 := Box.mk (hsep.blk 2 rfl)
      have HG1 := Box.mk (hsep.blk 3 rfl)
      have g1 : wr.cell? ⟨w.heap.size, 0, none⟩ = some (.slice aa M.1.length ca) := (HG1.out.cell 0).trans rfl
      have l1 := HG1.out.lt
      clear hvs hsep hbox
      by_cases hlt : k < m
      · obtain ⟨x, hx⟩ : ∃ x, M.1[k]? = some x := ⟨_, List.getElem?_eq_getElem (by omega)⟩
        obtain ⟨pa, oa, ca', ha0, ha1, ha2, ha3, ha4⟩ := HRA.out.get (by intro e; rw [e] at hx; simp at hx)
        obtain ⟨rfl, rfl⟩ : aa = some ⟨pa, oa, none⟩ ∧ ca = ca' := by injection ha0 with h1 h2 h3; exact ⟨h1, h3⟩
        obtain ⟨xv, hxc, hxi⟩ := ha4 k x hx
        obtain ⟨xo, xc, rfl⟩ := hxi.slice
        obtain ⟨hx1, hx2⟩ := ints_cap hxi
        have HXT := Box.mk (ints_take hxi 34)
        obtain ⟨q, hq⟩ : ∃ q, (x.take 34).length = q := ⟨_, rfl⟩
        have HQ := Box.mk (show q = min 34 x.length by rw [← hq, List.length_take])
        rw [hq] at HXT
        have HTK := Box.mk (take_snoc'' M.1 k x hx)
        have HFF := Box.mk (show ∀ W, Below wr.heap.size wr W → W.cell? ⟨w.heap.size + 1 + 1, 0, none⟩ = some (.slice no k nc) ∧ W.cell? ⟨w.heap.size, 0, none⟩ = some (.slice (some ⟨pa, oa, none⟩) M.1.length ca) ∧ W.cell? ⟨pa, oa + k, none⟩ = some (.slice xo x.length xc) from fun W h =>
          ⟨((HG3.out.below h HG3.out.lt).cell 0).trans rfl, ((HG1.out.below h HG1.out.lt).cell 0).trans rfl, ((HBR.out.trans (h.mono HBR.out.size)).cell (p := ⟨pa, oa + k, none⟩) ha3).trans hxc⟩)
        have HBD := Box.mk (show Below wr.heap.size wr wr.drew from ⟨rfl, rfl, rfl, Nat.le_refl _, fun _ _ => rfl⟩)
        have HSD := Box.mk HSEP.out.drew
        have hbsd : w.heap.size ≤ wr.drew.heap.size := HBR.out.size
        have hk302 : k < 302 := by omega
        have hkl : k < M.1.length := by omega
        have hkc : k < ca := by omega
        have l3 := HG3.out.lt
        unfold maxLen at ha2
        clear ha0 ha4 hx hxc hxi hq
        go_wp2_with fail
        rcases (show ((34 : Int) < (x.length : Int) ∧ (34 : Int) ≤ (xc : Int) ∧ q = 34) ∨ (¬ (34 : Int) < (x.length : Int) ∧ (x.length : Int) ≤ (xc : Int) ∧ q = x.length) by have := HQ.out; omega) with ⟨hq1, hq3, rfl⟩ | ⟨hq1, hq3, rfl⟩
        all_goals
          refine wp_region_K 16 (fun W => W.cell? ⟨w.heap.size + 1 + 1, 0, none⟩ = some (.slice no k nc) ∧ W.cell? ⟨w.heap.size, 0, none⟩ = some (.slice (some ⟨pa, oa, none⟩) M.1.length ca) ∧ W.cell? ⟨pa, oa + k, none⟩ = some (.slice xo x.length xc)) (by kernel_rfl) ?_
          have HF0 := Box.mk (HFF.out _ HBD.out)
          have HFA := Box.mk (fun o => HFF.out _ (HBD.out.alloc HBD.out.size o))
          generalize wr.drew = WR at *
          refine wpAnyK_take (i := 0) (v := ?_) rfl (by kernel_rfl) (fun _ _ _ h => h) (Or.inl ⟨by kernel_rfl, ?_⟩) HF0.out ?_
          rotate_left
          · first | (intro w hw; obtain ⟨q1, q2, q3⟩ := hw; go_simp; done) | (intro w hw; obtain ⟨q1, q2, q3⟩ := hw; go_simp; with_reducible rfl)
          refine wpAnyK_take (i := 1) (v := ?_) rfl (by kernel_rfl) (fun _ _ _ h => h) (Or.inl ⟨by kernel_rfl, ?_⟩) HF0.out ?_
          rotate_left
          · first | (intro w hw; obtain ⟨q1, q2, q3⟩ := hw; go_simp; done) | (intro w hw; obtain ⟨q1, q2, q3⟩ := hw; go_simp; with_reducible rfl)
          refine wpAnyK_take (i := 2) (v := ?_) rfl (by kernel_rfl) (fun _ _ _ h => h) (Or.inl ⟨by kernel_rfl, ?_⟩) HF0.out ?_
          rotate_left
          · first | (intro w hw; obtain ⟨q1, q2, q3⟩ := hw; go_simp; done) | (intro w hw; obtain ⟨q1, q2, q3⟩ := hw; go_simp; with_reducible rfl)
          refine wpAnyK_take (i := 3) (v := ?_) rfl (by kernel_rfl) (fun _ _ _ h => h) (Or.inl ⟨by kernel_rfl, ?_⟩) HF0.out ?_
          rotate_left
          · first | (intro w hw; obtain ⟨q1, q2, q3⟩ := hw; go_simp; done) | (intro w hw; obtain ⟨q1, q2, q3⟩ := hw; go_simp; with_reducible rfl)
          refine wpAnyK_take (i := 4) (v := ?_) rfl (by kernel_rfl) (fun _ _ _ h => h) (Or.inl ⟨by kernel_rfl, ?_⟩) HF0.out ?_
          rotate_left
          · first | (intro w hw; obtain ⟨q1, q2, q3⟩ := hw; go_simp; done) | (intro w hw; obtain ⟨q1, q2, q3⟩ := hw; go_simp; with_reducible rfl)
          refine wpAnyK_take (i := 5) (v := ?_) rfl (by kernel_rfl) (fun _ _ _ h => h) (Or.inl ⟨by kernel_rfl, ?_⟩) HF0.out ?_
          rotate_left
          · first | (intro w hw; obtain ⟨q1, q2, q3⟩ := hw; go_simp; done) | (intro w hw; obtain ⟨q1, q2, q3⟩ := hw; go_simp; with_reducible rfl)
          refine wpAnyK_take (i := 6) (v := ?_) rfl (by kernel_rfl) (fun _ _ _ h => h) (Or.inl ⟨by kernel_rfl, ?_⟩) HF0.out ?_
          rotate_left
          · first | (intro w hw; obtain ⟨q1, q2, q3⟩ := hw; go_simp; done) | (intro w hw; obtain ⟨q1, q2, q3⟩ := hw; go_simp; with_reducible rfl)
          refine wpAnyK_take (i := 7) (v := ?_) rfl (by kernel_rfl) (fun _ _ _ h => h) (Or.inl ⟨by kernel_rfl, ?_⟩) HF0.out ?_
          rotate_left
          · first | (intro w hw; obtain ⟨q1, q2, q3⟩ := hw; go_simp; done) | (intro w hw; obtain ⟨q1, q2, q3⟩ := hw; go_simp; with_reducible rfl)
          refine wpAnyK_take (i := 8) (v := ?_) rfl (by kernel_rfl) (fun _ _ _ h => h) (Or.inl ⟨by kernel_rfl, ?_⟩) HF0.out ?_
          rotate_left
          · first | (intro w hw; obtain ⟨q1, q2, q3⟩ := hw; go_simp; done) | (intro w hw; obtain ⟨q1, q2, q3⟩ := hw; go_simp; with_reducible rfl)
          refine wpAnyK_take (i := 9) (v := ?_) rfl (by kernel_rfl) (fun _ _ _ h => h) (Or.inl ⟨by kernel_rfl, ?_⟩) HF0.out ?_
          rotate_left
          · first | (intro w hw; obtain ⟨q1, q2, q3⟩ := hw; go_simp; done) | (intro w hw; obtain ⟨q1, q2, q3⟩ := hw; go_simp; with_reducible rfl)
          refine wpAnyK_take (i := 10) (v := ?_) rfl (by kernel_rfl) (fun _ _ _ h => h) (Or.inl ⟨by kernel_rfl, ?_⟩) HF0.out ?_
          rotate_left
          · first | (intro w hw; obtain ⟨q1, q2, q3⟩ := hw; go_simp; done) | (intro w hw; obtain ⟨q1, q2, q3⟩ := hw; go_simp; with_reducible rfl)
          refine wpAnyK_take (i := 11) (v := ?_) rfl (by kernel_rfl) (fun _ _ _ h => h) (Or.inl ⟨by kernel_rfl, ?_⟩) HF0.out ?_
          rotate_left
          · first | (intro w hw; obtain ⟨q1, q2, q3⟩ := hw; go_simp; done) | (intro w hw; obtain ⟨q1, q2, q3⟩ := hw; go_simp; with_reducible rfl)
          refine wpAnyK_take (i := 12) (v := ?_) rfl (by kernel_rfl) (fun _ _ _ h => h) (Or.inl ⟨by kernel_rfl, ?_⟩) HF0.out ?_
          rotate_left
          · first | (intro w hw; obtain ⟨q1, q2, q3⟩ := hw; go_simp; done) | (intro w hw; obtain ⟨q1, q2, q3⟩ := hw; go_simp; with_reducible rfl)
          refine wpAnyK_take (i := 13) (v := ?_) rfl (by kernel_rfl) (fun _ _ _ h => h) (Or.inl ⟨by kernel_rfl, ?_⟩) HF0.out ?_
          rotate_left
          · first | (intro w hw; obtain ⟨q1, q2, q3⟩ := hw; go_simp; done) | (intro w hw; obtain ⟨q1, q2, q3⟩ := hw; go_simp; with_reducible rfl)
          refine wpAnyK_take (i := 14) (v := ?_) rfl (by kernel_rfl) (fun _ _ _ h => h) (Or.inl ⟨by kernel_rfl, ?_⟩) HF0.out ?_
          rotate_left
          · first | (intro w hw; obtain ⟨q1, q2, q3⟩ := hw; go_simp; done) | (intro w hw; obtain ⟨q1, q2, q3⟩ := hw; go_simp; with_reducible rfl)
          refine wpAnyK_one (i := 15) (by kernel_rfl) rfl (fun KK hKK => ?_)
          go_simp
          refine hKK.out _ _ (fun _ => HFA.out _) ?_
          clear hKK KK
          refine wpAnyK_one (i := 16) (by kernel_rfl) rfl (fun KK hKK => ?_)
          refine step_push rfl _ _ 25 rfl pushRowsInt HSD.out 0 rfl (by kernel_rfl) (by kernel_rfl) rfl (by omega) (by omega) hbsd ?_
          rintro v' w9 hS9 ⟨g9, c9, rfl, h91, h92⟩
          refine hKK.out _ _ (fun h => by cases h) ?_
          clear hKK KK
          have HB9 := Box.mk (hS9.blk 1 rfl)
          have z0 := (HB9.out.cell 0).trans (show _ = some (Value.slice no k nc) from rfl)
          have z1 := HB9.out.frozen 0
          have z2 := HB9.out.lt
          have HS10 := Box.mk (hS9.set 1 rfl 0 (.slice (some ⟨g9, 0, none⟩) (k + 1) c9))
          clear hS9
          refine wpAnyK_one (i := 17) (by kernel_rfl) rfl (fun KK hKK => ?_)
          go_simp
          refine hKK.out _ _ (fun h => by cases h) ?_
          clear hKK KK
          refine wpAnyK_one (i := 18) (by kernel_rfl) rfl (fun KK hKK => ?_)
          go_simp
          refine hKK.out _ _ (fun h => by cases h) ?_
          clear hKK KK
          refine wpAnyK_done (by kernel_rfl) ?_ _
          refine NoPanic.normal ?_
          have HN := Box.mk (show ∃ nv vs, RowsV w vs ((M.1.take (k + 1)).map cutRow) ∧ Sep [Pc.row w.heap.size 34 1 nv (k + 1) vs, Pc.blk (w.heap.size + 1 + 1) 28 #[nv, .slice fo nf fc], Pc.blk (w.heap.size + 1) 28 #[.slice none 0 0, .slice none 0 0], Pc.blk w.heap.size 28 #[.slice (some ⟨pa, oa, none⟩) M.1.length ca, .slice fo M.2.length fc], Pc.old w.heap.size w] _ by
            refine ⟨_, _, ?_, HS10.out⟩
            rw [HTK.out, List.map_append]
            exact HVS.out.snoc HXT.out)
          go_wp2_with fail
          go_roundw
          case rel => exact ⟨k + 1, hlt, by go_num, HN⟩
          case measure => simp [intOf]; omega
      · have hkm : k = m := by omega
        have HKM := Box.mk hkm
        have hd : M.1.length ≤ k ∨ (k < M.1.length ∧ 302 ≤ k) := by have := HM.out; omega
        have z0 : wr.cell? ⟨w.heap.size + 1 + 1, 0, none⟩ = some (.slice no k nc) := (HG3.out.cell 0).trans rfl
        have z1 : wr.cell? ⟨w.heap.size + 1 + 1, 1, none⟩ = some (.slice fo nf fc) := (HG3.out.cell 1).trans rfl
        have z2 := HG3.out.lt
        have y0 := (HG2.out.cell 0).trans (show _ = some (Value.slice none 0 0) from rfl)
        have y1 := (HG2.out.cell 1).trans (show _ = some (Value.slice none 0 0) from rfl)
        have f0 := HG2.out.frozen 0
        have f1 := HG2.out.frozen 1
        have y2 := HG2.out.lt
        have HS9 := Box.mk ((HSEP.out.set 2 rfl 0 (.slice no k nc)).set 2 rfl 1 (.slice fo nf fc))
        have HTM := Box.mk (show (M.1.take k).map cutRow = (tableM M).1 by
          unfold tableM
          simp only
          rw [HKM.out, HM.out]
          rcases Nat.le_total M.1.length 302 with h | h
          · rw [Nat.min_eq_left h, List.take_length, List.take_of_length_le h]; rfl
          · rw [Nat.min_eq_right h]; rfl)
        have HKL := Box.mk (show k = ((M.1.take k).map cutRow).length by rw [List.length_map, List.length_take]; have := HM.out; omega)
        clear hkm
        rcases hd with hd | ⟨hd, hd2⟩
        all_goals
          go_wp2_with fail
          have hb9 := HS9.out.bel (n := w.heap.size) (W0 := w) (by simp)
          refine bodyPost_ret (v := .agg #[.slice no k nc, .slice fo nf fc]) (results_cell_row Tryd.results14 _ _ (w.heap.size + 1) 28 _ (0, 0) _ rfl (HS9.out.blk 2 rfl) Tryd.underlying28 rfl machInfo) rfl ⟨hb9, _, _, rfl, fun g hg => ((HS9.out.row 0 rfl).lt g hg).1, ?_, ?_⟩
          · rw [← HTM.out]
            exact rows_own (HS9.out.row 0 rfl) HKL.out (fun i r hr => by
              obtain ⟨x, hx, hi⟩ := HVS.out.2 i r hr
              exact ⟨x, hx, hi.below hb9⟩)
          · exact HFT.out.below hb9
end Go.Proofs.YtjemdepcaaadiaaDoor
