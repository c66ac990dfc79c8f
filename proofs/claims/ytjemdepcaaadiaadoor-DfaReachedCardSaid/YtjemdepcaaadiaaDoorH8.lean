/-
  Texts of this claim, one behind the other: Df4, Card, Card2, Pat, Open12, Df12, Sort, Sort2, Df13, Df5, Df14.
-/
import Derived.Test.YtjemdepcaaadiaaDoorH7
import Derived.Test.YtjemdepcaaadiaaDoorCards
import Derived.Test.YtjemdepcaaadiaaDoorTie
import Derived.Test.YtjemdepcaaadiaaDoorH1
import Derived.ProofKit
import Derived.OpenShut
import Derived.Deep.DeepHandedRow
import Derived.Deep.DeepWitnessRowRef
import Derived.Stop.LaidTwo
import Derived.Below
import Derived.ChangeSame
import Derived.WideKeyArgs
import Derived.ChangeArms
import Derived.Test.YtjemdepcaaadiaaDoorH5
import Derived.Deep.Slices
import Derived.Deep.Strs
import Derived.Test.YtjemdepcaaadiaaDoorH2
import Derived.Shelf.Sort.Plain
import Derived.Ground.Names2Prog
import Derived.Shelf.Slices.CompactI
import Derived.Shelf.Slices.In.SortNone
import Derived.Shelf.Slices.Empties2
import Derived.Sort.OwnSortedInts

/- IS A MACHINE KNOWN? The laws' shown of layer 12. -/
namespace Go.Proofs.YtjemdepcaaadiaaDoor
open Go.RowKit Go.Shelf
attribute [local go_sem] Oper.semAt_some

def one12 : D.Rule := ((false, [(1, 0)]), (false, [(2, 0)]), false)
def M012 : D.Mach := ([[1, 0, 0], [1, 0, 0]], [0, 1])
set_option maxRecDepth 100000 in
theorem code12_a : compCode [one12] 2 = 0 ∧ compM [one12] 2 = M012 := by
  have h1 : rulesB 2 [one12] = true := by decide +kernel
  have h2 : (D.build (lefts [one12]) 2 2).todo.length ≤ (D.build (lefts [one12]) 2 2).next.length := by decide +kernel
  have h3 : D.build (lefts [one12]) 2 300 = D.build (lefts [one12]) 2 2 := D.build_end _ _ (by omega) h2
  have h4 : D.isFew (lefts [one12]) 2 = true := D.few_end _ _ (k := 2) (by omega) h2 (by decide +kernel)
  have h5 : machB (D.build (lefts [one12]) 2 2) = M012 := by decide +kernel
  refine ⟨?_, ?_⟩
  · unfold compCode; rw [h1, show (2 : Int).toNat = 2 from rfl, h4]; rfl
  · unfold compM machOf; rw [h1, show (2 : Int).toNat = 2 from rfl, h4, h3, h5]; rfl
theorem code12_b : compCode [one12] 1 = 90 := by
  have h1 : rulesB 1 [one12] = false := by decide +kernel
  unfold compCode; rw [h1]; rfl
theorem go12_a : machR 2 M012 = true ∧ goM 2 M012 [0, 1, 0, 7] = [0, 1, 0, 1, 0] ∧ fitsM 2 M012 [0, 1] = [0, 1, 0] := by decide +kernel
theorem fit12 : MachFit M012 := ⟨by decide, by decide, by decide⟩
theorem rule12 : ∀ x ∈ [one12], ruleFit x := by
  intro x hx
  rw [List.mem_singleton.1 hx]
  exact ⟨by decide, by decide⟩
/-- the errors of this layer, and the world that they lie in -/
structure Sd (A : Nat → Addr) (B : Nat) (w : World) : Prop where
  e : E A B w
  d : Ed A B w
  le : B ≤ w.heap.size
theorem Sd.below {A : Nat → Addr} {B : Nat} {w w' : World} (h : Sd A B w) (hb : Below w.heap.size w w') : Sd A B w' := ⟨h.e.below (hb.mono h.le), h.d.below (hb.mono h.le), Nat.le_trans h.le hb.size⟩
theorem below_tr {a b c : World} (h : Below a.heap.size a b) (k : Below b.heap.size b c) : Below a.heap.size a c := h.trans (k.mono h.size)
theorem yes_of {P : Program} {f : FuncId} {args : Array Value} {w : World} {p : Prop} [Decidable p] (h : Calls P f args w fun e w' => e = .returned (.bool (decide p)) ∧ Below w.heap.size w w') (hp : p) : Calls P f args w fun e w' => e = .returned (.bool true) ∧ Below w.heap.size w w' :=
  h.mono fun _ _ ⟨h1, h2⟩ => ⟨by rw [h1, decide_eq_true hp], h2⟩
theorem ml_lit (W : World) (T1 T2 T3 : TypeId) : MachAt ((((W.alloc (.cells #[.int .i64 1, .int .i64 0, .int .i64 0] T1)).alloc (.cells #[.int .i64 1, .int .i64 0, .int .i64 0] T1)).alloc (.cells #[.slice (some ⟨W.heap.size, 0, none⟩) 3 3, .slice (some ⟨W.heap.size + 1, 0, none⟩) 3 3] T2)).alloc (.cells #[.int .i64 0, .int .i64 1] T3))
    (.agg #[.slice (some ⟨W.heap.size + 1 + 1, 0, none⟩) 2 2, .slice (some ⟨W.heap.size + 1 + 1 + 1, 0, none⟩) 2 2]) M012 := by
  obtain ⟨W1, h1⟩ : ∃ W1, W1 = W.alloc (.cells #[.int .i64 1, .int .i64 0, .int .i64 0] T1) := ⟨_, rfl⟩
  obtain ⟨W2, h2⟩ : ∃ W2, W2 = W1.alloc (.cells #[.int .i64 1, .int .i64 0, .int .i64 0] T1) := ⟨_, rfl⟩
  obtain ⟨W3, h3⟩ : ∃ W3, W3 = W2.alloc (.cells #[.slice (some ⟨W.heap.size, 0, none⟩) 3 3, .slice (some ⟨W.heap.size + 1, 0, none⟩) 3 3] T2) := ⟨_, rfl⟩
  obtain ⟨W4, h4⟩ : ∃ W4, W4 = W3.alloc (.cells #[.int .i64 0, .int .i64 1] T3) := ⟨_, rfl⟩
  have s1 : W1.heap.size = W.heap.size + 1 := by rw [h1]; simp
  have s2 : W2.heap.size = W.heap.size + 1 + 1 := by rw [h2]; simp [s1]
  have s3 : W3.heap.size = W.heap.size + 1 + 1 + 1 := by rw [h3]; simp [s2]
  rw [← h1, ← h2, ← h3, ← h4]
  have i1 := ints_lit W [1, 0, 0] T1 3 rfl (by omega) #[.int .i64 1, .int .i64 0, .int .i64 0] rfl
  have i2 := ints_lit W1 [1, 0, 0] T1 3 rfl (by omega) #[.int .i64 1, .int .i64 0, .int .i64 0] rfl
  have i3 := ints_lit W3 [0, 1] T3 2 rfl (by omega) #[.int .i64 0, .int .i64 1] rfl
  rw [← h1] at i1
  rw [← h2] at i2
  rw [← h4] at i3
  have b34 : Below W3.heap.size W3 W4 := by rw [h4]; exact alloc_below _ _
  have b23 : Below W2.heap.size W2 W3 := by rw [h3]; exact alloc_below _ _
  have b12 : Below W1.heap.size W1 W2 := by rw [h2]; exact alloc_below _ _
  have b24 := below_tr b23 b34
  have b14 := below_tr b12 b24
  have hbk : Blk W3 W2.heap.size T2 #[.slice (some ⟨W.heap.size, 0, none⟩) 3 3, .slice (some ⟨W.heap.size + 1, 0, none⟩) 3 3] := by rw [h3]; exact Blk.new _ _ _
  have hbk4 := hbk.below b34 hbk.lt
  refine ⟨_, _, rfl, .inr ⟨W.heap.size + 1 + 1, 0, none, 2, rfl, Nat.le_refl _, by unfold maxLen; omega, fun _ => ⟨rfl, by have := hbk4.lt; omega, fun i r hr => ?_⟩⟩, by rw [← s3]; exact i3⟩
  rw [s2] at hbk4
  match i, hr with
  | 0, hr =>
    simp only [M012, List.getElem?_cons_zero, Option.some.injEq] at hr
    subst hr
    exact ⟨_, (hbk4.cell 0).trans rfl, i1.below b14⟩
  | 1, hr =>
    simp only [M012, List.getElem?_cons_succ, List.getElem?_cons_zero, Option.some.injEq] at hr
    subst hr
    exact ⟨_, (hbk4.cell 1).trans rfl, by rw [← s1]; exact i2.below b24⟩
  | i + 2, hr => simp [M012] at hr

set_option maxRecDepth 100000 in
set_option maxHeartbeats 8000000 in
theorem shown12_any (A : Nat → Addr) (B : Nat) (w : World) (hS : Sd A B w) :
    Calls Tryd.prog 9 #[] w fun e w' => e = .returned (.bool true) ∧ Below w.heap.size w w' := by
  have HS := Box.mk hS
  clear hS
  go_enter Tryd.func9, Tryd.ntmps9
  go_wp2_with fail
  refine (single_any 1 2 w).mono ?_; rintro e w1 ⟨hb1, al, ar, rfl, hil, hir⟩
  -- the rule, and a list of it
  obtain ⟨V1, hV1⟩ : ∃ V1, V1 = w1.alloc (.cells #[.bool false, .slice al 1 1, .bool false, .slice ar 1 1, .bool false] 46) := ⟨_, rfl⟩
  have hk1 : Below w1.heap.size w1 V1 := by rw [hV1]; exact alloc_below _ _
  have HIL := Box.mk (fun W (h : Below w1.heap.size w1 W) => hil.below h)
  have HIR := Box.mk (fun W (h : Below w1.heap.size w1 W) => hir.below h)
  have HV1 := Box.mk (below_tr hb1 hk1)
  have HK1 := Box.mk hk1
  have HP1 := Box.mk (show Blk V1 w1.heap.size 46 #[.bool false, .slice al 1 1, .bool false, .slice ar 1 1, .bool false] by rw [hV1]; exact Blk.new _ _ _)
  have HS1 := Box.mk (show V1.heap.size = w1.heap.size + 1 by rw [hV1]; simp)
  have HRL := Box.mk (fun W (h : Below w1.heap.size w1 W) => rules_one (x := one12) (HIL.out W h) (HIR.out W h) 46)
  obtain ⟨V2, hV2⟩ : ∃ V2, V2 = V1.alloc (.cells #[.bool false, .slice al 1 1, .bool false, .slice ar 1 1, .bool false] 46) := ⟨_, rfl⟩
  have hk2 : Below V1.heap.size V1 V2 := by rw [hV2]; exact alloc_below _ _
  have HV2 := Box.mk (below_tr HV1.out hk2)
  have HT2 := Box.mk (below_tr HK1.out hk2)
  have HR2 := Box.mk (show RulesAt V2 (.slice (some ⟨w1.heap.size + 1, 0, none⟩) 1 1) [one12] by rw [hV2, ← HS1.out]; exact HRL.out V1 HK1.out)
  have HC2 := Box.mk (compile_any A B _ [one12] 2 V2 rule12 HR2.out (by simp) (HS.out.below HV2.out).e (HS.out.below HV2.out).d (HS.out.below HV2.out).le)
  have HP2 := Box.mk (HP1.out.below hk2 HP1.out.lt)
  clear hb1 hil hir hk1 hk2
  go_wp2_with fail
  rw [← hV1, ← hV2]
  clear hV1 hV2
  refine HC2.out.mono ?_; rintro e w2 ⟨hb2, mv, rfl, hm⟩
  rw [code12_a.1]
  rw [code12_a.2] at hm
  have HM2 := Box.mk hm
  obtain ⟨NV0, FV0, rfl, hra, hia⟩ := hm
  obtain ⟨na, nc, rfl⟩ : ∃ na nc, NV0 = .slice na 2 nc := hra.slice
  obtain ⟨fa, fc, rfl⟩ : ∃ fa fc, FV0 = .slice fa 2 fc := hia.slice
  clear hra hia
  have HB2 := Box.mk (below_tr HV2.out hb2)
  have HTw2 := Box.mk (below_tr HT2.out hb2)
  have HP3 := Box.mk (HP2.out.below hb2 HP2.out.lt)
  obtain ⟨V3, hV3⟩ : ∃ V3, V3 = w2.alloc (.cells #[.slice na 2 nc, .slice fa 2 fc] 28) := ⟨_, rfl⟩
  have HV3 := Box.mk (show Below w2.heap.size w2 V3 by rw [hV3]; exact alloc_below _ _)
  have HS3 := Box.mk (show V3.heap.size = w2.heap.size + 1 by rw [hV3]; simp)
  have HMB := Box.mk (show Blk V3 w2.heap.size 28 #[.slice na 2 nc, .slice fa 2 fc] by rw [hV3]; exact Blk.new _ _ _)
  obtain ⟨V4, hV4⟩ : ∃ V4, V4 = V3.alloc (.cells #[.int .i64 0, .int .i64 1, .int .i64 0, .int .i64 7] 3) := ⟨_, rfl⟩
  have HV4 := Box.mk (show Below V3.heap.size V3 V4 by rw [hV4]; exact alloc_below _ _)
  have HI4 := Box.mk (show IntsAt V4 (.slice (some ⟨w2.heap.size + 1, 0, none⟩) 4 4) [0, 1, 0, 7] by rw [hV4, ← HS3.out]; exact ints_lit V3 [0, 1, 0, 7] 3 4 rfl (by omega) _ rfl)
  have HW4 := Box.mk (below_tr HB2.out (below_tr HV3.out HV4.out))
  have HG4 := Box.mk (mgo_any A B (.agg #[.slice na 2 nc, .slice fa 2 fc]) (.slice (some ⟨w2.heap.size + 1, 0, none⟩) 4 4) M012 2 [0, 1, 0, 7] V4 (HM2.out.below (below_tr HV3.out HV4.out)) fit12 HI4.out (by simp) (HS.out.below HW4.out).d (HS.out.below HW4.out).le)
  clear hb2
  go_wp2_with fail
  rw [← hV3, ← hV4]
  clear hV3 hV4
  refine HG4.out.mono ?_; rintro e w3 ⟨hb3, gv, rfl, hown⟩
  rw [show goCode 2 M012 = 0 by unfold goCode; rw [go12_a.1]; rfl]
  rw [go12_a.1, if_pos rfl, if_pos rfl, show (2 : Int).toNat = 2 from rfl, go12_a.2.1] at hown
  have HG := Box.mk (row_ints hown rfl)
  obtain ⟨ga, gc, rfl⟩ : ∃ ga gc, gv = .slice ga 5 gc := by obtain ⟨a, c, h, -, -⟩ := own_shape hown; exact ⟨a, c, h⟩
  have HTw3 := Box.mk (below_tr HTw2.out (below_tr HV3.out (below_tr HV4.out hb3)))
  have HB3 := Box.mk (below_tr HW4.out hb3)
  have hmb := (HMB.out.below HV4.out HMB.out.lt)
  have HMB3 := Box.mk (hmb.below hb3 hmb.lt)
  have HP4 := Box.mk (HP3.out.below (below_tr HV3.out (below_tr HV4.out hb3)) HP3.out.lt)
  have HM3 := Box.mk (HM2.out.below (below_tr HV3.out (below_tr HV4.out hb3)))
  have c0 : w3.cell? ⟨w2.heap.size, 0, none⟩ = some (.slice na 2 nc) := (HMB3.out.cell 0).trans rfl
  have c1 : w3.cell? ⟨w2.heap.size, 1, none⟩ = some (.slice fa 2 fc) := (HMB3.out.cell 1).trans rfl
  have l0 := HMB3.out.lt
  obtain ⟨V5, hV5⟩ : ∃ V5, V5 = w3.alloc (.cells #[.int .i64 0, .int .i64 1] 3) := ⟨_, rfl⟩
  have HV5 := Box.mk (show Below w3.heap.size w3 V5 by rw [hV5]; exact alloc_below _ _)
  have HI5 := Box.mk (show IntsAt V5 (.slice (some ⟨w3.heap.size, 0, none⟩) 2 2) [0, 1] by rw [hV5]; exact ints_lit w3 [0, 1] 3 2 rfl (by omega) _ rfl)
  have HW5 := Box.mk (below_tr HB3.out HV5.out)
  have HF5 := Box.mk (mfits_any A B (.agg #[.slice na 2 nc, .slice fa 2 fc]) (.slice (some ⟨w3.heap.size, 0, none⟩) 2 2) M012 2 [0, 1] V5 (HM3.out.below HV5.out) fit12 HI5.out (by simp) (HS.out.below HW5.out).d (HS.out.below HW5.out).le)
  clear hb3 hown hmb
  go_wp2_with fail
  rw [← hV5]
  clear hV5
  refine HF5.out.mono ?_; rintro e w4 ⟨hb4, fv4, rfl, hfi⟩
  rw [show goCode 2 M012 = 0 by unfold goCode; rw [go12_a.1]; rfl]
  rw [go12_a.1, if_pos rfl, show (2 : Int).toNat = 2 from rfl, go12_a.2.2] at hfi
  have HFI := Box.mk hfi
  obtain ⟨ha, hc, rfl⟩ : ∃ ha hc, fv4 = .slice ha 3 hc := hfi.slice
  have HB4 := Box.mk (below_tr HW5.out hb4)
  have h35 := below_tr HV5.out hb4
  have HTw4 := Box.mk (below_tr HTw3.out h35)
  have HMB4 := Box.mk (HMB3.out.below h35 HMB3.out.lt)
  have HP5 := Box.mk (HP4.out.below h35 HP4.out.lt)
  have HM4 := Box.mk (HM3.out.below h35)
  have HG4' := Box.mk (HG.out.below h35)
  have p0 : w4.cell? ⟨w1.heap.size, 0, none⟩ = some (.bool false) := (HP5.out.cell 0).trans rfl
  have p1 : w4.cell? ⟨w1.heap.size, 1, none⟩ = some (.slice al 1 1) := (HP5.out.cell 1).trans rfl
  have p2 : w4.cell? ⟨w1.heap.size, 2, none⟩ = some (.bool false) := (HP5.out.cell 2).trans rfl
  have p3 : w4.cell? ⟨w1.heap.size, 3, none⟩ = some (.slice ar 1 1) := (HP5.out.cell 3).trans rfl
  have p4 : w4.cell? ⟨w1.heap.size, 4, none⟩ = some (.bool false) := (HP5.out.cell 4).trans rfl
  have pl := HP5.out.lt
  obtain ⟨V6, hV6⟩ : ∃ V6, V6 = w4.alloc (.cells #[.bool false, .slice al 1 1, .bool false, .slice ar 1 1, .bool false] 46) := ⟨_, rfl⟩
  have HV6 := Box.mk (show Below w4.heap.size w4 V6 by rw [hV6]; exact alloc_below _ _)
  have HW6 := Box.mk (below_tr HB4.out HV6.out)
  have HR6 := Box.mk (show RulesAt V6 (.slice (some ⟨w4.heap.size, 0, none⟩) 1 1) [one12] by
    rw [hV6]
    exact HRL.out w4 HTw4.out)
  have HC6 := Box.mk (compile_any A B _ [one12] 1 V6 rule12 HR6.out (by simp) (HS.out.below HW6.out).e (HS.out.below HW6.out).d (HS.out.below HW6.out).le)
  clear hb4 hfi h35 c0 c1 l0
  go_wp2_with fail
  rw [← hV6]
  clear hV6
  refine HC6.out.mono ?_; rintro e w5 ⟨hb5, mv5, rfl, hm5⟩
  rw [code12_b]
  obtain ⟨NV5, FV5, rfl, hra5, hia5⟩ := hm5
  obtain ⟨na5, nc5, rfl⟩ := hra5.slice
  obtain ⟨fa5, fc5, rfl⟩ := hia5.slice
  have h46 := below_tr HV6.out hb5
  have HB5 := Box.mk (below_tr HW6.out hb5)
  obtain ⟨V7, hV7⟩ : ∃ V7, V7 = w5.alloc (.cells #[.slice na5 (compM [one12] 1).1.length nc5, .slice fa5 (compM [one12] 1).2.length fc5] 28) := ⟨_, rfl⟩
  have HV7 := Box.mk (show Below w5.heap.size w5 V7 by rw [hV7]; exact alloc_below _ _)
  have HS7 := Box.mk (show V7.heap.size = w5.heap.size + 1 by rw [hV7]; simp)
  have h47 := below_tr h46 HV7.out
  obtain ⟨V11, hV11⟩ : ∃ V11, V11 = (((V7.alloc (.cells #[.int .i64 1, .int .i64 0, .int .i64 0] 3)).alloc (.cells #[.int .i64 1, .int .i64 0, .int .i64 0] 3)).alloc (.cells #[.slice (some ⟨V7.heap.size, 0, none⟩) 3 3, .slice (some ⟨V7.heap.size + 1, 0, none⟩) 3 3] 34)).alloc (.cells #[.int .i64 0, .int .i64 1] 2) := ⟨_, rfl⟩
  have HML := Box.mk (show MachAt V11 (.agg #[.slice (some ⟨w5.heap.size + 1 + 1 + 1, 0, none⟩) 2 2, .slice (some ⟨w5.heap.size + 1 + 1 + 1 + 1, 0, none⟩) 2 2]) M012 by
    rw [hV11, ← HS7.out]; exact ml_lit V7 _ _ _)
  have HV11 := Box.mk (show Below V7.heap.size V7 V11 by rw [hV11]; exact ((((Below.refl _ _).alloc (Nat.le_refl _) _).alloc (by simp) _).alloc (by simp; omega) _).alloc (by simp; omega) _)
  have h411 := below_tr h47 HV11.out
  have HSM := Box.mk (same12_any (.agg #[.slice na 2 nc, .slice fa 2 fc]) (.agg #[.slice (some ⟨w5.heap.size + 1 + 1 + 1, 0, none⟩) 2 2, .slice (some ⟨w5.heap.size + 1 + 1 + 1 + 1, 0, none⟩) 2 2]) M012 M012 V11 (HM4.out.below h411) HML.out fit12 fit12 |> fun h => yes_of h rfl)
  have HB11 := Box.mk (below_tr HB5.out (below_tr HV7.out HV11.out))
  have HG11 := Box.mk (HG4'.out.below h411)
  have HF11 := Box.mk (HFI.out.below h411)
  have hmb7 := HMB4.out.below h46 HMB4.out.lt
  have c0 : w5.cell? ⟨w2.heap.size, 0, none⟩ = some (.slice na 2 nc) := (hmb7.cell 0).trans rfl
  have c1 : w5.cell? ⟨w2.heap.size, 1, none⟩ = some (.slice fa 2 fc) := (hmb7.cell 1).trans rfl
  have l0 := hmb7.lt
  rw [HS7.out] at hV11
  clear hb5 hra5 hia5 h46 h47 h411 hmb7 p0 p1 p2 p3 p4 pl
  go_wp2_with fail
  rw [← hV7, ← hV11]
  clear hV7 hV11 c0 c1 l0
  refine HSM.out.mono ?_; rintro e w6 ⟨rfl, hb6⟩
  obtain ⟨V12, hV12⟩ : ∃ V12, V12 = w6.alloc (.cells #[.int .i64 0, .int .i64 1, .int .i64 0, .int .i64 1, .int .i64 0] 3) := ⟨_, rfl⟩
  have h612 : Below w6.heap.size w6 V12 := by rw [hV12]; exact alloc_below _ _
  have HI12 := Box.mk (show IntsAt V12 (.slice (some ⟨w6.heap.size, 0, none⟩) 5 5) [0, 1, 0, 1, 0] by rw [hV12]; exact ints_lit w6 [0, 1, 0, 1, 0] 3 5 rfl (by omega) _ rfl)
  have HE12 := Box.mk (ints_eq (.slice ga 5 gc) (.slice (some ⟨w6.heap.size, 0, none⟩) 5 5) [0, 1, 0, 1, 0] [0, 1, 0, 1, 0] V12 (HG11.out.below (below_tr hb6 h612)) HI12.out (by simp) (by simp) |> fun h => yes_of h rfl)
  have HB12 := Box.mk (below_tr HB11.out (below_tr hb6 h612))
  have HF12 := Box.mk (HF11.out.below (below_tr hb6 h612))
  clear hb6 h612
  go_wp2_with fail
  rw [← hV12]
  clear hV12
  refine HE12.out.mono ?_; rintro e w7 ⟨rfl, hb7⟩
  obtain ⟨V13, hV13⟩ : ∃ V13, V13 = w7.alloc (.cells #[.int .i64 0, .int .i64 1, .int .i64 0] 2) := ⟨_, rfl⟩
  have h713 : Below w7.heap.size w7 V13 := by rw [hV13]; exact alloc_below _ _
  have HI13 := Box.mk (show IntsAt V13 (.slice (some ⟨w7.heap.size, 0, none⟩) 3 3) [0, 1, 0] by rw [hV13]; exact ints_lit w7 [0, 1, 0] 2 3 rfl (by omega) _ rfl)
  have HE13 := Box.mk (lsets12_eq (.slice ha 3 hc) (.slice (some ⟨w7.heap.size, 0, none⟩) 3 3) [0, 1, 0] [0, 1, 0] V13 (HF12.out.below (below_tr hb7 h713)) HI13.out (by simp) (by simp) |> fun h => yes_of h rfl)
  have HB13 := Box.mk (below_tr HB12.out (below_tr hb7 h713))
  clear hb7 h713
  go_wp2_with fail
  rw [← hV13]
  clear hV13
  refine HE13.out.mono ?_; rintro e w8 ⟨rfl, hb8⟩
  have HB14 := Box.mk (below_tr HB13.out hb8)
  clear hb8
  go_wp2_with fail
  go_ret
  exact ⟨rfl, HB14.out⟩
end Go.Proofs.YtjemdepcaaadiaaDoor

/- WHAT THE CARDS OF THIS SEAT SHARE: the sentinels that the rows lay, a world that holds them, and the wrap from a walk that answers true to a row. -/
namespace Go.Proofs.YtjemdepcaaadiaaDoor
open Go.ChangeShapes Go.WideShapes Go.ChangeAt Go.RowKit

section
variable {H : Type} {enc : TypeId × Value → H} {P : Program}
theorem post_of_below {f : Func} {s : ChangeSpec} {apart fresh handsOn again : Bool} {W W' : World} {args : Array Value} {v : Value} {ds gs : List (DataW H)} {before pa pv : List MemPlace}
    (hW : DataW.Whole enc P f.params.toList s.vars apart W args.toList ds gs before)
    (hres : ∀ (b : Nat) (sp : Nat → Bool) (hd : Bool), DataW.TrodAll enc P W' b sp hd f.resultTypes.toList (v.resultList f.resultTypes.size) (s.fn H (ds ++ gs)).results [])
    (hargs : ∀ sp : Nat → Bool, (∀ p ∈ before, sp p.block = true) → DataW.TrodAll enc P W' 0 sp true f.params.toList args.toList (s.fn H (ds ++ gs)).args pa)
    (hvars : ∀ sp : Nat → Bool, (∀ p ∈ before, sp p.block = true) → DataW.TrodVars enc P W' sp s.vars (s.fn H (ds ++ gs)).vars pv)
    (hps : before = pa ++ pv) (hb : Below W.heap.size W W')
    (hok : ∀ (j : Nat) (t : TypeId) (r : Value), f.resultTypes[j]? = some t → (v.resultList f.resultTypes.size)[j]? = some r → Value.okWide P W' .any 0 t r) :
    s.post enc P f apart fresh handsOn again W args v W' := by
  have hlt : ∀ p ∈ before, p.block < W.heap.size := fun p hp => hW.lt p hp
  have hold : ∀ p ∈ before, (fun b => decide (b < W.heap.size)) p.block = true := fun p hp => by simpa using hlt p hp
  refine ⟨ds, gs, before, [], pa, pv, hW, hres _ _ _, hargs _ hold, hvars _ hold, World.keptBut_mono (fun p hp => ⟨hp, ?_⟩) (hb.frame (· ∈ before)), fun _ => ?_⟩
  · rw [hps, List.mem_append] at hp
    exact Or.inr hp
  · obtain ⟨_, _, _, _, _, hz, hn⟩ := hW
    refine ⟨hok, _, _, ([] ++ pa) ++ pv, ⟨[] ++ pa, pv, trodAll_append (hargs _ (fun _ _ => rfl)) (hres _ _ _), hvars _ (fun _ _ => rfl), rfl, ?_, ?_⟩, ?_⟩
    · intro b off hp
      have hin : MemPlace.cell b off ∈ before := by rw [hps]; simpa using hp
      rw [hb.frozen (hlt _ hin)]
      exact hz b off hin
    · intro ha
      have := hn ha
      rw [hps] at this
      simpa using this
    · intro p hp _
      rw [hps]
      simpa using hp
end

theorem own : ownKnob Tryd.prog.godebug = none := by kernel_rfl
theorem cellsErr : Tryd.prog.cellsOf 202 = 1 := by kernel_rfl
theorem cellsStr : Tryd.prog.cellsOf 9 = 1 := by kernel_rfl
theorem starErr : "*" ++ "errors.errorString" = "*errors.errorString" := by decide
theorem rowErr (u : TypeId) (h : Tryd.prog.typeName? 3 u = some "*errors.errorString") : u = 177 :=
  typeName_ptr_named (nm := "errors.errorString") (by rw [starErr]; kernel_rfl) (by kernel_rfl) (by decide) u (by rw [starErr]; exact h)
theorem gN0 : Tryd.prog.globalNamed "virama/nfa.errPattern" = some 2 ∧ (Tryd.prog.globals[2]?).map (·.type) = some 61 := ⟨by kernel_rfl, by kernel_rfl⟩
theorem gN1 : Tryd.prog.globalNamed "virama/dfa.errRule" = some 0 ∧ (Tryd.prog.globals[0]?).map (·.type) = some 61 := ⟨by kernel_rfl, by kernel_rfl⟩
theorem gN2 : Tryd.prog.globalNamed "virama/dfa.errMachine" = some 1 ∧ (Tryd.prog.globals[1]?).map (·.type) = some 61 := ⟨by kernel_rfl, by kernel_rfl⟩
/-- the sentinels: names, numbers, texts -/
def sentList : List Sent := [("virama/nfa.errPattern", 2, [110, 111, 32, 112, 97, 116, 116, 101, 114, 110]), ("virama/dfa.errRule", 0, [110, 111, 32, 114, 117, 108, 101, 115]), ("virama/dfa.errMachine", 1, [110, 111, 32, 109, 97, 99, 104, 105, 110, 101])]
noncomputable def low : Nat := (World.holding Tryd.prog default ⟨#[], #[], []⟩).heap.size
noncomputable def laidWorld (os : Os) : World :=
  let w0 := World.holding Tryd.prog os ⟨#[(.cells #[.string { data := #[110, 111, 32, 112, 97, 116, 116, 101, 114, 110] }] 202 : Obj), (.cells #[.string { data := #[110, 111, 32, 114, 117, 108, 101, 115] }] 202 : Obj), (.cells #[.string { data := #[110, 111, 32, 109, 97, 99, 104, 105, 110, 101] }] 202 : Obj)], #[], []⟩
  { w0 with heap := (((w0.heap.modify 2 fun
      | .cells _ t frozen => .cells #[.iface 177 (.pointer (some ⟨low + 0, 0, none⟩))] t frozen
      | o => o).modify 0 fun
      | .cells _ t frozen => .cells #[.iface 177 (.pointer (some ⟨low + 1, 0, none⟩))] t frozen
      | o => o).modify 1 fun
      | .cells _ t frozen => .cells #[.iface 177 (.pointer (some ⟨low + 2, 0, none⟩))] t frozen
      | o => o) }
set_option maxRecDepth 100000 in
theorem laid_met (os : Os) (args : Array Value) : laidMet Tryd.prog Rows.dfaCompilesRow.laid ((laidWorld os).forCall (fun _ _ => 0) ⟨#[], args, []⟩).memory :=
  laidMet_of_run (ps := [.cell 2 0, .cell (low + 0) 0, .cell 0 0, .cell (low + 1) 0, .cell 1 0, .cell (low + 2) 0]) 8 (by kernel_rfl) (by kernel_rfl) (by kernel_rfl)

/-- where the variables' errors lie -/
theorem Env_of_laid {W : World} (hL : laidMetH Tryd.prog Rows.dfaCompilesRow.laid W) : ∃ A : Nat → Addr, Env (sentList.map (·.2.1)) 177 A W.heap.size W :=
  Env_of_list Tryd.underlying61 rowErr Tryd.underlying177 Tryd.underlying202 rfl rfl Tryd.underlying9 cellsErr cellsStr sentList
    (List.forall_mem_cons.2 ⟨gN0, List.forall_mem_cons.2 ⟨gN1, List.forall_mem_cons.2 ⟨gN2, fun _ h => absurd h List.not_mem_nil⟩⟩⟩) hL
theorem E_of_laid {W : World} (hL : laidMetH Tryd.prog Rows.dfaCompilesRow.laid W) : ∃ A : Nat → Addr, Sd A W.heap.size W := by
  obtain ⟨A, h⟩ := Env_of_laid hL
  exact ⟨A, env_sub h (by decide), env_sub h (by decide), Nat.le_refl _⟩
end Go.Proofs.YtjemdepcaaadiaaDoor

/- A call that answers true and changes nothing of what was there: its arguments read as they did, whatever they are. -/
namespace Go.Proofs.YtjemdepcaaadiaaDoor
open Go.ChangeShapes Go.WideShapes Go.ChangeAt Go.RowKit

section
variable {H : Type} {enc : TypeId × Value → H} {P : Program}
theorem args_stay (hl : laidOutB P = true) {W W' : World} (hb : Below W.heap.size W W') : ∀ (ts : List TypeId) {vs : List Value} {ds : List (DataW H)} {ps : List MemPlace}, (∀ t ∈ ts, P.readableRec t = true ∧ t < P.types.size) →
    DataW.TrodAll enc P W 0 (fun _ => true) true ts vs ds ps → (∀ p ∈ ps, p.block < W.heap.size) → ∀ sp : Nat → Bool, (∀ p ∈ ps, sp p.block = true) → DataW.TrodAll enc P W' 0 sp true ts vs ds ps
  | [], vs, ds, ps, _, h, _, sp, _ => by
    obtain ⟨rfl, rfl, rfl⟩ := trodAll_nil h
    exact trodAll_mk0
  | t :: ts, vs, ds, ps, hr, h, hlt, sp, hs => by
    obtain ⟨v, vs', d, ds', p, q, rfl, rfl, rfl, h1, h2⟩ := trodAll_cons h
    have ht := hr t (List.mem_cons_self ..)
    exact trodAll_cons_mk (WideElems.Trod_stays hl ht.1 ht.2 h1 (fun x hx => hb.same (hlt x (List.mem_append_left _ hx))) (fun x hx => hs x (List.mem_append_left _ hx)))
      (args_stay hl hb ts (fun t' h' => hr t' (List.mem_cons_of_mem _ h')) h2 (fun x hx => hlt x (List.mem_append_right _ hx)) sp (fun x hx => hs x (List.mem_append_right _ hx)))

theorem post_true {f : Func} {s : ChangeSpec} {apart fresh handsOn again : Bool} {W W' : World} {args : Array Value} {ds : List (DataW H)} {before : List MemPlace} {tb : TypeId} (hl : laidOutB P = true)
    (hv : s.vars = []) (hW : DataW.Whole enc P f.params.toList s.vars apart W args.toList ds [] before) (hb : Below W.heap.size W W') (htb : P.underlying tb = some .bool) (hr : f.resultTypes = #[tb])
    (hread : ∀ t ∈ f.params.toList, P.readableRec t = true ∧ t < P.types.size) (hs : s.fn H ds = { results := [.lit (.bool true)], args := ds }) :
    s.post enc P f apart fresh handsOn again W args (.bool true) W' := by
  have hW' := hW
  obtain ⟨p, q, hA, hV, he, hfz, hnd⟩ := hW
  rw [hv] at hV
  obtain ⟨-, rfl⟩ := trodVars_none hV
  rw [List.append_nil] at he
  subst he
  have hlt : ∀ x ∈ before, x.block < W.heap.size := fun x hx => hW'.lt x hx
  have hs' : s.fn H (ds ++ []) = { results := [.lit (.bool true)], args := ds } := by rw [List.append_nil]; exact hs
  refine post_of_below (pa := before) (pv := []) hW' ?_ ?_ ?_ (by simp) hb (ok_one hr rfl (okWide_bool_mk htb _))
  · intro b sp hd
    rw [hs', hr]
    exact trodAll_mk1 (shut_bool htb _)
  · intro sp hsp
    rw [hs']
    exact args_stay hl hb _ hread hA hlt sp hsp
  · intro sp _
    rw [hs', hv]
    rfl
end
end Go.Proofs.YtjemdepcaaadiaaDoor

/- A PATTERN THAT COMES IN: what it reads as. -/
namespace Go.Proofs.YtjemdepcaaadiaaDoor
open Go.RowKit Go.ChangeShapes Go.WideShapes Go.Deep

section
variable {H : Type} {enc : TypeId × Value → H} {W : World}
theorem addr_add (b off i : Nat) : (⟨b, off, none⟩ : Addr).add i = ⟨b, off + i, none⟩ := by
  unfold Addr.add; by_cases h0 : i = 0 <;> simp [h0]
set_option maxRecDepth 100000 in
theorem ItemsAt.open {v : Value} {fuel : Nat} {x : DataW H × List MemPlace} (hf : DataW.trod enc Tryd.prog W 0 (fun _ => true) true fuel 42 [v] = some x) : ∃ l, ItemsAt W v l := by
  rcases open_slice_pairs Tryd.underlying42 Tryd.underlying79 (by kernel_rfl) rfl rfl (by kernel_rfl) (by kernel_rfl) hf with ⟨h1, _⟩ | ⟨a, len, cap, m, n, V0, V1, D0, D1, P0, P1, h1, _, h2, h3, h4, _, h5⟩
  · simp only [List.cons.injEq, and_true] at h1
    exact ⟨[], .inl ⟨h1, rfl⟩⟩
  · simp only [List.cons.injEq, and_true] at h1
    subst h1
    simp only [if_true] at h4
    subst h4
    have key : ∀ i, i < m → ∃ y : N.Item, W.cell? (a.add (i * 2)) = some (.int .i64 y.1) ∧ W.cell? (a.add (i * 2 + 1)) = some (.int .i64 y.2) := by
      intro i hi
      obtain ⟨c0, c1, t0, t1⟩ := h5 i hi
      obtain ⟨k0, e0, _⟩ := DataW.trod_int Tryd.underlying2 t0
      obtain ⟨k1, e1, _⟩ := DataW.trod_int Tryd.underlying3 t1
      simp only [List.cons.injEq, and_true] at e0 e1
      exact ⟨(k0, k1), by rw [c0, e0], by rw [c1, e1]⟩
    let g : Nat → N.Item := fun i => if h : i < m then (key i h).choose else (0, 0)
    have hg : ∀ i, i < m → W.cell? (a.add (i * 2)) = some (.int .i64 (g i).1) ∧ W.cell? (a.add (i * 2 + 1)) = some (.int .i64 (g i).2) := by
      intro i hi
      have : g i = (key i hi).choose := by simp [g, hi]
      rw [this]
      exact (key i hi).choose_spec
    obtain ⟨b, off, sp⟩ := a
    have hlen : ((List.range len).map g).length = len := by simp
    refine ⟨(List.range len).map g, .inr ⟨b, off, sp, m, by rw [hlen], by rw [hlen]; exact h2, h3, fun hn => ?_⟩⟩
    have h0 : 0 < len := by
      rcases Nat.eq_zero_or_pos len with h | h
      · subst h; exact absurd rfl hn
      · exact h
    have hc0 := (hg 0 (by omega)).1
    have hsp : sp = none := World.cell?_spot (a := (⟨b, off, sp⟩ : Addr).add (0 * 2)) hc0
    subst hsp
    refine ⟨rfl, World.block_lt_of_cell? _ _ hc0, fun i y hy => ?_⟩
    rw [List.getElem?_map] at hy
    obtain ⟨j, hj, rfl⟩ := Option.map_eq_some_iff.1 hy
    obtain ⟨hi, rfl⟩ := List.getElem?_eq_some_iff.1 hj
    simp only [List.length_range] at hi
    simp only [List.getElem_range]
    have := hg i (by omega)
    rw [addr_add b off, addr_add b off] at this
    exact this
set_option maxRecDepth 100000 in
theorem pat_open {base : Nat} {v : Value} {d : DataW H} {p : List MemPlace} (hv : Value.okWide Tryd.prog W .any base 44 v) (h : DataW.Trod enc Tryd.prog W 0 (fun _ => true) true 44 v d p) :
    ∃ (st : Bool) (v' : Value) (l : List N.Item), v = .agg #[.bool st, v'] ∧ ItemsAt W v' l := by
  obtain ⟨v0, v1, y0, y1, n, rfl, -, -, h0, h1⟩ := Go.Joins.open_agg2 Tryd.underlying44 (by kernel_rfl) (by kernel_rfl) hv h
  obtain ⟨st, e0, _⟩ := DataW.trod_bool Tryd.underlying4 h0
  simp only [List.cons.injEq, and_true] at e0
  subst e0
  obtain ⟨l, hl⟩ := ItemsAt.open h1
  exact ⟨st, v1, l, rfl, hl⟩
end
end Go.Proofs.YtjemdepcaaadiaaDoor

/- RULES AND MACHINES THAT COME IN: what they read as. -/
namespace Go.Proofs.YtjemdepcaaadiaaDoor
open Go.RowKit Go.ChangeShapes Go.WideShapes Go.Deep

section
variable {H : Type} {enc : TypeId × Value → H} {W : World}
set_option maxRecDepth 100000 in
theorem pat_cells {fuel : Nat} {cs : List Value} {x : DataW H × List MemPlace} (h : DataW.trod enc Tryd.prog W 0 (fun _ => true) true fuel 44 cs = some x) :
    ∃ (st : Bool) (v : Value) (l : List N.Item), cs = [.bool st, v] ∧ ItemsAt W v l := by
  obtain ⟨y0, y1, n, rfl, hl, h0, h1⟩ := trod_struct2 Tryd.underlying44 h
  have hl2 : cs.length = 2 := hl.trans (by kernel_rfl)
  match cs, hl2 with
  | [c0, c1], _ =>
    obtain ⟨st, e0, _⟩ := DataW.trod_bool Tryd.underlying4 h0
    obtain ⟨l, hli⟩ := ItemsAt.open h1
    have e0' : [c0] = [.bool st] := e0
    simp only [List.cons.injEq, and_true] at e0'
    subst e0'
    exact ⟨st, c1, l, rfl, hli⟩
set_option maxRecDepth 100000 in
theorem rule_cells {fuel : Nat} {cs : List Value} {x : DataW H × List MemPlace} (h : DataW.trod enc Tryd.prog W 0 (fun _ => true) true fuel 46 cs = some x) :
    ∃ (y : D.Rule) (vl vr : Value), cs = [.bool y.1.1, vl, .bool y.2.1.1, vr, .bool y.2.2] ∧ ItemsAt W vl y.1.2 ∧ ItemsAt W vr y.2.1.2 := by
  obtain ⟨y0, y1, y2, n, rfl, hl, h0, h1, h2⟩ := trod_struct3 Tryd.underlying46 h
  have hl5 : cs.length = 5 := hl.trans (by kernel_rfl)
  match cs, hl5 with
  | [c0, c1, c2, c3, c4], _ =>
    obtain ⟨sl, vl, ll, e0, hi0⟩ := pat_cells (cs := [c0, c1]) h0
    obtain ⟨sr, vr, lr, e1, hi1⟩ := pat_cells (cs := [c2, c3]) h1
    obtain ⟨br, e2, _⟩ := DataW.trod_bool Tryd.underlying4 h2
    have e2' : [c4] = [.bool br] := e2
    simp only [List.cons.injEq, and_true] at e0 e1 e2'
    obtain ⟨rfl, rfl⟩ := e0
    obtain ⟨rfl, rfl⟩ := e1
    subst e2'
    exact ⟨((sl, ll), (sr, lr), br), _, _, rfl, hi0, hi1⟩
set_option maxRecDepth 100000 in
theorem RulesAt.open {fuel : Nat} {v : Value} {x : DataW H × List MemPlace} (h : DataW.trod enc Tryd.prog W 0 (fun _ => true) true fuel 22 [v] = some x) : ∃ l, RulesAt W v l := by
  have ce : Tryd.prog.cellsOf 46 = 5 := by kernel_rfl
  rcases open_slice Tryd.underlying22 h with ⟨h1, _⟩ | ⟨a, len, cap, m, n, Dd, Pl, h1, _, h2, h3, h4, _, h5⟩
  · simp only [List.cons.injEq, and_true] at h1
    exact ⟨[], .inl ⟨h1, rfl⟩⟩
  · simp only [List.cons.injEq, and_true] at h1
    subst h1
    simp only [if_true] at h4
    subst h4
    rw [ce] at h5
    have key : ∀ i, i < m → ∃ q : D.Rule × Value × Value, (∀ j u, [Value.bool q.1.1.1, q.2.1, .bool q.1.2.1.1, q.2.2, .bool q.1.2.2][j]? = some u → W.cell? ((a.add (i * 5)).add j) = some u) ∧ ItemsAt W q.2.1 q.1.1.2 ∧ ItemsAt W q.2.2 q.1.2.1.2 := by
      intro i hi
      obtain ⟨cs', h6, h7⟩ := h5 i hi
      obtain ⟨_, hlen, hcell⟩ := World.cells?_some h6
      obtain ⟨y, vl, vr, rfl, h8, h9⟩ := rule_cells h7
      refine ⟨(y, vl, vr), fun j u hu => ?_, h8, h9⟩
      have hj : j < 5 := (List.getElem?_eq_some_iff.1 hu).1
      rw [hcell j hj]
      exact hu
    obtain ⟨q, hq⟩ := choose_lt key
    obtain ⟨b, off, sp⟩ := a
    have hlen : ((List.range len).map fun i => (q i).1).length = len := by simp
    refine ⟨(List.range len).map fun i => (q i).1, .inr ⟨b, off, sp, m, by rw [hlen], by rw [hlen]; exact h2, h3, fun hn => ?_⟩⟩
    have h0 : 0 < len := by
      rcases Nat.eq_zero_or_pos len with h | h
      · subst h; exact absurd rfl hn
      · exact h
    have hc0 := (hq 0 (by omega)).1 0 _ rfl
    have hsp : sp = none := World.cell?_spot (a := ((⟨b, off, sp⟩ : Addr).add (0 * 5)).add 0) hc0
    subst hsp
    refine ⟨rfl, World.block_lt_of_cell? _ _ hc0, fun i y hy => ?_⟩
    rw [List.getElem?_map] at hy
    obtain ⟨j, hj, rfl⟩ := Option.map_eq_some_iff.1 hy
    obtain ⟨hi, rfl⟩ := List.getElem?_eq_some_iff.1 hj
    simp only [List.length_range] at hi
    simp only [List.getElem_range]
    obtain ⟨k1, k2, k3⟩ := hq i (by omega)
    have hc : ∀ j u, [Value.bool (q i).1.1.1, (q i).2.1, .bool (q i).1.2.1.1, (q i).2.2, .bool (q i).1.2.2][j]? = some u → W.cell? ⟨b, off + i * 5 + j, none⟩ = some u := fun j u hu => by
      have := k1 j u hu
      rw [addr_add b off, addr_add b] at this
      exact this
    exact ⟨(q i).2.1, (q i).2.2, hc 0 _ rfl, hc 1 _ rfl, hc 2 _ rfl, hc 3 _ rfl, hc 4 _ rfl, k2, k3⟩
set_option maxRecDepth 100000 in
theorem ints_cells {fuel : Nat} {v : Value} {x : DataW H × List MemPlace} {t e : TypeId} (ht : Tryd.prog.underlying t = some (.slice e)) (he : Tryd.prog.underlying e = some (.int .i64)) (hc : Tryd.prog.cellsOf e = 1)
    (h : DataW.trod enc Tryd.prog W 0 (fun _ => true) true fuel t [v] = some x) : ∃ l, IntsAt W v l := by
  rcases Go.ChangeShapes.open_ints ht he hc h with ⟨h1, _⟩ | ⟨a, len, cap, zs, h1, _, h2, h3, h4, _, h5, _⟩
  · simp only [List.cons.injEq, and_true] at h1
    exact ⟨[], .inl ⟨h1, rfl⟩⟩
  · simp only [List.cons.injEq, and_true] at h1
    subst h1
    simp only [if_true] at h4
    have hl : (zs.take len).length = len := by rw [List.length_take]; omega
    obtain ⟨b, off, sp⟩ := a
    refine ⟨zs.take len, .inr ⟨b, off, sp, cap, by rw [hl], by rw [hl]; exact h2, h3, fun hn => ?_⟩⟩
    have h0 : 0 < zs.length := by
      rcases Nat.eq_zero_or_pos zs.length with h | h
      · exact absurd (by rw [List.eq_nil_of_length_eq_zero h]; simp) hn
      · exact h
    have hc0 := h5 0 h0
    have hsp : sp = none := World.cell?_spot (a := (⟨b, off, sp⟩ : Addr).add 0) hc0
    subst hsp
    refine ⟨rfl, World.block_lt_of_cell? _ _ hc0, fun i x hx => ?_⟩
    rw [List.getElem?_take] at hx
    split at hx
    · have hi : i < zs.length := (List.getElem?_eq_some_iff.1 hx).1
      have := h5 i hi
      rw [show (⟨b, off + i, none⟩ : Addr) = (⟨b, off, none⟩ : Addr).add i by unfold Addr.add; by_cases h0 : i = 0 <;> simp [h0], this, List.getD, hx]
      rfl
    · cases hx
set_option maxRecDepth 100000 in
theorem RowsAt.open {fuel : Nat} {v : Value} {x : DataW H × List MemPlace} (h : DataW.trod enc Tryd.prog W 0 (fun _ => true) true fuel 25 [v] = some x) : ∃ l, RowsAt W v l := by
  rcases open_slice1 Tryd.underlying25 (by kernel_rfl) h with ⟨h1, _⟩ | ⟨a, len, cap, m, n, V, Dd, Pl, h1, _, h2, h3, h4, _, h5⟩
  · simp only [List.cons.injEq, and_true] at h1
    exact ⟨[], .inl ⟨h1, rfl⟩⟩
  · simp only [List.cons.injEq, and_true] at h1
    subst h1
    simp only [if_true] at h4
    subst h4
    have key : ∀ i, i < m → ∃ q : List Int, W.cell? (a.add i) = some (V i) ∧ IntsAt W (V i) q := fun i hi => by
      obtain ⟨k1, k2⟩ := h5 i hi
      obtain ⟨q, hq⟩ := ints_cells Tryd.underlying34 Tryd.underlying3 (by kernel_rfl) k2
      exact ⟨q, k1, hq⟩
    obtain ⟨q, hq⟩ := choose_lt key
    obtain ⟨b, off, sp⟩ := a
    have hlen : ((List.range len).map q).length = len := by simp
    refine ⟨(List.range len).map q, .inr ⟨b, off, sp, m, by rw [hlen], by rw [hlen]; exact h2, h3, fun hn => ?_⟩⟩
    have h0 : 0 < len := by
      rcases Nat.eq_zero_or_pos len with h | h
      · subst h; exact absurd rfl hn
      · exact h
    have hc0 := (hq 0 (by omega)).1
    have hsp : sp = none := World.cell?_spot (a := (⟨b, off, sp⟩ : Addr).add 0) hc0
    subst hsp
    refine ⟨rfl, World.block_lt_of_cell? _ _ hc0, fun i y hy => ?_⟩
    rw [List.getElem?_map] at hy
    obtain ⟨j, hj, rfl⟩ := Option.map_eq_some_iff.1 hy
    obtain ⟨hi, rfl⟩ := List.getElem?_eq_some_iff.1 hj
    simp only [List.length_range] at hi
    simp only [List.getElem_range]
    obtain ⟨k1, k2⟩ := hq i (by omega)
    rw [addr_add b off] at k1
    exact ⟨_, k1, k2⟩
set_option maxRecDepth 100000 in
theorem mach_open {base : Nat} {v : Value} {d : DataW H} {p : List MemPlace} (hv : Value.okWide Tryd.prog W .any base 28 v) (h : DataW.Trod enc Tryd.prog W 0 (fun _ => true) true 28 v d p) :
    ∃ M : D.Mach, MachAt W v M := by
  obtain ⟨v0, v1, y0, y1, n, rfl, -, -, h0, h1⟩ := Go.Joins.open_agg2 Tryd.underlying28 (by kernel_rfl) (by kernel_rfl) hv h
  obtain ⟨l0, hl0⟩ := RowsAt.open h0
  obtain ⟨l1, hl1⟩ := ints_cells Tryd.underlying26 Tryd.underlying2 (by kernel_rfl) h1
  exact ⟨(l0, l1), v0, v1, rfl, hl0, hl1⟩
set_option maxRecDepth 100000 in
theorem rules_open {base : Nat} {v : Value} {d : DataW H} {p : List MemPlace} (hv : Value.okWide Tryd.prog W .any base 22 v) (h : DataW.Trod enc Tryd.prog W 0 (fun _ => true) true 22 v d p) :
    ∃ l, RulesAt W v l := by
  obtain ⟨a0, len0, cap0, rfl⟩ := Go.WideShapes.okWide_slice Tryd.underlying22 hv
  obtain ⟨fuel, hf⟩ := h
  exact RulesAt.open hf
end
end Go.Proofs.YtjemdepcaaadiaaDoor

/- PLAIN. Which states of a machine are reached; of rules' machine: all. Nothing of any program. -/
namespace Go.Proofs.YtjemdepcaaadiaaDoor.D

def addOne (t : List Nat) (x : Nat) : List Nat := if x ∈ t then t else t ++ [x]
def addAll (t r : List Nat) : List Nat := r.foldl addOne t
/-- what is to be looked at behind k rounds -/
def reach (next : List (List Nat)) : Nat → List Nat
  | 0 => [0]
  | k + 1 => match (reach next k)[k]? with
    | none => reach next k
    | some s => addAll (reach next k) (next.getD s [])
theorem addAll_snoc (t r : List Nat) (x : Nat) : addAll t (r ++ [x]) = addOne (addAll t r) x := by unfold addAll; rw [List.foldl_append]; rfl
theorem addOne_nodup {t : List Nat} (h : t.Nodup) (x : Nat) : (addOne t x).Nodup := by
  unfold addOne
  split
  · exact h
  · rename_i hx
    rw [List.nodup_append]
    exact ⟨h, by simp, fun a ha b hb e => hx (by rw [List.mem_singleton.1 hb] at e; exact e ▸ ha)⟩
theorem addOne_all {p : Nat → Prop} {t : List Nat} (h : ∀ y ∈ t, p y) {x : Nat} (hx : p x) : ∀ y ∈ addOne t x, p y := by
  unfold addOne
  split
  · exact h
  · intro y hy
    rcases List.mem_append.1 hy with h1 | h1
    · exact h y h1
    · rw [List.mem_singleton.1 h1]; exact hx
theorem addAll_nodup : ∀ (r : List Nat) {t : List Nat}, t.Nodup → (addAll t r).Nodup
  | [], _, h => h
  | x :: r, _, h => addAll_nodup r (addOne_nodup h x)
theorem addAll_all {p : Nat → Prop} : ∀ (r : List Nat) {t : List Nat}, (∀ y ∈ t, p y) → (∀ y ∈ r, p y) → ∀ y ∈ addAll t r, p y
  | [], _, h, _ => h
  | x :: r, _, h, hr => addAll_all r (addOne_all h (hr x (List.mem_cons_self ..))) (fun y hy => hr y (List.mem_cons_of_mem _ hy))
theorem addOne_pre (t : List Nat) (x : Nat) : t <+: addOne t x := by unfold addOne; split; exact List.prefix_refl _; exact List.prefix_append _ _
theorem addAll_pre : ∀ (r t : List Nat), t <+: addAll t r
  | [], _ => List.prefix_refl _
  | x :: r, t => (addOne_pre t x).trans (addAll_pre r (addOne t x))
theorem nodup_le : ∀ (N : Nat) (l : List Nat), l.Nodup → (∀ x ∈ l, x < N) → l.length ≤ N
  | 0, l, _, h => by
    cases l with
    | nil => simp
    | cons x t => exact absurd (h x (List.mem_cons_self ..)) (by omega)
  | N + 1, l, hn, h => by
    have ih := nodup_le N (l.erase N) (hn.erase N) (fun x hx => by
      have h1 := (List.Nodup.mem_erase_iff hn).1 hx
      have := h x h1.2
      omega)
    by_cases hm : N ∈ l
    · rw [List.length_erase_of_mem hm] at ih; omega
    · rw [List.erase_of_not_mem hm] at ih; omega
section
variable (next : List (List Nat))
theorem reach_nodup : ∀ k, (reach next k).Nodup
  | 0 => by unfold reach; simp
  | k + 1 => by
    unfold reach
    split
    · exact reach_nodup k
    · exact addAll_nodup _ (reach_nodup k)
theorem reach_all {N : Nat} (hN : 0 < N) (h : ∀ r ∈ next, ∀ x ∈ r, x < N) : ∀ k, ∀ x ∈ reach next k, x < N
  | 0, x, hx => by unfold reach at hx; rw [List.mem_singleton.1 hx]; exact hN
  | k + 1, x, hx => by
    unfold reach at hx
    split at hx
    · exact reach_all hN h k x hx
    · rename_i s _
      refine addAll_all _ (p := fun y => y < N) (reach_all hN h k) (fun y hy => ?_) x hx
      rw [List.getD] at hy
      cases hs : next[s]? with
      | none => rw [hs] at hy; exact absurd hy List.not_mem_nil
      | some r => rw [hs] at hy; exact h r (List.mem_of_getElem? hs) y hy
theorem reach_len {N : Nat} (hN : 0 < N) (h : ∀ r ∈ next, ∀ x ∈ r, x < N) (k : Nat) : (reach next k).length ≤ N := nodup_le N _ (reach_nodup next k) (reach_all next hN h k)
theorem reach_stop {k : Nat} (h : (reach next k).length ≤ k) : ∀ m, reach next (k + m) = reach next k
  | 0 => rfl
  | m + 1 => by
    have ih := reach_stop h m
    rw [← Nat.add_assoc]
    show (match (reach next (k + m))[k + m]? with | none => reach next (k + m) | some s => addAll (reach next (k + m)) (next.getD s [])) = _
    rw [ih, List.getElem?_eq_none (by omega)]
theorem reach_step {k s : Nat} (h : (reach next k)[k]? = some s) : reach next (k + 1) = addAll (reach next k) (next.getD s []) := by
  rw [reach, h]
theorem reach_none {k : Nat} (h : (reach next k)[k]? = none) : reach next (k + 1) = reach next k := by
  rw [reach, h]
theorem reach_pos (k : Nat) : 0 < (reach next k).length := by
  induction k with
  | zero => unfold reach; simp
  | succ k ih =>
    unfold reach
    split
    · exact ih
    · exact Nat.lt_of_lt_of_le ih (addAll_pre _ _).length_le
end

theorem range_snoc_get (L : Nat) : addOne (List.range L) L = List.range (L + 1) := by
  unfold addOne
  rw [if_neg (by simp), List.range_succ]
theorem addAll_row (rs : List Side) (n : Nat) (S : Sets) (t : List Sets) : ∀ k, addAll (List.range t.length) (row rs n S t k).1 = List.range (row rs n S t k).2.length
  | 0 => rfl
  | k + 1 => by
    rw [row_succ]
    simp only
    rw [addAll_snoc, addAll_row rs n S t k]
    generalize (row rs n S t k).2 = t'
    generalize stepAll rs S (cls n k) = s
    by_cases h : s ∈ t'
    · rw [show add t' s = t' by unfold add; rw [if_pos h]]
      unfold addOne
      rw [if_pos (List.mem_range.2 (place_lt h))]
    · rw [show add t' s = t' ++ [s] by unfold add; rw [if_neg h], place_new h, range_snoc_get, List.length_append]
      rfl
section
variable (rs : List Side) (n : Nat)
theorem next_pre (j : Nat) : ∀ m, (build rs n j).next <+: (build rs n (j + m)).next
  | 0 => List.prefix_refl _
  | m + 1 => by
    refine (next_pre j m).trans ?_
    rw [← Nat.add_assoc]
    show (build rs n (j + m)).next <+: ((build rs n (j + m)).go rs n).next
    unfold Bld.go
    split
    · exact List.prefix_refl _
    · exact List.prefix_append _ _
/-- rules' machine numbers its states as they are met -/
theorem reach_build (K : Nat) : ∀ k, k ≤ K → reach (build rs n K).next k = List.range (build rs n k).todo.length
  | 0, _ => by unfold reach; rfl
  | k + 1, hk => by
    have ih := reach_build K k (by omega)
    have hl := build_len rs n k
    have e2 : build rs n (k + 1) = (build rs n k).go rs n := rfl
    rcases Nat.lt_or_ge k (build rs n k).todo.length with h | h
    · have hnl : (build rs n k).next.length = k := by omega
      obtain ⟨S, hS⟩ : ∃ S, (build rs n k).todo[(build rs n k).next.length]? = some S := ⟨_, List.getElem?_eq_getElem (by rw [hnl]; exact h)⟩
      have hg := go_some rs n hS
      rw [reach_step _ (s := k) (by rw [ih, List.getElem?_range h]), ih, e2, hg]
      simp only
      have hpre := next_pre rs n (k + 1) (K - (k + 1))
      rw [show k + 1 + (K - (k + 1)) = K by omega, e2, hg] at hpre
      have hrow : (build rs n K).next[k]? = some (row rs n S (build rs n k).todo (n + 1)).1 := by
        refine pre_get hpre ?_
        simp only
        rw [List.getElem?_append_right (by omega), hnl, Nat.sub_self]
        rfl
      rw [show (build rs n K).next.getD k [] = (row rs n S (build rs n k).todo (n + 1)).1 by rw [List.getD, hrow]; rfl]
      exact addAll_row rs n S _ (n + 1)
    · have hst : (build rs n k).todo.length ≤ (build rs n k).next.length := by omega
      have hgo : (build rs n k).go rs n = build rs n k := go_none rs n hst
      rw [e2, hgo, ← ih]
      exact reach_none _ (by rw [ih, List.getElem?_eq_none (by rw [List.length_range]; exact h)])
theorem row_lt {S : Sets} {t : List Sets} : ∀ k, ∀ x ∈ (row rs n S t k).1, x < (row rs n S t k).2.length
  | 0, x, h => absurd h List.not_mem_nil
  | k + 1, x, h => by
    rw [row_succ] at h ⊢
    simp only at h ⊢
    rcases List.mem_append.1 h with h1 | h1
    · exact Nat.lt_of_lt_of_le (row_lt k x h1) (add_le _ _)
    · rw [List.mem_singleton.1 h1]; exact (place_add _ _).1
theorem build_lt : ∀ k, (∀ r ∈ (build rs n k).next, ∀ x ∈ r, x < (build rs n k).todo.length) ∧ ∀ f ∈ (build rs n k).fits, f < 2 ^ rs.length
  | 0 => ⟨fun r h => absurd h List.not_mem_nil, fun f h => absurd h List.not_mem_nil⟩
  | k + 1 => by
    obtain ⟨h1, h2⟩ := build_lt k
    have e2 : build rs n (k + 1) = (build rs n k).go rs n := rfl
    rw [e2]
    unfold Bld.go
    split
    · exact ⟨h1, h2⟩
    · rename_i S hS
      simp only
      refine ⟨fun r hr x hx => ?_, fun f hf => ?_⟩
      · rcases List.mem_append.1 hr with h | h
        · exact Nat.lt_of_lt_of_le (h1 r h x hx) (row_pre (rs := rs) (n := n) (S := S) (t := (build rs n k).todo) (n + 1)).length_le
        · rw [List.mem_singleton.1 h] at hx
          exact row_lt rs n (n + 1) x hx
      · rcases List.mem_append.1 hf with h | h
        · exact h2 f h
        · rw [List.mem_singleton.1 h]; exact doneTo_lt rs S rs.length
end
end Go.Proofs.YtjemdepcaaadiaaDoor.D

/- CONTRACTS OF THE LIBRARY, laid at this program (what the kit's tool writes). -/
namespace Go.Proofs.YtjemdepcaaadiaaDoor
open Go.Shelf Go.Proofs
def shelf_lays189_ren : Go.Shelf.Ren := ⟨fun | 189 => 57 | 125 => 87 | 257 => 86 | 128 => 115 | 129 => 116 | 294 => 106 | 295 => 107 | 296 => 108 | 297 => 109 | 298 => 110 | 299 => 111 | 216 => 112 | 300 => 113 | 301 => 114 | 328 => 122 | 329 => 123 | 330 => 124 | 331 => 125 | 332 => 126 | 215 => 127 | 343 => 128 | n => n, fun | 28 => 34 | 3 => 3 | 46 => 125 | 0 => 0 | 51 => 153 | 53 => 155 | 4 => 4 | 183 => 146 | 182 => 145 | 131 => 98 | 5 => 5 | 9 => 9 | 218 => 168 | 222 => 172 | 228 => 174 | 229 => 175 | n => n, fun | n => n⟩
theorem shelf_lays189 : Go.Proofs.Lays.n189 Tryd.prog shelf_lays189_ren := {
  mixed := by kernel_rfl
  f125 := Tryd.func87.trans (congrArg some (by kernel_rfl))
  f128 := Tryd.func115.trans (congrArg some (by kernel_rfl))
  f129 := Tryd.func116.trans (congrArg some (by kernel_rfl))
  f189 := Tryd.func57.trans (congrArg some (by kernel_rfl))
  f215 := Tryd.func127.trans (congrArg some (by kernel_rfl))
  f216 := Tryd.func112.trans (congrArg some (by kernel_rfl))
  f257 := Tryd.func86.trans (congrArg some (by kernel_rfl))
  f294 := Tryd.func106.trans (congrArg some (by kernel_rfl))
  f295 := Tryd.func107.trans (congrArg some (by kernel_rfl))
  f296 := Tryd.func108.trans (congrArg some (by kernel_rfl))
  f297 := Tryd.func109.trans (congrArg some (by kernel_rfl))
  f298 := Tryd.func110.trans (congrArg some (by kernel_rfl))
  f299 := Tryd.func111.trans (congrArg some (by kernel_rfl))
  f300 := Tryd.func113.trans (congrArg some (by kernel_rfl))
  f301 := Tryd.func114.trans (congrArg some (by kernel_rfl))
  f328 := Tryd.func122.trans (congrArg some (by kernel_rfl))
  f329 := Tryd.func123.trans (congrArg some (by kernel_rfl))
  f330 := Tryd.func124.trans (congrArg some (by kernel_rfl))
  f331 := Tryd.func125.trans (congrArg some (by kernel_rfl))
  f332 := Tryd.func126.trans (congrArg some (by kernel_rfl))
  f343 := Tryd.func128.trans (congrArg some (by kernel_rfl))
  t0 := Tryd.underlying0
  a0 := Tryd.isAgg0
  z0 := Tryd.sizeOf0
  v0 := Tryd.zeroValue0
  t3 := Tryd.underlying3
  a3 := Tryd.isAgg3
  z3 := Tryd.sizeOf3
  v3 := Tryd.zeroValue3
  t4 := Tryd.underlying4
  a4 := Tryd.isAgg4
  z4 := Tryd.sizeOf4
  v4 := Tryd.zeroValue4
  t5 := Tryd.underlying5
  a5 := Tryd.isAgg5
  z5 := Tryd.sizeOf5
  v5 := Tryd.zeroValue5
  t9 := Tryd.underlying9
  a9 := Tryd.isAgg9
  z9 := Tryd.sizeOf9
  v9 := Tryd.zeroValue9
  t28 := Tryd.underlying34
  a28 := Tryd.isAgg34
  z28 := Tryd.sizeOf34
  v28 := Tryd.zeroValue34
  t46 := Tryd.underlying125
  a46 := Tryd.isAgg125
  z46 := Tryd.sizeOf125
  v46 := Tryd.zeroValue125
  t51 := Tryd.underlying153
  a51 := Tryd.isAgg153
  z51 := Tryd.sizeOf153
  v51 := Tryd.zeroValue153
  t53 := Tryd.underlying155
  a53 := Tryd.isAgg155
  z53 := Tryd.sizeOf155
  v53 := Tryd.zeroValue155
  t131 := Tryd.underlying98
  a131 := Tryd.isAgg98
  z131 := Tryd.sizeOf98
  v131 := Tryd.zeroValue98
  t182 := Tryd.underlying145
  a182 := Tryd.isAgg145
  z182 := Tryd.sizeOf145
  v182 := Tryd.zeroValue145
  t183 := Tryd.underlying146
  a183 := Tryd.isAgg146
  z183 := Tryd.sizeOf146
  v183 := Tryd.zeroValue146
  t218 := Tryd.underlying168
  a218 := Tryd.isAgg168
  z218 := Tryd.sizeOf168
  v218 := Tryd.zeroValue168
  t222 := Tryd.underlying172
  a222 := Tryd.isAgg172
  z222 := Tryd.sizeOf172
  v222 := Tryd.zeroValue172
  t228 := Tryd.underlying174
  a228 := Tryd.isAgg174
  z228 := Tryd.sizeOf174
  v228 := Tryd.zeroValue174
  t229 := Tryd.underlying175
  a229 := Tryd.isAgg175
  z229 := Tryd.sizeOf175
  v229 := Tryd.zeroValue175 }
open Go.Sort Go.RowKit in
theorem shelf_slices_Sort_int (blk off cap : Nat) (zs : List Int) (w : World) (hH : Go.Sort.Holds (Value.int .i64) w blk off zs.toArray) (hblk : blk < w.heap.size) (hsz : zs.length < 4611686018427387904) :
    Calls Tryd.prog 57 #[.slice (some ⟨blk, off, none⟩) zs.length cap] w fun e w' =>
      e = .returned (.tuple #[]) ∧ ∃ n os, w' = grow (putRow (Value.int .i64) (Sort.ahead w n) blk off (zs.mergeSort fun x y => decide (x ≤ y)).toArray) os := Any.slices_Sort_int shelf_lays189 blk off cap zs w hH hblk hsz
def shelf_laysNm220_ren : Go.Shelf.Ren := ⟨fun | 20 => 105 | n => n, fun | 22 => 34 | 3 => 3 | 4 => 4 | 0 => 0 | n => n, fun | n => n⟩
theorem shelf_laysNm220 : Go.Proofs.Lays2.n20 Tryd.prog shelf_laysNm220_ren := {
  mixed := by kernel_rfl
  f20 := Tryd.func105.trans (congrArg some (by kernel_rfl))
  t0 := Tryd.underlying0
  a0 := Tryd.isAgg0
  z0 := Tryd.sizeOf0
  v0 := Tryd.zeroValue0
  t3 := Tryd.underlying3
  a3 := Tryd.isAgg3
  z3 := Tryd.sizeOf3
  v3 := Tryd.zeroValue3
  t4 := Tryd.underlying4
  a4 := Tryd.isAgg4
  z4 := Tryd.sizeOf4
  v4 := Tryd.zeroValue4
  t22 := Tryd.underlying34
  a22 := Tryd.isAgg34
  z22 := Tryd.sizeOf34
  v22 := Tryd.zeroValue34
  i3 := by kernel_rfl }
open Go.RowKit Go.Lib Go.Sort in
theorem shelf_slices_Compact_int (blk off cap : Nat) (zs : List Int) (w : World) (hH : Go.Sort.Holds (Value.int .i64) w blk off zs.toArray) (hsz : zs.length ≤ 9223372036854775807) (hcap : zs.length ≤ cap) :
    Calls Tryd.prog 105 #[.slice (some ⟨blk, off, none⟩) zs.length cap] w fun e w' => e = .returned (.slice (some ⟨blk, off, none⟩) (Lib.compact zs).length cap) ∧ ∃ q, w' = putRow (Value.int .i64) (Sort.ahead w q) blk off (Lib.compact zs ++ List.replicate (zs.length - (Lib.compact zs).length) 0).toArray := Any.slices_Compact_int shelf_laysNm220 blk off cap zs w hH hsz hcap
open Go.RowKit Go.Lib Go.Sort in
theorem shelf_slices_Compact_int_empty (a : Option Addr) (cap : Nat) (w : World) :
    Calls Tryd.prog 105 #[.slice a 0 cap] w fun e w' => e = .returned (.slice a 0 cap) ∧ w' = w := Any.slices_Compact_int_empty shelf_laysNm220 a cap w
open Go.RowKit Go.Sort in
theorem shelf_slices_Sort_int_none (p : Option Addr) (cap : Nat) (w : World) :
    Calls Tryd.prog 57 #[.slice p 0 cap] w fun e w' => e = .returned (.tuple #[]) ∧ w' = w := Any.slices_Sort_int_none shelf_lays189 p cap w
end Go.Proofs.YtjemdepcaaadiaaDoor

/- A ROW OF ONE'S OWN, sorted in place; runs of the same struck out; a number sought in a list. -/
namespace Go.Proofs.YtjemdepcaaadiaaDoor
open Go.RowKit Go.Sort

def sortI (zs : List Int) : List Int := zs.mergeSort fun x y => decide (x ≤ y)
theorem sortI_len (zs : List Int) : (sortI zs).length = zs.length := List.length_mergeSort _
theorem sort_sep {ps : List Pc} {W : World} (h : Sep ps W) (i : Nat) {base n : Nat} {e : TypeId} {v : Value} {zs : List Int} (hi : ps[i]? = some (Pc.row base e 1 v n (zs.map (Value.int .i64)))) (hn : n = zs.length) (hz : n ≤ 1000000) :
    Calls Tryd.prog 57 #[v] W fun e' W' => e' = .returned (.tuple #[]) ∧ Sep (ps.set i (Pc.row base e 1 v n ((sortI zs).map (Value.int .i64)))) W' := by
  subst hn
  have hrow := h.row i hi
  rcases hrow.2 with ⟨rfl, h2⟩ | ⟨g, cap, cur, rfl, hb, hg, h3, h4, h5, h6⟩
  · have hz0 : zs = [] := List.eq_nil_of_length_eq_zero h2
    subst hz0
    refine (shelf_slices_Sort_int_none none 0 W).mono ?_
    rintro e' W' ⟨rfl, rfl⟩
    refine ⟨rfl, ?_⟩
    have e1 : ps.set i (Pc.row base e 1 (.slice none 0 0) ([] : List Int).length ((sortI []).map (Value.int .i64))) = ps := by
      obtain ⟨k1, k2⟩ := List.getElem?_eq_some_iff.1 hi
      rw [show (sortI []).map (Value.int .i64) = ([] : List Int).map (Value.int .i64) by simp [sortI], ← k2, List.set_getElem_self]
    rw [e1]
    exact h
  · rw [Nat.mul_one] at h6
    refine (shelf_slices_Sort_int g 0 cap zs W (holds_of_blockI hg h6) (Array.getElem?_eq_some_iff.1 hg).1 (by omega)).mono ?_
    rintro e' W' ⟨rfl, n, os, rfl⟩
    exact ⟨rfl, h.grow i hi (grownBy_sortedI _) (ownsRow_sortedI (sortI_len zs) hb hg h3 h4 h5) (.inl rfl)⟩

theorem indexC_any (v : Value) (xs : List Int) (x : Int) (w : World) (hv : IntsAt w v xs) (hz : xs.length ≤ 16777216) :
    Calls Tryd.prog 81 #[v, .int .i64 x] w fun e w' => (∃ i : Int, e = .returned (.int .i64 i) ∧ decide (0 ≤ i) = decide (x ∈ xs)) ∧ w = w' := by
  have HV := Box.mk hv
  obtain ⟨ao, cap, rfl⟩ := hv.slice
  clear hv
  go_enter Tryd.func81, Tryd.ntmps81
  go_wp2
  go_loop [8] (fun i => ∃ k : Nat, k ≤ xs.length ∧ i = .int .i64 k ∧ Box (x ∉ xs.take k)) (fun i => xs.length - (intOf i).toNat)
  case atStart => exact ⟨0, by omega, rfl, ⟨by simp⟩⟩
  case round =>
    obtain ⟨k, hk, rfl, hn⟩ := hrel
    by_cases hlt : k < xs.length
    · obtain ⟨y, hy⟩ : ∃ y, xs[k]? = some y := ⟨_, List.getElem?_eq_getElem hlt⟩
      obtain ⟨g, off, cap2, hg1, hg2, hg3, hg4, hg5⟩ := HV.out.get (by rintro rfl; simp at hlt)
      obtain ⟨rfl, rfl⟩ : ao = some ⟨g, off, none⟩ ∧ cap = cap2 := by injection hg1 with h1 h2 h3; exact ⟨h1, h3⟩
      have hcy := hg5 k y hy
      have HY := Box.mk hy
      unfold maxLen at hg3
      clear hy hg1 hg5
      by_cases hxy : x = y
      · subst hxy
        have HM := Box.mk (show x ∈ xs from List.mem_of_getElem? HY.out)
        go_wp2
        go_ret
        exact ⟨⟨k, rfl, by first | (rw [decide_eq_true HM.out]; simp) | exact ⟨fun _ => HM.out, fun _ => by omega⟩⟩, rfl⟩
      · have HN := Box.mk (show x ∉ xs.take (k + 1) by
          rw [List.take_add_one, HY.out, List.mem_append]
          rintro (h | h)
          · exact hn.out h
          · exact hxy (List.mem_singleton.1 h))
        have hq : (x == y) = false := beq_eq_false_iff_ne.2 hxy
        go_wp2
        go_round
        case rel => exact ⟨k + 1, hlt, by go_num, HN⟩
        case measure => simp [intOf]; omega
    · have HN := Box.mk (show x ∉ xs by have := hn.out; rwa [List.take_of_length_le (by omega)] at this)
      go_wp2
      go_ret
      exact ⟨⟨-1, rfl, by first | (rw [decide_eq_false HN.out]; rfl) | exact ⟨fun h => by omega, fun h => absurd h HN.out⟩⟩, rfl⟩
theorem containsC_any (v : Value) (xs : List Int) (x : Int) (w : World) (hv : IntsAt w v xs) (hz : xs.length ≤ 16777216) :
    Calls Tryd.prog 55 #[v, .int .i64 x] w fun e w' => e = .returned (.bool (decide (x ∈ xs))) ∧ w = w' := by
  have HI := Box.mk (indexC_any v xs x w hv hz)
  clear hv
  go_enter Tryd.func55, Tryd.ntmps55
  go_wp2_with fail
  refine HI.out.mono ?_; rintro e w1 ⟨⟨i, rfl, hi⟩, rfl⟩
  have HX := Box.mk hi
  clear hi
  go_wp2_with fail
  go_ret
  exact ⟨ret_bool HX.out, rfl⟩
end Go.Proofs.YtjemdepcaaadiaaDoor

/- WHICH STATES ARE REACHED: the program's Reached; rules' machine is right. -/
namespace Go.Proofs.YtjemdepcaaadiaaDoor
open Go.RowKit Go.Shelf
attribute [local go_sem] Oper.semAt_some

def natRows (M : D.Mach) : List (List Nat) := M.1.map fun r => r.map Int.toNat
def reachK (M : D.Mach) (k : Nat) : List Nat := D.reach (natRows M) k
def reachM (M : D.Mach) : List Nat := reachK M 300
def reachedL (n : Int) (M : D.Mach) : List Int := if machR n M = true then sortI (zs (reachM M)) else []
def reachedPost (n : Int) (M : D.Mach) (w : World) (e : Ending) (w' : World) : Prop :=
  Below w.heap.size w w' ∧ ∃ v, e = .returned (.tuple #[v, .int .i64 (goCode n M)]) ∧ IntsAt w' v (reachedL n M)
theorem natV_zs (T : List Nat) : T.map natV = (zs T).map (Value.int .i64) := by unfold zs; rw [List.map_map]; rfl
theorem natRows_lt {n : Int} {M : D.Mach} (h : machR n M = true) : ∀ r ∈ natRows M, ∀ x ∈ r, x < M.1.length := by
  intro r hr x hx
  obtain ⟨r0, h0, rfl⟩ := List.mem_map.1 hr
  obtain ⟨y, hy, rfl⟩ := List.mem_map.1 hx
  obtain ⟨a, ha⟩ := List.mem_iff_getElem?.1 h0
  have hlt := (List.getElem?_eq_some_iff.1 ha).1
  obtain ⟨n1, n2, -, -, -⟩ := machR_parts h
  obtain ⟨m, rfl⟩ := Int.eq_ofNat_of_zero_le (show 0 ≤ n by omega)
  obtain ⟨r1, h1, h2, h3, -⟩ := machR_row h hlt
  rw [ha] at h1
  cases h1
  obtain ⟨j, hj⟩ := List.mem_iff_getElem?.1 hy
  have hjl := (List.getElem?_eq_some_iff.1 hj).1
  obtain ⟨z, hz, z0, z1⟩ := h3 j (by omega)
  rw [hj] at hz
  cases hz
  omega
theorem reachK_len {n : Int} {M : D.Mach} (h : machR n M = true) (k : Nat) : (reachK M k).length ≤ M.1.length := D.reach_len _ (by have := (machR_parts h).2.2.1; omega) (natRows_lt h) k
theorem reachK_lt {n : Int} {M : D.Mach} (h : machR n M = true) (k : Nat) : ∀ x ∈ reachK M k, x < M.1.length := D.reach_all _ (by have := (machR_parts h).2.2.1; omega) (natRows_lt h) k
theorem reachK_end {n : Int} {M : D.Mach} (_h : machR n M = true) {k : Nat} (hk : (reachK M k).length ≤ k) (hk3 : k ≤ 300) : reachM M = reachK M k := by
  unfold reachM reachK
  have := D.reach_stop (natRows M) hk (300 - k)
  rwa [show k + (300 - k) = 300 by omega] at this
theorem addOne_in {t : List Nat} {x : Nat} (h : x ∈ t) : D.addOne t x = t := by unfold D.addOne; rw [if_pos h]
theorem addOne_out {t : List Nat} {x : Nat} (h : x ∉ t) : D.addOne t x = t ++ [x] := by unfold D.addOne; rw [if_neg h]
theorem zs_mem {T : List Nat} {x : Nat} : (x : Int) ∈ zs T ↔ x ∈ T := by
  unfold zs
  rw [List.mem_map]
  constructor
  · rintro ⟨y, hy, e⟩
    rwa [show x = y by omega]
  · exact fun h => ⟨x, h, rfl⟩

set_option maxRecDepth 100000 in
set_option maxHeartbeats 8000000 in
theorem mreached_any (A : Nat → Addr) (B : Nat) (v : Value) (M : D.Mach) (n : Int) (w : World) (hv : MachAt w v M) (hM : MachFit M) (hD : Ed A B w) (hB : B ≤ w.heap.size) :
    Calls Tryd.prog 26 #[v, .int .i64 n] w (reachedPost n M w) := by
  have HRT := Box.mk (fun W (h : Below w.heap.size w W) => mright_any v M n W (hv.below h) hM)
  have HD := Box.mk (fun W (h : Below w.heap.size w W) => hD.below (h.mono hB))
  obtain ⟨na, fa, rfl, hra, hia⟩ := hv
  have HRA := Box.mk hra
  obtain ⟨aa, ca, rfl⟩ := hra.slice
  obtain ⟨fo, fc, rfl⟩ := hia.slice
  obtain ⟨w2, hw2⟩ : ∃ w2, w2 = w.alloc (.cells #[.slice aa M.1.length ca, .slice fo M.2.length fc] 28) := ⟨_, rfl⟩
  have HW2 := Box.mk hw2
  have HS2 := Box.mk (show Sep [Pc.blk w.heap.size 28 #[.slice aa M.1.length ca, .slice fo M.2.length fc], Pc.old w.heap.size w] w2 by rw [hw2]; exact (Sep.start w).alloc_blk _ _)
  have hb2 : Below w.heap.size w w2 := HS2.out.bel (by simp)
  have HB2 := Box.mk hb2
  have hba := HS2.out.blk 0 rfl
  have c0 : w2.cell? ⟨w.heap.size, 0, none⟩ = some (.slice aa M.1.length ca) := (hba.cell 0).trans rfl
  have c1 : w2.cell? ⟨w.heap.size, 1, none⟩ = some (.slice fo M.2.length fc) := (hba.cell 1).trans rfl
  have l0 := hba.lt
  clear hra hia hM hD hw2 hb2 hba
  cases hr : machR n M with
  | false =>
    have HR := Box.mk hr
    have HC := Box.mk (show goCode n M = 100 by unfold goCode; rw [hr]; rfl)
    have HL := Box.mk (show reachedL n M = [] by unfold reachedL; rw [hr]; rfl)
    clear hr
    go_enter Tryd.func26, Tryd.ntmps26
    go_upto_region 1 with (fail)
    rw [← HW2.out]
    go_wp2_with fail
    refine (HRT.out _ HB2.out).mono ?_; rintro e w3 ⟨rfl, hb3⟩; rw [HR.out]
    have HB3 := Box.mk (HB2.out.trans (hb3.mono HB2.out.size))
    have hD3 := HD.out w3 HB3.out
    have hg := hD3.var 1 (by decide)
    have HT := Box.mk (dtold_any A B 1 (by decide) w3 hD3)
    unfold errV at HT
    clear hb3 hD3
    go_wp2_with fail
    refine HT.out.mono ?_; rintro e w4 ⟨rfl, rfl⟩
    go_wp2_with fail
    go_ret2
    exact ⟨HB3.out, _, by rw [HC.out]; rfl, by rw [HL.out]; exact IntsAt.nil⟩
  | true =>
    have HR := Box.mk hr
    obtain ⟨h1, h2, h3, h4, h5⟩ := machR_parts hr
    obtain ⟨nn, rfl⟩ := Int.eq_ofNat_of_zero_le (show 0 ≤ n by omega)
    have HC := Box.mk (show goCode nn M = 0 by unfold goCode; rw [hr]; rfl)
    have HL := Box.mk (show reachedL nn M = sortI (zs (reachM M)) by unfold reachedL; rw [hr]; rfl)
    have HLEN := Box.mk (fun k => reachK_len hr k)
    have HLT := Box.mk (fun k => reachK_lt hr k)
    have HROW := Box.mk (fun {a : Nat} (ha : a < M.1.length) => machR_row hr ha)
    have HEND := Box.mk (fun {k : Nat} (hk : (reachK M k).length ≤ k) (hk3 : k ≤ 300) => reachK_end hr hk hk3)
    have HNX := Box.mk (natRows_lt hr)
    clear hr h5
    go_enter Tryd.func26, Tryd.ntmps26
    go_upto_region 1 with (fail)
    rw [← HW2.out]
    go_wp2_with fail
    refine (HRT.out _ HB2.out).mono ?_; rintro e w3 ⟨rfl, hb3⟩; rw [HR.out]
    have HS3 := Box.mk (show Sep [Pc.row w.heap.size 3 1 (.slice (some ⟨w3.heap.size, 0, none⟩) 1 1) (reachK M 0).length ((reachK M 0).map natV), Pc.blk w.heap.size 28 #[.slice aa M.1.length ca, .slice fo M.2.length fc], Pc.old w.heap.size w] (w3.alloc (.cells #[.int .i64 0] 3)) by
      exact (HS2.out.below hb3).lit (base := w.heap.size) (e := 3) (cs := #[.int .i64 0]) (n := 1) (Nat.le_trans HB2.out.size hb3.size) rfl (by omega))
    clear hb3 c0 c1 l0
    go_wp2_with fail
    go_loopw [6, 7] (fun tv i wr => ∃ k : Nat, k ≤ 300 ∧ k ≤ (reachK M k).length ∧ i = .int .i64 k ∧ Box (Sep [Pc.row w.heap.size 3 1 tv (reachK M k).length ((reachK M k).map natV), Pc.blk w.heap.size 28 #[.slice aa M.1.length ca, .slice fo M.2.length fc], Pc.old w.heap.size w] wr)) (fun _ i _ => 300 - (intOf i).toNat)
    case atStart => exact ⟨0, by omega, by omega, rfl, HS3⟩
    case round =>
      obtain ⟨k, hk, hk2, rfl, hsep⟩ := hrel
      have hlen := HLEN.out k
      obtain ⟨tq, tc, rfl, ht1, ht2⟩ := own_shape (hsep.out.row 0 rfl)
      by_cases hlt : k < (reachK M k).length
      · obtain ⟨s, hs⟩ : ∃ s, (reachK M k)[k]? = some s := ⟨_, List.getElem?_eq_getElem hlt⟩
        have hsl := HLT.out k s (List.mem_of_getElem? hs)
        obtain ⟨r, hr1, hr2, hr3, -⟩ := HROW.out hsl
        obtain ⟨rN, hrN⟩ : ∃ rN, r.map Int.toNat = rN := ⟨_, rfl⟩
        have hrz : r = zs rN := by
          rw [← hrN]
          unfold zs
          rw [List.map_map]
          apply List.ext_getElem?
          intro j
          rw [List.getElem?_map]
          rcases Nat.lt_or_ge j (nn + 1) with hj | hj
          · obtain ⟨x, hx, x0, -⟩ := hr3 j (by omega)
            rw [hx]
            simp only [Option.map_some, Function.comp_apply, Option.some.injEq]
            omega
          · rw [List.getElem?_eq_none (by omega)]; rfl
        have hrNl : rN.length = nn + 1 := by rw [← hrN, List.length_map]; exact hr2
        have hnr : (natRows M)[s]? = some rN := by unfold natRows; rw [List.getElem?_map, hr1]; exact congrArg some hrN
        have HNEXT := Box.mk (show reachK M (k + 1) = D.addAll (reachK M k) rN by
          unfold reachK
          rw [D.reach_step (natRows M) (s := s) hs, show (natRows M).getD s [] = rN by rw [List.getD, hnr]; rfl])
        have HRL := Box.mk (HNX.out rN (List.mem_of_getElem? hnr))
        obtain ⟨T, hT⟩ : ∃ T, reachK M k = T := ⟨_, rfl⟩
        have HTN := Box.mk (show T.Nodup by rw [← hT]; exact D.reach_nodup _ k)
        have HTL := Box.mk (show ∀ x ∈ T, x < M.1.length by rw [← hT]; exact HLT.out k)
        rw [hT] at hs hlt hlen hsep HNEXT
        have HBR := Box.mk (show Below w.heap.size w wr from hsep.out.bel (by simp))
        have HML := Box.mk (show ∀ q, (D.addAll T (rN.take q)).length ≤ 300 from fun q => Nat.le_trans (D.nodup_le _ _ (D.addAll_nodup _ HTN.out) (D.addAll_all (p := fun x => x < M.1.length) _ HTL.out (fun y hy => HRL.out y (List.mem_of_mem_take hy)))) h4)
        obtain ⟨lb, loff, lcap, k1, k2, k3, k4, k5⟩ := (row_ints (hsep.out.row 0 rfl) rfl).get (by intro e; have := congrArg List.length e; rw [zs_len, List.length_nil] at this; omega)
        rw [zs_len] at k1
        rw [zs_len] at k2
        obtain ⟨rfl, rfl⟩ : tq = some ⟨lb, loff, none⟩ ∧ tc = lcap := by injection k1 with h1 h2 h3; exact ⟨h1, h3⟩
        have hks := k5 k _ (zs_get hs)
        obtain ⟨pa, oa, ca', ha0, ha1, ha2, ha3, ha4⟩ := HRA.out.get (by intro e; rw [e] at hr1; simp at hr1)
        obtain ⟨rfl, rfl⟩ : aa = some ⟨pa, oa, none⟩ ∧ ca = ca' := by injection ha0 with h1 h2 h3; exact ⟨h1, h3⟩
        obtain ⟨xv, hxc, hxi⟩ := ha4 _ r hr1
        obtain ⟨rb, roff, rcap, r1, r2, r3, r4, r5⟩ := hxi.get (by rintro rfl; simp at hr2)
        rw [hr2] at r1 r2
        subst r1
        have hxr := (HBR.out.cell (p := ⟨pa, oa + s, none⟩) ha3).trans hxc
        have hba := hsep.out.blk 1 rfl
        have c0 : wr.cell? ⟨w.heap.size, 0, none⟩ = some (.slice (some ⟨pa, oa, none⟩) M.1.length ca) := (hba.cell 0).trans rfl
        have HRC := Box.mk (show ∀ (q x : Nat), rN[q]? = some x → w.cell? ⟨rb, roff + q, none⟩ = some (.int .i64 (x : Int)) from fun q x hq => r5 q x (by rw [hrz]; exact zs_get hq))
        have HRB := Box.mk (show rb < w.heap.size from r4)
        unfold maxLen at k3 ha2 r3
        have hkc : k < tc := by omega
        have hsc : s < ca := by omega
        have l0 := hba.lt
        have HSD := Box.mk hsep.out.drew
        rw [hT]
        clear k1 k5 ha0 ha4 hxc hxi r5 hba hr1 hr3 hs hnr hrz hrN hT hr2 hsep
        go_wp2_with fail
        go_region
        have HSD0 := Box.mk (show Sep [Pc.row w.heap.size 3 1 (.slice (some ⟨lb, loff, none⟩) T.length tc) (D.addAll T (rN.take 0)).length ((D.addAll T (rN.take 0)).map natV), Pc.blk w.heap.size 28 #[.slice (some ⟨pa, oa, none⟩) M.1.length ca, .slice fo M.2.length fc], Pc.old w.heap.size w] wr.drew from HSD.out)
        clear hks hxr c0 l0 HSD
        go_wp2_with fail
        go_loopw [6, 32] (fun tv j wi => ∃ q : Nat, q ≤ nn + 1 ∧ j = .int .i64 q ∧ Box (Sep [Pc.row w.heap.size 3 1 tv (D.addAll T (rN.take q)).length ((D.addAll T (rN.take q)).map natV), Pc.blk w.heap.size 28 #[.slice (some ⟨pa, oa, none⟩) M.1.length ca, .slice fo M.2.length fc], Pc.old w.heap.size w] wi)) (fun _ j _ => nn + 1 - (intOf j).toNat)
        case atStart => exact ⟨0, by omega, rfl, HSD0⟩
        case round =>
          obtain ⟨q, hq, rfl, hsi⟩ := hrel
          have hml := HML.out q
          have HBI := Box.mk (show Below w.heap.size w wr from hsi.out.bel (by simp))
          obtain ⟨to2, tc2, rfl, hu1, hu2⟩ := own_shape (hsi.out.row 0 rfl)
          by_cases hqn : q < nn + 1
          · obtain ⟨x, hx⟩ : ∃ x, rN[q]? = some x := ⟨_, List.getElem?_eq_getElem (by omega)⟩
            have hxc := (HBI.out.cell (p := ⟨rb, roff + q, none⟩) HRB.out).trans (HRC.out q x hx)
            have lrb : rb < wr.heap.size := Nat.lt_of_lt_of_le HRB.out HBI.out.size
            have HSN := Box.mk (show D.addAll T (rN.take (q + 1)) = D.addOne (D.addAll T (rN.take q)) x by rw [take_snoc' _ _ _ hx, D.addAll_snoc])
            obtain ⟨t, ht⟩ : ∃ t, D.addAll T (rN.take q) = t := ⟨_, rfl⟩
            rw [ht] at hsi hml HSN hu1
            rw [ht]
            have HCT := Box.mk (containsC_any _ (zs t) x wr (row_ints (hsi.out.row 0 rfl) rfl) (by rw [zs_len]; omega))
            have hqc : q < rcap := by omega
            have hbi := HBI.out.size
            clear hx ht
            by_cases hm : x ∈ t
            · have HCD := Box.mk (show decide ((x : Int) ∈ zs t) = true from decide_eq_true (zs_mem.2 hm))
              have HSE := Box.mk (addOne_in hm)
              clear hm
              go_wp2_with (go_at_call 55; refine HCT.out.mono ?_; rintro e w5 ⟨rfl, rfl⟩; rw [HCD.out])
              go_roundw
              case rel => exact ⟨q + 1, hqn, by go_num, ⟨by rw [HSN.out, HSE.out]; exact hsi.out⟩⟩
              case measure => simp [intOf]; omega
            · have HCD := Box.mk (show decide ((x : Int) ∈ zs t) = false from decide_eq_false (fun h => hm (zs_mem.1 h)))
              have HSE := Box.mk (addOne_out hm)
              clear hm
              go_wp2_with (first
                | (go_at_call 55; refine HCT.out.mono ?_; rintro e w5 ⟨rfl, rfl⟩; rw [HCD.out])
                | (at_builtin; refine wpList_push rfl _ _ 34 rfl pushInt hsi.out 0 rfl rfl rfl rfl (by omega) (by omega) hbi ?_; rintro v' w6 hS6 -))
              have HS6 := Box.mk (show Sep [Pc.row w.heap.size 3 1 v' (D.addAll T (rN.take (q + 1))).length ((D.addAll T (rN.take (q + 1))).map natV), Pc.blk w.heap.size 28 #[.slice (some ⟨pa, oa, none⟩) M.1.length ca, .slice fo M.2.length fc], Pc.old w.heap.size w] w6 by
                rw [HSN.out, HSE.out, List.length_append, List.map_append]
                exact hS6)
              clear hS6
              go_wp2_with fail
              go_roundw
              case rel => exact ⟨q + 1, hqn, by go_num, HS6⟩
              case measure => simp [intOf]; omega
          · have hqe : q = nn + 1 := by omega
            have HSX := Box.mk (show Sep [Pc.row w.heap.size 3 1 (.slice to2 (D.addAll T (rN.take q)).length tc2) (reachK M (k + 1)).length ((reachK M (k + 1)).map natV), Pc.blk w.heap.size 28 #[.slice (some ⟨pa, oa, none⟩) M.1.length ca, .slice fo M.2.length fc], Pc.old w.heap.size w] wr by
              have h := hsi.out
              have e : rN.take q = rN := by rw [hqe, ← hrNl, List.take_length]
              rw [HNEXT.out]
              rw [e] at h ⊢
              exact h)
            have hk3 : k + 1 ≤ (reachK M (k + 1)).length := by
              rw [HNEXT.out]
              have := (D.addAll_pre rN T).length_le
              omega
            have HK3 := Box.mk hk3
            clear hk3 hqe
            go_wp2_with fail
            go_roundw
            case rel => exact ⟨k + 1, by omega, HK3.out, by go_num, HSX⟩
            case measure => simp [intOf]; omega
      · have hke : (reachK M k).length = k := by omega
        have HKE := Box.mk (HEND.out (k := k) (by omega) hk)
        have hsep' := hsep.out
        rw [natV_zs] at hsep'
        have HSRT := Box.mk (sort_sep hsep' 0 rfl (by rw [zs_len]) (by omega))
        clear hke hsep'
        go_wp2_with fail
        refine HSRT.out.mono ?_; rintro e w5 ⟨rfl, hs5⟩
        have HS5 := Box.mk hs5
        clear hs5
        go_wp2_with fail
        go_ret2
        refine ⟨HS5.out.bel (by simp), _, by rw [HC.out]; rfl, ?_⟩
        rw [HL.out, HKE.out]
        exact row_intsI (HS5.out.row 0 rfl) (by rw [sortI_len, zs_len])
end Go.Proofs.YtjemdepcaaadiaaDoor

/- THE LAWS OF LAYER 12, WALKED: rules' machines. -/
namespace Go.Proofs.YtjemdepcaaadiaaDoor
open Go.RowKit Go.Shelf
attribute [local go_sem] Oper.semAt_some

theorem few12_len (l : List D.Rule) : (few12 l).length ≤ 6 := by unfold few12; rw [List.length_take]; omega
theorem few12_fit (l : List D.Rule) : ∀ x ∈ few12 l, ruleFit x := by
  intro x hx
  unfold few12 few11 at hx
  obtain ⟨y, -, rfl⟩ := List.mem_map.1 (List.mem_of_mem_take hx)
  unfold ruleFit cutR
  simp only [List.length_take]
  omega
theorem build_rows (sd : List D.Side) (n : Nat) : ∀ k, ∀ r ∈ (D.build sd n k).next, r.length = n + 1
  | 0, r, h => absurd h List.not_mem_nil
  | k + 1, r, h => by
    have e : D.build sd n (k + 1) = (D.build sd n k).go sd n := rfl
    rw [e] at h
    unfold D.Bld.go at h
    split at h
    · exact build_rows sd n k r h
    · rcases List.mem_append.1 h with h | h
      · exact build_rows sd n k r h
      · rw [List.mem_singleton.1 h, D.row_len]
theorem compM_fit (rs : List D.Rule) (n : Int) : MachFit (compM rs n) := by
  unfold compM
  split
  · rename_i h
    rw [Bool.and_eq_true] at h
    obtain ⟨h1, h2, h3, -⟩ := rulesB_parts h.1
    have hf : (D.build (lefts rs) n.toNat 300).todo.length ≤ 300 := of_decide_eq_true h.2
    have hl := D.build_len (lefts rs) n.toNat 300
    have hr := build_rows (lefts rs) n.toNat 300
    unfold machOf machB MachFit
    generalize D.build (lefts rs) n.toNat 300 = BB at *
    refine ⟨by simp only [List.length_map]; omega, by simp only [List.length_map]; omega, fun r hr' => ?_⟩
    obtain ⟨r0, h5, rfl⟩ := List.mem_map.1 hr'
    rw [List.length_map, hr r0 h5]
    omega
  · exact ⟨by decide, by decide, fun r hr => absurd hr List.not_mem_nil⟩

set_option maxRecDepth 100000 in
set_option maxHeartbeats 4000000 in
theorem law_DfaCompiles (A : Nat → Addr) (B : Nat) (v : Value) (rs : List D.Rule) (n : Int) (w : World) (hv : RulesAt w v rs) (hS : Sd A B w) :
    Calls Tryd.prog 3 #[v, .int .i64 n] w fun e w' => e = .returned (.bool true) ∧ Below w.heap.size w w' := by
  have HS := Box.mk hS
  have HV := Box.mk hv
  obtain ⟨ao, cap, rfl⟩ := hv.slice
  clear hS hv
  go_enter Tryd.func3, Tryd.ntmps3
  go_wp2_with fail
  refine (shown12_any A B w HS.out).mono ?_; rintro e w1 ⟨rfl, hb1⟩
  have HF := Box.mk (few12_any _ rs w1 (HV.out.below hb1))
  have HB1 := Box.mk hb1
  clear hb1
  go_wp2_with fail
  refine HF.out.mono ?_; rintro e w2 ⟨hb2, v', rfl, hr2⟩
  obtain ⟨R, hR⟩ : ∃ R, few12 rs = R := ⟨_, rfl⟩
  have HRF := Box.mk (show (∀ x ∈ R, ruleFit x) ∧ R.length ≤ 16777216 by rw [← hR]; exact ⟨few12_fit rs, by have := few12_len rs; omega⟩)
  rw [hR] at hr2
  have HR2 := Box.mk hr2
  have HB2 := Box.mk (below_tr HB1.out hb2)
  obtain ⟨ro, rc, rfl⟩ := hr2.slice
  have HC := Box.mk (compile_any A B _ R n w2 HRF.out.1 HR2.out HRF.out.2 (HS.out.below HB2.out).e (HS.out.below HB2.out).d (HS.out.below HB2.out).le)
  clear hb2 hr2 hR
  go_wp2_with fail
  refine HC.out.mono ?_; rintro e w3 ⟨hb3, m1, rfl, hm1⟩
  have HM1 := Box.mk hm1
  obtain ⟨nv1, fv1, rfl, hra, hia⟩ := hm1
  obtain ⟨na1, nc1, rfl⟩ := hra.slice
  obtain ⟨fa1, fc1, rfl⟩ := hia.slice
  obtain ⟨V3, hV3⟩ : ∃ V3, V3 = w3.alloc (.cells #[.slice na1 (compM R n).1.length nc1, .slice fa1 (compM R n).2.length fc1] 28) := ⟨_, rfl⟩
  have h33 : Below w3.heap.size w3 V3 := by rw [hV3]; exact alloc_below _ _
  have HB3 := Box.mk (below_tr HB2.out (below_tr hb3 h33))
  have HM1' := Box.mk (HM1.out.below h33)
  have HK1 := Box.mk (show Blk V3 w3.heap.size 28 #[.slice na1 (compM R n).1.length nc1, .slice fa1 (compM R n).2.length fc1] by rw [hV3]; exact Blk.new _ _ _)
  have HC2 := Box.mk (compile12_any _ R n V3 HRF.out.1 (HR2.out.below (below_tr hb3 h33)) HRF.out.2)
  clear hb3 hra hia h33
  go_wp2_with fail
  rw [← hV3]
  clear hV3
  refine HC2.out.mono ?_; rintro e w4 ⟨hb4, m2, rfl, hm2⟩
  have HM2 := Box.mk hm2
  obtain ⟨nv2, fv2, rfl, hra, hia⟩ := hm2
  obtain ⟨na2, nc2, rfl⟩ := hra.slice
  obtain ⟨fa2, fc2, rfl⟩ := hia.slice
  have HK2 := Box.mk (HK1.out.below hb4 HK1.out.lt)
  have c0 : w4.cell? ⟨w3.heap.size, 0, none⟩ = some (.slice na1 (compM R n).1.length nc1) := (HK2.out.cell 0).trans rfl
  have c1 : w4.cell? ⟨w3.heap.size, 1, none⟩ = some (.slice fa1 (compM R n).2.length fc1) := (HK2.out.cell 1).trans rfl
  have l0 := HK2.out.lt
  obtain ⟨V4, hV4⟩ : ∃ V4, V4 = w4.alloc (.cells #[.slice na2 (compM R n).1.length nc2, .slice fa2 (compM R n).2.length fc2] 28) := ⟨_, rfl⟩
  have h44 : Below w4.heap.size w4 V4 := by rw [hV4]; exact alloc_below _ _
  have HB4 := Box.mk (below_tr HB3.out (below_tr hb4 h44))
  have HSM := Box.mk (same12_any _ _ (compM R n) (compM R n) V4 (HM1'.out.below (below_tr hb4 h44)) (HM2.out.below h44) (compM_fit R n) (compM_fit R n) |> fun h => yes_of h rfl)
  clear hb4 hra hia h44
  go_wp2_with fail
  rw [← hV4]
  clear hV4 c0 c1 l0
  refine HSM.out.mono ?_; rintro e w5 ⟨rfl, hb5⟩
  have HB5 := Box.mk (below_tr HB4.out hb5)
  clear hb5
  go_wp2_with fail
  go_ret
  exact ⟨rfl, HB5.out⟩
end Go.Proofs.YtjemdepcaaadiaaDoor

/- THE LAWS OF LAYER 12, WALKED: rules' machine is right, and all its states are reached. -/
namespace Go.Proofs.YtjemdepcaaadiaaDoor
open Go.RowKit Go.Shelf
attribute [local go_sem] Oper.semAt_some

theorem sortI_range (N : Nat) : sortI (zs (List.range N)) = zs (List.range N) := by
  unfold sortI
  refine List.mergeSort_of_pairwise ?_
  unfold zs
  rw [List.pairwise_map]
  refine (List.pairwise_lt_range).imp ?_
  intro a b h
  rw [decide_eq_true_iff]
  omega
/-- rules' machine, where there is one -/
theorem comp_right {R : List D.Rule} {n : Int} (h : compCode R n = 0) : machR n (compM R n) = true ∧ reachedL n (compM R n) = zs (List.range (compM R n).1.length) := by
  unfold compCode at h
  split at h
  · rename_i hr
    split at h
    · rename_i hf
      obtain ⟨h1, h2, h3, -⟩ := rulesB_parts hr
      have hM : compM R n = machB (D.build (lefts R) n.toNat 300) := by unfold compM machOf; rw [hr, hf]; rfl
      have hle : (D.build (lefts R) n.toNat 300).todo.length ≤ 300 := of_decide_eq_true hf
      have hl := D.build_len (lefts R) n.toNat 300
      have h0 := D.build_one (lefts R) n.toNat 300
      have hrow := build_rows (lefts R) n.toNat 300
      obtain ⟨hlt, hfit⟩ := D.build_lt (lefts R) n.toNat 300
      have hre := D.reach_build (lefts R) n.toNat 300 300 (Nat.le_refl _)
      rw [hM]
      have hnat : natRows (machB (D.build (lefts R) n.toNat 300)) = (D.build (lefts R) n.toNat 300).next := by
        unfold natRows machB
        simp only
        rw [List.map_map]
        conv => rhs; rw [← List.map_id (D.build (lefts R) n.toNat 300).next]
        refine List.map_congr_left fun r _ => ?_
        simp only [Function.comp_apply, List.map_map, id]
        conv => rhs; rw [← List.map_id r]
        exact List.map_congr_left fun x _ => by simp
      have hreK : reachM (machB (D.build (lefts R) n.toNat 300)) = List.range (D.build (lefts R) n.toNat 300).todo.length := by
        unfold reachM reachK
        rw [hnat]
        exact hre
      generalize D.build (lefts R) n.toNat 300 = BB at *
      clear hre hM hf h
      have hNN : BB.next.length = BB.todo.length := by omega
      have hML : (machB BB).1.length = BB.next.length := by unfold machB; simp only [List.length_map]
      have hFL : (machB BB).2.length = BB.fits.length := by unfold machB; simp only [List.length_map]
      have hR : machR n (machB BB) = true := by
        unfold machR
        simp only [Bool.and_eq_true, decide_eq_true_eq]
        refine ⟨⟨⟨⟨⟨h1, h2⟩, by rw [hML]; omega⟩, by rw [hML]; omega⟩, by rw [hML, hFL]; omega⟩, ?_⟩
        rw [List.all_eq_true]
        intro i hi
        rw [List.mem_range, hML] at hi
        have hr0 := List.getElem?_eq_getElem hi
        have hf0 : BB.fits[i]? = some (BB.fits[i]'(by omega)) := List.getElem?_eq_getElem (by omega)
        have e1 : (machB BB).1.getD i [] = (BB.next[i]).map fun x : Nat => (x : Int) := by
          unfold machB; simp only; rw [List.getD, List.getElem?_map, hr0]; rfl
        have e2 : (machB BB).2.getD i 0 = ((BB.fits[i]'(by omega) : Nat) : Int) := by
          unfold machB; simp only; rw [List.getD, List.getElem?_map, hf0]; rfl
        have k1 := hrow _ (List.mem_of_getElem? hr0)
        have k2 := hlt _ (List.mem_of_getElem? hr0)
        have k3 := hfit _ (List.mem_of_getElem? hf0)
        rw [lefts_len] at k3
        have k4 : 2 ^ R.length ≤ 2 ^ 40 := Nat.pow_le_pow_right (by omega) h3
        unfold rowR
        rw [e1, e2, hML]
        simp only [Bool.and_eq_true, decide_eq_true_eq, List.length_map]
        refine ⟨⟨⟨by rw [k1]; omega, ?_⟩, by omega⟩, by omega⟩
        rw [List.all_eq_true]
        intro y hy
        obtain ⟨x, hx, rfl⟩ := List.mem_map.1 hy
        have := k2 x hx
        unfold toR
        simp only [Bool.and_eq_true, decide_eq_true_eq]
        omega
      refine ⟨hR, ?_⟩
      unfold reachedL
      rw [hR, if_pos rfl, hreK, sortI_range, hML, hNN]
    · cases h
  · cases h

set_option maxRecDepth 100000 in
set_option maxHeartbeats 4000000 in
theorem law_DfaReached (A : Nat → Addr) (B : Nat) (v : Value) (rs : List D.Rule) (n : Int) (w : World) (hv : RulesAt w v rs) (hS : Sd A B w) :
    Calls Tryd.prog 8 #[v, .int .i64 n] w fun e w' => e = .returned (.bool true) ∧ Below w.heap.size w w' := by
  have HS := Box.mk hS
  have HV := Box.mk hv
  obtain ⟨ao, cap, rfl⟩ := hv.slice
  clear hS hv
  go_enter Tryd.func8, Tryd.ntmps8
  go_wp2_with fail
  refine (shown12_any A B w HS.out).mono ?_; rintro e w1 ⟨rfl, hb1⟩
  have HF := Box.mk (few12_any _ rs w1 (HV.out.below hb1))
  have HB1 := Box.mk hb1
  clear hb1
  go_wp2_with fail
  refine HF.out.mono ?_; rintro e w2 ⟨hb2, v', rfl, hr2⟩
  obtain ⟨R, hR⟩ : ∃ R, few12 rs = R := ⟨_, rfl⟩
  have HRF := Box.mk (show (∀ x ∈ R, ruleFit x) ∧ R.length ≤ 16777216 by rw [← hR]; exact ⟨few12_fit rs, by have := few12_len rs; omega⟩)
  rw [hR] at hr2
  have HR2 := Box.mk hr2
  have HB2 := Box.mk (below_tr HB1.out hb2)
  obtain ⟨ro, rc, rfl⟩ := hr2.slice
  have HC := Box.mk (compile_any A B _ R n w2 HRF.out.1 HR2.out HRF.out.2 (HS.out.below HB2.out).e (HS.out.below HB2.out).d (HS.out.below HB2.out).le)
  clear hb2 hr2 hR
  go_wp2_with fail
  refine HC.out.mono ?_; rintro e w3 ⟨hb3, m1, rfl, hm1⟩
  have HM1 := Box.mk hm1
  obtain ⟨nv1, fv1, rfl, hra, hia⟩ := hm1
  obtain ⟨na1, nc1, rfl⟩ := hra.slice
  obtain ⟨fa1, fc1, rfl⟩ := hia.slice
  obtain ⟨V3, hV3⟩ : ∃ V3, V3 = w3.alloc (.cells #[.slice na1 (compM R n).1.length nc1, .slice fa1 (compM R n).2.length fc1] 28) := ⟨_, rfl⟩
  have h33 : Below w3.heap.size w3 V3 := by rw [hV3]; exact alloc_below _ _
  have HB3 := Box.mk (below_tr HB2.out (below_tr hb3 h33))
  have HMV := Box.mk (HM1.out.below h33)
  have HK1 := Box.mk (show Blk V3 w3.heap.size 28 #[.slice na1 (compM R n).1.length nc1, .slice fa1 (compM R n).2.length fc1] by rw [hV3]; exact Blk.new _ _ _)
  have c0 : V3.cell? ⟨w3.heap.size, 0, none⟩ = some (.slice na1 (compM R n).1.length nc1) := (HK1.out.cell 0).trans rfl
  have c1 : V3.cell? ⟨w3.heap.size, 1, none⟩ = some (.slice fa1 (compM R n).2.length fc1) := (HK1.out.cell 1).trans rfl
  have l0 := HK1.out.lt
  clear hb3 hra hia h33
  rcases (show compCode R n = 0 ∨ compCode R n = 90 ∨ compCode R n = 100 by
    unfold compCode
    split
    · split
      · exact .inl rfl
      · exact .inr (.inr rfl)
    · exact .inr (.inl rfl)) with hc | hc | hc
  · obtain ⟨hmr, hml⟩ := comp_right hc
    have HMR := Box.mk hmr
    have HML := Box.mk hml
    have HGC := Box.mk (show goCode n (compM R n) = 0 by unfold goCode; rw [hmr]; rfl)
    have HRE := Box.mk (mreached_any A B _ (compM R n) n V3 HMV.out (compM_fit R n) (HS.out.below HB3.out).d (HS.out.below HB3.out).le)
    obtain ⟨N, hN⟩ : ∃ N, (compM R n).1.length = N := ⟨_, rfl⟩
    have HNZ := Box.mk (show N ≤ 1000 by rw [← hN]; exact (compM_fit R n).1)
    rw [hN] at hV3 HRE c0
    rw [hc]
    clear hc hmr hml
    go_wp2_with fail
    rw [← hV3]
    clear hV3
    refine HRE.out.mono ?_; rintro e w4 ⟨hb4, lv, rfl, hl⟩
    rw [HGC.out]
    rw [HML.out, hN] at hl
    have HLI := Box.mk hl
    obtain ⟨la, lc, hlv⟩ := hl.slice
    rw [zs_len, List.length_range] at hlv
    subst hlv
    have HB4 := Box.mk (below_tr HB3.out hb4)
    have HK4 := Box.mk (HK1.out.below hb4 HK1.out.lt)
    have HRT := Box.mk (mright_any _ (compM R n) n w4 (HMV.out.below hb4) (compM_fit R n))
    rw [HMR.out, hN] at HRT
    rw [hN] at HK4
    have d0 : w4.cell? ⟨w3.heap.size, 0, none⟩ = some (.slice na1 N nc1) := (HK4.out.cell 0).trans rfl
    have d1 : w4.cell? ⟨w3.heap.size, 1, none⟩ = some (.slice fa1 (compM R n).2.length fc1) := (HK4.out.cell 1).trans rfl
    have l4 := HK4.out.lt
    clear hl c0 c1 l0 hb4 hN
    go_wp2_with fail
    go_loop [10] (fun i => ∃ k : Nat, k ≤ N ∧ i = .int .i64 k) (fun i => N - (intOf i).toNat)
    case atStart => exact ⟨0, by omega, rfl⟩
    case round =>
      obtain ⟨k, hk, rfl⟩ := hrel
      by_cases hlt : k < N
      · obtain ⟨g, off, cap2, hg1, hg2, hg3, hg4, hg5⟩ := HLI.out.get (by intro e; have := congrArg List.length e; rw [zs_len, List.length_range, List.length_nil] at this; omega)
        rw [zs_len, List.length_range] at hg1 hg2
        obtain ⟨rfl, rfl⟩ : la = some ⟨g, off, none⟩ ∧ lc = cap2 := by injection hg1 with h1 h2 h3; exact ⟨h1, h3⟩
        have hcx := hg5 k k (zs_get (by rw [List.getElem?_range hlt]))
        unfold maxLen at hg3
        have hkc : k < lc := by omega
        clear hg1 hg5
        go_wp2_with fail
        go_round
        case rel => exact ⟨k + 1, hlt, by go_num⟩
        case measure => simp [intOf]; omega
      · obtain rfl : k = N := by omega
        go_wp2_with fail
        refine HRT.out.mono ?_; rintro e w5 ⟨rfl, hb5⟩
        have HB5 := Box.mk (below_tr HB4.out hb5)
        clear hb5
        go_wp2_with fail
        go_ret
        exact ⟨rfl, HB5.out⟩
  all_goals
    rw [hc]
    clear hc
    go_wp2_with fail
    go_ret
    rw [← hV3]
    exact ⟨rfl, HB3.out⟩
end Go.Proofs.YtjemdepcaaadiaaDoor
