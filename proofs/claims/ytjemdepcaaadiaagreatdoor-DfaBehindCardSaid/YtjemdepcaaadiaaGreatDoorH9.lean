/-
  Texts of this claim, one behind the other: Df13, Df14, Dh3.
-/
import Derived.Test.YtjemdepcaaadiaaGreatDoorH6
import Derived.Test.YtjemdepcaaadiaaGreatDoorH8
import Derived.Test.YtjemdepcaaadiaaGreatDoorH7

/- WHICH STATES ARE REACHED: the program's Reached; rules' machine is right. -/
namespace Go.Proofs.YtjemdepcaaadiaaGreatDoor
open Go.RowKit Go.Shelf
attribute [local go_sem] Oper.semAt_some

def natRows (M : D.Mach) : List (List Nat) := M.1.map fun r => r.map Int.toNat
def reachK (M : D.Mach) (k : Nat) : List Nat := D.reach (natRows M) k
def reachM (M : D.Mach) : List Nat := reachK M 300
def reachedL (n : Int) (M : D.Mach) : List Int := if machR n M = true then sortI (zs (reachM M)) else []
def reachedPost (n : Int) (M : D.Mach) (w : World) (e : Ending) (w' : World) : Prop :=
  Below w.heap.size w w' ∧ ∃ v, e = .returned (.tuple #[v, .int .i64 (goCode n M)]) ∧ IntsAt w' v (reachedL n M)
theorem natV_zs (T : List Nat) : T.map natV = (zs T).map (Value.int .i64) := by unfold zs; rw [List.map_map]; rfl
theorem natRows_lt {n : Int} {M : D.Mach} (h : machR n M = true) : ∀ r ∈ natRows M, ∀ x ∈ r, x < M.1.length := by
  intro r hr x hx
  obtain ⟨r0, h0, rfl⟩ := List.mem_map.1 hr
  obtain ⟨y, hy, rfl⟩ := List.mem_map.1 hx
  obtain ⟨a, ha⟩ := List.mem_iff_getElem?.1 h0
  have hlt := (List.getElem?_eq_some_iff.1 ha).1
  obtain ⟨n1, n2, -, -, -⟩ := machR_parts h
  obtain ⟨m, rfl⟩ := Int.eq_ofNat_of_zero_le (show 0 ≤ n by omega)
  obtain ⟨r1, h1, h2, h3, -⟩ := machR_row h hlt
  rw [ha] at h1
  cases h1
  obtain ⟨j, hj⟩ := List.mem_iff_getElem?.1 hy
  have hjl := (List.getElem?_eq_some_iff.1 hj).1
  obtain ⟨z, hz, z0, z1⟩ := h3 j (by omega)
  rw [hj] at hz
  cases hz
  omega
theorem reachK_len {n : Int} {M : D.Mach} (h : machR n M = true) (k : Nat) : (reachK M k).length ≤ M.1.length := D.reach_len _ (by have := (machR_parts h).2.2.1; omega) (natRows_lt h) k
theorem reachK_lt {n : Int} {M : D.Mach} (h : machR n M = true) (k : Nat) : ∀ x ∈ reachK M k, x < M.1.length := D.reach_all _ (by have := (machR_parts h).2.2.1; omega) (natRows_lt h) k
theorem reachK_end {n : Int} {M : D.Mach} (_h : machR n M = true) {k : Nat} (hk : (reachK M k).length ≤ k) (hk3 : k ≤ 300) : reachM M = reachK M k := by
  unfold reachM reachK
  have := D.reach_stop (natRows M) hk (300 - k)
  rwa [show k + (300 - k) = 300 by omega] at this
theorem addOne_in {t : List Nat} {x : Nat} (h : x ∈ t) : D.addOne t x = t := by unfold D.addOne; rw [if_pos h]
theorem addOne_out {t : List Nat} {x : Nat} (h : x ∉ t) : D.addOne t x = t ++ [x] := by unfold D.addOne; rw [if_neg h]
theorem zs_mem {T : List Nat} {x : Nat} : (x : Int) ∈ zs T ↔ x ∈ T := by
  unfold zs
  rw [List.mem_map]
  constructor
  · rintro ⟨y, hy, e⟩
    rwa [show x = y by omega]
  · exact fun h => ⟨x, h, rfl⟩

set_option maxRecDepth 100000 in
set_option maxHeartbeats 8000000 in
theorem mreached_any (A : Nat → Addr) (B : Nat) (v : Value) (M : D.Mach) (n : Int) (w : World) (hv : MachAt w v M) (hM : MachFit M) (hD : Ed A B w) (hB : B ≤ w.heap.size) :
    Calls Tryz.prog 12 #[v, .int .i64 n] w (reachedPost n M w) := by
  have HRT := Box.mk (fun W (h : Below w.heap.size w W) => mright_any v M n W (hv.below h) hM)
  have HD := Box.mk (fun W (h : Below w.heap.size w W) => hD.below (h.mono hB))
  obtain ⟨na, fa, rfl, hra, hia⟩ := hv
  have HRA := Box.mk hra
  obtain ⟨aa, ca, rfl⟩ := hra.slice
  obtain ⟨fo, fc, rfl⟩ := hia.slice
  obtain ⟨w2, hw2⟩ : ∃ w2, w2 = w.alloc (.cells #[.slice aa M.1.length ca, .slice fo M.2.length fc] 25) := ⟨_, rfl⟩
  have HW2 := Box.mk hw2
  have HS2 := Box.mk (show Sep [Pc.blk w.heap.size 25 #[.slice aa M.1.length ca, .slice fo M.2.length fc], Pc.old w.heap.size w] w2 by rw [hw2]; exact (Sep.start w).alloc_blk _ _)
  have hb2 : Below w.heap.size w w2 := HS2.out.bel (by simp)
  have HB2 := Box.mk hb2
  have hba := HS2.out.blk 0 rfl
  have c0 : w2.cell? ⟨w.heap.size, 0, none⟩ = some (.slice aa M.1.length ca) := (hba.cell 0).trans rfl
  have c1 : w2.cell? ⟨w.heap.size, 1, none⟩ = some (.slice fo M.2.length fc) := (hba.cell 1).trans rfl
  have l0 := hba.lt
  clear hra hia hM hD hw2 hb2 hba
  cases hr : machR n M with
  | false =>
    have HR := Box.mk hr
    have HC := Box.mk (show goCode n M = 100 by unfold goCode; rw [hr]; rfl)
    have HL := Box.mk (show reachedL n M = [] by unfold reachedL; rw [hr]; rfl)
    clear hr
    go_enter Tryz.func12, Tryz.ntmps12
    go_upto_region 1 with (fail)
    rw [← HW2.out]
    go_wp2_with fail
    refine (HRT.out _ HB2.out).mono ?_; rintro e w3 ⟨rfl, hb3⟩; rw [HR.out]
    have HB3 := Box.mk (HB2.out.trans (hb3.mono HB2.out.size))
    have hD3 := HD.out w3 HB3.out
    have hg := hD3.var 0 (by decide)
    have HT := Box.mk (dtold_any A B 0 (by decide) w3 hD3)
    unfold errV at HT
    clear hb3 hD3
    go_wp2_with fail
    refine HT.out.mono ?_; rintro e w4 ⟨rfl, rfl⟩
    go_wp2_with fail
    go_ret2
    exact ⟨HB3.out, _, by rw [HC.out]; rfl, by rw [HL.out]; exact IntsAt.nil⟩
  | true =>
    have HR := Box.mk hr
    obtain ⟨h1, h2, h3, h4, h5⟩ := machR_parts hr
    obtain ⟨nn, rfl⟩ := Int.eq_ofNat_of_zero_le (show 0 ≤ n by omega)
    have HC := Box.mk (show goCode nn M = 0 by unfold goCode; rw [hr]; rfl)
    have HL := Box.mk (show reachedL nn M = sortI (zs (reachM M)) by unfold reachedL; rw [hr]; rfl)
    have HLEN := Box.mk (fun k => reachK_len hr k)
    have HLT := Box.mk (fun k => reachK_lt hr k)
    have HROW := Box.mk (fun {a : Nat} (ha : a < M.1.length) => machR_row hr ha)
    have HEND := Box.mk (fun {k : Nat} (hk : (reachK M k).length ≤ k) (hk3 : k ≤ 300) => reachK_end hr hk hk3)
    have HNX := Box.mk (natRows_lt hr)
    clear hr h5
    go_enter Tryz.func12, Tryz.ntmps12
    go_upto_region 1 with (fail)
    rw [← HW2.out]
    go_wp2_with fail
    refine (HRT.out _ HB2.out).mono ?_; rintro e w3 ⟨rfl, hb3⟩; rw [HR.out]
    have HS3 := Box.mk (show Sep [Pc.row w.heap.size 3 1 (.slice (some ⟨w3.heap.size, 0, none⟩) 1 1) (reachK M 0).length ((reachK M 0).map natV), Pc.blk w.heap.size 25 #[.slice aa M.1.length ca, .slice fo M.2.length fc], Pc.old w.heap.size w] (w3.alloc (.cells #[.int .i64 0] 3)) by
      exact (HS2.out.below hb3).lit (base := w.heap.size) (e := 3) (cs := #[.int .i64 0]) (n := 1) (Nat.le_trans HB2.out.size hb3.size) rfl (by omega))
    clear hb3 c0 c1 l0
    go_wp2_with fail
    go_loopw [6, 7] (fun tv i wr => ∃ k : Nat, k ≤ 300 ∧ k ≤ (reachK M k).length ∧ i = .int .i64 k ∧ Box (Sep [Pc.row w.heap.size 3 1 tv (reachK M k).length ((reachK M k).map natV), Pc.blk w.heap.size 25 #[.slice aa M.1.length ca, .slice fo M.2.length fc], Pc.old w.heap.size w] wr)) (fun _ i _ => 300 - (intOf i).toNat)
    case atStart => exact ⟨0, by omega, by omega, rfl, HS3⟩
    case round =>
      obtain ⟨k, hk, hk2, rfl, hsep⟩ := hrel
      have hlen := HLEN.out k
      obtain ⟨tq, tc, rfl, ht1, ht2⟩ := own_shape (hsep.out.row 0 rfl)
      by_cases hlt : k < (reachK M k).length
      · obtain ⟨s, hs⟩ : ∃ s, (reachK M k)[k]? = some s := ⟨_, List.getElem?_eq_getElem hlt⟩
        have hsl := HLT.out k s (List.mem_of_getElem? hs)
        obtain ⟨r, hr1, hr2, hr3, -⟩ := HROW.out hsl
        obtain ⟨rN, hrN⟩ : ∃ rN, r.map Int.toNat = rN := ⟨_, rfl⟩
        have hrz : r = zs rN := by
          rw [← hrN]
          unfold zs
          rw [List.map_map]
          apply List.ext_getElem?
          intro j
          rw [List.getElem?_map]
          rcases Nat.lt_or_ge j (nn + 1) with hj | hj
          · obtain ⟨x, hx, x0, -⟩ := hr3 j (by omega)
            rw [hx]
            simp only [Option.map_some, Function.comp_apply, Option.some.injEq]
            omega
          · rw [List.getElem?_eq_none (by omega)]; rfl
        have hrNl : rN.length = nn + 1 := by rw [← hrN, List.length_map]; exact hr2
        have hnr : (natRows M)[s]? = some rN := by unfold natRows; rw [List.getElem?_map, hr1]; exact congrArg some hrN
        have HNEXT := Box.mk (show reachK M (k + 1) = D.addAll (reachK M k) rN by
          unfold reachK
          rw [D.reach_step (natRows M) (s := s) hs, show (natRows M).getD s [] = rN by rw [List.getD, hnr]; rfl])
        have HRL := Box.mk (HNX.out rN (List.mem_of_getElem? hnr))
        obtain ⟨T, hT⟩ : ∃ T, reachK M k = T := ⟨_, rfl⟩
        have HTN := Box.mk (show T.Nodup by rw [← hT]; exact D.reach_nodup _ k)
        have HTL := Box.mk (show ∀ x ∈ T, x < M.1.length by rw [← hT]; exact HLT.out k)
        rw [hT] at hs hlt hlen hsep HNEXT
        have HBR := Box.mk (show Below w.heap.size w wr from hsep.out.bel (by simp))
        have HML := Box.mk (show ∀ q, (D.addAll T (rN.take q)).length ≤ 300 from fun q => Nat.le_trans (D.nodup_le _ _ (D.addAll_nodup _ HTN.out) (D.addAll_all (p := fun x => x < M.1.length) _ HTL.out (fun y hy => HRL.out y (List.mem_of_mem_take hy)))) h4)
        obtain ⟨lb, loff, lcap, k1, k2, k3, k4, k5⟩ := (row_ints (hsep.out.row 0 rfl) rfl).get (by intro e; have := congrArg List.length e; rw [zs_len, List.length_nil] at this; omega)
        rw [zs_len] at k1
        rw [zs_len] at k2
        obtain ⟨rfl, rfl⟩ : tq = some ⟨lb, loff, none⟩ ∧ tc = lcap := by injection k1 with h1 h2 h3; exact ⟨h1, h3⟩
        have hks := k5 k _ (zs_get hs)
        obtain ⟨pa, oa, ca', ha0, ha1, ha2, ha3, ha4⟩ := HRA.out.get (by intro e; rw [e] at hr1; simp at hr1)
        obtain ⟨rfl, rfl⟩ : aa = some ⟨pa, oa, none⟩ ∧ ca = ca' := by injection ha0 with h1 h2 h3; exact ⟨h1, h3⟩
        obtain ⟨xv, hxc, hxi⟩ := ha4 _ r hr1
        obtain ⟨rb, roff, rcap, r1, r2, r3, r4, r5⟩ := hxi.get (by rintro rfl; simp at hr2)
        rw [hr2] at r1 r2
        subst r1
        have hxr := (HBR.out.cell (p := ⟨pa, oa + s, none⟩) ha3).trans hxc
        have hba := hsep.out.blk 1 rfl
        have c0 : wr.cell? ⟨w.heap.size, 0, none⟩ = some (.slice (some ⟨pa, oa, none⟩) M.1.length ca) := (hba.cell 0).trans rfl
        have HRC := Box.mk (show ∀ (q x : Nat), rN[q]? = some x → w.cell? ⟨rb, roff + q, none⟩ = some (.int .i64 (x : Int)) from fun q x hq => r5 q x (by rw [hrz]; exact zs_get hq))
        have HRB := Box.mk (show rb < w.heap.size from r4)
        unfold maxLen at k3 ha2 r3
        have hkc : k < tc := by omega
        have hsc : s < ca := by omega
        have l0 := hba.lt
        have HSD := Box.mk hsep.out.drew
        rw [hT]
        clear k1 k5 ha0 ha4 hxc hxi r5 hba hr1 hr3 hs hnr hrz hrN hT hr2 hsep
        go_wp2_with fail
        go_region
        have HSD0 := Box.mk (show Sep [Pc.row w.heap.size 3 1 (.slice (some ⟨lb, loff, none⟩) T.length tc) (D.addAll T (rN.take 0)).length ((D.addAll T (rN.take 0)).map natV), Pc.blk w.heap.size 25 #[.slice (some ⟨pa, oa, none⟩) M.1.length ca, .slice fo M.2.length fc], Pc.old w.heap.size w] wr.drew from HSD.out)
        clear hks hxr c0 l0 HSD
        go_wp2_with fail
        go_loopw [6, 32] (fun tv j wi => ∃ q : Nat, q ≤ nn + 1 ∧ j = .int .i64 q ∧ Box (Sep [Pc.row w.heap.size 3 1 tv (D.addAll T (rN.take q)).length ((D.addAll T (rN.take q)).map natV), Pc.blk w.heap.size 25 #[.slice (some ⟨pa, oa, none⟩) M.1.length ca, .slice fo M.2.length fc], Pc.old w.heap.size w] wi)) (fun _ j _ => nn + 1 - (intOf j).toNat)
        case atStart => exact ⟨0, by omega, rfl, HSD0⟩
        case round =>
          obtain ⟨q, hq, rfl, hsi⟩ := hrel
          have hml := HML.out q
          have HBI := Box.mk (show Below w.heap.size w wr from hsi.out.bel (by simp))
          obtain ⟨to2, tc2, rfl, hu1, hu2⟩ := own_shape (hsi.out.row 0 rfl)
          by_cases hqn : q < nn + 1
          · obtain ⟨x, hx⟩ : ∃ x, rN[q]? = some x := ⟨_, List.getElem?_eq_getElem (by omega)⟩
            have hxc := (HBI.out.cell (p := ⟨rb, roff + q, none⟩) HRB.out).trans (HRC.out q x hx)
            have lrb : rb < wr.heap.size := Nat.lt_of_lt_of_le HRB.out HBI.out.size
            have HSN := Box.mk (show D.addAll T (rN.take (q + 1)) = D.addOne (D.addAll T (rN.take q)) x by rw [take_snoc' _ _ _ hx, D.addAll_snoc])
            obtain ⟨t, ht⟩ : ∃ t, D.addAll T (rN.take q) = t := ⟨_, rfl⟩
            rw [ht] at hsi hml HSN hu1
            rw [ht]
            have HCT := Box.mk (containsC_any _ (zs t) x wr (row_ints (hsi.out.row 0 rfl) rfl) (by rw [zs_len]; omega))
            have hqc : q < rcap := by omega
            have hbi := HBI.out.size
            clear hx ht
            by_cases hm : x ∈ t
            · have HCD := Box.mk (show decide ((x : Int) ∈ zs t) = true from decide_eq_true (zs_mem.2 hm))
              have HSE := Box.mk (addOne_in hm)
              clear hm
              go_wp2_with (go_at_call 27; refine HCT.out.mono ?_; rintro e w5 ⟨rfl, rfl⟩; rw [HCD.out])
              go_roundw
              case rel => exact ⟨q + 1, hqn, by go_num, ⟨by rw [HSN.out, HSE.out]; exact hsi.out⟩⟩
              case measure => simp [intOf]; omega
            · have HCD := Box.mk (show decide ((x : Int) ∈ zs t) = false from decide_eq_false (fun h => hm (zs_mem.1 h)))
              have HSE := Box.mk (addOne_out hm)
              clear hm
              go_wp2_with (first
                | (go_at_call 27; refine HCT.out.mono ?_; rintro e w5 ⟨rfl, rfl⟩; rw [HCD.out])
                | (at_builtin; refine wpList_push rfl _ _ 26 rfl pushInt hsi.out 0 rfl rfl rfl rfl (by omega) (by omega) hbi ?_; rintro v' w6 hS6 -))
              have HS6 := Box.mk (show Sep [Pc.row w.heap.size 3 1 v' (D.addAll T (rN.take (q + 1))).length ((D.addAll T (rN.take (q + 1))).map natV), Pc.blk w.heap.size 25 #[.slice (some ⟨pa, oa, none⟩) M.1.length ca, .slice fo M.2.length fc], Pc.old w.heap.size w] w6 by
                rw [HSN.out, HSE.out, List.length_append, List.map_append]
                exact hS6)
              clear hS6
              go_wp2_with fail
              go_roundw
              case rel => exact ⟨q + 1, hqn, by go_num, HS6⟩
              case measure => simp [intOf]; omega
          · have hqe : q = nn + 1 := by omega
            have HSX := Box.mk (show Sep [Pc.row w.heap.size 3 1 (.slice to2 (D.addAll T (rN.take q)).length tc2) (reachK M (k + 1)).length ((reachK M (k + 1)).map natV), Pc.blk w.heap.size 25 #[.slice (some ⟨pa, oa, none⟩) M.1.length ca, .slice fo M.2.length fc], Pc.old w.heap.size w] wr by
              have h := hsi.out
              have e : rN.take q = rN := by rw [hqe, ← hrNl, List.take_length]
              rw [HNEXT.out]
              rw [e] at h ⊢
              exact h)
            have hk3 : k + 1 ≤ (reachK M (k + 1)).length := by
              rw [HNEXT.out]
              have := (D.addAll_pre rN T).length_le
              omega
            have HK3 := Box.mk hk3
            clear hk3 hqe
            go_wp2_with fail
            go_roundw
            case rel => exact ⟨k + 1, by omega, HK3.out, by go_num, HSX⟩
            case measure => simp [intOf]; omega
      · have hke : (reachK M k).length = k := by omega
        have HKE := Box.mk (HEND.out (k := k) (by omega) hk)
        have hsep' := hsep.out
        rw [natV_zs] at hsep'
        have HSRT := Box.mk (sort_sep hsep' 0 rfl (by rw [zs_len]) (by omega))
        clear hke hsep'
        go_wp2_with fail
        refine HSRT.out.mono ?_; rintro e w5 ⟨rfl, hs5⟩
        have HS5 := Box.mk hs5
        clear hs5
        go_wp2_with fail
        go_ret2
        refine ⟨HS5.out.bel (by simp), _, by rw [HC.out]; rfl, ?_⟩
        rw [HL.out, HKE.out]
        exact row_intsI (HS5.out.row 0 rfl) (by rw [sortI_len, zs_len])
end Go.Proofs.YtjemdepcaaadiaaGreatDoor

/- THE LAWS OF LAYER 12, WALKED: rules' machine is right, and all its states are reached. -/
namespace Go.Proofs.YtjemdepcaaadiaaGreatDoor
open Go.RowKit Go.Shelf
attribute [local go_sem] Oper.semAt_some

theorem sortI_range (N : Nat) : sortI (zs (List.range N)) = zs (List.range N) := by
  unfold sortI
  refine List.mergeSort_of_pairwise ?_
  unfold zs
  rw [List.pairwise_map]
  refine (List.pairwise_lt_range).imp ?_
  intro a b h
  rw [decide_eq_true_iff]
  omega
/-- rules' machine, where there is one -/
theorem comp_right {R : List D.Rule} {n : Int} (h : compCode R n = 0) : machR n (compM R n) = true ∧ reachedL n (compM R n) = zs (List.range (compM R n).1.length) := by
  unfold compCode at h
  split at h
  · rename_i hr
    split at h
    · rename_i hf
      obtain ⟨h1, h2, h3, -⟩ := rulesB_parts hr
      have hM : compM R n = machB (D.build (lefts R) n.toNat 300) := by unfold compM machOf; rw [hr, hf]; rfl
      have hle : (D.build (lefts R) n.toNat 300).todo.length ≤ 300 := of_decide_eq_true hf
      have hl := D.build_len (lefts R) n.toNat 300
      have h0 := D.build_one (lefts R) n.toNat 300
      have hrow := build_rows (lefts R) n.toNat 300
      obtain ⟨hlt, hfit⟩ := D.build_lt (lefts R) n.toNat 300
      have hre := D.reach_build (lefts R) n.toNat 300 300 (Nat.le_refl _)
      rw [hM]
      have hnat : natRows (machB (D.build (lefts R) n.toNat 300)) = (D.build (lefts R) n.toNat 300).next := by
        unfold natRows machB
        simp only
        rw [List.map_map]
        conv => rhs; rw [← List.map_id (D.build (lefts R) n.toNat 300).next]
        refine List.map_congr_left fun r _ => ?_
        simp only [Function.comp_apply, List.map_map, id]
        conv => rhs; rw [← List.map_id r]
        exact List.map_congr_left fun x _ => by simp
      have hreK : reachM (machB (D.build (lefts R) n.toNat 300)) = List.range (D.build (lefts R) n.toNat 300).todo.length := by
        unfold reachM reachK
        rw [hnat]
        exact hre
      generalize D.build (lefts R) n.toNat 300 = BB at *
      clear hre hM hf h
      have hNN : BB.next.length = BB.todo.length := by omega
      have hML : (machB BB).1.length = BB.next.length := by unfold machB; simp only [List.length_map]
      have hFL : (machB BB).2.length = BB.fits.length := by unfold machB; simp only [List.length_map]
      have hR : machR n (machB BB) = true := by
        unfold machR
        simp only [Bool.and_eq_true, decide_eq_true_eq]
        refine ⟨⟨⟨⟨⟨h1, h2⟩, by rw [hML]; omega⟩, by rw [hML]; omega⟩, by rw [hML, hFL]; omega⟩, ?_⟩
        rw [List.all_eq_true]
        intro i hi
        rw [List.mem_range, hML] at hi
        have hr0 := List.getElem?_eq_getElem hi
        have hf0 : BB.fits[i]? = some (BB.fits[i]'(by omega)) := List.getElem?_eq_getElem (by omega)
        have e1 : (machB BB).1.getD i [] = (BB.next[i]).map fun x : Nat => (x : Int) := by
          unfold machB; simp only; rw [List.getD, List.getElem?_map, hr0]; rfl
        have e2 : (machB BB).2.getD i 0 = ((BB.fits[i]'(by omega) : Nat) : Int) := by
          unfold machB; simp only; rw [List.getD, List.getElem?_map, hf0]; rfl
        have k1 := hrow _ (List.mem_of_getElem? hr0)
        have k2 := hlt _ (List.mem_of_getElem? hr0)
        have k3 := hfit _ (List.mem_of_getElem? hf0)
        rw [lefts_len] at k3
        have k4 : 2 ^ R.length ≤ 2 ^ 40 := Nat.pow_le_pow_right (by omega) h3
        unfold rowR
        rw [e1, e2, hML]
        simp only [Bool.and_eq_true, decide_eq_true_eq, List.length_map]
        refine ⟨⟨⟨by rw [k1]; omega, ?_⟩, by omega⟩, by omega⟩
        rw [List.all_eq_true]
        intro y hy
        obtain ⟨x, hx, rfl⟩ := List.mem_map.1 hy
        have := k2 x hx
        unfold toR
        simp only [Bool.and_eq_true, decide_eq_true_eq]
        omega
      refine ⟨hR, ?_⟩
      unfold reachedL
      rw [hR, if_pos rfl, hreK, sortI_range, hML, hNN]
    · cases h
  · cases h

end Go.Proofs.YtjemdepcaaadiaaGreatDoor

/- THE LAWS OF LAYER 12, WALKED: a rule is in the Fits of a place just if its left side fits behind it. -/
namespace Go.Proofs.YtjemdepcaaadiaaGreatDoor
open Go.RowKit Go.Shelf
attribute [local go_sem] Oper.semAt_some

theorem comp_none {R : List D.Rule} {n : Int} (h : compCode R n = 90 ∨ compCode R n = 100) : compM R n = ([], []) := by
  unfold compCode at h
  unfold compM
  split at h
  · rename_i hr
    split at h
    · rename_i hf; rcases h with h | h <;> cases h
    · rename_i hf
      rw [if_neg (by rw [Bool.and_eq_true]; exact fun e => hf e.2)]
  · rename_i hr
    rw [if_neg (by rw [Bool.and_eq_true]; exact fun e => hr e.1)]
theorem comp_rule {R : List D.Rule} {n : Int} : (compCode R n = 90 → rulesB n R = false) ∧ (compCode R n = 100 → rulesB n R = true) := by
  unfold compCode
  constructor
  · intro h
    split at h
    · split at h <;> cases h
    · rename_i hr; simpa using hr
  · intro h
    split at h
    · rename_i hr; exact hr
    · cases h
theorem cut_take {n : Nat} {l : List Int} {q : Nat} {c : Int} (h : l[q]? = some c) : (D.cuts n (l.take (q + 1))) = D.cuts n (l.take q) ++ [D.cut n c] := by
  unfold D.cuts
  rw [List.take_add_one, h, List.map_append]
  rfl
theorem half_bit (f j : Nat) : (((f / 2 ^ j : Nat) : Int) % 2 == 1) = f.testBit j := by
  have := div_bit f j
  rw [show (f : Int) / ((2 ^ j : Nat) : Int) = ((f / 2 ^ j : Nat) : Int) by simp] at this
  exact this
theorem half_next (f j : Nat) : ((f / 2 ^ j : Nat) : Int) / 2 = ((f / 2 ^ (j + 1) : Nat) : Int) := by
  rw [Nat.pow_succ, ← Nat.div_div_eq_div_mul]
  omega

set_option maxRecDepth 100000 in
set_option maxHeartbeats 8000000 in
theorem law_DfaBehind (A : Nat → Addr) (B : Nat) (v : Value) (rs : List D.Rule) (n : Int) (lv : Value) (l : List Int) (w : World) (hv : RulesAt w v rs) (hl : IntsAt w lv l) (hS : Sd A B w) :
    Calls Tryz.prog 4 #[v, .int .i64 n, lv] w fun e w' => e = .returned (.bool true) ∧ Below w.heap.size w w' := by
  have HS := Box.mk hS
  have HV := Box.mk hv
  have HL := Box.mk hl
  obtain ⟨ao, cap, rfl⟩ := hv.slice
  obtain ⟨lo, lc, rfl⟩ := hl.slice
  clear hS hv hl
  go_enter Tryz.func4, Tryz.ntmps4
  go_wp2_with fail
  refine (shown12_any A B w HS.out).mono ?_; rintro e w1 ⟨rfl, hb1⟩
  have HF := Box.mk (few12_any _ rs w1 (HV.out.below hb1))
  have HB1 := Box.mk hb1
  clear hb1
  go_wp2_with fail
  refine HF.out.mono ?_; rintro e w2 ⟨hb2, v', rfl, hr2⟩
  obtain ⟨R, hR⟩ : ∃ R, few12 rs = R := ⟨_, rfl⟩
  have HRF := Box.mk (show (∀ x ∈ R, ruleFit x) ∧ R.length ≤ 6 by rw [← hR]; exact ⟨few12_fit rs, few12_len rs⟩)
  rw [hR] at hr2
  have HR2 := Box.mk hr2
  have HB2 := Box.mk (below_tr HB1.out hb2)
  obtain ⟨ro, rc, rfl⟩ := hr2.slice
  have HLI := Box.mk (list12_any _ l w2 (HL.out.below HB2.out))
  have HC := Box.mk (compile_any A B _ R n w2 HRF.out.1 HR2.out (by have := HRF.out.2; omega) (HS.out.below HB2.out).e (HS.out.below HB2.out).d (HS.out.below HB2.out).le)
  clear hb2 hr2 hR
  go_wp2_with fail
  refine HLI.out.mono ?_; rintro e w2' ⟨⟨v2, rfl, hl2⟩, rfl⟩
  obtain ⟨L, hL⟩ : ∃ L, list12 l = L := ⟨_, rfl⟩
  have hll : L.length ≤ 30 := by rw [← hL]; unfold list12; rw [List.length_take]; omega
  rw [hL] at hl2
  have HL2 := Box.mk hl2
  obtain ⟨lo2, lc2, rfl⟩ := hl2.slice
  clear hl2 hL
  go_wp2_with fail
  refine HC.out.mono ?_; rintro e w3 ⟨hb3, m1, rfl, hm1⟩
  have HM1 := Box.mk hm1
  obtain ⟨nv1, fv1, rfl, hra, hia⟩ := hm1
  obtain ⟨na1, nc1, rfl⟩ := hra.slice
  obtain ⟨fa1, fc1, rfl⟩ := hia.slice
  obtain ⟨V3, hV3⟩ : ∃ V3, V3 = w3.alloc (.cells #[.slice na1 (compM R n).1.length nc1, .slice fa1 (compM R n).2.length fc1] 25) := ⟨_, rfl⟩
  have h33 : Below w3.heap.size w3 V3 := by rw [hV3]; exact alloc_below _ _
  have h23 : Below w2.heap.size w2 V3 := below_tr hb3 h33
  have HB3 := Box.mk (below_tr HB2.out h23)
  have HMV := Box.mk (HM1.out.below h33)
  have HR3 := Box.mk (HR2.out.below h23)
  have HL3 := Box.mk (HL2.out.below h23)
  have HK1 := Box.mk (show Blk V3 w3.heap.size 25 #[.slice na1 (compM R n).1.length nc1, .slice fa1 (compM R n).2.length fc1] by rw [hV3]; exact Blk.new _ _ _)
  have c0 : V3.cell? ⟨w3.heap.size, 0, none⟩ = some (.slice na1 (compM R n).1.length nc1) := (HK1.out.cell 0).trans rfl
  have c1 : V3.cell? ⟨w3.heap.size, 1, none⟩ = some (.slice fa1 (compM R n).2.length fc1) := (HK1.out.cell 1).trans rfl
  have l0 := HK1.out.lt
  have HRU := Box.mk (rulesRight_any (.slice ro R.length rc) R n V3 HRF.out.1 HR3.out (by have := HRF.out.2; omega))
  have HV3 := Box.mk hV3
  clear hb3 hra hia h33 h23 hV3
  rcases (show compCode R n = 0 ∨ compCode R n = 90 ∨ compCode R n = 100 by
    unfold compCode
    split
    · split
      · exact .inl rfl
      · exact .inr (.inr rfl)
    · exact .inr (.inl rfl)) with hc | hc | hc
  · obtain ⟨hrl, -, -⟩ := comp_parts hc
    obtain ⟨n1, n2, -, -⟩ := rulesB_parts hrl
    obtain ⟨nn, rfl⟩ := Int.eq_ofNat_of_zero_le (show 0 ≤ n by omega)
    have HMR := Box.mk (comp_right hc).1
    have HFB := Box.mk (fun i hi => fits_behind hc L i hi)
    have HV3' := HV3.out
    obtain ⟨N, hN⟩ : ∃ N, (compM R (nn : Int)).1.length = N := ⟨_, rfl⟩
    obtain ⟨F, hF⟩ : ∃ F, (compM R (nn : Int)).2.length = F := ⟨_, rfl⟩
    have HNF := Box.mk (And.intro hN hF)
    rw [hN] at HV3' c0
    rw [hF] at HV3' c1
    rw [hc, hN, hF]
    have HGR := Box.mk (fun W (h : Below V3.heap.size V3 W) => HR3.out.below h)
    have HGL := Box.mk (fun W (h : Below V3.heap.size V3 W) => HL3.out.below h)
    have HS0 := Box.mk ((Sep.start V3).nil_row V3.heap.size 1 3)
    have hR6 := HRF.out.2
    clear hc hrl hN hF
    go_wp2_with fail
    rw [← HV3']
    clear HV3' c0 c1
    go_loopw [11, 10] (fun i o wr => ∃ (q : Nat) (oo : Option Addr) (oc : Nat), q ≤ L.length ∧ i = .int .i64 q ∧ o = .slice oo q oc ∧ Box (Sep [Pc.row V3.heap.size 3 1 (.slice oo q oc) q ((D.cuts nn (L.take q)).map (Value.int .i64)), Pc.old V3.heap.size V3] wr)) (fun i _ _ => L.length - (intOf i).toNat)
    case atStart => exact ⟨0, none, 0, Nat.zero_le _, rfl, rfl, HS0⟩
    case round =>
      obtain ⟨q, oo, oc, hq, rfl, rfl, hsi⟩ := hrel
      have HBI := Box.mk (hsi.out.bel (n := V3.heap.size) (W0 := V3) (by simp))
      clear HS0
      by_cases hlt : q < L.length
      · obtain ⟨c, hc⟩ : ∃ c, L[q]? = some c := ⟨_, List.getElem?_eq_getElem hlt⟩
        obtain ⟨g, off, cap2, hg1, hg2, hg3, hg4, hg5⟩ := (HGL.out _ HBI.out).get (by rintro rfl; simp at hlt)
        obtain ⟨rfl, rfl⟩ : lo2 = some ⟨g, off, none⟩ ∧ lc2 = cap2 := by injection hg1 with h1 h2 h3; exact ⟨h1, h3⟩
        have hcx := hg5 q c hc
        have HCT := Box.mk (cut_take (n := nn) hc)
        have hbi := HBI.out.size
        unfold maxLen at hg3
        clear hg1 hg5 hc
        have fin : ∀ x : Int, x = D.cut nn c → ∀ v' w', Sep ([Pc.row V3.heap.size 3 1 (.slice oo q oc) q ((D.cuts nn (L.take q)).map (Value.int .i64)), Pc.old V3.heap.size V3].set 0 (Pc.row V3.heap.size 3 1 v' (q + 1) ((D.cuts nn (L.take q)).map (Value.int .i64) ++ [.int .i64 x]))) w' →
            Sep [Pc.row V3.heap.size 3 1 v' (q + 1) ((D.cuts nn (L.take (q + 1))).map (Value.int .i64)), Pc.old V3.heap.size V3] w' := fun x hx v' w' h => by
          rw [HCT.out, List.map_append, List.map_singleton, ← hx]
          exact h
        have FIN := Box.mk fin
        clear fin
        rcases Int.lt_or_le c 0 with h0 | h0
        · have HX := Box.mk (show (-1 : Int) = D.cut nn c by unfold D.cut; rw [if_pos (.inl h0)])
          go_wp2_with (at_builtin; refine wpList_push rfl _ _ 26 rfl pushInt hsi.out 0 rfl rfl rfl rfl (by omega) (by omega) hbi ?_; rintro v' w6 hS6 ⟨go', gc', rfl, -, -⟩)
          have HS6 := Box.mk (FIN.out _ HX.out _ _ hS6)
          clear hS6
          go_roundw
          case rel => exact ⟨q + 1, _, _, hlt, by go_num, rfl, HS6⟩
          case measure => simp [intOf]; omega
        rcases Int.lt_or_le c nn with h1 | h1
        · have HX := Box.mk (show c = D.cut nn c by unfold D.cut; rw [if_neg (by omega)])
          go_wp2_with (at_builtin; refine wpList_push rfl _ _ 26 rfl pushInt hsi.out 0 rfl rfl rfl rfl (by omega) (by omega) hbi ?_; rintro v' w6 hS6 ⟨go', gc', rfl, -, -⟩)
          have HS6 := Box.mk (FIN.out _ HX.out _ _ hS6)
          clear hS6
          go_roundw
          case rel => exact ⟨q + 1, _, _, hlt, by go_num, rfl, HS6⟩
          case measure => simp [intOf]; omega
        · have HX := Box.mk (show (-1 : Int) = D.cut nn c by unfold D.cut; rw [if_pos (.inr h1)])
          go_wp2_with (at_builtin; refine wpList_push rfl _ _ 26 rfl pushInt hsi.out 0 rfl rfl rfl rfl (by omega) (by omega) hbi ?_; rintro v' w6 hS6 ⟨go', gc', rfl, -, -⟩)
          have HS6 := Box.mk (FIN.out _ HX.out _ _ hS6)
          clear hS6
          go_roundw
          case rel => exact ⟨q + 1, _, _, hlt, by go_num, rfl, HS6⟩
          case measure => simp [intOf]; omega
      · obtain rfl : q = L.length := by omega
        have HKS := Box.mk (show IntsAt wr (.slice oo L.length oc) (D.cuts nn L) by
          have := IntsAt.of_own (hsi.out.row 0 rfl) (by unfold D.cuts; rw [List.length_map, List.length_take]; omega)
          rw [List.take_length] at this
          exact this)
        obtain ⟨V4, hV4⟩ : ∃ V4, V4 = wr := ⟨_, rfl⟩
        rw [← hV4] at HBI HKS ⊢
        have hbk := HK1.out.below HBI.out HK1.out.lt
        rw [HNF.out.1, HNF.out.2] at hbk
        have c0 : V4.cell? ⟨w3.heap.size, 0, none⟩ = some (.slice na1 N nc1) := (hbk.cell 0).trans rfl
        have c1 : V4.cell? ⟨w3.heap.size, 1, none⟩ = some (.slice fa1 F fc1) := (hbk.cell 1).trans rfl
        have l4 := hbk.lt
        have HFT := Box.mk (mfits_any A B _ (.slice lo2 L.length lc2) (compM R nn) nn L V4 (HMV.out.below HBI.out) (compM_fit R nn) (HGL.out _ HBI.out) (by omega) (HS.out.below (below_tr HB3.out HBI.out)).d (HS.out.below (below_tr HB3.out HBI.out)).le)
        rw [HNF.out.1, HNF.out.2] at HFT
        have HGC := Box.mk (show goCode nn (compM R nn) = 0 by unfold goCode; rw [HMR.out]; rfl)
        clear hsi hV4 hbk
        go_wp2_with fail
        refine HFT.out.mono ?_; rintro e w5 ⟨hb5, fv, rfl, hfi⟩
        rw [HGC.out]
        rw [HMR.out, if_pos rfl, Int.toNat_natCast] at hfi
        have hfl : (fitsM nn (compM R nn) L).length = L.length + 1 := by unfold fitsM goM; simp
        obtain ⟨X, hX⟩ : ∃ X, fitsM nn (compM R nn) L = X := ⟨_, rfl⟩
        have HFB2 := Box.mk (show ∀ i, i ≤ L.length → ∃ f : Nat, X[i]? = some (f : Int) ∧ f < 2 ^ R.length ∧ ∀ j x, R[j]? = some x → f.testBit j = behindB x.1.1 x.1.2 (D.cuts nn L) (i : Int) from fun i hi => by
          have := HFB.out i hi
          rw [Int.toNat_natCast, hX] at this
          exact this)
        rw [hX] at hfi hfl
        have HFI := Box.mk hfi
        obtain ⟨fo, fc, rfl⟩ := hfi.slice
        rw [hfl] at HFI ⊢
        have HFL := Box.mk hfl
        have HB5 := Box.mk (below_tr HBI.out hb5)
        have HKS5 := Box.mk (HKS.out.below hb5)
        clear hb5 hfi hfl hX c0 c1 l4
        go_wp2_with fail
        go_loopw [15] (fun i wr => ∃ p : Nat, p ≤ L.length + 1 ∧ i = .int .i64 p ∧ Box (Below w5.heap.size w5 wr)) (fun i _ => L.length + 1 - (intOf i).toNat)
        case atStart => exact ⟨0, by omega, rfl, ⟨Below.refl _ _⟩⟩
        case round =>
          obtain ⟨p, hp, rfl, hb⟩ := hrel
          by_cases hlt : p < L.length + 1
          · obtain ⟨f, hf, hfl, hbit⟩ := HFB2.out p (by omega)
            obtain ⟨g, off, cap2, hg1, hg2, hg3, hg4, hg5⟩ := (HFI.out.below hb.out).get (by intro e; have := HFL.out; rw [e] at this; simp at this)
            rw [HFL.out] at hg1 hg2
            obtain ⟨rfl, rfl⟩ : fo = some ⟨g, off, none⟩ ∧ fc = cap2 := by injection hg1 with h1 h2 h3; exact ⟨h1, h3⟩
            have hcf := hg5 p _ hf
            have HBIT := Box.mk hbit
            have HFLT := Box.mk hfl
            have h64 : f < 64 := Nat.lt_of_lt_of_le hfl (Nat.pow_le_pow_right (by omega) (by omega : R.length ≤ 6))
            obtain ⟨W6, hW6⟩ : ∃ W6, W6 = wr := ⟨_, rfl⟩
            rw [← hW6] at hb hcf ⊢
            unfold maxLen at hg3
            clear hg1 hg4 hg5 hf hbit hfl hW6
            have HLTP := Box.mk hlt
            go_wp2_with fail
            clear hlt
            generalize decide ((p : Int) < (L.length : Int) + 1) = z87
            go_loopw [17, 16] (fun j o wi => ∃ q z : Nat, q ≤ R.length ∧ j = .int .i64 q ∧ o = .int .i64 (z : Int) ∧ z < 64 ∧ Box (z = f / 2 ^ q) ∧ Box (Below w5.heap.size w5 wi)) (fun j _ _ => R.length - (intOf j).toNat)
            case atStart => exact ⟨0, f, Nat.zero_le _, rfl, rfl, h64, ⟨by rw [Nat.pow_zero, Nat.div_one]⟩, hb⟩
            case round =>
              obtain ⟨q, z, hq, rfl, rfl, hz64, hz, hbi⟩ := hrel
              by_cases hlr : q < R.length
              · obtain ⟨x, hx⟩ : ∃ x, R[q]? = some x := ⟨_, List.getElem?_eq_getElem hlr⟩
                have HVI := Box.mk (below_tr HB5.out hbi.out)
                obtain ⟨rg, roff, rcap, k1, k2, k3, k4, k5⟩ := (HGR.out _ HVI.out).get (by rintro rfl; simp at hlr)
                obtain ⟨rfl, rfl⟩ : ro = some ⟨rg, roff, none⟩ ∧ rc = rcap := by injection k1 with h1 h2 h3; exact ⟨h1, h3⟩
                obtain ⟨vl, vr, r0, r1, r2, r3, r4, hil, hir⟩ := k5 q x hx
                have HBH := Box.mk (behind_any x.1.1 vl x.1.2 (.slice oo L.length oc) (D.cuts nn L) (p : Int) wr hil (HRF.out.1 x (List.mem_of_getElem? hx)).1 (HKS5.out.below hbi.out) (by unfold D.cuts; rw [List.length_map]; omega))
                have HBV := Box.mk (HBIT.out q x hx)
                have ht1 := half_bit f q
                rw [← hz.out] at ht1
                have HNX := Box.mk (show z / 2 = f / 2 ^ (q + 1) by rw [hz.out, Nat.pow_succ, Nat.div_div_eq_div_mul])
                unfold maxLen at k3
                clear k1 k5 hx hil hir
                have HT1 := Box.mk ht1
                clear ht1
                go_wp2_with fail
                refine HBH.out.mono ?_; rintro e w7 ⟨rfl, hb7⟩; rw [← HBV.out]
                have HB7 := Box.mk hb7
                clear hb7
                have ht1 := HT1.out
                generalize f.testBit q = b at ht1 ⊢
                cases b with
                | true =>
                  go_wp2_with fail
                  go_roundw
                  case rel => exact ⟨q + 1, z / 2, hlr, by go_num, by go_num, by omega, HNX, ⟨below_tr hbi.out HB7.out⟩⟩
                  case measure => simp [intOf]; omega
                | false =>
                  go_wp2_with fail
                  go_roundw
                  case rel => exact ⟨q + 1, z / 2, hlr, by go_num, by go_num, by omega, HNX, ⟨below_tr hbi.out HB7.out⟩⟩
                  case measure => simp [intOf]; omega
              · have hz0 : z = 0 := by
                  rw [hz.out, show q = R.length by omega]
                  exact Nat.div_eq_of_lt HFLT.out
                subst hz0
                clear hz
                go_wp2_with fail
                go_roundw
                case rel => exact ⟨p + 1, HLTP.out, by go_num, hbi⟩
                case measure => simp [intOf]; omega
          · go_wp2_with fail
            go_ret
            exact ⟨rfl, below_tr HB3.out (below_tr HB5.out hb.out)⟩
  · have HN := Box.mk (comp_none (.inl hc))
    have HRB := Box.mk (comp_rule.1 hc)
    have hV3 := HV3.out
    rw [HN.out] at c0 c1 hV3
    rw [hc, HN.out]
    simp only [List.length_nil] at c0 c1 hV3 ⊢
    clear hc
    go_wp2_with fail
    rw [← hV3]
    clear hV3
    go_wp2_with (go_at_call 22; refine HRU.out.mono ?_; rintro e w4 ⟨rfl, hb4⟩; rw [HRB.out]; have HB4 := Box.mk hb4; clear hb4)
    go_ret
    exact ⟨rfl, below_tr HB3.out HB4.out⟩
  · have HN := Box.mk (comp_none (.inr hc))
    have HRB := Box.mk (comp_rule.2 hc)
    have hV3 := HV3.out
    rw [HN.out] at c0 c1 hV3
    rw [hc, HN.out]
    simp only [List.length_nil] at c0 c1 hV3 ⊢
    clear hc
    go_wp2_with fail
    rw [← hV3]
    clear hV3
    go_wp2_with (go_at_call 22; refine HRU.out.mono ?_; rintro e w4 ⟨rfl, hb4⟩; rw [HRB.out]; have HB4 := Box.mk hb4; clear hb4)
    go_ret
    exact ⟨rfl, below_tr HB3.out HB4.out⟩
end Go.Proofs.YtjemdepcaaadiaaGreatDoor
