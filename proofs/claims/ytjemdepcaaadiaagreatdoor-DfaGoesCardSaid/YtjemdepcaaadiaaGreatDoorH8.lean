/-
  Texts of this claim, one behind the other: Sort, Sort2, Df13, Dg3, Dg4.
-/
import Derived.Shelf.Sort.Plain
import Derived.Ground.Names2Prog
import Derived.Shelf.Slices.CompactI
import Derived.Shelf.Slices.In.SortNone
import Derived.Shelf.Slices.Empties2
import Derived.Test.YtjemdepcaaadiaaGreatDoorH1
import Derived.Test.YtjemdepcaaadiaaGreatDoorH2
import Derived.Sort.OwnSortedInts
import Derived.Test.YtjemdepcaaadiaaGreatDoorH7
import Derived.Test.YtjemdepcaaadiaaGreatDoorH6
import Derived.Laws.MakeOwn
import Derived.Laws.OwnMore

/- CONTRACTS OF THE LIBRARY, laid at this program (what the kit's tool writes). -/
namespace Go.Proofs.YtjemdepcaaadiaaGreatDoor
open Go.Shelf Go.Proofs
def shelf_lays189_ren : Go.Shelf.Ren := ⟨fun | 189 => 28 | 125 => 45 | 257 => 44 | 128 => 74 | 129 => 75 | 294 => 65 | 295 => 66 | 296 => 67 | 297 => 68 | 298 => 69 | 299 => 70 | 216 => 71 | 300 => 72 | 301 => 73 | 328 => 88 | 329 => 89 | 330 => 90 | 331 => 91 | 332 => 92 | 215 => 93 | 343 => 101 | n => n, fun | 28 => 26 | 3 => 3 | 46 => 86 | 0 => 0 | 51 => 121 | 53 => 123 | 4 => 4 | 183 => 114 | 182 => 113 | 131 => 89 | 5 => 5 | 9 => 9 | 218 => 147 | 222 => 151 | 228 => 160 | 229 => 161 | n => n, fun | n => n⟩
theorem shelf_lays189 : Go.Proofs.Lays.n189 Tryz.prog shelf_lays189_ren := {
  mixed := by kernel_rfl
  f125 := Tryz.func45.trans (congrArg some (by kernel_rfl))
  f128 := Tryz.func74.trans (congrArg some (by kernel_rfl))
  f129 := Tryz.func75.trans (congrArg some (by kernel_rfl))
  f189 := Tryz.func28.trans (congrArg some (by kernel_rfl))
  f215 := Tryz.func93.trans (congrArg some (by kernel_rfl))
  f216 := Tryz.func71.trans (congrArg some (by kernel_rfl))
  f257 := Tryz.func44.trans (congrArg some (by kernel_rfl))
  f294 := Tryz.func65.trans (congrArg some (by kernel_rfl))
  f295 := Tryz.func66.trans (congrArg some (by kernel_rfl))
  f296 := Tryz.func67.trans (congrArg some (by kernel_rfl))
  f297 := Tryz.func68.trans (congrArg some (by kernel_rfl))
  f298 := Tryz.func69.trans (congrArg some (by kernel_rfl))
  f299 := Tryz.func70.trans (congrArg some (by kernel_rfl))
  f300 := Tryz.func72.trans (congrArg some (by kernel_rfl))
  f301 := Tryz.func73.trans (congrArg some (by kernel_rfl))
  f328 := Tryz.func88.trans (congrArg some (by kernel_rfl))
  f329 := Tryz.func89.trans (congrArg some (by kernel_rfl))
  f330 := Tryz.func90.trans (congrArg some (by kernel_rfl))
  f331 := Tryz.func91.trans (congrArg some (by kernel_rfl))
  f332 := Tryz.func92.trans (congrArg some (by kernel_rfl))
  f343 := Tryz.func101.trans (congrArg some (by kernel_rfl))
  t0 := Tryz.underlying0
  a0 := Tryz.isAgg0
  z0 := Tryz.sizeOf0
  v0 := Tryz.zeroValue0
  t3 := Tryz.underlying3
  a3 := Tryz.isAgg3
  z3 := Tryz.sizeOf3
  v3 := Tryz.zeroValue3
  t4 := Tryz.underlying4
  a4 := Tryz.isAgg4
  z4 := Tryz.sizeOf4
  v4 := Tryz.zeroValue4
  t5 := Tryz.underlying5
  a5 := Tryz.isAgg5
  z5 := Tryz.sizeOf5
  v5 := Tryz.zeroValue5
  t9 := Tryz.underlying9
  a9 := Tryz.isAgg9
  z9 := Tryz.sizeOf9
  v9 := Tryz.zeroValue9
  t28 := Tryz.underlying26
  a28 := Tryz.isAgg26
  z28 := Tryz.sizeOf26
  v28 := Tryz.zeroValue26
  t46 := Tryz.underlying86
  a46 := Tryz.isAgg86
  z46 := Tryz.sizeOf86
  v46 := Tryz.zeroValue86
  t51 := Tryz.underlying121
  a51 := Tryz.isAgg121
  z51 := Tryz.sizeOf121
  v51 := Tryz.zeroValue121
  t53 := Tryz.underlying123
  a53 := Tryz.isAgg123
  z53 := Tryz.sizeOf123
  v53 := Tryz.zeroValue123
  t131 := Tryz.underlying89
  a131 := Tryz.isAgg89
  z131 := Tryz.sizeOf89
  v131 := Tryz.zeroValue89
  t182 := Tryz.underlying113
  a182 := Tryz.isAgg113
  z182 := Tryz.sizeOf113
  v182 := Tryz.zeroValue113
  t183 := Tryz.underlying114
  a183 := Tryz.isAgg114
  z183 := Tryz.sizeOf114
  v183 := Tryz.zeroValue114
  t218 := Tryz.underlying147
  a218 := Tryz.isAgg147
  z218 := Tryz.sizeOf147
  v218 := Tryz.zeroValue147
  t222 := Tryz.underlying151
  a222 := Tryz.isAgg151
  z222 := Tryz.sizeOf151
  v222 := Tryz.zeroValue151
  t228 := Tryz.underlying160
  a228 := Tryz.isAgg160
  z228 := Tryz.sizeOf160
  v228 := Tryz.zeroValue160
  t229 := Tryz.underlying161
  a229 := Tryz.isAgg161
  z229 := Tryz.sizeOf161
  v229 := Tryz.zeroValue161 }
open Go.Sort Go.RowKit in
theorem shelf_slices_Sort_int (blk off cap : Nat) (zs : List Int) (w : World) (hH : Go.Sort.Holds (Value.int .i64) w blk off zs.toArray) (hblk : blk < w.heap.size) (hsz : zs.length < 4611686018427387904) :
    Calls Tryz.prog 28 #[.slice (some ⟨blk, off, none⟩) zs.length cap] w fun e w' =>
      e = .returned (.tuple #[]) ∧ ∃ n os, w' = grow (putRow (Value.int .i64) (Sort.ahead w n) blk off (zs.mergeSort fun x y => decide (x ≤ y)).toArray) os := Any.slices_Sort_int shelf_lays189 blk off cap zs w hH hblk hsz
def shelf_laysNm220_ren : Go.Shelf.Ren := ⟨fun | 20 => 87 | n => n, fun | 22 => 26 | 3 => 3 | 4 => 4 | 0 => 0 | n => n, fun | n => n⟩
theorem shelf_laysNm220 : Go.Proofs.Lays2.n20 Tryz.prog shelf_laysNm220_ren := {
  mixed := by kernel_rfl
  f20 := Tryz.func87.trans (congrArg some (by kernel_rfl))
  t0 := Tryz.underlying0
  a0 := Tryz.isAgg0
  z0 := Tryz.sizeOf0
  v0 := Tryz.zeroValue0
  t3 := Tryz.underlying3
  a3 := Tryz.isAgg3
  z3 := Tryz.sizeOf3
  v3 := Tryz.zeroValue3
  t4 := Tryz.underlying4
  a4 := Tryz.isAgg4
  z4 := Tryz.sizeOf4
  v4 := Tryz.zeroValue4
  t22 := Tryz.underlying26
  a22 := Tryz.isAgg26
  z22 := Tryz.sizeOf26
  v22 := Tryz.zeroValue26
  i3 := by kernel_rfl }
open Go.RowKit Go.Lib Go.Sort in
theorem shelf_slices_Compact_int (blk off cap : Nat) (zs : List Int) (w : World) (hH : Go.Sort.Holds (Value.int .i64) w blk off zs.toArray) (hsz : zs.length ≤ 9223372036854775807) (hcap : zs.length ≤ cap) :
    Calls Tryz.prog 87 #[.slice (some ⟨blk, off, none⟩) zs.length cap] w fun e w' => e = .returned (.slice (some ⟨blk, off, none⟩) (Lib.compact zs).length cap) ∧ ∃ q, w' = putRow (Value.int .i64) (Sort.ahead w q) blk off (Lib.compact zs ++ List.replicate (zs.length - (Lib.compact zs).length) 0).toArray := Any.slices_Compact_int shelf_laysNm220 blk off cap zs w hH hsz hcap
open Go.RowKit Go.Lib Go.Sort in
theorem shelf_slices_Compact_int_empty (a : Option Addr) (cap : Nat) (w : World) :
    Calls Tryz.prog 87 #[.slice a 0 cap] w fun e w' => e = .returned (.slice a 0 cap) ∧ w' = w := Any.slices_Compact_int_empty shelf_laysNm220 a cap w
open Go.RowKit Go.Sort in
theorem shelf_slices_Sort_int_none (p : Option Addr) (cap : Nat) (w : World) :
    Calls Tryz.prog 28 #[.slice p 0 cap] w fun e w' => e = .returned (.tuple #[]) ∧ w' = w := Any.slices_Sort_int_none shelf_lays189 p cap w
end Go.Proofs.YtjemdepcaaadiaaGreatDoor

/- A ROW OF ONE'S OWN, sorted in place; runs of the same struck out; a number sought in a list. -/
namespace Go.Proofs.YtjemdepcaaadiaaGreatDoor
open Go.RowKit Go.Sort

def sortI (zs : List Int) : List Int := zs.mergeSort fun x y => decide (x ≤ y)
theorem sortI_len (zs : List Int) : (sortI zs).length = zs.length := List.length_mergeSort _
theorem sort_sep {ps : List Pc} {W : World} (h : Sep ps W) (i : Nat) {base n : Nat} {e : TypeId} {v : Value} {zs : List Int} (hi : ps[i]? = some (Pc.row base e 1 v n (zs.map (Value.int .i64)))) (hn : n = zs.length) (hz : n ≤ 1000000) :
    Calls Tryz.prog 28 #[v] W fun e' W' => e' = .returned (.tuple #[]) ∧ Sep (ps.set i (Pc.row base e 1 v n ((sortI zs).map (Value.int .i64)))) W' := by
  subst hn
  have hrow := h.row i hi
  rcases hrow.2 with ⟨rfl, h2⟩ | ⟨g, cap, cur, rfl, hb, hg, h3, h4, h5, h6⟩
  · have hz0 : zs = [] := List.eq_nil_of_length_eq_zero h2
    subst hz0
    refine (shelf_slices_Sort_int_none none 0 W).mono ?_
    rintro e' W' ⟨rfl, rfl⟩
    refine ⟨rfl, ?_⟩
    have e1 : ps.set i (Pc.row base e 1 (.slice none 0 0) ([] : List Int).length ((sortI []).map (Value.int .i64))) = ps := by
      obtain ⟨k1, k2⟩ := List.getElem?_eq_some_iff.1 hi
      rw [show (sortI []).map (Value.int .i64) = ([] : List Int).map (Value.int .i64) by simp [sortI], ← k2, List.set_getElem_self]
    rw [e1]
    exact h
  · rw [Nat.mul_one] at h6
    refine (shelf_slices_Sort_int g 0 cap zs W (holds_of_blockI hg h6) (Array.getElem?_eq_some_iff.1 hg).1 (by omega)).mono ?_
    rintro e' W' ⟨rfl, n, os, rfl⟩
    exact ⟨rfl, h.grow i hi (grownBy_sortedI _) (ownsRow_sortedI (sortI_len zs) hb hg h3 h4 h5) (.inl rfl)⟩

theorem indexC_any (v : Value) (xs : List Int) (x : Int) (w : World) (hv : IntsAt w v xs) (hz : xs.length ≤ 16777216) :
    Calls Tryz.prog 43 #[v, .int .i64 x] w fun e w' => (∃ i : Int, e = .returned (.int .i64 i) ∧ decide (0 ≤ i) = decide (x ∈ xs)) ∧ w = w' := by
  have HV := Box.mk hv
  obtain ⟨ao, cap, rfl⟩ := hv.slice
  clear hv
  go_enter Tryz.func43, Tryz.ntmps43
  go_wp2
  go_loop [8] (fun i => ∃ k : Nat, k ≤ xs.length ∧ i = .int .i64 k ∧ Box (x ∉ xs.take k)) (fun i => xs.length - (intOf i).toNat)
  case atStart => exact ⟨0, by omega, rfl, ⟨by simp⟩⟩
  case round =>
    obtain ⟨k, hk, rfl, hn⟩ := hrel
    by_cases hlt : k < xs.length
    · obtain ⟨y, hy⟩ : ∃ y, xs[k]? = some y := ⟨_, List.getElem?_eq_getElem hlt⟩
      obtain ⟨g, off, cap2, hg1, hg2, hg3, hg4, hg5⟩ := HV.out.get (by rintro rfl; simp at hlt)
      obtain ⟨rfl, rfl⟩ : ao = some ⟨g, off, none⟩ ∧ cap = cap2 := by injection hg1 with h1 h2 h3; exact ⟨h1, h3⟩
      have hcy := hg5 k y hy
      have HY := Box.mk hy
      unfold maxLen at hg3
      clear hy hg1 hg5
      by_cases hxy : x = y
      · subst hxy
        have HM := Box.mk (show x ∈ xs from List.mem_of_getElem? HY.out)
        go_wp2
        go_ret
        exact ⟨⟨k, rfl, by first | (rw [decide_eq_true HM.out]; simp) | exact ⟨fun _ => HM.out, fun _ => by omega⟩⟩, rfl⟩
      · have HN := Box.mk (show x ∉ xs.take (k + 1) by
          rw [List.take_add_one, HY.out, List.mem_append]
          rintro (h | h)
          · exact hn.out h
          · exact hxy (List.mem_singleton.1 h))
        have hq : (x == y) = false := beq_eq_false_iff_ne.2 hxy
        go_wp2
        go_round
        case rel => exact ⟨k + 1, hlt, by go_num, HN⟩
        case measure => simp [intOf]; omega
    · have HN := Box.mk (show x ∉ xs by have := hn.out; rwa [List.take_of_length_le (by omega)] at this)
      go_wp2
      go_ret
      exact ⟨⟨-1, rfl, by first | (rw [decide_eq_false HN.out]; rfl) | exact ⟨fun h => by omega, fun h => absurd h HN.out⟩⟩, rfl⟩
theorem containsC_any (v : Value) (xs : List Int) (x : Int) (w : World) (hv : IntsAt w v xs) (hz : xs.length ≤ 16777216) :
    Calls Tryz.prog 27 #[v, .int .i64 x] w fun e w' => e = .returned (.bool (decide (x ∈ xs))) ∧ w = w' := by
  have HI := Box.mk (indexC_any v xs x w hv hz)
  clear hv
  go_enter Tryz.func27, Tryz.ntmps27
  go_wp2_with fail
  refine HI.out.mono ?_; rintro e w1 ⟨⟨i, rfl, hi⟩, rfl⟩
  have HX := Box.mk hi
  clear hi
  go_wp2_with fail
  go_ret
  exact ⟨ret_bool HX.out, rfl⟩
end Go.Proofs.YtjemdepcaaadiaaGreatDoor

/- WHICH STATES ARE REACHED: the program's Reached; rules' machine is right. -/
namespace Go.Proofs.YtjemdepcaaadiaaGreatDoor
open Go.RowKit Go.Shelf
attribute [local go_sem] Oper.semAt_some

def natRows (M : D.Mach) : List (List Nat) := M.1.map fun r => r.map Int.toNat
def reachK (M : D.Mach) (k : Nat) : List Nat := D.reach (natRows M) k
def reachM (M : D.Mach) : List Nat := reachK M 300
def reachedL (n : Int) (M : D.Mach) : List Int := if machR n M = true then sortI (zs (reachM M)) else []
def reachedPost (n : Int) (M : D.Mach) (w : World) (e : Ending) (w' : World) : Prop :=
  Below w.heap.size w w' ∧ ∃ v, e = .returned (.tuple #[v, .int .i64 (goCode n M)]) ∧ IntsAt w' v (reachedL n M)
theorem natV_zs (T : List Nat) : T.map natV = (zs T).map (Value.int .i64) := by unfold zs; rw [List.map_map]; rfl
theorem natRows_lt {n : Int} {M : D.Mach} (h : machR n M = true) : ∀ r ∈ natRows M, ∀ x ∈ r, x < M.1.length := by
  intro r hr x hx
  obtain ⟨r0, h0, rfl⟩ := List.mem_map.1 hr
  obtain ⟨y, hy, rfl⟩ := List.mem_map.1 hx
  obtain ⟨a, ha⟩ := List.mem_iff_getElem?.1 h0
  have hlt := (List.getElem?_eq_some_iff.1 ha).1
  obtain ⟨n1, n2, -, -, -⟩ := machR_parts h
  obtain ⟨m, rfl⟩ := Int.eq_ofNat_of_zero_le (show 0 ≤ n by omega)
  obtain ⟨r1, h1, h2, h3, -⟩ := machR_row h hlt
  rw [ha] at h1
  cases h1
  obtain ⟨j, hj⟩ := List.mem_iff_getElem?.1 hy
  have hjl := (List.getElem?_eq_some_iff.1 hj).1
  obtain ⟨z, hz, z0, z1⟩ := h3 j (by omega)
  rw [hj] at hz
  cases hz
  omega
theorem reachK_len {n : Int} {M : D.Mach} (h : machR n M = true) (k : Nat) : (reachK M k).length ≤ M.1.length := D.reach_len _ (by have := (machR_parts h).2.2.1; omega) (natRows_lt h) k
theorem reachK_lt {n : Int} {M : D.Mach} (h : machR n M = true) (k : Nat) : ∀ x ∈ reachK M k, x < M.1.length := D.reach_all _ (by have := (machR_parts h).2.2.1; omega) (natRows_lt h) k
theorem reachK_end {n : Int} {M : D.Mach} (_h : machR n M = true) {k : Nat} (hk : (reachK M k).length ≤ k) (hk3 : k ≤ 300) : reachM M = reachK M k := by
  unfold reachM reachK
  have := D.reach_stop (natRows M) hk (300 - k)
  rwa [show k + (300 - k) = 300 by omega] at this
theorem addOne_in {t : List Nat} {x : Nat} (h : x ∈ t) : D.addOne t x = t := by unfold D.addOne; rw [if_pos h]
theorem addOne_out {t : List Nat} {x : Nat} (h : x ∉ t) : D.addOne t x = t ++ [x] := by unfold D.addOne; rw [if_neg h]
theorem zs_mem {T : List Nat} {x : Nat} : (x : Int) ∈ zs T ↔ x ∈ T := by
  unfold zs
  rw [List.mem_map]
  constructor
  · rintro ⟨y, hy, e⟩
    rwa [show x = y by omega]
  · exact fun h => ⟨x, h, rfl⟩

set_option maxRecDepth 100000 in
set_option maxHeartbeats 8000000 in
theorem mreached_any (A : Nat → Addr) (B : Nat) (v : Value) (M : D.Mach) (n : Int) (w : World) (hv : MachAt w v M) (hM : MachFit M) (hD : Ed A B w) (hB : B ≤ w.heap.size) :
    Calls Tryz.prog 12 #[v, .int .i64 n] w (reachedPost n M w) := by
  have HRT := Box.mk (fun W (h : Below w.heap.size w W) => mright_any v M n W (hv.below h) hM)
  have HD := Box.mk (fun W (h : Below w.heap.size w W) => hD.below (h.mono hB))
  obtain ⟨na, fa, rfl, hra, hia⟩ := hv
  have HRA := Box.mk hra
  obtain ⟨aa, ca, rfl⟩ := hra.slice
  obtain ⟨fo, fc, rfl⟩ := hia.slice
  obtain ⟨w2, hw2⟩ : ∃ w2, w2 = w.alloc (.cells #[.slice aa M.1.length ca, .slice fo M.2.length fc] 25) := ⟨_, rfl⟩
  have HW2 := Box.mk hw2
  have HS2 := Box.mk (show Sep [Pc.blk w.heap.size 25 #[.slice aa M.1.length ca, .slice fo M.2.length fc], Pc.old w.heap.size w] w2 by rw [hw2]; exact (Sep.start w).alloc_blk _ _)
  have hb2 : Below w.heap.size w w2 := HS2.out.bel (by simp)
  have HB2 := Box.mk hb2
  have hba := HS2.out.blk 0 rfl
  have c0 : w2.cell? ⟨w.heap.size, 0, none⟩ = some (.slice aa M.1.length ca) := (hba.cell 0).trans rfl
  have c1 : w2.cell? ⟨w.heap.size, 1, none⟩ = some (.slice fo M.2.length fc) := (hba.cell 1).trans rfl
  have l0 := hba.lt
  clear hra hia hM hD hw2 hb2 hba
  cases hr : machR n M with
  | false =>
    have HR := Box.mk hr
    have HC := Box.mk (show goCode n M = 100 by unfold goCode; rw [hr]; rfl)
    have HL := Box.mk (show reachedL n M = [] by unfold reachedL; rw [hr]; rfl)
    clear hr
    go_enter Tryz.func12, Tryz.ntmps12
    go_upto_region 1 with (fail)
    rw [← HW2.out]
    go_wp2_with fail
    refine (HRT.out _ HB2.out).mono ?_; rintro e w3 ⟨rfl, hb3⟩; rw [HR.out]
    have HB3 := Box.mk (HB2.out.trans (hb3.mono HB2.out.size))
    have hD3 := HD.out w3 HB3.out
    have hg := hD3.var 0 (by decide)
    have HT := Box.mk (dtold_any A B 0 (by decide) w3 hD3)
    unfold errV at HT
    clear hb3 hD3
    go_wp2_with fail
    refine HT.out.mono ?_; rintro e w4 ⟨rfl, rfl⟩
    go_wp2_with fail
    go_ret2
    exact ⟨HB3.out, _, by rw [HC.out]; rfl, by rw [HL.out]; exact IntsAt.nil⟩
  | true =>
    have HR := Box.mk hr
    obtain ⟨h1, h2, h3, h4, h5⟩ := machR_parts hr
    obtain ⟨nn, rfl⟩ := Int.eq_ofNat_of_zero_le (show 0 ≤ n by omega)
    have HC := Box.mk (show goCode nn M = 0 by unfold goCode; rw [hr]; rfl)
    have HL := Box.mk (show reachedL nn M = sortI (zs (reachM M)) by unfold reachedL; rw [hr]; rfl)
    have HLEN := Box.mk (fun k => reachK_len hr k)
    have HLT := Box.mk (fun k => reachK_lt hr k)
    have HROW := Box.mk (fun {a : Nat} (ha : a < M.1.length) => machR_row hr ha)
    have HEND := Box.mk (fun {k : Nat} (hk : (reachK M k).length ≤ k) (hk3 : k ≤ 300) => reachK_end hr hk hk3)
    have HNX := Box.mk (natRows_lt hr)
    clear hr h5
    go_enter Tryz.func12, Tryz.ntmps12
    go_upto_region 1 with (fail)
    rw [← HW2.out]
    go_wp2_with fail
    refine (HRT.out _ HB2.out).mono ?_; rintro e w3 ⟨rfl, hb3⟩; rw [HR.out]
    have HS3 := Box.mk (show Sep [Pc.row w.heap.size 3 1 (.slice (some ⟨w3.heap.size, 0, none⟩) 1 1) (reachK M 0).length ((reachK M 0).map natV), Pc.blk w.heap.size 25 #[.slice aa M.1.length ca, .slice fo M.2.length fc], Pc.old w.heap.size w] (w3.alloc (.cells #[.int .i64 0] 3)) by
      exact (HS2.out.below hb3).lit (base := w.heap.size) (e := 3) (cs := #[.int .i64 0]) (n := 1) (Nat.le_trans HB2.out.size hb3.size) rfl (by omega))
    clear hb3 c0 c1 l0
    go_wp2_with fail
    go_loopw [6, 7] (fun tv i wr => ∃ k : Nat, k ≤ 300 ∧ k ≤ (reachK M k).length ∧ i = .int .i64 k ∧ Box (Sep [Pc.row w.heap.size 3 1 tv (reachK M k).length ((reachK M k).map natV), Pc.blk w.heap.size 25 #[.slice aa M.1.length ca, .slice fo M.2.length fc], Pc.old w.heap.size w] wr)) (fun _ i _ => 300 - (intOf i).toNat)
    case atStart => exact ⟨0, by omega, by omega, rfl, HS3⟩
    case round =>
      obtain ⟨k, hk, hk2, rfl, hsep⟩ := hrel
      have hlen := HLEN.out k
      obtain ⟨tq, tc, rfl, ht1, ht2⟩ := own_shape (hsep.out.row 0 rfl)
      by_cases hlt : k < (reachK M k).length
      · obtain ⟨s, hs⟩ : ∃ s, (reachK M k)[k]? = some s := ⟨_, List.getElem?_eq_getElem hlt⟩
        have hsl := HLT.out k s (List.mem_of_getElem? hs)
        obtain ⟨r, hr1, hr2, hr3, -⟩ := HROW.out hsl
        obtain ⟨rN, hrN⟩ : ∃ rN, r.map Int.toNat = rN := ⟨_, rfl⟩
        have hrz : r = zs rN := by
          rw [← hrN]
          unfold zs
          rw [List.map_map]
          apply List.ext_getElem?
          intro j
          rw [List.getElem?_map]
          rcases Nat.lt_or_ge j (nn + 1) with hj | hj
          · obtain ⟨x, hx, x0, -⟩ := hr3 j (by omega)
            rw [hx]
            simp only [Option.map_some, Function.comp_apply, Option.some.injEq]
            omega
          · rw [List.getElem?_eq_none (by omega)]; rfl
        have hrNl : rN.length = nn + 1 := by rw [← hrN, List.length_map]; exact hr2
        have hnr : (natRows M)[s]? = some rN := by unfold natRows; rw [List.getElem?_map, hr1]; exact congrArg some hrN
        have HNEXT := Box.mk (show reachK M (k + 1) = D.addAll (reachK M k) rN by
          unfold reachK
          rw [D.reach_step (natRows M) (s := s) hs, show (natRows M).getD s [] = rN by rw [List.getD, hnr]; rfl])
        have HRL := Box.mk (HNX.out rN (List.mem_of_getElem? hnr))
        obtain ⟨T, hT⟩ : ∃ T, reachK M k = T := ⟨_, rfl⟩
        have HTN := Box.mk (show T.Nodup by rw [← hT]; exact D.reach_nodup _ k)
        have HTL := Box.mk (show ∀ x ∈ T, x < M.1.length by rw [← hT]; exact HLT.out k)
        rw [hT] at hs hlt hlen hsep HNEXT
        have HBR := Box.mk (show Below w.heap.size w wr from hsep.out.bel (by simp))
        have HML := Box.mk (show ∀ q, (D.addAll T (rN.take q)).length ≤ 300 from fun q => Nat.le_trans (D.nodup_le _ _ (D.addAll_nodup _ HTN.out) (D.addAll_all (p := fun x => x < M.1.length) _ HTL.out (fun y hy => HRL.out y (List.mem_of_mem_take hy)))) h4)
        obtain ⟨lb, loff, lcap, k1, k2, k3, k4, k5⟩ := (row_ints (hsep.out.row 0 rfl) rfl).get (by intro e; have := congrArg List.length e; rw [zs_len, List.length_nil] at this; omega)
        rw [zs_len] at k1
        rw [zs_len] at k2
        obtain ⟨rfl, rfl⟩ : tq = some ⟨lb, loff, none⟩ ∧ tc = lcap := by injection k1 with h1 h2 h3; exact ⟨h1, h3⟩
        have hks := k5 k _ (zs_get hs)
        obtain ⟨pa, oa, ca', ha0, ha1, ha2, ha3, ha4⟩ := HRA.out.get (by intro e; rw [e] at hr1; simp at hr1)
        obtain ⟨rfl, rfl⟩ : aa = some ⟨pa, oa, none⟩ ∧ ca = ca' := by injection ha0 with h1 h2 h3; exact ⟨h1, h3⟩
        obtain ⟨xv, hxc, hxi⟩ := ha4 _ r hr1
        obtain ⟨rb, roff, rcap, r1, r2, r3, r4, r5⟩ := hxi.get (by rintro rfl; simp at hr2)
        rw [hr2] at r1 r2
        subst r1
        have hxr := (HBR.out.cell (p := ⟨pa, oa + s, none⟩) ha3).trans hxc
        have hba := hsep.out.blk 1 rfl
        have c0 : wr.cell? ⟨w.heap.size, 0, none⟩ = some (.slice (some ⟨pa, oa, none⟩) M.1.length ca) := (hba.cell 0).trans rfl
        have HRC := Box.mk (show ∀ (q x : Nat), rN[q]? = some x → w.cell? ⟨rb, roff + q, none⟩ = some (.int .i64 (x : Int)) from fun q x hq => r5 q x (by rw [hrz]; exact zs_get hq))
        have HRB := Box.mk (show rb < w.heap.size from r4)
        unfold maxLen at k3 ha2 r3
        have hkc : k < tc := by omega
        have hsc : s < ca := by omega
        have l0 := hba.lt
        have HSD := Box.mk hsep.out.drew
        rw [hT]
        clear k1 k5 ha0 ha4 hxc hxi r5 hba hr1 hr3 hs hnr hrz hrN hT hr2 hsep
        go_wp2_with fail
        go_region
        have HSD0 := Box.mk (show Sep [Pc.row w.heap.size 3 1 (.slice (some ⟨lb, loff, none⟩) T.length tc) (D.addAll T (rN.take 0)).length ((D.addAll T (rN.take 0)).map natV), Pc.blk w.heap.size 25 #[.slice (some ⟨pa, oa, none⟩) M.1.length ca, .slice fo M.2.length fc], Pc.old w.heap.size w] wr.drew from HSD.out)
        clear hks hxr c0 l0 HSD
        go_wp2_with fail
        go_loopw [6, 32] (fun tv j wi => ∃ q : Nat, q ≤ nn + 1 ∧ j = .int .i64 q ∧ Box (Sep [Pc.row w.heap.size 3 1 tv (D.addAll T (rN.take q)).length ((D.addAll T (rN.take q)).map natV), Pc.blk w.heap.size 25 #[.slice (some ⟨pa, oa, none⟩) M.1.length ca, .slice fo M.2.length fc], Pc.old w.heap.size w] wi)) (fun _ j _ => nn + 1 - (intOf j).toNat)
        case atStart => exact ⟨0, by omega, rfl, HSD0⟩
        case round =>
          obtain ⟨q, hq, rfl, hsi⟩ := hrel
          have hml := HML.out q
          have HBI := Box.mk (show Below w.heap.size w wr from hsi.out.bel (by simp))
          obtain ⟨to2, tc2, rfl, hu1, hu2⟩ := own_shape (hsi.out.row 0 rfl)
          by_cases hqn : q < nn + 1
          · obtain ⟨x, hx⟩ : ∃ x, rN[q]? = some x := ⟨_, List.getElem?_eq_getElem (by omega)⟩
            have hxc := (HBI.out.cell (p := ⟨rb, roff + q, none⟩) HRB.out).trans (HRC.out q x hx)
            have lrb : rb < wr.heap.size := Nat.lt_of_lt_of_le HRB.out HBI.out.size
            have HSN := Box.mk (show D.addAll T (rN.take (q + 1)) = D.addOne (D.addAll T (rN.take q)) x by rw [take_snoc' _ _ _ hx, D.addAll_snoc])
            obtain ⟨t, ht⟩ : ∃ t, D.addAll T (rN.take q) = t := ⟨_, rfl⟩
            rw [ht] at hsi hml HSN hu1
            rw [ht]
            have HCT := Box.mk (containsC_any _ (zs t) x wr (row_ints (hsi.out.row 0 rfl) rfl) (by rw [zs_len]; omega))
            have hqc : q < rcap := by omega
            have hbi := HBI.out.size
            clear hx ht
            by_cases hm : x ∈ t
            · have HCD := Box.mk (show decide ((x : Int) ∈ zs t) = true from decide_eq_true (zs_mem.2 hm))
              have HSE := Box.mk (addOne_in hm)
              clear hm
              go_wp2_with (go_at_call 27; refine HCT.out.mono ?_; rintro e w5 ⟨rfl, rfl⟩; rw [HCD.out])
              go_roundw
              case rel => exact ⟨q + 1, hqn, by go_num, ⟨by rw [HSN.out, HSE.out]; exact hsi.out⟩⟩
              case measure => simp [intOf]; omega
            · have HCD := Box.mk (show decide ((x : Int) ∈ zs t) = false from decide_eq_false (fun h => hm (zs_mem.1 h)))
              have HSE := Box.mk (addOne_out hm)
              clear hm
              go_wp2_with (first
                | (go_at_call 27; refine HCT.out.mono ?_; rintro e w5 ⟨rfl, rfl⟩; rw [HCD.out])
                | (at_builtin; refine wpList_push rfl _ _ 26 rfl pushInt hsi.out 0 rfl rfl rfl rfl (by omega) (by omega) hbi ?_; rintro v' w6 hS6 -))
              have HS6 := Box.mk (show Sep [Pc.row w.heap.size 3 1 v' (D.addAll T (rN.take (q + 1))).length ((D.addAll T (rN.take (q + 1))).map natV), Pc.blk w.heap.size 25 #[.slice (some ⟨pa, oa, none⟩) M.1.length ca, .slice fo M.2.length fc], Pc.old w.heap.size w] w6 by
                rw [HSN.out, HSE.out, List.length_append, List.map_append]
                exact hS6)
              clear hS6
              go_wp2_with fail
              go_roundw
              case rel => exact ⟨q + 1, hqn, by go_num, HS6⟩
              case measure => simp [intOf]; omega
          · have hqe : q = nn + 1 := by omega
            have HSX := Box.mk (show Sep [Pc.row w.heap.size 3 1 (.slice to2 (D.addAll T (rN.take q)).length tc2) (reachK M (k + 1)).length ((reachK M (k + 1)).map natV), Pc.blk w.heap.size 25 #[.slice (some ⟨pa, oa, none⟩) M.1.length ca, .slice fo M.2.length fc], Pc.old w.heap.size w] wr by
              have h := hsi.out
              have e : rN.take q = rN := by rw [hqe, ← hrNl, List.take_length]
              rw [HNEXT.out]
              rw [e] at h ⊢
              exact h)
            have hk3 : k + 1 ≤ (reachK M (k + 1)).length := by
              rw [HNEXT.out]
              have := (D.addAll_pre rN T).length_le
              omega
            have HK3 := Box.mk hk3
            clear hk3 hqe
            go_wp2_with fail
            go_roundw
            case rel => exact ⟨k + 1, by omega, HK3.out, by go_num, HSX⟩
            case measure => simp [intOf]; omega
      · have hke : (reachK M k).length = k := by omega
        have HKE := Box.mk (HEND.out (k := k) (by omega) hk)
        have hsep' := hsep.out
        rw [natV_zs] at hsep'
        have HSRT := Box.mk (sort_sep hsep' 0 rfl (by rw [zs_len]) (by omega))
        clear hke hsep'
        go_wp2_with fail
        refine HSRT.out.mono ?_; rintro e w5 ⟨rfl, hs5⟩
        have HS5 := Box.mk hs5
        clear hs5
        go_wp2_with fail
        go_ret2
        refine ⟨HS5.out.bel (by simp), _, by rw [HC.out]; rfl, ?_⟩
        rw [HL.out, HKE.out]
        exact row_intsI (HS5.out.row 0 rfl) (by rw [sortI_len, zs_len])
end Go.Proofs.YtjemdepcaaadiaaGreatDoor

/- WHICH STATES ARE REACHED: the document's answer. -/
namespace Go.Proofs.YtjemdepcaaadiaaGreatDoor
open Go.RowKit Go.Shelf
attribute [local go_sem] Oper.semAt_some

theorem sort_filter (T : List Nat) (L : Nat) (hn : T.Nodup) (hl : ∀ x ∈ T, x < L) : sortI (zs T) = zs ((List.range L).filter fun x => decide (x ∈ T)) := by
  refine List.Perm.eq_of_pairwise (le := (· ≤ ·)) (fun x y _ _ h1 h2 => Int.le_antisymm h1 h2) ?_ ?_ ?_
  · have := List.pairwise_mergeSort (le := fun x y : Int => decide (x ≤ y)) (fun a b c h1 h2 => by simp at *; omega) (fun a b => by simp; omega) (zs T)
    unfold sortI
    exact this.imp (fun h => by simpa using h)
  · unfold zs
    rw [List.pairwise_map]
    refine (List.Pairwise.filter _ (List.pairwise_lt_range (n := L))).imp (fun h => by omega)
  · refine (List.mergeSort_perm _ _).trans ?_
    unfold zs
    refine List.Perm.map _ ?_
    refine (List.perm_ext_iff_of_nodup hn (List.Nodup.sublist List.filter_sublist List.nodup_range)).2 (fun x => ?_)
    rw [List.mem_filter, List.mem_range, decide_eq_true_eq]
    exact ⟨fun h => ⟨hl x h, h⟩, fun h => h.2⟩
/-- the marks of those that have been met -/
def inCells (L : Nat) (T : List Nat) : Array Value := ((List.range L).map fun x => Value.bool (decide (x ∈ T))).toArray
theorem inCells_set (L : Nat) (T : List Nat) (x : Nat) : (inCells L T).setIfInBounds x (.bool true) = inCells L (T ++ [x]) := by
  unfold inCells
  rw [List.setIfInBounds_toArray]
  congr 1
  apply List.ext_getElem?
  intro j
  rw [List.getElem?_set]
  simp only [List.length_map, List.length_range, List.getElem?_map]
  rcases Nat.lt_or_ge j L with hj | hj
  · rw [List.getElem?_range hj]
    by_cases e : x = j
    · subst e; simp [hj]
    · simp [e, Ne.symm e]
  · rw [List.getElem?_eq_none (by simpa using hj)]
    by_cases e : x = j
    · subst e; simp; omega
    · simp [e]
theorem inCells_get {L x : Nat} (T : List Nat) (h : x < L) : (inCells L T)[x]? = some (.bool (decide (x ∈ T))) := by
  unfold inCells
  rw [List.getElem?_toArray, List.getElem?_map, List.getElem?_range h]; rfl
theorem inCells_zero (L : Nat) : inCells L [] = Array.replicate L (.bool false) := by
  unfold inCells
  apply Array.ext'
  rw [Array.toList_replicate]
  apply List.ext_getElem?
  intro j
  simp only [List.not_mem_nil, decide_false]
  rw [List.getElem?_map]
  rcases Nat.lt_or_ge j L with hj | hj
  · rw [List.getElem?_range hj]; simp [hj]
  · rw [List.getElem?_eq_none (by simpa using hj)]; simp; omega
theorem make_bools (L : Nat) (h : L ≤ 300) (w : World) : (Instr.makeSlice 60 (.int .i64 (L : Int)) (.int .i64 (L : Int))).run Tryz.prog w = .ok (.slice (some ⟨w.heap.size, 0, none⟩) L L) (w.alloc (.cells (inCells L []) 4)) := by
  have hi : (Tryz.prog.info? 4).map (fun i => (i.zero, i.size, i.bytes)) = some (some (.bool false), 1, 1) := by kernel_rfl
  obtain ⟨z, hz, hz2⟩ := Option.map_eq_some_iff.1 hi
  simp only [Prod.mk.injEq] at hz2
  have hz := And.intro hz hz2
  have := run_makeSlice (P := Tryz.prog) (w := w) 60 4 z (.bool false) Tryz.underlying60 hz.1 hz.2.1 .i64 .i64 L L (by omega) (by omega) (by rw [hz.2.2.1]; simp; omega) (by rw [hz.2.2.2]; omega) (by omega)
  have e : madeCells (Value.bool false).cells ((L : Int).toNat * z.size) = inCells L [] := by
    rw [hz.2.2.1, inCells_zero, Int.toNat_natCast, Nat.mul_one]
    apply Array.ext'
    rw [Array.toList_replicate]
    exact toList_madeCells_one (Value.bool false) L
  rw [this, e, Int.toNat_natCast]

set_option maxRecDepth 100000 in
set_option maxHeartbeats 8000000 in
theorem rreached12_any (v : Value) (M : D.Mach) (n : Int) (w : World) (hv : MachAt w v M) (hM : MachFit M) :
    Calls Tryz.prog 13 #[v, .int .i64 n] w (reachedPost n M w) := by
  have HRT := Box.mk (fun W (h : Below w.heap.size w W) => rright12_any v M n W (hv.below h) hM)
  obtain ⟨na, fa, rfl, hra, hia⟩ := hv
  have HRA := Box.mk hra
  obtain ⟨aa, ca, rfl⟩ := hra.slice
  obtain ⟨fo, fc, rfl⟩ := hia.slice
  obtain ⟨w2, hw2⟩ : ∃ w2, w2 = w.alloc (.cells #[.slice aa M.1.length ca, .slice fo M.2.length fc] 25) := ⟨_, rfl⟩
  have HW2 := Box.mk hw2
  have HS2 := Box.mk (show Sep [Pc.blk w.heap.size 25 #[.slice aa M.1.length ca, .slice fo M.2.length fc], Pc.old w.heap.size w] w2 by rw [hw2]; exact (Sep.start w).alloc_blk _ _)
  have hb2 : Below w.heap.size w w2 := HS2.out.bel (by simp)
  have HB2 := Box.mk hb2
  have hba := HS2.out.blk 0 rfl
  have c0 : w2.cell? ⟨w.heap.size, 0, none⟩ = some (.slice aa M.1.length ca) := (hba.cell 0).trans rfl
  have c1 : w2.cell? ⟨w.heap.size, 1, none⟩ = some (.slice fo M.2.length fc) := (hba.cell 1).trans rfl
  have l0 := hba.lt
  clear hra hia hM hw2 hb2 hba
  cases hr : machR n M with
  | false =>
    have HR := Box.mk hr
    have HC := Box.mk (show goCode n M = 100 by unfold goCode; rw [hr]; rfl)
    have HL := Box.mk (show reachedL n M = [] by unfold reachedL; rw [hr]; rfl)
    clear hr
    go_enter Tryz.func13, Tryz.ntmps13
    go_upto_region 1 with (fail)
    rw [← HW2.out]
    go_wp2_with fail
    refine (HRT.out _ HB2.out).mono ?_; rintro e w3 ⟨rfl, hb3⟩; rw [HR.out]
    have HB3 := Box.mk (HB2.out.trans (hb3.mono HB2.out.size))
    clear hb3
    go_wp2_with fail
    go_ret2
    exact ⟨HB3.out, _, by rw [HC.out]; rfl, by rw [HL.out]; exact IntsAt.nil⟩
  | true =>
    have HR := Box.mk hr
    obtain ⟨h1, h2, h3, h4, h5⟩ := machR_parts hr
    obtain ⟨nn, rfl⟩ := Int.eq_ofNat_of_zero_le (show 0 ≤ n by omega)
    have HC := Box.mk (show goCode nn M = 0 by unfold goCode; rw [hr]; rfl)
    have HL := Box.mk (show reachedL nn M = sortI (zs (reachM M)) by unfold reachedL; rw [hr]; rfl)
    have HLEN := Box.mk (fun k => reachK_len hr k)
    have HLT := Box.mk (fun k => reachK_lt hr k)
    have HROW := Box.mk (fun {a : Nat} (ha : a < M.1.length) => machR_row hr ha)
    have HEND := Box.mk (fun {k : Nat} (hk : (reachK M k).length ≤ k) (hk3 : k ≤ 300) => reachK_end hr hk hk3)
    have HNX := Box.mk (natRows_lt hr)
    have HMK := Box.mk (fun W => make_bools M.1.length h4 W)
    clear hr h5
    go_enter Tryz.func13, Tryz.ntmps13
    go_upto_region 1 with (fail)
    rw [← HW2.out]
    go_wp2_with fail
    refine (HRT.out _ HB2.out).mono ?_; rintro e w3 ⟨rfl, hb3⟩; rw [HR.out]
    have hbl := HS2.out.below hb3
    have hba := hbl.blk 0 rfl
    have c0 : w3.cell? ⟨w.heap.size, 0, none⟩ = some (.slice aa M.1.length ca) := (hba.cell 0).trans rfl
    have l0 := hba.lt
    obtain ⟨g, hg⟩ : ∃ g, w3.heap.size = g := ⟨_, rfl⟩
    have HG := Box.mk hg
    have hs4 := (hbl.alloc_blk 4 ((inCells M.1.length []).setIfInBounds 0 (.bool true))).lit (base := w.heap.size) (e := 3) (cs := #[.int .i64 0]) (n := 1) (by have := HB2.out.size; have := hb3.size; simp; omega) rfl (by omega)
    have HS5 := Box.mk (show Sep [Pc.row w.heap.size 3 1 (.slice (some ⟨g + 1, 0, none⟩) 1 1) (reachK M 0).length ((reachK M 0).map natV), Pc.blk g 4 (inCells M.1.length (reachK M 0)), Pc.blk w.heap.size 25 #[.slice aa M.1.length ca, .slice fo M.2.length fc], Pc.old w.heap.size w] ((w3.alloc (.cells ((inCells M.1.length []).setIfInBounds 0 (.bool true)) 4)).alloc (.cells #[.int .i64 0] 3)) by
      have h := hs4
      have e : inCells M.1.length (reachK M 0) = (inCells M.1.length []).setIfInBounds 0 (.bool true) := (inCells_set M.1.length [] 0).symm
      rw [e]
      rw [hg, show (w3.alloc (.cells ((inCells M.1.length []).setIfInBounds 0 (.bool true)) 4)).heap.size = g + 1 by simp [hg]] at h
      exact h)
    have hB4 := (hbl.alloc_blk 4 (inCells M.1.length [])).lit (base := w.heap.size) (e := 3) (cs := #[.int .i64 0]) (n := 1) (by have := HB2.out.size; have := hb3.size; simp; omega) rfl (by omega) |>.blk 1 rfl
    rw [hg] at hB4
    have f4 := hB4.frozen 0
    have k4 : (((w3.alloc (.cells (inCells M.1.length []) 4)).alloc (.cells #[.int .i64 0] 3))).cell? ⟨g, 0, none⟩ = some (.bool false) := (hB4.cell 0).trans ((inCells_get [] (by omega)).trans (by simp))
    have l4 := hB4.lt
    have HGB := Box.mk (show w.heap.size ≤ g by have := HB2.out.size; have := hb3.size; omega)
    clear hb3 hbl hba hs4 hB4 c1
    have hmk := HMK.out w3
    rw [hg] at hmk
    go_upto_region 5 with (fail)
    clear hmk HMK
    go_wp2_with fail
    clear f4 k4 l4 c0 l0 hg
    go_loopw [7, 8] (fun tv i wr => ∃ k : Nat, k ≤ 300 ∧ k ≤ (reachK M k).length ∧ i = .int .i64 k ∧ Box (Sep [Pc.row w.heap.size 3 1 tv (reachK M k).length ((reachK M k).map natV), Pc.blk g 4 (inCells M.1.length (reachK M k)), Pc.blk w.heap.size 25 #[.slice aa M.1.length ca, .slice fo M.2.length fc], Pc.old w.heap.size w] wr)) (fun _ i _ => 300 - (intOf i).toNat)
    case atStart => exact ⟨0, by omega, by omega, rfl, HS5⟩
    case round =>
      obtain ⟨k, hk, hk2, rfl, hsep⟩ := hrel
      have hlen := HLEN.out k
      obtain ⟨tq, tc, rfl, ht1, ht2⟩ := own_shape (hsep.out.row 0 rfl)
      by_cases hlt : k < (reachK M k).length
      · obtain ⟨s, hs⟩ : ∃ s, (reachK M k)[k]? = some s := ⟨_, List.getElem?_eq_getElem hlt⟩
        have hsl := HLT.out k s (List.mem_of_getElem? hs)
        obtain ⟨r, hr1, hr2, hr3, -⟩ := HROW.out hsl
        obtain ⟨rN, hrN⟩ : ∃ rN, r.map Int.toNat = rN := ⟨_, rfl⟩
        have hrz : r = zs rN := by
          rw [← hrN]
          unfold zs
          rw [List.map_map]
          apply List.ext_getElem?
          intro j
          rw [List.getElem?_map]
          rcases Nat.lt_or_ge j (nn + 1) with hj | hj
          · obtain ⟨x, hx, x0, -⟩ := hr3 j (by omega)
            rw [hx]
            simp only [Option.map_some, Function.comp_apply, Option.some.injEq]
            omega
          · rw [List.getElem?_eq_none (by omega)]; rfl
        have hrNl : rN.length = nn + 1 := by rw [← hrN, List.length_map]; exact hr2
        have hnr : (natRows M)[s]? = some rN := by unfold natRows; rw [List.getElem?_map, hr1]; exact congrArg some hrN
        have HNEXT := Box.mk (show reachK M (k + 1) = D.addAll (reachK M k) rN by
          unfold reachK
          rw [D.reach_step (natRows M) (s := s) hs, show (natRows M).getD s [] = rN by rw [List.getD, hnr]; rfl])
        have HRL := Box.mk (HNX.out rN (List.mem_of_getElem? hnr))
        obtain ⟨T, hT⟩ : ∃ T, reachK M k = T := ⟨_, rfl⟩
        have HTN := Box.mk (show T.Nodup by rw [← hT]; exact D.reach_nodup _ k)
        have HTL := Box.mk (show ∀ x ∈ T, x < M.1.length by rw [← hT]; exact HLT.out k)
        rw [hT] at hs hlt hlen hsep HNEXT
        have HML := Box.mk (show ∀ q, (D.addAll T (rN.take q)).length ≤ 300 from fun q => Nat.le_trans (D.nodup_le _ _ (D.addAll_nodup _ HTN.out) (D.addAll_all (p := fun x => x < M.1.length) _ HTL.out (fun y hy => HRL.out y (List.mem_of_mem_take hy)))) h4)
        have HTK := Box.mk (show ∀ q, (D.addAll T (rN.take q))[k]? = some s from fun q => by
          obtain ⟨u, hu⟩ := D.addAll_pre (rN.take q) T
          rw [← hu, List.getElem?_append_left hlt]; exact hs)
        obtain ⟨pa, oa, ca', ha0, ha1, ha2, ha3, ha4⟩ := HRA.out.get (by intro e; rw [e] at hr1; simp at hr1)
        obtain ⟨rfl, rfl⟩ : aa = some ⟨pa, oa, none⟩ ∧ ca = ca' := by injection ha0 with h1 h2 h3; exact ⟨h1, h3⟩
        obtain ⟨xv, hxc, hxi⟩ := ha4 _ r hr1
        obtain ⟨rb, roff, rcap, r1, r2, r3, r4, r5⟩ := hxi.get (by rintro rfl; simp at hr2)
        rw [hr2] at r1 r2
        subst r1
        have HXR := Box.mk hxc
        have HPA := Box.mk (show pa < w.heap.size from ha3)
        have HRC := Box.mk (show ∀ (q x : Nat), rN[q]? = some x → w.cell? ⟨rb, roff + q, none⟩ = some (.int .i64 (x : Int)) from fun q x hq => r5 q x (by rw [hrz]; exact zs_get hq))
        have HRB := Box.mk (show rb < w.heap.size from r4)
        unfold maxLen at ha2 r3
        have hsc : s < ca := by omega
        have HSD0 := Box.mk (show Sep [Pc.row w.heap.size 3 1 (.slice tq T.length tc) (D.addAll T (rN.take 0)).length ((D.addAll T (rN.take 0)).map natV), Pc.blk g 4 (inCells M.1.length (D.addAll T (rN.take 0))), Pc.blk w.heap.size 25 #[.slice (some ⟨pa, oa, none⟩) M.1.length ca, .slice fo M.2.length fc], Pc.old w.heap.size w] wr from hsep.out)
        rw [hT]
        clear ha0 ha4 hxc hxi r5 hr1 hr3 hs hnr hrz hrN hT hr2 hsep
        go_wp2_with fail
        go_loopw [7, 9] (fun tv j wi => ∃ q : Nat, q ≤ nn + 1 ∧ j = .int .i64 q ∧ Box (Sep [Pc.row w.heap.size 3 1 tv (D.addAll T (rN.take q)).length ((D.addAll T (rN.take q)).map natV), Pc.blk g 4 (inCells M.1.length (D.addAll T (rN.take q))), Pc.blk w.heap.size 25 #[.slice (some ⟨pa, oa, none⟩) M.1.length ca, .slice fo M.2.length fc], Pc.old w.heap.size w] wi)) (fun _ j _ => nn + 1 - (intOf j).toNat)
        case atStart => exact ⟨0, by omega, rfl, HSD0⟩
        case round =>
          obtain ⟨q, hq, rfl, hsi⟩ := hrel
          have hml := HML.out q
          have HBI := Box.mk (show Below w.heap.size w wr from hsi.out.bel (by simp))
          obtain ⟨to2, tc2, rfl, hu1, hu2⟩ := own_shape (hsi.out.row 0 rfl)
          by_cases hqn : q < nn + 1
          · obtain ⟨x, hx⟩ : ∃ x, rN[q]? = some x := ⟨_, List.getElem?_eq_getElem (by omega)⟩
            have hxl := HRL.out x (List.mem_of_getElem? hx)
            have hxc := (HBI.out.cell (p := ⟨rb, roff + q, none⟩) HRB.out).trans (HRC.out q x hx)
            have hxr := (HBI.out.cell (p := ⟨pa, oa + s, none⟩) HPA.out).trans HXR.out
            have HSN := Box.mk (show D.addAll T (rN.take (q + 1)) = D.addOne (D.addAll T (rN.take q)) x by rw [take_snoc' _ _ _ hx, D.addAll_snoc])
            obtain ⟨t, ht⟩ : ∃ t, D.addAll T (rN.take q) = t := ⟨_, rfl⟩
            have htk := HTK.out q
            rw [ht] at hsi hml HSN hu1 htk
            rw [ht]
            have hkt : k < t.length := (List.getElem?_eq_some_iff.1 htk).1
            obtain ⟨lb, loff, lcap, k1, k2, k3, k4, k5⟩ := (row_ints (hsi.out.row 0 rfl) rfl).get (by intro e; have := congrArg List.length e; rw [zs_len, List.length_nil] at this; omega)
            rw [zs_len] at k1
            rw [zs_len] at k2
            obtain ⟨rfl, rfl⟩ : to2 = some ⟨lb, loff, none⟩ ∧ tc2 = lcap := by injection k1 with h1 h2 h3; exact ⟨h1, h3⟩
            have hks := k5 k _ (zs_get htk)
            have hba := hsi.out.blk 2 rfl
            have hbi := hsi.out.blk 1 rfl
            have c0 : wr.cell? ⟨w.heap.size, 0, none⟩ = some (.slice (some ⟨pa, oa, none⟩) M.1.length ca) := (hba.cell 0).trans rfl
            have l0 := hba.lt
            have lg := hbi.lt
            have fg := hbi.frozen x
            have hqc : q < rcap := by omega
            unfold maxLen at k3
            have hkc : k < tc2 := by omega
            by_cases hm : x ∈ t
            · have cg : wr.cell? ⟨g, x, none⟩ = some (.bool true) := (hbi.cell x).trans ((inCells_get t hxl).trans (by rw [decide_eq_true hm]))
              have HSE := Box.mk (addOne_in hm)
              have HSM := Box.mk (fun m => hsi.out.drewN m)
              clear hm k1 k5 hx ht hba hbi htk fg
              go_wp2_with fail
              go_quiet (fail)
              go_wp2_with fail
              go_roundw
              case rel => exact ⟨q + 1, hqn, by go_num, ⟨by rw [HSN.out, HSE.out]; exact HSM.out _⟩⟩
              case measure => simp [intOf]; omega
            · have cg : wr.cell? ⟨g, x, none⟩ = some (.bool false) := (hbi.cell x).trans ((inCells_get t hxl).trans (by rw [decide_eq_false hm]))
              have HSE := Box.mk (addOne_out hm)
              have HSM := Box.mk (fun m => (hsi.out.drewN m).set 1 rfl x (.bool true))
              have hbz := fun (m : Nat) (u : Value) => show w.heap.size ≤ ((wr.drewN m).setCell ⟨g, x, none⟩ u).heap.size from by have := HBI.out.size; simpa using this
              clear hm k1 k5 hx ht hba hbi htk
              go_wp2_with fail
              go_quiet (fail)
              go_wp2_with (at_builtin; refine wpList_push rfl _ _ 26 rfl pushInt (HSM.out _) 0 rfl rfl (Eq.trans (b := .slice (some ⟨wr.heap.size, 0, none⟩) 1 1) rfl (by simp)) rfl (by omega) (by omega) (hbz _ _) ?_; rintro v' w6 hS6 -)
              have HS6 := Box.mk (show Sep [Pc.row w.heap.size 3 1 v' (D.addAll T (rN.take (q + 1))).length ((D.addAll T (rN.take (q + 1))).map natV), Pc.blk g 4 (inCells M.1.length (D.addAll T (rN.take (q + 1)))), Pc.blk w.heap.size 25 #[.slice (some ⟨pa, oa, none⟩) M.1.length ca, .slice fo M.2.length fc], Pc.old w.heap.size w] w6 by
                rw [HSN.out, HSE.out, List.length_append, List.map_append, ← inCells_set]
                exact hS6)
              clear hS6
              go_wp2_with fail
              go_roundw
              case rel => exact ⟨q + 1, hqn, by go_num, HS6⟩
              case measure => simp [intOf]; omega
          · have hqe : q = nn + 1 := by omega
            have HSX := Box.mk (show Sep [Pc.row w.heap.size 3 1 (.slice to2 (D.addAll T (rN.take q)).length tc2) (reachK M (k + 1)).length ((reachK M (k + 1)).map natV), Pc.blk g 4 (inCells M.1.length (reachK M (k + 1))), Pc.blk w.heap.size 25 #[.slice (some ⟨pa, oa, none⟩) M.1.length ca, .slice fo M.2.length fc], Pc.old w.heap.size w] wr by
              have h := hsi.out
              have e : rN.take q = rN := by rw [hqe, ← hrNl, List.take_length]
              rw [HNEXT.out]
              rw [e] at h ⊢
              exact h)
            have hk3 : k + 1 ≤ (reachK M (k + 1)).length := by
              rw [HNEXT.out]
              have := (D.addAll_pre rN T).length_le
              omega
            have HK3 := Box.mk hk3
            clear hk3 hqe
            go_wp2_with fail
            go_roundw
            case rel => exact ⟨k + 1, by omega, HK3.out, by go_num, HSX⟩
            case measure => simp [intOf]; omega
      · have HKE := Box.mk (HEND.out (k := k) (by omega) hk)
        obtain ⟨T, hT⟩ : ∃ T, reachK M k = T := ⟨_, rfl⟩
        have HRE := Box.mk (show reachedL nn M = zs ((List.range M.1.length).filter fun x => decide (x ∈ T)) by
          rw [HL.out, HKE.out, hT]
          exact sort_filter T _ (by rw [← hT]; exact D.reach_nodup _ k) (by rw [← hT]; exact HLT.out k))
        have hsep' := hsep.out
        rw [hT] at hsep' hlt
        rw [hT]
        have HSF := Box.mk (show Sep [Pc.row w.heap.size 3 1 (.slice none 0 0) ((List.range 0).filter fun x => decide (x ∈ T)).length ((zs ((List.range 0).filter fun x => decide (x ∈ T))).map (Value.int .i64)), Pc.blk g 4 (inCells M.1.length T), Pc.blk w.heap.size 25 #[.slice aa M.1.length ca, .slice fo M.2.length fc], Pc.old w.heap.size w] wr from (hsep'.tail).nil_row _ _ _)
        clear hsep hsep'
        go_wp2_with fail
        go_loopw [11, 12] (fun ov i wi => ∃ p : Nat, p ≤ M.1.length ∧ i = .int .i64 p ∧ Box (Sep [Pc.row w.heap.size 3 1 ov ((List.range p).filter fun x => decide (x ∈ T)).length ((zs ((List.range p).filter fun x => decide (x ∈ T))).map (Value.int .i64)), Pc.blk g 4 (inCells M.1.length T), Pc.blk w.heap.size 25 #[.slice aa M.1.length ca, .slice fo M.2.length fc], Pc.old w.heap.size w] wi)) (fun _ i _ => M.1.length - (intOf i).toNat)
        case atStart => exact ⟨0, by omega, rfl, HSF⟩
        case round =>
          obtain ⟨p, hp, rfl, hsi⟩ := hrel
          have HBI := Box.mk (show Below w.heap.size w wr from hsi.out.bel (by simp))
          have hbs := HBI.out.size
          obtain ⟨F, hF⟩ : ∃ F, ((List.range p).filter fun x => decide (x ∈ T)) = F := ⟨_, rfl⟩
          have hFl : F.length ≤ 300 := by rw [← hF]; exact Nat.le_trans (Nat.le_trans (List.length_filter_le _ _) (by simp)) (Nat.le_trans hp h4)
          have HFN := Box.mk (show (List.range (p + 1)).filter (fun x => decide (x ∈ T)) = F ++ (if p ∈ T then [p] else []) by
            rw [List.range_succ, List.filter_append, hF]
            congr 1
            by_cases hm : p ∈ T <;> simp [hm])
          have HFF := Box.mk hF
          rw [hF] at hsi
          by_cases hpl : p < M.1.length
          · have hbi := hsi.out.blk 1 rfl
            have lg := hbi.lt
            by_cases hm : p ∈ T
            · have cg : wr.cell? ⟨g, p, none⟩ = some (.bool true) := (hbi.cell p).trans ((inCells_get T hpl).trans (by rw [decide_eq_true hm]))
              rw [if_pos hm] at HFN
              clear hm hbi hF
              go_wp2_with (at_builtin; refine wpList_push rfl _ _ 26 rfl pushInt hsi.out 0 rfl rfl rfl rfl (by omega) (by omega) hbs ?_; rintro v' w6 hS6 -)
              have HS6 := Box.mk (show Sep [Pc.row w.heap.size 3 1 v' ((List.range (p + 1)).filter fun x => decide (x ∈ T)).length ((zs ((List.range (p + 1)).filter fun x => decide (x ∈ T))).map (Value.int .i64)), Pc.blk g 4 (inCells M.1.length T), Pc.blk w.heap.size 25 #[.slice aa M.1.length ca, .slice fo M.2.length fc], Pc.old w.heap.size w] w6 by
                rw [HFN.out, List.length_append]
                rw [show (zs (F ++ [p])).map (Value.int .i64) = (zs F).map (Value.int .i64) ++ [Value.int .i64 (p : Int)] by unfold zs; simp]
                exact hS6)
              clear hS6
              go_wp2_with fail
              go_roundw
              case rel => exact ⟨p + 1, hpl, by go_num, HS6⟩
              case measure => simp [intOf]; omega
            · have cg : wr.cell? ⟨g, p, none⟩ = some (.bool false) := (hbi.cell p).trans ((inCells_get T hpl).trans (by rw [decide_eq_false hm]))
              rw [if_neg hm, List.append_nil] at HFN
              clear hm hbi hF
              go_wp2_with fail
              go_roundw
              case rel => exact ⟨p + 1, hpl, by go_num, ⟨by rw [HFN.out]; exact hsi.out⟩⟩
              case measure => simp [intOf]; omega
          · have hpe : p = M.1.length := by omega
            have HPE := Box.mk (show reachedL nn M = zs F by rw [HRE.out, ← hpe, hF])
            clear hpe hF
            go_wp2_with fail
            go_ret2
            refine ⟨HBI.out, _, by rw [HC.out]; rfl, ?_⟩
            rw [HPE.out]
            exact row_intsI (hsi.out.row 0 rfl) (by rw [zs_len])
end Go.Proofs.YtjemdepcaaadiaaGreatDoor

/- THE LAWS OF LAYER 12, WALKED: which machines are right, how they go, what fits, what is reached. -/
namespace Go.Proofs.YtjemdepcaaadiaaGreatDoor
open Go.RowKit Go.Shelf
attribute [local go_sem] Oper.semAt_some

def goL (n : Int) (M : D.Mach) (l : List Int) : List Nat := if machR n M = true then goM n.toNat M l else []
def fitsL (n : Int) (M : D.Mach) (l : List Int) : List Int := if machR n M = true then fitsM n.toNat M l else []
theorem goL_len (n : Int) (M : D.Mach) (l : List Int) : (zs (goL n M l)).length ≤ l.length + 1 := by
  rw [zs_len]; unfold goL; split
  · rw [goM_len]; exact Nat.le_refl _
  · simp
theorem fitsL_len (n : Int) (M : D.Mach) (l : List Int) : (fitsL n M l).length ≤ l.length + 1 := by
  unfold fitsL; split
  · unfold fitsM; rw [List.length_map, goM_len]; exact Nat.le_refl _
  · simp
theorem reachedL_len (n : Int) (M : D.Mach) : (reachedL n M).length ≤ 300 := by
  unfold reachedL; split
  · rename_i h; rw [sortI_len, zs_len]; exact Nat.le_trans (reachK_len h 300) (machR_parts h).2.2.2.1
  · simp
theorem go_ints {n : Int} {M : D.Mach} {l : List Int} {w w' : World} {e : Ending} (h : goPost n M l w e w') : Below w.heap.size w w' ∧ ∃ v, e = .returned (.tuple #[v, .int .i64 (goCode n M)]) ∧ IntsAt w' v (zs (goL n M l)) := by
  obtain ⟨hb, v, he, ho⟩ := h
  refine ⟨hb, v, he, row_ints ho ?_⟩
  unfold goL
  split
  · rw [goM_len]
  · rfl
theorem blk_noint {W : World} {g : Nat} {t : TypeId} {a b : Option Addr} {n m c d : Nat} (h : Blk W g t #[.slice a n c, .slice b m d]) : ∀ q, q = g → ∀ j x, W.cell? ⟨q, j, none⟩ ≠ some (.int .i64 x) := by
  rintro q rfl j x h'
  rw [h.cell j] at h'
  match j, h' with
  | 0, h' => cases h'
  | 1, h' => cases h'
  | j + 2, h' => simp at h'
theorem class_code {P : Program} {f : FuncId} {args : Array Value} {v v' : Value} {W : World} {Inv : World → Prop} (h : Calls P f args W fun e w' => e = .returned v ∧ Below W.heap.size W w') (hv : v = v') (hI : ∀ w', Below W.heap.size W w' → Inv w') :
    Calls P f args W fun e w'' => e = .returned v' ∧ ∃ m : CW Inv, w'' = m.w := hv ▸ class_call h hI

set_option maxRecDepth 100000 in
set_option maxHeartbeats 8000000 in
theorem law_DfaGoes (A : Nat → Addr) (B : Nat) (mv : Value) (M0 : D.Mach) (ov : Value) (O0 : D.Mach) (n : Int) (lv : Value) (l0 : List Int) (w : World) (hm : MachAt w mv M0) (ho : MachAt w ov O0) (hl : IntsAt w lv l0) (hS : Sd A B w) :
    Calls Tryz.prog 3 #[mv, ov, .int .i64 n, lv] w fun e w' => e = .returned (.bool true) ∧ Below w.heap.size w w' := by
  have HS := Box.mk hS
  have HM0 := Box.mk hm
  have HO0 := Box.mk ho
  have HL0 := Box.mk hl
  obtain ⟨nv0, fv0, rfl, hra0, hia0⟩ := hm
  obtain ⟨na0, nc0, rfl⟩ := hra0.slice
  obtain ⟨fa0, fc0, rfl⟩ := hia0.slice
  obtain ⟨nv1, fv1, rfl, hra1, hia1⟩ := ho
  obtain ⟨na1, nc1, rfl⟩ := hra1.slice
  obtain ⟨fa1, fc1, rfl⟩ := hia1.slice
  obtain ⟨la0, lc0, rfl⟩ := hl.slice
  obtain ⟨V0, hV0⟩ : ∃ V0, V0 = (w.alloc (.cells #[.slice na0 M0.1.length nc0, .slice fa0 M0.2.length fc0] 25)).alloc (.cells #[.slice na1 O0.1.length nc1, .slice fa1 O0.2.length fc1] 25) := ⟨_, rfl⟩
  have HW0 := Box.mk hV0
  have h00 : Below w.heap.size w V0 := by rw [hV0]; exact below_tr (alloc_below _ _) (alloc_below _ _)
  have HB0 := Box.mk h00
  have HKP0 := Box.mk (show Blk V0 w.heap.size 25 #[.slice na0 M0.1.length nc0, .slice fa0 M0.2.length fc0] by rw [hV0]; exact (Blk.new _ _ _).alloc _)
  have HKQ0 := Box.mk (show Blk V0 (w.heap.size + 1) 25 #[.slice na1 O0.1.length nc1, .slice fa1 O0.2.length fc1] by
    rw [hV0]
    have h := Blk.new (w.alloc (.cells #[.slice na0 M0.1.length nc0, .slice fa0 M0.2.length fc0] 25)) 25 #[.slice na1 O0.1.length nc1, .slice fa1 O0.2.length fc1]
    simpa using h)
  have HSH := Box.mk (shown12_any A B V0 (HS.out.below h00))
  clear hra0 hia0 hra1 hia1 hl hS hV0 h00
  go_enter Tryz.func3, Tryz.ntmps3
  go_upto_region 1 with (fail)
  rw [← HW0.out]
  go_wp2_with fail
  refine HSH.out.mono ?_; rintro e w1 ⟨rfl, hb1⟩
  have HB1 := Box.mk (below_tr HB0.out hb1)
  have HKP1 := Box.mk (HKP0.out.below hb1 HKP0.out.lt)
  have HKQ1 := Box.mk (HKQ0.out.below hb1 HKQ0.out.lt)
  have a0 : w1.cell? ⟨w.heap.size, 0, none⟩ = some (.slice na0 M0.1.length nc0) := (HKP1.out.cell 0).trans rfl
  have a1 : w1.cell? ⟨w.heap.size, 1, none⟩ = some (.slice fa0 M0.2.length fc0) := (HKP1.out.cell 1).trans rfl
  have a2 := HKP1.out.lt
  have HT1 := Box.mk (table_any _ M0 w1 (HM0.out.below HB1.out))
  clear hb1
  go_wp2_with fail
  refine HT1.out.mono ?_; rintro e w2 ⟨hb2, nv2, fv2, rfl, hnb2, hra2, hia2⟩
  obtain ⟨M, hM⟩ : ∃ M, tableM M0 = M := ⟨_, rfl⟩
  have HFM := Box.mk (show MachFit M by rw [← hM]; exact tableM_fit M0)
  rw [hM] at hra2 hia2
  have HRA2 := Box.mk hra2
  have HIA2 := Box.mk hia2
  obtain ⟨na, nc, rfl⟩ := hra2.slice
  obtain ⟨fa, fc, rfl⟩ := hia2.slice
  have HNB2 := Box.mk hnb2
  have HB2 := Box.mk (below_tr HB1.out hb2)
  have HKP2 := Box.mk (HKP1.out.below hb2 HKP1.out.lt)
  have HKQ2 := Box.mk (HKQ1.out.below hb2 HKQ1.out.lt)
  have b0 := (HKP2.out.cell 0).trans (show _ = some (Value.slice na0 M0.1.length nc0) from rfl)
  have b1 := (HKP2.out.cell 1).trans (show _ = some (Value.slice fa0 M0.2.length fc0) from rfl)
  have b2 := HKP2.out.frozen 0
  have b3 := HKP2.out.frozen 1
  have b4 := HKP2.out.lt
  obtain ⟨V2, hV2⟩ : ∃ V2, V2 = (w2.setCell ⟨w.heap.size, 0, none⟩ (.slice na M.1.length nc)).setCell ⟨w.heap.size, 1, none⟩ (.slice fa M.2.length fc) := ⟨_, rfl⟩
  have HKPV := Box.mk (show Blk V2 w.heap.size 25 #[.slice na M.1.length nc, .slice fa M.2.length fc] by rw [hV2]; exact (HKP2.out.set_ 0 _).set_ 1 _)
  have HKQV := Box.mk (show Blk V2 (w.heap.size + 1) 25 #[.slice na1 O0.1.length nc1, .slice fa1 O0.2.length fc1] by rw [hV2]; exact (HKQ2.out.far (p := ⟨w.heap.size, 0, none⟩) (by simp) _).far (p := ⟨w.heap.size, 1, none⟩) (by simp) _)
  have HB3 := Box.mk (show Below w.heap.size w V2 by rw [hV2]; exact (HB2.out.setCell (Nat.le_refl _) _).setCell (Nat.le_refl _) _)
  have hT := (Turns.setCell (own := fun q => q = w.heap.size) w2 (p := ⟨w.heap.size, 0, none⟩) rfl (.slice na M.1.length nc)).trans (Turns.setCell (own := fun q => q = w.heap.size) _ (p := ⟨w.heap.size, 1, none⟩) rfl (.slice fa M.2.length fc))
  rw [← hV2] at hT
  have HRAV := Box.mk (rows_turn HRA2.out hT (blk_noint HKP2.out) (fun g hg e => by have := hnb2 g hg; have := HKP1.out.lt; omega))
  have HIAV := Box.mk (ints_turn HIA2.out hT (blk_noint HKP2.out))
  have HT2 := Box.mk (table_any _ O0 V2 (HO0.out.below HB3.out))
  have HQ1 := Box.mk (show w.heap.size + 1 < w1.heap.size from HKQ1.out.lt)
  have a0 : V2.cell? ⟨w.heap.size + 1, 0, none⟩ = some (.slice na1 O0.1.length nc1) := (HKQV.out.cell 0).trans rfl
  have a1 : V2.cell? ⟨w.heap.size + 1, 1, none⟩ = some (.slice fa1 O0.2.length fc1) := (HKQV.out.cell 1).trans rfl
  have a2 := HKQV.out.lt
  clear hb2 hra2 hia2 hnb2 hT HM0
  go_upto_region 3 with (fail)
  rw [← hV2]
  clear hV2 b0 b1 b2 b3 b4
  go_wp2_with fail
  refine HT2.out.mono ?_; rintro e w3 ⟨hb3, nv3, fv3, rfl, hnb3, hra3, hia3⟩
  obtain ⟨O, hO⟩ : ∃ O, tableM O0 = O := ⟨_, rfl⟩
  have HFO := Box.mk (show MachFit O by rw [← hO]; exact tableM_fit O0)
  rw [hO] at hra3 hia3
  have HRA3 := Box.mk hra3
  have HIA3 := Box.mk hia3
  obtain ⟨nb, nd, rfl⟩ := hra3.slice
  obtain ⟨fb, fd, rfl⟩ := hia3.slice
  have HB4 := Box.mk (below_tr HB3.out hb3)
  have HKP3 := Box.mk (HKPV.out.below hb3 HKPV.out.lt)
  have HKQ3 := Box.mk (HKQV.out.below hb3 HKQV.out.lt)
  have b0 := (HKQ3.out.cell 0).trans (show _ = some (Value.slice na1 O0.1.length nc1) from rfl)
  have b1 := (HKQ3.out.cell 1).trans (show _ = some (Value.slice fa1 O0.2.length fc1) from rfl)
  have b2 := HKQ3.out.frozen 0
  have b3 := HKQ3.out.frozen 1
  have b4 := HKQ3.out.lt
  obtain ⟨V, hV⟩ : ∃ V, V = (w3.setCell ⟨w.heap.size + 1, 0, none⟩ (.slice nb O.1.length nd)).setCell ⟨w.heap.size + 1, 1, none⟩ (.slice fb O.2.length fd) := ⟨_, rfl⟩
  have HKQ := Box.mk (show Blk V (w.heap.size + 1) 25 #[.slice nb O.1.length nd, .slice fb O.2.length fd] by rw [hV]; exact (HKQ3.out.set_ 0 _).set_ 1 _)
  have HKP := Box.mk (show Blk V w.heap.size 25 #[.slice na M.1.length nc, .slice fa M.2.length fc] by rw [hV]; exact (HKP3.out.far (p := ⟨w.heap.size + 1, 0, none⟩) (by simp) _).far (p := ⟨w.heap.size + 1, 1, none⟩) (by simp) _)
  have HBV := Box.mk (show Below w.heap.size w V by rw [hV]; exact (HB4.out.setCell (by simp) _).setCell (by simp) _)
  have hT := (Turns.setCell (own := fun q => q = w.heap.size + 1) w3 (p := ⟨w.heap.size + 1, 0, none⟩) rfl (.slice nb O.1.length nd)).trans (Turns.setCell (own := fun q => q = w.heap.size + 1) _ (p := ⟨w.heap.size + 1, 1, none⟩) rfl (.slice fb O.2.length fd))
  rw [← hV] at hT
  have HMV := Box.mk (show MachAt V (.agg #[.slice na M.1.length nc, .slice fa M.2.length fc]) M from ⟨_, _, rfl, rows_turn (HRAV.out.below hb3) hT (blk_noint HKQ3.out) (fun g hg e => by have := HNB2.out g hg; have := HQ1.out; omega), ints_turn (HIAV.out.below hb3) hT (blk_noint HKQ3.out)⟩)
  have HOV := Box.mk (show MachAt V (.agg #[.slice nb O.1.length nd, .slice fb O.2.length fd]) O from ⟨_, _, rfl, rows_turn HRA3.out hT (blk_noint HKQ3.out) (fun g hg e => by have := hnb3 g hg; have := HKQV.out.lt; omega), ints_turn HIA3.out hT (blk_noint HKQ3.out)⟩)
  have HLI := Box.mk (list12_any _ l0 V (HL0.out.below HBV.out))
  clear hb3 hra3 hia3 hnb3 hT HO0 a0 a1 a2
  go_upto_region 4 with (fail)
  rw [← hV]
  clear hV b0 b1 b2 b3 b4
  go_wp2_with fail
  refine HLI.out.mono ?_; rintro e wl ⟨⟨lv', rfl, hl'⟩, rfl⟩
  obtain ⟨L, hL⟩ : ∃ L, list12 l0 = L := ⟨_, rfl⟩
  have hL30 : L.length ≤ 30 := by rw [← hL]; unfold list12; rw [List.length_take]; omega
  have HL30 := Box.mk hL30
  rw [hL] at hl'
  have HLV := Box.mk hl'
  have HSV := Box.mk (fun W (h : Below V.heap.size V W) => HS.out.below (below_tr HBV.out h))
  obtain ⟨co, hco⟩ : ∃ co, goCode n M = co := ⟨_, rfl⟩
  have HGO := Box.mk (fun W (h : Below V.heap.size V W) => (mgo_any A B _ _ M n L W (HMV.out.below h) HFM.out (HLV.out.below h) (by omega) (HSV.out W h).d (HSV.out W h).le).mono fun _ _ h => go_ints h)
  have HRGO := Box.mk (fun W (h : Below V.heap.size V W) => (rgo12_any _ _ M n L W (HMV.out.below h) HFM.out (HLV.out.below h) (by omega)).mono fun _ _ h => go_ints h)
  have HFI := Box.mk (fun W (h : Below V.heap.size V W) => mfits_any A B _ _ M n L W (HMV.out.below h) HFM.out (HLV.out.below h) (by omega) (HSV.out W h).d (HSV.out W h).le)
  have HRFI := Box.mk (fun W (h : Below V.heap.size V W) => rfits12_any _ _ M n L W (HMV.out.below h) HFM.out (HLV.out.below h) (by omega))
  have HRE := Box.mk (fun W (h : Below V.heap.size V W) => mreached_any A B _ M n W (HMV.out.below h) HFM.out (HSV.out W h).d (HSV.out W h).le)
  have HRRE := Box.mk (fun W (h : Below V.heap.size V W) => rreached12_any _ M n W (HMV.out.below h) HFM.out)
  unfold fits12Post at HFI HRFI
  unfold reachedPost at HRE HRRE
  rw [hco] at HGO HRGO HFI HRFI HRE HRRE
  have HCE := Box.mk hco
  have HBc := Box.mk (Below.refl V.heap.size V)
  have c0 : V.cell? ⟨w.heap.size, 0, none⟩ = some (.slice na M.1.length nc) := (HKP.out.cell 0).trans rfl
  have c1 : V.cell? ⟨w.heap.size, 1, none⟩ = some (.slice fa M.2.length fc) := (HKP.out.cell 1).trans rfl
  have c2 := HKP.out.lt
  clear hl' hL hco hL30
  go_wp2_with fail
  refine (HGO.out _ HBc.out).mono ?_; rintro e x0 ⟨hb, v0, rfl, hi⟩
  have HI0 := Box.mk hi
  have HX0 := Box.mk (show Below V.heap.size V x0 from HBc.out.trans (hb.mono HBc.out.size))
  clear c0 c1 c2
  have c0 : x0.cell? ⟨w.heap.size, 0, none⟩ = some (.slice na M.1.length nc) := ((HKP.out.below HX0.out HKP.out.lt).cell 0).trans rfl
  have c1 : x0.cell? ⟨w.heap.size, 1, none⟩ = some (.slice fa M.2.length fc) := ((HKP.out.below HX0.out HKP.out.lt).cell 1).trans rfl
  have c2 := (HKP.out.below HX0.out HKP.out.lt).lt
  have HY0 := Box.mk hb
  clear hb hi
  go_wp2_with fail
  refine (HRGO.out _ HX0.out).mono ?_; rintro e x1 ⟨hb, v1, rfl, hi⟩
  have HI1 := Box.mk hi
  have HX1 := Box.mk (show Below V.heap.size V x1 from HX0.out.trans (hb.mono HX0.out.size))
  clear c0 c1 c2
  have c0 : x1.cell? ⟨w.heap.size, 0, none⟩ = some (.slice na M.1.length nc) := ((HKP.out.below HX1.out HKP.out.lt).cell 0).trans rfl
  have c1 : x1.cell? ⟨w.heap.size, 1, none⟩ = some (.slice fa M.2.length fc) := ((HKP.out.below HX1.out HKP.out.lt).cell 1).trans rfl
  have c2 := (HKP.out.below HX1.out HKP.out.lt).lt
  have HY1 := Box.mk hb
  clear hb hi
  go_wp2_with fail
  refine (HFI.out _ HX1.out).mono ?_; rintro e x2 ⟨hb, v2, rfl, hi⟩
  have HI2 := Box.mk hi
  have HX2 := Box.mk (show Below V.heap.size V x2 from HX1.out.trans (hb.mono HX1.out.size))
  clear c0 c1 c2
  have c0 : x2.cell? ⟨w.heap.size, 0, none⟩ = some (.slice na M.1.length nc) := ((HKP.out.below HX2.out HKP.out.lt).cell 0).trans rfl
  have c1 : x2.cell? ⟨w.heap.size, 1, none⟩ = some (.slice fa M.2.length fc) := ((HKP.out.below HX2.out HKP.out.lt).cell 1).trans rfl
  have c2 := (HKP.out.below HX2.out HKP.out.lt).lt
  have HY2 := Box.mk hb
  clear hb hi
  go_wp2_with fail
  refine (HRFI.out _ HX2.out).mono ?_; rintro e x3 ⟨hb, v3, rfl, hi⟩
  have HI3 := Box.mk hi
  have HX3 := Box.mk (show Below V.heap.size V x3 from HX2.out.trans (hb.mono HX2.out.size))
  clear c0 c1 c2
  have c0 : x3.cell? ⟨w.heap.size, 0, none⟩ = some (.slice na M.1.length nc) := ((HKP.out.below HX3.out HKP.out.lt).cell 0).trans rfl
  have c1 : x3.cell? ⟨w.heap.size, 1, none⟩ = some (.slice fa M.2.length fc) := ((HKP.out.below HX3.out HKP.out.lt).cell 1).trans rfl
  have c2 := (HKP.out.below HX3.out HKP.out.lt).lt
  have HY3 := Box.mk hb
  clear hb hi
  go_wp2_with fail
  refine (HRE.out _ HX3.out).mono ?_; rintro e x4 ⟨hb, v4, rfl, hi⟩
  have HI4 := Box.mk hi
  have HX4 := Box.mk (show Below V.heap.size V x4 from HX3.out.trans (hb.mono HX3.out.size))
  clear c0 c1 c2
  have c0 : x4.cell? ⟨w.heap.size, 0, none⟩ = some (.slice na M.1.length nc) := ((HKP.out.below HX4.out HKP.out.lt).cell 0).trans rfl
  have c1 : x4.cell? ⟨w.heap.size, 1, none⟩ = some (.slice fa M.2.length fc) := ((HKP.out.below HX4.out HKP.out.lt).cell 1).trans rfl
  have c2 := (HKP.out.below HX4.out HKP.out.lt).lt
  have HY4 := Box.mk hb
  clear hb hi
  go_wp2_with fail
  refine (HRRE.out _ HX4.out).mono ?_; rintro e x5 ⟨hb, v5, rfl, hi⟩
  have HI5 := Box.mk hi
  have HX5 := Box.mk (show Below V.heap.size V x5 from HX4.out.trans (hb.mono HX4.out.size))
  clear c0 c1 c2
  have c0 : x5.cell? ⟨w.heap.size, 0, none⟩ = some (.slice na M.1.length nc) := ((HKP.out.below HX5.out HKP.out.lt).cell 0).trans rfl
  have c1 : x5.cell? ⟨w.heap.size, 1, none⟩ = some (.slice fa M.2.length fc) := ((HKP.out.below HX5.out HKP.out.lt).cell 1).trans rfl
  have c2 := (HKP.out.below HX5.out HKP.out.lt).lt
  have HY5 := Box.mk hb
  clear hb hi
  clear c0 c1 c2
  have HJ0 := Box.mk (show IntsAt x5 v0 (zs (goL n M L)) from (((((HI0.out).below HY1.out).below HY2.out).below HY3.out).below HY4.out).below HY5.out)
  have HJ1 := Box.mk (show IntsAt x5 v1 (zs (goL n M L)) from ((((HI1.out).below HY2.out).below HY3.out).below HY4.out).below HY5.out)
  have HJ2 := Box.mk (show IntsAt x5 v2 (fitsL n M L) from (((HI2.out).below HY3.out).below HY4.out).below HY5.out)
  have HJ3 := Box.mk (show IntsAt x5 v3 (fitsL n M L) from ((HI3.out).below HY4.out).below HY5.out)
  have HJ4 := Box.mk (show IntsAt x5 v4 (reachedL n M) from (HI4.out).below HY5.out)
  have HJ5 := Box.mk (show IntsAt x5 v5 (reachedL n M) from HI5.out)
  have HMX := Box.mk (HMV.out.below HX5.out)
  have HOX := Box.mk (HOV.out.below HX5.out)
  have HKPX := Box.mk (HKP.out.below HX5.out HKP.out.lt)
  have HKQX := Box.mk (HKQ.out.below HX5.out HKQ.out.lt)
  have HBW := Box.mk (below_tr HBV.out HX5.out)
  obtain ⟨Inv, hI1, hI2⟩ : ∃ Inv : World → Prop, (∀ W, Inv W → Below x5.heap.size x5 W) ∧ (∀ W, Below x5.heap.size x5 W → Inv W) := ⟨_, fun _ h => h, fun _ h => h⟩
  have HIN := Box.mk (show ∀ q : CW Inv, Below x5.heap.size x5 q.w from fun q => hI1 _ q.h)
  have HUP := Box.mk (show ∀ (q : CW Inv) w', Below q.w.heap.size q.w w' → Inv w' from fun q w' h => hI2 _ (below_tr (HIN.out q) h))
  have q0 : ∀ q : CW Inv, q.w.cell? ⟨w.heap.size, 0, none⟩ = some (.slice na M.1.length nc) := fun q => ((HKPX.out.below (HIN.out q) HKPX.out.lt).cell 0).trans rfl
  have q1 : ∀ q : CW Inv, q.w.cell? ⟨w.heap.size, 1, none⟩ = some (.slice fa M.2.length fc) := fun q => ((HKPX.out.below (HIN.out q) HKPX.out.lt).cell 1).trans rfl
  have q2 : ∀ q : CW Inv, q.w.cell? ⟨w.heap.size + 1, 0, none⟩ = some (.slice nb O.1.length nd) := fun q => ((HKQX.out.below (HIN.out q) HKQX.out.lt).cell 0).trans rfl
  have q3 : ∀ q : CW Inv, q.w.cell? ⟨w.heap.size + 1, 1, none⟩ = some (.slice fb O.2.length fd) := fun q => ((HKQX.out.below (HIN.out q) HKQX.out.lt).cell 1).trans rfl
  obtain ⟨bR, hbR⟩ : ∃ b, machR n M = b := ⟨_, rfl⟩
  obtain ⟨bS, hbS⟩ : ∃ b, decide (M = O) = b := ⟨_, rfl⟩
  have K1 := Box.mk (fun q : CW Inv => class_code (mright_any _ M n q.w (HMX.out.below (HIN.out q)) HFM.out) (congrArg Value.bool hbR) (HUP.out q))
  have K2 := Box.mk (fun q : CW Inv => class_code (rright12_any _ M n q.w (HMX.out.below (HIN.out q)) HFM.out) (congrArg Value.bool hbR) (HUP.out q))
  have K3 := Box.mk (show ∀ (q : CW Inv) (x y : Value), (x = v0 ∧ y = v1) ∨ (x = v4 ∧ y = v5) → Calls Tryz.prog 16 #[x, y] q.w fun e w'' => e = .returned (.bool true) ∧ ∃ m : CW Inv, w'' = m.w by
    rintro q x y (⟨rfl, rfl⟩ | ⟨rfl, rfl⟩)
    · exact class_call (yes_of (ints_eq _ _ _ _ q.w (HJ0.out.below (HIN.out q)) (HJ1.out.below (HIN.out q)) (by have := goL_len n M L; have := HL30.out; omega) (by have := goL_len n M L; have := HL30.out; omega)) rfl) (HUP.out q)
    · exact class_call (yes_of (ints_eq _ _ _ _ q.w (HJ4.out.below (HIN.out q)) (HJ5.out.below (HIN.out q)) (by have := reachedL_len n M; omega) (by have := reachedL_len n M; omega)) rfl) (HUP.out q))
  have K4 := Box.mk (fun q : CW Inv => class_call (yes_of (lsets12_eq _ _ _ _ q.w (HJ2.out.below (HIN.out q)) (HJ3.out.below (HIN.out q)) (by have := fitsL_len n M L; have := HL30.out; omega) (by have := fitsL_len n M L; have := HL30.out; omega)) rfl) (HUP.out q))
  have K5 := Box.mk (show ∀ (q : CW Inv) (y : Value) (b : Bool), (y = .agg #[.slice nb O.1.length nd, .slice fb O.2.length fd] ∧ b = bS) ∨ (y = .agg #[.slice na M.1.length nc, .slice fa M.2.length fc] ∧ b = true) → Calls Tryz.prog 18 #[.agg #[.slice na M.1.length nc, .slice fa M.2.length fc], y] q.w fun e w'' => e = .returned (.bool b) ∧ ∃ m : CW Inv, w'' = m.w by
    rintro q y b (⟨rfl, rfl⟩ | ⟨rfl, rfl⟩)
    · exact class_code (msame_any _ _ M O q.w (HMX.out.below (HIN.out q)) (HOX.out.below (HIN.out q)) HFM.out HFO.out) (congrArg Value.bool hbS) (HUP.out q)
    · exact class_call (yes_of (msame_any _ _ M M q.w (HMX.out.below (HIN.out q)) (HMX.out.below (HIN.out q)) HFM.out HFM.out) rfl) (HUP.out q))
  have K6 := Box.mk (fun q : CW Inv => class_code (same12_any _ _ M O q.w (HMX.out.below (HIN.out q)) (HOX.out.below (HIN.out q)) HFM.out HFO.out) (congrArg Value.bool hbS) (HUP.out q))
  have hdr : Inv x5.drew := hI2 _ ⟨rfl, rfl, rfl, Nat.le_refl _, fun _ _ => rfl⟩
  have HDR := Box.mk hdr
  clear hI1 hI2 hbR hbS hdr
  go_wp2_with fail
  refine wp_region_class Inv (by kernel_rfl) (by kernel_rfl) HDR.out (fun hne => ?_)
  repeat (any_goals (first | go_big_quiet_step ((first | (go_at_call 14; exact K1.out _) | (go_at_call 15; exact K2.out _) | (go_at_call 16; exact K3.out _ _ _ (by first | exact .inl ⟨rfl, rfl⟩ | exact .inr ⟨rfl, rfl⟩)) | (go_at_call 17; exact K4.out _) | (go_at_call 18; exact K5.out _ _ _ (by first | exact .inl ⟨rfl, rfl⟩ | exact .inr ⟨rfl, rfl⟩)) | (go_at_call 19; exact K6.out _))) | quiet_step ((first | (go_at_call 14; exact K1.out _) | (go_at_call 15; exact K2.out _) | (go_at_call 16; exact K3.out _ _ _ (by first | exact .inl ⟨rfl, rfl⟩ | exact .inr ⟨rfl, rfl⟩)) | (go_at_call 17; exact K4.out _) | (go_at_call 18; exact K5.out _ _ _ (by first | exact .inl ⟨rfl, rfl⟩ | exact .inr ⟨rfl, rfl⟩)) | (go_at_call 19; exact K6.out _)))))
  refine wpQuiet_nil ?_
  rintro w7 ⟨q7, rfl⟩
  have HB7 := Box.mk (below_tr HBW.out (HIN.out q7))
  clear q0 q1 q2 q3 hne
  go_wp2_with fail
  go_ret
  exact ⟨rfl, HB7.out⟩
end Go.Proofs.YtjemdepcaaadiaaGreatDoor
