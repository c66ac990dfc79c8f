/-
  Texts of this claim, one behind the other: Sort, Sort2, Pt1, Pt2, Pt3, Pt4, Pt5, Pt6, Pt7, Pt8, PtB, Dh1, SgQ, SgA.
-/
import Derived.Shelf.Sort.Plain
import Derived.Ground.Names2Prog
import Derived.Shelf.Slices.CompactI
import Derived.Shelf.Slices.In.SortNone
import Derived.Shelf.Slices.Empties2
import Derived.Test.YtbpcipobdokcfaaGreatDoorH1
import Derived.Test.YtbpcipobdokcfaaGreatDoorH2
import Derived.Sort.OwnSortedInts
import Derived.Lib.SlicesCompact
import Derived.Lib.RowBridge
import Derived.Test.YtbpcipobdokcfaaGreatDoorH3
import Derived.Maps.OwnIn
import Derived.StillTailTactics
import Derived.Test.YtbpcipobdokcfaaGreatDoorH7

/- CONTRACTS OF THE LIBRARY, laid at this program (what the kit's tool writes). -/
namespace Go.Proofs.YtbpcipobdokcfaaGreatDoor
open Go.Shelf Go.Proofs
def shelf_lays189_ren : Go.Shelf.Ren := ⟨fun | 189 => 126 | 125 => 132 | 257 => 131 | 128 => 144 | 129 => 145 | 294 => 135 | 295 => 136 | 296 => 137 | 297 => 138 | 298 => 139 | 299 => 140 | 216 => 141 | 300 => 142 | 301 => 143 | 328 => 146 | 329 => 147 | 330 => 148 | 331 => 149 | 332 => 150 | 215 => 151 | 343 => 152 | n => n, fun | 28 => 27 | 3 => 3 | 46 => 187 | 0 => 0 | 51 => 197 | 53 => 199 | 4 => 4 | 183 => 192 | 182 => 191 | 131 => 112 | 5 => 5 | 9 => 9 | 218 => 200 | 222 => 204 | 228 => 206 | 229 => 207 | n => n, fun | n => n⟩
theorem shelf_lays189 : Go.Proofs.Lays.n189 Tryz.prog shelf_lays189_ren := {
  mixed := by kernel_rfl
  f125 := Tryz.func132.trans (congrArg some (by kernel_rfl))
  f128 := Tryz.func144.trans (congrArg some (by kernel_rfl))
  f129 := Tryz.func145.trans (congrArg some (by kernel_rfl))
  f189 := Tryz.func126.trans (congrArg some (by kernel_rfl))
  f215 := Tryz.func151.trans (congrArg some (by kernel_rfl))
  f216 := Tryz.func141.trans (congrArg some (by kernel_rfl))
  f257 := Tryz.func131.trans (congrArg some (by kernel_rfl))
  f294 := Tryz.func135.trans (congrArg some (by kernel_rfl))
  f295 := Tryz.func136.trans (congrArg some (by kernel_rfl))
  f296 := Tryz.func137.trans (congrArg some (by kernel_rfl))
  f297 := Tryz.func138.trans (congrArg some (by kernel_rfl))
  f298 := Tryz.func139.trans (congrArg some (by kernel_rfl))
  f299 := Tryz.func140.trans (congrArg some (by kernel_rfl))
  f300 := Tryz.func142.trans (congrArg some (by kernel_rfl))
  f301 := Tryz.func143.trans (congrArg some (by kernel_rfl))
  f328 := Tryz.func146.trans (congrArg some (by kernel_rfl))
  f329 := Tryz.func147.trans (congrArg some (by kernel_rfl))
  f330 := Tryz.func148.trans (congrArg some (by kernel_rfl))
  f331 := Tryz.func149.trans (congrArg some (by kernel_rfl))
  f332 := Tryz.func150.trans (congrArg some (by kernel_rfl))
  f343 := Tryz.func152.trans (congrArg some (by kernel_rfl))
  t0 := Tryz.underlying0
  a0 := Tryz.isAgg0
  z0 := Tryz.sizeOf0
  v0 := Tryz.zeroValue0
  t3 := Tryz.underlying3
  a3 := Tryz.isAgg3
  z3 := Tryz.sizeOf3
  v3 := Tryz.zeroValue3
  t4 := Tryz.underlying4
  a4 := Tryz.isAgg4
  z4 := Tryz.sizeOf4
  v4 := Tryz.zeroValue4
  t5 := Tryz.underlying5
  a5 := Tryz.isAgg5
  z5 := Tryz.sizeOf5
  v5 := Tryz.zeroValue5
  t9 := Tryz.underlying9
  a9 := Tryz.isAgg9
  z9 := Tryz.sizeOf9
  v9 := Tryz.zeroValue9
  t28 := Tryz.underlying27
  a28 := Tryz.isAgg27
  z28 := Tryz.sizeOf27
  v28 := Tryz.zeroValue27
  t46 := Tryz.underlying187
  a46 := Tryz.isAgg187
  z46 := Tryz.sizeOf187
  v46 := Tryz.zeroValue187
  t51 := Tryz.underlying197
  a51 := Tryz.isAgg197
  z51 := Tryz.sizeOf197
  v51 := Tryz.zeroValue197
  t53 := Tryz.underlying199
  a53 := Tryz.isAgg199
  z53 := Tryz.sizeOf199
  v53 := Tryz.zeroValue199
  t131 := Tryz.underlying112
  a131 := Tryz.isAgg112
  z131 := Tryz.sizeOf112
  v131 := Tryz.zeroValue112
  t182 := Tryz.underlying191
  a182 := Tryz.isAgg191
  z182 := Tryz.sizeOf191
  v182 := Tryz.zeroValue191
  t183 := Tryz.underlying192
  a183 := Tryz.isAgg192
  z183 := Tryz.sizeOf192
  v183 := Tryz.zeroValue192
  t218 := Tryz.underlying200
  a218 := Tryz.isAgg200
  z218 := Tryz.sizeOf200
  v218 := Tryz.zeroValue200
  t222 := Tryz.underlying204
  a222 := Tryz.isAgg204
  z222 := Tryz.sizeOf204
  v222 := Tryz.zeroValue204
  t228 := Tryz.underlying206
  a228 := Tryz.isAgg206
  z228 := Tryz.sizeOf206
  v228 := Tryz.zeroValue206
  t229 := Tryz.underlying207
  a229 := Tryz.isAgg207
  z229 := Tryz.sizeOf207
  v229 := Tryz.zeroValue207 }
open Go.Sort Go.RowKit in
theorem shelf_slices_Sort_int (blk off cap : Nat) (zs : List Int) (w : World) (hH : Go.Sort.Holds (Value.int .i64) w blk off zs.toArray) (hblk : blk < w.heap.size) (hsz : zs.length < 4611686018427387904) :
    Calls Tryz.prog 126 #[.slice (some ⟨blk, off, none⟩) zs.length cap] w fun e w' =>
      e = .returned (.tuple #[]) ∧ ∃ n os, w' = grow (putRow (Value.int .i64) (Sort.ahead w n) blk off (zs.mergeSort fun x y => decide (x ≤ y)).toArray) os := Any.slices_Sort_int shelf_lays189 blk off cap zs w hH hblk hsz
def shelf_laysNm220_ren : Go.Shelf.Ren := ⟨fun | 20 => 127 | n => n, fun | 22 => 27 | 3 => 3 | 4 => 4 | 0 => 0 | n => n, fun | n => n⟩
theorem shelf_laysNm220 : Go.Proofs.Lays2.n20 Tryz.prog shelf_laysNm220_ren := {
  mixed := by kernel_rfl
  f20 := Tryz.func127.trans (congrArg some (by kernel_rfl))
  t0 := Tryz.underlying0
  a0 := Tryz.isAgg0
  z0 := Tryz.sizeOf0
  v0 := Tryz.zeroValue0
  t3 := Tryz.underlying3
  a3 := Tryz.isAgg3
  z3 := Tryz.sizeOf3
  v3 := Tryz.zeroValue3
  t4 := Tryz.underlying4
  a4 := Tryz.isAgg4
  z4 := Tryz.sizeOf4
  v4 := Tryz.zeroValue4
  t22 := Tryz.underlying27
  a22 := Tryz.isAgg27
  z22 := Tryz.sizeOf27
  v22 := Tryz.zeroValue27
  i3 := by kernel_rfl }
open Go.RowKit Go.Lib Go.Sort in
theorem shelf_slices_Compact_int (blk off cap : Nat) (zs : List Int) (w : World) (hH : Go.Sort.Holds (Value.int .i64) w blk off zs.toArray) (hsz : zs.length ≤ 9223372036854775807) (hcap : zs.length ≤ cap) :
    Calls Tryz.prog 127 #[.slice (some ⟨blk, off, none⟩) zs.length cap] w fun e w' => e = .returned (.slice (some ⟨blk, off, none⟩) (Lib.compact zs).length cap) ∧ ∃ q, w' = putRow (Value.int .i64) (Sort.ahead w q) blk off (Lib.compact zs ++ List.replicate (zs.length - (Lib.compact zs).length) 0).toArray := Any.slices_Compact_int shelf_laysNm220 blk off cap zs w hH hsz hcap
open Go.RowKit Go.Lib Go.Sort in
theorem shelf_slices_Compact_int_empty (a : Option Addr) (cap : Nat) (w : World) :
    Calls Tryz.prog 127 #[.slice a 0 cap] w fun e w' => e = .returned (.slice a 0 cap) ∧ w' = w := Any.slices_Compact_int_empty shelf_laysNm220 a cap w
open Go.RowKit Go.Sort in
theorem shelf_slices_Sort_int_none (p : Option Addr) (cap : Nat) (w : World) :
    Calls Tryz.prog 126 #[.slice p 0 cap] w fun e w' => e = .returned (.tuple #[]) ∧ w' = w := Any.slices_Sort_int_none shelf_lays189 p cap w
end Go.Proofs.YtbpcipobdokcfaaGreatDoor

/- A ROW OF ONE'S OWN, sorted in place; runs of the same struck out; a number sought in a list. -/
namespace Go.Proofs.YtbpcipobdokcfaaGreatDoor
open Go.RowKit Go.Sort

def sortI (zs : List Int) : List Int := zs.mergeSort fun x y => decide (x ≤ y)
theorem sortI_len (zs : List Int) : (sortI zs).length = zs.length := List.length_mergeSort _
theorem sort_sep {ps : List Pc} {W : World} (h : Sep ps W) (i : Nat) {base n : Nat} {e : TypeId} {v : Value} {zs : List Int} (hi : ps[i]? = some (Pc.row base e 1 v n (zs.map (Value.int .i64)))) (hn : n = zs.length) (hz : n ≤ 1000000) :
    Calls Tryz.prog 126 #[v] W fun e' W' => e' = .returned (.tuple #[]) ∧ Sep (ps.set i (Pc.row base e 1 v n ((sortI zs).map (Value.int .i64)))) W' := by
  subst hn
  have hrow := h.row i hi
  rcases hrow.2 with ⟨rfl, h2⟩ | ⟨g, cap, cur, rfl, hb, hg, h3, h4, h5, h6⟩
  · have hz0 : zs = [] := List.eq_nil_of_length_eq_zero h2
    subst hz0
    refine (shelf_slices_Sort_int_none none 0 W).mono ?_
    rintro e' W' ⟨rfl, rfl⟩
    refine ⟨rfl, ?_⟩
    have e1 : ps.set i (Pc.row base e 1 (.slice none 0 0) ([] : List Int).length ((sortI []).map (Value.int .i64))) = ps := by
      obtain ⟨k1, k2⟩ := List.getElem?_eq_some_iff.1 hi
      rw [show (sortI []).map (Value.int .i64) = ([] : List Int).map (Value.int .i64) by simp [sortI], ← k2, List.set_getElem_self]
    rw [e1]
    exact h
  · rw [Nat.mul_one] at h6
    refine (shelf_slices_Sort_int g 0 cap zs W (holds_of_blockI hg h6) (Array.getElem?_eq_some_iff.1 hg).1 (by omega)).mono ?_
    rintro e' W' ⟨rfl, n, os, rfl⟩
    exact ⟨rfl, h.grow i hi (grownBy_sortedI _) (ownsRow_sortedI (sortI_len zs) hb hg h3 h4 h5) (.inl rfl)⟩

theorem indexC_any (v : Value) (xs : List Int) (x : Int) (w : World) (hv : IntsAt w v xs) (hz : xs.length ≤ 16777216) :
    Calls Tryz.prog 134 #[v, .int .i64 x] w fun e w' => (∃ i : Int, e = .returned (.int .i64 i) ∧ decide (0 ≤ i) = decide (x ∈ xs)) ∧ w = w' := by
  have HV := Box.mk hv
  obtain ⟨ao, cap, rfl⟩ := hv.slice
  clear hv
  go_enter Tryz.func134, Tryz.ntmps134
  go_wp2
  go_loop [8] (fun i => ∃ k : Nat, k ≤ xs.length ∧ i = .int .i64 k ∧ Box (x ∉ xs.take k)) (fun i => xs.length - (intOf i).toNat)
  case atStart => exact ⟨0, by omega, rfl, ⟨by simp⟩⟩
  case round =>
    obtain ⟨k, hk, rfl, hn⟩ := hrel
    by_cases hlt : k < xs.length
    · obtain ⟨y, hy⟩ : ∃ y, xs[k]? = some y := ⟨_, List.getElem?_eq_getElem hlt⟩
      obtain ⟨g, off, cap2, hg1, hg2, hg3, hg4, hg5⟩ := HV.out.get (by rintro rfl; simp at hlt)
      obtain ⟨rfl, rfl⟩ : ao = some ⟨g, off, none⟩ ∧ cap = cap2 := by injection hg1 with h1 h2 h3; exact ⟨h1, h3⟩
      have hcy := hg5 k y hy
      have HY := Box.mk hy
      unfold maxLen at hg3
      clear hy hg1 hg5
      by_cases hxy : x = y
      · subst hxy
        have HM := Box.mk (show x ∈ xs from List.mem_of_getElem? HY.out)
        go_wp2
        go_ret
        exact ⟨⟨k, rfl, by first | (rw [decide_eq_true HM.out]; simp) | exact ⟨fun _ => HM.out, fun _ => by omega⟩⟩, rfl⟩
      · have HN := Box.mk (show x ∉ xs.take (k + 1) by
          rw [List.take_add_one, HY.out, List.mem_append]
          rintro (h | h)
          · exact hn.out h
          · exact hxy (List.mem_singleton.1 h))
        have hq : (x == y) = false := beq_eq_false_iff_ne.2 hxy
        go_wp2
        go_round
        case rel => exact ⟨k + 1, hlt, by go_num, HN⟩
        case measure => simp [intOf]; omega
    · have HN := Box.mk (show x ∉ xs by have := hn.out; rwa [List.take_of_length_le (by omega)] at this)
      go_wp2
      go_ret
      exact ⟨⟨-1, rfl, by first | (rw [decide_eq_false HN.out]; rfl) | exact ⟨fun h => by omega, fun h => absurd h HN.out⟩⟩, rfl⟩
theorem containsC_any (v : Value) (xs : List Int) (x : Int) (w : World) (hv : IntsAt w v xs) (hz : xs.length ≤ 16777216) :
    Calls Tryz.prog 129 #[v, .int .i64 x] w fun e w' => e = .returned (.bool (decide (x ∈ xs))) ∧ w = w' := by
  have HI := Box.mk (indexC_any v xs x w hv hz)
  clear hv
  go_enter Tryz.func129, Tryz.ntmps129
  go_wp2_with fail
  refine HI.out.mono ?_; rintro e w1 ⟨⟨i, rfl, hi⟩, rfl⟩
  have HX := Box.mk hi
  clear hi
  go_wp2_with fail
  go_ret
  exact ⟨ret_bool HX.out, rfl⟩
end Go.Proofs.YtbpcipobdokcfaaGreatDoor

/- PLAIN. A rising list with runs of the same struck out; the places that items may end at, as the program makes them. Nothing of any program. -/
namespace Go.Proofs.YtbpcipobdokcfaaGreatDoor
open Go.Sort

theorem compact_facts (d : Array Int) (hd : ∀ i j, i ≤ j → j < d.size → d[i]! ≤ d[j]!) : ∀ m, m ≤ d.size →
    (Lib.compactUpTo d m).Pairwise (· < ·) ∧ (∀ x ∈ Lib.compactUpTo d m, ∃ j, j < m ∧ x = d[j]!) ∧ ∀ j, j < m → d[j]! ∈ Lib.compactUpTo d m
  | 0, _ => by
    refine ⟨?_, ?_, fun j hj => by omega⟩ <;> simp [Lib.compactUpTo]
  | m + 1, hm => by
    obtain ⟨h1, h2, h3⟩ := compact_facts d hd m (by omega)
    rw [Lib.compactUpTo_succ]
    by_cases hk : Lib.keeps d m = true
    · rw [if_pos hk]
      refine ⟨List.pairwise_append.2 ⟨h1, List.pairwise_singleton _ _, fun x hx y hy => ?_⟩, ?_, ?_⟩
      · obtain rfl := List.mem_singleton.1 hy
        obtain ⟨j, hj, rfl⟩ := h2 x hx
        have hne : d[m]! ≠ d[m - 1]! := by
          unfold Lib.keeps at hk
          rcases of_decide_eq_true hk with h | h
          · omega
          · exact h
        have a := hd j (m - 1) (by omega) (by omega)
        have b := hd (m - 1) m (by omega) (by omega)
        omega
      · intro x hx
        rcases List.mem_append.1 hx with h | h
        · obtain ⟨j, hj, e⟩ := h2 x h
          exact ⟨j, by omega, e⟩
        · exact ⟨m, by omega, List.mem_singleton.1 h⟩
      · intro j hj
        rcases Nat.lt_or_ge j m with h | h
        · exact List.mem_append.2 (.inl (h3 j h))
        · obtain rfl : j = m := by omega
          exact List.mem_append.2 (.inr (List.mem_singleton.2 rfl))
    · rw [if_neg hk, List.append_nil]
      refine ⟨h1, fun x hx => ?_, fun j hj => ?_⟩
      · obtain ⟨j, hj, e⟩ := h2 x hx
        exact ⟨j, by omega, e⟩
      · rcases Nat.lt_or_ge j m with h | h
        · exact h3 j h
        · obtain rfl : j = m := by omega
          have hn : ¬ (j = 0 ∨ d[j]! ≠ d[j - 1]!) := fun h => hk (by unfold Lib.keeps; exact decide_eq_true h)
          have h0 : j ≠ 0 := fun h => hn (.inl h)
          have he : d[j]! = d[j - 1]! := Classical.byContradiction fun h => hn (.inr h)
          rw [he]
          exact h3 (j - 1) (by omega)
theorem sortI_up (zs : List Int) : ∀ i j, i ≤ j → j < (sortI zs).toArray.size → (sortI zs).toArray[i]! ≤ (sortI zs).toArray[j]! := by
  intro i j hij hj
  have hp : (sortI zs).Pairwise (fun a b => decide (a ≤ b) = true) := List.pairwise_mergeSort (fun a b c h1 h2 => by simp at *; omega) (fun a b => by simp; omega) zs
  rcases Nat.eq_or_lt_of_le hij with e | h
  · subst e; exact Int.le_refl _
  · have hj' : j < (sortI zs).length := by simpa using hj
    have := List.pairwise_iff_getElem.1 hp i j (by omega) hj' h
    simp only [decide_eq_true_eq] at this
    have hi' : i < (sortI zs).toArray.size := by rw [List.size_toArray]; omega
    rw [getElem!_pos (sortI zs).toArray i hi', getElem!_pos (sortI zs).toArray j hj]
    simpa using this
def placesI (zs : List Int) : List Int := Lib.compact (sortI zs)
theorem placesI_up (zs : List Int) : (placesI zs).Pairwise (· < ·) := (compact_facts (sortI zs).toArray (sortI_up zs) (sortI zs).length (by simp)).1
theorem placesI_mem (zs : List Int) (x : Int) : x ∈ placesI zs ↔ x ∈ zs := by
  obtain ⟨-, h2, h3⟩ := compact_facts (sortI zs).toArray (sortI_up zs) (sortI zs).length (by simp)
  have hm : x ∈ sortI zs ↔ x ∈ zs := List.mem_mergeSort
  rw [← hm]
  constructor
  · intro h
    obtain ⟨j, hj, rfl⟩ := h2 x h
    rw [getElem!_pos _ _ (by simpa using hj)]
    simp
  · intro h
    obtain ⟨j, hj, e⟩ := List.getElem_of_mem h
    have := h3 j hj
    rw [getElem!_pos _ _ (by simpa using hj)] at this
    rw [List.getElem_toArray, e] at this
    exact this
theorem placesI_le (zs : List Int) : (placesI zs).length ≤ zs.length := by
  have := Go.Lib.compact_length_le (sortI zs)
  rwa [sortI_len] at this
theorem rising_len : ∀ (l : List Int) (lo hi : Int), l.Pairwise (· < ·) → (∀ x ∈ l, lo ≤ x ∧ x ≤ hi) → l.length ≤ (hi - lo + 1).toNat
  | [], _, _, _, _ => Nat.zero_le _
  | x :: l, lo, hi, hp, hb => by
    have h1 := hb x (List.mem_cons_self ..)
    have h2 := List.pairwise_cons.1 hp
    have := rising_len l (x + 1) hi h2.2 (fun y hy => ⟨by have := h2.1 y hy; omega, (hb y (List.mem_cons_of_mem _ hy)).2⟩)
    rw [List.length_cons]
    omega

namespace N
/-- how many numbers from a place on lie in a set, one by one -/
def rl (cs : List Int) (s : Int) (a : Nat) : Nat := ((cs.drop a).takeWhile fun c => hasC s c).length
/-- where an item may end that begins at a place -/
def nx (cs : List Int) (x : Item) (a : Nat) : List Nat :=
  if x.2 = 0 then (if rl cs x.1 a = 0 then [] else [a + 1])
  else if x.2 = 1 then (List.range (rl cs x.1 a + 1)).map (a + ·)
  else ((List.range (rl cs x.1 a + 1)).filter fun d => d % 2 == 0).map (a + ·)
theorem nx_eq (l : List Item) (cs : List Int) (i a : Nat) : nexts l cs i a = nx cs (l.getD i (0, 0)) a := rfl
theorem rl_le (cs : List Int) (s : Int) (a : Nat) (h : a ≤ cs.length) : a + rl cs s a ≤ cs.length := by
  have := (List.takeWhile_sublist (l := cs.drop a) (fun c => hasC s c)).length_le
  rw [List.length_drop] at this
  unfold rl
  omega
theorem nx_le (cs : List Int) (x : Item) (a b : Nat) (h : a ≤ cs.length) (hb : b ∈ nx cs x a) : a ≤ b ∧ b ≤ cs.length := by
  have h1 := rl_le cs x.1 a h
  unfold nx at hb
  split at hb
  · split at hb
    · exact absurd hb List.not_mem_nil
    · rename_i h0
      have := List.mem_singleton.1 hb
      omega
  · split at hb
    · obtain ⟨d, hd, rfl⟩ := List.mem_map.1 hb
      have := List.mem_range.1 hd
      omega
    · obtain ⟨d, hd, rfl⟩ := List.mem_map.1 hb
      have := List.mem_range.1 (List.mem_filter.1 hd).1
      omega
theorem nx_len (cs : List Int) (x : Item) (a : Nat) (h : a ≤ cs.length) : (nx cs x a).length ≤ cs.length + 1 := by
  have h1 := rl_le cs x.1 a h
  unfold nx
  split
  · split
    · exact Nat.zero_le _
    · simp
  · split
    · simp only [List.length_map, List.length_range]; omega
    · have := List.length_filter_le (fun d => d % 2 == 0) (List.range (rl cs x.1 a + 1))
      rw [List.length_range] at this
      simp only [List.length_map]
      omega
theorem rl_yes {cs : List Int} {s : Int} {a k : Nat} (h : k < rl cs s a) : ∃ c, cs[a + k]? = some c ∧ hasC s c = true := by
  obtain ⟨c, h1, h2⟩ := (while_iff (fun c => hasC s c) (cs.drop a) (rl cs s a)).2 (Nat.le_refl _) k h
  exact ⟨c, by rwa [List.getElem?_drop] at h1, h2⟩
theorem rl_no {cs : List Int} {s : Int} {a : Nat} (h : a + rl cs s a < cs.length) : ∃ c, cs[a + rl cs s a]? = some c ∧ hasC s c = false := by
  obtain ⟨c, hc⟩ : ∃ c, cs[a + rl cs s a]? = some c := ⟨_, List.getElem?_eq_getElem h⟩
  refine ⟨c, hc, ?_⟩
  rw [Bool.eq_false_iff]
  intro hh
  have := (while_iff (fun c => hasC s c) (cs.drop a) (rl cs s a + 1)).1 (fun x hx => by
    rcases Nat.lt_or_ge x (rl cs s a) with h1 | h1
    · obtain ⟨d, h2, h3⟩ := rl_yes h1
      exact ⟨d, by rw [List.getElem?_drop]; exact h2, h3⟩
    · obtain rfl : x = rl cs s a := by omega
      exact ⟨c, by rw [List.getElem?_drop]; exact hc, hh⟩)
  unfold rl at this
  omega
end N
/-- the places behind an item, from one place -/
def nxI (cs : List Int) (x : N.Item) (a : Int) : List Int := (N.nx cs x a.toNat).map fun n : Nat => (n : Int)
/-- the places behind the first items -/
def outI (cs : List Int) (l : List N.Item) (a : Int) (k : Nat) : List Int := (l.take k).foldl (fun out x => placesI (out.flatMap (nxI cs x))) [a]
theorem outI_zero (cs : List Int) (l : List N.Item) (a : Int) : outI cs l a 0 = [a] := by simp [outI]
theorem outI_succ (cs : List Int) (l : List N.Item) (a : Int) (k : Nat) (x : N.Item) (h : l[k]? = some x) : outI cs l a (k + 1) = placesI ((outI cs l a k).flatMap (nxI cs x)) := by
  unfold outI
  rw [List.take_add_one, h, List.foldl_append]
  rfl
theorem nxI_mem (cs : List Int) (x : N.Item) (a : Int) (h0 : 0 ≤ a) (h1 : a ≤ cs.length) : ∀ b ∈ nxI cs x a, 0 ≤ b ∧ b ≤ cs.length := by
  intro b hb
  obtain ⟨n, hn, rfl⟩ := List.mem_map.1 hb
  have := N.nx_le cs x a.toNat n (by omega) hn
  omega
theorem nxI_len (cs : List Int) (x : N.Item) (a : Int) (h0 : 0 ≤ a) (h1 : a ≤ cs.length) : (nxI cs x a).length ≤ cs.length + 1 := by
  unfold nxI
  rw [List.length_map]
  exact N.nx_len cs x a.toNat (by omega)
theorem flat_mem (cs : List Int) (x : N.Item) (out : List Int) (h : ∀ b ∈ out, 0 ≤ b ∧ b ≤ cs.length) : ∀ b ∈ out.flatMap (nxI cs x), 0 ≤ b ∧ b ≤ cs.length := by
  intro b hb
  obtain ⟨a, ha, hb⟩ := List.mem_flatMap.1 hb
  exact nxI_mem cs x a (h a ha).1 (h a ha).2 b hb
theorem outI_mem (cs : List Int) (l : List N.Item) (a : Int) (h0 : 0 ≤ a) (h1 : a ≤ cs.length) : ∀ k, k ≤ l.length → ∀ b ∈ outI cs l a k, 0 ≤ b ∧ b ≤ cs.length
  | 0, _ => by
    rw [outI_zero]
    intro b hb
    rw [List.mem_singleton.1 hb]
    exact ⟨h0, h1⟩
  | k + 1, hk => by
    rw [outI_succ cs l a k _ (List.getElem?_eq_getElem (by omega))]
    intro b hb
    exact flat_mem cs _ _ (outI_mem cs l a h0 h1 k (by omega)) b ((placesI_mem _ b).1 hb)
theorem outI_len (cs : List Int) (l : List N.Item) (a : Int) (h0 : 0 ≤ a) (h1 : a ≤ cs.length) (k : Nat) (hk : k ≤ l.length) : (outI cs l a k).length ≤ cs.length + 1 := by
  cases k with
  | zero => rw [outI_zero]; simp
  | succ k =>
    have hm := outI_mem cs l a h0 h1 (k + 1) hk
    rw [outI_succ cs l a k _ (List.getElem?_eq_getElem (by omega))] at hm ⊢
    have := rising_len _ 0 cs.length (placesI_up _) hm
    omega
theorem flat_len (cs : List Int) (x : N.Item) : ∀ (out : List Int), (∀ b ∈ out, 0 ≤ b ∧ b ≤ cs.length) → (out.flatMap (nxI cs x)).length ≤ out.length * (cs.length + 1)
  | [], _ => by simp
  | a :: t, h => by
    have ih := flat_len cs x t (fun b hb => h b (List.mem_cons_of_mem _ hb))
    have ha := h a (List.mem_cons_self ..)
    have := nxI_len cs x a ha.1 ha.2
    rw [List.flatMap_cons, List.length_append, List.length_cons, Nat.succ_mul]
    omega
/-- they are the places that the plain law speaks of -/
theorem outI_iff {l : List N.Item} {cs : List Int} (hh : ∀ i, N.howAt l i = 0 ∨ N.howAt l i = 1 ∨ N.howAt l i = 2) (a : Nat) : ∀ k, k ≤ l.length → ∀ b : Int, b ∈ outI cs l a k ↔ ∃ n : Nat, b = n ∧ N.Ends l cs k a n
  | 0, _, b => by
    rw [outI_zero, List.mem_singleton]
    exact ⟨fun h => ⟨a, h, rfl⟩, fun ⟨n, h, e⟩ => by rw [h, show n = a from e]⟩
  | k + 1, hk, b => by
    have ih := outI_iff (cs := cs) hh a k (by omega)
    have hx : l[k]? = some (l.getD k (0, 0)) := by
      rw [List.getD_eq_getElem?_getD, List.getElem?_eq_getElem (by omega)]
      rfl
    rw [outI_succ cs l a k _ hx, placesI_mem, List.mem_flatMap]
    constructor
    · rintro ⟨c, hc, hb⟩
      obtain ⟨n, rfl, he⟩ := (ih c).1 hc
      obtain ⟨m, hm, rfl⟩ := List.mem_map.1 hb
      rw [Int.toNat_natCast, ← N.nx_eq] at hm
      exact ⟨m, rfl, n, he, (N.nexts_iff hh k n m).1 hm⟩
    · rintro ⟨m, rfl, n, he, hf⟩
      refine ⟨n, (ih n).2 ⟨n, rfl, he⟩, List.mem_map.2 ⟨m, ?_, rfl⟩⟩
      rw [Int.toNat_natCast, ← N.nx_eq]
      exact (N.nexts_iff hh k n m).2 hf
end Go.Proofs.YtbpcipobdokcfaaGreatDoor

/- THE WALKS OF package pattern: the iterator over the places behind numbers that are in a set. -/
namespace Go.Proofs.YtbpcipobdokcfaaGreatDoor
open Go.RowKit Go.Shelf
attribute [local go_sem] Oper.semAt_some

theorem chas_is (set c : Int) (b : Bool) (h : N.hasC set c = b) (w : World) : Calls Tryz.prog 87 #[.int .i64 set, .int .i64 c] w fun e w' => e = .returned (.bool b) ∧ w = w' := by
  rw [← h]
  exact chas_any set c w
theorem prunM_any (p : Option Addr) (set a : Int) (w : World) :
    Calls Tryz.prog 125 #[.pointer p, .int .i64 set, .int .i64 a] w fun e w' => e = .returned (.func (.func 130) #[] #[.pointer (some ⟨w.heap.size + 1 + 1, 0, none⟩), .pointer (some ⟨w.heap.size, 0, none⟩), .pointer (some ⟨w.heap.size + 1, 0, none⟩)]) ∧
      ((w.alloc (.cells #[.pointer p] 184)).alloc (.cells #[.int .i64 set] 2)).alloc (.cells #[.int .i64 a] 3) = w' := by
  go_enter Tryz.func125, Tryz.ntmps125
  go_wp2
  go_ret
  exact ⟨rfl, rfl⟩

/-- the places behind numbers, one by one -/
def runL (a k : Nat) : List Nat := (List.range k).map (a + 1 + ·)
theorem runL_succ (a k : Nat) : runL a (k + 1) = runL a k ++ [a + k + 1] := by
  unfold runL
  rw [List.range_succ, List.map_append]
  simp
  omega
theorem runL_len (a k : Nat) : (runL a k).length = k := by simp [runL]
def atOf (w : World) (b : Nat) : Nat := match w.cell? ⟨b, 0, none⟩ with | some v => (intOf v).toNat | none => 0
theorem atOf_blk {w : World} {b k : Nat} {t : TypeId} (h : Blk w b t #[.int .i64 (k : Int)]) : atOf w b = k := by
  unfold atOf
  rw [(h.cell 0).trans (show _ = some (Value.int .i64 (k : Int)) from rfl)]
  simp [intOf]

set_option maxHeartbeats 2000000 in
theorem prun1_iter (n : Nat) (W0 : World) (mb : Nat) (cv : Value) (cs : List Int) (hM : Blk W0 mb 139 #[cv]) (hC : IntsAt W0 cv cs) (hz : cs.length ≤ 16777216) (set : Int) (a0 : Nat) (ha0 : a0 ≤ cs.length) (ba bY bs : Nat)
    (hd : W0.heap.size ≤ ba) (hdy : ba ≠ bY) (hds : ba ≠ bs) (l : Nat) (W1 : World)
    (hA : Agree W0 W1) (h1 : Blk W1 ba 3 #[.int .i64 (a0 : Int)]) (h2 : Blk W1 bY 184 #[.pointer (some ⟨mb, 0, none⟩)]) (h3 : Blk W1 bs 2 #[.int .i64 set]) :
    IterC (n + 1) Tryz.prog 130 #[.pointer (some ⟨ba, 0, none⟩), .pointer (some ⟨bY, 0, none⟩), .pointer (some ⟨bs, 0, none⟩)] (fun x : Nat => #[.int .i64 x]) (fun k => k = ba) (keepOf W0 ba bY bs) (fun pre x => x = a0 + pre.length + 1 ∧ pre.length < N.rl cs set a0)
      (fun xs _ => xs = runL a0 (N.rl cs set a0)) l W1 := by
  intro J Jx hJ hJx hY h0
  have HY := Box.mk hY
  have HJ := Box.mk hJ
  have HM := Box.mk hM
  have HC := Box.mk hC
  have HRL := N.rl_le cs set a0 ha0
  obtain ⟨r, hr⟩ : ∃ r, r = N.rl cs set a0 := ⟨_, rfl⟩
  rw [← hr] at HRL
  have HR := Box.mk hr
  obtain ⟨ao, cap, rfl⟩ := hC.slice
  clear hY hJ hM hC hr
  refine callsIn_of_wp Tryz.func130 rfl trivial ?_
  simp only [Tryz.ntmps130, List.size_toArray, List.length_cons, List.length_nil, Nat.reduceAdd, Nat.reduceSub, Array.replicate_succ, Array.replicate_zero, List.push_toArray, List.append_toArray, List.nil_append, List.cons_append]
  gi_wp2
  refine wpIn_wide.2 (wp_scope_straight ((wpIn_wide (n := n + 1)).1 ?_))
  gi_wp2
  refine wpIn_label ?_
  gi_wp2
  gi_loopw [] (fun wr => ∃ k : Nat, k ≤ r ∧ Box (Agree W0 wr) ∧ Box (Blk wr ba 3 #[.int .i64 ((a0 + k : Nat) : Int)]) ∧ Box (Blk wr bY 184 #[.pointer (some ⟨mb, 0, none⟩)]) ∧ Box (Blk wr bs 2 #[.int .i64 set]) ∧ Box (J (runL a0 k) wr))
    (fun wr => a0 + r - atOf wr ba)
  case atStart => exact ⟨0, Nat.zero_le _, ⟨hA⟩, ⟨h1⟩, ⟨h2⟩, ⟨h3⟩, ⟨h0⟩⟩
  case round =>
    obtain ⟨k, hk, ha, hba, hby, hbs, hj⟩ := hrel
    obtain ⟨p, hp⟩ : ∃ p, p = a0 + k := ⟨_, rfl⟩
    rw [← hp] at hba
    have HP := Box.mk hp
    have HAT := Box.mk (atOf_blk hba.out)
    have c0 : wr.cell? ⟨ba, 0, none⟩ = some (.int .i64 ((p : Nat) : Int)) := (hba.out.cell 0).trans rfl
    have c1 : wr.cell? ⟨bY, 0, none⟩ = some (.pointer (some ⟨mb, 0, none⟩)) := (hby.out.cell 0).trans rfl
    have c2 : wr.cell? ⟨bs, 0, none⟩ = some (.int .i64 set) := (hbs.out.cell 0).trans rfl
    have c3 : wr.cell? ⟨mb, 0, none⟩ = some (.slice ao cs.length cap) := ((show Blk wr mb 139 #[.slice ao cs.length cap] from (ha.out.block mb HM.out.lt).trans HM.out).cell 0).trans rfl
    clear h0 h1 h2 h3 hA
    have hpr : p ≤ a0 + r := by omega
    clear hp
    by_cases hlt : p < cs.length
    · obtain ⟨c, hc⟩ : ∃ c, cs[p]? = some c := ⟨_, List.getElem?_eq_getElem hlt⟩
      obtain ⟨g, off, cap2, hg1, hg2, hg3, hg4, hg5⟩ := HC.out.get (by rintro rfl; simp at hlt)
      obtain ⟨rfl, rfl⟩ : ao = some ⟨g, off, none⟩ ∧ cap = cap2 := by injection hg1 with h1 h2 h3; exact ⟨h1, h3⟩
      have hcy : wr.cell? ⟨g, off + p, none⟩ = some (.int .i64 c) := (World.cell?_of_block (ha.out.block g hg4)).trans (hg5 _ c hc)
      have hd1 : decide (((p : Nat) : Int) < (cs.length : Int)) = true := decide_eq_true (by omega)
      unfold maxLen at hg3
      have HCC := Box.mk hc
      clear hg1 hg5 hc
      by_cases hkr : k < r
      · have HAS := Box.mk (show N.hasC set c = true by
          obtain ⟨d, h5, h6⟩ := N.rl_yes (HR.out ▸ hkr)
          rw [← HP.out] at h5
          have := HCC.out.symm.trans h5
          cases this
          exact h6)
        have HYW := Box.mk (fun W2 (ht : Turns (fun k => k = ba) wr W2) => HY.out (runL a0 k) (p + 1) W2 (HJ.out _ _ _ hj.out ht) ⟨by rw [runL_len, HP.out], by rw [runL_len, ← HR.out]; exact hkr⟩)
        gi_wp2
        refine wpIn_wide.2 ?_
        go_quiet ((go_at_call 87; exact quiet_left (chas_is set c true HAS.out _)))
        have HTD := Box.mk (Turns.of_below (own := fun k => k = ba) (below_drewN (Below.refl wr.heap.size wr) nq))
        have hy0 := HYW.out (wr.drewN nq) HTD.out
        simp only [show ((p + 1 : Nat) : Int) = (p : Int) + 1 by omega] at hy0
        obtain ⟨fn, tmps, assign, body, hy, hRd⟩ := hy0
        have HRD := Box.mk hRd
        clear hRd
        gi_wp2
        refine HRD.out.mono ?_
        rintro e W3 (⟨rfl, hj3, hk3⟩ | ⟨rfl, hx3⟩)
        · have hba3 : Blk W3 ba 3 #[.int .i64 ((p : Nat) : Int)] := (hk3.block _ (.inr (.inl rfl))).trans hba.out
          have HB3 := Box.mk hba3
          have HJ3 := Box.mk hj3
          have HK3 := Box.mk hk3
          have x0 : W3.cell? ⟨ba, 0, none⟩ = some (.int .i64 ((p : Nat) : Int)) := (hba3.cell 0).trans rfl
          have f0 := hba3.frozen 0
          clear hj3 hk3 hba3
          gi_wp2
          go_roundw
          case rel =>
            have hT := Turns.setCell (own := fun k => k = ba) W3 (p := ⟨ba, 0, none⟩) rfl (.int .i64 ((p : Nat) + 1 : Int))
            refine ⟨k + 1, hkr, ⟨?_⟩, ⟨?_⟩, ⟨?_⟩, ⟨?_⟩, ⟨?_⟩⟩
            · exact (((ha.out.turns HTD.out (fun _ h => by omega)).holds HK3.out (fun _ h => .inl h))).turns hT (fun _ h => by omega)
            · have := HB3.out.set_ 0 (.int .i64 ((p : Nat) + 1 : Int))
              rw [show ((a0 + (k + 1) : Nat) : Int) = (p : Int) + 1 by have := HP.out; omega]
              exact this
            · exact hT.blk ((HK3.out.block _ (.inr (.inr (.inl rfl)))).trans hby.out) (by omega)
            · exact hT.blk ((HK3.out.block _ (.inr (.inr (.inr rfl)))).trans hbs.out) (by omega)
            · rw [runL_succ, ← HP.out]
              exact HJ.out _ _ _ HJ3.out hT
          case measure =>
            have h5 := atOf_blk (k := p + 1) (HB3.out.set_ 0 (.int .i64 ((p : Nat) + 1 : Int)))
            have h6 := HAT.out
            have h7 := HP.out
            omega
        · gi_wp2
          rw [Exit.noGoto_normal]
          go_end0
          exact ⟨⟨_, rfl⟩, .inr ⟨_, hx3⟩⟩
      · obtain rfl : k = r := by have := HP.out; omega
        have HAS := Box.mk (show N.hasC set c = false by
          obtain ⟨d, h5, h6⟩ := N.rl_no (cs := cs) (s := set) (a := a0) (by rw [← HR.out, ← HP.out]; exact hlt)
          rw [← HR.out, ← HP.out] at h5
          have := HCC.out.symm.trans h5
          cases this
          exact h6)
        gi_wp2
        refine wpIn_wide.2 ?_
        go_quiet ((go_at_call 87; exact quiet_left (chas_is set c false HAS.out _)))
        have HTD := Box.mk (Turns.of_below (own := fun k => k = ba) (below_drewN (Below.refl wr.heap.size wr) nq))
        gi_wp2
        rw [Exit.noGoto_normal]
        go_end0
        exact ⟨⟨_, rfl⟩, .inl ⟨_, by rw [HR.out], HJ.out _ _ _ hj.out HTD.out⟩⟩
    · have hkr : k = r := by have := HP.out; omega
      have hd1 : decide (((p : Nat) : Int) < (cs.length : Int)) = false := decide_eq_false (by omega)
      gi_wp2
      refine wpIn_wide.2 ?_
      go_quiet (fail)
      have HTD := Box.mk (Turns.of_below (own := fun k => k = ba) (below_drewN (Below.refl wr.heap.size wr) nq))
      gi_wp2
      rw [Exit.noGoto_normal]
      go_end0
      exact ⟨⟨_, rfl⟩, .inl ⟨_, by rw [hkr, HR.out], HJ.out _ _ _ hj.out HTD.out⟩⟩
end Go.Proofs.YtbpcipobdokcfaaGreatDoor

/- THE WALKS OF package pattern: the places behind an item that stands once, and behind one that stands any number of times. -/
namespace Go.Proofs.YtbpcipobdokcfaaGreatDoor
open Go.RowKit Go.Shelf
attribute [local go_sem] Oper.semAt_some

theorem four (w : World) (c0 c1 c2 c3 : Array Value) (T0 T1 T2 T3 : TypeId) :
    Blk ((((w.alloc (.cells c0 T0)).alloc (.cells c1 T1)).alloc (.cells c2 T2)).alloc (.cells c3 T3)) w.heap.size T0 c0 ∧ Blk ((((w.alloc (.cells c0 T0)).alloc (.cells c1 T1)).alloc (.cells c2 T2)).alloc (.cells c3 T3)) (w.heap.size + 1) T1 c1 ∧
      Blk ((((w.alloc (.cells c0 T0)).alloc (.cells c1 T1)).alloc (.cells c2 T2)).alloc (.cells c3 T3)) (w.heap.size + 1 + 1) T2 c2 ∧ Blk ((((w.alloc (.cells c0 T0)).alloc (.cells c1 T1)).alloc (.cells c2 T2)).alloc (.cells c3 T3)) (w.heap.size + 1 + 1 + 1) T3 c3 ∧
      Below w.heap.size w ((((w.alloc (.cells c0 T0)).alloc (.cells c1 T1)).alloc (.cells c2 T2)).alloc (.cells c3 T3)) ∧ ((((w.alloc (.cells c0 T0)).alloc (.cells c1 T1)).alloc (.cells c2 T2)).alloc (.cells c3 T3)).heap.size = w.heap.size + 4 := by
  refine ⟨(((Blk.new w _ _).alloc _).alloc _).alloc _, ?_, ?_, ?_, ((((Below.refl _ _).alloc (Nat.le_refl _) _).alloc (by simp) _).alloc (by simp; omega) _).alloc (by simp; omega) _, by simp⟩
  · have := ((Blk.new (w.alloc (.cells c0 T0)) T1 c1).alloc (.cells c2 T2)).alloc (.cells c3 T3)
    simpa using this
  · have := (Blk.new ((w.alloc (.cells c0 T0)).alloc (.cells c1 T1)) T2 c2).alloc (.cells c3 T3)
    simpa using this
  · have := Blk.new (((w.alloc (.cells c0 T0)).alloc (.cells c1 T1)).alloc (.cells c2 T2)) T3 c3
    simpa using this
theorem alloc_below' (w : World) (o : Obj) : Below w.heap.size w (w.alloc o) := (Below.refl _ _).alloc (Nat.le_refl _) o
theorem ints_one {w : World} {g : Nat} {T : TypeId} {x : Int} (h : Blk w g T #[.int .i64 x]) : IntsAt w (.slice (some ⟨g, 0, none⟩) 1 1) [x] :=
  .inr ⟨g, 0, none, 1, rfl, by simp, by unfold maxLen; omega, fun _ => ⟨rfl, h.lt, fun i y hy => by
    match i, hy with
    | 0, hy =>
      simp only [List.getElem?_cons_zero, Option.some.injEq] at hy
      subst hy
      exact (h.cell 0).trans rfl
    | i + 1, hy => simp at hy⟩⟩

theorem results_cellP {P : Program} {fn : Func} {p : Tmp} {ty : TypeId} (h : fn.results = #[.cell p ty]) (tmps : Array Value) (w : World) (g : Nat) (v : Value) (hp : tmps.getD p undef = .pointer (some ⟨g, 0, none⟩)) (hc : w.cell? ⟨g, 0, none⟩ = some v)
    (ha : (isAgg ty).run P w = .ok false w) : (results fn tmps).run P w = .ok v w := by
  have hp' : tmps[p]?.getD undef = .pointer (some ⟨g, 0, none⟩) := by simpa using hp
  simp [results, h, hp', asAddr, loadVar, ha, hc]

set_option maxHeartbeats 2000000 in
theorem once_any (mb : Nat) (cv : Value) (cs : List Int) (set : Int) (a : Nat) (w : World) (hM : Blk w mb 139 #[cv]) (hC : IntsAt w cv cs) (hz : cs.length ≤ 16777216) (ha : a ≤ cs.length) :
    Calls Tryz.prog 111 #[.pointer (some ⟨mb, 0, none⟩), .int .i64 set, .int .i64 a] w fun e w' => (∃ v, e = .returned v ∧ IntsAt w' v (nxI cs (set, 0) a)) ∧ Below w.heap.size w w' := by
  have HM := Box.mk hM
  have HC := Box.mk hC
  have hml := hM.lt
  clear hM hC
  refine (callsIn_wide (n := 9)).1 (callsIn_of_wp_marks Tryz.func111 rfl trivial (wpIn_wide.2 ?_))
  simp only [Tryz.ntmps111, List.size_toArray, List.length_cons, List.length_nil, Nat.reduceAdd, Nat.reduceSub, Array.replicate_succ, Array.replicate_zero, List.push_toArray, List.append_toArray, List.nil_append, List.cons_append]
  go_wp2_with (go_at_call 125; refine (prunM_any _ _ _ _).mono ?_; rintro e w' ⟨rfl, rfl⟩)
  obtain ⟨hb0, hb1, hb2, hb3, hbL, hsz⟩ := four w #[.slice none 0 0] #[.pointer (some ⟨mb, 0, none⟩)] #[.int .i64 set] #[.int .i64 (a : Int)] 27 184 2 3
  generalize (((w.alloc (.cells #[.slice none 0 0] 27)).alloc (.cells #[.pointer (some ⟨mb, 0, none⟩)] 184)).alloc (.cells #[.int .i64 set] 2)).alloc (.cells #[.int .i64 (a : Int)] 3) = wL at hb0 hb1 hb2 hb3 hbL hsz ⊢
  have hAL : Agree w wL := .of_below hbL
  refine (wpIn_wide (n := 9)).1 (range_law (α := Nat) (gf := 130) (lb := #[.pointer (some ⟨w.heap.size + 1 + 1 + 1, 0, none⟩), .pointer (some ⟨w.heap.size + 1, 0, none⟩), .pointer (some ⟨w.heap.size + 1 + 1, 0, none⟩)]) rfl (enters_of Tryz.func130 (by kernel_rfl) rfl)
    (encs := fun x : Nat => #[.int .i64 x]) (own := fun k => k = w.heap.size + 1 + 1 + 1) (keep := keepOf w (w.heap.size + 1 + 1 + 1) (w.heap.size + 1) (w.heap.size + 1 + 1)) (ok := fun pre x => x = a + pre.length + 1 ∧ pre.length < N.rl cs set a) (S := fun xs _ => xs = runL a (N.rl cs set a))
    (fun k hk => by unfold keepOf at hk; omega)
    (fun W1 ht => prun1_iter 7 w mb cv cs HM.out HC.out hz set a ha (w.heap.size + 1 + 1 + 1) (w.heap.size + 1) (w.heap.size + 1 + 1) (by omega) (by omega) (by omega) _ W1 (hAL.turns ht (fun _ h => h.elim)) (ht.blk hb3 (fun h => h)) (ht.blk hb1 (fun h => h)) (ht.blk hb2 (fun h => h)))
    (fun _ => rfl)
    (fun pre W => pre = [] ∧ Blk W w.heap.size 27 #[.slice none 0 0] ∧ Below w.heap.size w W)
    (fun c _ W => c = .ret ∧ N.rl cs set a ≠ 0 ∧ (∃ g, Blk W w.heap.size 27 #[.slice (some ⟨g, 0, none⟩) 1 1] ∧ Blk W g 3 #[.int .i64 ((a + 1 : Nat) : Int)] ∧ wL.heap.size + 2 ≤ g) ∧ Below w.heap.size w W) ?hI ?hIx ⟨rfl, hb0, hbL⟩
    (fun x a1 _ => a1 = { tmps := #[.pointer (some ⟨mb, 0, none⟩), .int .i64 set, .int .i64 (a : Int), undef, undef, undef, .pointer (some ⟨w.heap.size, 0, none⟩), .int .i64 (x : Int), .pointer (some ⟨mb, 0, none⟩), .pointer (some ⟨mb, 0, none⟩), .pointer (some ⟨mb, 0, none⟩), .int .i64 set, .int .i64 (a : Int), .func (.func 130) #[] #[.pointer (some ⟨w.heap.size + 1 + 1 + 1, 0, none⟩), .pointer (some ⟨w.heap.size + 1, 0, none⟩), .pointer (some ⟨w.heap.size + 1 + 1, 0, none⟩)], .int .i64 (x : Int), undef, undef], defers := [] })
    (fun _ _ _ _ h _ => h) ?assign ?body ?done ?stop (fun _ _ _ h _ => h))
  case hI =>
    rintro pre W W' ⟨h1, h2, h3⟩ ht
    exact ⟨h1, ht.blk h2 (by omega), h3.trans (ht.below h3.size (fun k hk => by omega))⟩
  case hIx =>
    rintro c pre W W' ⟨h1, h2, ⟨g, h3, h4, h5⟩, h6⟩ ht
    exact ⟨h1, h2, ⟨g, ht.blk h3 (by omega), ht.blk h4 (by omega), h5⟩, h6.trans (ht.below h6.size (fun k hk => by omega))⟩
  case assign =>
    intro x W K _ hK
    gi_wp2
    exact hK _ _ (Turns.refl _ _) rfl
  case body =>
    rintro pre x a1 W hW ⟨rfl, h1, h2⟩ ⟨rfl, hr⟩ rfl
    have HB := Box.mk h1
    have H2 := Box.mk h2
    have HR := Box.mk hr
    have l0 := h1.lt
    have c0 : W.cell? ⟨w.heap.size, 0, none⟩ = some (.slice none 0 0) := (h1.cell 0).trans rfl
    have f0 := h1.frozen 0
    clear h1 h2 hr hb0 hb1 hb2 hb3 hbL hAL
    gi_wp2
    have hT1 := Turns.setCell (own := fun k => k = w.heap.size) W (p := ⟨w.heap.size, 0, none⟩) rfl (.slice (some ⟨W.heap.size, 0, none⟩) 1 1)
    have hT : Turns (fun k => k = w.heap.size) W _ := hT1.trans (Turns.alloc _ (.cells #[.int .i64 ((a : Int) + 1)] 3))
    have hn := Blk.new (W.setCell ⟨w.heap.size, 0, none⟩ (.slice (some ⟨W.heap.size, 0, none⟩) 1 1)) 3 #[.int .i64 ((a : Int) + 1)]
    rw [show (W.setCell ⟨w.heap.size, 0, none⟩ (.slice (some ⟨W.heap.size, 0, none⟩) 1 1)).heap.size = W.heap.size by simp [World.setCell]] at hn
    exact ⟨Holds.of_turns hT (fun k hk => by omega) (fun k hk => by omega), rfl, by have := HR.out; simp at this; omega, ⟨W.heap.size, (HB.out.set_ 0 _).alloc _, hn, hW⟩, H2.out.trans (hT.below H2.out.size (fun k hk => by omega))⟩
  case stop =>
    rintro c pre W hW ⟨rfl, hr, ⟨g, h1, h2, h4⟩, h3⟩ hD
    have HD := Box.mk hD
    have H1 := Box.mk h1
    have H2 := Box.mk h2
    have H3 := Box.mk h3
    have HR := Box.mk hr
    clear h1 h2 h3 hr hD hb0 hb1 hb2 hb3 hbL hAL
    refine wpIn_wide.2 ?_
    go_wp2_with fail
    refine ⟨by simp, .inl ⟨_, _, rfl, run_takeDeferred HD.out, ?_⟩⟩
    have hT : Turns (fun k => k = wL.heap.size) W (W.putObj wL.heap.size (.deferred none)) := Turns.putObj (own := fun k => k = wL.heap.size) W rfl (.deferred none)
    refine ⟨_, results_cellP Tryz.results111 _ _ w.heap.size _ rfl (((hT.blk H1.out (by omega)).cell 0).trans rfl) (Tryz.isAgg27 _), ⟨_, rfl, ?_⟩, H3.out.trans (hT.below H3.out.size (fun k hk => by omega))⟩
    have hx : nxI cs (set, 0) a = [((a + 1 : Nat) : Int)] := by
      unfold nxI N.nx
      rw [if_pos rfl, if_neg (by simpa using HR.out)]
      rfl
    rw [hx]
    exact ints_one (hT.blk H2.out (by omega))
  case done =>
    intro xs W hW hS ⟨h1, h2, h3⟩ hD
    have hr : N.rl cs set a = 0 := by
      have := congrArg List.length hS
      rw [h1, runL_len] at this
      exact this.symm
    have HR := Box.mk hr
    have H2 := Box.mk h2
    have H3 := Box.mk h3
    have HD := Box.mk hD
    have c0 : W.cell? ⟨w.heap.size, 0, none⟩ = some (.slice none 0 0) := (h2.cell 0).trans rfl
    have f0 := h2.frozen 0
    clear h1 h2 h3 hD hS hr hb0 hb1 hb2 hb3 hbL hAL
    go_wp2_with fail
    have hS := Turns.setCell (own := fun k => k = w.heap.size) W (p := ⟨w.heap.size, 0, none⟩) rfl (.slice none 0 0)
    refine ⟨by simp, .inl ⟨_, _, rfl, run_takeDeferred ((hS.block _ (by omega) (by omega)).trans HD.out), ?_⟩⟩
    have hT : Turns (fun k => k = wL.heap.size) (W.setCell ⟨w.heap.size, 0, none⟩ (.slice none 0 0)) _ := Turns.putObj (own := fun k => k = wL.heap.size) _ rfl (.deferred none)
    refine ⟨_, results_cellP Tryz.results111 _ _ w.heap.size (.slice none 0 0) rfl (((hT.blk (H2.out.set_ 0 _) (by omega)).cell 0).trans rfl) (Tryz.isAgg27 _), ⟨_, rfl, ?_⟩,
      (H3.out.trans (hS.below H3.out.size (fun k hk => by omega))).trans (hT.below (by have := H3.out.size; have := hS.size; omega) (fun k hk => by omega))⟩
    have hx : nxI cs (set, 0) a = [] := by
      unfold nxI N.nx
      rw [if_pos rfl, if_pos (by simpa using HR.out)]
      rfl
    rw [hx]
    exact .nil
end Go.Proofs.YtbpcipobdokcfaaGreatDoor

/- THE WALKS OF package pattern: the places behind an item that stands any number of times. -/
namespace Go.Proofs.YtbpcipobdokcfaaGreatDoor
open Go.RowKit Go.Shelf
attribute [local go_sem] Oper.semAt_some

def valsP (xs : List Nat) : List Value := xs.map fun n : Nat => Value.int .i64 (n : Int)
theorem valsP_snoc (xs : List Nat) (x : Nat) : valsP (xs ++ [x]) = valsP xs ++ [.int .i64 (x : Int)] := by simp [valsP]
theorem int_infoP : (Tryz.prog.info? 3).map (fun i => (i.zero, i.size, i.bytes)) = some (some (.int .i64 0), 1, 8) := by kernel_rfl
theorem nx_any (cs : List Int) (set : Int) (a : Nat) : N.nx cs (set, 1) a = a :: runL a (N.rl cs set a) := by
  unfold N.nx runL
  rw [if_neg (by simp), if_pos rfl, List.range_succ_eq_map, List.map_cons, List.map_map]
  congr 1
  apply List.map_congr_left
  intro x _
  simp
  omega
theorem ints_vals {w : World} {base n : Nat} {v : Value} {xs : List Nat} (h : w.ownsRow base 3 1 v n (valsP xs)) (hn : n = xs.length) : IntsAt w v (xs.map fun n : Nat => (n : Int)) :=
  IntsAt.of_own (base := base) (n := n) (T := 3) (by rw [List.map_map]; exact h) (by simp [hn])

set_option maxHeartbeats 2000000 in
theorem any_any (mb : Nat) (cv : Value) (cs : List Int) (set : Int) (a : Nat) (w : World) (hM : Blk w mb 139 #[cv]) (hC : IntsAt w cv cs) (hz : cs.length ≤ 1000000) (ha : a ≤ cs.length) :
    Calls Tryz.prog 112 #[.pointer (some ⟨mb, 0, none⟩), .int .i64 set, .int .i64 a] w fun e w' => (∃ v, e = .returned v ∧ IntsAt w' v (nxI cs (set, 1) a)) ∧ Below w.heap.size w w' := by
  have HM := Box.mk hM
  have HC := Box.mk hC
  have hml := hM.lt
  clear hM hC
  refine (callsIn_wide (n := 9)).1 (callsIn_of_wp_marks Tryz.func112 rfl trivial (wpIn_wide.2 ?_))
  simp only [Tryz.ntmps112, List.size_toArray, List.length_cons, List.length_nil, Nat.reduceAdd, Nat.reduceSub, Array.replicate_succ, Array.replicate_zero, List.push_toArray, List.append_toArray, List.nil_append, List.cons_append]
  go_wp2_with (go_at_call 125; refine (prunM_any _ _ _ _).mono ?_; rintro e w' ⟨rfl, rfl⟩)
  obtain ⟨hb0, hb1, hb2, hb3, hbL, hsz⟩ := four (w.alloc (.cells #[.int .i64 (a : Int)] 3)) #[.slice (some ⟨w.heap.size, 0, none⟩) 1 1] #[.pointer (some ⟨mb, 0, none⟩)] #[.int .i64 set] #[.int .i64 (a : Int)] 27 184 2 3
  have hr0 := (((((World.ownsRow_lit (base := w.heap.size) (e := 3) (size := 1) w #[.int .i64 (a : Int)] 1 (Nat.le_refl _) (by unfold maxLen; omega) rfl).alloc (.cells #[.slice (some ⟨w.heap.size, 0, none⟩) 1 1] 27)).alloc (.cells #[.pointer (some ⟨mb, 0, none⟩)] 184)).alloc (.cells #[.int .i64 set] 2)).alloc (.cells #[.int .i64 (a : Int)] 3))
  have hbL := (alloc_below' w (.cells #[.int .i64 (a : Int)] 3)).trans (hbL.mono (alloc_below' w _).size)
  rw [show (w.alloc (.cells #[.int .i64 (a : Int)] 3)).heap.size = w.heap.size + 1 from by simp] at hb0 hb1 hb2 hb3 hsz
  generalize ((((w.alloc (.cells #[.int .i64 (a : Int)] 3)).alloc (.cells #[.slice (some ⟨w.heap.size, 0, none⟩) 1 1] 27)).alloc (.cells #[.pointer (some ⟨mb, 0, none⟩)] 184)).alloc (.cells #[.int .i64 set] 2)).alloc (.cells #[.int .i64 (a : Int)] 3) = wL at hb0 hb1 hb2 hb3 hbL hsz hr0 ⊢
  have hAL : Agree w wL := .of_below hbL
  have HRL := N.rl_le cs set a ha
  refine (wpIn_wide (n := 9)).1 (range_law (α := Nat) (gf := 130) (lb := #[.pointer (some ⟨w.heap.size + 1 + 1 + 1 + 1, 0, none⟩), .pointer (some ⟨w.heap.size + 1 + 1, 0, none⟩), .pointer (some ⟨w.heap.size + 1 + 1 + 1, 0, none⟩)]) rfl (enters_of Tryz.func130 (by kernel_rfl) rfl)
    (encs := fun x : Nat => #[.int .i64 x]) (own := fun k => k = w.heap.size + 1 + 1 + 1 + 1) (keep := keepOf w (w.heap.size + 1 + 1 + 1 + 1) (w.heap.size + 1 + 1) (w.heap.size + 1 + 1 + 1)) (ok := fun pre x => x = a + pre.length + 1 ∧ pre.length < N.rl cs set a) (S := fun xs _ => xs = runL a (N.rl cs set a))
    (fun k hk => by unfold keepOf at hk; omega)
    (fun W1 ht => prun1_iter 7 w mb cv cs HM.out HC.out (by omega) set a ha (w.heap.size + 1 + 1 + 1 + 1) (w.heap.size + 1 + 1) (w.heap.size + 1 + 1 + 1) (by omega) (by omega) (by omega) _ W1 (hAL.turns ht (fun _ h => h.elim)) (ht.blk hb3 (fun h => h)) (ht.blk hb1 (fun h => h)) (ht.blk hb2 (fun h => h)))
    (fun _ => rfl)
    (fun pre W => (∃ v, Blk W (w.heap.size + 1) 27 #[v] ∧ W.ownsRow w.heap.size 3 1 v (pre.length + 1) (valsP (a :: pre)) ∧ ∀ g, v.ownBlock = some g → g = w.heap.size ∨ wL.heap.size + 2 ≤ g) ∧ Below w.heap.size w W)
    (fun _ _ _ => False) ?hI (fun _ _ _ _ h _ => h) ⟨⟨_, hb0, hr0, fun g hg => by cases hg; exact .inl rfl⟩, hbL⟩
    (fun x a1 _ => a1 = { tmps := #[.pointer (some ⟨mb, 0, none⟩), .int .i64 set, .int .i64 (a : Int), undef, undef, undef, .slice none 0 0, .pointer (some ⟨w.heap.size + 1, 0, none⟩), .int .i64 (x : Int), .int .i64 (a : Int), .slice (some ⟨w.heap.size, 0, none⟩) 1 1, .pointer (some ⟨mb, 0, none⟩), .pointer (some ⟨mb, 0, none⟩), .pointer (some ⟨mb, 0, none⟩), .int .i64 set, .int .i64 (a : Int), .func (.func 130) #[] #[.pointer (some ⟨w.heap.size + 1 + 1 + 1 + 1, 0, none⟩), .pointer (some ⟨w.heap.size + 1 + 1, 0, none⟩), .pointer (some ⟨w.heap.size + 1 + 1 + 1, 0, none⟩)], .int .i64 (x : Int), undef, undef, undef, undef, undef], defers := [] })
    (fun _ _ _ _ h _ => h) ?assign ?body ?done (fun _ _ _ _ h _ => h.elim) (fun _ _ _ h _ => h))
  case hI =>
    rintro pre W W' ⟨⟨v, h1, h2, h3⟩, h4⟩ ht
    exact ⟨⟨v, ht.blk h1 (by omega), ht.row h2 (fun k hk => by have := h3 k hk; omega), h3⟩, h4.trans (ht.below h4.size (fun k hk => by omega))⟩
  case assign =>
    intro x W K _ hK
    gi_wp2
    exact hK _ _ (Turns.refl _ _) rfl
  case body =>
    rintro pre x a1 W hW ⟨⟨v, h1, h2, h3⟩, h4⟩ ⟨hx, hr⟩ rfl
    have hlt := h2.lt
    have hs0 := h4.size
    have hc : W.cell? ⟨w.heap.size + 1, 0, none⟩ = some v := (h1.cell 0).trans rfl
    have hf := h1.frozen 0
    have HV := Box.mk h1
    have HL := Box.mk hlt
    have H3 := Box.mk h3
    have H4 := Box.mk h4
    have HR := Box.mk h2
    have HSN := Box.mk (valsP_snoc (a :: pre) x)
    obtain ⟨i0, hi, hz0, hz1, hz2⟩ := info_parts int_infoP
    have HNB := Box.mk (show v.ownBlock ≠ some (w.heap.size + 1) from fun e => by rcases h3 _ e with h | h <;> omega)
    have hpl : pre.length < 1000000 := by omega
    obtain ⟨og, oc, rfl⟩ := ownsRow_succ h2
    clear h1 h2 h3 h4 hb0 hb1 hb2 hb3 hbL hr hr0 hlt hAL hx
    gi_wp2_with (gi_at_builtin; refine wpListIn_append_own_at _ rfl _ _ 27 rfl w.heap.size 3 i0 (.int .i64 0) 1 8 Tryz.underlying27 hi hz0 hz1 hz2 rfl (by decide) (.slice (some ⟨og, 0, none⟩) (pre.length + 1) oc) _ _ rfl (HR.out.alloc _) ⟨W.heap.size, 0, none⟩ 1 1 [.int .i64 (x : Int)] rfl rfl (cell_one_new _ _ _) (by simp [Value.oneCell']) (by unfold maxLen; omega) (by omega) (by simp; omega) ?_; intro v' w1 hown' hgrow _ hat; obtain ⟨g', cap', rfl⟩ := ownsRow_succ hown'; have hv1 := (HV.out.alloc _).grown hgrow (Ne.symm HNB.out); have hc1 := hv1.cell 0; have hf1 := hv1.frozen 0; simp at hc1)
    have hg' : g' = og ∨ g' = W.heap.size + 1 := by
      rcases hat with h | h
      · left; simpa [Value.ownBlock] using h
      · right; simpa [Value.ownBlock] using h
    have hog := H3.out og rfl
    have hogl := (HL.out og rfl).2
    have hT : Turns (fun k => k = og ∨ k = w.heap.size + 1) W (w1.setCell ⟨w.heap.size + 1, 0, none⟩ (.slice (some ⟨g', 0, none⟩) (pre.length + 1 + 1) cap')) :=
      ((Turns.alloc W _).trans (turns_grown' hgrow (fun k hk => .inl (by simpa [Value.ownBlock] using hk.symm)))).trans (Turns.setCell _ (.inr rfl) _)
    refine ⟨Holds.of_turns hT (fun k hk => by unfold keepOf at hk; omega) (fun k hk h => by unfold keepOf at hk; omega), ⟨_, hv1.set_ 0 _, ?_, fun g hg => ?_⟩, H4.out.trans (hT.below H4.out.size (fun k hk => by omega))⟩
    · rw [← List.cons_append, HSN.out]
      have := (Turns.setCell (own := fun k => k = w.heap.size + 1) w1 (p := ⟨w.heap.size + 1, 0, none⟩) rfl (.slice (some ⟨g', 0, none⟩) (pre.length + 1 + 1) cap')).row hown' (fun k hk => by simp [Value.ownBlock] at hk; omega)
      simpa using this
    · have : g = g' := by simpa [Value.ownBlock] using hg.symm
      omega
  case done =>
    intro xs W hW hS ⟨⟨v, h1, h2, h3⟩, h4⟩ hD
    have c0 : W.cell? ⟨w.heap.size + 1, 0, none⟩ = some v := (h1.cell 0).trans rfl
    have H2 := Box.mk h4
    have HD := Box.mk hD
    have HR := Box.mk h2
    have HS := Box.mk hS
    have H3 := Box.mk h3
    clear h1 h2 h3 h4 hD hb0 hb1 hb2 hb3 hbL hS hr0 hAL
    go_wp2_with fail
    refine ⟨by simp, .inl ⟨_, _, rfl, run_takeDeferred HD.out, ?_⟩⟩
    refine ⟨_, results_tmp rfl _ _ _, ?_⟩
    have hr := (Turns.putObj (own := fun k => k = wL.heap.size) W rfl (.deferred none)).row HR.out (fun k hk => by rcases H3.out k hk with h | h <;> omega)
    refine ⟨⟨v, rfl, ?_⟩, H2.out.trans ((Turns.putObj (own := fun k => k = wL.heap.size) W rfl _).below H2.out.size (fun k hk => by omega))⟩
    have hi := ints_vals hr (by simp)
    rw [HS.out, ← nx_any] at hi
    exact hi
end Go.Proofs.YtbpcipobdokcfaaGreatDoor

/- THE WALKS OF package pattern: the places behind an item that stands any number of pairs. -/
namespace Go.Proofs.YtbpcipobdokcfaaGreatDoor
open Go.RowKit Go.Shelf
attribute [local go_sem] Oper.semAt_some

/-- those an even way off -/
def evens (a : Nat) (xs : List Nat) : List Nat := xs.filter fun n => (n - a) % 2 == 0
theorem evens_le (a : Nat) (xs : List Nat) : (evens a xs).length ≤ xs.length := List.length_filter_le _ _
theorem evens_yes (a : Nat) (xs : List Nat) (x : Nat) (h : (x - a) % 2 = 0) : evens a (xs ++ [x]) = evens a xs ++ [x] := by simp [evens, h]
theorem evens_no (a : Nat) (xs : List Nat) (x : Nat) (h : (x - a) % 2 ≠ 0) : evens a (xs ++ [x]) = evens a xs := by simp [evens, h]
theorem nx_pairs (cs : List Int) (set : Int) (a : Nat) : N.nx cs (set, 2) a = a :: evens a (runL a (N.rl cs set a)) := by
  have h := nx_any cs set a
  unfold N.nx at h ⊢
  rw [if_neg (by simp), if_pos rfl] at h
  rw [if_neg (by simp), if_neg (by simp)]
  have e : (fun d : Nat => d % 2 == 0) = ((fun n : Nat => (n - a) % 2 == 0) ∘ (a + ·)) := by
    funext d
    simp
  rw [e, ← List.filter_map, h]
  simp [evens]

theorem threeP (w : World) (cs cs1 cs2 : Array Value) (T0 T1 T2 : TypeId) :
    Blk (((w.alloc (.cells cs T0)).alloc (.cells cs1 T1)).alloc (.cells cs2 T2)) w.heap.size T0 cs ∧ Blk (((w.alloc (.cells cs T0)).alloc (.cells cs1 T1)).alloc (.cells cs2 T2)) (w.heap.size + 1) T1 cs1 ∧ Blk (((w.alloc (.cells cs T0)).alloc (.cells cs1 T1)).alloc (.cells cs2 T2)) (w.heap.size + 1 + 1) T2 cs2 ∧
      Below w.heap.size w (((w.alloc (.cells cs T0)).alloc (.cells cs1 T1)).alloc (.cells cs2 T2)) ∧ (((w.alloc (.cells cs T0)).alloc (.cells cs1 T1)).alloc (.cells cs2 T2)).heap.size = w.heap.size + 3 := by
  refine ⟨((Blk.new w _ _).alloc _).alloc _, ?_, ?_, (((Below.refl _ _).alloc (Nat.le_refl _) _).alloc (by simp) _).alloc (by simp; omega) _, by simp⟩
  · have := (Blk.new (w.alloc (.cells cs T0)) T1 cs1).alloc (.cells cs2 T2)
    simpa using this
  · have := Blk.new ((w.alloc (.cells cs T0)).alloc (.cells cs1 T1)) T2 cs2
    simpa using this

set_option maxRecDepth 10000 in
set_option maxHeartbeats 2000000 in
theorem pairs_any (mb : Nat) (cv : Value) (cs : List Int) (set : Int) (a : Nat) (w : World) (hM : Blk w mb 139 #[cv]) (hC : IntsAt w cv cs) (hz : cs.length ≤ 1000000) (ha : a ≤ cs.length) :
    Calls Tryz.prog 113 #[.pointer (some ⟨mb, 0, none⟩), .int .i64 set, .int .i64 a] w fun e w' => (∃ v, e = .returned v ∧ IntsAt w' v (nxI cs (set, 2) a)) ∧ Below w.heap.size w w' := by
  have HM := Box.mk hM
  have HC := Box.mk hC
  have hml := hM.lt
  clear hM hC
  refine (callsIn_wide (n := 9)).1 (callsIn_of_wp_marks Tryz.func113 rfl trivial (wpIn_wide.2 ?_))
  simp only [Tryz.ntmps113, List.size_toArray, List.length_cons, List.length_nil, Nat.reduceAdd, Nat.reduceSub, Array.replicate_succ, Array.replicate_zero, List.push_toArray, List.append_toArray, List.nil_append, List.cons_append]
  go_wp2_with fail
  obtain ⟨hba, hb7, hb8, hbA, hszA⟩ := threeP w #[.int .i64 (a : Int)] #[.int .i64 (a : Int)] #[.slice (some ⟨w.heap.size + 1, 0, none⟩) 1 1] 3 3 27
  have hrA := (World.ownsRow_lit (base := w.heap.size) (e := 3) (size := 1) (w.alloc (.cells #[.int .i64 (a : Int)] 3)) #[.int .i64 (a : Int)] 1 (by simp) (by unfold maxLen; omega) rfl).alloc (.cells #[.slice (some ⟨w.heap.size + 1, 0, none⟩) 1 1] 27)
  rw [show (w.alloc (.cells #[.int .i64 (a : Int)] 3)).heap.size = w.heap.size + 1 from by simp] at hrA
  generalize ((w.alloc (.cells #[.int .i64 (a : Int)] 3)).alloc (.cells #[.int .i64 (a : Int)] 3)).alloc (.cells #[.slice (some ⟨w.heap.size + 1, 0, none⟩) 1 1] 27) = wA at hba hb7 hb8 hbA hszA hrA ⊢
  refine wp_region_still_tail 5 (by kernel_rfl) (by kernel_rfl) ?_
  simp only [List.take_succ_cons, List.take_zero, List.drop_succ_cons, List.drop_zero]
  change wpStill _ _ (World.drew wA) (fun a' => wpList _ _ _ _ a' (World.drew wA)) _ _
  have hTd : Turns (fun _ => False) wA wA.drew := Turns.drew wA
  obtain ⟨wB, hwB⟩ : ∃ wB, wB = wA.drew := ⟨_, rfl⟩
  rw [← hwB] at hTd ⊢
  have hba := hTd.blk hba (fun h => h)
  have hb8 := hTd.blk hb8 (fun h => h)
  have hrB := hTd.row hrA (fun _ _ h => h)
  have hbB : Below w.heap.size w wB := hbA.trans (hTd.below hbA.size (fun _ h => h.elim))
  have hszB : wB.heap.size = w.heap.size + 3 := by rw [hwB]; exact hszA
  have c5 : wB.cell? ⟨w.heap.size, 0, none⟩ = some (.int .i64 (a : Int)) := (hba.cell 0).trans rfl
  have HSZB := Box.mk hszB
  clear hwB hTd hbA hszA hrA hb7 hszB
  still_step
  still_step
  still_step
  still_step
  still_step
  refine wpStill_nil ?_
  change wpList _ _ _ _ _ _
  go_wp2_with (go_at_call 125; refine (prunM_any _ _ _ _).mono ?_; rintro e w' ⟨rfl, rfl⟩)
  clear c5
  have hszB := Nat.le_of_eq HSZB.out.symm
  obtain ⟨hb1, hb2, hb3, hbL, hsz⟩ := threeP wB #[.pointer (some ⟨mb, 0, none⟩)] #[.int .i64 set] #[.int .i64 (a : Int)] 184 2 3
  have hr0 := ((hrB.alloc (.cells #[.pointer (some ⟨mb, 0, none⟩)] 184)).alloc (.cells #[.int .i64 set] 2)).alloc (.cells #[.int .i64 (a : Int)] 3)
  generalize ((wB.alloc (.cells #[.pointer (some ⟨mb, 0, none⟩)] 184)).alloc (.cells #[.int .i64 set] 2)).alloc (.cells #[.int .i64 (a : Int)] 3) = wL at hb1 hb2 hb3 hbL hsz hr0 ⊢
  have hb0 := hb8.below hbL (by omega)
  have hbox := hba.below hbL (by omega)
  have hbL := hbB.trans (hbL.mono hbB.size)
  have hAL : Agree w wL := .of_below hbL
  have HRL := N.rl_le cs set a ha
  refine (wpIn_wide (n := 9)).1 (range_law (α := Nat) (gf := 130) (lb := #[.pointer (some ⟨wB.heap.size + 1 + 1, 0, none⟩), .pointer (some ⟨wB.heap.size, 0, none⟩), .pointer (some ⟨wB.heap.size + 1, 0, none⟩)]) rfl (enters_of Tryz.func130 (by kernel_rfl) rfl)
    (encs := fun x : Nat => #[.int .i64 x]) (own := fun k => k = wB.heap.size + 1 + 1) (keep := keepOf w (wB.heap.size + 1 + 1) (wB.heap.size) (wB.heap.size + 1)) (ok := fun pre x => x = a + pre.length + 1 ∧ pre.length < N.rl cs set a) (S := fun xs _ => xs = runL a (N.rl cs set a))
    (fun k hk => by unfold keepOf at hk; omega)
    (fun W1 ht => prun1_iter 7 w mb cv cs HM.out HC.out (by omega) set a ha (wB.heap.size + 1 + 1) (wB.heap.size) (wB.heap.size + 1) (by omega) (by omega) (by omega) _ W1 (hAL.turns ht (fun _ h => h.elim)) (ht.blk hb3 (fun h => h)) (ht.blk hb1 (fun h => h)) (ht.blk hb2 (fun h => h)))
    (fun _ => rfl)
    (fun pre W => (∃ v, Blk W w.heap.size 3 #[.int .i64 (a : Int)] ∧ Blk W (w.heap.size + 1 + 1) 27 #[v] ∧ W.ownsRow w.heap.size 3 1 v ((evens a pre).length + 1) (valsP (a :: evens a pre)) ∧ ∀ g, v.ownBlock = some g → g = w.heap.size + 1 ∨ wL.heap.size + 2 ≤ g) ∧ Below w.heap.size w W)
    (fun _ _ _ => False) ?hI (fun _ _ _ _ h _ => h) ⟨⟨_, hbox, hb0, hr0, fun g hg => by cases hg; exact .inl rfl⟩, hbL⟩
    (fun x a1 _ => a1 = { tmps := #[.pointer (some ⟨mb, 0, none⟩), .int .i64 set, .int .i64 (a : Int), undef, undef, .pointer (some ⟨w.heap.size, 0, none⟩), .slice none 0 0, .pointer (some ⟨w.heap.size + 1 + 1, 0, none⟩), .int .i64 (x : Int), .int .i64 (a : Int), .slice (some ⟨w.heap.size + 1, 0, none⟩) 1 1, .pointer (some ⟨mb, 0, none⟩), .pointer (some ⟨mb, 0, none⟩), .pointer (some ⟨mb, 0, none⟩), .int .i64 set, .int .i64 (a : Int), .func (.func 130) #[] #[.pointer (some ⟨wB.heap.size + 1 + 1, 0, none⟩), .pointer (some ⟨wB.heap.size, 0, none⟩), .pointer (some ⟨wB.heap.size + 1, 0, none⟩)], .int .i64 (x : Int), undef, undef, undef, undef, undef, undef, undef, undef, undef, undef], defers := [] })
    (fun _ _ _ _ h _ => h) ?assign ?body ?done (fun _ _ _ _ h _ => h.elim) (fun _ _ _ h _ => h))
  case hI =>
    rintro pre W W' ⟨⟨v, h0, h1, h2, h3⟩, h4⟩ ht
    exact ⟨⟨v, ht.blk h0 (by omega), ht.blk h1 (by omega), ht.row h2 (fun k hk => by have := h3 k hk; omega), h3⟩, h4.trans (ht.below h4.size (fun k hk => by omega))⟩
  case assign =>
    intro x W K _ hK
    gi_wp2
    exact hK _ _ (Turns.refl _ _) rfl
  case body =>
    rintro pre x a1 W hW ⟨⟨v, h0, h1, h2, h3⟩, h4⟩ ⟨hx, hr⟩ rfl
    have c5 : W.cell? ⟨w.heap.size, 0, none⟩ = some (.int .i64 (a : Int)) := (h0.cell 0).trans rfl
    have H0 := Box.mk h0
    have HX := Box.mk hx
    have hax : a ≤ x := by omega
    have hxc : x ≤ cs.length := by omega
    have hlt := h2.lt
    have hs0 := h4.size
    have hc : W.cell? ⟨w.heap.size + 1 + 1, 0, none⟩ = some v := (h1.cell 0).trans rfl
    have hf := h1.frozen 0
    have HV := Box.mk h1
    have HL := Box.mk hlt
    have H3 := Box.mk h3
    have H4 := Box.mk h4
    have HR := Box.mk h2
    have HSN := Box.mk (valsP_snoc (a :: evens a pre) x)
    obtain ⟨i0, hi, hz0, hz1, hz2⟩ := info_parts int_infoP
    have HNB := Box.mk (show v.ownBlock ≠ some (w.heap.size + 1 + 1) from fun e => by rcases h3 _ e with h | h <;> omega)
    have hpl : (evens a pre).length < 1000000 := by have := evens_le a pre; omega
    obtain ⟨og, oc, rfl⟩ := ownsRow_succ h2
    clear h1 h2 h3 h4 hb0 hb1 hb2 hb3 hbL hr hr0 hlt hAL h0 hba hb8 hbox hrB hbB hx
    by_cases he : (x - a) % 2 = 0
    · have HEV := Box.mk (evens_yes a pre x he)
      have t1 : (((x : Int) - (a : Int)) % 2 == 0) = true := by rw [beq_iff_eq]; omega
      clear he
      gi_wp2_with (gi_at_builtin; refine wpListIn_append_own_at _ rfl _ _ 27 rfl w.heap.size 3 i0 (.int .i64 0) 1 8 Tryz.underlying27 hi hz0 hz1 hz2 rfl (by decide) (.slice (some ⟨og, 0, none⟩) ((evens a pre).length + 1) oc) _ _ rfl (HR.out.alloc _) ⟨W.heap.size, 0, none⟩ 1 1 [.int .i64 (x : Int)] rfl rfl (cell_one_new _ _ _) (by simp [Value.oneCell']) (by unfold maxLen; omega) (by omega) (by simp; omega) ?_; intro v' w1 hown' hgrow _ hat; obtain ⟨g', cap', rfl⟩ := ownsRow_succ hown'; have hv1 := (HV.out.alloc _).grown hgrow (Ne.symm HNB.out); have hc1 := hv1.cell 0; have hf1 := hv1.frozen 0; simp at hc1)
      have hg' : g' = og ∨ g' = W.heap.size + 1 := by
        rcases hat with h | h
        · left; simpa [Value.ownBlock] using h
        · right; simpa [Value.ownBlock] using h
      have hog := H3.out og rfl
      have hogl := (HL.out og rfl).2
      have hT : Turns (fun k => k = og ∨ k = w.heap.size + 1 + 1) W (w1.setCell ⟨w.heap.size + 1 + 1, 0, none⟩ (.slice (some ⟨g', 0, none⟩) ((evens a pre).length + 1 + 1) cap')) :=
        ((Turns.alloc W _).trans (turns_grown' hgrow (fun k hk => .inl (by simpa [Value.ownBlock] using hk.symm)))).trans (Turns.setCell _ (.inr rfl) _)
      refine ⟨Holds.of_turns hT (fun k hk => by unfold keepOf at hk; omega) (fun k hk h => by unfold keepOf at hk; omega), ⟨_, hT.blk H0.out (by omega), hv1.set_ 0 _, ?_, fun g hg => ?_⟩, H4.out.trans (hT.below H4.out.size (fun k hk => by omega))⟩
      · rw [HEV.out, ← List.cons_append, HSN.out]
        have := (Turns.setCell (own := fun k => k = w.heap.size + 1 + 1) w1 (p := ⟨w.heap.size + 1 + 1, 0, none⟩) rfl (.slice (some ⟨g', 0, none⟩) ((evens a pre).length + 1 + 1) cap')).row hown' (fun k hk => by simp [Value.ownBlock] at hk; omega)
        simpa using this
      · have : g = g' := by simpa [Value.ownBlock] using hg.symm
        omega
    · have HEV := Box.mk (evens_no a pre x he)
      have t1 : (((x : Int) - (a : Int)) % 2 == 0) = false := by rw [beq_eq_false_iff_ne]; omega
      clear he
      gi_wp2_with fail
      exact ⟨Holds.refl _ _, ⟨_, H0.out, HV.out, by rw [HEV.out]; exact HR.out, H3.out⟩, H4.out⟩
  case done =>
    intro xs W hW hS ⟨⟨v, h0, h1, h2, h3⟩, h4⟩ hD
    have c0 : W.cell? ⟨w.heap.size + 1 + 1, 0, none⟩ = some v := (h1.cell 0).trans rfl
    have H2 := Box.mk h4
    have HD := Box.mk hD
    have HR := Box.mk h2
    have HS := Box.mk hS
    have H3 := Box.mk h3
    clear h0 h1 h2 h3 h4 hD hb0 hb1 hb2 hb3 hbL hS hr0 hAL hba hb8 hbox hrB hbB
    go_wp2_with fail
    refine ⟨by simp, .inl ⟨_, _, rfl, run_takeDeferred HD.out, ?_⟩⟩
    refine ⟨_, results_tmp rfl _ _ _, ?_⟩
    have hr := (Turns.putObj (own := fun k => k = wL.heap.size) W rfl (.deferred none)).row HR.out (fun k hk => by rcases H3.out k hk with h | h <;> omega)
    refine ⟨⟨v, rfl, ?_⟩, H2.out.trans ((Turns.putObj (own := fun k => k = wL.heap.size) W rfl _).below H2.out.size (fun k hk => by omega))⟩
    have hi := ints_vals hr (by simp)
    rw [HS.out, ← nx_pairs] at hi
    exact hi
end Go.Proofs.YtbpcipobdokcfaaGreatDoor

/- THE WALKS OF package pattern: numbers, each once, rising. -/
namespace Go.Proofs.YtbpcipobdokcfaaGreatDoor
open Go.RowKit Go.Sort

theorem grow_none (w : World) : grow w #[] = w := by simp [grow]
theorem compact_sep {ps : List Pc} {W : World} (h : Sep ps W) (i : Nat) {base n : Nat} {e : TypeId} {v : Value} {zs : List Int} (hi : ps[i]? = some (Pc.row base e 1 v n (zs.map (Value.int .i64)))) (hn : n = zs.length) (hz : n ≤ 1000000) :
    Calls Tryz.prog 127 #[v] W fun e' W' => ∃ v', e' = .returned v' ∧ Sep (ps.set i (Pc.row base e 1 v' (Go.Lib.compact zs).length ((Go.Lib.compact zs).map (Value.int .i64)))) W' := by
  subst hn
  have hrow := h.row i hi
  rcases hrow.2 with ⟨rfl, h2⟩ | ⟨g, cap, cur, rfl, hb, hg, h3, h4, h5, h6⟩
  · have hz0 : zs = [] := List.eq_nil_of_length_eq_zero h2
    subst hz0
    refine (shelf_slices_Compact_int_empty none 0 W).mono ?_
    rintro e' W' ⟨rfl, rfl⟩
    refine ⟨_, rfl, ?_⟩
    have e1 : ps.set i (Pc.row base e 1 (.slice none 0 0) (Go.Lib.compact ([] : List Int)).length ((Go.Lib.compact ([] : List Int)).map (Value.int .i64))) = ps := by
      obtain ⟨k1, k2⟩ := List.getElem?_eq_some_iff.1 hi
      rw [show Go.Lib.compact ([] : List Int) = [] from rfl, show ([] : List Int).length = 0 from rfl]
      have k3 : ps[i] = Pc.row base e 1 (.slice none 0 0) 0 [] := k2
      rw [List.map_nil, ← k3, List.set_getElem_self]
    rw [e1]
    exact h
  · rw [Nat.mul_one] at h6
    refine (shelf_slices_Compact_int g 0 cap zs W (holds_of_blockI hg h6) (by omega) h3).mono ?_
    rintro e' W' ⟨rfl, q, rfl⟩
    have hle := Go.Lib.compact_length_le zs
    obtain ⟨d, hd⟩ : ∃ d, Go.Lib.compact zs ++ List.replicate (zs.length - (Go.Lib.compact zs).length) (0 : Int) = d := ⟨_, rfl⟩
    have hdl : d.length = zs.length := by rw [← hd, List.length_append, List.length_replicate]; omega
    rw [hd]
    have hgb := grownBy_sortedI (w := W) (g := g) (n := q) (os := #[]) d.toArray
    have hro := ownsRow_sortedI (n := q) (os := #[]) hdl hb hg h3 h4 h5
    rw [grow_none] at hgb hro
    refine ⟨_, rfl, h.grow i hi hgb ?_ (.inl rfl)⟩
    refine ⟨by simp, .inr ?_⟩
    rcases hro.2 with ⟨h7, _⟩ | ⟨g', cap', cur', h7, h8, h9, h10, h11, h12, h13⟩
    · cases h7
    · cases h7
      refine ⟨g, cap, cur', rfl, h8, h9, by omega, h11, h12, ?_⟩
      rw [Nat.mul_one] at h13 ⊢
      have := congrArg (List.take (Go.Lib.compact zs).length) h13
      rw [List.take_take, Nat.min_eq_left hle] at this
      rw [this, ← hd, List.map_append, List.take_left' (by simp)]
theorem places_sep {ps : List Pc} {W : World} (h : Sep ps W) (i : Nat) {base n : Nat} {e : TypeId} {v : Value} {zs : List Int} (hi : ps[i]? = some (Pc.row base e 1 v n (zs.map (Value.int .i64)))) (hn : n = zs.length) (hz : n ≤ 1000000) :
    Calls Tryz.prog 114 #[v] W fun e' W' => ∃ v', e' = .returned v' ∧ Sep (ps.set i (Pc.row base e 1 v' (placesI zs).length ((placesI zs).map (Value.int .i64)))) W' := by
  have HS := Box.mk (sort_sep h i hi hn hz)
  have hil : i < ps.length := (List.getElem?_eq_some_iff.1 hi).1
  clear h hi
  go_enter Tryz.func114, Tryz.ntmps114
  go_wp2_with fail
  refine HS.out.mono ?_; rintro e1 w1 ⟨rfl, h1⟩
  have HC := Box.mk (compact_sep h1 i (by rw [List.getElem?_set_self hil]) (by rw [sortI_len]; exact hn) hz)
  clear h1
  go_wp2_with fail
  refine HC.out.mono ?_; rintro e2 w2 ⟨v', rfl, h2⟩
  rw [List.set_set] at h2
  have H2 := Box.mk h2
  clear h2
  go_wp2_with fail
  go_ret
  exact ⟨_, rfl, H2.out⟩
end Go.Proofs.YtbpcipobdokcfaaGreatDoor

/- THE WALKS OF package pattern: where items may end. -/
namespace Go.Proofs.YtbpcipobdokcfaaGreatDoor
open Go.RowKit

theorem pushIntN : PushesN Tryz.prog 27 3 1 8 := .mk' (z := .int .i64 0) Tryz.underlying27 (by kernel_rfl) rfl
theorem cells_ints {w : World} {v : Value} {xs : List Int} (h : IntsAt w v xs) : CellsOf w v xs.length (xs.map (Value.int .i64)) := by
  rcases h with ⟨h1, rfl⟩ | ⟨b, off, sp, cap, h1, h2, h3, h4⟩
  · exact .inl ⟨h1, rfl, rfl⟩
  · refine .inr ⟨_, cap, h1, fun j u hu => ?_⟩
    rw [List.getElem?_map] at hu
    cases hx : xs[j]? with
    | none => rw [hx] at hu; cases hu
    | some x =>
      rw [hx] at hu
      cases hu
      obtain ⟨rfl, -, h6⟩ := h4 (by rintro rfl; simp at hx)
      rw [show (⟨b, off, none⟩ : Addr).add j = ⟨b, off + j, none⟩ by unfold Addr.add; by_cases h0 : j = 0 <;> simp [h0]]
      exact h6 j x hx
/-- the ways that an item may stand -/
def way1 (mb : Nat) : MapEntry := ⟨.int .i64 0, .func (.func 111) #[.pointer (some ⟨mb, 0, none⟩)] #[], 0⟩
def way2 (mb : Nat) : MapEntry := ⟨.int .i64 1, .func (.func 112) #[.pointer (some ⟨mb, 0, none⟩)] #[], 1⟩
def way3 (mb : Nat) : MapEntry := ⟨.int .i64 2, .func (.func 113) #[.pointer (some ⟨mb, 0, none⟩)] #[], 2⟩
def outV (xs : List Int) : List Value := xs.map (Value.int .i64)
theorem outV_append (xs ys : List Int) : outV (xs ++ ys) = outV xs ++ ys.map (Value.int .i64) := by simp [outV]
theorem one_ints (ys : List Int) : ∀ u ∈ ys.map (Value.int .i64), u.oneCell' = true := by
  intro u hu
  obtain ⟨y, -, rfl⟩ := List.mem_map.1 hu
  rfl
theorem flat_succ (cs : List Int) (x : N.Item) (O : List Int) (j : Nat) (b : Int) (h : O[j]? = some b) : (O.take (j + 1)).flatMap (nxI cs x) = (O.take j).flatMap (nxI cs x) ++ nxI cs x b := by
  rw [List.take_add_one, h, List.flatMap_append]
  simp
/-- what a way answers -/
def wayPost (cs : List Int) (x : N.Item) (q : Nat) (W : World) (e : Ending) (w' : World) : Prop := (∃ v, e = .returned v ∧ IntsAt w' v (nxI cs x q)) ∧ Below W.heap.size W w'

set_option maxHeartbeats 4000000 in
theorem ends_any (mb : Nat) (cv : Value) (cs : List Int) (iv : Value) (l : List N.Item) (a : Nat) (w : World) (hM : Blk w mb 139 #[cv]) (hC : IntsAt w cv cs) (hI : ItemsAt w iv l) (hh : ∀ x ∈ l, x.2 = 0 ∨ x.2 = 1 ∨ x.2 = 2)
    (hz : cs.length ≤ 900) (hl : l.length ≤ 1000) (ha : a ≤ cs.length) :
    Calls Tryz.prog 88 #[.pointer (some ⟨mb, 0, none⟩), iv, .int .i64 a] w fun e w' => (∃ v, e = .returned v ∧ IntsAt w' v (outI cs l a l.length)) ∧ Below w.heap.size w w' := by
  have HM := Box.mk hM
  have HC := Box.mk hC
  have HI := Box.mk hI
  have HH := Box.mk hh
  have hml := hM.lt
  have hmm := @run_makeMap Tryz.prog
  have hins0 := map_ins (P := Tryz.prog) Tryz.underlying159 Tryz.underlying3 w #[] 0 0 (way1 mb).val w.heap.size rfl rfl
  have hins1 := map_ins (P := Tryz.prog) Tryz.underlying159 Tryz.underlying3 w #[way1 mb] 1 1 (way2 mb).val w.heap.size rfl rfl
  have hins2 := map_ins (P := Tryz.prog) Tryz.underlying159 Tryz.underlying3 w #[way1 mb, way2 mb] 2 2 (way3 mb).val w.heap.size rfl rfl
  simp only [List.push_toArray, List.nil_append, List.cons_append, way1, way2, way3, Nat.reduceAdd, Nat.zero_add] at hins0 hins1 hins2
  obtain ⟨io, ic, rfl⟩ := hI.slice
  clear hM hC hI hh
  go_enter Tryz.func88, Tryz.ntmps88
  go_wp2_with fail
  clear hmm hins0 hins1 hins2
  have HS0 := Box.mk (show Sep [Pc.row w.heap.size 3 1 (.slice (some ⟨w.heap.size + 1, 0, none⟩) (outI cs l a 0).length 1) (outI cs l a 0).length (outV (outI cs l a 0)), Pc.obj w.heap.size (.map #[way1 mb, way2 mb, way3 mb] 3), Pc.old w.heap.size w] ((w.alloc (.map #[way1 mb, way2 mb, way3 mb] 3)).alloc (.cells #[.int .i64 (a : Int)] 3)) by
    have h1 : Sep [Pc.obj w.heap.size (.map #[way1 mb, way2 mb, way3 mb] 3), Pc.old w.heap.size w] (w.alloc (.map #[way1 mb, way2 mb, way3 mb] 3)) :=
      (Sep.start w).add (alloc_below' w _) (World.alloc_heap_new w _) (fun k hk => by rw [show k = w.heap.size from hk]; exact Nat.le_refl _)
    have h2 := World.ownsRow_lit (base := w.heap.size) (e := 3) (size := 1) (w.alloc (.map #[way1 mb, way2 mb, way3 mb] 3)) #[.int .i64 (a : Int)] 1 (by simp) (by unfold maxLen; omega) rfl
    rw [show (w.alloc (.map #[way1 mb, way2 mb, way3 mb] 3)).heap.size = w.heap.size + 1 from by simp] at h2
    rw [outI_zero]
    exact h1.add (alloc_below' _ _) h2 (fun k hk => by simp [Pc.row, Value.ownBlock] at hk; simp; omega))
  unfold way1 way2 way3 at HS0
  go_loopw [26, 8] (fun i o wr => ∃ (k : Nat) (oo : Option Addr) (oc : Nat), k ≤ l.length ∧ i = .int .i64 k ∧ o = .slice oo (outI cs l a k).length oc ∧ Box (Sep [Pc.row w.heap.size 3 1 (.slice oo (outI cs l a k).length oc) (outI cs l a k).length (outV (outI cs l a k)), Pc.obj w.heap.size (.map #[way1 mb, way2 mb, way3 mb] 3), Pc.old w.heap.size w] wr))
    (fun i _ _ => l.length - (intOf i).toNat)
  case atStart => exact ⟨0, _, _, Nat.zero_le _, rfl, by rw [outI_zero]; rfl, HS0⟩
  case round =>
    obtain ⟨k, oo, oc, hk, rfl, rfl, hS⟩ := hrel
    clear HS0
    have HBW := Box.mk (hS.out.bel (n := w.heap.size) (W0 := w) (by simp))
    by_cases hlt : k < l.length
    · obtain ⟨x, hx⟩ : ∃ x, l[k]? = some x := ⟨_, List.getElem?_eq_getElem hlt⟩
      obtain ⟨g, off, cap2, hg1, hg2, hg3, hg4, hg5⟩ := (HI.out.below HBW.out).get (by rintro rfl; simp at hlt)
      obtain ⟨rfl, rfl⟩ : io = some ⟨g, off, none⟩ ∧ ic = cap2 := by injection hg1 with h1 h2 h3; exact ⟨h1, h3⟩
      obtain ⟨hc1, hc2⟩ := hg5 k x hx
      have hway := HH.out x (List.mem_of_getElem? hx)
      have HN := Box.mk (outI_succ cs l a k x hx)
      have hOm := outI_mem cs l a (by omega) (by omega) k hk
      have hOl := outI_len cs l a (by omega) (by omega) k hk
      obtain ⟨O, hO⟩ : ∃ O, outI cs l a k = O := ⟨_, rfl⟩
      rw [hO] at hOm hOl HN hS ⊢
      have HOM := Box.mk hOm
      unfold maxLen at hg3
      obtain ⟨set, how⟩ := x
      have HSA := Box.mk ((hS.out.alloc_blk 52 #[.int .i64 set, .int .i64 how]).nil_row w.heap.size 1 3)
      obtain ⟨ub, hub⟩ : ∃ ub, ub = wr.heap.size := ⟨_, rfl⟩
      have HUB := Box.mk hub
      rw [← hub] at HSA
      clear hx hg1 hg5 hO hOm hub
      go_wp2_with fail
      rw [← HUB.out]
      clear HUB
      go_loopw [32, 11] (fun i nv wi => ∃ (j : Nat) (v2 : Value), j ≤ O.length ∧ i = .int .i64 j ∧ v2 = nv ∧ Box (Sep [Pc.row w.heap.size 3 1 v2 ((O.take j).flatMap (nxI cs (set, how))).length (outV ((O.take j).flatMap (nxI cs (set, how)))), Pc.blk ub 52 #[.int .i64 set, .int .i64 how], Pc.row w.heap.size 3 1 (.slice oo O.length oc) O.length (outV O), Pc.obj w.heap.size (.map #[way1 mb, way2 mb, way3 mb] 3), Pc.old w.heap.size w] wi))
        (fun i _ _ => O.length - (intOf i).toNat)
      case atStart => exact ⟨0, _, Nat.zero_le _, rfl, rfl, HSA⟩
      case round =>
        obtain ⟨j, v2, hj, rfl, rfl, hSi⟩ := hrel
        have HBI := Box.mk (hSi.out.bel (n := w.heap.size) (W0 := w) (by simp))
        clear HSA hS
        by_cases hjl : j < O.length
        · obtain ⟨b, hb⟩ : ∃ b, O[j]? = some b := ⟨_, List.getElem?_eq_getElem hjl⟩
          obtain ⟨b0, b1⟩ := HOM.out b (List.mem_of_getElem? hb)
          obtain ⟨q, rfl⟩ := Int.eq_ofNat_of_zero_le b0
          have hq : q ≤ cs.length := by omega
          obtain ⟨og, ooff, ocap, k1, k2, k3, k4, k5⟩ := (IntsAt.of_own (hSi.out.row 2 rfl) rfl).get (by rintro rfl; simp at hjl)
          obtain ⟨rfl, rfl⟩ : oo = some ⟨og, ooff, none⟩ ∧ oc = ocap := by injection k1 with h1 h2 h3; exact ⟨h1, h3⟩
          have c3 := k5 j _ hb
          have hbk := hSi.out.blk 1 rfl
          have c0 : wr.cell? ⟨ub, 0, none⟩ = some (.int .i64 set) := (hbk.cell 0).trans rfl
          have c1 : wr.cell? ⟨ub, 1, none⟩ = some (.int .i64 how) := (hbk.cell 1).trans rfl
          have hmp := hSi.out.at' 3 (p := Pc.obj w.heap.size (.map #[way1 mb, way2 mb, way3 mb] 3)) rfl
          have HMP := Box.mk hmp
          have HFS := Box.mk (flat_succ cs (set, how) O j _ hb)
          have HFL := Box.mk (flat_len cs (set, how) (O.take j) (fun b hb => HOM.out b (List.mem_of_mem_take hb)))
          have HNL := Box.mk (nxI_len cs (set, how) (q : Int) b0 b1)
          have hml2 : Blk wr mb 139 #[cv] := HM.out.below HBI.out hml
          have hcs2 : IntsAt wr cv cs := HC.out.below HBI.out
          have HML2 := Box.mk hml2
          have HCS2 := Box.mk hcs2
          unfold maxLen at k3
          clear k1 k5 hb hbk hmp hml2 hcs2 b0 b1
          have key : ∀ (w2 : World) (xv : Value), IntsAt w2 xv (nxI cs (set, how) (q : Int)) → Below wr.heap.size wr w2 →
              ∀ v' w', Sep ([Pc.row w.heap.size 3 1 v2 ((O.take j).flatMap (nxI cs (set, how))).length (outV ((O.take j).flatMap (nxI cs (set, how)))), Pc.blk ub 52 #[.int .i64 set, .int .i64 how], Pc.row w.heap.size 3 1 (.slice (some ⟨og, ooff, none⟩) O.length oc) O.length (outV O), Pc.obj w.heap.size (.map #[way1 mb, way2 mb, way3 mb] 3), Pc.old w.heap.size w].set 0 (Pc.row w.heap.size 3 1 v' (((O.take j).flatMap (nxI cs (set, how))).length + (nxI cs (set, how) (q : Int)).length) (outV ((O.take j).flatMap (nxI cs (set, how))) ++ (nxI cs (set, how) (q : Int)).map (Value.int .i64)))) w' →
              Sep [Pc.row w.heap.size 3 1 v' ((O.take (j + 1)).flatMap (nxI cs (set, how))).length (outV ((O.take (j + 1)).flatMap (nxI cs (set, how)))), Pc.blk ub 52 #[.int .i64 set, .int .i64 how], Pc.row w.heap.size 3 1 (.slice (some ⟨og, ooff, none⟩) O.length oc) O.length (outV O), Pc.obj w.heap.size (.map #[way1 mb, way2 mb, way3 mb] 3), Pc.old w.heap.size w] w' := fun w2 xv _ _ v' w' h => by
            rw [HFS.out, outV_append, List.length_append]
            exact h
          have KEY := Box.mk key
          have hnb : ((O.take j).flatMap (nxI cs (set, how))).length ≤ 900000 := by
            have h1 := HFL.out
            have h2 : (O.take j).length ≤ 901 := by rw [List.length_take]; omega
            have h3 : (O.take j).length * (cs.length + 1) ≤ 901 * 901 := Nat.mul_le_mul h2 (by omega)
            omega
          have hnm : (nxI cs (set, how) (q : Int)).length ≤ 901 := by have := HNL.out; omega
          clear key
          rcases hway with rfl | rfl | rfl
          · have hlk := map_look1 (P := Tryz.prog) Tryz.underlying159 Tryz.underlying3 wr #[way1 mb, way2 mb, way3 mb] 3 0 w.heap.size HMP.out 0 (way1 mb).val rfl
            simp only [way1] at hlk
            have HON := Box.mk (once_any mb cv cs set q wr HML2.out HCS2.out (by omega) hq)
            go_wp2_with (first
              | (go_at_call 111; refine HON.out.mono ?_; rintro e w2 ⟨⟨xv, rfl, hi⟩, hb2⟩; have hS2 := hSi.out.below hb2; have hle2 := HBI.out.size; have hle3 := hb2.size)
              | (at_builtin; refine wpList_spread rfl _ _ 27 rfl pushIntN (by decide) hS2 0 rfl rfl rfl (cells_ints hi) (by simp) (one_ints _) (by omega) (by omega) (by omega) ?_; intro v' w' hS3))
            have HS3 := Box.mk (KEY.out w2 xv hi hb2 v' w' hS3)
            clear hS3 hS2 hi hb2
            go_roundw
            case rel => exact ⟨j + 1, v', hjl, by go_num, rfl, HS3⟩
            case measure => simp [intOf]; omega
          · have hlk := map_look1 (P := Tryz.prog) Tryz.underlying159 Tryz.underlying3 wr #[way1 mb, way2 mb, way3 mb] 3 1 w.heap.size HMP.out 1 (way2 mb).val rfl
            simp only [way2] at hlk
            have HON := Box.mk (any_any mb cv cs set q wr HML2.out HCS2.out (by omega) hq)
            go_wp2_with (first
              | (go_at_call 112; refine HON.out.mono ?_; rintro e w2 ⟨⟨xv, rfl, hi⟩, hb2⟩; have hS2 := hSi.out.below hb2; have hle2 := HBI.out.size; have hle3 := hb2.size)
              | (at_builtin; refine wpList_spread rfl _ _ 27 rfl pushIntN (by decide) hS2 0 rfl rfl rfl (cells_ints hi) (by simp) (one_ints _) (by omega) (by omega) (by omega) ?_; intro v' w' hS3))
            have HS3 := Box.mk (KEY.out w2 xv hi hb2 v' w' hS3)
            clear hS3 hS2 hi hb2
            go_roundw
            case rel => exact ⟨j + 1, v', hjl, by go_num, rfl, HS3⟩
            case measure => simp [intOf]; omega
          · have hlk := map_look1 (P := Tryz.prog) Tryz.underlying159 Tryz.underlying3 wr #[way1 mb, way2 mb, way3 mb] 3 2 w.heap.size HMP.out 2 (way3 mb).val rfl
            simp only [way3] at hlk
            have HON := Box.mk (pairs_any mb cv cs set q wr HML2.out HCS2.out (by omega) hq)
            go_wp2_with (first
              | (go_at_call 113; refine HON.out.mono ?_; rintro e w2 ⟨⟨xv, rfl, hi⟩, hb2⟩; have hS2 := hSi.out.below hb2; have hle2 := HBI.out.size; have hle3 := hb2.size)
              | (at_builtin; refine wpList_spread rfl _ _ 27 rfl pushIntN (by decide) hS2 0 rfl rfl rfl (cells_ints hi) (by simp) (one_ints _) (by omega) (by omega) (by omega) ?_; intro v' w' hS3))
            have HS3 := Box.mk (KEY.out w2 xv hi hb2 v' w' hS3)
            clear hS3 hS2 hi hb2
            go_roundw
            case rel => exact ⟨j + 1, v', hjl, by go_num, rfl, HS3⟩
            case measure => simp [intOf]; omega
        · have hjl : j = O.length := by omega
          have hfl := flat_len cs (set, how) O HOM.out
          have hO2 : O.length * (cs.length + 1) ≤ 901 * 901 := Nat.mul_le_mul (by omega) (by omega)
          have hSz := hSi.out
          rw [hjl, List.take_length] at hSz
          have HPL := Box.mk (places_sep hSz 0 (zs := O.flatMap (nxI cs (set, how))) rfl rfl (by omega))
          clear hfl hO2 hSz
          go_wp2_with fail
          refine HPL.out.mono ?_; rintro e w2 ⟨v', rfl, hS2⟩
          have hS3 := (hS2.drop 1).drop 1
          rw [← HN.out] at hS3
          obtain ⟨oo2, oc2, rfl⟩ := ownsRow_shape (hS3.row 0 rfl)
          have HS3 := Box.mk hS3
          clear hS2 hS3
          go_wp2_with fail
          go_roundw
          case rel => exact ⟨k + 1, oo2, oc2, hlt, by go_num, rfl, HS3⟩
          case measure => simp [intOf]; omega
    · have hkl : k = l.length := by omega
      have HR := Box.mk (show IntsAt wr (.slice oo (outI cs l a k).length oc) (outI cs l a l.length) by
        have := IntsAt.of_own (hS.out.row 0 rfl) rfl
        rwa [hkl] at this ⊢)
      go_wp2_with fail
      go_ret
      exact ⟨⟨_, rfl, HR.out⟩, HBW.out⟩
end Go.Proofs.YtbpcipobdokcfaaGreatDoor

/- THE WALKS OF package pattern: whether a pattern fits behind a place. -/
namespace Go.Proofs.YtbpcipobdokcfaaGreatDoor
open Go.RowKit

/-- a pattern fits behind a place -/
def behindB (st : Bool) (l : List N.Item) (cs : List Int) (p : Int) : Bool :=
  rightB l && decide (0 ≤ p) && decide (p ≤ cs.length) && (List.range (if st then 1 else p.toNat + 1)).any fun f => decide (p ∈ outI (cs.take p.toNat) l f l.length)
theorem ints_cut {w : World} {ao : Option Addr} {cap n : Nat} {cs : List Int} (h : IntsAt w (.slice ao cs.length cap) cs) (hn : n ≤ cs.length) : IntsAt w (.slice ao n n) (cs.take n) := by
  rcases h with ⟨h1, rfl⟩ | ⟨b, off, sp, cap', h1, h2, h3, h4⟩
  · injection h1 with h1 h2 h3
    subst h1
    simp only [List.length_nil, Nat.le_zero] at hn
    subst hn
    exact .inl ⟨rfl, rfl⟩
  · injection h1 with h1 _ h2'
    subst h1 h2'
    have hl : (cs.take n).length = n := by rw [List.length_take]; omega
    refine .inr ⟨b, off, sp, n, by rw [hl], by omega, by omega, fun hne => ?_⟩
    have hcs : cs ≠ [] := by rintro rfl; simp at hne
    obtain ⟨h5, h6, h7⟩ := h4 hcs
    refine ⟨h5, h6, fun i x hx => h7 i x ?_⟩
    rw [List.getElem?_take] at hx
    split at hx
    · exact hx
    · cases hx
theorem items_how {l : List N.Item} (h : rightB l = true) : ∀ x ∈ l, x.2 = 0 ∨ x.2 = 1 ∨ x.2 = 2 := by
  intro x hx
  obtain ⟨i, hi, e⟩ := List.getElem_of_mem hx
  have := right_item h (i := i) (x := x) (by rw [List.getElem?_eq_getElem hi, e])
  omega
theorem any_range {p : Nat → Bool} {n : Nat} (h : ∀ f, f < n → p f = false) : (List.range n).any p = false := by
  rw [Bool.eq_false_iff]
  intro ha
  obtain ⟨f, hf, hp⟩ := List.any_eq_true.1 ha
  rw [h f (List.mem_range.1 hf)] at hp
  cases hp

set_option maxHeartbeats 4000000 in
theorem behind_any (st : Bool) (v : Value) (l : List N.Item) (cv : Value) (cs : List Int) (p : Int) (w : World) (hv : ItemsAt w v l) (hz : l.length ≤ 16777216) (hc : IntsAt w cv cs) (hcz : cs.length ≤ 900) :
    Calls Tryz.prog 123 #[.agg #[.bool st, v], cv, .int .i64 p] w fun e w' => e = .returned (.bool (behindB st l cs p)) ∧ Below w.heap.size w w' := by
  obtain ⟨W, hW⟩ : ∃ W, W = w.alloc (.cells #[.bool st, v] 42) := ⟨_, rfl⟩
  have hbW : Below w.heap.size w W := by rw [hW]; exact alloc_below' _ _
  have hbk : Blk W w.heap.size 42 #[.bool st, v] := by rw [hW]; exact Blk.new _ _ _
  have HP := Box.mk (pright_any st v l W (hv.below hbW) hz)
  have HV := Box.mk (hv.below hbW)
  have HC := Box.mk (hc.below hbW)
  have HBK := Box.mk hbk
  have HBW := Box.mk hbW
  obtain ⟨ao, cap, rfl⟩ := hc.slice
  have c0 : W.cell? ⟨w.heap.size, 0, none⟩ = some (.bool st) := (hbk.cell 0).trans rfl
  have c1 : W.cell? ⟨w.heap.size, 1, none⟩ = some v := (hbk.cell 1).trans rfl
  have HW := Box.mk hW
  clear hv hc hbk hbW hW
  go_enter Tryz.func123, Tryz.ntmps123
  cases hr : rightB l with
  | false =>
    have HR := Box.mk (show behindB st l cs p = false by unfold behindB; rw [hr]; rfl)
    have HRR := Box.mk hr
    clear hr
    go_upto_region 1 with (fail)
    rw [← HW.out]
    go_wp2_with fail
    refine HP.out.mono ?_; rintro e w1 ⟨rfl, hb1⟩; rw [HRR.out]
    have HB1 := Box.mk hb1
    clear hb1
    go_wp2_with fail
    go_ret
    exact ⟨ret_bool HR.out.symm, HBW.out.trans (HB1.out.mono HBW.out.size)⟩
  | true =>
    have HRR := Box.mk hr
    clear hr
    rcases Int.lt_or_le p 0 with h0 | h0
    · have HR := Box.mk (show behindB st l cs p = false by unfold behindB; rw [decide_eq_false (by omega : ¬ 0 ≤ p), Bool.and_false]; rfl)
      go_upto_region 1 with (fail)
      rw [← HW.out]
      go_wp2_with fail
      refine HP.out.mono ?_; rintro e w1 ⟨rfl, hb1⟩; rw [HRR.out]
      have HB1 := Box.mk hb1
      clear hb1
      go_wp2_with fail
      go_ret
      exact ⟨ret_bool HR.out.symm, HBW.out.trans (HB1.out.mono HBW.out.size)⟩
    rcases Int.lt_or_le cs.length p with h1 | h1
    · have HR := Box.mk (show behindB st l cs p = false by unfold behindB; rw [decide_eq_false (by omega : ¬ p ≤ cs.length), Bool.and_false]; rfl)
      go_upto_region 1 with (fail)
      rw [← HW.out]
      go_wp2_with fail
      refine HP.out.mono ?_; rintro e w1 ⟨rfl, hb1⟩; rw [HRR.out]
      have HB1 := Box.mk hb1
      clear hb1
      go_wp2_with fail
      go_ret
      exact ⟨ret_bool HR.out.symm, HBW.out.trans (HB1.out.mono HBW.out.size)⟩
    obtain ⟨q, rfl⟩ := Int.eq_ofNat_of_zero_le h0
    have hq : q ≤ cs.length := by omega
    have hcc : cs.length ≤ cap ∧ cap ≤ 9223372036854775807 := by
      have := HC.out
      rcases this with ⟨e1, e2⟩ | ⟨b, off, sp, cap', e1, e2, e3, e4⟩
      · injection e1 with _ _ e; subst e; rw [e2]; simp
      · injection e1 with _ _ e; subst e; unfold maxLen at e3; omega
    obtain ⟨hcc, hcm⟩ := hcc
    have HBE := Box.mk (show behindB st l cs (q : Int) = (List.range (if st then 1 else q + 1)).any fun f => decide ((q : Int) ∈ outI (cs.take q) l f l.length) by
      unfold behindB
      rw [HRR.out, decide_eq_true h0, decide_eq_true (by omega : (q : Int) ≤ cs.length), Int.toNat_natCast]
      rfl)
    go_upto_region 1 with (fail)
    rw [← HW.out]
    go_wp2_with fail
    refine HP.out.mono ?_; rintro e w1 ⟨rfl, hb1⟩; rw [HRR.out]
    have hbk1 := HBK.out.below hb1 HBK.out.lt
    have HBK1 := Box.mk hbk1
    have HB1 := Box.mk (HBW.out.trans (hb1.mono HBW.out.size))
    have HV1 := Box.mk (HV.out.below hb1)
    have HC1 := Box.mk (ints_cut (HC.out.below hb1) hq)
    clear hb1 hbk1 c0 c1
    go_wp2_with fail
    obtain ⟨W2, hW2⟩ : ∃ W2, W2 = w1.alloc (.cells #[.slice ao q q] 139) := ⟨_, rfl⟩
    obtain ⟨mb, hmb⟩ : ∃ mb, mb = w1.heap.size := ⟨_, rfl⟩
    have hb2 : Below w1.heap.size w1 W2 := by rw [hW2]; exact alloc_below' _ _
    have HM2 := Box.mk (show Blk W2 mb 139 #[.slice ao q q] by rw [hW2, hmb]; exact Blk.new _ _ _)
    have HBK2 := Box.mk (HBK1.out.below hb2 HBK1.out.lt)
    have HB2 := Box.mk (HB1.out.trans (hb2.mono HB1.out.size))
    have HV2 := Box.mk (HV1.out.below hb2)
    have HC2 := Box.mk (HC1.out.below hb2)
    have HLT := Box.mk (And.intro HM2.out.lt HBK2.out.lt)
    have hl10 := right_len HRR.out
    have hqt : (cs.take q).length = q := by rw [List.length_take]; omega
    have HQT := Box.mk hqt
    have HWAY := Box.mk (items_how HRR.out)
    rw [← hW2, ← hmb]
    have hq9 : q ≤ 900 := by omega
    clear hW2 hmb hb2 hqt h0 h1 hq hcc hcm
    generalize decide ((q : Int) < 0) = z1
    generalize decide (cs.length < q) = z2
    generalize (z1 || z2) = z3
    go_loopw [31] (fun i wr => ∃ k : Nat, k ≤ q + 1 ∧ i = .int .i64 k ∧ (st = true → k = 0) ∧ Box (∀ f : Nat, f < k → decide ((q : Int) ∈ outI (cs.take q) l f l.length) = false) ∧ Box (Below W2.heap.size W2 wr)) (fun i _ => q + 1 - (intOf i).toNat)
    case atStart => exact ⟨0, by omega, rfl, fun _ => rfl, ⟨fun f hf => by omega⟩, ⟨Below.refl _ _⟩⟩
    case round =>
      obtain ⟨k, hk, rfl, hst, hno, hbr⟩ := hrel
      have HBR := Box.mk (HB2.out.trans (hbr.out.mono HB2.out.size))
      have HST := Box.mk hst
      clear hst
      by_cases hlt : k < q + 1
      · have hbk := HBK2.out.below hbr.out HLT.out.2
        have c0 : wr.cell? ⟨w.heap.size, 0, none⟩ = some (.bool st) := (hbk.cell 0).trans rfl
        have c1 : wr.cell? ⟨w.heap.size, 1, none⟩ = some v := (hbk.cell 1).trans rfl
        have HEN := Box.mk (ends_any mb (.slice ao q q) (cs.take q) v l k wr (HM2.out.below hbr.out HLT.out.1) (HC2.out.below hbr.out) (HV2.out.below hbr.out) HWAY.out (by have := HQT.out; omega) (by omega) (by have := HQT.out; omega))
        have HOL := Box.mk (outI_len (cs.take q) l k (by omega) (by have := HQT.out; omega) l.length (Nat.le_refl _))
        have hlw := hbk.lt
        have HBKR := Box.mk hbk
        clear hbk
        cases hd : decide ((q : Int) ∈ outI (cs.take q) l k l.length) with
        | true =>
          have HD := Box.mk hd
          have HR := Box.mk (show behindB st l cs (q : Int) = true by
            rw [HBE.out, List.any_eq_true]
            refine ⟨k, List.mem_range.2 ?_, hd⟩
            cases hs : st with
            | true => have := HST.out hs; rw [if_pos rfl]; omega
            | false => rw [if_neg (by simp)]; exact hlt)
          clear hd
          go_wp2_with (first
            | (go_at_call 88; refine HEN.out.mono ?_; rintro e w3 ⟨⟨xv, rfl, hi⟩, hb3⟩; have HB3 := Box.mk hb3; have HCT := Box.mk (containsC_any xv _ (q : Int) w3 hi (by have := HOL.out; have := HQT.out; omega)); clear hi hb3)
            | (go_at_call 129; refine HCT.out.mono ?_; rintro e w4 ⟨rfl, rfl⟩; rw [HD.out]))
          go_ret
          exact ⟨ret_bool HR.out.symm, HBR.out.trans (HB3.out.mono HBR.out.size)⟩
        | false =>
          have HD := Box.mk hd
          have HNO := Box.mk (show ∀ f : Nat, f < k + 1 → decide ((q : Int) ∈ outI (cs.take q) l f l.length) = false from fun f hf => by
            rcases Nat.lt_or_ge f k with h | h
            · exact hno.out f h
            · obtain rfl : f = k := by omega
              exact hd)
          clear hd
          rcases Bool.eq_false_or_eq_true st with hs | hs
          · have HS := Box.mk hs
            have HR := Box.mk (show behindB st l cs (q : Int) = false by
              rw [HBE.out, hs, if_pos rfl]
              exact any_range fun f hf => HNO.out f (by omega))
            rw [hs] at c0
            clear hs
            go_wp2_with (first
              | (go_at_call 88; refine HEN.out.mono ?_; rintro e w3 ⟨⟨xv, rfl, hi⟩, hb3⟩; have HB3 := Box.mk hb3; have HCT := Box.mk (containsC_any xv _ (q : Int) w3 hi (by have := HOL.out; have := HQT.out; omega)); have c3 := (hb3.cell (p := ⟨w.heap.size, 0, none⟩) hlw).trans c0; clear hi hb3)
              | (go_at_call 129; refine HCT.out.mono ?_; rintro e w4 ⟨rfl, rfl⟩; rw [HD.out]))
            go_ret
            exact ⟨ret_bool HR.out.symm, HBR.out.trans (HB3.out.mono HBR.out.size)⟩
          · have HS := Box.mk hs
            rw [hs] at c0
            clear hs
            go_wp2_with (first
              | (go_at_call 88; refine HEN.out.mono ?_; rintro e w3 ⟨⟨xv, rfl, hi⟩, hb3⟩; have HB3 := Box.mk hb3; have HCT := Box.mk (containsC_any xv _ (q : Int) w3 hi (by have := HOL.out; have := HQT.out; omega)); have c3 := (hb3.cell (p := ⟨w.heap.size, 0, none⟩) hlw).trans c0; clear hi hb3)
              | (go_at_call 129; refine HCT.out.mono ?_; rintro e w4 ⟨rfl, rfl⟩; rw [HD.out]))
            go_roundw
            case rel => exact ⟨k + 1, by omega, by go_num, (fun h => by rw [HS.out] at h; cases h), HNO, ⟨hbr.out.trans (HB3.out.mono hbr.out.size)⟩⟩
            case measure => simp [intOf]; omega
      · have hkq : k = q + 1 := by omega
        have hs : st = false := by
          rw [Bool.eq_false_iff]
          intro h
          have := HST.out h
          omega
        have HR := Box.mk (show behindB st l cs (q : Int) = false by
          rw [HBE.out, hs, if_neg (by simp)]
          exact any_range fun f hf => hno.out f (by omega))
        clear hs hkq
        go_wp2_with fail
        go_ret
        exact ⟨ret_bool HR.out.symm, HBR.out⟩
end Go.Proofs.YtbpcipobdokcfaaGreatDoor

/- PLAIN. The program's answer whether a pattern fits behind a place, and the sets of states that layer 10 speaks of. -/
namespace Go.Proofs.YtbpcipobdokcfaaGreatDoor
open Go.RowKit

theorem hows {l : List N.Item} (h : rightB l = true) (i : Nat) : N.howAt l i = 0 ∨ N.howAt l i = 1 ∨ N.howAt l i = 2 := by
  unfold N.howAt
  rcases Nat.lt_or_ge i l.length with hi | hi
  · have := items_how h l[i] (List.getElem_mem hi)
    rw [List.getD_eq_getElem?_getD, List.getElem?_eq_getElem hi]
    exact this
  · rw [List.getD_eq_getElem?_getD, List.getElem?_eq_none hi]
    exact .inl rfl
theorem behind_iff {l : List N.Item} (hr : rightB l = true) (st : Bool) (cs : List Int) (i : Nat) (hi : i ≤ cs.length) : behindB st l cs (i : Int) = N.doneB l (N.at' l st (N.clo l 0) cs i) := by
  rw [Bool.eq_iff_iff, N.done_iff l st cs (hows hr) i hi]
  unfold behindB
  rw [hr, decide_eq_true (by omega : (0 : Int) ≤ (i : Int)), decide_eq_true (by omega : (i : Int) ≤ cs.length), Int.toNat_natCast]
  simp only [Bool.true_and, List.any_eq_true, List.mem_range, decide_eq_true_eq]
  constructor
  · rintro ⟨f, hf, hm⟩
    obtain ⟨n, hn, he⟩ := (outI_iff (hows hr) f l.length (Nat.le_refl _) (i : Int)).1 hm
    obtain rfl : i = n := by omega
    have he' := (N.Ends_take (Nat.le_refl i)).1 he
    refine ⟨f, fun hs => ?_, he'.le, he'⟩
    rw [hs, if_pos rfl] at hf
    omega
  · rintro ⟨f, hs, hf, he⟩
    refine ⟨f, ?_, (outI_iff (hows hr) f l.length (Nat.le_refl _) (i : Int)).2 ⟨i, rfl, (N.Ends_take (Nat.le_refl i)).2 he⟩⟩
    cases st with
    | true => rw [if_pos rfl, hs rfl]; omega
    | false => rw [if_neg (by simp)]; omega
end Go.Proofs.YtbpcipobdokcfaaGreatDoor

/- PLAIN. Rules' machine goes as their sets of states do, side by side. Nothing of any program. -/
namespace Go.Proofs.YtbpcipobdokcfaaGreatDoor.D

/-- a number, or none -/
def cut (n : Nat) (c : Int) : Int := if c < 0 ∨ (n : Int) ≤ c then -1 else c
def cuts (n : Nat) (cs : List Int) : List Int := cs.map (cut n)
/-- the sets behind the first i numbers -/
def allAt (rs : List Side) (cs : List Int) (i : Nat) : Sets := (cs.take i).foldl (stepAll rs) (firstAll rs)
theorem allAt_zero (rs : List Side) (cs : List Int) : allAt rs cs 0 = firstAll rs := by simp [allAt]
theorem allAt_succ (rs : List Side) (cs : List Int) (i : Nat) (c : Int) (h : cs[i]? = some c) : allAt rs cs (i + 1) = stepAll rs (allAt rs cs i) c := by
  unfold allAt
  rw [List.take_add_one, h, List.foldl_append]
  rfl
theorem allAt_get (rs : List Side) (cs : List Int) (j : Nat) (hj : j < rs.length) : ∀ i, i ≤ cs.length → (allAt rs cs i).getD j 0 = N.at' (sideAt rs j).2 (sideAt rs j).1 (N.clo (sideAt rs j).2 0) cs i
  | 0, _ => by
    rw [allAt_zero, N.at_zero]
    unfold firstAll
    rw [List.getD, List.getElem?_map, List.getElem?_range hj]
    rfl
  | i + 1, h => by
    have ih := allAt_get rs cs j hj i (by omega)
    have hc : cs[i]? = some (cs[i]'(by omega)) := List.getElem?_eq_getElem (by omega)
    rw [allAt_succ rs cs i _ hc, N.at_succ _ _ _ _ _ _ hc, ← ih, List.getD, stepAll_get rs _ _ j hj]
    rfl
/-- which rules are done, bit by bit -/
theorem done_behind (rs : List Side) (hr : ∀ x ∈ rs, rightB x.2 = true) (cs : List Int) (i : Nat) (hi : i ≤ cs.length) (j : Nat) (hj : j < rs.length) :
    (doneTo rs (allAt rs cs i) rs.length).testBit j = behindB (sideAt rs j).1 (sideAt rs j).2 cs (i : Int) := by
  have hm : sideAt rs j ∈ rs := by
    unfold sideAt
    rw [List.getD, List.getElem?_eq_getElem hj]
    exact List.getElem_mem hj
  rw [doneTo_bit, decide_eq_true hj, Bool.true_and, behind_iff (hr _ hm) _ cs i hi]
  unfold doneAt
  rw [allAt_get rs cs j hj i hi]

/-- each state that was looked at: its columns, its rules -/
def Sound (rs : List Side) (n : Nat) (b : Bld) : Prop := ∀ q S, q < b.next.length → b.todo[q]? = some S →
  (∃ r, b.next[q]? = some r ∧ ∀ j, j ≤ n → ∃ m, r[j]? = some m ∧ b.todo[m]? = some (stepAll rs S (cls n j))) ∧ b.fits[q]? = some (doneTo rs S rs.length)
theorem sound_build (rs : List Side) (n : Nat) : ∀ K, Sound rs n (build rs n K)
  | 0 => fun q S hq _ => by simp [build] at hq
  | K + 1 => by
    have ih := sound_build rs n K
    have e2 : build rs n (K + 1) = (build rs n K).go rs n := rfl
    obtain ⟨h1, h2, h3⟩ := build_len rs n K
    rw [e2]
    cases hS : (build rs n K).todo[(build rs n K).next.length]? with
    | none =>
      have : (build rs n K).go rs n = build rs n K := by unfold Bld.go; rw [hS]
      rw [this]
      exact ih
    | some S0 =>
      rw [go_some rs n hS]
      intro q S hq hSq
      simp only at hq hSq ⊢
      rw [List.length_append, List.length_singleton] at hq
      have hpre := row_pre rs n S0 (build rs n K).todo (n + 1)
      rcases Nat.lt_or_ge q (build rs n K).next.length with hlt | hge
      · have hS' : (build rs n K).todo[q]? = some S := by
          have hx : (build rs n K).todo[q]? = some ((build rs n K).todo[q]'(by omega)) := List.getElem?_eq_getElem (by omega)
          have := pre_get hpre hx
          rw [hSq] at this
          rw [hx, ← this]
        obtain ⟨⟨r, k1, k2⟩, k3⟩ := ih q S hlt hS'
        refine ⟨⟨r, ?_, fun j hj => ?_⟩, ?_⟩
        · rw [List.getElem?_append_left hlt]; exact k1
        · obtain ⟨m, k4, k5⟩ := k2 j hj
          exact ⟨m, k4, pre_get hpre k5⟩
        · rw [List.getElem?_append_left (by omega)]; exact k3
      · obtain rfl : q = (build rs n K).next.length := by omega
        have hSS : S0 = S := by
          have := pre_get hpre hS
          rw [hSq] at this
          exact (Option.some.inj this).symm
        subst hSS
        refine ⟨⟨(row rs n S0 (build rs n K).todo (n + 1)).1, ?_, fun j hj => row_get rs n S0 _ (n + 1) (by omega)⟩, ?_⟩
        · rw [List.getElem?_append_right (Nat.le_refl _), Nat.sub_self]; rfl
        · rw [h1, List.getElem?_append_right (Nat.le_refl _), Nat.sub_self]; rfl
theorem few_all {rs : List Side} {n : Nat} (h : isFew rs n = true) : (build rs n 300).next.length = (build rs n 300).todo.length := by
  have hle : (build rs n 300).todo.length ≤ 300 := of_decide_eq_true h
  have hl := build_len rs n 300
  omega
theorem first_get (rs : List Side) (n : Nat) : ∀ K, (build rs n K).todo[0]? = some (firstAll rs)
  | 0 => rfl
  | K + 1 => pre_get (go_pre rs n _) (first_get rs n K)
end Go.Proofs.YtbpcipobdokcfaaGreatDoor.D

/- PLAIN. Cuts by a machine. Nothing of any program. -/
namespace Go.Proofs.YtbpcipobdokcfaaGreatDoor
open Go.RowKit

/-- a pattern fits from a place on -/
def aheadB (st : Bool) (l : List N.Item) (cs : List Int) (p : Int) : Bool :=
  rightB l && decide (0 ≤ p) && decide (p ≤ cs.length) && !(st && decide (0 < p)) && decide (0 < (outI cs l p l.length).length)
namespace G
/-- a rule is in some fits, and its right side fits from a place on -/
def hit (R : List D.Rule) (ks : List Int) (f : Nat) (p : Int) (i : Nat) : Bool := f.testBit i && match R[i]? with | some x => aheadB x.2.1.1 x.2.1.2 ks p | none => false
def isCut (R : List D.Rule) (ks : List Int) (f : Nat) (p : Int) : Bool := match (List.range R.length).find? (hit R ks f p) with | some i => (R[i]?.map fun x => x.2.2).getD true | none => true
theorem range_find (q : Nat → Bool) : ∀ n k, k < n → q k = true → (∀ i, i < k → q i = false) → (List.range n).find? q = some k
  | 0, _, h, _, _ => by omega
  | n + 1, k, h, hk, hi => by
    rw [List.range_succ, List.find?_append]
    rcases Nat.lt_or_ge k n with h1 | h1
    · rw [range_find q n k h1 hk hi]; rfl
    · obtain rfl : k = n := by omega
      have hn : (List.range k).find? q = none := by
        rw [List.find?_eq_none]
        intro i hm
        rw [hi i (List.mem_range.1 hm)]
        exact Bool.false_ne_true
      rw [hn, Option.none_or, List.find?_cons_of_pos hk]
theorem isCut_hit {R : List D.Rule} {ks : List Int} {f : Nat} {p : Int} {k : Nat} {x : D.Rule} (hx : R[k]? = some x) (hk : hit R ks f p k = true) (hi : ∀ i, i < k → hit R ks f p i = false) : isCut R ks f p = x.2.2 := by
  unfold isCut
  rw [range_find _ _ k (List.getElem?_eq_some_iff.1 hx).1 hk hi]
  simp [hx]
theorem isCut_none {R : List D.Rule} {ks : List Int} {f : Nat} {p : Int} (hi : ∀ i, i < R.length → hit R ks f p i = false) : isCut R ks f p = true := by
  unfold isCut
  rw [List.find?_eq_none.2 (fun i hm => by rw [hi i (List.mem_range.1 hm)]; exact Bool.false_ne_true)]
end G
/-- a boundary at a place -/
def cutAt (R : List D.Rule) (M : D.Mach) (nn : Nat) (L : List Int) (p : Nat) : Bool := G.isCut R (D.cuts nn L) (fitM M (stM nn M L p)).toNat (p : Int)
def midL (R : List D.Rule) (M : D.Mach) (nn : Nat) (L : List Int) (k : Nat) : List Nat := ((List.range k).map (· + 1)).filter (cutAt R M nn L)
def cutsL (R : List D.Rule) (M : D.Mach) (nn : Nat) (L : List Int) : List Int := (0 :: midL R M nn L (L.length - 1)).map (fun n : Nat => (n : Int)) ++ if 0 < L.length then [(L.length : Int)] else []
/-- rules and a machine that may be cut by -/
def areB (R : List D.Rule) (M : D.Mach) (n : Int) : Bool := rulesB n R && machR n M && M.2.all fun f => decide (f < 2 ^ R.length)
end Go.Proofs.YtbpcipobdokcfaaGreatDoor

/- THE WALKS OF package pattern: whether a pattern fits from a place on. -/
namespace Go.Proofs.YtbpcipobdokcfaaGreatDoor
open Go.RowKit

set_option maxHeartbeats 4000000 in
theorem ahead_any (st : Bool) (v : Value) (l : List N.Item) (cv : Value) (cs : List Int) (p : Int) (w : World) (hv : ItemsAt w v l) (hz : l.length ≤ 16777216) (hc : IntsAt w cv cs) (hcz : cs.length ≤ 900) :
    Calls Tryz.prog 61 #[.agg #[.bool st, v], cv, .int .i64 p] w fun e w' => e = .returned (.bool (aheadB st l cs p)) ∧ Below w.heap.size w w' := by
  obtain ⟨W, hW⟩ : ∃ W, W = w.alloc (.cells #[.bool st, v] 42) := ⟨_, rfl⟩
  have hbW : Below w.heap.size w W := by rw [hW]; exact alloc_below' _ _
  have hbk : Blk W w.heap.size 42 #[.bool st, v] := by rw [hW]; exact Blk.new _ _ _
  have HP := Box.mk (pright_any st v l W (hv.below hbW) hz)
  have HV := Box.mk (hv.below hbW)
  have HC := Box.mk (hc.below hbW)
  have HBK := Box.mk hbk
  have HBW := Box.mk hbW
  obtain ⟨ao, cap, rfl⟩ := hc.slice
  have c0 : W.cell? ⟨w.heap.size, 0, none⟩ = some (.bool st) := (hbk.cell 0).trans rfl
  have c1 : W.cell? ⟨w.heap.size, 1, none⟩ = some v := (hbk.cell 1).trans rfl
  have HW := Box.mk hW
  clear hv hc hbk hbW hW
  go_enter Tryz.func61, Tryz.ntmps61
  go_upto_region 1 with (fail)
  rw [← HW.out]
  cases hr : rightB l with
  | false =>
    have HR := Box.mk (show aheadB st l cs p = false by unfold aheadB; rw [hr]; rfl)
    have HRR := Box.mk hr
    clear hr
    go_wp2_with fail
    refine HP.out.mono ?_; rintro e w1 ⟨rfl, hb1⟩; rw [HRR.out]
    have HB1 := Box.mk hb1
    clear hb1
    go_wp2_with fail
    go_ret
    exact ⟨ret_bool HR.out.symm, HBW.out.trans (HB1.out.mono HBW.out.size)⟩
  | true =>
    have HRR := Box.mk hr
    clear hr
    rcases Int.lt_or_le p 0 with h0 | h0
    · have HR := Box.mk (show aheadB st l cs p = false by unfold aheadB; rw [decide_eq_false (by omega : ¬ 0 ≤ p), Bool.and_false]; rfl)
      go_wp2_with fail
      refine HP.out.mono ?_; rintro e w1 ⟨rfl, hb1⟩; rw [HRR.out]
      have HB1 := Box.mk hb1
      clear hb1
      go_wp2_with fail
      go_ret
      exact ⟨ret_bool HR.out.symm, HBW.out.trans (HB1.out.mono HBW.out.size)⟩
    rcases Int.lt_or_le cs.length p with h1 | h1
    · have HR := Box.mk (show aheadB st l cs p = false by unfold aheadB; rw [decide_eq_false (by omega : ¬ p ≤ cs.length), Bool.and_false]; rfl)
      go_wp2_with fail
      refine HP.out.mono ?_; rintro e w1 ⟨rfl, hb1⟩; rw [HRR.out]
      have HB1 := Box.mk hb1
      clear hb1
      go_wp2_with fail
      go_ret
      exact ⟨ret_bool HR.out.symm, HBW.out.trans (HB1.out.mono HBW.out.size)⟩
    obtain ⟨q, rfl⟩ := Int.eq_ofNat_of_zero_le h0
    have hq : q ≤ cs.length := by omega
    go_wp2_with fail
    refine HP.out.mono ?_; rintro e w1 ⟨rfl, hb1⟩; rw [HRR.out]
    have hbk1 := HBK.out.below hb1 HBK.out.lt
    have d0 : w1.cell? ⟨w.heap.size, 0, none⟩ = some (.bool st) := (hbk1.cell 0).trans rfl
    have d1 : w1.cell? ⟨w.heap.size, 1, none⟩ = some v := (hbk1.cell 1).trans rfl
    have hl1 := hbk1.lt
    have HB1 := Box.mk (HBW.out.trans (hb1.mono HBW.out.size))
    have HV1 := Box.mk (HV.out.below hb1)
    have HC1 := Box.mk (HC.out.below hb1)
    clear hb1 hbk1 c0 c1
    by_cases hs : st = true ∧ 0 < q
    · obtain ⟨hs1, hs2⟩ := hs
      have HR := Box.mk (show aheadB st l cs (q : Int) = false by unfold aheadB; rw [hs1, decide_eq_true (by omega : (0 : Int) < (q : Int))]; simp)
      rw [hs1] at d0
      clear hs1
      go_wp2_with fail
      go_ret
      exact ⟨ret_bool HR.out.symm, HB1.out⟩
    · have HWAY := Box.mk (items_how HRR.out)
      have hl10 := right_len HRR.out
      obtain ⟨W2, hW2⟩ : ∃ W2, W2 = w1.alloc (.cells #[.slice ao cs.length cap] 139) := ⟨_, rfl⟩
      have hb2 : Below w1.heap.size w1 W2 := by rw [hW2]; exact alloc_below' _ _
      have HEN := Box.mk (ends_any w1.heap.size (.slice ao cs.length cap) cs v l q W2 (by rw [hW2]; exact Blk.new _ _ _) (HC1.out.below hb2) (HV1.out.below hb2) HWAY.out hcz (by omega) hq)
      have HB2 := Box.mk (HB1.out.trans (hb2.mono HB1.out.size))
      have HW2 := Box.mk hW2
      have HR := Box.mk (show aheadB st l cs (q : Int) = decide (0 < (outI cs l q l.length).length) by
        unfold aheadB
        rw [HRR.out, decide_eq_true h0, decide_eq_true h1]
        rcases Bool.eq_false_or_eq_true st with e | e
        · have : q = 0 := by
            rcases Nat.eq_zero_or_pos q with h | h
            · exact h
            · exact absurd ⟨e, h⟩ hs
          subst this
          rw [e]
          simp
        · rw [e]; simp)
      clear hb2 hW2
      have fin : ∀ (xv : Value) (w3 : World), IntsAt w3 xv (outI cs l q l.length) → ∃ a c, xv = .slice a (outI cs l q l.length).length c := fun xv w3 h => h.slice
      have FIN := Box.mk fin
      clear fin
      rcases Bool.eq_false_or_eq_true st with e | e
      · have hq0 : q = 0 := by
          rcases Nat.eq_zero_or_pos q with h | h
          · exact h
          · exact absurd ⟨e, h⟩ hs
        rw [e] at d0
        subst hq0
        clear e hs
        go_wp2_with fail
        rw [← HW2.out]
        refine HEN.out.mono ?_; rintro e w3 ⟨⟨xv, rfl, hi⟩, hb3⟩
        obtain ⟨a, c, rfl⟩ := FIN.out _ _ hi
        have HB3 := Box.mk (HB2.out.trans (hb3.mono HB2.out.size))
        clear hi hb3
        go_wp2_with fail
        go_ret
        exact ⟨ret_bool (by rw [HR.out]; first | done | simp), HB3.out⟩
      · rw [e] at d0
        clear e hs
        go_wp2_with fail
        rw [← HW2.out]
        refine HEN.out.mono ?_; rintro e w3 ⟨⟨xv, rfl, hi⟩, hb3⟩
        obtain ⟨a, c, rfl⟩ := FIN.out _ _ hi
        have HB3 := Box.mk (HB2.out.trans (hb3.mono HB2.out.size))
        clear hi hb3
        go_wp2_with fail
        go_ret
        exact ⟨ret_bool (by rw [HR.out]; first | done | simp), HB3.out⟩
end Go.Proofs.YtbpcipobdokcfaaGreatDoor
