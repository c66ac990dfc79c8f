/-
  THE DOCUMENT's ANSWERS OF LAYER 9: the places that items may end at.
-/
import Derived.Test.YtbpcipobdokcfaaGreatDoorHSh2
import Derived.Laws.MakeOwn
import Derived.Test.YtbpcipobdokcfaaGreatDoorH3
namespace Go.Proofs.YtbpcipobdokcfaaGreatDoor
open Go.RowKit Go.Shelf
attribute [local go_sem] Oper.semAt_some

def boolsA (n : Nat) (f : Nat → Bool) : Array Value := ((List.range n).map fun j => Value.bool (f j)).toArray
theorem boolsA_get {n k : Nat} (f : Nat → Bool) (h : k < n) : (boolsA n f)[k]? = some (.bool (f k)) := by
  unfold boolsA
  rw [List.getElem?_toArray, List.getElem?_map, List.getElem?_range h]
  rfl
theorem boolsA_congr {n : Nat} {f g : Nat → Bool} (h : ∀ j, j < n → f j = g j) : boolsA n f = boolsA n g := by
  unfold boolsA
  rw [List.map_congr_left (g := fun j => Value.bool (g j))]
  intro j hj
  rw [h j (List.mem_range.1 hj)]
theorem boolsA_set (n k : Nat) (f : Nat → Bool) (b : Bool) : (boolsA n f).setIfInBounds k (.bool b) = boolsA n (fun j => if j = k then b else f j) := by
  unfold boolsA
  rw [List.setIfInBounds_toArray]
  congr 1
  apply List.ext_getElem?
  intro j
  rw [List.getElem?_set, List.getElem?_map, List.getElem?_map]
  rcases Nat.lt_or_ge j n with hj | hj
  · rw [List.getElem?_range hj]
    by_cases e : k = j
    · subst e; simp; omega
    · rw [if_neg e]; simp [Ne.symm e]
  · rw [List.getElem?_eq_none (by simpa using hj)]
    by_cases e : k = j
    · subst e; simp; omega
    · rw [if_neg e]; rfl
theorem boolsA_zero (n : Nat) : boolsA n (fun _ => false) = Array.replicate n (.bool false) := by
  unfold boolsA
  apply Array.ext'
  rw [Array.toList_replicate]
  apply List.ext_getElem?
  intro j
  rw [List.getElem?_map]
  rcases Nat.lt_or_ge j n with hj | hj
  · rw [List.getElem?_range hj]; simp [hj]
  · rw [List.getElem?_eq_none (by simpa using hj)]; simp; omega
theorem make_bools' (L : Nat) (h : L ≤ 299) (w : World) : (Instr.makeSlice 104 (.int .i64 ((L : Int) + 1)) (.int .i64 ((L : Int) + 1))).run Tryz.prog w = .ok (.slice (some ⟨w.heap.size, 0, none⟩) (L + 1) (L + 1)) (w.alloc (.cells (boolsA (L + 1) fun _ => false) 4)) := by
  have hi : (Tryz.prog.info? 4).map (fun i => (i.zero, i.size, i.bytes)) = some (some (.bool false), 1, 1) := by kernel_rfl
  obtain ⟨z, hz, hz2⟩ := Option.map_eq_some_iff.1 hi
  simp only [Prod.mk.injEq] at hz2
  have hz := And.intro hz hz2
  have := run_makeSlice (P := Tryz.prog) (w := w) 104 4 z (.bool false) Tryz.underlying104 hz.1 hz.2.1 .i64 .i64 ((L : Int) + 1) ((L : Int) + 1) (by omega) (by omega) (by rw [hz.2.2.1]; simp; omega) (by rw [hz.2.2.2]; omega) (by omega)
  have e : madeCells (Value.bool false).cells (((L : Int) + 1).toNat * z.size) = boolsA (L + 1) fun _ => false := by
    rw [hz.2.2.1, boolsA_zero, show ((L : Int) + 1).toNat = L + 1 by omega, Nat.mul_one]
    apply Array.ext'
    rw [Array.toList_replicate]
    exact toList_madeCells_one (Value.bool false) (L + 1)
  rw [this, e, show ((L : Int) + 1).toNat = L + 1 by omega]

def outA (x : N.Item) (cs : List Int) (F : List Bool) (k : Nat) : Array Value := boolsA (cs.length + 1) fun j => if j < k then N.foR x cs F j else if j = k then (N.goR x cs F k).1 else false
def outB (x : N.Item) (cs : List Int) (F : List Bool) (k : Nat) : Array Value := boolsA (cs.length + 1) fun j => if j ≤ k then N.foR x cs F j else false
def halfA (x : N.Item) (cs : List Int) (F : List Bool) (k : Nat) : Array Value := boolsA (cs.length + 1) fun j => if j ≤ k then (N.goR x cs F j).2 else false
theorem outA_zero (x : N.Item) (cs : List Int) (F : List Bool) : outA x cs F 0 = boolsA (cs.length + 1) fun _ => false := boolsA_congr fun j _ => by
  rcases Nat.eq_zero_or_pos j with e | e
  · subst e; rfl
  · simp; omega
theorem halfA_zero (x : N.Item) (cs : List Int) (F : List Bool) : halfA x cs F 0 = boolsA (cs.length + 1) fun _ => false := boolsA_congr fun j _ => by
  rcases Nat.eq_zero_or_pos j with e | e
  · subst e; rfl
  · simp; omega
theorem outA_get {x : N.Item} {cs : List Int} {F : List Bool} {k : Nat} (h : k ≤ cs.length) : (outA x cs F k)[k]? = some (.bool (N.goR x cs F k).1) := by
  unfold outA
  rw [boolsA_get _ (by omega)]
  simp
theorem halfA_get {x : N.Item} {cs : List Int} {F : List Bool} {k : Nat} (h : k ≤ cs.length) : (halfA x cs F k)[k]? = some (.bool (N.goR x cs F k).2) := by
  unfold halfA
  rw [boolsA_get _ (by omega)]
  simp
theorem outB_get {x : N.Item} {cs : List Int} {F : List Bool} {k : Nat} (h : k ≤ cs.length) : (outB x cs F k)[k]? = some (.bool (N.foR x cs F k)) := by
  unfold outB
  rw [boolsA_get _ (by omega)]
  simp
theorem outB_next {x : N.Item} {cs : List Int} {F : List Bool} {k : Nat} (h : k < cs.length) : (outB x cs F k)[k + 1]? = some (.bool false) := by
  unfold outB
  rw [boolsA_get _ (by omega), if_neg (by omega)]
theorem halfA_next {x : N.Item} {cs : List Int} {F : List Bool} {k : Nat} (h : k < cs.length) : (halfA x cs F k)[k + 1]? = some (.bool false) := by
  unfold halfA
  rw [boolsA_get _ (by omega), if_neg (by omega)]
theorem outA_set (x : N.Item) (cs : List Int) (F : List Bool) (k : Nat) : (outA x cs F k).setIfInBounds k (.bool (N.foR x cs F k)) = outB x cs F k := by
  unfold outA outB
  rw [boolsA_set]
  refine boolsA_congr fun j _ => ?_
  rcases Nat.lt_trichotomy j k with h | h | h
  · simp [h, Nat.ne_of_lt h, Nat.le_of_lt h]
  · subst h; simp
  · rw [if_neg (by omega), if_neg (by omega), if_neg (by omega), if_neg (by omega)]
theorem outB_same {x : N.Item} {cs : List Int} {F : List Bool} {k : Nat} (h : cs.length ≤ k ∨ (N.goR x cs F (k + 1)).1 = false) : outB x cs F k = outA x cs F (k + 1) := by
  unfold outA outB
  refine boolsA_congr fun j hj => ?_
  rcases Nat.lt_trichotomy j (k + 1) with h2 | h2 | h2
  · rw [if_pos (by omega), if_pos h2]
  · subst h2
    rcases h with h | h
    · omega
    · rw [if_neg (by omega), if_neg (by omega), if_pos rfl, h]
  · rw [if_neg (by omega), if_neg (by omega), if_neg (by omega)]
theorem outB_set (x : N.Item) (cs : List Int) (F : List Bool) (k : Nat) : (outB x cs F k).setIfInBounds (k + 1) (.bool (N.goR x cs F (k + 1)).1) = outA x cs F (k + 1) := by
  unfold outA outB
  rw [boolsA_set]
  refine boolsA_congr fun j _ => ?_
  rcases Nat.lt_trichotomy j (k + 1) with h | h | h
  · rw [if_neg (by omega), if_pos (by omega), if_pos h]
  · subst h; simp
  · rw [if_neg (by omega), if_neg (by omega), if_neg (by omega), if_neg (by omega)]
theorem halfA_same {x : N.Item} {cs : List Int} {F : List Bool} {k : Nat} (h : cs.length ≤ k ∨ (N.goR x cs F (k + 1)).2 = false) : halfA x cs F k = halfA x cs F (k + 1) := by
  unfold halfA
  refine boolsA_congr fun j hj => ?_
  rcases Nat.lt_trichotomy j (k + 1) with h2 | h2 | h2
  · rw [if_pos (by omega), if_pos (by omega)]
  · subst h2
    rcases h with h | h
    · omega
    · rw [if_neg (by omega), if_pos (Nat.le_refl _), h]
  · rw [if_neg (by omega), if_neg (by omega)]
theorem halfA_set (x : N.Item) (cs : List Int) (F : List Bool) (k : Nat) : (halfA x cs F k).setIfInBounds (k + 1) (.bool (N.goR x cs F (k + 1)).2) = halfA x cs F (k + 1) := by
  unfold halfA
  rw [boolsA_set]
  refine boolsA_congr fun j _ => ?_
  rcases Nat.lt_trichotomy j (k + 1) with h | h | h
  · rw [if_neg (by omega), if_pos (by omega), if_pos (by omega)]
  · subst h; simp
  · rw [if_neg (by omega), if_neg (by omega), if_neg (by omega)]
theorem outA_end (x : N.Item) (cs : List Int) (F : List Bool) : outA x cs F (cs.length + 1) = ((N.outR x cs F).map Value.bool).toArray := by
  unfold outA N.outR boolsA
  rw [List.map_map]
  congr 1
  refine List.map_congr_left fun j hj => ?_
  show Value.bool (if j < cs.length + 1 then _ else _) = _
  rw [if_pos (List.mem_range.1 hj)]
  rfl
theorem goR_next {x : N.Item} {cs : List Int} {F : List Bool} {k : Nat} {c : Int} (hc : cs[k]? = some c) :
    N.goR x cs F (k + 1) = if N.hasC x.1 c = true then (if x.2 = 0 then (F.getD k false, false) else if x.2 = 1 then (N.foR x cs F k, false) else ((N.goR x cs F k).2, N.foR x cs F k)) else (false, false) := by
  have e : cs.getD k (-1) = c := by rw [List.getD_eq_getElem?_getD, hc]; rfl
  show (if N.hasC x.1 (cs.getD k (-1)) = true then _ else _) = _
  rw [e]
  rfl
theorem bools_blk {w : World} {g : Nat} {T : TypeId} {xs : List Bool} (h : Blk w g T (xs.map Value.bool).toArray) (hz : xs.length ≤ 1000000) : BoolsAt w (.slice (some ⟨g, 0, none⟩) xs.length xs.length) xs := by
  refine .inr ⟨g, 0, none, xs.length, rfl, Nat.le_refl _, by unfold maxLen; omega, fun _ => ⟨rfl, h.lt, fun i x hx => ?_⟩⟩
  rw [Nat.zero_add]
  refine (h.cell i).trans ?_
  rw [List.getElem?_toArray, List.getElem?_map, hx]
  rfl
end Go.Proofs.YtbpcipobdokcfaaGreatDoor
