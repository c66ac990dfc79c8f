/-
  PATTERNS AS VALUES; which are right: the program's answer and the document's.
-/
import Derived.Test.YtonpgokgbaemfaaDoorNfaA
import Derived.Deep.SlicePairs
import Derived.Lib.SmallJoins
import Derived.DataReads
namespace Go.Proofs.YtonpgokgbaemfaaDoor
open Go.RowKit

/-- a value that reads as these items -/
def ItemsAt (w : World) (v : Value) (l : List N.Item) : Prop :=
  (v = .slice none 0 0 ∧ l = []) ∨ ∃ b off sp cap, v = .slice (some ⟨b, off, sp⟩) l.length cap ∧ l.length ≤ cap ∧ cap ≤ maxLen ∧
    (l ≠ [] → sp = none ∧ b < w.heap.size ∧ ∀ i x, l[i]? = some x → w.cell? ⟨b, off + i * 2, none⟩ = some (.int .i64 x.1) ∧ w.cell? ⟨b, off + i * 2 + 1, none⟩ = some (.int .i64 x.2))
theorem ItemsAt.below {w w' : World} {v : Value} {l : List N.Item} (h : ItemsAt w v l) (hb : Below w.heap.size w w') : ItemsAt w' v l := by
  rcases h with h | ⟨b, off, sp, cap, h1, h2, h3, h4⟩
  · exact .inl h
  · exact .inr ⟨b, off, sp, cap, h1, h2, h3, fun hn => ⟨(h4 hn).1, Nat.lt_of_lt_of_le (h4 hn).2.1 hb.size, fun i x hx =>
      ⟨(hb.cell (p := ⟨b, off + i * 2, none⟩) (h4 hn).2.1).trans ((h4 hn).2.2 i x hx).1, (hb.cell (p := ⟨b, off + i * 2 + 1, none⟩) (h4 hn).2.1).trans ((h4 hn).2.2 i x hx).2⟩⟩⟩
theorem ItemsAt.get {w : World} {v : Value} {l : List N.Item} (h : ItemsAt w v l) (hn : l ≠ []) :
    ∃ b off cap, v = .slice (some ⟨b, off, none⟩) l.length cap ∧ l.length ≤ cap ∧ cap ≤ maxLen ∧ b < w.heap.size ∧
      ∀ i x, l[i]? = some x → w.cell? ⟨b, off + i * 2, none⟩ = some (.int .i64 x.1) ∧ w.cell? ⟨b, off + i * 2 + 1, none⟩ = some (.int .i64 x.2) := by
  rcases h with ⟨_, h⟩ | ⟨b, off, sp, cap, h1, h2, h3, h4⟩
  · exact absurd h hn
  · obtain ⟨rfl, h5, h6⟩ := h4 hn
    exact ⟨b, off, cap, h1, h2, h3, h5, h6⟩
theorem ItemsAt.slice {w : World} {v : Value} {l : List N.Item} (h : ItemsAt w v l) : ∃ a cap, v = .slice a l.length cap := by
  rcases h with ⟨rfl, rfl⟩ | ⟨b, off, sp, cap, rfl, _⟩
  · exact ⟨_, _, rfl⟩
  · exact ⟨_, _, rfl⟩

def itemB (x : N.Item) : Bool := setB x.1 && decide (0 ≤ x.2) && decide (x.2 ≤ 2)
def rightB (l : List N.Item) : Bool := decide (l.length ≤ 10) && l.all itemB

set_option maxHeartbeats 1000000 in
theorem other_any (x : N.Item) (bn : Nat) (w : World) (hn : w.cell? ⟨bn, 0, none⟩ = some (.int .i64 32)) (hlt : bn < w.heap.size) :
    Calls Tryd.prog 45 #[.agg #[.int .i64 x.1, .int .i64 x.2], .pointer (some ⟨bn, 0, none⟩)] w fun e w' => e = .returned (.bool (!itemB x)) ∧ Below w.heap.size w w' := by
  obtain ⟨set, how⟩ := x
  unfold itemB
  have hb : ∀ o1 o2, Below w.heap.size w ((w.alloc o1).alloc o2) := fun o1 o2 => ((Below.refl _ _).alloc (Nat.le_refl _) _).alloc (by simp) _
  go_enter Tryd.func45, Tryd.ntmps45
  rcases Int.lt_or_le how 0 with h | h
  · go_wp2_with fail
    go_ret
    exact ⟨ret_bool (by simp; omega), hb _ _⟩
  rcases Int.lt_or_le 2 how with h2 | h2
  · go_wp2_with fail
    go_ret
    exact ⟨ret_bool (by simp; omega), hb _ _⟩
  have ho := World.cell?_alloc_old
  go_wp2_with (go_at_call 46; refine (cright_any _ _).mono ?_; rintro e w1 ⟨rfl, rfl⟩)
  go_ret
  exact ⟨ret_bool (by simp [h, h2]), hb _ _⟩

theorem all_take' (l : List N.Item) (k : Nat) (x : N.Item) (h : l[k]? = some x) (ha : (l.take k).all itemB = true) (hx : itemB x = true) : (l.take (k + 1)).all itemB = true := by
  rw [List.take_add_one, h, List.all_append, ha]; simp [hx]
theorem all_no (l : List N.Item) (k : Nat) (x : N.Item) (h : l[k]? = some x) (hx : itemB x = false) : l.all itemB = false := by
  rw [Bool.eq_false_iff]
  intro ha
  rw [List.all_eq_true] at ha
  rw [ha x (List.mem_of_getElem? h)] at hx
  cases hx

set_option maxHeartbeats 2000000 in
theorem index_any (v : Value) (l : List N.Item) (bn : Nat) (w : World) (hv : ItemsAt w v l) (hz : l.length ≤ 16777216) (hn : w.cell? ⟨bn, 0, none⟩ = some (.int .i64 32)) (hlt : bn < w.heap.size) :
    Calls Tryd.prog 53 #[v, .func (.func 45) #[] #[.pointer (some ⟨bn, 0, none⟩)]] w fun e w' => (∃ i : Int, e = .returned (.int .i64 i) ∧ decide (0 ≤ i) = !l.all itemB) ∧ Below w.heap.size w w' := by
  have HVB := Box.mk hv
  obtain ⟨ao, cap, rfl⟩ := hv.slice
  clear hv
  have HN := Box.mk hn
  clear hn
  go_enter Tryd.func53, Tryd.ntmps53
  go_wp2
  go_loopw [8] (fun i wr => ∃ k : Nat, k ≤ l.length ∧ i = .int .i64 k ∧ Box ((l.take k).all itemB = true) ∧ Box (Below w.heap.size w wr)) (fun i _ => l.length - (intOf i).toNat)
  case atStart => exact ⟨0, by omega, rfl, ⟨rfl⟩, ⟨Below.refl _ _⟩⟩
  case round =>
    obtain ⟨k, hk, rfl, ha, hb⟩ := hrel
    by_cases hlt' : k < l.length
    · obtain ⟨x, hx⟩ : ∃ x, l[k]? = some x := ⟨_, List.getElem?_eq_getElem hlt'⟩
      have HX := Box.mk hx
      obtain ⟨g, off, cap2, hg1, hg2, hg3, hg4, hg5⟩ := (HVB.out.below hb.out).get (by rintro rfl; simp at hlt')
      obtain ⟨rfl, rfl⟩ : ao = some ⟨g, off, none⟩ ∧ cap = cap2 := by injection hg1 with h1 h2 h3; exact ⟨h1, h3⟩
      obtain ⟨hc1, hc2⟩ := hg5 k x hx
      unfold maxLen at hg3
      have HN2 := Box.mk (show wr.cell? ⟨bn, 0, none⟩ = some (.int .i64 32) from (hb.out.cell (p := ⟨bn, 0, none⟩) hlt).trans HN.out)
      have HL2 := Box.mk (show bn < wr.heap.size from Nat.lt_of_lt_of_le hlt hb.out.size)
      clear hx hg1 hg5
      cases hi : itemB x with
      | true =>
        have HT := Box.mk (all_take' l k x HX.out ha.out hi)
        have HI := Box.mk (show (!itemB x) = false by rw [hi]; rfl)
        clear hi
        go_wp2_with fail
        refine (other_any x bn _ HN2.out HL2.out).mono ?_; rintro e w1 ⟨rfl, hb1⟩; rw [HI.out]
        have HB1 := Box.mk (show Below w.heap.size w w1 from hb.out.trans (hb1.mono hb.out.size))
        clear hb1
        go_wp2_with fail
        go_roundw
        case rel => exact ⟨k + 1, hlt', by go_num, HT, HB1⟩
        case measure => simp [intOf]; omega
      | false =>
        have HT := Box.mk (all_no l k x HX.out hi)
        have HI := Box.mk (show (!itemB x) = true by rw [hi]; rfl)
        clear hi
        go_wp2_with fail
        refine (other_any x bn _ HN2.out HL2.out).mono ?_; rintro e w1 ⟨rfl, hb1⟩; rw [HI.out]
        go_wp2_with fail
        go_ret
        exact ⟨⟨k, rfl, by rw [HT.out]; simp⟩, hb.out.trans (hb1.mono hb.out.size)⟩
    · have HT := Box.mk (show l.all itemB = true by have := ha.out; rwa [List.take_of_length_le (by omega)] at this)
      go_wp2_with fail
      go_ret
      exact ⟨⟨-1, rfl, by rw [HT.out]; rfl⟩, hb.out⟩
end Go.Proofs.YtonpgokgbaemfaaDoor
