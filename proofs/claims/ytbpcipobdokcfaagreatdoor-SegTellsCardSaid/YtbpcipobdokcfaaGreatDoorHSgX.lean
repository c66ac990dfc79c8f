/-
  THE DOCUMENT's ANSWERS OF LAYER 13: which cuts are right, which part a place lies in, cuts that are moved.
-/
import Derived.Test.YtbpcipobdokcfaaGreatDoorH10
namespace Go.Proofs.YtbpcipobdokcfaaGreatDoor
open Go.RowKit Go.Shelf
attribute [local go_sem] Oper.semAt_some

theorem lastD_get : ∀ (cs : List Int) (n : Nat), cs.length = n + 1 → G.last cs = cs.getD n 0
  | [], n, h => by simp at h
  | [a], n, h => by
    simp only [List.length_singleton] at h
    obtain rfl : n = 0 := by omega
    rfl
  | a :: b :: t, n, h => by
    obtain ⟨m, rfl⟩ : ∃ m, n = m + 1 := ⟨n - 1, by simp at h; omega⟩
    have := lastD_get (b :: t) m (by simpa using h)
    show G.last (b :: t) = (b :: t).getD m 0
    exact this
theorem right_mk {cs : List Int} {y : Int} {n : Nat} (hn : cs.length = n + 1) (h0 : cs[0]? = some 0) (hy : cs[n]? = some y) (h : ∀ j, j + 1 < cs.length → cs.getD j 0 < cs.getD (j + 1) 0) : G.right cs y = true := by
  have e0 : cs.getD 0 1 = 0 := by rw [List.getD_eq_getElem?_getD, h0]; rfl
  have e1 : cs.getD 0 0 = 0 := by rw [List.getD_eq_getElem?_getD, h0]; rfl
  have e2 : cs.getD n 0 = y := by rw [List.getD_eq_getElem?_getD, hy]; rfl
  unfold G.right
  rw [G.up_iff cs (-1) h (fun _ => by rw [e1]; decide), lastD_get cs n hn, e0, e2, decide_eq_true (show 0 < cs.length by omega)]
  simp
theorem right_no_first {cs : List Int} {a y : Int} (h0 : cs[0]? = some a) (h : a ≠ 0) : G.right cs y = false := by
  have e0 : cs.getD 0 1 = a := by rw [List.getD_eq_getElem?_getD, h0]; rfl
  unfold G.right
  rw [e0, decide_eq_false h]
  simp
theorem right_no_last {cs : List Int} {y z : Int} {n : Nat} (hn : cs.length = n + 1) (hy : cs[n]? = some z) (h : z ≠ y) : G.right cs y = false := by
  have e2 : cs.getD n 0 = z := by rw [List.getD_eq_getElem?_getD, hy]; rfl
  unfold G.right
  rw [lastD_get cs n hn, e2, decide_eq_false h]
  simp
theorem right_no_up {cs : List Int} {y : Int} {j : Nat} (hj : j + 1 < cs.length) (h : cs.getD (j + 1) 0 ≤ cs.getD j 0) : G.right cs y = false := by
  rw [Bool.eq_false_iff]
  intro hr
  unfold G.right at hr
  simp only [Bool.and_eq_true] at hr
  have := G.up_get cs (-1) hr.1.1.1 j (j + 1) (by omega) hj
  omega
theorem getD_of {cs : List Int} {i : Nat} {x : Int} (h : cs[i]? = some x) : cs.getD i 0 = x := by rw [List.getD_eq_getElem?_getD, h]; rfl

set_option maxRecDepth 100000 in
set_option maxHeartbeats 4000000 in
theorem rright13_any (v : Value) (cs : List Int) (y : Int) (w : World) (hv : IntsAt w v cs) (hz : cs.length ≤ 1000000) :
    Calls Tryz.prog 24 #[v, .int .i64 y] w fun e w' => e = .returned (.bool (G.right cs y)) ∧ Below w.heap.size w w' := by
  have HV := Box.mk hv
  obtain ⟨ao, cap, rfl⟩ := hv.slice
  clear hv
  rcases Nat.eq_zero_or_pos cs.length with h0 | h0
  · have hr : G.right cs y = false := by
      unfold G.right
      rw [h0]
      simp
    rw [hr, h0]
    clear hr h0
    go_enter Tryz.func24, Tryz.ntmps24
    go_wp2_with fail
    go_ret
    exact ⟨rfl, Below.refl _ _⟩
  obtain ⟨n, hn⟩ : ∃ n, cs.length = n + 1 := ⟨cs.length - 1, by omega⟩
  obtain ⟨a, ha⟩ : ∃ a, cs[0]? = some a := ⟨_, List.getElem?_eq_getElem (by omega)⟩
  obtain ⟨z, hz2⟩ : ∃ z, cs[n]? = some z := ⟨_, List.getElem?_eq_getElem (by omega)⟩
  obtain ⟨g, off, cap2, hg1, hg2, hg3, hg4, hg5⟩ := HV.out.get (by rintro rfl; simp at hn)
  obtain ⟨rfl, rfl⟩ : ao = some ⟨g, off, none⟩ ∧ cap = cap2 := by injection hg1 with h1 h2 h3; exact ⟨h1, h3⟩
  have hc0 := hg5 0 a ha
  have hcn := hg5 n z hz2
  have HG5 := Box.mk hg5
  have HG4 := Box.mk hg4
  have HN := Box.mk hn
  have HA := Box.mk ha
  have HZ := Box.mk hz2
  rw [hn] at hz hg2 ⊢
  unfold maxLen at hg3
  rw [Nat.add_zero] at hc0
  clear hg1 hg4 hg5 hn ha hz2 h0
  by_cases ha0 : a = 0
  rotate_left
  · have HR := Box.mk (show G.right cs y = false from right_no_first HA.out ha0)
    have hab : (a != 0) = true := by rw [bne_iff_ne]; exact ha0
    go_enter Tryz.func24, Tryz.ntmps24
    go_wp2_with fail
    go_ret
    exact ⟨by rw [HR.out]; rfl, Below.refl _ _⟩
  subst ha0
  by_cases hzy : z = y
  rotate_left
  · have HR := Box.mk (show G.right cs y = false from right_no_last HN.out HZ.out hzy)
    have hzb : (z != y) = true := by rw [bne_iff_ne]; exact hzy
    go_enter Tryz.func24, Tryz.ntmps24
    go_wp2_with fail
    go_ret
    exact ⟨by rw [HR.out]; rfl, Below.refl _ _⟩
  subst hzy
  go_enter Tryz.func24, Tryz.ntmps24
  go_wp2_with fail
  go_loopw [5] (fun i wr => ∃ k : Nat, k ≤ n ∧ i = .int .i64 ((k : Int) + 1) ∧ Box (∀ j, j < k → cs.getD j 0 < cs.getD (j + 1) 0) ∧ Box (Below w.heap.size w wr)) (fun i _ => n + 1 - (intOf i).toNat)
  case atStart => exact ⟨0, by omega, rfl, ⟨fun j hj => by omega⟩, ⟨Below.refl _ _⟩⟩
  case round =>
    obtain ⟨k, hk, rfl, hup, hb⟩ := hrel
    by_cases hlt : k < n
    · obtain ⟨x, hx⟩ : ∃ x, cs[k]? = some x := ⟨_, List.getElem?_eq_getElem (by have := HN.out; omega)⟩
      obtain ⟨q, hq⟩ : ∃ q, cs[k + 1]? = some q := ⟨_, List.getElem?_eq_getElem (by have := HN.out; omega)⟩
      have hck := (hb.out.cell (p := ⟨g, off + k, none⟩) HG4.out).trans (HG5.out k x hx)
      have hcq := (hb.out.cell (p := ⟨g, off + (k + 1), none⟩) HG4.out).trans (HG5.out (k + 1) q hq)
      have HX := Box.mk (getD_of hx)
      have HQ := Box.mk (getD_of hq)
      have HDB := Box.mk (show Below w.heap.size w wr.drew from hb.out.trans (show Below w.heap.size wr wr.drew from ⟨rfl, rfl, rfl, Nat.le_refl _, fun _ _ => rfl⟩))
      clear hx hq
      rcases Int.lt_or_le x q with hxq | hxq
      · have HU := Box.mk (show ∀ j, j < k + 1 → cs.getD j 0 < cs.getD (j + 1) 0 from fun j hj => by
          rcases Nat.lt_or_ge j k with h | h
          · exact hup.out j h
          · obtain rfl : j = k := by omega
            rw [HX.out, HQ.out]; exact hxq)
        have hxqd : decide (q ≤ x) = false := decide_eq_false (by omega)
        go_wp2_with fail
        go_region
        go_wp2_with fail
        go_roundw
        case rel => exact ⟨k + 1, hlt, by go_num, HU, HDB⟩
        case measure => simp [intOf]; omega
      · have HR := Box.mk (show G.right cs z = false from right_no_up (j := k) (by have := HN.out; omega) (by rw [HX.out, HQ.out]; exact hxq))
        have hxqd : decide (q ≤ x) = true := decide_eq_true hxq
        go_wp2_with fail
        go_region
        go_wp2_with fail
        go_ret
        exact ⟨by rw [HR.out]; rfl, HDB.out⟩
    · have HR := Box.mk (show G.right cs z = true from right_mk HN.out HA.out HZ.out (fun j hj => hup.out j (by have := HN.out; omega)))
      go_wp2_with fail
      go_ret
      exact ⟨by rw [HR.out]; rfl, hb.out⟩
end Go.Proofs.YtbpcipobdokcfaaGreatDoor
