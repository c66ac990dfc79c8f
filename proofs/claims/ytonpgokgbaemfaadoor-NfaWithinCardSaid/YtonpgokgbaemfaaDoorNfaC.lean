/-
  WHICH PATTERNS ARE RIGHT: the program's answer and the document's; a pattern's first twelve items.
-/
import Derived.Test.YtonpgokgbaemfaaDoorNfaB
import Derived.RegionTactic
namespace Go.Proofs.YtonpgokgbaemfaaDoor
open Go.RowKit

theorem contains_any (v : Value) (l : List N.Item) (bn : Nat) (w : World) (hv : ItemsAt w v l) (hz : l.length ≤ 16777216) (hn : w.cell? ⟨bn, 0, none⟩ = some (.int .i64 32)) (hlt : bn < w.heap.size) :
    Calls Tryd.prog 47 #[v, .func (.func 45) #[] #[.pointer (some ⟨bn, 0, none⟩)]] w fun e w' => e = .returned (.bool (!l.all itemB)) ∧ Below w.heap.size w w' := by
  have HI := Box.mk (index_any v l bn w hv hz hn hlt)
  clear hv hn
  go_enter Tryd.func47, Tryd.ntmps47
  go_wp2_with fail
  refine HI.out.mono ?_; rintro e w1 ⟨⟨i, rfl, hi⟩, hb⟩
  have HX := Box.mk hi
  clear hi
  go_wp2_with fail
  go_ret
  exact ⟨ret_bool (by simpa using HX.out), hb⟩

set_option maxHeartbeats 1000000 in
theorem pright_any (st : Bool) (v : Value) (l : List N.Item) (w : World) (hv : ItemsAt w v l) (hz : l.length ≤ 16777216) :
    Calls Tryd.prog 40 #[.agg #[.bool st, v], .int .i64 32] w fun e w' => e = .returned (.bool (rightB l)) ∧ Below w.heap.size w w' := by
  unfold rightB
  have hw : Below w.heap.size w ((w.alloc (.cells #[.bool st, v] 24)).alloc (.cells #[.int .i64 32] 3)) := ((Below.refl _ _).alloc (Nat.le_refl _) _).alloc (by simp) _
  have HW := Box.mk hw
  have HV := Box.mk (hv.below hw)
  have HN := Box.mk (show ((w.alloc (.cells #[.bool st, v] 24)).alloc (.cells #[.int .i64 32] 3)).cell? ⟨w.heap.size + 1, 0, none⟩ = some (.int .i64 32) by
    have := World.cell?_alloc_mark (w.alloc (.cells #[.bool st, v] 24)) #[.int .i64 32] 3 (0, 0) 0
    simp at this ⊢)
  obtain ⟨ao, cap, rfl⟩ := hv.slice
  clear hv hw
  by_cases hl : l.length ≤ 10
  · go_enter Tryd.func40, Tryd.ntmps40
    go_wp2_with fail
    refine (contains_any _ l (w.heap.size + 1) _ HV.out hz HN.out (by simp)).mono ?_; rintro e w1 ⟨rfl, hb⟩
    have HB := Box.mk hb
    clear hb
    go_wp2_with fail
    go_ret
    exact ⟨ret_bool (by simp [hl]), HW.out.trans (HB.out.mono HW.out.size)⟩
  · have hl' : 10 < l.length := by omega
    go_enter Tryd.func40, Tryd.ntmps40
    go_wp2_with fail
    go_ret
    exact ⟨ret_bool (by simp), HW.out⟩

set_option maxHeartbeats 2000000 in
theorem rpright_any (st : Bool) (v : Value) (l : List N.Item) (w : World) (hv : ItemsAt w v l) (hz : l.length ≤ 16777216) :
    Calls Tryd.prog 33 #[.agg #[.bool st, v], .int .i64 32] w fun e w' => e = .returned (.bool (rightB l)) ∧ Below w.heap.size w w' := by
  have HVB := Box.mk hv
  obtain ⟨ao, cap, rfl⟩ := hv.slice
  clear hv
  have HB0 := Box.mk (Blk.new w 24 #[.bool st, .slice ao l.length cap])
  have HW0 := Box.mk (((Below.refl w.heap.size w).alloc (Nat.le_refl _) (.cells #[.bool st, .slice ao l.length cap] 24)))
  go_enter Tryd.func33, Tryd.ntmps33
  go_wp2
  go_loopw [5] (fun i wr => ∃ k : Nat, k ≤ l.length ∧ i = .int .i64 k ∧ Box ((l.take k).all itemB = true) ∧ Blk wr w.heap.size 24 #[.bool st, .slice ao l.length cap] ∧ Box (Below w.heap.size w wr)) (fun i _ => l.length - (intOf i).toNat)
  case atStart => exact ⟨0, by omega, rfl, ⟨rfl⟩, HB0.out, HW0⟩
  case round =>
    obtain ⟨k, hk, rfl, ha, hbk, hb⟩ := hrel
    have c1 : wr.cell? ⟨w.heap.size, 1, none⟩ = some (.slice ao l.length cap) := (hbk.cell 1).trans rfl
    have hl0 := hbk.lt
    have HBK := Box.mk hbk
    clear hbk
    by_cases hlt : k < l.length
    · obtain ⟨x, hx⟩ : ∃ x, l[k]? = some x := ⟨_, List.getElem?_eq_getElem hlt⟩
      have HX := Box.mk hx
      obtain ⟨g, off, cap2, hg1, hg2, hg3, hg4, hg5⟩ := (HVB.out.below hb.out).get (by rintro rfl; simp at hlt)
      obtain ⟨rfl, rfl⟩ : ao = some ⟨g, off, none⟩ ∧ cap = cap2 := by injection hg1 with h1 h2 h3; exact ⟨h1, h3⟩
      obtain ⟨hc1, hc2⟩ := hg5 k x hx
      unfold maxLen at hg3
      have HBA := Box.mk (fun o => hb.out.alloc hb.out.size o)
      clear hx hg1 hg5
      obtain ⟨set, how⟩ := x
      cases hs : setB set with
      | true =>
        have HS := Box.mk hs
        rcases Int.lt_or_le how 0 with h | h
        · have HT := Box.mk (show rightB l = false by unfold rightB; rw [all_no l k _ HX.out (by unfold itemB; simp; omega)]; simp)
          clear hs
          go_wp2_with fail
          refine (rcright_any _ _).mono ?_; rintro e w1 ⟨rfl, rfl⟩; rw [HS.out]
          go_wp2_with fail
          go_ret
          exact ⟨by rw [HT.out]; rfl, HBA.out _⟩
        rcases Int.lt_or_le 2 how with h2 | h2
        · have HT := Box.mk (show rightB l = false by unfold rightB; rw [all_no l k _ HX.out (by unfold itemB; simp; omega)]; simp)
          clear hs
          go_wp2_with fail
          refine (rcright_any _ _).mono ?_; rintro e w1 ⟨rfl, rfl⟩; rw [HS.out]
          go_wp2_with fail
          go_ret
          exact ⟨by rw [HT.out]; rfl, HBA.out _⟩
        have HT := Box.mk (all_take' l k _ HX.out ha.out (show itemB (set, how) = true by unfold itemB; simp [hs, h, h2]))
        clear hs
        go_wp2_with fail
        refine (rcright_any _ _).mono ?_; rintro e w1 ⟨rfl, rfl⟩; rw [HS.out]
        go_wp2_with fail
        go_roundw
        case rel => exact ⟨k + 1, hlt, by go_num, HT, HBK.out.alloc _, ⟨HBA.out _⟩⟩
        case measure => simp [intOf]; omega
      | false =>
        have HS := Box.mk hs
        have HT := Box.mk (show rightB l = false by unfold rightB; rw [all_no l k _ HX.out (by unfold itemB; simp [hs])]; simp)
        clear hs
        go_wp2_with fail
        refine (rcright_any _ _).mono ?_; rintro e w1 ⟨rfl, rfl⟩; rw [HS.out]
        go_wp2_with fail
        go_ret
        exact ⟨by rw [HT.out]; rfl, HBA.out _⟩
    · have HT := Box.mk (show l.all itemB = true by have := ha.out; rwa [List.take_of_length_le (by omega)] at this)
      go_wp2_with fail
      go_ret
      refine ⟨ret_bool ?_, hb.out⟩
      unfold rightB
      rw [HT.out, Bool.eq_iff_iff]
      simp
      omega

theorem ItemsAt.take {w : World} {ao : Option Addr} {cap : Nat} {l : List N.Item} (h : ItemsAt w (.slice ao l.length cap) l) (n : Nat) : ItemsAt w (.slice ao (l.take n).length cap) (l.take n) := by
  rcases h with ⟨h1, rfl⟩ | ⟨b, off, sp, cap, h1, h2, h3, h4⟩
  · injection h1 with h1 h2 h3
    subst h1 h3
    simp [ItemsAt]
  · injection h1 with h1 h2' h3'
    subst h1 h3'
    refine .inr ⟨b, off, sp, _, rfl, by rw [List.length_take]; omega, h3, fun hn => ?_⟩
    have hn' : l ≠ [] := by rintro rfl; simp at hn
    refine ⟨(h4 hn').1, (h4 hn').2.1, fun i x hx => (h4 hn').2.2 i x ?_⟩
    rw [List.getElem?_take] at hx
    split at hx
    · exact hx
    · cases hx
theorem ItemsAt.cap_le {w : World} {ao : Option Addr} {cap n : Nat} {l : List N.Item} (h : ItemsAt w (.slice ao n cap) l) : l.length ≤ cap ∧ cap ≤ 9223372036854775807 := by
  rcases h with ⟨h1, rfl⟩ | ⟨b, off, sp, cap, h1, h2, h3, h4⟩
  · injection h1 with h1 h2 h3; subst h3; simp
  · injection h1 with h1 h2' h3'; subst h3'; unfold maxLen at h3; omega

set_option maxHeartbeats 2000000 in
theorem cut_any (st : Bool) (v : Value) (l : List N.Item) (w : World) (hv : ItemsAt w v l) :
    Calls Tryd.prog 10 #[.agg #[.bool st, v]] w fun e w' => (∃ v', e = .returned (.agg #[.bool st, v']) ∧ ∀ W, ItemsAt W v l → ItemsAt W v' (l.take 12)) ∧ Below w.heap.size w w' := by
  obtain ⟨ao, cap, rfl⟩ := hv.slice
  obtain ⟨hc1, hc2⟩ := hv.cap_le
  have HT := Box.mk (fun (W : World) (h : ItemsAt W (.slice ao l.length cap) l) => h.take 12)
  have HB := Box.mk (show ∀ o1 o2, Below w.heap.size w ((w.alloc o1).alloc o2).drew from fun o1 o2 => below_drewN (((Below.refl _ _).alloc (Nat.le_refl _) o1).alloc (by simp) o2) 1)
  clear hv
  go_enter Tryd.func10, Tryd.ntmps10
  go_wp2
  go_region
  go_wp2
  · have hlt : 12 < l.length := by omega
    refine bodyPost_ret (v := .agg #[.bool st, .slice ao 12 cap]) (by simp [results, Tryd.results10, go_sem]) rfl ⟨⟨_, rfl, fun W h => ?_⟩, HB.out _ _⟩
    have := HT.out W h
    rw [show (l.take 12).length = 12 by rw [List.length_take]; omega] at this
    exact this
  · have hle : l.length ≤ 12 := by omega
    refine bodyPost_ret (v := .agg #[.bool st, .slice ao l.length cap]) (by simp [results, Tryd.results10, go_sem]) rfl ⟨⟨_, rfl, fun W h => ?_⟩, HB.out _ _⟩
    have := HT.out W h
    rw [List.take_of_length_le hle] at this ⊢
    exact this
end Go.Proofs.YtonpgokgbaemfaaDoor
