/-
  TWO LISTS OF NUMBERS COMPARED.
-/
import Derived.Test.YtbagecjkfcoapaaDoorInts
import Derived.RegionTactic
namespace Go.Proofs.YtbagecjkfcoapaaDoor
open Go.RowKit

theorem ints_same (a b : Value) (xs : List Int) (w : World) (ha : IntsAt w a xs) (hb : IntsAt w b xs) (hz : xs.length ≤ 16777216) :
    Calls Tryd.prog 18 #[a, b] w fun e w' => e = .returned (.bool true) ∧ ∃ n, w' = w.drewN n := by
  cases hxs : xs with
  | nil =>
    subst hxs
    obtain ⟨a1, ca, rfl⟩ := ha.slice
    obtain ⟨b1, cb, rfl⟩ := hb.slice
    clear ha hb
    go_enter Tryd.func18, Tryd.ntmps18
    go_wp2
    go_rounds 1
    go_ret
    exact ⟨rfl, 0, rfl⟩
  | cons x t =>
    have hne : 0 < xs.length := by rw [hxs]; simp
    have hnn : xs ≠ [] := by rw [hxs]; simp
    obtain ⟨ba, oa, ca, rfl, ha1, ha2, ha3, ha4⟩ := ha.get hnn
    obtain ⟨bb, ob, cb, rfl, hb1, hb2, hb3, hb4⟩ := hb.get hnn
    clear ha hb hnn
    clear hxs
    have HA := Box.mk ha4
    have HB := Box.mk hb4
    clear ha4 hb4
    unfold maxLen at ha2 hb2
    go_enter Tryd.func18, Tryd.ntmps18
    go_wp2
    go_loopw [5] (fun i wr => ∃ k n : Nat, k ≤ xs.length ∧ i = .int .i64 k ∧ wr = w.drewN n) (fun i _ => xs.length - (intOf i).toNat)
    case atStart => exact ⟨0, 0, by omega, rfl, rfl⟩
    case round =>
      obtain ⟨k, n, hk, rfl, rfl⟩ := hrel
      by_cases hlt : k < xs.length
      · obtain ⟨y, hy⟩ : ∃ y, xs[k]? = some y := ⟨_, List.getElem?_eq_getElem hlt⟩
        have c1 := HA.out k y hy
        have c2 := HB.out k y hy
        clear hy
        go_wp2
        go_region
        go_wp2
        go_roundw
        case rel => exact ⟨k + 1, n + 1, hlt, by go_num, rfl⟩
        case measure => simp [intOf]; omega
      · go_wp2
        go_ret
        exact ⟨rfl, n, rfl⟩
end Go.Proofs.YtbagecjkfcoapaaDoor
