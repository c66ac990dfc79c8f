/-
  Texts of this claim, one behind the other: SgG, SgH, Pat, Open12.
-/
import Derived.Test.YtbpcipobdokcfaaGreatDoorH7
import Derived.Test.YtbpcipobdokcfaaGreatDoorH2
import Derived.ChangeArms
import Derived.Test.YtbpcipobdokcfaaGreatDoorH5
import Derived.Deep.Slices
import Derived.Deep.Strs

/- THE WALKS OF package seg: which part a place lies in, the next cut, the one ahead. -/
namespace Go.Proofs.YtbpcipobdokcfaaGreatDoor
open Go.RowKit

def partV (A : Nat → Addr) (cs : List Int) (p : Int) : Value := match G.part cs p with | some i => .tuple #[.int .i64 (i : Int), .nilIface] | none => .tuple #[.int .i64 0, cutE A]
def iterOf (w : World) (r : Nat) : Array Nat := match w.heap[r]? with | some (.mapIter _ _ s _) => s | _ => #[]
theorem iterOf_at {w : World} {r : Nat} {a : Option Nat} {b c : Nat} {s : Array Nat} (h : w.heap[r]? = some (.mapIter a b s c)) : iterOf w r = s := by unfold iterOf; rw [h]

set_option maxRecDepth 10000 in
set_option maxHeartbeats 4000000 in
theorem part_any (A : Nat → Addr) (B : Nat) (v : Value) (cs : List Int) (p : Int) (w : World) (hv : IntsAt w v cs) (hz : cs.length ≤ 1000000) (hE : Eg A B w) (hB : B ≤ w.heap.size) :
    Calls Tryz.prog 43 #[v, .int .i64 p] w fun e w' => e = .returned (partV A cs p) ∧ Below w.heap.size w w' := by
  obtain ⟨W, hW⟩ : ∃ W, W = w.alloc (.cells #[.int .i64 p] 3) := ⟨_, rfl⟩
  have hbW : Below w.heap.size w W := by rw [hW]; exact alloc_below w _
  have HBX := Box.mk (show Blk W w.heap.size 3 #[.int .i64 p] by rw [hW]; exact Blk.new _ _ _)
  have HP := Box.mk (parts_any A B v cs W (hv.below hbW) hz (hE.below (hbW.mono hB)))
  have HE := Box.mk hE
  have HW := Box.mk hW
  have HBW := Box.mk hbW
  obtain ⟨ao, cap, rfl⟩ := hv.slice
  clear hv hE hW hbW
  go_enter Tryz.func43, Tryz.ntmps43
  go_upto_region 1 with (fail)
  rw [← HW.out]
  go_wp2_with fail
  refine HP.out.mono ?_
  rintro e w1 ⟨hb1, ⟨hw, m, rfl, hm⟩ | ⟨hw, rfl⟩⟩
  · obtain ⟨nn, hnn⟩ : ∃ nn, nn = cs.length - 1 := ⟨_, rfl⟩
    rw [← hnn] at hm
    obtain ⟨es, hes⟩ : ∃ es, es = partsE cs nn := ⟨_, rfl⟩
    rw [← hes] at hm
    have hrg := run_range_map (P := Tryz.prog) w1 106 3 110 m es nn Tryz.underlying106 hm
    obtain ⟨r, hr⟩ : ∃ r, r = w1.heap.size := ⟨_, rfl⟩
    obtain ⟨W1, hW1⟩ : ∃ W1, W1 = w1.alloc (.mapIter (some m) nn #[] nn) := ⟨_, rfl⟩
    have hbW1 : Below w1.heap.size w1 W1 := by rw [hW1]; exact alloc_below w1 _
    have hir : W1.heap[r]? = some (.mapIter (some m) nn #[] nn) := by rw [hW1, hr]; exact World.alloc_heap_new w1 _
    rw [← hW1, ← hr] at hrg
    have hml : m < r := by rw [hr]; exact (Array.getElem?_eq_some_iff.1 hm).1
    have HM1 := Box.mk (show W1.heap[m]? = some (.map es nn) from (hbW1.block m (by rw [← hr]; exact hml)).trans hm)
    have hbx1 := HBX.out.below hb1 HBX.out.lt
    have HXL := Box.mk (show w.heap.size < r by rw [hr]; exact hbx1.lt)
    have HBX1 := Box.mk (hbx1.below hbW1 hbx1.lt)
    have HB1 := Box.mk (show Below w.heap.size w W1 from (HBW.out.trans (hb1.mono HBW.out.size)).trans (hbW1.mono (Nat.le_trans HBW.out.size hb1.size)))
    have HRS := Box.mk (show r < W1.heap.size by rw [hW1, hr]; simp)
    have HWH := Box.mk hw
    have HES := Box.mk hes
    have HNN := Box.mk hnn
    have hborn := partsE_born cs nn
    rw [← hes] at hborn
    have HBO := Box.mk hborn
    have HIR := Box.mk hir
    have HML := Box.mk hml
    clear hb1 hm hW1 hr hbW1 hir hml hbx1 hw hes hnn hborn
    go_wp2_with fail
    clear hrg
    go_loopw [] (fun wr => ∃ (seen : Array Nat) (c0 : Nat), Box (Turns (fun k => k = r) W1 wr) ∧ Box (wr.heap[r]? = some (.mapIter (some m) nn seen c0)) ∧ nn ≤ c0 ∧ Box (∀ i, i < nn → seen.contains i = true → G.isIn cs p i = false)) (fun wr => (leftOf es (iterOf wr r)).size)
    case atStart => exact ⟨#[], nn, ⟨Turns.refl _ _⟩, HIR, Nat.le_refl _, ⟨fun i _ h => by simp at h⟩⟩
    case round =>
      obtain ⟨seen, c0, ht, hi, hc0, hno⟩ := hrel
      have HMr := Box.mk ((ht.out.block m (by have := HML.out; have := HRS.out; omega) (by have := HML.out; omega)).trans HM1.out)
      have HBr := Box.mk (show Below w.heap.size w wr from HB1.out.trans (ht.out.below HB1.out.size (fun k hk => by have := HXL.out; omega)))
      have hg := (HE.out.below (HBr.out.mono hB)).cell
      have key := fun ty => next_at (P := Tryz.prog) wr ty r m nn c0 seen es nn hi.out HMr.out HBO.out.1 hc0
      by_cases hemp : (leftOf es seen).size = 0
      · have hnx : ∀ ty, (Instr.next (.pointer (some ⟨r, 0, none⟩)) false ty).run Tryz.prog wr = .ok (.tuple #[.bool false]) wr := fun ty => by
          rcases key ty with h | ⟨e, he, -⟩
          · exact h.2
          · rw [Array.eq_empty_of_size_eq_zero hemp] at he
            simp at he
        have HR := Box.mk (show partV A cs p = .tuple #[.int .i64 0, cutE A] by
          unfold partV
          rw [G.part_none (fun i hi => hno.out i (by rw [HNN.out]; exact hi) (by
            have := all_seen es seen hemp (partE cs i) (by rw [HES.out]; exact partsE_get cs (by rw [HNN.out]; exact hi))
            exact this))])
        have HDR := Box.mk (show Below w.heap.size w wr.drew from HBr.out.trans ((drew_below wr 1).mono HBr.out.size))
        clear key ht hi hno
        unfold cutE errV at HR
        go_wp2_with fail
        go_region
        go_wp2_with fail
        go_ret2
        exact ⟨by rw [HR.out]; rfl, HDR.out⟩
      · obtain ⟨e, he, W2, hW2, hrun⟩ : ∃ e ∈ (leftOf es seen).toList, ∃ W2 : World, (W2 = wr ∨ W2 = wr.drew) ∧ ∀ ty, (Instr.next (.pointer (some ⟨r, 0, none⟩)) false ty).run Tryz.prog wr = .ok (.tuple #[.bool true, e.key, e.val]) (W2.putObj r (.mapIter (some m) nn (seen.push e.born) nn)) := by
          rcases key 0 with h | ⟨e, he, W2, h1, h2⟩
          · exact absurd h.1 hemp
          · exact ⟨e, he, W2, h1, fun _ => h2⟩
        have hml := mem_left he
        obtain ⟨i, hin, hpe⟩ := partsE_mem (cs := cs) (k := nn) (by rw [← HES.out]; exact hml.1)
        obtain ⟨Wp, hWp⟩ : ∃ Wp, Wp = W2.putObj r (.mapIter (some m) nn (seen.push e.born) nn) := ⟨_, rfl⟩
        have hT2 : Turns (fun k => k = r) wr W2 := by rcases hW2 with h | h <;> rw [h]; exact Turns.refl _ _; exact Turns.drew _
        have hTp : Turns (fun k => k = r) wr Wp := by rw [hWp]; exact hT2.trans (Turns.putObj (own := fun k => k = r) _ rfl _)
        have hTW := ht.out.trans hTp
        have hrp : Wp.heap[r]? = some (.mapIter (some m) nn (seen.push e.born) nn) := by
          rw [hWp]
          exact World.putObj_heap_same (Nat.lt_of_lt_of_le (Nat.lt_of_lt_of_le HRS.out ht.out.size) hT2.size)
        have hmp : Wp.heap[m]? = some (.map es nn) := (hTW.block m (by have := HML.out; have := HRS.out; omega) (by have := HML.out; omega)).trans HM1.out
        have hen := entry_at (P := Tryz.prog) Wp r m nn seen es nn e hrp hmp hml.1 HBO.out.2
        have hsh := left_shrinks es seen e he
        rw [← hWp] at hrun
        have HSEEN := Box.mk hml.2
        rw [hpe] at hrun hen hrp hsh
        unfold partE at hrun hen
        simp only at hrun hen
        have HRP := Box.mk hrp
        have HSH := Box.mk hsh
        have HTW := Box.mk hTW
        have HBP := Box.mk (show Below w.heap.size w Wp from HB1.out.trans (hTW.below HB1.out.size (fun k hk => by have := HXL.out; omega)))
        have HII := Box.mk (iterOf_at hi.out)
        have HIN := Box.mk hin
        have hbxp := hTW.blk HBX1.out (by have := HXL.out; omega)
        have HCALL := Box.mk (fun (o : Obj) => isin_any (cs.getD i 0) (cs.getD (i + 1) 0) p w.heap.size (Wp.alloc o) ((hbxp.alloc o).cell 0 |>.trans rfl) ((hbxp.alloc o).lt))
        have HRI := Box.mk (show Nat.lt r Wp.heap.size from Nat.lt_of_lt_of_le HRS.out hTW.size)
        clear key ht hi hemp he hml hW2 hT2 hTp hTW hrp hmp hsh hWp hpe hbxp hin
        cases hb : G.isIn cs p i with
        | true =>
          have HB := Box.mk hb
          have HR := Box.mk (show partV A cs p = .tuple #[.int .i64 (i : Int), .nilIface] by
            unfold partV
            rw [G.part_some HWH.out (by rw [← HNN.out]; exact HIN.out) hb])
          clear hb
          go_wp2_with (go_at_call 68; refine (HCALL.out _).mono ?_; rintro e w4 ⟨rfl, hb4⟩; rw [show (decide (cs.getD i 0 ≤ p) && decide (p < cs.getD (i + 1) 0)) = true from HB.out]; have HB4 := Box.mk hb4; clear hb4)
          go_ret2
          exact ⟨by rw [HR.out]; rfl, (HBP.out.alloc HBP.out.size _).trans (HB4.out.mono (by have := HBP.out.size; simp; omega))⟩
        | false =>
          have HB := Box.mk hb
          clear hb
          go_wp2_with (go_at_call 68; refine (HCALL.out _).mono ?_; rintro e w4 ⟨rfl, hb4⟩; rw [show (decide (cs.getD i 0 ≤ p) && decide (p < cs.getD (i + 1) 0)) = false from HB.out]; have HB4 := Box.mk hb4; clear hb4)
          have hT4 : Turns (fun _ => False) Wp w4 := (Turns.alloc Wp _).trans (Turns.of_below ⟨HB4.out.os, HB4.out.tape, HB4.out.output, HB4.out.size, HB4.out.block⟩)
          have hr4 := (hT4.block r HRI.out (fun h => h)).trans HRP.out
          go_roundw
          case rel =>
            refine ⟨_, nn, ⟨HTW.out.trans (hT4.mono fun _ h => h.elim)⟩, ⟨hr4⟩, Nat.le_refl _, ⟨fun j hj hs => ?_⟩⟩
            rw [contains_push] at hs
            rcases Bool.or_eq_true _ _ ▸ hs with h1 | h1
            · exact hno.out j hj h1
            · have : j = i := by simpa [partE] using h1
              rw [this]
              exact HB.out
          case measure =>
            rw [iterOf_at hr4, HII.out]
            exact HSH.out
  · have HR := Box.mk (show partV A cs p = .tuple #[.int .i64 0, cutE A] by
      unfold partV G.part
      rw [hw]
      rfl)
    have HB1 := Box.mk (show Below w.heap.size w w1 from HBW.out.trans (hb1.mono HBW.out.size))
    clear hb1 hw
    unfold cutE errV
    go_wp2_with fail
    go_ret2
    exact ⟨by rw [HR.out]; rfl, HB1.out⟩
end Go.Proofs.YtbpcipobdokcfaaGreatDoor

/- THE WALKS OF package seg: Part, Next, Back. -/
namespace Go.Proofs.YtbpcipobdokcfaaGreatDoor
open Go.RowKit

def twoV (x : Int × Int) : Value := .tuple #[.int .i64 x.1, .int .i64 x.2]
def partC (cs : List Int) (p : Int) : Int × Int := match G.part cs p with | some i => ((i : Int), 0) | none => (0, 110)
def nextC (cs : List Int) (p : Int) : Int × Int := match G.part cs p with | some i => (cs.getD (i + 1) 0, 0) | none => (0, 110)
def backC (cs : List Int) (p : Int) : Int × Int := if p ≤ 0 then (0, 110) else match G.part cs (p - 1) with | some i => (cs.getD i 0, 0) | none => (0, 110)
theorem partV_some {A : Nat → Addr} {cs : List Int} {p : Int} {i : Nat} (h : G.part cs p = some i) : partV A cs p = .tuple #[.int .i64 (i : Int), .nilIface] := by unfold partV; rw [h]
theorem partV_none {A : Nat → Addr} {cs : List Int} {p : Int} (h : G.part cs p = none) : partV A cs p = .tuple #[.int .i64 0, cutE A] := by unfold partV; rw [h]
theorem getD_get {cs : List Int} {i : Nat} (h : i < cs.length) : cs[i]? = some (cs.getD i 0) := by
  rw [List.getD_eq_getElem?_getD, List.getElem?_eq_getElem h]
  rfl

set_option maxHeartbeats 1000000 in
theorem sPart_any (A : Nat → Addr) (B : Nat) (v : Value) (cs : List Int) (p : Int) (w : World) (hv : IntsAt w v cs) (hz : cs.length ≤ 1000000) (hE : Eg A B w) (hB : B ≤ w.heap.size) :
    Calls Tryz.prog 20 #[v, .int .i64 p] w fun e w' => e = .returned (twoV (partC cs p)) ∧ Below w.heap.size w w' := by
  have HP := Box.mk (part_any A B v cs p w hv hz hE hB)
  have HT := Box.mk (fun (w' : World) (h : Below w.heap.size w w') => stold_any A B w' (hE.below (h.mono hB)))
  have HN := Box.mk (fun (w' : World) (h : Below w.heap.size w w') => stold_nil A B w' (hE.below (h.mono hB)))
  obtain ⟨ao, cap, rfl⟩ := hv.slice
  clear hv hE
  cases hp : G.part cs p with
  | some i =>
    have HR := Box.mk (show twoV (partC cs p) = .tuple #[.int .i64 (i : Int), .int .i64 0] by unfold partC; rw [hp]; rfl)
    have HPV := Box.mk (partV_some (A := A) hp)
    clear hp
    go_enter Tryz.func20, Tryz.ntmps20
    go_wp2_with fail
    refine HP.out.mono ?_; rintro e w1 ⟨rfl, hb1⟩; rw [HPV.out]
    have HB1 := Box.mk hb1
    clear hb1
    go_wp2_with fail
    refine (HN.out _ HB1.out).mono ?_; rintro e w2 ⟨rfl, rfl⟩
    go_wp2_with fail
    go_ret2
    exact ⟨by rw [HR.out]; rfl, HB1.out⟩
  | none =>
    have HR := Box.mk (show twoV (partC cs p) = .tuple #[.int .i64 0, .int .i64 110] by unfold partC; rw [hp]; rfl)
    have HPV := Box.mk (partV_none (A := A) hp)
    clear hp
    unfold cutE errV at HPV HT
    go_enter Tryz.func20, Tryz.ntmps20
    go_wp2_with fail
    refine HP.out.mono ?_; rintro e w1 ⟨rfl, hb1⟩; rw [HPV.out]
    have HB1 := Box.mk hb1
    clear hb1
    go_wp2_with fail
    refine (HT.out _ HB1.out).mono ?_; rintro e w2 ⟨rfl, rfl⟩
    go_wp2_with fail
    go_ret2
    exact ⟨by rw [HR.out]; rfl, HB1.out⟩

set_option maxHeartbeats 1000000 in
theorem sNext_any (A : Nat → Addr) (B : Nat) (v : Value) (cs : List Int) (p : Int) (w : World) (hv : IntsAt w v cs) (hz : cs.length ≤ 1000000) (hE : Eg A B w) (hB : B ≤ w.heap.size) :
    Calls Tryz.prog 18 #[v, .int .i64 p] w fun e w' => e = .returned (twoV (nextC cs p)) ∧ Below w.heap.size w w' := by
  have HP := Box.mk (part_any A B v cs p w hv hz hE hB)
  have HT := Box.mk (fun (w' : World) (h : Below w.heap.size w w') => stold_any A B w' (hE.below (h.mono hB)))
  have HV := Box.mk hv
  obtain ⟨ao, cap, rfl⟩ := hv.slice
  clear hv hE
  cases hp : G.part cs p with
  | some i =>
    obtain ⟨-, hi, -, -⟩ := G.part_got hp
    have HR := Box.mk (show twoV (nextC cs p) = .tuple #[.int .i64 (cs.getD (i + 1) 0), .int .i64 0] by unfold nextC; rw [hp]; rfl)
    have HPV := Box.mk (partV_some (A := A) hp)
    obtain ⟨g, off, cap2, hg1, hg2, hg3, hg4, hg5⟩ := HV.out.get (by rintro rfl; simp at hi)
    obtain ⟨rfl, rfl⟩ : ao = some ⟨g, off, none⟩ ∧ cap = cap2 := by injection hg1 with h1 h2 h3; exact ⟨h1, h3⟩
    have hc := hg5 (i + 1) _ (getD_get (by omega))
    obtain ⟨x, hx⟩ : ∃ x, cs.getD (i + 1) 0 = x := ⟨_, rfl⟩
    rw [hx] at hc HR
    clear hx
    have hi2 : i + 1 < cs.length := by omega
    unfold maxLen at hg3
    clear hp hg1 hg5 hi
    go_enter Tryz.func18, Tryz.ntmps18
    go_wp2_with fail
    refine HP.out.mono ?_; rintro e w1 ⟨rfl, hb1⟩; rw [HPV.out]
    have HB1 := Box.mk hb1
    have hc1 := (hb1.cell (p := ⟨g, off + (i + 1), none⟩) hg4).trans hc
    clear hb1
    go_wp2_with fail
    go_ret2
    exact ⟨by rw [HR.out]; rfl, HB1.out⟩
  | none =>
    have HR := Box.mk (show twoV (nextC cs p) = .tuple #[.int .i64 0, .int .i64 110] by unfold nextC; rw [hp]; rfl)
    have HPV := Box.mk (partV_none (A := A) hp)
    clear hp
    unfold cutE errV at HPV HT
    go_enter Tryz.func18, Tryz.ntmps18
    go_wp2_with fail
    refine HP.out.mono ?_; rintro e w1 ⟨rfl, hb1⟩; rw [HPV.out]
    have HB1 := Box.mk hb1
    clear hb1
    go_wp2_with fail
    refine (HT.out _ HB1.out).mono ?_; rintro e w2 ⟨rfl, rfl⟩
    go_wp2_with fail
    go_ret2
    exact ⟨by rw [HR.out]; rfl, HB1.out⟩

set_option maxHeartbeats 1000000 in
theorem sBack_any (A : Nat → Addr) (B : Nat) (v : Value) (cs : List Int) (p : Int) (w : World) (hv : IntsAt w v cs) (hz : cs.length ≤ 1000000) (hE : Eg A B w) (hB : B ≤ w.heap.size) (hp63 : p ≤ 9223372036854775807) :
    Calls Tryz.prog 19 #[v, .int .i64 p] w fun e w' => e = .returned (twoV (backC cs p)) ∧ Below w.heap.size w w' := by
  have HP := Box.mk (part_any A B v cs (p - 1) w hv hz hE hB)
  have HT := Box.mk (fun (w' : World) (h : Below w.heap.size w w') => stold_any A B w' (hE.below (h.mono hB)))
  have HV := Box.mk hv
  have hg := hE.cell
  obtain ⟨ao, cap, rfl⟩ := hv.slice
  clear hv hE
  by_cases h0 : p ≤ 0
  · have HR := Box.mk (show twoV (backC cs p) = .tuple #[.int .i64 0, .int .i64 110] by unfold backC; rw [if_pos h0]; rfl)
    unfold cutE errV at HT
    go_enter Tryz.func19, Tryz.ntmps19
    go_wp2_with fail
    refine (HT.out _ (Below.refl _ _)).mono ?_; rintro e w2 ⟨rfl, rfl⟩
    go_wp2_with fail
    go_ret2
    exact ⟨by rw [HR.out]; rfl, Below.refl _ _⟩
  clear hg
  cases hp : G.part cs (p - 1) with
  | some i =>
    obtain ⟨-, hi, -, -⟩ := G.part_got hp
    have HR := Box.mk (show twoV (backC cs p) = .tuple #[.int .i64 (cs.getD i 0), .int .i64 0] by unfold backC; rw [if_neg h0, hp]; rfl)
    have HPV := Box.mk (partV_some (A := A) hp)
    obtain ⟨g, off, cap2, hg1, hg2, hg3, hg4, hg5⟩ := HV.out.get (by rintro rfl; simp at hi)
    obtain ⟨rfl, rfl⟩ : ao = some ⟨g, off, none⟩ ∧ cap = cap2 := by injection hg1 with h1 h2 h3; exact ⟨h1, h3⟩
    have hc := hg5 i _ (getD_get (by omega))
    obtain ⟨x, hx⟩ : ∃ x, cs.getD i 0 = x := ⟨_, rfl⟩
    rw [hx] at hc HR
    clear hx
    have hi2 : i < cs.length := by omega
    unfold maxLen at hg3
    clear hp hg1 hg5 hi
    go_enter Tryz.func19, Tryz.ntmps19
    go_wp2_with fail
    refine HP.out.mono ?_; rintro e w1 ⟨rfl, hb1⟩; rw [HPV.out]
    have HB1 := Box.mk hb1
    have hc1 := (hb1.cell (p := ⟨g, off + i, none⟩) hg4).trans hc
    clear hb1
    go_wp2_with fail
    go_ret2
    exact ⟨by rw [HR.out]; rfl, HB1.out⟩
  | none =>
    have HR := Box.mk (show twoV (backC cs p) = .tuple #[.int .i64 0, .int .i64 110] by unfold backC; rw [if_neg h0, hp]; rfl)
    have HPV := Box.mk (partV_none (A := A) hp)
    clear hp
    unfold cutE errV at HPV HT
    go_enter Tryz.func19, Tryz.ntmps19
    go_wp2_with fail
    refine HP.out.mono ?_; rintro e w1 ⟨rfl, hb1⟩; rw [HPV.out]
    have HB1 := Box.mk hb1
    clear hb1
    go_wp2_with fail
    refine (HT.out _ HB1.out).mono ?_; rintro e w2 ⟨rfl, rfl⟩
    go_wp2_with fail
    go_ret2
    exact ⟨by rw [HR.out]; rfl, HB1.out⟩
end Go.Proofs.YtbpcipobdokcfaaGreatDoor

/- A PATTERN THAT COMES IN: what it reads as. -/
namespace Go.Proofs.YtbpcipobdokcfaaGreatDoor
open Go.RowKit Go.ChangeShapes Go.WideShapes Go.Deep

section
variable {H : Type} {enc : TypeId × Value → H} {W : World}
theorem addr_add (b off i : Nat) : (⟨b, off, none⟩ : Addr).add i = ⟨b, off + i, none⟩ := by
  unfold Addr.add; by_cases h0 : i = 0 <;> simp [h0]
set_option maxRecDepth 100000 in
theorem ItemsAt.open {v : Value} {fuel : Nat} {x : DataW H × List MemPlace} (hf : DataW.trod enc Tryz.prog W 0 (fun _ => true) true fuel 40 [v] = some x) : ∃ l, ItemsAt W v l := by
  rcases open_slice_pairs Tryz.underlying40 Tryz.underlying52 (by kernel_rfl) rfl rfl (by kernel_rfl) (by kernel_rfl) hf with ⟨h1, _⟩ | ⟨a, len, cap, m, n, V0, V1, D0, D1, P0, P1, h1, _, h2, h3, h4, _, h5⟩
  · simp only [List.cons.injEq, and_true] at h1
    exact ⟨[], .inl ⟨h1, rfl⟩⟩
  · simp only [List.cons.injEq, and_true] at h1
    subst h1
    simp only [if_true] at h4
    subst h4
    have key : ∀ i, i < m → ∃ y : N.Item, W.cell? (a.add (i * 2)) = some (.int .i64 y.1) ∧ W.cell? (a.add (i * 2 + 1)) = some (.int .i64 y.2) := by
      intro i hi
      obtain ⟨c0, c1, t0, t1⟩ := h5 i hi
      obtain ⟨k0, e0, _⟩ := DataW.trod_int Tryz.underlying2 t0
      obtain ⟨k1, e1, _⟩ := DataW.trod_int Tryz.underlying3 t1
      simp only [List.cons.injEq, and_true] at e0 e1
      exact ⟨(k0, k1), by rw [c0, e0], by rw [c1, e1]⟩
    let g : Nat → N.Item := fun i => if h : i < m then (key i h).choose else (0, 0)
    have hg : ∀ i, i < m → W.cell? (a.add (i * 2)) = some (.int .i64 (g i).1) ∧ W.cell? (a.add (i * 2 + 1)) = some (.int .i64 (g i).2) := by
      intro i hi
      have : g i = (key i hi).choose := by simp [g, hi]
      rw [this]
      exact (key i hi).choose_spec
    obtain ⟨b, off, sp⟩ := a
    have hlen : ((List.range len).map g).length = len := by simp
    refine ⟨(List.range len).map g, .inr ⟨b, off, sp, m, by rw [hlen], by rw [hlen]; exact h2, h3, fun hn => ?_⟩⟩
    have h0 : 0 < len := by
      rcases Nat.eq_zero_or_pos len with h | h
      · subst h; exact absurd rfl hn
      · exact h
    have hc0 := (hg 0 (by omega)).1
    have hsp : sp = none := World.cell?_spot (a := (⟨b, off, sp⟩ : Addr).add (0 * 2)) hc0
    subst hsp
    refine ⟨rfl, World.block_lt_of_cell? _ _ hc0, fun i y hy => ?_⟩
    rw [List.getElem?_map] at hy
    obtain ⟨j, hj, rfl⟩ := Option.map_eq_some_iff.1 hy
    obtain ⟨hi, rfl⟩ := List.getElem?_eq_some_iff.1 hj
    simp only [List.length_range] at hi
    simp only [List.getElem_range]
    have := hg i (by omega)
    rw [addr_add b off, addr_add b off] at this
    exact this
set_option maxRecDepth 100000 in
theorem pat_open {base : Nat} {v : Value} {d : DataW H} {p : List MemPlace} (hv : Value.okWide Tryz.prog W .any base 42 v) (h : DataW.Trod enc Tryz.prog W 0 (fun _ => true) true 42 v d p) :
    ∃ (st : Bool) (v' : Value) (l : List N.Item), v = .agg #[.bool st, v'] ∧ ItemsAt W v' l := by
  obtain ⟨v0, v1, y0, y1, n, rfl, -, -, h0, h1⟩ := Go.Joins.open_agg2 Tryz.underlying42 (by kernel_rfl) (by kernel_rfl) hv h
  obtain ⟨st, e0, _⟩ := DataW.trod_bool Tryz.underlying4 h0
  simp only [List.cons.injEq, and_true] at e0
  subst e0
  obtain ⟨l, hl⟩ := ItemsAt.open h1
  exact ⟨st, v1, l, rfl, hl⟩
end
end Go.Proofs.YtbpcipobdokcfaaGreatDoor

/- RULES AND MACHINES THAT COME IN: what they read as. -/
namespace Go.Proofs.YtbpcipobdokcfaaGreatDoor
open Go.RowKit Go.ChangeShapes Go.WideShapes Go.Deep

section
variable {H : Type} {enc : TypeId × Value → H} {W : World}
set_option maxRecDepth 100000 in
theorem pat_cells {fuel : Nat} {cs : List Value} {x : DataW H × List MemPlace} (h : DataW.trod enc Tryz.prog W 0 (fun _ => true) true fuel 42 cs = some x) :
    ∃ (st : Bool) (v : Value) (l : List N.Item), cs = [.bool st, v] ∧ ItemsAt W v l := by
  obtain ⟨y0, y1, n, rfl, hl, h0, h1⟩ := trod_struct2 Tryz.underlying42 h
  have hl2 : cs.length = 2 := hl.trans (by kernel_rfl)
  match cs, hl2 with
  | [c0, c1], _ =>
    obtain ⟨st, e0, _⟩ := DataW.trod_bool Tryz.underlying4 h0
    obtain ⟨l, hli⟩ := ItemsAt.open h1
    have e0' : [c0] = [.bool st] := e0
    simp only [List.cons.injEq, and_true] at e0'
    subst e0'
    exact ⟨st, c1, l, rfl, hli⟩
set_option maxRecDepth 100000 in
theorem rule_cells {fuel : Nat} {cs : List Value} {x : DataW H × List MemPlace} (h : DataW.trod enc Tryz.prog W 0 (fun _ => true) true fuel 44 cs = some x) :
    ∃ (y : D.Rule) (vl vr : Value), cs = [.bool y.1.1, vl, .bool y.2.1.1, vr, .bool y.2.2] ∧ ItemsAt W vl y.1.2 ∧ ItemsAt W vr y.2.1.2 := by
  obtain ⟨y0, y1, y2, n, rfl, hl, h0, h1, h2⟩ := trod_struct3 Tryz.underlying44 h
  have hl5 : cs.length = 5 := hl.trans (by kernel_rfl)
  match cs, hl5 with
  | [c0, c1, c2, c3, c4], _ =>
    obtain ⟨sl, vl, ll, e0, hi0⟩ := pat_cells (cs := [c0, c1]) h0
    obtain ⟨sr, vr, lr, e1, hi1⟩ := pat_cells (cs := [c2, c3]) h1
    obtain ⟨br, e2, _⟩ := DataW.trod_bool Tryz.underlying4 h2
    have e2' : [c4] = [.bool br] := e2
    simp only [List.cons.injEq, and_true] at e0 e1 e2'
    obtain ⟨rfl, rfl⟩ := e0
    obtain ⟨rfl, rfl⟩ := e1
    subst e2'
    exact ⟨((sl, ll), (sr, lr), br), _, _, rfl, hi0, hi1⟩
set_option maxRecDepth 100000 in
theorem RulesAt.open {fuel : Nat} {v : Value} {x : DataW H × List MemPlace} (h : DataW.trod enc Tryz.prog W 0 (fun _ => true) true fuel 22 [v] = some x) : ∃ l, RulesAt W v l := by
  have ce : Tryz.prog.cellsOf 44 = 5 := by kernel_rfl
  rcases open_slice Tryz.underlying22 h with ⟨h1, _⟩ | ⟨a, len, cap, m, n, Dd, Pl, h1, _, h2, h3, h4, _, h5⟩
  · simp only [List.cons.injEq, and_true] at h1
    exact ⟨[], .inl ⟨h1, rfl⟩⟩
  · simp only [List.cons.injEq, and_true] at h1
    subst h1
    simp only [if_true] at h4
    subst h4
    rw [ce] at h5
    have key : ∀ i, i < m → ∃ q : D.Rule × Value × Value, (∀ j u, [Value.bool q.1.1.1, q.2.1, .bool q.1.2.1.1, q.2.2, .bool q.1.2.2][j]? = some u → W.cell? ((a.add (i * 5)).add j) = some u) ∧ ItemsAt W q.2.1 q.1.1.2 ∧ ItemsAt W q.2.2 q.1.2.1.2 := by
      intro i hi
      obtain ⟨cs', h6, h7⟩ := h5 i hi
      obtain ⟨_, hlen, hcell⟩ := World.cells?_some h6
      obtain ⟨y, vl, vr, rfl, h8, h9⟩ := rule_cells h7
      refine ⟨(y, vl, vr), fun j u hu => ?_, h8, h9⟩
      have hj : j < 5 := (List.getElem?_eq_some_iff.1 hu).1
      rw [hcell j hj]
      exact hu
    obtain ⟨q, hq⟩ := choose_lt key
    obtain ⟨b, off, sp⟩ := a
    have hlen : ((List.range len).map fun i => (q i).1).length = len := by simp
    refine ⟨(List.range len).map fun i => (q i).1, .inr ⟨b, off, sp, m, by rw [hlen], by rw [hlen]; exact h2, h3, fun hn => ?_⟩⟩
    have h0 : 0 < len := by
      rcases Nat.eq_zero_or_pos len with h | h
      · subst h; exact absurd rfl hn
      · exact h
    have hc0 := (hq 0 (by omega)).1 0 _ rfl
    have hsp : sp = none := World.cell?_spot (a := ((⟨b, off, sp⟩ : Addr).add (0 * 5)).add 0) hc0
    subst hsp
    refine ⟨rfl, World.block_lt_of_cell? _ _ hc0, fun i y hy => ?_⟩
    rw [List.getElem?_map] at hy
    obtain ⟨j, hj, rfl⟩ := Option.map_eq_some_iff.1 hy
    obtain ⟨hi, rfl⟩ := List.getElem?_eq_some_iff.1 hj
    simp only [List.length_range] at hi
    simp only [List.getElem_range]
    obtain ⟨k1, k2, k3⟩ := hq i (by omega)
    have hc : ∀ j u, [Value.bool (q i).1.1.1, (q i).2.1, .bool (q i).1.2.1.1, (q i).2.2, .bool (q i).1.2.2][j]? = some u → W.cell? ⟨b, off + i * 5 + j, none⟩ = some u := fun j u hu => by
      have := k1 j u hu
      rw [addr_add b off, addr_add b] at this
      exact this
    exact ⟨(q i).2.1, (q i).2.2, hc 0 _ rfl, hc 1 _ rfl, hc 2 _ rfl, hc 3 _ rfl, hc 4 _ rfl, k2, k3⟩
set_option maxRecDepth 100000 in
theorem ints_cells {fuel : Nat} {v : Value} {x : DataW H × List MemPlace} {t e : TypeId} (ht : Tryz.prog.underlying t = some (.slice e)) (he : Tryz.prog.underlying e = some (.int .i64)) (hc : Tryz.prog.cellsOf e = 1)
    (h : DataW.trod enc Tryz.prog W 0 (fun _ => true) true fuel t [v] = some x) : ∃ l, IntsAt W v l := by
  rcases Go.ChangeShapes.open_ints ht he hc h with ⟨h1, _⟩ | ⟨a, len, cap, zs, h1, _, h2, h3, h4, _, h5, _⟩
  · simp only [List.cons.injEq, and_true] at h1
    exact ⟨[], .inl ⟨h1, rfl⟩⟩
  · simp only [List.cons.injEq, and_true] at h1
    subst h1
    simp only [if_true] at h4
    have hl : (zs.take len).length = len := by rw [List.length_take]; omega
    obtain ⟨b, off, sp⟩ := a
    refine ⟨zs.take len, .inr ⟨b, off, sp, cap, by rw [hl], by rw [hl]; exact h2, h3, fun hn => ?_⟩⟩
    have h0 : 0 < zs.length := by
      rcases Nat.eq_zero_or_pos zs.length with h | h
      · exact absurd (by rw [List.eq_nil_of_length_eq_zero h]; simp) hn
      · exact h
    have hc0 := h5 0 h0
    have hsp : sp = none := World.cell?_spot (a := (⟨b, off, sp⟩ : Addr).add 0) hc0
    subst hsp
    refine ⟨rfl, World.block_lt_of_cell? _ _ hc0, fun i x hx => ?_⟩
    rw [List.getElem?_take] at hx
    split at hx
    · have hi : i < zs.length := (List.getElem?_eq_some_iff.1 hx).1
      have := h5 i hi
      rw [show (⟨b, off + i, none⟩ : Addr) = (⟨b, off, none⟩ : Addr).add i by unfold Addr.add; by_cases h0 : i = 0 <;> simp [h0], this, List.getD, hx]
      rfl
    · cases hx
set_option maxRecDepth 100000 in
theorem RowsAt.open {fuel : Nat} {v : Value} {x : DataW H × List MemPlace} (h : DataW.trod enc Tryz.prog W 0 (fun _ => true) true fuel 23 [v] = some x) : ∃ l, RowsAt W v l := by
  rcases open_slice1 Tryz.underlying23 (by kernel_rfl) h with ⟨h1, _⟩ | ⟨a, len, cap, m, n, V, Dd, Pl, h1, _, h2, h3, h4, _, h5⟩
  · simp only [List.cons.injEq, and_true] at h1
    exact ⟨[], .inl ⟨h1, rfl⟩⟩
  · simp only [List.cons.injEq, and_true] at h1
    subst h1
    simp only [if_true] at h4
    subst h4
    have key : ∀ i, i < m → ∃ q : List Int, W.cell? (a.add i) = some (V i) ∧ IntsAt W (V i) q := fun i hi => by
      obtain ⟨k1, k2⟩ := h5 i hi
      obtain ⟨q, hq⟩ := ints_cells Tryz.underlying27 Tryz.underlying3 (by kernel_rfl) k2
      exact ⟨q, k1, hq⟩
    obtain ⟨q, hq⟩ := choose_lt key
    obtain ⟨b, off, sp⟩ := a
    have hlen : ((List.range len).map q).length = len := by simp
    refine ⟨(List.range len).map q, .inr ⟨b, off, sp, m, by rw [hlen], by rw [hlen]; exact h2, h3, fun hn => ?_⟩⟩
    have h0 : 0 < len := by
      rcases Nat.eq_zero_or_pos len with h | h
      · subst h; exact absurd rfl hn
      · exact h
    have hc0 := (hq 0 (by omega)).1
    have hsp : sp = none := World.cell?_spot (a := (⟨b, off, sp⟩ : Addr).add 0) hc0
    subst hsp
    refine ⟨rfl, World.block_lt_of_cell? _ _ hc0, fun i y hy => ?_⟩
    rw [List.getElem?_map] at hy
    obtain ⟨j, hj, rfl⟩ := Option.map_eq_some_iff.1 hy
    obtain ⟨hi, rfl⟩ := List.getElem?_eq_some_iff.1 hj
    simp only [List.length_range] at hi
    simp only [List.getElem_range]
    obtain ⟨k1, k2⟩ := hq i (by omega)
    rw [addr_add b off] at k1
    exact ⟨_, k1, k2⟩
set_option maxRecDepth 100000 in
theorem mach_open {base : Nat} {v : Value} {d : DataW H} {p : List MemPlace} (hv : Value.okWide Tryz.prog W .any base 26 v) (h : DataW.Trod enc Tryz.prog W 0 (fun _ => true) true 26 v d p) :
    ∃ M : D.Mach, MachAt W v M := by
  obtain ⟨v0, v1, y0, y1, n, rfl, -, -, h0, h1⟩ := Go.Joins.open_agg2 Tryz.underlying26 (by kernel_rfl) (by kernel_rfl) hv h
  obtain ⟨l0, hl0⟩ := RowsAt.open h0
  obtain ⟨l1, hl1⟩ := ints_cells Tryz.underlying24 Tryz.underlying2 (by kernel_rfl) h1
  exact ⟨(l0, l1), v0, v1, rfl, hl0, hl1⟩
set_option maxRecDepth 100000 in
theorem rules_open {base : Nat} {v : Value} {d : DataW H} {p : List MemPlace} (hv : Value.okWide Tryz.prog W .any base 22 v) (h : DataW.Trod enc Tryz.prog W 0 (fun _ => true) true 22 v d p) :
    ∃ l, RulesAt W v l := by
  obtain ⟨a0, len0, cap0, rfl⟩ := Go.WideShapes.okWide_slice Tryz.underlying22 hv
  obtain ⟨fuel, hf⟩ := h
  exact RulesAt.open hf
end
end Go.Proofs.YtbpcipobdokcfaaGreatDoor
