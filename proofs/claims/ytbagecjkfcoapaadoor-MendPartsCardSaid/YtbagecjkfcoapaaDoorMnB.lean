/-
  THE WALKS OF package mend: the iterator over a text's units.
-/
import Derived.Test.YtbagecjkfcoapaaDoorMnA
import Derived.Test.YtbagecjkfcoapaaDoorMnP3
import Derived.Test.YtbagecjkfcoapaaDoorRange2
import Derived.Shelf.Abstract
import Derived.Shelf.RegionOpen
namespace Go.Proofs.YtbagecjkfcoapaaDoor
open Go.RowKit Go.Shelf
attribute [local go_sem] Oper.semAt_some

def uEnc (x : M.Place) : Array Value := #[.int .i64 (x.1 : Int), .agg #[.int .i64 (x.2.1 : Int), .bool x.2.2]]
/-- what comes next -/
def uOk (l : List UInt8) (pre : List M.Place) (x : M.Place) : Prop := ∃ t, pre ++ x :: t = M.places l

theorem unitsM_any (p : Option Addr) (w : World) :
    Calls Tryd.prog 33 #[.pointer p] w fun e w' => e = .returned (.func (.func 42) #[] #[.pointer (some ⟨w.heap.size, 0, none⟩)]) ∧ w.alloc (.cells #[.pointer p] 56) = w' := by
  go_enter Tryd.func33, Tryd.ntmps33
  go_wp2
  go_ret
  exact ⟨rfl, rfl⟩

set_option maxHeartbeats 2000000 in
theorem units1_iter (n : Nat) (A : Nat → Addr) (B b Bn : Nat) (s : ByteArray) (hs : s.size ≤ 16777216) (l : Nat) (W1 : World)
    (hE : E A B W1) (hB : B ≤ b) (hb : Blk W1 b 58 #[.string s]) (hBn : Blk W1 Bn 56 #[.pointer (some ⟨b, 0, none⟩)]) :
    IterC2 (n + 1) Tryd.prog 42 #[.pointer (some ⟨Bn, 0, none⟩)] uEnc (fun _ => False) (fun k => k = b ∨ k = Bn ∨ k < B) (uOk s.data.toList) (fun xs _ => xs = M.places s.data.toList) l W1 := by
  intro J Jx hJ hJx hY h0
  have HY := Box.mk hY
  have HJ := Box.mk hJ
  clear hY hJ
  have HSZ := Box.mk (size_eq s)
  refine callsIn_of_wp Tryd.func42 rfl trivial ?_
  simp only [Tryd.ntmps42, List.size_toArray, List.length_cons, List.length_nil, Nat.reduceAdd, Nat.reduceSub, Array.replicate_succ, Array.replicate_zero, List.push_toArray, List.append_toArray, List.nil_append, List.cons_append]
  gi_wp2
  refine wpIn_wide.2 (wp_scope_straight ((wpIn_wide (n := n + 1)).1 ?_))
  gi_wp2
  refine wpIn_label ?_
  gi_wp2
  gi_loopw [3] (fun v wr => ∃ (a : Nat) (pre : List M.Place), a ≤ s.size ∧ v = .int .i64 a ∧ Box (pre ++ M.rest s.data.toList a = M.places s.data.toList) ∧ Box (E A B wr) ∧ Box (Blk wr b 58 #[.string s]) ∧ Box (Blk wr Bn 56 #[.pointer (some ⟨b, 0, none⟩)]) ∧ Box (J pre wr))
    (fun v _ => s.size - (intOf v).toNat)
  case atStart => exact ⟨0, [], by omega, rfl, ⟨by rw [M.rest_zero]; rfl⟩, ⟨hE⟩, ⟨hb⟩, ⟨hBn⟩, ⟨h0⟩⟩
  case round =>
    obtain ⟨a, pre, ha, rfl, hp, hEr, hbr, hBnr, hj⟩ := hrel
    have c0 : wr.cell? ⟨b, 0, none⟩ = some (.string s) := (hbr.out.cell 0).trans rfl
    have c1 : wr.cell? ⟨Bn, 0, none⟩ = some (.pointer (some ⟨b, 0, none⟩)) := (hBnr.out.cell 0).trans rfl
    clear hE hb hBn h0
    by_cases hlt : a < s.size
    · have HA := Box.mk ((callsIn_wide (n := n)).2 (at_any A B b s a wr c0 ha hs hEr.out (by have := hbr.out.lt; omega)))
      have hlt' : a < s.data.toList.length := by rw [← HSZ.out]; exact hlt
      obtain ⟨m, o, hu⟩ : ∃ m o, M.unit (s.data.toList.drop a) = (m, o) := ⟨_, _, rfl⟩
      have hua := M.unit_at hlt'
      have hrc := M.rest_cons s.data.toList a hlt'
      rw [hu] at hua hrc
      simp only at hua hrc
      have HU := Box.mk (show unitV (s.data.toList.drop a) = .agg #[.int .i64 m, .bool o] by unfold unitV; rw [hu])
      have HP := Box.mk (show pre ++ (a, m, o) :: M.rest s.data.toList (a + m) = M.places s.data.toList by rw [← hrc]; exact hp.out)
      have ham : a + m ≤ s.size := by rw [HSZ.out]; exact hua.2.2
      have hm1 := hua.1
      have hm4 := hua.2.1
      clear hlt' hu hua hrc
      gi_wp2
      refine ⟨trivial, HA.out.mono ?_⟩; rintro e w1 ⟨rfl, hb1⟩; rw [HU.out]
      have hT1 : Turns (fun _ => False) wr (w1.alloc (.cells #[.int .i64 m, .bool o] 44)) := (Turns.of_below hb1).trans (Turns.alloc _ _)
      have HT1 := Box.mk hT1
      have hy := HY.out pre (a, m, o) wr _ hj.out hT1 ⟨_, HP.out⟩
      unfold uEnc at hy
      simp only at hy
      obtain ⟨fn, tmps, assign, body, hy, hRd⟩ := hy
      have HRD := Box.mk hRd
      have hb1s := hb1.size
      clear hRd hT1 hb1
      gi_wp2
      refine HRD.out.mono ?_
      rintro e W3 (⟨rfl, hj3, hk3⟩ | ⟨rfl, hx3⟩)
      · have HR3 := Box.mk (show Box (E A B W3) ∧ Box (Blk W3 b 58 #[.string s]) ∧ Box (Blk W3 Bn 56 #[.pointer (some ⟨b, 0, none⟩)]) ∧ Box (J (pre ++ [(a, m, o)]) W3) from
          ⟨⟨(hEr.out.below (HT1.out.below (by have := hbr.out.lt; omega) (fun _ h => h.elim))).holds hk3 (fun k hk => .inl (.inr (.inr hk)))⟩, ⟨hk3.blk (HT1.out.blk hbr.out (fun h => h)) (.inl (.inl rfl))⟩, ⟨hk3.blk (HT1.out.blk hBnr.out (fun h => h)) (.inl (.inr (.inl rfl)))⟩, ⟨hj3⟩⟩)
        have hbx := hk3.blk (Blk.new w1 44 #[.int .i64 m, .bool o]) (.inr ⟨hb1s, by simp⟩)
        have x0 : W3.cell? ⟨w1.heap.size, 0, none⟩ = some (.int .i64 m) := (hbx.cell 0).trans rfl
        clear hj3 hk3 hbx
        gi_wp2
        go_roundw
        case rel => exact ⟨a + m, pre ++ [(a, m, o)], ham, by go_num, ⟨by rw [List.append_assoc]; exact HP.out⟩, HR3.out.1, HR3.out.2.1, HR3.out.2.2.1, HR3.out.2.2.2⟩
        case measure => simp [intOf]; omega
      · gi_wp2
        rw [Exit.noGoto_normal]
        go_end0
        exact ⟨⟨_, rfl⟩, .inr ⟨_, hx3⟩⟩
    · have HEND := Box.mk (show pre = M.places s.data.toList by
        have := hp.out
        rw [M.rest_end _ _ (by rw [← HSZ.out]; omega), List.append_nil] at this
        exact this)
      gi_wp2
      rw [Exit.noGoto_normal]
      go_end0
      exact ⟨⟨_, rfl⟩, .inl ⟨pre, HEND.out, hj.out⟩⟩
end Go.Proofs.YtbagecjkfcoapaaDoor
