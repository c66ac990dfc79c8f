/-
  strings.Builder, WRITTEN: which blocks turn: its own, and its array's.
-/
import Derived.Test.YtbagecjkfcoapaaDoorBuild
import Derived.Test.YtbagecjkfcoapaaDoorRange
import Derived.RegionTactic
namespace Go.Proofs.YtbagecjkfcoapaaDoor
open Go.RowKit

/-- a builder at block b, never written or used, its array at v -/
structure BuildAt (Bar b : Nat) (v : Value) (l : List UInt8) (w : World) : Prop where
  blk : Blk w b 65 #[.pointer none, v] ∨ Blk w b 65 #[.pointer (some ⟨b, 0, none⟩), v]
  own : w.ownsRow Bar 5 1 v l.length (Lib.byteCells l)
  ne : v.ownBlock ≠ some b
theorem BuildAt.turns {Bar b : Nat} {v : Value} {l : List UInt8} {w w' : World} {own : Nat → Prop} (h : BuildAt Bar b v l w) (ht : Turns own w w') (hb : ¬ own b) (ho : ∀ k, v.ownBlock = some k → ¬ own k) : BuildAt Bar b v l w' :=
  ⟨h.blk.imp (fun k => ht.blk k hb) (fun k => ht.blk k hb), ht.row h.own ho, h.ne⟩
theorem BuildAt.lt {Bar b : Nat} {v : Value} {l : List UInt8} {w : World} (h : BuildAt Bar b v l w) : b < w.heap.size := by
  rcases h.blk with k | k <;> exact k.lt
theorem BuildAt.isBuilder {Bar b : Nat} {v : Value} {l : List UInt8} {w : World} (h : BuildAt Bar b v l w) (hle : b ≤ Bar) : Lib.IsBuilder 65 5 b b (Lib.byteCells l) w := by
  have hl : (Lib.byteCells l).length = l.length := by simp [Lib.byteCells]
  have ho : w.ownsRow b 5 1 v (Lib.byteCells l).length (Lib.byteCells l) := by
    rw [hl]
    refine ⟨h.own.1, ?_⟩
    rcases h.own.2 with h | ⟨g, cap, cur, h1, h2, h3⟩
    · exact .inl h
    · exact .inr ⟨g, cap, cur, h1, by omega, h3⟩
  rcases h.blk with k | k
  · exact .inl ⟨Nat.le_refl _, v, k, ho, h.ne⟩
  · exact .inr ⟨Nat.le_refl _, v, k, ho, h.ne⟩

theorem Turns.of_grown' {A B : World} {b : Nat} {row : Option Nat} (h : A.grownBy B row) : Turns (fun k => k = b ∨ row = some k) A B :=
  ⟨h.os, h.tape, h.output, h.size, fun i hi ho => h.block i hi (fun e => ho (.inr e.symm))⟩

set_option maxHeartbeats 2000000 in
set_option maxRecDepth 100000 in
theorem bWrite2_any (Bar b : Nat) (v : Value) (l : List UInt8) (s : ByteArray) (w : World) (h : BuildAt Bar b v l w) (hz : l.length + s.size ≤ 16777216) (hbB : b < Bar) (hB : Bar ≤ w.heap.size) :
    Calls Tryd.prog 35 #[.pointer (some ⟨b, 0, none⟩), .string s] w fun e w' => e = .returned (.tuple #[.int .i64 s.size, .nilIface]) ∧ (∃ v', BuildAt Bar b v' (l ++ s.data.toList) w') ∧ Turns (fun k => k = b ∨ v.ownBlock = some k) w w' := by
  obtain ⟨i0, hi, hz0, hz1, hz2⟩ := info_parts u8Info
  have hlen : (Lib.byteCells l).length = l.length := by simp [Lib.byteCells]
  have hlt := h.lt
  have hcopy : Calls Tryd.prog 45 #[.pointer (some ⟨b, 0, none⟩)] w fun e w' => e = .returned (.tuple #[]) ∧ Blk w' b 65 #[.pointer (some ⟨b, 0, none⟩), v] ∧ Turns (fun k => k = b) w w' := by
    rcases h.blk with k | k
    · refine (copy_fresh b w ((k.cell 0).trans rfl) (by unfold Blk at k; simp [World.shape?, k]) (k.frozen 0)).mono ?_
      rintro e w' ⟨rfl, rfl⟩
      exact ⟨rfl, k.set_ 0 _, Turns.setCell (own := fun k => k = b) w (p := ⟨b, 0, none⟩) rfl _⟩
    · refine (copy_used b w ((k.cell 0).trans rfl)).mono ?_
      rintro e w' ⟨rfl, rfl⟩
      exact ⟨rfl, k, Turns.refl _ _⟩
  have hown0 := h.own
  have hne := h.ne
  clear h
  go_enter Tryd.func35, Tryd.ntmps35
  go_wp2_with (go_at_call 45; refine hcopy.mono ?_)
  rintro e w1 ⟨rfl, hbk, ht1⟩
  have hown := ht1.row hown0 (fun k hk e => by subst e; exact hne hk)
  have c0 : w1.cell? ⟨b, 0, none⟩ = some (.pointer (some ⟨b, 0, none⟩)) := (hbk.cell 0).trans rfl
  have c1 : w1.cell? ⟨b, 1, none⟩ = some v := (hbk.cell 1).trans rfl
  have hs1 := ht1.size
  clear hown0 hcopy
  go_wp2_with (at_builtin; refine Lib.wpList_append_own_string _ rfl _ _ 63 9 rfl Bar 5 i0 Tryd.underlying63 Tryd.underlying9 hi hz0 hz1 hz2 _ _ _ rfl hown s rfl ?c3 ?c4 ?c5 ?_)
  case c3 => unfold maxLen; omega
  case c4 => omega
  case c5 => omega
  intro v' w2 hown' hgrow hnil
  have hb2 := hbk.grown hgrow (fun e => hne e.symm)
  have d1 : w2.cell? ⟨b, 1, none⟩ = some v := (hb2.cell 1).trans rfl
  have f1 := hb2.frozen 1
  have hlt' := hown'.lt
  obtain ⟨ao, n', cap, rfl⟩ : ∃ ao n' cap, v' = .slice ao n' cap := by
    rcases hown'.2 with ⟨hv, _⟩ | ⟨g, cap, cur, hv, _⟩
    · exact ⟨_, _, _, hv⟩
    · exact ⟨_, _, _, hv⟩
  have hfin := hb2.set_ 1 (.slice ao n' cap)
  have HFIN := Box.mk hfin
  have HB2 := Box.mk hb2
  clear hfin hb2 c0 c1
  go_wp2
  go_ret2
  have hT3 : Turns (fun k => k = b) w2 (w2.setCell ⟨b, 1, none⟩ (.slice ao n' cap)) := Turns.setCell (own := fun k => k = b) w2 (p := ⟨b, 1, none⟩) rfl _
  refine ⟨rfl, ⟨.slice ao n' cap, .inr HFIN.out, ?_, fun e => by have := (hlt' b e).1; omega⟩, ?_⟩
  · have := hT3.row hown' (fun k hk e => by subst e; have := (hlt' _ hk).1; omega)
    rw [List.length_append, ← size_eq, show Lib.byteCells (l ++ s.data.toList) = Lib.byteCells l ++ Lib.strCells s by simp [Lib.byteCells, Lib.strCells]]
    exact this
  · exact ((ht1.mono fun k hk => .inl hk).trans (Turns.of_grown' hgrow)).trans (hT3.mono fun k hk => .inl hk)

theorem freeze_turns (w : World) (g n : Nat) : Turns (fun k => k = g) w (w.freeze ⟨g, 0, none⟩ n) := by
  have hb := Lib.below_freeze (B := 0) (Below.refl 0 w) (p := ⟨g, 0, none⟩) (Nat.zero_le _) n
  refine ⟨hb.os, hb.tape, hb.output, hb.size, fun k hk ho => ?_⟩
  rcases Nat.lt_or_ge k g with h | h
  · exact (Lib.below_freeze (B := g) (Below.refl g w) (p := ⟨g, 0, none⟩) (Nat.le_refl _) n).block k h
  · have hgk : g ≠ k := fun e => ho e.symm
    unfold World.freeze
    split
    · rfl
    · simp only [Array.getElem?_modify]
      rw [if_neg hgk]

set_option maxHeartbeats 1000000 in
set_option maxRecDepth 100000 in
theorem bString2_any (Bar b : Nat) (v : Value) (l : List UInt8) (w : World) (h : BuildAt Bar b v l w) :
    Calls Tryd.prog 36 #[.pointer (some ⟨b, 0, none⟩)] w fun e w' => e = .returned (.string ⟨l.toArray⟩) ∧ Turns (fun k => v.ownBlock = some k) w w' := by
  obtain ⟨p, hbk⟩ : ∃ p, Blk w b 65 #[p, v] := by rcases h.blk with k | k <;> exact ⟨_, k⟩
  have hown := h.own
  by_cases h0 : l = []
  · subst h0
    have key : Calls Tryd.prog 36 #[.pointer (some ⟨b, 0, none⟩)] w fun e w' => e = .returned (.string ⟨#[]⟩) ∧ Below w.heap.size w w' := by
      rcases hown.2 with ⟨rfl, _⟩ | ⟨g, cap, cur, rfl, hbg, hg, _⟩
      · exact Any.Builder_String_nil lays169 extra169 w.heap.size b p w hbk
      · by_cases hc0 : cap = 0
        · subst hc0
          exact Any.Builder_String_noroom lays169 extra169 w.heap.size b g p cur w (Nat.le_refl _) hbk hg
        · exact Any.Builder_String_room lays169 extra169 w.heap.size b g cap p w hc0 hbk
    exact key.mono fun e w' ⟨he, hb⟩ => ⟨he, Turns.of_below hb⟩
  · have hl0 : l.length ≠ 0 := by simpa using h0
    obtain ⟨g, cap, cur, rfl, hbg, hg, hnc, hcm, hcs, htake⟩ : ∃ g cap cur, v = .slice (some ⟨g, 0, none⟩) l.length cap ∧ Bar ≤ g ∧ w.heap[g]? = some (.cells cur 5 (0, 0)) ∧ l.length ≤ cap ∧ cap ≤ maxLen ∧ cur.size = cap * 1 ∧ cur.toList.take (l.length * 1) = Lib.byteCells l := by
      rcases hown.2 with ⟨_, hz⟩ | ⟨g, cap, cur, hv, r⟩
      · exact absurd hz hl0
      · exact ⟨g, cap, cur, hv, r⟩
    have c1 : w.cell? ⟨b, 1, none⟩ = some (.slice (some ⟨g, 0, none⟩) l.length cap) := (hbk.cell 1).trans rfl
    have hSD : (Builtin.unsafeSliceData_ #[63] 83 #[.slice (some ⟨g, 0, none⟩) l.length cap]).run Tryd.prog w.drew = .ok (.pointer (some ⟨g, 0, none⟩)) w.drew :=
      Lib.run_unsafeSliceData_row _ _ _ _ _ _ (by omega)
    have hUS : (Builtin.unsafeString_ #[83, 3] 9 #[.pointer (some ⟨g, 0, none⟩), .int .i64 l.length]).run Tryd.prog w.drew = .ok (.string ⟨l.toArray⟩) (w.drew.freeze ⟨g, 0, none⟩ l.length) := by
      refine Lib.run_unsafeString_row w.drew 83 3 9 5 Tryd.underlying83 (by kernel_rfl) g cur.size (by have hg' : w.drew.heap[g]? = some (.cells cur 5 (0, 0)) := hg; simp [World.shape?, hg']) l h0 (by omega) (by unfold maxLen at hcm; omega) ?_
      intro j x hx
      have := hown.cells (g := g) rfl j (.int .u8 x.toNat) (by simp [Lib.byteCells, hx])
      exact this
    clear hown htake h0 h hbk
    go_enter Tryd.func36, Tryd.ntmps36
    go_wp2
    go_region
    all_goals
      go_wp2
      go_ret
      refine ⟨rfl, (Turns.drew w).trans ((freeze_turns w.drew g l.length).mono fun k hk => by subst hk; rfl)⟩
end Go.Proofs.YtbagecjkfcoapaaDoor
