/-
  THE WALKS OF package rule: what is said of a place.
-/
import Derived.Test.YtbpcipobdokcfaaGreatDoorHSi1
import Derived.Test.YtbpcipobdokcfaaGreatDoorH9
import Derived.Test.YtbpcipobdokcfaaGreatDoorH3
namespace Go.Proofs.YtbpcipobdokcfaaGreatDoor
open Go.RowKit Go.Shelf
attribute [local go_sem] Oper.semAt_some

/-- the first rule that applies says; else there is a boundary -/
def sayL (cs : List Int) (p : Int) : List D.Rule → Bool
  | [] => true
  | x :: t => if appB x cs p = true then x.2.2 else sayL cs p t
theorem sayL_hit {cs : List Int} {p : Int} : ∀ {R : List D.Rule} {i : Nat} {r : D.Rule}, R[i]? = some r → appB r cs p = true → (∀ (j : Nat) (y : D.Rule), j < i → R[j]? = some y → appB y cs p = false) → sayL cs p R = r.2.2
  | [], i, r, h, _, _ => by simp at h
  | x :: t, 0, r, h, ha, _ => by
    simp only [List.getElem?_cons_zero, Option.some.injEq] at h
    subst h
    unfold sayL
    rw [if_pos ha]
  | x :: t, i + 1, r, h, ha, hj => by
    unfold sayL
    rw [if_neg (by rw [hj 0 x (by omega) rfl]; exact Bool.false_ne_true)]
    exact sayL_hit (by simpa using h) ha (fun j y h1 h2 => hj (j + 1) y (by omega) (by simpa using h2))
theorem sayL_none {cs : List Int} {p : Int} : ∀ {R : List D.Rule}, (∀ (j : Nat) (y : D.Rule), R[j]? = some y → appB y cs p = false) → sayL cs p R = true
  | [], _ => rfl
  | x :: t, hj => by
    unfold sayL
    rw [if_neg (by rw [hj 0 x rfl]; exact Bool.false_ne_true)]
    exact sayL_none (fun j y h2 => hj (j + 1) y (by simpa using h2))
theorem sayL_spec (cs : List Int) (p : Int) : ∀ R : List D.Rule, (∃ (i : Nat) (r : D.Rule), R[i]? = some r ∧ appB r cs p = true ∧ (∀ (j : Nat) (y : D.Rule), j < i → R[j]? = some y → appB y cs p = false) ∧ sayL cs p R = r.2.2) ∨ ((∀ (j : Nat) (y : D.Rule), R[j]? = some y → appB y cs p = false) ∧ sayL cs p R = true)
  | [] => .inr ⟨fun j y h => by simp at h, rfl⟩
  | x :: t => by
    unfold sayL
    rcases Bool.eq_false_or_eq_true (appB x cs p) with h | h
    · exact .inl ⟨0, x, rfl, h, fun j y hj => by omega, by rw [if_pos h]⟩
    · rw [if_neg (by rw [h]; exact Bool.false_ne_true)]
      have hc : ∀ (j : Nat) (y : D.Rule), (x :: t)[j]? = some y → j = 0 ∧ y = x ∨ ∃ i, j = i + 1 ∧ t[i]? = some y := fun j y hy => by
        cases j with
        | zero => simp only [List.getElem?_cons_zero, Option.some.injEq] at hy; exact .inl ⟨rfl, hy.symm⟩
        | succ i => exact .inr ⟨i, rfl, by simpa using hy⟩
      rcases sayL_spec cs p t with ⟨i, r, h1, h2, h3, h4⟩ | ⟨h1, h2⟩
      · refine .inl ⟨i + 1, r, by simpa using h1, h2, fun j y hj hy => ?_, h4⟩
        rcases hc j y hy with ⟨-, rfl⟩ | ⟨k, rfl, hk⟩
        · exact h
        · exact h3 k y (by omega) hk
      · refine .inr ⟨fun j y hy => ?_, h2⟩
        rcases hc j y hy with ⟨-, rfl⟩ | ⟨k, rfl, hk⟩
        · exact h
        · exact h1 k y hk

theorem results_rowP {P : Program} {fn : Func} {p : Tmp} {ty : TypeId} (h : fn.results = #[.cell p ty]) (tmps : Array Value) (w : World) (g : Nat) (t : TypeId) (cs : Array Value) (fr : Nat × Nat) (d : TypeDesc)
    (hp : tmps.getD p undef = .pointer (some ⟨g, 0, none⟩)) (hg : w.heap[g]? = some (.cells cs t fr)) (hu : P.underlying ty = some d) (hd : (match d with | .struct _ | .array _ _ => true | _ => false) = true) (hi : (P.info? ty).map (·.size) = some cs.size) :
    (results fn tmps).run P w = .ok (.agg cs) w := by
  have hp' : tmps[p]?.getD undef = .pointer (some ⟨g, 0, none⟩) := by simpa using hp
  simp [results, h, hp', asAddr, run_loadVar_row w g t ty cs fr d hg hu hd hi]
theorem saysInfo : (Tryz.prog.info? 87).map (·.size) = some 2 := by kernel_rfl

set_option maxRecDepth 10000 in
set_option maxHeartbeats 4000000 in
theorem say_any (jb : Nat) (rv cv : Value) (R : List D.Rule) (cs : List Int) (p : Int) (w : World) (hJ : Blk w jb 85 #[rv, cv]) (hR : RulesAt w rv R) (hf : ∀ x ∈ R, ruleFit x) (hRz : R.length ≤ 40) (hall : ∀ x ∈ R, ruleB 32 x = true) (hC : IntsAt w cv cs) (hz : cs.length ≤ 900) (hp0 : 0 < p) (hp1 : p < cs.length) :
    Calls Tryz.prog 47 #[.pointer (some ⟨jb, 0, none⟩), .int .i64 p] w fun e w' => (∃ i : Int, e = .returned (.agg #[.bool (sayL cs p R), .int .i64 i])) ∧ Below w.heap.size w w' := by
  have HR := Box.mk hR
  have HC := Box.mk hC
  have HJ := Box.mk hJ
  obtain ⟨ro, rc, rfl⟩ := hR.slice
  obtain ⟨lo, lc, rfl⟩ := hC.slice
  have hjl := hJ.lt
  clear hR hC hJ
  refine (callsIn_wide (n := 9)).1 (callsIn_of_wp_marks Tryz.func47 rfl trivial (wpIn_wide.2 ?_))
  simp only [Tryz.ntmps47, List.size_toArray, List.length_cons, List.length_nil, Nat.reduceAdd, Nat.reduceSub, Array.replicate_succ, Array.replicate_zero, List.push_toArray, List.append_toArray, List.nil_append, List.cons_append]
  go_wp2_with fail
  obtain ⟨wA, hwA⟩ : ∃ wA, wA = w.alloc (.cells #[.bool false, .int .i64 0] 87) := ⟨_, rfl⟩
  rw [← hwA]
  refine wp_region_still_tail 9 (by kernel_rfl) (by kernel_rfl) ?_
  simp only [List.take_succ_cons, List.take_zero, List.drop_succ_cons, List.drop_zero]
  change wpStill _ _ (World.drew wA) (fun a' => wpList _ _ _ _ a' (World.drew wA)) _ _
  have hbA : Below w.heap.size w wA := by rw [hwA]; exact alloc_below' _ _
  have hrb : Blk wA w.heap.size 87 #[.bool false, .int .i64 0] := by rw [hwA]; exact Blk.new _ _ _
  have hsA : wA.heap.size = w.heap.size + 1 := by rw [hwA]; simp
  have hTd : Turns (fun _ => False) wA wA.drew := Turns.drew wA
  obtain ⟨wB, hwB⟩ : ∃ wB, wB = wA.drew := ⟨_, rfl⟩
  have hsB : wB.heap.size = w.heap.size + 1 := by rw [hwB]; exact hsA
  rw [← hwB] at hTd ⊢
  have HRB := Box.mk (hTd.blk hrb (fun h => h))
  have hbB : Below w.heap.size w wB := hbA.trans (hTd.below hbA.size (fun _ h => h.elim))
  have hjB := HJ.out.below hbB hjl
  have c0 : wB.cell? ⟨jb, 0, none⟩ = some (.slice ro R.length rc) := (hjB.cell 0).trans rfl
  have c1 : wB.cell? ⟨jb, 1, none⟩ = some (.slice lo cs.length lc) := (hjB.cell 1).trans rfl
  have HBB := Box.mk hbB
  have HSB := Box.mk hsB
  have hjlB := hjB.lt
  clear hwA hwB hTd hbA hrb hsA hjB hbB hsB
  still_step
  still_step
  still_step
  still_step
  still_step
  still_step
  still_step
  still_step
  still_step
  refine wpStill_nil ?_
  change wpList _ _ _ _ _ _
  go_wp2_with (go_at_call 75; refine (rat_any _ _ _ _ _ _ _ _).mono ?_; rintro e w' ⟨rfl, rfl⟩)
  clear c0 c1 hjlB
  obtain ⟨hb1, hb2, hb3, hbL, hsz⟩ := threeP wB #[.slice ro R.length rc] #[.slice lo cs.length lc] #[.int .i64 p] 83 27 3
  generalize ((wB.alloc (.cells #[.slice ro R.length rc] 83)).alloc (.cells #[.slice lo cs.length lc] 27)).alloc (.cells #[.int .i64 p] 3) = wL at hb1 hb2 hb3 hbL hsz ⊢
  have hbw : Below w.heap.size w wL := HBB.out.trans (hbL.mono HBB.out.size)
  have hAL : Agree w wL := .of_below hbw
  have hsB := HSB.out
  have hrb := HRB.out.below hbL (by omega)
  have hszL : wL.heap.size = w.heap.size + 4 := by omega
  have HSL := Box.mk hszL
  have HSZ := Box.mk hsz
  have HBW := Box.mk hbw
  have hrb' := hrb
  clear hsB hsz hszL
  refine (wpIn_wide (n := 9)).1 (range_law (α := RuleX) (gf := 101) (lb := #[.pointer (some ⟨wB.heap.size, 0, none⟩), .pointer (some ⟨wB.heap.size + 1, 0, none⟩), .pointer (some ⟨wB.heap.size + 1 + 1, 0, none⟩)]) rfl (enters_of Tryz.func101 (by kernel_rfl) rfl)
    (encs := rEnc) (own := fun _ => False) (keep := fun k => k < w.heap.size ∨ k = wB.heap.size ∨ k = wB.heap.size + 1 ∨ k = wB.heap.size + 1 + 1) (ok := rOk R cs p) (S := fun xs _ => xs = [] → ∀ (j : Nat) (y : D.Rule), R[j]? = some y → appB y cs p = false)
    (fun k hk => by have := HSB.out; have := HSZ.out; rcases hk with h | h; exact h.elim; omega)
    (fun W1 ht => rat1_iter 7 w R _ _ cs HR.out hf hRz hall HC.out hz p hp0 hp1 wB.heap.size (wB.heap.size + 1) (wB.heap.size + 1 + 1) _ W1 (hAL.turns ht (fun _ h => h.elim)) (ht.blk hb1 (fun h => h)) (ht.blk hb2 (fun h => h)) (ht.blk hb3 (fun h => h)))
    (fun _ => rfl)
    (fun pre W => pre = [] ∧ Blk W w.heap.size 87 #[.bool false, .int .i64 0] ∧ Below w.heap.size w W)
    (fun c _ W => c = .ret ∧ (∃ (i : Nat), Blk W w.heap.size 87 #[.bool (sayL cs p R), .int .i64 i]) ∧ Below w.heap.size w W) ?hI ?hIx ⟨rfl, hrb, hbw⟩
    (fun x a1 W => ∃ g, wL.heap.size + 2 ≤ g ∧ Blk W g 44 #[.bool x.2.1.1.1, .slice x.2.2.1.1 x.2.1.1.2.length x.2.2.1.2, .bool x.2.1.2.1.1, .slice x.2.2.2.1 x.2.1.2.1.2.length x.2.2.2.2, .bool x.2.1.2.2] ∧ a1 = { tmps := #[.pointer (some ⟨jb, 0, none⟩), .int .i64 p, undef, undef, .pointer (some ⟨w.heap.size, 0, none⟩), .int .i64 x.1, .pointer (some ⟨g, 0, none⟩), .pointer (some ⟨jb, 0, none⟩), .pointer (some ⟨jb, 0, none⟩), .pointer (some ⟨jb, 0, none⟩), .agg #[.slice ro R.length rc], .pointer (some ⟨jb, 0, none⟩), .pointer (some ⟨jb, 0, none⟩), .pointer (some ⟨jb, 1, none⟩), .slice lo cs.length lc, .int .i64 p, .func (.func 101) #[] #[.pointer (some ⟨wB.heap.size, 0, none⟩), .pointer (some ⟨wB.heap.size + 1, 0, none⟩), .pointer (some ⟨wB.heap.size + 1 + 1, 0, none⟩)], .int .i64 x.1, .agg #[.bool x.2.1.1.1, .slice x.2.2.1.1 x.2.1.1.2.length x.2.2.1.2, .bool x.2.1.2.1.1, .slice x.2.2.2.1 x.2.1.2.1.2.length x.2.2.2.2, .bool x.2.1.2.2], undef, undef, undef, undef, undef], defers := [] })
    (fun x a1 W W' ⟨g, h1, h2, h3⟩ ht => ⟨g, h1, ht.blk h2 (by omega), h3⟩) ?assign ?body ?done ?stop (fun _ _ _ h _ => h))
  case hI =>
    rintro pre W W' ⟨h1, h2, h3⟩ ht
    have := HSL.out
    exact ⟨h1, ht.blk h2 (fun h => by rcases h with h | h; exact h; omega), h3.trans (ht.below h3.size (fun k hk => by rcases hk with h | h; exact h.elim; omega))⟩
  case hIx =>
    rintro c pre W W' ⟨h1, ⟨g, h3⟩, h6⟩ ht
    have := HSL.out
    exact ⟨h1, ⟨g, ht.blk h3 (fun h => by rcases h with h | h; exact h; omega)⟩, h6.trans (ht.below h6.size (fun k hk => by rcases hk with h | h; exact h.elim; omega))⟩
  case assign =>
    intro x W K hW hK
    have HK := Box.mk hK
    clear hK
    obtain ⟨i, ⟨⟨stl, il⟩, ⟨str, ir⟩, br⟩, ⟨al, acl⟩, ar, acr⟩ := x
    unfold rEnc
    simp only
    gi_wp2
    exact HK.out _ _ (Turns.alloc _ _) ⟨W.heap.size, hW, Blk.new _ _ _, rfl⟩
  case body =>
    rintro pre ⟨i, ⟨⟨stl, il⟩, ⟨str, ir⟩, br⟩, ⟨al, acl⟩, ar, acr⟩ a1 W hW ⟨rfl, h1, h2⟩ ⟨k1, k2, k3⟩ ⟨g, g1, g2, rfl⟩
    simp only at k1 k2 k3 g2
    have HSY := Box.mk (sayL_hit k1 k2 (k3 trivial))
    have HB := Box.mk h1
    have H2 := Box.mk h2
    have l0 := h1.lt
    have c0 : W.cell? ⟨w.heap.size, 0, none⟩ = some (.bool false) := (h1.cell 0).trans rfl
    have c1 : W.cell? ⟨w.heap.size, 1, none⟩ = some (.int .i64 0) := (h1.cell 1).trans rfl
    have f0 := h1.frozen 0
    have f1 := h1.frozen 1
    have e4 : W.cell? ⟨g, 4, none⟩ = some (.bool br) := (g2.cell 4).trans rfl
    have l4 := g2.lt
    clear h1 h2 k1 k2 k3 g2 hb1 hb2 hb3 hbL hAL hrb hrb' hbw
    gi_wp2
    have hT : Turns (fun k => k = w.heap.size) W ((W.setCell ⟨w.heap.size, 0, none⟩ (.bool br)).setCell ⟨w.heap.size, 1, none⟩ (.int .i64 (i : Int))) :=
      (Turns.setCell (own := fun k => k = w.heap.size) W (p := ⟨w.heap.size, 0, none⟩) rfl (.bool br)).trans (Turns.setCell (own := fun k => k = w.heap.size) _ (p := ⟨w.heap.size, 1, none⟩) rfl (.int .i64 (i : Int)))
    have hs := HSL.out
    refine ⟨Holds.of_turns hT (fun k hk => by omega) (fun k hk => by omega), rfl, ⟨i, ?_⟩, H2.out.trans (hT.below H2.out.size (fun k hk => by omega))⟩
    rw [HSY.out]
    exact (HB.out.set_ 0 _).set_ 1 _
  case stop =>
    rintro c pre W hW ⟨rfl, ⟨i, h1⟩, h3⟩ hD
    have HD := Box.mk hD
    have H1 := Box.mk h1
    have H3 := Box.mk h3
    clear h1 h3 hD hb1 hb2 hb3 hbL hAL hrb hrb' hbw
    refine wpIn_wide.2 ?_
    go_wp2_with fail
    refine ⟨by simp, .inl ⟨_, _, rfl, run_takeDeferred HD.out, ?_⟩⟩
    have hs := HSL.out
    have hT : Turns (fun k => k = wL.heap.size) W (W.putObj wL.heap.size (.deferred none)) := Turns.putObj (own := fun k => k = wL.heap.size) W rfl (.deferred none)
    exact ⟨_, results_rowP Tryz.results47 _ _ w.heap.size 87 #[.bool (sayL cs p R), .int .i64 (i : Int)] (0, 0) _ rfl (hT.blk H1.out (by omega)) Tryz.underlying87 rfl saysInfo, ⟨_, rfl⟩, H3.out.trans (hT.below H3.out.size (fun k hk => by omega))⟩
  case done =>
    intro xs W hW hS ⟨h1, h2, h3⟩ hD
    have HSY := Box.mk (sayL_none (hS h1))
    have H2 := Box.mk h2
    have H3 := Box.mk h3
    have HD := Box.mk hD
    have l0 := h2.lt
    have c0 : W.cell? ⟨w.heap.size, 0, none⟩ = some (.bool false) := (h2.cell 0).trans rfl
    have c1 : W.cell? ⟨w.heap.size, 1, none⟩ = some (.int .i64 0) := (h2.cell 1).trans rfl
    have f0 := h2.frozen 0
    have f1 := h2.frozen 1
    clear h1 h2 h3 hD hS hb1 hb2 hb3 hbL hAL hrb hrb' hbw
    go_wp2_with fail
    have hs := HSL.out
    have hT : Turns (fun k => k = w.heap.size) W ((W.setCell ⟨w.heap.size, 0, none⟩ (.bool true)).setCell ⟨w.heap.size, 1, none⟩ (.int .i64 (-1))) :=
      (Turns.setCell (own := fun k => k = w.heap.size) W (p := ⟨w.heap.size, 0, none⟩) rfl (.bool true)).trans (Turns.setCell (own := fun k => k = w.heap.size) _ (p := ⟨w.heap.size, 1, none⟩) rfl (.int .i64 (-1)))
    refine ⟨by simp, .inl ⟨_, _, rfl, run_takeDeferred ((hT.block _ (by omega) (by omega)).trans HD.out), ?_⟩⟩
    have hT2 : Turns (fun k => k = wL.heap.size) ((W.setCell ⟨w.heap.size, 0, none⟩ (.bool true)).setCell ⟨w.heap.size, 1, none⟩ (.int .i64 (-1))) _ := Turns.putObj (own := fun k => k = wL.heap.size) _ rfl (.deferred none)
    have hbk : Blk ((W.setCell ⟨w.heap.size, 0, none⟩ (.bool true)).setCell ⟨w.heap.size, 1, none⟩ (.int .i64 (-1))) w.heap.size 87 #[.bool true, .int .i64 (-1)] := (H2.out.set_ 0 _).set_ 1 _
    refine ⟨_, results_rowP Tryz.results47 _ _ w.heap.size 87 #[.bool true, .int .i64 (-1)] (0, 0) _ rfl (hT2.blk hbk (by omega)) Tryz.underlying87 rfl saysInfo, ⟨-1, by rw [HSY.out]⟩, (H3.out.trans (hT.below H3.out.size (fun k hk => by omega))).trans (hT2.below (by have := H3.out.size; have := hT.size; omega) (fun k hk => by omega))⟩
end Go.Proofs.YtbpcipobdokcfaaGreatDoor
