/-
  THE RUNNER: what opens one, all its states, what closes a state, which error is told.
-/
import Derived.Test.YtonpgokgbaemfaaDoorNfaC
import Derived.Test.YtonpgokgbaemfaaDoorNfaP2
namespace Go.Proofs.YtonpgokgbaemfaaDoor
open Go.RowKit

/-- the ways on, by how often an item stands -/
def how1 : MapEntry := ⟨.int .i64 0, .func (.func 37) #[] #[], 0⟩
def how2 : MapEntry := ⟨.int .i64 1, .func (.func 38) #[] #[], 1⟩
def how3 : MapEntry := ⟨.int .i64 2, .func (.func 39) #[] #[], 2⟩
/-- a runner that lies in memory -/
structure Rn (w : World) (r m : Nat) (st : Bool) (v : Value) (l : List N.Item) : Prop where
  blk : Blk w r 66 #[.bool st, v, .map (some m)]
  how : w.heap[m]? = some (.map #[how1, how2, how3] 3)
  items : ItemsAt w v l
  right : rightB l = true
theorem Rn.below {w w' : World} {r m : Nat} {st : Bool} {v : Value} {l : List N.Item} (h : Rn w r m st v l) (hb : Below w.heap.size w w') : Rn w' r m st v l :=
  ⟨h.blk.below hb h.blk.lt, (hb.block m (Array.getElem?_eq_some_iff.1 h.how).1).trans h.how, h.items.below hb, h.right⟩
theorem Rn.len {w : World} {r m : Nat} {st : Bool} {v : Value} {l : List N.Item} (h : Rn w r m st v l) : l.length ≤ 10 := by
  have := h.right
  unfold rightB at this
  rw [Bool.and_eq_true] at this
  exact of_decide_eq_true this.1

theorem most_cast (l : List N.Item) : ((2 : Int) ^ (2 * l.length + 1) - 1) = (N.most l : Int) := by
  unfold N.most
  have : 0 < 2 ^ (2 * l.length + 1) := Nat.two_pow_pos _
  rw [show ((2 : Int) ^ (2 * l.length + 1)) = ((2 ^ (2 * l.length + 1) : Nat) : Int) by simp]
  omega

set_option maxHeartbeats 1000000 in
theorem all_any (r m : Nat) (st : Bool) (v : Value) (l : List N.Item) (w : World) (h : Rn w r m st v l) :
    Calls Tryd.prog 32 #[.pointer (some ⟨r, 0, none⟩)] w fun e w' => e = .returned (.int .i64 (N.most l)) ∧ w = w' := by
  have hl := h.len
  obtain ⟨ao, cap, rfl⟩ := h.items.slice
  have c1 : w.cell? ⟨r, 1, none⟩ = some (.slice ao l.length cap) := (h.blk.cell 1).trans rfl
  clear h
  go_enter Tryd.func32, Tryd.ntmps32
  go_wp2
  go_ret
  refine ⟨ret_int ?_, rfl⟩
  have h1 := pow_le (2 * l.length + 1) (by omega)
  have h0 : (0 : Int) ≤ 2 ^ (2 * l.length + 1) := by rw [show ((2 : Int) ^ (2 * l.length + 1)) = ((2 ^ (2 * l.length + 1) : Nat) : Int) by simp]; exact Int.natCast_nonneg _
  rw [← most_cast]
  generalize (2 : Int) ^ (2 * l.length + 1) = z at h0 h1 ⊢
  unfold wrap64
  omega

theorem told_any (A : Nat → Addr) (B : Nat) (w : World) (hE : E A B w) :
    Calls Tryd.prog 27 #[errV A 0] w fun e w' => e = .returned (.int .i64 80) ∧ w = w' := by
  have hg := hE.cell 0 (by decide)
  have HI := Box.mk (is_sents hE 0 0 (by decide) (by decide))
  clear hE
  unfold errV
  go_enter Tryd.func27, Tryd.ntmps27
  go_wp2_with fail
  refine HI.out.mono ?_; rintro e w1 ⟨rfl, rfl⟩
  go_wp2_with fail
  go_ret
  exact ⟨rfl, rfl⟩

def openOk (w : World) (st : Bool) (v : Value) (l : List N.Item) (e : Ending) (w' : World) : Prop := Below w.heap.size w w' ∧ ∃ r m, e = .returned (.tuple #[.pointer (some ⟨r, 0, none⟩), .nilIface]) ∧ Rn w' r m st v l
def openNo (w : World) (A : Nat → Addr) (e : Ending) (w' : World) : Prop := Below w.heap.size w w' ∧ e = .returned (.tuple #[.pointer none, errV A 0])

set_option maxHeartbeats 4000000 in
/-- a pattern that is not right -/
theorem open_bad (A : Nat → Addr) (B : Nat) (st : Bool) (v : Value) (l : List N.Item) (w : World) (hv : ItemsAt w v l) (hz : l.length ≤ 16777216) (hE : E A B w) (hB : B ≤ w.heap.size) (HR : Box (rightB l = false)) (sets : Value) :
    Calls Tryd.prog 26 #[.agg #[.bool st, v], sets] w (openNo w A) := by
  have hmm := @run_makeMap Tryd.prog
  have hins0 := fun (W : World) (o : Obj) => map_ins (P := Tryd.prog) Tryd.underlying64 Tryd.underlying3 (W.alloc o) #[] 0 0 how1.val (W.heap.size + 1) (by simp) rfl
  have hins1 := fun (W : World) (o : Obj) => map_ins (P := Tryd.prog) Tryd.underlying64 Tryd.underlying3 (W.alloc o) #[how1] 1 1 how2.val (W.heap.size + 1) (by simp) rfl
  have hins2 := fun (W : World) (o : Obj) => map_ins (P := Tryd.prog) Tryd.underlying64 Tryd.underlying3 (W.alloc o) #[how1, how2] 2 2 how3.val (W.heap.size + 1) (by simp) rfl
  simp only [List.push_toArray, List.nil_append, List.cons_append, how1, how2, how3, Nat.reduceAdd, Nat.zero_add] at hins0 hins1 hins2
  obtain ⟨W3, hW3⟩ : ∃ W3, W3 = (((w.alloc (.cells #[.bool st, v] 24)).alloc (.map #[how1, how2, how3] 3)).alloc (.cells #[.bool st, v, .map (some (w.heap.size + 1))] 66)) := ⟨_, rfl⟩
  have hw : Below w.heap.size w W3 := by rw [hW3]; exact (((Below.refl _ _).alloc (Nat.le_refl _) _).alloc (by simp) _).alloc (by simp; omega) _
  have HM := Box.mk (show W3.heap[w.heap.size + 1]? = some (.map #[how1, how2, how3] 3) by
    rw [hW3]
    refine (Below.heap_alloc _ _ _ (by simp)).trans ?_
    have := heap_alloc_new (w.alloc (.cells #[.bool st, v] 24)) (.map #[how1, how2, how3] 3)
    simpa using this)
  have HBK := Box.mk (show Blk W3 (w.heap.size + 1 + 1) 66 #[.bool st, v, .map (some (w.heap.size + 1))] by
    rw [hW3]
    have := Blk.new ((w.alloc (.cells #[.bool st, v] 24)).alloc (.map #[how1, how2, how3] 3)) 66 #[.bool st, v, .map (some (w.heap.size + 1))]
    simpa using this)
  have hv3 := hv.below hw
  have HRN := Box.mk (fun hr => (⟨HBK.out, HM.out, hv3, hr⟩ : Rn W3 (w.heap.size + 1 + 1) (w.heap.size + 1) st v l))
  have HP := Box.mk (pright_any st v l W3 hv3 hz)
  have HW := Box.mk hw
  have HE3 := Box.mk (hE.below (hw.mono hB))
  clear hv3 hw hE
  have HV := Box.mk hv
  obtain ⟨ao, cap, rfl⟩ := hv.slice
  clear hv
  have H3 := Box.mk hW3
  clear hW3
  go_enter Tryd.func26, Tryd.ntmps26
  go_wp2_with fail
  refine wp_scope_fwd 0 rfl ?_
  go_wp2_with fail
  have h3 := H3.out
  simp only [how1, how2, how3] at h3
  rw [← h3]
  clear h3 hins0 hins1 hins2 hmm
  refine HP.out.mono ?_; rintro e w1 ⟨rfl, hb1⟩; rw [HR.out]
  have hE1 := HE3.out.below (hb1.mono (Nat.le_trans hB HW.out.size))
  have HB1 := Box.mk hb1
  clear hb1
  go_wp2_with fail
  go_step3
  refine ⟨rfl, ?_⟩
  have hg := hE1.cell 0 (by decide)
  clear hE1
  go_wp2_with fail
  go_region
  go_wp2_with fail
  rw [Exit.noGoto_ret]
  go_ret2
  exact ⟨below_drewN (HW.out.trans (HB1.out.mono HW.out.size)) 1, rfl⟩

set_option maxHeartbeats 4000000 in
/-- no sets are asked about -/
theorem open_ok (A : Nat → Addr) (B : Nat) (st : Bool) (v : Value) (l : List N.Item) (w : World) (hv : ItemsAt w v l) (hz : l.length ≤ 16777216) (hE : E A B w) (hB : B ≤ w.heap.size) (HR : Box (rightB l = true)) :
    Calls Tryd.prog 26 #[.agg #[.bool st, v], .slice none 0 0] w (openOk w st v l) := by
  have hmm := @run_makeMap Tryd.prog
  have hins0 := fun (W : World) (o : Obj) => map_ins (P := Tryd.prog) Tryd.underlying64 Tryd.underlying3 (W.alloc o) #[] 0 0 how1.val (W.heap.size + 1) (by simp) rfl
  have hins1 := fun (W : World) (o : Obj) => map_ins (P := Tryd.prog) Tryd.underlying64 Tryd.underlying3 (W.alloc o) #[how1] 1 1 how2.val (W.heap.size + 1) (by simp) rfl
  have hins2 := fun (W : World) (o : Obj) => map_ins (P := Tryd.prog) Tryd.underlying64 Tryd.underlying3 (W.alloc o) #[how1, how2] 2 2 how3.val (W.heap.size + 1) (by simp) rfl
  simp only [List.push_toArray, List.nil_append, List.cons_append, how1, how2, how3, Nat.reduceAdd, Nat.zero_add] at hins0 hins1 hins2
  obtain ⟨W3, hW3⟩ : ∃ W3, W3 = (((w.alloc (.cells #[.bool st, v] 24)).alloc (.map #[how1, how2, how3] 3)).alloc (.cells #[.bool st, v, .map (some (w.heap.size + 1))] 66)) := ⟨_, rfl⟩
  have hw : Below w.heap.size w W3 := by rw [hW3]; exact (((Below.refl _ _).alloc (Nat.le_refl _) _).alloc (by simp) _).alloc (by simp; omega) _
  have HM := Box.mk (show W3.heap[w.heap.size + 1]? = some (.map #[how1, how2, how3] 3) by
    rw [hW3]
    refine (Below.heap_alloc _ _ _ (by simp)).trans ?_
    have := heap_alloc_new (w.alloc (.cells #[.bool st, v] 24)) (.map #[how1, how2, how3] 3)
    simpa using this)
  have HBK := Box.mk (show Blk W3 (w.heap.size + 1 + 1) 66 #[.bool st, v, .map (some (w.heap.size + 1))] by
    rw [hW3]
    have := Blk.new ((w.alloc (.cells #[.bool st, v] 24)).alloc (.map #[how1, how2, how3] 3)) 66 #[.bool st, v, .map (some (w.heap.size + 1))]
    simpa using this)
  have hv3 := hv.below hw
  have HRN := Box.mk (fun hr => (⟨HBK.out, HM.out, hv3, hr⟩ : Rn W3 (w.heap.size + 1 + 1) (w.heap.size + 1) st v l))
  have HP := Box.mk (pright_any st v l W3 hv3 hz)
  have HW := Box.mk hw
  have HE3 := Box.mk (hE.below (hw.mono hB))
  clear hv3 hw hE
  have HV := Box.mk hv
  obtain ⟨ao, cap, rfl⟩ := hv.slice
  clear hv
  have H3 := Box.mk hW3
  clear hW3
  go_enter Tryd.func26, Tryd.ntmps26
  go_wp2_with fail
  refine wp_scope_fwd 0 rfl ?_
  go_wp2_with fail
  have h3 := H3.out
  simp only [how1, how2, how3] at h3
  rw [← h3]
  clear h3 hins0 hins1 hins2 hmm
  refine HP.out.mono ?_; rintro e w1 ⟨rfl, hb1⟩; rw [HR.out]
  have HRN1 := Box.mk ((HRN.out HR.out).below hb1)
  have HB1 := Box.mk hb1
  clear hb1
  go_wp2_with fail
  go_rounds 1
  go_wp2_with fail
  rw [fwd_ret]
  go_ret2
  exact ⟨HW.out.trans (HB1.out.mono HW.out.size), _, _, rfl, HRN1.out⟩

set_option maxHeartbeats 4000000 in
/-- one set, that may be -/
theorem open_set_ok (A : Nat → Addr) (B : Nat) (st : Bool) (v : Value) (l : List N.Item) (w : World) (hv : ItemsAt w v l) (hz : l.length ≤ 16777216) (hE : E A B w) (hB : B ≤ w.heap.size) (HR : Box (rightB l = true)) (sb : Nat) (x : Int) (hs : w.cell? ⟨sb, 0, none⟩ = some (.int .i64 x)) (h0 : 0 ≤ x) (h1 : x ≤ N.most l) :
    Calls Tryd.prog 26 #[.agg #[.bool st, v], .slice (some ⟨sb, 0, none⟩) 1 1] w (openOk w st v l) := by
  have hmm := @run_makeMap Tryd.prog
  have hins0 := fun (W : World) (o : Obj) => map_ins (P := Tryd.prog) Tryd.underlying64 Tryd.underlying3 (W.alloc o) #[] 0 0 how1.val (W.heap.size + 1) (by simp) rfl
  have hins1 := fun (W : World) (o : Obj) => map_ins (P := Tryd.prog) Tryd.underlying64 Tryd.underlying3 (W.alloc o) #[how1] 1 1 how2.val (W.heap.size + 1) (by simp) rfl
  have hins2 := fun (W : World) (o : Obj) => map_ins (P := Tryd.prog) Tryd.underlying64 Tryd.underlying3 (W.alloc o) #[how1, how2] 2 2 how3.val (W.heap.size + 1) (by simp) rfl
  simp only [List.push_toArray, List.nil_append, List.cons_append, how1, how2, how3, Nat.reduceAdd, Nat.zero_add] at hins0 hins1 hins2
  obtain ⟨W3, hW3⟩ : ∃ W3, W3 = (((w.alloc (.cells #[.bool st, v] 24)).alloc (.map #[how1, how2, how3] 3)).alloc (.cells #[.bool st, v, .map (some (w.heap.size + 1))] 66)) := ⟨_, rfl⟩
  have hw : Below w.heap.size w W3 := by rw [hW3]; exact (((Below.refl _ _).alloc (Nat.le_refl _) _).alloc (by simp) _).alloc (by simp; omega) _
  have HM := Box.mk (show W3.heap[w.heap.size + 1]? = some (.map #[how1, how2, how3] 3) by
    rw [hW3]
    refine (Below.heap_alloc _ _ _ (by simp)).trans ?_
    have := heap_alloc_new (w.alloc (.cells #[.bool st, v] 24)) (.map #[how1, how2, how3] 3)
    simpa using this)
  have HBK := Box.mk (show Blk W3 (w.heap.size + 1 + 1) 66 #[.bool st, v, .map (some (w.heap.size + 1))] by
    rw [hW3]
    have := Blk.new ((w.alloc (.cells #[.bool st, v] 24)).alloc (.map #[how1, how2, how3] 3)) 66 #[.bool st, v, .map (some (w.heap.size + 1))]
    simpa using this)
  have hv3 := hv.below hw
  have HRN := Box.mk (fun hr => (⟨HBK.out, HM.out, hv3, hr⟩ : Rn W3 (w.heap.size + 1 + 1) (w.heap.size + 1) st v l))
  have HP := Box.mk (pright_any st v l W3 hv3 hz)
  have HW := Box.mk hw
  have HE3 := Box.mk (hE.below (hw.mono hB))
  clear hv3 hw hE
  have HV := Box.mk hv
  obtain ⟨ao, cap, rfl⟩ := hv.slice
  clear hv
  have H3 := Box.mk hW3
  clear hW3
  go_enter Tryd.func26, Tryd.ntmps26
  go_wp2_with fail
  refine wp_scope_fwd 0 rfl ?_
  go_wp2_with fail
  have h3 := H3.out
  simp only [how1, how2, how3] at h3
  rw [← h3]
  clear h3 hins0 hins1 hins2 hmm
  refine HP.out.mono ?_; rintro e w1 ⟨rfl, hb1⟩; rw [HR.out]
  have HRN1 := Box.mk ((HRN.out HR.out).below hb1)
  have HB1 := Box.mk hb1
  have hc : w1.cell? ⟨sb, 0, none⟩ = some (.int .i64 x) := ((HW.out.trans (hb1.mono HW.out.size)).cell (p := ⟨sb, 0, none⟩) (World.block_lt_of_cell? w _ hs)).trans hs
  clear hb1 hs
  have h1' : ¬ (N.most l : Int) < x := by omega
  go_wp2_with fail
  refine wp_loop_rounds 2 ?_
  rw [rounds_succ]
  go_wp2_with fail
  refine (all_any _ _ st _ l _ HRN1.out).mono ?_; rintro e w2 ⟨rfl, rfl⟩
  go_wp2_with fail
  rw [rounds_succ]
  go_wp2_with fail
  rw [fwd_ret]
  go_ret2
  exact ⟨HW.out.trans (HB1.out.mono HW.out.size), _, _, rfl, HRN1.out⟩

set_option maxHeartbeats 4000000 in
/-- one set, that may not be -/
theorem open_set_bad (A : Nat → Addr) (B : Nat) (st : Bool) (v : Value) (l : List N.Item) (w : World) (hv : ItemsAt w v l) (hz : l.length ≤ 16777216) (hE : E A B w) (hB : B ≤ w.heap.size) (HR : Box (rightB l = true)) (sb : Nat) (x : Int) (hs : w.cell? ⟨sb, 0, none⟩ = some (.int .i64 x)) (h : x < 0 ∨ (0 ≤ x ∧ (N.most l : Int) < x)) :
    Calls Tryd.prog 26 #[.agg #[.bool st, v], .slice (some ⟨sb, 0, none⟩) 1 1] w (openNo w A) := by
  have hmm := @run_makeMap Tryd.prog
  have hins0 := fun (W : World) (o : Obj) => map_ins (P := Tryd.prog) Tryd.underlying64 Tryd.underlying3 (W.alloc o) #[] 0 0 how1.val (W.heap.size + 1) (by simp) rfl
  have hins1 := fun (W : World) (o : Obj) => map_ins (P := Tryd.prog) Tryd.underlying64 Tryd.underlying3 (W.alloc o) #[how1] 1 1 how2.val (W.heap.size + 1) (by simp) rfl
  have hins2 := fun (W : World) (o : Obj) => map_ins (P := Tryd.prog) Tryd.underlying64 Tryd.underlying3 (W.alloc o) #[how1, how2] 2 2 how3.val (W.heap.size + 1) (by simp) rfl
  simp only [List.push_toArray, List.nil_append, List.cons_append, how1, how2, how3, Nat.reduceAdd, Nat.zero_add] at hins0 hins1 hins2
  obtain ⟨W3, hW3⟩ : ∃ W3, W3 = (((w.alloc (.cells #[.bool st, v] 24)).alloc (.map #[how1, how2, how3] 3)).alloc (.cells #[.bool st, v, .map (some (w.heap.size + 1))] 66)) := ⟨_, rfl⟩
  have hw : Below w.heap.size w W3 := by rw [hW3]; exact (((Below.refl _ _).alloc (Nat.le_refl _) _).alloc (by simp) _).alloc (by simp; omega) _
  have HM := Box.mk (show W3.heap[w.heap.size + 1]? = some (.map #[how1, how2, how3] 3) by
    rw [hW3]
    refine (Below.heap_alloc _ _ _ (by simp)).trans ?_
    have := heap_alloc_new (w.alloc (.cells #[.bool st, v] 24)) (.map #[how1, how2, how3] 3)
    simpa using this)
  have HBK := Box.mk (show Blk W3 (w.heap.size + 1 + 1) 66 #[.bool st, v, .map (some (w.heap.size + 1))] by
    rw [hW3]
    have := Blk.new ((w.alloc (.cells #[.bool st, v] 24)).alloc (.map #[how1, how2, how3] 3)) 66 #[.bool st, v, .map (some (w.heap.size + 1))]
    simpa using this)
  have hv3 := hv.below hw
  have HRN := Box.mk (fun hr => (⟨HBK.out, HM.out, hv3, hr⟩ : Rn W3 (w.heap.size + 1 + 1) (w.heap.size + 1) st v l))
  have HP := Box.mk (pright_any st v l W3 hv3 hz)
  have HW := Box.mk hw
  have HE3 := Box.mk (hE.below (hw.mono hB))
  clear hv3 hw hE
  have HV := Box.mk hv
  obtain ⟨ao, cap, rfl⟩ := hv.slice
  clear hv
  have H3 := Box.mk hW3
  clear hW3
  go_enter Tryd.func26, Tryd.ntmps26
  go_wp2_with fail
  refine wp_scope_fwd 0 rfl ?_
  go_wp2_with fail
  have h3 := H3.out
  simp only [how1, how2, how3] at h3
  rw [← h3]
  clear h3 hins0 hins1 hins2 hmm
  refine HP.out.mono ?_; rintro e w1 ⟨rfl, hb1⟩; rw [HR.out]
  have HRN1 := Box.mk ((HRN.out HR.out).below hb1)
  have hE1 := HE3.out.below (hb1.mono (Nat.le_trans hB HW.out.size))
  have HB1 := Box.mk hb1
  have hc : w1.cell? ⟨sb, 0, none⟩ = some (.int .i64 x) := ((HW.out.trans (hb1.mono HW.out.size)).cell (p := ⟨sb, 0, none⟩) (World.block_lt_of_cell? w _ hs)).trans hs
  clear hb1 hs
  go_wp2_with fail
  refine wp_loop_rounds 2 ?_
  rw [rounds_succ]
  rcases h with h | ⟨h, h'⟩
  · go_wp2_with fail
    go_step3
    refine ⟨rfl, ?_⟩
    have hg := hE1.cell 0 (by decide)
    clear hE1
    go_wp2_with fail
    go_region
    go_wp2_with fail
    rw [Exit.noGoto_ret]
    go_ret2
    exact ⟨below_drewN (HW.out.trans (HB1.out.mono HW.out.size)) 1, rfl⟩
  · go_wp2_with fail
    refine (all_any _ _ st _ l _ HRN1.out).mono ?_; rintro e w2 ⟨rfl, rfl⟩
    go_wp2_with fail
    go_step3
    refine ⟨rfl, ?_⟩
    have hg := hE1.cell 0 (by decide)
    clear hE1
    go_wp2_with fail
    go_region
    go_wp2_with fail
    rw [Exit.noGoto_ret]
    go_ret2
    exact ⟨below_drewN (HW.out.trans (HB1.out.mono HW.out.size)) 1, rfl⟩
end Go.Proofs.YtonpgokgbaemfaaDoor
