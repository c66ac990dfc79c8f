/-
  Texts of this claim, one behind the other: NfaD, NfaE, NfaF, NfaG, NfaH, Df2, NfaI, DfE.
-/
import Derived.Test.YtjemdepcaaadiaaDoorH1
import Derived.Test.YtjemdepcaaadiaaDoorH2
import Derived.Stop.RegionWithIn
import Derived.Shelf.Abstract
import Derived.Shelf.RegionOpen

/- THE RUNNER: what opens one, all its states, what closes a state, which error is told. -/
namespace Go.Proofs.YtjemdepcaaadiaaDoor
open Go.RowKit

/-- the ways on, by how often an item stands -/
def how1 : MapEntry := ⟨.int .i64 0, .func (.func 100) #[] #[], 0⟩
def how2 : MapEntry := ⟨.int .i64 1, .func (.func 101) #[] #[], 1⟩
def how3 : MapEntry := ⟨.int .i64 2, .func (.func 102) #[] #[], 2⟩
/-- a runner that lies in memory -/
structure Rn (w : World) (r m : Nat) (st : Bool) (v : Value) (l : List N.Item) : Prop where
  blk : Blk w r 137 #[.bool st, v, .map (some m)]
  how : w.heap[m]? = some (.map #[how1, how2, how3] 3)
  items : ItemsAt w v l
  right : rightB l = true
theorem Rn.below {w w' : World} {r m : Nat} {st : Bool} {v : Value} {l : List N.Item} (h : Rn w r m st v l) (hb : Below w.heap.size w w') : Rn w' r m st v l :=
  ⟨h.blk.below hb h.blk.lt, (hb.block m (Array.getElem?_eq_some_iff.1 h.how).1).trans h.how, h.items.below hb, h.right⟩
theorem Rn.len {w : World} {r m : Nat} {st : Bool} {v : Value} {l : List N.Item} (h : Rn w r m st v l) : l.length ≤ 10 := by
  have := h.right
  unfold rightB at this
  rw [Bool.and_eq_true] at this
  exact of_decide_eq_true this.1

theorem most_cast (l : List N.Item) : ((2 : Int) ^ (2 * l.length + 1) - 1) = (N.most l : Int) := by
  unfold N.most
  have : 0 < 2 ^ (2 * l.length + 1) := Nat.two_pow_pos _
  rw [show ((2 : Int) ^ (2 * l.length + 1)) = ((2 ^ (2 * l.length + 1) : Nat) : Int) by simp]
  omega

set_option maxHeartbeats 1000000 in
theorem all_any (r m : Nat) (st : Bool) (v : Value) (l : List N.Item) (w : World) (h : Rn w r m st v l) :
    Calls Tryd.prog 78 #[.pointer (some ⟨r, 0, none⟩)] w fun e w' => e = .returned (.int .i64 (N.most l)) ∧ w = w' := by
  have hl := h.len
  obtain ⟨ao, cap, rfl⟩ := h.items.slice
  have c1 : w.cell? ⟨r, 1, none⟩ = some (.slice ao l.length cap) := (h.blk.cell 1).trans rfl
  clear h
  go_enter Tryd.func78, Tryd.ntmps78
  go_wp2
  go_ret
  refine ⟨ret_int ?_, rfl⟩
  have h1 := pow_le (2 * l.length + 1) (by omega)
  have h0 : (0 : Int) ≤ 2 ^ (2 * l.length + 1) := by rw [show ((2 : Int) ^ (2 * l.length + 1)) = ((2 ^ (2 * l.length + 1) : Nat) : Int) by simp]; exact Int.natCast_nonneg _
  rw [← most_cast]
  generalize (2 : Int) ^ (2 * l.length + 1) = z at h0 h1 ⊢
  unfold wrap64
  omega

theorem told_any (A : Nat → Addr) (B : Nat) (w : World) (hE : E A B w) :
    Calls Tryd.prog 75 #[errV A 2] w fun e w' => e = .returned (.int .i64 80) ∧ w = w' := by
  have hg := hE.cell 2 (by decide)
  have HI := Box.mk (is_sents hE 2 2 (by decide) (by decide))
  clear hE
  unfold errV
  go_enter Tryd.func75, Tryd.ntmps75
  go_wp2_with fail
  refine HI.out.mono ?_; rintro e w1 ⟨rfl, rfl⟩
  go_wp2_with fail
  go_ret
  exact ⟨rfl, rfl⟩

def openOk (w : World) (st : Bool) (v : Value) (l : List N.Item) (e : Ending) (w' : World) : Prop := Below w.heap.size w w' ∧ ∃ r m, e = .returned (.tuple #[.pointer (some ⟨r, 0, none⟩), .nilIface]) ∧ Rn w' r m st v l
def openNo (w : World) (A : Nat → Addr) (e : Ending) (w' : World) : Prop := Below w.heap.size w w' ∧ e = .returned (.tuple #[.pointer none, errV A 2])

set_option maxHeartbeats 4000000 in
/-- a pattern that is not right -/
theorem open_bad (A : Nat → Addr) (B : Nat) (st : Bool) (v : Value) (l : List N.Item) (w : World) (hv : ItemsAt w v l) (hz : l.length ≤ 16777216) (hE : E A B w) (hB : B ≤ w.heap.size) (HR : Box (rightB l = false)) (sets : Value) :
    Calls Tryd.prog 74 #[.agg #[.bool st, v], sets] w (openNo w A) := by
  have hmm := @run_makeMap Tryd.prog
  have hins0 := fun (W : World) (o : Obj) => map_ins (P := Tryd.prog) Tryd.underlying135 Tryd.underlying3 (W.alloc o) #[] 0 0 how1.val (W.heap.size + 1) (by simp) rfl
  have hins1 := fun (W : World) (o : Obj) => map_ins (P := Tryd.prog) Tryd.underlying135 Tryd.underlying3 (W.alloc o) #[how1] 1 1 how2.val (W.heap.size + 1) (by simp) rfl
  have hins2 := fun (W : World) (o : Obj) => map_ins (P := Tryd.prog) Tryd.underlying135 Tryd.underlying3 (W.alloc o) #[how1, how2] 2 2 how3.val (W.heap.size + 1) (by simp) rfl
  simp only [List.push_toArray, List.nil_append, List.cons_append, how1, how2, how3, Nat.reduceAdd, Nat.zero_add] at hins0 hins1 hins2
  obtain ⟨W3, hW3⟩ : ∃ W3, W3 = (((w.alloc (.cells #[.bool st, v] 44)).alloc (.map #[how1, how2, how3] 3)).alloc (.cells #[.bool st, v, .map (some (w.heap.size + 1))] 137)) := ⟨_, rfl⟩
  have hw : Below w.heap.size w W3 := by rw [hW3]; exact (((Below.refl _ _).alloc (Nat.le_refl _) _).alloc (by simp) _).alloc (by simp; omega) _
  have HM := Box.mk (show W3.heap[w.heap.size + 1]? = some (.map #[how1, how2, how3] 3) by
    rw [hW3]
    refine (Below.heap_alloc _ _ _ (by simp)).trans ?_
    have := heap_alloc_new (w.alloc (.cells #[.bool st, v] 44)) (.map #[how1, how2, how3] 3)
    simpa using this)
  have HBK := Box.mk (show Blk W3 (w.heap.size + 1 + 1) 137 #[.bool st, v, .map (some (w.heap.size + 1))] by
    rw [hW3]
    have := Blk.new ((w.alloc (.cells #[.bool st, v] 44)).alloc (.map #[how1, how2, how3] 3)) 137 #[.bool st, v, .map (some (w.heap.size + 1))]
    simpa using this)
  have hv3 := hv.below hw
  have HRN := Box.mk (fun hr => (⟨HBK.out, HM.out, hv3, hr⟩ : Rn W3 (w.heap.size + 1 + 1) (w.heap.size + 1) st v l))
  have HP := Box.mk (pright_any st v l W3 hv3 hz)
  have HW := Box.mk hw
  have HE3 := Box.mk (hE.below (hw.mono hB))
  clear hv3 hw hE
  have HV := Box.mk hv
  obtain ⟨ao, cap, rfl⟩ := hv.slice
  clear hv
  have H3 := Box.mk hW3
  clear hW3
  go_enter Tryd.func74, Tryd.ntmps74
  go_wp2_with fail
  refine wp_scope_fwd 0 rfl ?_
  go_wp2_with fail
  have h3 := H3.out
  simp only [how1, how2, how3] at h3
  rw [← h3]
  clear h3 hins0 hins1 hins2 hmm
  refine HP.out.mono ?_; rintro e w1 ⟨rfl, hb1⟩; rw [HR.out]
  have hE1 := HE3.out.below (hb1.mono (Nat.le_trans hB HW.out.size))
  have HB1 := Box.mk hb1
  clear hb1
  go_wp2_with fail
  go_step3
  refine ⟨rfl, ?_⟩
  have hg := hE1.cell 2 (by decide)
  clear hE1
  go_wp2_with fail
  go_region
  go_wp2_with fail
  rw [Exit.noGoto_ret]
  go_ret2
  exact ⟨below_drewN (HW.out.trans (HB1.out.mono HW.out.size)) 1, rfl⟩

set_option maxHeartbeats 4000000 in
/-- no sets are asked about -/
theorem open_ok (A : Nat → Addr) (B : Nat) (st : Bool) (v : Value) (l : List N.Item) (w : World) (hv : ItemsAt w v l) (hz : l.length ≤ 16777216) (hE : E A B w) (hB : B ≤ w.heap.size) (HR : Box (rightB l = true)) :
    Calls Tryd.prog 74 #[.agg #[.bool st, v], .slice none 0 0] w (openOk w st v l) := by
  have hmm := @run_makeMap Tryd.prog
  have hins0 := fun (W : World) (o : Obj) => map_ins (P := Tryd.prog) Tryd.underlying135 Tryd.underlying3 (W.alloc o) #[] 0 0 how1.val (W.heap.size + 1) (by simp) rfl
  have hins1 := fun (W : World) (o : Obj) => map_ins (P := Tryd.prog) Tryd.underlying135 Tryd.underlying3 (W.alloc o) #[how1] 1 1 how2.val (W.heap.size + 1) (by simp) rfl
  have hins2 := fun (W : World) (o : Obj) => map_ins (P := Tryd.prog) Tryd.underlying135 Tryd.underlying3 (W.alloc o) #[how1, how2] 2 2 how3.val (W.heap.size + 1) (by simp) rfl
  simp only [List.push_toArray, List.nil_append, List.cons_append, how1, how2, how3, Nat.reduceAdd, Nat.zero_add] at hins0 hins1 hins2
  obtain ⟨W3, hW3⟩ : ∃ W3, W3 = (((w.alloc (.cells #[.bool st, v] 44)).alloc (.map #[how1, how2, how3] 3)).alloc (.cells #[.bool st, v, .map (some (w.heap.size + 1))] 137)) := ⟨_, rfl⟩
  have hw : Below w.heap.size w W3 := by rw [hW3]; exact (((Below.refl _ _).alloc (Nat.le_refl _) _).alloc (by simp) _).alloc (by simp; omega) _
  have HM := Box.mk (show W3.heap[w.heap.size + 1]? = some (.map #[how1, how2, how3] 3) by
    rw [hW3]
    refine (Below.heap_alloc _ _ _ (by simp)).trans ?_
    have := heap_alloc_new (w.alloc (.cells #[.bool st, v] 44)) (.map #[how1, how2, how3] 3)
    simpa using this)
  have HBK := Box.mk (show Blk W3 (w.heap.size + 1 + 1) 137 #[.bool st, v, .map (some (w.heap.size + 1))] by
    rw [hW3]
    have := Blk.new ((w.alloc (.cells #[.bool st, v] 44)).alloc (.map #[how1, how2, how3] 3)) 137 #[.bool st, v, .map (some (w.heap.size + 1))]
    simpa using this)
  have hv3 := hv.below hw
  have HRN := Box.mk (fun hr => (⟨HBK.out, HM.out, hv3, hr⟩ : Rn W3 (w.heap.size + 1 + 1) (w.heap.size + 1) st v l))
  have HP := Box.mk (pright_any st v l W3 hv3 hz)
  have HW := Box.mk hw
  have HE3 := Box.mk (hE.below (hw.mono hB))
  clear hv3 hw hE
  have HV := Box.mk hv
  obtain ⟨ao, cap, rfl⟩ := hv.slice
  clear hv
  have H3 := Box.mk hW3
  clear hW3
  go_enter Tryd.func74, Tryd.ntmps74
  go_wp2_with fail
  refine wp_scope_fwd 0 rfl ?_
  go_wp2_with fail
  have h3 := H3.out
  simp only [how1, how2, how3] at h3
  rw [← h3]
  clear h3 hins0 hins1 hins2 hmm
  refine HP.out.mono ?_; rintro e w1 ⟨rfl, hb1⟩; rw [HR.out]
  have HRN1 := Box.mk ((HRN.out HR.out).below hb1)
  have HB1 := Box.mk hb1
  clear hb1
  go_wp2_with fail
  go_rounds 1
  go_wp2_with fail
  rw [fwd_ret]
  go_ret2
  exact ⟨HW.out.trans (HB1.out.mono HW.out.size), _, _, rfl, HRN1.out⟩

set_option maxHeartbeats 4000000 in
/-- one set, that may be -/
theorem open_set_ok (A : Nat → Addr) (B : Nat) (st : Bool) (v : Value) (l : List N.Item) (w : World) (hv : ItemsAt w v l) (hz : l.length ≤ 16777216) (hE : E A B w) (hB : B ≤ w.heap.size) (HR : Box (rightB l = true)) (sb : Nat) (x : Int) (hs : w.cell? ⟨sb, 0, none⟩ = some (.int .i64 x)) (h0 : 0 ≤ x) (h1 : x ≤ N.most l) :
    Calls Tryd.prog 74 #[.agg #[.bool st, v], .slice (some ⟨sb, 0, none⟩) 1 1] w (openOk w st v l) := by
  have hmm := @run_makeMap Tryd.prog
  have hins0 := fun (W : World) (o : Obj) => map_ins (P := Tryd.prog) Tryd.underlying135 Tryd.underlying3 (W.alloc o) #[] 0 0 how1.val (W.heap.size + 1) (by simp) rfl
  have hins1 := fun (W : World) (o : Obj) => map_ins (P := Tryd.prog) Tryd.underlying135 Tryd.underlying3 (W.alloc o) #[how1] 1 1 how2.val (W.heap.size + 1) (by simp) rfl
  have hins2 := fun (W : World) (o : Obj) => map_ins (P := Tryd.prog) Tryd.underlying135 Tryd.underlying3 (W.alloc o) #[how1, how2] 2 2 how3.val (W.heap.size + 1) (by simp) rfl
  simp only [List.push_toArray, List.nil_append, List.cons_append, how1, how2, how3, Nat.reduceAdd, Nat.zero_add] at hins0 hins1 hins2
  obtain ⟨W3, hW3⟩ : ∃ W3, W3 = (((w.alloc (.cells #[.bool st, v] 44)).alloc (.map #[how1, how2, how3] 3)).alloc (.cells #[.bool st, v, .map (some (w.heap.size + 1))] 137)) := ⟨_, rfl⟩
  have hw : Below w.heap.size w W3 := by rw [hW3]; exact (((Below.refl _ _).alloc (Nat.le_refl _) _).alloc (by simp) _).alloc (by simp; omega) _
  have HM := Box.mk (show W3.heap[w.heap.size + 1]? = some (.map #[how1, how2, how3] 3) by
    rw [hW3]
    refine (Below.heap_alloc _ _ _ (by simp)).trans ?_
    have := heap_alloc_new (w.alloc (.cells #[.bool st, v] 44)) (.map #[how1, how2, how3] 3)
    simpa using this)
  have HBK := Box.mk (show Blk W3 (w.heap.size + 1 + 1) 137 #[.bool st, v, .map (some (w.heap.size + 1))] by
    rw [hW3]
    have := Blk.new ((w.alloc (.cells #[.bool st, v] 44)).alloc (.map #[how1, how2, how3] 3)) 137 #[.bool st, v, .map (some (w.heap.size + 1))]
    simpa using this)
  have hv3 := hv.below hw
  have HRN := Box.mk (fun hr => (⟨HBK.out, HM.out, hv3, hr⟩ : Rn W3 (w.heap.size + 1 + 1) (w.heap.size + 1) st v l))
  have HP := Box.mk (pright_any st v l W3 hv3 hz)
  have HW := Box.mk hw
  have HE3 := Box.mk (hE.below (hw.mono hB))
  clear hv3 hw hE
  have HV := Box.mk hv
  obtain ⟨ao, cap, rfl⟩ := hv.slice
  clear hv
  have H3 := Box.mk hW3
  clear hW3
  go_enter Tryd.func74, Tryd.ntmps74
  go_wp2_with fail
  refine wp_scope_fwd 0 rfl ?_
  go_wp2_with fail
  have h3 := H3.out
  simp only [how1, how2, how3] at h3
  rw [← h3]
  clear h3 hins0 hins1 hins2 hmm
  refine HP.out.mono ?_; rintro e w1 ⟨rfl, hb1⟩; rw [HR.out]
  have HRN1 := Box.mk ((HRN.out HR.out).below hb1)
  have HB1 := Box.mk hb1
  have hc : w1.cell? ⟨sb, 0, none⟩ = some (.int .i64 x) := ((HW.out.trans (hb1.mono HW.out.size)).cell (p := ⟨sb, 0, none⟩) (World.block_lt_of_cell? w _ hs)).trans hs
  clear hb1 hs
  have h1' : ¬ (N.most l : Int) < x := by omega
  go_wp2_with fail
  refine wp_loop_rounds 2 ?_
  rw [rounds_succ]
  go_wp2_with fail
  refine (all_any _ _ st _ l _ HRN1.out).mono ?_; rintro e w2 ⟨rfl, rfl⟩
  go_wp2_with fail
  rw [rounds_succ]
  go_wp2_with fail
  rw [fwd_ret]
  go_ret2
  exact ⟨HW.out.trans (HB1.out.mono HW.out.size), _, _, rfl, HRN1.out⟩

set_option maxHeartbeats 4000000 in
/-- one set, that may not be -/
theorem open_set_bad (A : Nat → Addr) (B : Nat) (st : Bool) (v : Value) (l : List N.Item) (w : World) (hv : ItemsAt w v l) (hz : l.length ≤ 16777216) (hE : E A B w) (hB : B ≤ w.heap.size) (HR : Box (rightB l = true)) (sb : Nat) (x : Int) (hs : w.cell? ⟨sb, 0, none⟩ = some (.int .i64 x)) (h : x < 0 ∨ (0 ≤ x ∧ (N.most l : Int) < x)) :
    Calls Tryd.prog 74 #[.agg #[.bool st, v], .slice (some ⟨sb, 0, none⟩) 1 1] w (openNo w A) := by
  have hmm := @run_makeMap Tryd.prog
  have hins0 := fun (W : World) (o : Obj) => map_ins (P := Tryd.prog) Tryd.underlying135 Tryd.underlying3 (W.alloc o) #[] 0 0 how1.val (W.heap.size + 1) (by simp) rfl
  have hins1 := fun (W : World) (o : Obj) => map_ins (P := Tryd.prog) Tryd.underlying135 Tryd.underlying3 (W.alloc o) #[how1] 1 1 how2.val (W.heap.size + 1) (by simp) rfl
  have hins2 := fun (W : World) (o : Obj) => map_ins (P := Tryd.prog) Tryd.underlying135 Tryd.underlying3 (W.alloc o) #[how1, how2] 2 2 how3.val (W.heap.size + 1) (by simp) rfl
  simp only [List.push_toArray, List.nil_append, List.cons_append, how1, how2, how3, Nat.reduceAdd, Nat.zero_add] at hins0 hins1 hins2
  obtain ⟨W3, hW3⟩ : ∃ W3, W3 = (((w.alloc (.cells #[.bool st, v] 44)).alloc (.map #[how1, how2, how3] 3)).alloc (.cells #[.bool st, v, .map (some (w.heap.size + 1))] 137)) := ⟨_, rfl⟩
  have hw : Below w.heap.size w W3 := by rw [hW3]; exact (((Below.refl _ _).alloc (Nat.le_refl _) _).alloc (by simp) _).alloc (by simp; omega) _
  have HM := Box.mk (show W3.heap[w.heap.size + 1]? = some (.map #[how1, how2, how3] 3) by
    rw [hW3]
    refine (Below.heap_alloc _ _ _ (by simp)).trans ?_
    have := heap_alloc_new (w.alloc (.cells #[.bool st, v] 44)) (.map #[how1, how2, how3] 3)
    simpa using this)
  have HBK := Box.mk (show Blk W3 (w.heap.size + 1 + 1) 137 #[.bool st, v, .map (some (w.heap.size + 1))] by
    rw [hW3]
    have := Blk.new ((w.alloc (.cells #[.bool st, v] 44)).alloc (.map #[how1, how2, how3] 3)) 137 #[.bool st, v, .map (some (w.heap.size + 1))]
    simpa using this)
  have hv3 := hv.below hw
  have HRN := Box.mk (fun hr => (⟨HBK.out, HM.out, hv3, hr⟩ : Rn W3 (w.heap.size + 1 + 1) (w.heap.size + 1) st v l))
  have HP := Box.mk (pright_any st v l W3 hv3 hz)
  have HW := Box.mk hw
  have HE3 := Box.mk (hE.below (hw.mono hB))
  clear hv3 hw hE
  have HV := Box.mk hv
  obtain ⟨ao, cap, rfl⟩ := hv.slice
  clear hv
  have H3 := Box.mk hW3
  clear hW3
  go_enter Tryd.func74, Tryd.ntmps74
  go_wp2_with fail
  refine wp_scope_fwd 0 rfl ?_
  go_wp2_with fail
  have h3 := H3.out
  simp only [how1, how2, how3] at h3
  rw [← h3]
  clear h3 hins0 hins1 hins2 hmm
  refine HP.out.mono ?_; rintro e w1 ⟨rfl, hb1⟩; rw [HR.out]
  have HRN1 := Box.mk ((HRN.out HR.out).below hb1)
  have hE1 := HE3.out.below (hb1.mono (Nat.le_trans hB HW.out.size))
  have HB1 := Box.mk hb1
  have hc : w1.cell? ⟨sb, 0, none⟩ = some (.int .i64 x) := ((HW.out.trans (hb1.mono HW.out.size)).cell (p := ⟨sb, 0, none⟩) (World.block_lt_of_cell? w _ hs)).trans hs
  clear hb1 hs
  go_wp2_with fail
  refine wp_loop_rounds 2 ?_
  rw [rounds_succ]
  rcases h with h | ⟨h, h'⟩
  · go_wp2_with fail
    go_step3
    refine ⟨rfl, ?_⟩
    have hg := hE1.cell 2 (by decide)
    clear hE1
    go_wp2_with fail
    go_region
    go_wp2_with fail
    rw [Exit.noGoto_ret]
    go_ret2
    exact ⟨below_drewN (HW.out.trans (HB1.out.mono HW.out.size)) 1, rfl⟩
  · go_wp2_with fail
    refine (all_any _ _ st _ l _ HRN1.out).mono ?_; rintro e w2 ⟨rfl, rfl⟩
    go_wp2_with fail
    go_step3
    refine ⟨rfl, ?_⟩
    have hg := hE1.cell 2 (by decide)
    clear hE1
    go_wp2_with fail
    go_region
    go_wp2_with fail
    rw [Exit.noGoto_ret]
    go_ret2
    exact ⟨below_drewN (HW.out.trans (HB1.out.mono HW.out.size)) 1, rfl⟩
end Go.Proofs.YtjemdepcaaadiaaDoor

/- STATES CLOSED BY THE RUNNER. -/
namespace Go.Proofs.YtjemdepcaaadiaaDoor
open Go.RowKit

theorem pow_cast (k : Nat) : (2 : Int) ^ k = ((2 ^ k : Nat) : Int) := by simp
theorem or_pow (S m : Nat) (hS : S < 1099511627776) (hm : m ≤ 39) : bits .or .i64 (S : Int) (wrap64 (2 ^ m)) = ((S ||| 2 ^ m : Nat) : Int) := by
  have h1 := pow_le m (by omega)
  rw [pow_cast] at h1 ⊢
  generalize 2 ^ m = z at h1 ⊢
  rw [IntWalk.wrap64_in _ (by omega), i64_or_nat _ _ (by omega) (by omega)]
theorem or_small (S m k : Nat) (hS : S < 2 ^ k) (hm : m < k) : S ||| 2 ^ m < 2 ^ k := Nat.or_lt_two_pow hS (Nat.pow_lt_pow_right (by omega) hm)
theorem lt_40 (S k : Nat) (hS : S < 2 ^ k) (hk : k ≤ 40) : S < 1099511627776 := by
  have : 2 ^ k ≤ 2 ^ 40 := Nat.pow_le_pow_right (by omega) hk
  omega

set_option maxHeartbeats 4000000 in
theorem closed_any (r m : Nat) (st : Bool) (v : Value) (l : List N.Item) (w : World) (h : Rn w r m st v l) (sb n : Nat) (hs : w.cell? ⟨sb, 0, none⟩ = some (.int .i64 n)) (hn : n ≤ 2 * l.length) :
    Calls Tryd.prog 76 #[.pointer (some ⟨r, 0, none⟩), .slice (some ⟨sb, 0, none⟩) 1 1] w fun e w' => e = .returned (.int .i64 (N.clo l n)) ∧ Below w.heap.size w w' := by
  have hl := h.len
  have HR := Box.mk h
  obtain ⟨ao, cap, rfl⟩ := h.items.slice
  clear h
  go_enter Tryd.func76, Tryd.ntmps76
  go_wp2_with fail
  refine wp_loop_rounds 2 ?_
  rw [rounds_succ]
  go_wp2_with fail
  clear hs
  go_loopw [5, 7] (fun s i wr => ∃ S k : Nat, s = .int .i64 S ∧ i = .int .i64 k ∧ k ≤ 2 * l.length ∧ Box (S ||| N.clo l k = N.clo l n) ∧ Box (S < 2 ^ (2 * l.length + 1)) ∧ Box (Below w.heap.size w wr)) (fun _ i _ => 2 * l.length + 2 - (intOf i).toNat)
  case atStart => exact ⟨0, n, rfl, rfl, hn, ⟨Nat.zero_or _⟩, ⟨Nat.two_pow_pos _⟩, ⟨Below.refl _ _⟩⟩
  case round =>
    obtain ⟨S, k, rfl, rfl, hk, he, hS, hb⟩ := hrel
    have HRr := Box.mk (HR.out.below hb.out)
    have c1 : wr.cell? ⟨r, 1, none⟩ = some (.slice ao l.length cap) := (HRr.out.blk.cell 1).trans rfl
    have HO := Box.mk (or_pow S k (lt_40 _ _ hS.out (by omega)) (by omega))
    by_cases hodd : k % 2 = 1
    · have HC := Box.mk (N.clo_odd l k hodd)
      go_wp2_with fail
      rw [rounds_succ]
      go_wp2_with fail
      go_ret
      exact ⟨ret_int (by rw [HO.out, ← he.out, HC.out]), hb.out⟩
    have hev : k % 2 = 0 := by omega
    by_cases hend : l.length ≤ k / 2
    · have HC := Box.mk (N.clo_end l k hend)
      clear hodd
      go_wp2_with fail
      rw [rounds_succ]
      go_wp2_with fail
      go_ret
      exact ⟨ret_int (by rw [HO.out, ← he.out, HC.out]), hb.out⟩
    obtain ⟨x, hx⟩ : ∃ x, l[k / 2]? = some x := ⟨_, List.getElem?_eq_getElem (by omega)⟩
    obtain ⟨g, off, cap2, hg1, hg2, hg3, hg4, hg5⟩ := HRr.out.items.get (by rintro rfl; simp at hend)
    obtain ⟨rfl, rfl⟩ : ao = some ⟨g, off, none⟩ ∧ cap = cap2 := by injection hg1 with h1 h2 h3; exact ⟨h1, h3⟩
    obtain ⟨hc1, hc2⟩ := hg5 _ x hx
    have HH := Box.mk (show N.howAt l (k / 2) = x.2 by unfold N.howAt; simp [List.getD, hx])
    unfold maxLen at hg3
    have hlt : k / 2 < l.length := by omega
    have hlr := HRr.out.blk.lt
    have t1 : ((k : Int) % 2 == 1) = false := by rw [beq_eq_false_iff_ne]; omega
    have t2 : decide ((l.length : Int) ≤ (k : Int) / 2) = false := by rw [decide_eq_false_iff_not]; omega
    have HBA := Box.mk (fun o m => below_drewN (hb.out.alloc hb.out.size o) m)
    clear hx hg1 hg5 hodd hend
    obtain ⟨set, how⟩ := x
    by_cases h0 : how = 0
    · have HC := Box.mk (N.clo_once l k (HH.out.trans h0))
      subst h0
      go_wp2_with fail
      go_quiet (fail)
      go_wp2_with fail
      rw [rounds_succ]
      go_wp2_with fail
      go_ret
      exact ⟨ret_int (by rw [HO.out, ← he.out, HC.out]), HBA.out _ _⟩
    · have HC := Box.mk (N.clo_next l k hev hlt (by rw [HH.out]; exact h0))
      have t3 : (how == 0) = false := by rw [beq_eq_false_iff_ne]; exact h0
      have HE := Box.mk (show S ||| 2 ^ k ||| N.clo l (k + 2) = N.clo l n by rw [Nat.or_assoc, ← HC.out]; exact he.out)
      have HS := Box.mk (or_small S k _ hS.out (show k < 2 * l.length + 1 by omega))
      go_wp2_with fail
      go_quiet (fail)
      go_wp2_with fail
      go_roundw
      case rel => exact ⟨S ||| 2 ^ k, k + 2, by rw [HO.out], by go_num, by omega, HE, HS, ⟨HBA.out _ _⟩⟩
      case measure => simp [intOf]; omega
end Go.Proofs.YtjemdepcaaadiaaDoor

/- THE STATES THAT A CLASS STEPS FROM, AND WHERE TO: the runner's iterator. -/
namespace Go.Proofs.YtjemdepcaaadiaaDoor
open Go.RowKit

/-- all that lay in one world lies in another as it lay -/
structure Agree (W0 w : World) : Prop where
  size : W0.heap.size ≤ w.heap.size
  block : ∀ k, k < W0.heap.size → w.heap[k]? = W0.heap[k]?
theorem Agree.refl (w : World) : Agree w w := ⟨Nat.le_refl _, fun _ _ => rfl⟩
theorem Agree.of_below {W0 w : World} (h : Below W0.heap.size W0 w) : Agree W0 w := ⟨h.size, h.block⟩
theorem Agree.trans {A B C : World} (h : Agree A B) (k : Agree B C) : Agree A C := ⟨Nat.le_trans h.size k.size, fun i hi => (k.block i (Nat.lt_of_lt_of_le hi h.size)).trans (h.block i hi)⟩
theorem Agree.alloc {A B : World} (h : Agree A B) (o : Obj) : Agree A (B.alloc o) := h.trans (.of_below ((Below.refl _ _).alloc (Nat.le_refl _) o))
theorem Agree.turns {A B C : World} {own : Nat → Prop} (h : Agree A B) (k : Turns own B C) (ho : ∀ i, own i → A.heap.size ≤ i) : Agree A C :=
  ⟨Nat.le_trans h.size k.size, fun i hi => (k.block i (Nat.lt_of_lt_of_le hi h.size) (fun e => by have := ho i e; omega)).trans (h.block i hi)⟩
theorem Agree.holds {A B C : World} {own : Nat → Prop} (h : Agree A B) (k : Holds own B C) (ho : ∀ i, i < A.heap.size → own i) : Agree A C :=
  ⟨Nat.le_trans h.size k.size, fun i hi => (k.block i (ho i hi)).trans (h.block i hi)⟩
theorem ItemsAt.agree {w w' : World} {v : Value} {l : List N.Item} (h : ItemsAt w v l) (hb : Agree w w') : ItemsAt w' v l := by
  rcases h with h | ⟨b, off, sp, cap, h1, h2, h3, h4⟩
  · exact .inl h
  · exact .inr ⟨b, off, sp, cap, h1, h2, h3, fun hn => ⟨(h4 hn).1, Nat.lt_of_lt_of_le (h4 hn).2.1 hb.size, fun i x hx =>
      ⟨(World.cell?_of_block (hb.block b (h4 hn).2.1)).trans ((h4 hn).2.2 i x hx).1, (World.cell?_of_block (hb.block b (h4 hn).2.1)).trans ((h4 hn).2.2 i x hx).2⟩⟩⟩
theorem Rn.agree {w w' : World} {r m : Nat} {st : Bool} {v : Value} {l : List N.Item} (h : Rn w r m st v l) (hb : Agree w w') : Rn w' r m st v l :=
  ⟨(hb.block r h.blk.lt).trans h.blk, (hb.block m (Array.getElem?_eq_some_iff.1 h.how).1).trans h.how, h.items.agree hb, h.right⟩

theorem map_look1 {P : Program} {T K E : TypeId} {q : IntKind} (hm : P.underlying T = some (.map K E)) (hk : P.underlying K = some (.int q)) (W : World) (es : Array MapEntry) (clk : Nat) (k : Int) (n : Nat) (hg : W.heap[n]? = some (.map es clk))
    (i : Nat) (v : Value) (hf : Instr.findNow (.int q) (.int q k) es.toList 0 = some (some (i, v))) :
    (Instr.lookup T (.map (some n)) (.int q k) false).run P W = .ok v W := by
  have h1 : (Instr.checkKey es.isEmpty 10000 K (.int q k)).run P W = .ok () W := MapKept.run_checkKey hk (by simp [MapKept.IsKey]) _ 9999
  have h2 := MapKept.run_findKey (P := P) (w := W) hk hf
  unfold Instr.lookup
  simp only [Sem.run_bind, run_underlying hm, Result.andThen, MapKept.run_getObj_map hg, h1, h2, Sem.run_pure, Bool.false_eq_true, if_false]

theorem how1_any (n : Nat) (w : World) (hn : n ≤ 1000) : Calls Tryd.prog 100 #[.int .i64 n] w fun e w' => e = .returned (.int .i64 (n + 2)) ∧ w = w' := by
  go_enter Tryd.func100, Tryd.ntmps100
  go_wp2
  go_ret
  exact ⟨rfl, rfl⟩
theorem how2_any (n : Nat) (w : World) : Calls Tryd.prog 101 #[.int .i64 n] w fun e w' => e = .returned (.int .i64 n) ∧ w = w' := by
  go_enter Tryd.func101, Tryd.ntmps101
  go_wp2
  go_ret
  exact ⟨rfl, rfl⟩
theorem how3_any (n : Nat) (w : World) (hn : n ≤ 1000) : Calls Tryd.prog 102 #[.int .i64 n] w fun e w' => e = .returned (.int .i64 (n + 1)) ∧ w = w' := by
  go_enter Tryd.func102, Tryd.ntmps102
  go_wp2
  go_ret
  exact ⟨rfl, rfl⟩

theorem test_bit0 (S n : Nat) (h : S < 9223372036854775808) : (bits .and .i64 ((S : Int) / 2 ^ n) 1 == 0) = !S.testBit n := by
  have hd : (S : Int) / 2 ^ n = ((S / 2 ^ n : Nat) : Int) := by simp
  have hle : S / 2 ^ n ≤ S := Nat.div_le_self _ _
  rw [hd, Nat.testBit_eq_decide_div_mod_eq]
  generalize S / 2 ^ n = z at hle
  rw [and_1 _ (by omega) (by omega), Bool.eq_iff_iff]
  simp only [beq_iff_eq, Bool.not_eq_true', decide_eq_false_iff_not]
  omega

/-- the states that a class steps from, of the first k -/
def stepsOf (l : List N.Item) (S : Nat) (c : Int) (k : Nat) : List Nat := (List.range k).filter (N.goes l S c)
theorem stepsOf_yes {l : List N.Item} {S : Nat} {c : Int} {k : Nat} (h : N.goes l S c k = true) : stepsOf l S c (k + 1) = stepsOf l S c k ++ [k] := by
  unfold stepsOf; rw [List.range_succ, List.filter_append]; simp [h]
theorem stepsOf_no {l : List N.Item} {S : Nat} {c : Int} {k : Nat} (h : N.goes l S c k = false) : stepsOf l S c (k + 1) = stepsOf l S c k := by
  unfold stepsOf; rw [List.range_succ, List.filter_append]; simp [h]
theorem fill_steps (l : List N.Item) (S : Nat) (c : Int) (a : Nat) : ∀ k, N.fill l S c a k = (stepsOf l S c k).foldl (fun out n => out ||| N.clo l (N.goto l n)) a
  | 0 => rfl
  | k + 1 => by
    rw [N.fill_succ, fill_steps l S c a k]
    cases h : N.goes l S c k with
    | true => rw [if_pos rfl, stepsOf_yes h, List.foldl_append]; rfl
    | false => rw [if_neg (by simp), stepsOf_no h]

theorem quiet_left {P : Program} {f : FuncId} {args : Array Value} {w : World} {n : Nat} {v : Value}
    (h : Calls P f args (w.drewN n) fun e w' => e = .returned v ∧ w.drewN n = w') : Calls P f args (w.drewN n) fun e w'' => e = .returned v ∧ ∃ m, w'' = w.drewN m :=
  h.mono fun _ _ ⟨he, hm⟩ => ⟨he, n, hm.symm⟩
theorem right_item {l : List N.Item} (h : rightB l = true) {i : Nat} {x : N.Item} (hx : l[i]? = some x) : 0 ≤ x.2 ∧ x.2 ≤ 2 := by
  unfold rightB at h
  rw [Bool.and_eq_true, List.all_eq_true] at h
  have := h.2 x (List.mem_of_getElem? hx)
  unfold itemB at this
  simp only [Bool.and_eq_true, decide_eq_true_eq] at this
  exact ⟨this.1.2, this.2⟩

def keepOf (W0 : World) (Br Bs Bc : Nat) (k : Nat) : Prop := k < W0.heap.size ∨ k = Br ∨ k = Bs ∨ k = Bc

set_option maxHeartbeats 4000000 in
theorem states1_iter (n : Nat) (W0 : World) (r m : Nat) (st : Bool) (v : Value) (li : List N.Item) (hR : Rn W0 r m st v li) (S : Nat) (hS : S < 4611686018427387904) (c : Int) (Br Bs Bc : Nat) (l : Nat) (W1 : World)
    (hA : Agree W0 W1) (hr : Blk W1 Br 112 #[.pointer (some ⟨r, 0, none⟩)]) (hs : Blk W1 Bs 2 #[.int .i64 S]) (hc : Blk W1 Bc 3 #[.int .i64 c]) :
    IterC (n + 1) Tryd.prog 120 #[.pointer (some ⟨Br, 0, none⟩), .pointer (some ⟨Bs, 0, none⟩), .pointer (some ⟨Bc, 0, none⟩)] (fun x : Nat => #[.int .i64 x, .int .i64 (N.goto li x)]) (fun _ => False) (keepOf W0 Br Bs Bc) (fun _ x => x < 2 * li.length)
      (fun xs _ => xs = stepsOf li S c (2 * li.length)) l W1 := by
  intro J Jx hJ hJx hY h0
  have HY := Box.mk hY
  have HJ := Box.mk hJ
  clear hY hJ
  have HR := Box.mk hR
  have hlen := hR.len
  obtain ⟨ao, cap, rfl⟩ := hR.items.slice
  clear hR
  have c1 : W1.cell? ⟨Br, 0, none⟩ = some (.pointer (some ⟨r, 0, none⟩)) := (hr.cell 0).trans rfl
  have c2 : W1.cell? ⟨r, 1, none⟩ = some (.slice ao li.length cap) := ((HR.out.agree hA).blk.cell 1).trans rfl
  refine callsIn_of_wp Tryd.func120 rfl trivial ?_
  simp only [Tryd.ntmps120, List.size_toArray, List.length_cons, List.length_nil, Nat.reduceAdd, Nat.reduceSub, Array.replicate_succ, Array.replicate_zero, List.push_toArray, List.append_toArray, List.nil_append, List.cons_append]
  gi_wp2
  refine wpIn_wide.2 (wp_scope_straight ((wpIn_wide (n := n + 1)).1 ?_))
  gi_wp2
  refine wpIn_label ?_
  gi_wp2
  clear c1 c2
  gi_loopw [15] (fun i wr => ∃ k : Nat, k ≤ 2 * li.length ∧ i = .int .i64 k ∧ Box (Agree W0 wr) ∧ Box (Blk wr Br 112 #[.pointer (some ⟨r, 0, none⟩)]) ∧ Box (Blk wr Bs 2 #[.int .i64 S]) ∧ Box (Blk wr Bc 3 #[.int .i64 c]) ∧ J (stepsOf li S c k) wr)
    (fun i _ => 2 * li.length - (intOf i).toNat)
  case atStart => exact ⟨0, by omega, rfl, ⟨hA⟩, ⟨hr⟩, ⟨hs⟩, ⟨hc⟩, h0⟩
  case round =>
    obtain ⟨k, hk, rfl, ha, hbr, hbs, hbc, hj⟩ := hrel
    have HJr := Box.mk hj
    clear hj hA hr hs hc h0
    by_cases hlt : k < 2 * li.length
    · obtain ⟨x, hx⟩ : ∃ x, li[k / 2]? = some x := ⟨_, List.getElem?_eq_getElem (by omega)⟩
      have HRr := Box.mk (HR.out.agree ha.out)
      have c1 : wr.cell? ⟨Br, 0, none⟩ = some (.pointer (some ⟨r, 0, none⟩)) := (hbr.out.cell 0).trans rfl
      have c2 : wr.cell? ⟨r, 1, none⟩ = some (.slice ao li.length cap) := (HRr.out.blk.cell 1).trans rfl
      have c3 : wr.cell? ⟨Bs, 0, none⟩ = some (.int .i64 S) := (hbs.out.cell 0).trans rfl
      have c4 : wr.cell? ⟨Bc, 0, none⟩ = some (.int .i64 c) := (hbc.out.cell 0).trans rfl
      have c5 : wr.cell? ⟨r, 2, none⟩ = some (.map (some m)) := (HRr.out.blk.cell 2).trans rfl
      have l1 := hbr.out.lt
      have l2 := hbs.out.lt
      have l3 := hbc.out.lt
      have l4 := HRr.out.blk.lt
      obtain ⟨g, off, cap2, hg1, hg2, hg3, hg4, hg5⟩ := HRr.out.items.get (by rintro rfl; simp at hlt)
      obtain ⟨rfl, rfl⟩ : ao = some ⟨g, off, none⟩ ∧ cap = cap2 := by injection hg1 with h1 h2 h3; exact ⟨h1, h3⟩
      obtain ⟨hc1, hc2⟩ := hg5 _ x hx
      obtain ⟨hw0, hw1⟩ := right_item HRr.out.right hx
      have HH := Box.mk (show N.howAt li (k / 2) = x.2 ∧ N.setAt li (k / 2) = x.1 by unfold N.howAt N.setAt; simp [List.getD, hx])
      unfold maxLen at hg3
      have hlt2 : k / 2 < li.length := by omega
      have HN := Box.mk (show ∀ W2, Turns (fun _ => False) wr W2 → N.goes li S c k = false → ∃ k' : Nat, k' ≤ 2 * li.length ∧ Value.int .i64 ((k : Int) + 1) = .int .i64 k' ∧ Box (Agree W0 W2) ∧ Box (Blk W2 Br 112 #[.pointer (some ⟨r, 0, none⟩)]) ∧ Box (Blk W2 Bs 2 #[.int .i64 S]) ∧ Box (Blk W2 Bc 3 #[.int .i64 c]) ∧ J (stepsOf li S c k') W2 from fun W2 ht hg =>
        ⟨k + 1, hlt, by go_num, ⟨ha.out.turns ht (fun _ h => h.elim)⟩, ⟨ht.blk hbr.out (fun h => h)⟩, ⟨ht.blk hbs.out (fun h => h)⟩, ⟨ht.blk hbc.out (fun h => h)⟩, by rw [stepsOf_no hg]; exact HJ.out _ _ _ HJr.out ht⟩)
      have HTA := Box.mk (fun o => Turns.alloc (own := fun _ => False) wr o)
      obtain ⟨set, how⟩ := x
      clear hx hg1 hg5
      have hb0 := test_bit0 S k (by omega)
      cases hbit : S.testBit k with
      | false =>
        have HG := Box.mk (show N.goes li S c k = false by unfold N.goes; rw [hbit]; rfl)
        rw [hbit] at hb0
        simp only [Bool.not_false] at hb0
        clear hbit
        gi_wp2
        refine ⟨trivial, ?_⟩
        gi_wp2
        go_roundw
        case rel => exact HN.out _ (HTA.out _) HG.out
        case measure => simp [intOf]; omega
      | true =>
        rw [hbit] at hb0
        simp only [Bool.not_true] at hb0
        cases hhas : N.hasC set c with
        | false =>
          have HG := Box.mk (show N.goes li S c k = false by unfold N.goes; rw [hbit, HH.out.2, hhas]; rfl)
          have HHAS := Box.mk hhas
          clear hbit hhas
          gi_wp2
          refine ⟨trivial, ((callsIn_wide (n := n)).2 (chas_any set c _)).mono ?_⟩; rintro e w1 ⟨rfl, rfl⟩; rw [HHAS.out]
          gi_wp2
          go_roundw
          case rel => exact HN.out _ (HTA.out _) HG.out
          case measure => simp [intOf]; omega
        | true =>
          have HG := Box.mk (show N.goes li S c k = true by unfold N.goes; rw [hbit, HH.out.2, hhas]; rfl)
          have HHAS := Box.mk hhas
          clear hbit hhas HN
          have HYW := Box.mk (fun W2 (ht : Turns (fun _ => False) wr W2) => HY.out (stepsOf li S c k) k W2 (HJ.out _ _ _ HJr.out ht) hlt)
          have HEND := Box.mk (show ∀ W2 W3, Turns (fun _ => False) wr W2 → J (stepsOf li S c k ++ [k]) W3 → Holds (keepOf W0 Br Bs Bc) W2 W3 → ∃ k' : Nat, k' ≤ 2 * li.length ∧ Value.int .i64 ((k : Int) + 1) = .int .i64 k' ∧ Box (Agree W0 W3) ∧ Box (Blk W3 Br 112 #[.pointer (some ⟨r, 0, none⟩)]) ∧ Box (Blk W3 Bs 2 #[.int .i64 S]) ∧ Box (Blk W3 Bc 3 #[.int .i64 c]) ∧ J (stepsOf li S c k') W3 from fun W2 W3 ht hj hh =>
            ⟨k + 1, hlt, by go_num, ⟨(ha.out.turns ht (fun _ h => h.elim)).holds hh (fun _ h => .inl h)⟩, ⟨(hh.block _ (.inr (.inl rfl))).trans (ht.blk hbr.out (fun h => h))⟩, ⟨(hh.block _ (.inr (.inr (.inl rfl)))).trans (ht.blk hbs.out (fun h => h))⟩, ⟨(hh.block _ (.inr (.inr (.inr rfl)))).trans (ht.blk hbc.out (fun h => h))⟩, by rw [stepsOf_yes HG.out]; exact hj⟩)
          by_cases hodd : k % 2 = 1
          · have t1 : ((k : Int) % 2 == 0) = false := by rw [beq_eq_false_iff_ne]; omega
            have HGO := Box.mk (show ((N.goto li k : Nat) : Int) = (k : Int) - 1 by unfold N.goto; rw [if_pos hodd]; omega)
            have hy0 := HYW.out _ (HTA.out (.cells #[.int .i64 set, .int .i64 how] 79))
            simp only [HGO.out] at hy0
            obtain ⟨fn, tmps, assign, body, hy, hRd⟩ := hy0
            have HRD := Box.mk hRd
            have k1 : 1 ≤ k := by omega
            clear hRd hodd
            gi_wp2
            refine ⟨trivial, ((callsIn_wide (n := n)).2 (chas_any set c _)).mono ?_⟩; rintro e w1 ⟨rfl, rfl⟩; rw [HHAS.out]
            gi_wp2
            have HTD := Box.mk (fun (_ : Unit) => HTA.out (.cells #[.int .i64 set, .int .i64 how] 79))
            refine HRD.out.mono ?_
            rintro e W3 (⟨rfl, hj3, hk3⟩ | ⟨rfl, hx3⟩)
            · have HR3 := Box.mk (HEND.out _ _ (HTD.out ()) hj3 hk3)
              clear hj3 hk3
              gi_wp2
              go_roundw
              case rel => exact HR3.out
              case measure => simp [intOf]; omega
            · gi_wp2
              rw [Exit.noGoto_normal]
              go_end0
              exact ⟨⟨_, rfl⟩, .inr ⟨_, hx3⟩⟩
          · have t1 : ((k : Int) % 2 == 0) = true := by rw [beq_iff_eq]; omega
            have HM := Box.mk (show ∀ o nd, ((wr.alloc o).drewN nd).heap[m]? = some (.map #[how1, how2, how3] 3) from fun o nd => (Below.heap_alloc _ _ _ (Array.getElem?_eq_some_iff.1 HRr.out.how).1).trans HRr.out.how)
            have hk1000 : k ≤ 1000 := by omega
            rcases (show how = 0 ∨ how = 1 ∨ how = 2 by omega) with rfl | rfl | rfl
            · have hlk := fun nd => map_look1 (P := Tryd.prog) Tryd.underlying135 Tryd.underlying3 ((wr.alloc (.cells #[.int .i64 set, .int .i64 0] 79)).drewN nd) #[how1, how2, how3] 3 0 m (HM.out _ nd) 0 how1.val rfl
              simp only [how1] at hlk
              have HGO := Box.mk (show ((N.goto li k : Nat) : Int) = (k : Int) + 2 by unfold N.goto; rw [if_neg hodd, if_pos HH.out.1]; simp)
              clear hodd
              gi_wp2
              refine ⟨trivial, ((callsIn_wide (n := n)).2 (chas_any set c _)).mono ?_⟩; rintro e w1 ⟨rfl, rfl⟩; rw [HHAS.out]
              gi_wp2
              refine wpIn_wide.2 ?_
              go_quiet ((go_at_call 100; exact quiet_left (how1_any _ _ hk1000)))
              have hy0 := HYW.out ((wr.alloc (.cells #[.int .i64 set, .int .i64 0] 79)).drewN nq) ((HTA.out _).trans (Turns.of_below (below_drewN (Below.refl _ _) nq)))
              simp only [HGO.out] at hy0
              obtain ⟨fn, tmps, assign, body, hy, hRd⟩ := hy0
              have HRD := Box.mk hRd
              clear hRd
              gi_wp2
              refine HRD.out.mono ?_
              rintro e W3 (⟨rfl, hj3, hk3⟩ | ⟨rfl, hx3⟩)
              · have HR3 := Box.mk (HEND.out _ _ ((HTA.out _).trans (Turns.of_below (below_drewN (Below.refl _ _) nq))) hj3 hk3)
                clear hj3 hk3
                gi_wp2
                go_roundw
                case rel => exact HR3.out
                case measure => simp [intOf]; omega
              · gi_wp2
                rw [Exit.noGoto_normal]
                go_end0
                exact ⟨⟨_, rfl⟩, .inr ⟨_, hx3⟩⟩
            · have hlk := fun nd => map_look1 (P := Tryd.prog) Tryd.underlying135 Tryd.underlying3 ((wr.alloc (.cells #[.int .i64 set, .int .i64 1] 79)).drewN nd) #[how1, how2, how3] 3 1 m (HM.out _ nd) 1 how2.val rfl
              simp only [how2] at hlk
              have HGO := Box.mk (show ((N.goto li k : Nat) : Int) = (k : Int) by unfold N.goto; rw [if_neg hodd, if_neg (by rw [HH.out.1]; simp), if_pos HH.out.1])
              clear hodd
              gi_wp2
              refine ⟨trivial, ((callsIn_wide (n := n)).2 (chas_any set c _)).mono ?_⟩; rintro e w1 ⟨rfl, rfl⟩; rw [HHAS.out]
              gi_wp2
              refine wpIn_wide.2 ?_
              go_quiet ((go_at_call 101; exact quiet_left (how2_any _ _)))
              have hy0 := HYW.out ((wr.alloc (.cells #[.int .i64 set, .int .i64 1] 79)).drewN nq) ((HTA.out _).trans (Turns.of_below (below_drewN (Below.refl _ _) nq)))
              simp only [HGO.out] at hy0
              obtain ⟨fn, tmps, assign, body, hy, hRd⟩ := hy0
              have HRD := Box.mk hRd
              clear hRd
              gi_wp2
              refine HRD.out.mono ?_
              rintro e W3 (⟨rfl, hj3, hk3⟩ | ⟨rfl, hx3⟩)
              · have HR3 := Box.mk (HEND.out _ _ ((HTA.out _).trans (Turns.of_below (below_drewN (Below.refl _ _) nq))) hj3 hk3)
                clear hj3 hk3
                gi_wp2
                go_roundw
                case rel => exact HR3.out
                case measure => simp [intOf]; omega
              · gi_wp2
                rw [Exit.noGoto_normal]
                go_end0
                exact ⟨⟨_, rfl⟩, .inr ⟨_, hx3⟩⟩
            · have hlk := fun nd => map_look1 (P := Tryd.prog) Tryd.underlying135 Tryd.underlying3 ((wr.alloc (.cells #[.int .i64 set, .int .i64 2] 79)).drewN nd) #[how1, how2, how3] 3 2 m (HM.out _ nd) 2 how3.val rfl
              simp only [how3] at hlk
              have HGO := Box.mk (show ((N.goto li k : Nat) : Int) = (k : Int) + 1 by unfold N.goto; rw [if_neg hodd, if_neg (by rw [HH.out.1]; simp), if_neg (by rw [HH.out.1]; simp)]; simp)
              clear hodd
              gi_wp2
              refine ⟨trivial, ((callsIn_wide (n := n)).2 (chas_any set c _)).mono ?_⟩; rintro e w1 ⟨rfl, rfl⟩; rw [HHAS.out]
              gi_wp2
              refine wpIn_wide.2 ?_
              go_quiet ((go_at_call 102; exact quiet_left (how3_any _ _ hk1000)))
              have hy0 := HYW.out ((wr.alloc (.cells #[.int .i64 set, .int .i64 2] 79)).drewN nq) ((HTA.out _).trans (Turns.of_below (below_drewN (Below.refl _ _) nq)))
              simp only [HGO.out] at hy0
              obtain ⟨fn, tmps, assign, body, hy, hRd⟩ := hy0
              have HRD := Box.mk hRd
              clear hRd
              gi_wp2
              refine HRD.out.mono ?_
              rintro e W3 (⟨rfl, hj3, hk3⟩ | ⟨rfl, hx3⟩)
              · have HR3 := Box.mk (HEND.out _ _ ((HTA.out _).trans (Turns.of_below (below_drewN (Below.refl _ _) nq))) hj3 hk3)
                clear hj3 hk3
                gi_wp2
                go_roundw
                case rel => exact HR3.out
                case measure => simp [intOf]; omega
              · gi_wp2
                rw [Exit.noGoto_normal]
                go_end0
                exact ⟨⟨_, rfl⟩, .inr ⟨_, hx3⟩⟩
    · obtain rfl : k = 2 * li.length := by omega
      gi_wp2
      rw [Exit.noGoto_normal]
      go_end0
      exact ⟨⟨_, rfl⟩, .inl ⟨_, rfl, HJr.out⟩⟩
end Go.Proofs.YtjemdepcaaadiaaDoor

/- ONE STEP OF THE RUNNER; whether all has fitted. -/
namespace Go.Proofs.YtjemdepcaaadiaaDoor
open Go.RowKit Go.Shelf
attribute [local go_sem] Oper.semAt_some

theorem statesM_any (p : Option Addr) (S c : Int) (w : World) :
    Calls Tryd.prog 103 #[.pointer p, .int .i64 S, .int .i64 c] w fun e w' => e = .returned (.func (.func 120) #[] #[.pointer (some ⟨w.heap.size, 0, none⟩), .pointer (some ⟨w.heap.size + 1, 0, none⟩), .pointer (some ⟨w.heap.size + 1 + 1, 0, none⟩)]) ∧
      ((w.alloc (.cells #[.pointer p] 112)).alloc (.cells #[.int .i64 S] 2)).alloc (.cells #[.int .i64 c] 3) = w' := by
  go_enter Tryd.func103, Tryd.ntmps103
  go_wp2
  go_ret
  exact ⟨rfl, rfl⟩

theorem sum_lt (l : List N.Item) (xs : List Nat) (h : ∀ x ∈ xs, x < 2 * l.length) (a : Nat) (ha : a < 2 ^ (2 * l.length + 1)) : xs.foldl (fun out n => out ||| N.clo l (N.goto l n)) a < 2 ^ (2 * l.length + 1) := by
  induction xs generalizing a with
  | nil => exact ha
  | cons x t ih =>
    exact ih (fun y hy => h y (List.mem_cons_of_mem _ hy)) _ (Nat.or_lt_two_pow ha (N.clo_lt l _ (N.goto_le l x (h x (List.mem_cons_self ..)))))
def outOf (l : List N.Item) (a : Nat) (xs : List Nat) : Nat := xs.foldl (fun out n => out ||| N.clo l (N.goto l n)) a
theorem outOf_snoc (l : List N.Item) (a : Nat) (xs : List Nat) (x : Nat) : outOf l a (xs ++ [x]) = outOf l a xs ||| N.clo l (N.goto l x) := by unfold outOf; rw [List.foldl_append]; rfl

set_option maxHeartbeats 4000000 in
theorem step_any (r m : Nat) (st : Bool) (v : Value) (l : List N.Item) (w : World) (h : Rn w r m st v l) (S : Nat) (hS : S < 4611686018427387904) (c : Int) :
    Calls Tryd.prog 77 #[.pointer (some ⟨r, 0, none⟩), .int .i64 S, .int .i64 c] w fun e w' => e = .returned (.int .i64 (N.step l st S c)) ∧ Below w.heap.size w w' := by
  have hl := h.len
  have HR := Box.mk h
  have c0 : w.cell? ⟨r, 0, none⟩ = some (.bool st) := (h.blk.cell 0).trans rfl
  have l0 := h.blk.lt
  obtain ⟨w2, hw2⟩ : ∃ w2, w2 = (w.alloc (.cells #[.pointer (some ⟨r, 0, none⟩)] 112)).alloc (.cells #[.int .i64 0] 2) := ⟨_, rfl⟩
  have hbw : Below w.heap.size w w2 := by rw [hw2]; exact ((Below.refl _ _).alloc (Nat.le_refl _) _).alloc (by simp) _
  have hb0 : Blk w2 w.heap.size 112 #[.pointer (some ⟨r, 0, none⟩)] := by rw [hw2]; exact (Blk.new w _ _).alloc _
  have hb1 : Blk w2 (w.heap.size + 1) 2 #[.int .i64 0] := by
    rw [hw2]
    have := Blk.new (w.alloc (.cells #[.pointer (some ⟨r, 0, none⟩)] 112)) 2 #[.int .i64 0]
    simpa using this
  have HB0 := Box.mk hb0
  have HB1 := Box.mk hb1
  have HBW := Box.mk hbw
  have HW2 := Box.mk hw2
  clear h hb0 hb1 hbw hw2
  refine (callsIn_wide (n := 9)).1 (callsIn_of_wp_marks Tryd.func77 rfl trivial (wpIn_wide.2 ?_))
  simp only [Tryd.ntmps77, List.size_toArray, List.length_cons, List.length_nil, Nat.reduceAdd, Nat.reduceSub, Array.replicate_succ, Array.replicate_zero, List.push_toArray, List.append_toArray, List.nil_append, List.cons_append]
  go_upto_if 15 with (fail)
  go_cut [] from 16 to 18 (fun wx => Box (Below w.heap.size w wx) ∧ Box (Blk wx w.heap.size 112 #[.pointer (some ⟨r, 0, none⟩)]) ∧ Box (Blk wx (w.heap.size + 1) 2 #[.int .i64 (N.init l st)]))
  case first =>
    rw [← HW2.out]
    clear l0 c0
    cases st with
    | true =>
      go_wp2_with fail
      go_meet
      exact ⟨HBW, HB0, ⟨by rw [show N.init l true = 0 from rfl]; exact HB1.out⟩⟩
    | false =>
      have e0 : w2.cell? ⟨w.heap.size, 0, none⟩ = some (.pointer (some ⟨r, 0, none⟩)) := (HB0.out.cell 0).trans rfl
      have HC := Box.mk (closed_any r m false v l (w2.alloc (.cells #[.int .i64 0] 3)) ((HR.out.below HBW.out).below ((Below.refl _ _).alloc (Nat.le_refl _) _)) w2.heap.size 0 (by simp) (by omega))
      go_wp2_with fail
      refine HC.out.mono ?_; rintro e w3 ⟨rfl, hb3⟩
      have hb13 := (HB1.out.alloc (.cells #[.int .i64 0] 3)).below hb3 (by have := HB1.out.lt; simp; omega)
      have HB13 := Box.mk hb13
      have HB03 := Box.mk ((HB0.out.alloc (.cells #[.int .i64 0] 3)).below hb3 (by have := HB0.out.lt; simp; omega))
      have HBW3 := Box.mk (show Below w.heap.size w w3 from (HBW.out.alloc HBW.out.size _).trans (hb3.mono (by have := HBW.out.size; simp; omega)))
      have e1 : w3.cell? ⟨w.heap.size + 1, 0, none⟩ = some (.int .i64 0) := (hb13.cell 0).trans rfl
      have f1 := hb13.frozen 0
      clear hb3 hb13
      go_wp2_with fail
      go_meet
      exact ⟨⟨HBW3.out.setCell (by simp) _⟩, ⟨HB03.out.far (by simp) _⟩, ⟨HB13.out.set_ 0 _⟩⟩
  case rest =>
    obtain ⟨hbw, hb0, hb1⟩ := hcut
    have e0 : wc.cell? ⟨w.heap.size, 0, none⟩ = some (.pointer (some ⟨r, 0, none⟩)) := (hb0.out.cell 0).trans rfl
    go_wp2_with (go_at_call 103; refine (statesM_any _ _ _ _).mono ?_; rintro e w' ⟨rfl, rfl⟩)
    clear e0
    have hbr : Blk (((wc.alloc (.cells #[.pointer (some ⟨r, 0, none⟩)] 112)).alloc (.cells #[.int .i64 S] 2)).alloc (.cells #[.int .i64 c] 3)) wc.heap.size 112 #[.pointer (some ⟨r, 0, none⟩)] := ((Blk.new wc _ _).alloc _).alloc _
    have hbs : Blk (((wc.alloc (.cells #[.pointer (some ⟨r, 0, none⟩)] 112)).alloc (.cells #[.int .i64 S] 2)).alloc (.cells #[.int .i64 c] 3)) (wc.heap.size + 1) 2 #[.int .i64 S] := by
      have := (Blk.new (wc.alloc (.cells #[.pointer (some ⟨r, 0, none⟩)] 112)) 2 #[.int .i64 S]).alloc (.cells #[.int .i64 c] 3)
      simpa using this
    have hbc : Blk (((wc.alloc (.cells #[.pointer (some ⟨r, 0, none⟩)] 112)).alloc (.cells #[.int .i64 S] 2)).alloc (.cells #[.int .i64 c] 3)) (wc.heap.size + 1 + 1) 3 #[.int .i64 c] := by
      have := Blk.new ((wc.alloc (.cells #[.pointer (some ⟨r, 0, none⟩)] 112)).alloc (.cells #[.int .i64 S] 2)) 3 #[.int .i64 c]
      simpa using this
    have hbL : Below wc.heap.size wc (((wc.alloc (.cells #[.pointer (some ⟨r, 0, none⟩)] 112)).alloc (.cells #[.int .i64 S] 2)).alloc (.cells #[.int .i64 c] 3)) := (((Below.refl _ _).alloc (Nat.le_refl _) _).alloc (by simp) _).alloc (by simp; omega) _
    have hsz : (((wc.alloc (.cells #[.pointer (some ⟨r, 0, none⟩)] 112)).alloc (.cells #[.int .i64 S] 2)).alloc (.cells #[.int .i64 c] 3)).heap.size = wc.heap.size + 3 := by simp
    generalize ((wc.alloc (.cells #[.pointer (some ⟨r, 0, none⟩)] 112)).alloc (.cells #[.int .i64 S] 2)).alloc (.cells #[.int .i64 c] 3) = wL at hbr hbs hbc hbL hsz ⊢
    have hcs := hbw.out.size
    have hb1' := hb1.out.lt
    have hbwL : Below w.heap.size w wL := hbw.out.trans (hbL.mono hcs)
    have hAL : Agree w wL := .of_below hbwL
    refine (wpIn_wide (n := 9)).1 (range_law (α := Nat) (gf := 120) (lb := #[.pointer (some ⟨wc.heap.size, 0, none⟩), .pointer (some ⟨wc.heap.size + 1, 0, none⟩), .pointer (some ⟨wc.heap.size + 1 + 1, 0, none⟩)]) rfl (enters_of Tryd.func120 (by kernel_rfl) rfl)
      (encs := fun x => #[.int .i64 x, .int .i64 (N.goto l x)]) (own := fun _ => False) (keep := keepOf w wc.heap.size (wc.heap.size + 1) (wc.heap.size + 1 + 1)) (ok := fun _ x => x < 2 * l.length) (S := fun xs _ => xs = stepsOf l S c (2 * l.length))
      (fun k hk => by rcases hk with h | h; exact h.elim; unfold keepOf at h; omega)
      (fun W1 ht => states1_iter 7 w r m st v l HR.out S hS c wc.heap.size (wc.heap.size + 1) (wc.heap.size + 1 + 1) _ W1 (hAL.turns ht (fun _ h => h.elim)) (ht.blk hbr (fun h => h)) (ht.blk hbs (fun h => h)) (ht.blk hbc (fun h => h)))
      (fun _ => rfl)
      (fun pre W => Blk W w.heap.size 112 #[.pointer (some ⟨r, 0, none⟩)] ∧ Blk W (w.heap.size + 1) 2 #[.int .i64 (outOf l (N.init l st) pre)] ∧ outOf l (N.init l st) pre < 2 ^ (2 * l.length + 1) ∧ Below w.heap.size w W)
      (fun _ _ _ => False) ?hI (fun _ _ _ _ h _ => h) ⟨(hb0.out.below hbL (by omega)), (hb1.out.below hbL hb1'), N.init_lt l st, hbwL⟩
      (fun x a1 _ => a1 = { tmps := #[.pointer (some ⟨r, 0, none⟩), .int .i64 S, .int .i64 c, .pointer (some ⟨w.heap.size, 0, none⟩), undef, undef, .int .i64 0, .pointer (some ⟨w.heap.size + 1, 0, none⟩), undef, .int .i64 (N.goto l x), .pointer (some ⟨r, 0, none⟩), .pointer (some ⟨r, 0, none⟩), .pointer (some ⟨r, 0, none⟩), .pointer (some ⟨r, 0, none⟩), .bool st, .bool !st, u16, u17, u18, .pointer (some ⟨r, 0, none⟩), .int .i64 S, .int .i64 c, .func (.func 120) #[] #[.pointer (some ⟨wc.heap.size, 0, none⟩), .pointer (some ⟨wc.heap.size + 1, 0, none⟩), .pointer (some ⟨wc.heap.size + 1 + 1, 0, none⟩)], .int .i64 x, .int .i64 (N.goto l x), undef, undef, undef, undef, undef, undef, undef], defers := [] })
      (fun _ _ _ _ h _ => h) ?assign ?body ?done (fun _ _ _ _ h _ => h.elim) (fun _ _ _ h _ => h))
    case hI =>
      rintro pre W W' ⟨h1, h2, h3, h4⟩ ht
      exact ⟨ht.blk h1 (by rintro (h | h); exact h; omega), ht.blk h2 (by rintro (h | h); exact h; omega), h3, h4.trans (ht.below h4.size (fun k hk => by rcases hk with h | h; exact h.elim; omega))⟩
    case assign =>
      intro x W K _ hK
      gi_wp2
      exact hK _ _ (Turns.refl _ _) rfl
    case body =>
      rintro pre x a1 W hW ⟨h1, h2, h3, h4⟩ hx rfl
      have hx' : N.goto l x ≤ 2 * l.length := N.goto_le l x hx
      have HAW := Box.mk (show Agree w W from .of_below h4)
      have HN := Box.mk (show ∀ W3, Turns (fun k => k = w.heap.size + 1) W W3 → Blk W3 (w.heap.size + 1) 2 #[.int .i64 (outOf l (N.init l st) (pre ++ [x]))] → Holds (fun k => keepOf w wc.heap.size (wc.heap.size + 1) (wc.heap.size + 1 + 1) k ∨ k = wL.heap.size + 1 ∨ k = wL.heap.size) W W3 ∧ (Blk W3 w.heap.size 112 #[.pointer (some ⟨r, 0, none⟩)] ∧ Blk W3 (w.heap.size + 1) 2 #[.int .i64 (outOf l (N.init l st) (pre ++ [x]))] ∧ outOf l (N.init l st) (pre ++ [x]) < 2 ^ (2 * l.length + 1) ∧ Below w.heap.size w W3) from fun W3 ht hb =>
        ⟨Holds.of_turns ht (fun k hk => by unfold keepOf at hk; omega) (fun k hk => by unfold keepOf at hk; omega), ht.blk h1 (by omega), hb, by rw [outOf_snoc]; exact Nat.or_lt_two_pow h3 (N.clo_lt l _ hx'), h4.trans (ht.below h4.size (fun k hk => by omega))⟩)
      have HCL := Box.mk (fun (W1 : World) (sb : Nat) (ha : Agree w W1) (hs : W1.cell? ⟨sb, 0, none⟩ = some (.int .i64 (N.goto l x))) => (callsIn_wide (n := 9 - 1 - 1 - 1)).2 (closed_any r m st v l W1 (HR.out.agree ha) sb (N.goto l x) hs hx'))
      have e0 : W.cell? ⟨w.heap.size, 0, none⟩ = some (.pointer (some ⟨r, 0, none⟩)) := (h1.cell 0).trans rfl
      have e1 : W.cell? ⟨w.heap.size + 1, 0, none⟩ = some (.int .i64 (outOf l (N.init l st) pre)) := (h2.cell 0).trans rfl
      have l1 := h1.lt
      have l2 := h2.lt
      have H2 := Box.mk h2
      have H3 := Box.mk h3
      have HOR := Box.mk (show bits .or .i64 (outOf l (N.init l st) pre : Int) (N.clo l (N.goto l x) : Int) = (outOf l (N.init l st) (pre ++ [x]) : Int) by
        have a1 := lt_40 _ _ h3 (by omega)
        have a2 := lt_40 _ _ (N.clo_lt l _ hx') (by omega)
        rw [i64_or_nat _ _ (by omega) (by omega), outOf_snoc])
      clear h1 h2 h3 h4 hbr hbs hbc hbL hsz hbwL hAL l0 c0 hx
      gi_wp2
      gi_region_with ((refine And.intro trivial ?_; gi_at_call 76; refine (HCL.out _ _ ?_ ?_).mono ?_; exact ⟨(HAW.out.alloc _).size, (HAW.out.alloc _).block⟩; simp; rintro e w3 ⟨rfl, hb3⟩; have hT3 : Turns (fun k => k = w.heap.size + 1) W w3 := (Turns.alloc W _).trans (Turns.of_below ⟨hb3.os, hb3.tape, hb3.output, hb3.size, hb3.block⟩); have hB3 : Blk w3 (w.heap.size + 1) 2 #[.int .i64 (outOf l (N.init l st) pre)] := (hb3.block _ (by simp; omega)).trans (H2.out.alloc _); have HT3 := Box.mk hT3; have HB3 := Box.mk hB3; have e3 := (hB3.cell 0).trans (show _ = some (Value.int .i64 (outOf l (N.init l st) pre)) from rfl); have f3 := hB3.frozen 0; clear hb3 hT3 hB3))
      all_goals exact HN.out _ (HT3.out.trans (Turns.setCell (own := fun k => k = w.heap.size + 1) _ (p := ⟨w.heap.size + 1, 0, none⟩) rfl _)) (by rw [HOR.out]; exact HB3.out.set_ 0 _)
    case done =>
      intro xs W hW hS' ⟨h1, h2, h3, h4⟩ hD
      have HV := Box.mk (show outOf l (N.init l st) xs = N.step l st S c by rw [hS']; unfold N.step; rw [fill_steps]; rfl)
      have e1 : W.cell? ⟨w.heap.size + 1, 0, none⟩ = some (.int .i64 (outOf l (N.init l st) xs)) := (h2.cell 0).trans rfl
      have H4 := Box.mk h4
      have HD := Box.mk hD
      have hwl := hbwL.size
      clear h1 h2 h3 h4 hD hbr hbs hbc hbL hsz hbwL hAL l0 c0 hS'
      go_wp2_with fail
      refine ⟨by simp, .inl ⟨_, _, rfl, run_takeDeferred HD.out, ?_⟩⟩
      refine ⟨_, results_tmp rfl _ _ _, ?_⟩
      exact ⟨by rw [← HV.out]; rfl, H4.out.trans ((Turns.putObj (own := fun k => k = wL.heap.size) W rfl _).below H4.out.size (fun k hk => by omega))⟩
end Go.Proofs.YtjemdepcaaadiaaDoor

/- WHAT PACKAGE nfa GIVES: Most, First, Step, Done. -/
namespace Go.Proofs.YtjemdepcaaadiaaDoor
open Go.RowKit

def mostV (l : List N.Item) : Int := if rightB l = true then (N.most l : Int) else 0
def firstV (l : List N.Item) : Value := if rightB l = true then .tuple #[.int .i64 (N.clo l 0), .int .i64 0] else .tuple #[.int .i64 0, .int .i64 80]
def setOk (l : List N.Item) (x : Int) : Bool := rightB l && decide (0 ≤ x) && decide (x ≤ N.most l)
def stepV (l : List N.Item) (st : Bool) (x c : Int) : Value := if setOk l x = true then .tuple #[.int .i64 (N.step l st x.toNat c), .int .i64 0] else .tuple #[.int .i64 0, .int .i64 80]
def doneV (l : List N.Item) (x : Int) : Bool := setOk l x && N.doneB l x.toNat

theorem isDone_any (r m : Nat) (st : Bool) (v : Value) (l : List N.Item) (w : World) (h : Rn w r m st v l) (S : Nat) (hS : S < 4611686018427387904) :
    Calls Tryd.prog 79 #[.pointer (some ⟨r, 0, none⟩), .int .i64 S] w fun e w' => e = .returned (.bool (N.doneB l S)) ∧ w = w' := by
  have hl := h.len
  obtain ⟨ao, cap, rfl⟩ := h.items.slice
  have c1 : w.cell? ⟨r, 1, none⟩ = some (.slice ao l.length cap) := (h.blk.cell 1).trans rfl
  have HB := Box.mk (test_bit S (2 * l.length) (by omega))
  clear h
  go_enter Tryd.func79, Tryd.ntmps79
  go_wp2
  go_ret
  exact ⟨ret_bool HB.out, rfl⟩

theorem alloc_below (w : World) (o : Obj) : Below w.heap.size w (w.alloc o) := (Below.refl _ _).alloc (Nat.le_refl _) o

set_option maxHeartbeats 1000000 in
theorem most_any (A : Nat → Addr) (B : Nat) (st : Bool) (v : Value) (l : List N.Item) (w : World) (hv : ItemsAt w v l) (hz : l.length ≤ 16777216) (hE : E A B w) (hB : B ≤ w.heap.size) :
    Calls Tryd.prog 50 #[.agg #[.bool st, v]] w fun e w' => e = .returned (.int .i64 (mostV l)) ∧ Below w.heap.size w w' := by
  have hb0 := alloc_below w (.cells #[.bool st, v] 44)
  unfold mostV
  cases hr : rightB l with
  | true =>
    have HO := Box.mk (open_ok A B st v l _ (hv.below hb0) hz (hE.below (hb0.mono hB)) (Nat.le_trans hB hb0.size) ⟨hr⟩)
    have HB0 := Box.mk hb0
    clear hb0 hE hv hr
    go_enter Tryd.func50, Tryd.ntmps50
    go_wp2_with fail
    refine HO.out.mono ?_; rintro e w1 ⟨hb1, r, m, rfl, hrn⟩
    have HB1 := Box.mk hb1
    have HR := Box.mk hrn
    clear hb1 hrn
    go_wp2_with fail
    refine (all_any _ _ _ _ _ _ HR.out).mono ?_; rintro e w2 ⟨rfl, rfl⟩
    go_wp2_with fail
    go_ret
    exact ⟨rfl, HB0.out.trans (HB1.out.mono HB0.out.size)⟩
  | false =>
    have HO := Box.mk (open_bad A B st v l _ (hv.below hb0) hz (hE.below (hb0.mono hB)) (Nat.le_trans hB hb0.size) ⟨hr⟩ (.slice none 0 0))
    have HB0 := Box.mk hb0
    clear hb0 hE hv hr
    go_enter Tryd.func50, Tryd.ntmps50
    go_wp2_with fail
    refine HO.out.mono ?_; rintro e w1 ⟨hb1, rfl⟩
    unfold errV
    have HB1 := Box.mk hb1
    clear hb1
    go_wp2_with fail
    go_ret
    exact ⟨rfl, HB0.out.trans (HB1.out.mono HB0.out.size)⟩

set_option maxHeartbeats 1000000 in
theorem first_any (A : Nat → Addr) (B : Nat) (st : Bool) (v : Value) (l : List N.Item) (w : World) (hv : ItemsAt w v l) (hz : l.length ≤ 16777216) (hE : E A B w) (hB : B ≤ w.heap.size) :
    Calls Tryd.prog 63 #[.agg #[.bool st, v]] w fun e w' => e = .returned (firstV l) ∧ Below w.heap.size w w' := by
  have hb0 := alloc_below w (.cells #[.bool st, v] 44)
  unfold firstV
  cases hr : rightB l with
  | true =>
    have HO := Box.mk (open_ok A B st v l _ (hv.below hb0) hz (hE.below (hb0.mono hB)) (Nat.le_trans hB hb0.size) ⟨hr⟩)
    have HB0 := Box.mk hb0
    clear hb0 hE hv hr
    go_enter Tryd.func63, Tryd.ntmps63
    go_wp2_with fail
    refine HO.out.mono ?_; rintro e w1 ⟨hb1, r, m, rfl, hrn⟩
    have HB1 := Box.mk hb1
    have HC := Box.mk (closed_any r m st v l (w1.alloc (.cells #[.int .i64 0] 3)) (hrn.below (alloc_below _ _)) w1.heap.size 0 (by simp) (by omega))
    clear hb1 hrn
    go_wp2_with fail
    refine HC.out.mono ?_; rintro e w2 ⟨rfl, hb2⟩
    have HB2 := Box.mk ((alloc_below w1 _).trans (hb2.mono (alloc_below w1 _).size))
    clear hb2
    go_wp2_with fail
    go_ret2
    exact ⟨rfl, HB0.out.trans ((HB1.out.trans (HB2.out.mono HB1.out.size)).mono HB0.out.size)⟩
  | false =>
    have HO := Box.mk (open_bad A B st v l _ (hv.below hb0) hz (hE.below (hb0.mono hB)) (Nat.le_trans hB hb0.size) ⟨hr⟩ (.slice none 0 0))
    have HB0 := Box.mk hb0
    have HE := Box.mk hE
    clear hb0 hE hv hr
    go_enter Tryd.func63, Tryd.ntmps63
    go_wp2_with fail
    refine HO.out.mono ?_; rintro e w1 ⟨hb1, rfl⟩
    have HT := Box.mk (told_any A B w1 ((HE.out.below (HB0.out.mono hB)).below (hb1.mono (Nat.le_trans hB HB0.out.size))))
    have HB1 := Box.mk hb1
    unfold errV at HT ⊢
    clear hb1
    go_wp2_with fail
    refine HT.out.mono ?_; rintro e w2 ⟨rfl, rfl⟩
    go_wp2_with fail
    go_ret2
    exact ⟨rfl, HB0.out.trans (HB1.out.mono HB0.out.size)⟩

theorem most_small (l : List N.Item) (h : l.length ≤ 10) : N.most l < 4611686018427387904 := by
  have : 2 ^ (2 * l.length + 1) ≤ 2 ^ 21 := Nat.pow_le_pow_right (by omega) (by omega)
  unfold N.most
  omega
theorem right_len {l : List N.Item} (h : rightB l = true) : l.length ≤ 10 := by
  unfold rightB at h
  rw [Bool.and_eq_true] at h
  exact of_decide_eq_true h.1
theorem cell_two (w : World) (o : Obj) (x : Value) (T : TypeId) : ((w.alloc o).alloc (.cells #[x] T)).cell? ⟨w.heap.size + 1, 0, none⟩ = some x := by
  simp

set_option maxHeartbeats 1000000 in
theorem pstep_any (A : Nat → Addr) (B : Nat) (st : Bool) (v : Value) (l : List N.Item) (x c : Int) (w : World) (hv : ItemsAt w v l) (hz : l.length ≤ 16777216) (hE : E A B w) (hB : B ≤ w.heap.size) :
    Calls Tryd.prog 47 #[.agg #[.bool st, v], .int .i64 x, .int .i64 c] w fun e w' => e = .returned (stepV l st x c) ∧ Below w.heap.size w w' := by
  have hb0 := ((Below.refl w.heap.size w).alloc (Nat.le_refl _) (.cells #[.bool st, v] 44)).alloc (by simp) (.cells #[.int .i64 x] 2)
  have hcx := cell_two w (.cells #[.bool st, v] 44) (.int .i64 x) 2
  unfold stepV
  have HB0 := Box.mk hb0
  have HE := Box.mk hE
  have hE' := hE.below (hb0.mono hB)
  have hB' := Nat.le_trans hB hb0.size
  cases hok : setOk l x with
  | true =>
    have hok' := hok
    unfold setOk at hok
    simp only [Bool.and_eq_true, decide_eq_true_eq] at hok
    obtain ⟨⟨hr, h0⟩, h1⟩ := hok
    have hm := most_small l (right_len hr)
    obtain ⟨S, rfl⟩ := Int.eq_ofNat_of_zero_le h0
    have HO := Box.mk (open_set_ok A B st v l _ (hv.below hb0) hz hE' hB' ⟨hr⟩ (w.heap.size + 1) S hcx h0 h1)
    clear hb0 hE hv hr hE' hB' hok' hcx
    go_enter Tryd.func47, Tryd.ntmps47
    go_wp2_with fail
    refine HO.out.mono ?_; rintro e w1 ⟨hb1, r, m, rfl, hrn⟩
    have HB1 := Box.mk hb1
    have HR := Box.mk hrn
    clear hb1 hrn
    go_wp2_with fail
    refine (step_any r m st v l _ HR.out S (by omega) c).mono ?_; rintro e w2 ⟨rfl, hb2⟩
    have HB2 := Box.mk hb2
    clear hb2
    go_wp2_with fail
    go_ret2
    exact ⟨by simp, HB0.out.trans ((HB1.out.trans (HB2.out.mono HB1.out.size)).mono HB0.out.size)⟩
  | false =>
    have HO := Box.mk (show Calls Tryd.prog 74 #[.agg #[.bool st, v], .slice (some ⟨w.heap.size + 1, 0, none⟩) 1 1] _ (openNo _ A) from by
      cases hr : rightB l with
      | false => exact open_bad A B st v l _ (hv.below hb0) hz hE' hB' ⟨hr⟩ _
      | true =>
        refine open_set_bad A B st v l _ (hv.below hb0) hz hE' hB' ⟨hr⟩ (w.heap.size + 1) x hcx ?_
        unfold setOk at hok
        rw [hr] at hok
        simp at hok
        omega)
    clear hb0 hE hv hE' hB' hok hcx
    go_enter Tryd.func47, Tryd.ntmps47
    go_wp2_with fail
    refine HO.out.mono ?_; rintro e w1 ⟨hb1, rfl⟩
    have HT := Box.mk (told_any A B w1 ((HE.out.below (HB0.out.mono hB)).below (hb1.mono (Nat.le_trans hB HB0.out.size))))
    have HB1 := Box.mk hb1
    unfold errV at HT ⊢
    clear hb1
    go_wp2_with fail
    refine HT.out.mono ?_; rintro e w2 ⟨rfl, rfl⟩
    go_wp2_with fail
    go_ret2
    exact ⟨rfl, HB0.out.trans (HB1.out.mono HB0.out.size)⟩

set_option maxHeartbeats 1000000 in
theorem pdone_any (A : Nat → Addr) (B : Nat) (st : Bool) (v : Value) (l : List N.Item) (x : Int) (w : World) (hv : ItemsAt w v l) (hz : l.length ≤ 16777216) (hE : E A B w) (hB : B ≤ w.heap.size) :
    Calls Tryd.prog 51 #[.agg #[.bool st, v], .int .i64 x] w fun e w' => e = .returned (.bool (doneV l x)) ∧ Below w.heap.size w w' := by
  have hb0 := ((Below.refl w.heap.size w).alloc (Nat.le_refl _) (.cells #[.bool st, v] 44)).alloc (by simp) (.cells #[.int .i64 x] 2)
  have hcx := cell_two w (.cells #[.bool st, v] 44) (.int .i64 x) 2
  unfold doneV
  have HB0 := Box.mk hb0
  have hE' := hE.below (hb0.mono hB)
  have hB' := Nat.le_trans hB hb0.size
  cases hok : setOk l x with
  | true =>
    have hok' := hok
    unfold setOk at hok
    simp only [Bool.and_eq_true, decide_eq_true_eq] at hok
    obtain ⟨⟨hr, h0⟩, h1⟩ := hok
    have hm := most_small l (right_len hr)
    obtain ⟨S, rfl⟩ := Int.eq_ofNat_of_zero_le h0
    have HO := Box.mk (open_set_ok A B st v l _ (hv.below hb0) hz hE' hB' ⟨hr⟩ (w.heap.size + 1) S hcx h0 h1)
    clear hb0 hE hv hr hE' hB' hok' hcx
    go_enter Tryd.func51, Tryd.ntmps51
    go_wp2_with fail
    refine HO.out.mono ?_; rintro e w1 ⟨hb1, r, m, rfl, hrn⟩
    have HB1 := Box.mk hb1
    have HR := Box.mk hrn
    clear hb1 hrn
    go_wp2_with fail
    refine (isDone_any r m st v l _ HR.out S (by omega)).mono ?_; rintro e w2 ⟨rfl, rfl⟩
    go_wp2_with fail
    go_ret
    exact ⟨by simp, HB0.out.trans (HB1.out.mono HB0.out.size)⟩
  | false =>
    have HO := Box.mk (show Calls Tryd.prog 74 #[.agg #[.bool st, v], .slice (some ⟨w.heap.size + 1, 0, none⟩) 1 1] _ (openNo _ A) from by
      cases hr : rightB l with
      | false => exact open_bad A B st v l _ (hv.below hb0) hz hE' hB' ⟨hr⟩ _
      | true =>
        refine open_set_bad A B st v l _ (hv.below hb0) hz hE' hB' ⟨hr⟩ (w.heap.size + 1) x hcx ?_
        unfold setOk at hok
        rw [hr] at hok
        simp at hok
        omega)
    clear hb0 hE hv hE' hB' hok hcx
    go_enter Tryd.func51, Tryd.ntmps51
    go_wp2_with fail
    refine HO.out.mono ?_; rintro e w1 ⟨hb1, rfl⟩
    have HB1 := Box.mk hb1
    unfold errV
    clear hb1
    go_wp2_with fail
    go_ret
    exact ⟨rfl, HB0.out.trans (HB1.out.mono HB0.out.size)⟩
end Go.Proofs.YtjemdepcaaadiaaDoor

/- RULES CUT: the laws' Few (layer 11) and few (layer 12). -/
namespace Go.Proofs.YtjemdepcaaadiaaDoor
open Go.RowKit Go.Shelf
attribute [local go_sem] Oper.semAt_some

def cutR (x : D.Rule) : D.Rule := ((x.1.1, x.1.2.take 12), (x.2.1.1, x.2.1.2.take 12), x.2.2)
def few11 (l : List D.Rule) : List D.Rule := (l.take 42).map cutR
def few12 (l : List D.Rule) : List D.Rule := (few11 l).take 6
theorem take_snoc'' {α : Type} (xs : List α) (k : Nat) (x : α) (h : xs[k]? = some x) : xs.take (k + 1) = xs.take k ++ [x] := by rw [List.take_add_one, h]; rfl
/-- a rule's cells -/
def ruleC (y : D.Rule × Value × Value) : List Value := [.bool y.1.1.1, y.2.1, .bool y.1.2.1.1, y.2.2, .bool y.1.2.2]
theorem pushRule : PushesN Tryd.prog 22 46 5 72 := .mk' (z := .agg #[.bool false, .slice none 0 0, .bool false, .slice none 0 0, .bool false]) Tryd.underlying22 (by kernel_rfl) rfl
/-- rules with the values of their sides, that can be read -/
def RulesV (W : World) (L : List (D.Rule × Value × Value)) : Prop := ∀ y ∈ L, ItemsAt W y.2.1 y.1.1.2 ∧ ItemsAt W y.2.2 y.1.2.1.2
theorem rules_own {W : World} {base n : Nat} {v : Value} {L : List (D.Rule × Value × Value)} (h : W.ownsRow base 46 5 v n (L.flatMap ruleC)) (hn : n = L.length) (hV : RulesV W L) : RulesAt W v (L.map (·.1)) := by
  subst hn
  rcases h.2 with ⟨h1, h2⟩ | ⟨g, cap, cur, h1, h2, h3, h4, h5, h6, h7⟩
  · rw [List.eq_nil_of_length_eq_zero h2]; exact .inl ⟨h1, rfl⟩
  · refine .inr ⟨g, 0, none, cap, by rw [h1, List.length_map], by rw [List.length_map]; exact h4, h5, fun hn => ⟨rfl, (Array.getElem?_eq_some_iff.1 h3).1, fun i x hx => ?_⟩⟩
    rw [List.getElem?_map] at hx
    obtain ⟨y, hy, rfl⟩ := Option.map_eq_some_iff.1 hx
    have hc : ∀ (j : Nat) (u : Value), j < 5 → (ruleC y)[j]? = some u → W.cell? ⟨g, 0 + i * 5 + j, none⟩ = some u := by
      intro j u hj hu
      have h8 := h.cells (g := g) (by rw [h1]; rfl) (i * 5 + j) u (by rw [flat_get ruleC 5 L i j y (fun z _ => rfl) hy hj]; exact hu)
      rw [show (⟨g, 0, none⟩ : Addr).add (i * 5 + j) = ⟨g, 0 + i * 5 + j, none⟩ by unfold Addr.add; split <;> simp_all] at h8
      exact h8
    obtain ⟨k1, k2⟩ := hV y (List.mem_of_getElem? hy)
    exact ⟨y.2.1, y.2.2, hc 0 _ (by omega) rfl, hc 1 _ (by omega) rfl, hc 2 _ (by omega) rfl, hc 3 _ (by omega) rfl, hc 4 _ (by omega) rfl, k1, k2⟩

set_option maxRecDepth 100000 in
set_option maxHeartbeats 8000000 in
theorem few11_any (v : Value) (l : List D.Rule) (w : World) (hv : RulesAt w v l) :
    Calls Tryd.prog 30 #[v] w fun e w' => Below w.heap.size w w' ∧ ∃ v', e = .returned v' ∧ ∃ L : List (D.Rule × Value × Value), L.map (·.1) = few11 l ∧ RulesV w L ∧ w'.ownsRow w.heap.size 46 5 v' L.length (L.flatMap ruleC) := by
  have HR := Box.mk hv
  obtain ⟨ao, cap, rfl⟩ := hv.slice
  obtain ⟨m, hm⟩ : ∃ m, m = min l.length 42 := ⟨_, rfl⟩
  have HM := Box.mk hm
  have hm1 : m ≤ l.length := by omega
  have hm2 : m ≤ 42 := by omega
  have HS0 := Box.mk (show ∃ L : List (D.Rule × Value × Value), L.length = 0 ∧ L.map (·.1) = (l.take 0).map cutR ∧ RulesV w L ∧ Sep [Pc.row w.heap.size 46 5 (.slice none 0 0) 0 (L.flatMap ruleC), Pc.old w.heap.size w] w from
    ⟨[], rfl, rfl, fun y hy => absurd hy List.not_mem_nil, (Sep.start w).nil_row _ _ _⟩)
  clear hv hm
  go_enter Tryd.func30, Tryd.ntmps30
  go_wp2_with fail
  go_loopw [3, 4] (fun o i wr => ∃ k : Nat, k ≤ m ∧ i = .int .i64 k ∧ Box (∃ L : List (D.Rule × Value × Value), L.length = k ∧ L.map (·.1) = (l.take k).map cutR ∧ RulesV w L ∧ Sep [Pc.row w.heap.size 46 5 o k (L.flatMap ruleC), Pc.old w.heap.size w] wr)) (fun _ i _ => m - (intOf i).toNat)
  case atStart => exact ⟨0, by omega, rfl, HS0⟩
  case round =>
    obtain ⟨k, hk, rfl, hbox⟩ := hrel
    obtain ⟨L, hL1, hL2, hL3, hsep⟩ := hbox.out
    have HBR := Box.mk (show Below w.heap.size w wr from hsep.bel (by simp))
    have HL1 := Box.mk hL1
    have HL2 := Box.mk hL2
    have HL3 := Box.mk hL3
    have HSEP := Box.mk hsep
    obtain ⟨oo, oc, rfl, ho1, ho2⟩ := own_shape (hsep.row 0 rfl)
    clear hbox hL1 hL2 hL3 hsep
    by_cases hlt : k < m
    · obtain ⟨x, hx⟩ : ∃ x, l[k]? = some x := ⟨_, List.getElem?_eq_getElem (by omega)⟩
      obtain ⟨bg, off, cap2, hg1, hg2, hg3, hg4, hg5⟩ := (HR.out.below HBR.out).get (by rintro rfl; simp at hm1; omega)
      obtain ⟨rfl, rfl⟩ : ao = some ⟨bg, off, none⟩ ∧ cap = cap2 := by injection hg1 with h1 h2 h3; exact ⟨h1, h3⟩
      obtain ⟨vl, vr, hc0, hc1, hc2, hc3, hc4, hil, hir⟩ := hg5 k x hx
      obtain ⟨bg', off', cap2', kg1, kg2, kg3, kg4, kg5⟩ := HR.out.get (by rintro rfl; simp at hm1; omega)
      obtain ⟨rfl, rfl⟩ : bg = bg' ∧ off = off' := by injection kg1 with h1 h2 h3; injection h1 with h1; injection h1 with h1 h2; exact ⟨h1, h2⟩
      obtain ⟨vl', vr', kc0, kc1, kc2, kc3, kc4, kil, kir⟩ := kg5 k x hx
      obtain rfl : vl = vl' := by
        have := (HBR.out.cell (p := ⟨bg, off + k * 5 + 1, none⟩) kg4).trans kc1
        rw [hc1] at this; simpa using this
      obtain rfl : vr = vr' := by
        have := (HBR.out.cell (p := ⟨bg, off + k * 5 + 3, none⟩) kg4).trans kc3
        rw [hc3] at this; simpa using this
      have HCL := Box.mk (fun W (h : Below w.heap.size w W) => cut_any x.1.1 vl x.1.2 W (kil.below h))
      have HCR := Box.mk (fun W (h : Below w.heap.size w W) => cut_any x.2.1.1 vr x.2.1.2 W (kir.below h))
      have HKL := Box.mk kil
      have HKR := Box.mk kir
      have HTK := Box.mk (take_snoc'' l k x hx)
      have hk42 : k < 42 := by omega
      have hkl : k < l.length := by omega
      have hkc : k < cap := by omega
      unfold maxLen at hg3
      obtain ⟨al, cl, rfl⟩ := kil.slice
      obtain ⟨ar, cr, rfl⟩ := kir.slice
      obtain ⟨⟨stl, il⟩, ⟨str, ir⟩, br⟩ := x
      simp only at hc0 hc1 hc2 hc3 hc4 HCL HCR HKL HKR
      have HFF := Box.mk (show ∀ W, Below wr.heap.size wr W → W.cell? ⟨bg, off + k * 5, none⟩ = some (.bool stl) ∧ W.cell? ⟨bg, off + k * 5 + 1, none⟩ = some (.slice al il.length cl) ∧ W.cell? ⟨bg, off + k * 5 + 2, none⟩ = some (.bool str) ∧ W.cell? ⟨bg, off + k * 5 + 3, none⟩ = some (.slice ar ir.length cr) ∧ W.cell? ⟨bg, off + k * 5 + 4, none⟩ = some (.bool br) from fun W h =>
        ⟨(h.cell (p := ⟨bg, off + k * 5, none⟩) hg4).trans hc0, (h.cell (p := ⟨bg, off + k * 5 + 1, none⟩) hg4).trans hc1, (h.cell (p := ⟨bg, off + k * 5 + 2, none⟩) hg4).trans hc2, (h.cell (p := ⟨bg, off + k * 5 + 3, none⟩) hg4).trans hc3, (h.cell (p := ⟨bg, off + k * 5 + 4, none⟩) hg4).trans hc4⟩)
      have HBD := Box.mk (show Below wr.heap.size wr wr.drew from ⟨rfl, rfl, rfl, Nat.le_refl _, fun _ _ => rfl⟩)
      clear hg1 hg5 kg1 kg5 hil hir kil kir kc0 kc1 kc2 kc3 kc4 hc0 hc1 hc2 hc3 hc4 hx kg2 kg3
      go_wp2_with fail
      refine wp_region_K 20 (fun W => W.cell? ⟨bg, off + k * 5, none⟩ = some (.bool stl) ∧ W.cell? ⟨bg, off + k * 5 + 1, none⟩ = some (.slice al il.length cl) ∧ W.cell? ⟨bg, off + k * 5 + 2, none⟩ = some (.bool str) ∧ W.cell? ⟨bg, off + k * 5 + 3, none⟩ = some (.slice ar ir.length cr) ∧ W.cell? ⟨bg, off + k * 5 + 4, none⟩ = some (.bool br)) (by kernel_rfl) ?_
      have HF0 := Box.mk (HFF.out _ HBD.out)
      refine wpAnyK_take (i := 0) (v := ?_) rfl (by kernel_rfl) (fun _ _ _ h => h) (Or.inl ⟨by kernel_rfl, ?_⟩) HF0.out ?_
      rotate_left
      · first | (intro w hw; obtain ⟨q1, q2, q3, q4, q5⟩ := hw; go_simp; done) | (intro w hw; obtain ⟨q1, q2, q3, q4, q5⟩ := hw; go_simp; with_reducible rfl)
      refine wpAnyK_take (i := 1) (v := ?_) rfl (by kernel_rfl) (fun _ _ _ h => h) (Or.inl ⟨by kernel_rfl, ?_⟩) HF0.out ?_
      rotate_left
      · first | (intro w hw; obtain ⟨q1, q2, q3, q4, q5⟩ := hw; go_simp; done) | (intro w hw; obtain ⟨q1, q2, q3, q4, q5⟩ := hw; go_simp; with_reducible rfl)
      refine wpAnyK_take (i := 2) (v := ?_) rfl (by kernel_rfl) (fun _ _ _ h => h) (Or.inl ⟨by kernel_rfl, ?_⟩) HF0.out ?_
      rotate_left
      · first | (intro w hw; obtain ⟨q1, q2, q3, q4, q5⟩ := hw; go_simp; done) | (intro w hw; obtain ⟨q1, q2, q3, q4, q5⟩ := hw; go_simp; with_reducible rfl)
      refine wpAnyK_take (i := 3) (v := ?_) rfl (by kernel_rfl) (fun _ _ _ h => h) (Or.inl ⟨by kernel_rfl, ?_⟩) HF0.out ?_
      rotate_left
      · first | (intro w hw; obtain ⟨q1, q2, q3, q4, q5⟩ := hw; go_simp; done) | (intro w hw; obtain ⟨q1, q2, q3, q4, q5⟩ := hw; go_simp; with_reducible rfl)
      refine wpAnyK_take (i := 4) (v := ?_) rfl (by kernel_rfl) (fun _ _ _ h => h) (Or.inl ⟨by kernel_rfl, ?_⟩) HF0.out ?_
      rotate_left
      · first | (intro w hw; obtain ⟨q1, q2, q3, q4, q5⟩ := hw; go_simp; done) | (intro w hw; obtain ⟨q1, q2, q3, q4, q5⟩ := hw; go_simp; with_reducible rfl)
      refine wpAnyK_take (i := 5) (v := ?_) rfl (by kernel_rfl) (fun _ _ _ h => h) (Or.inl ⟨by kernel_rfl, ?_⟩) HF0.out ?_
      rotate_left
      · first | (intro w hw; obtain ⟨q1, q2, q3, q4, q5⟩ := hw; go_simp; done) | (intro w hw; obtain ⟨q1, q2, q3, q4, q5⟩ := hw; go_simp; with_reducible rfl)
      refine wpAnyK_take (i := 7) (v := ?_) rfl (by kernel_rfl) (fun _ _ _ h => h) (Or.inl ⟨by kernel_rfl, ?_⟩) HF0.out ?_
      rotate_left
      · first | (intro w hw; obtain ⟨q1, q2, q3, q4, q5⟩ := hw; go_simp; done) | (intro w hw; obtain ⟨q1, q2, q3, q4, q5⟩ := hw; go_simp; with_reducible rfl)
      refine wpAnyK_take (i := 8) (v := ?_) rfl (by kernel_rfl) (fun _ _ _ h => h) (Or.inl ⟨by kernel_rfl, ?_⟩) HF0.out ?_
      rotate_left
      · first | (intro w hw; obtain ⟨q1, q2, q3, q4, q5⟩ := hw; go_simp; done) | (intro w hw; obtain ⟨q1, q2, q3, q4, q5⟩ := hw; go_simp; with_reducible rfl)
      refine wpAnyK_take (i := 9) (v := ?_) rfl (by kernel_rfl) (fun _ _ _ h => h) (Or.inl ⟨by kernel_rfl, ?_⟩) HF0.out ?_
      rotate_left
      · first | (intro w hw; obtain ⟨q1, q2, q3, q4, q5⟩ := hw; go_simp; done) | (intro w hw; obtain ⟨q1, q2, q3, q4, q5⟩ := hw; go_simp; with_reducible rfl)
      refine wpAnyK_take (i := 10) (v := ?_) rfl (by kernel_rfl) (fun _ _ _ h => h) (Or.inl ⟨by kernel_rfl, ?_⟩) HF0.out ?_
      rotate_left
      · first | (intro w hw; obtain ⟨q1, q2, q3, q4, q5⟩ := hw; go_simp; done) | (intro w hw; obtain ⟨q1, q2, q3, q4, q5⟩ := hw; go_simp; with_reducible rfl)
      refine wpAnyK_take (i := 11) (v := ?_) rfl (by kernel_rfl) (fun _ _ _ h => h) (Or.inl ⟨by kernel_rfl, ?_⟩) HF0.out ?_
      rotate_left
      · first | (intro w hw; obtain ⟨q1, q2, q3, q4, q5⟩ := hw; go_simp; done) | (intro w hw; obtain ⟨q1, q2, q3, q4, q5⟩ := hw; go_simp; with_reducible rfl)
      refine wpAnyK_take (i := 13) (v := ?_) rfl (by kernel_rfl) (fun _ _ _ h => h) (Or.inl ⟨by kernel_rfl, ?_⟩) HF0.out ?_
      rotate_left
      · first | (intro w hw; obtain ⟨q1, q2, q3, q4, q5⟩ := hw; go_simp; done) | (intro w hw; obtain ⟨q1, q2, q3, q4, q5⟩ := hw; go_simp; with_reducible rfl)
      refine wpAnyK_take (i := 14) (v := ?_) rfl (by kernel_rfl) (fun _ _ _ h => h) (Or.inl ⟨by kernel_rfl, ?_⟩) HF0.out ?_
      rotate_left
      · first | (intro w hw; obtain ⟨q1, q2, q3, q4, q5⟩ := hw; go_simp; done) | (intro w hw; obtain ⟨q1, q2, q3, q4, q5⟩ := hw; go_simp; with_reducible rfl)
      refine wpAnyK_take (i := 15) (v := ?_) rfl (by kernel_rfl) (fun _ _ _ h => h) (Or.inl ⟨by kernel_rfl, ?_⟩) HF0.out ?_
      rotate_left
      · first | (intro w hw; obtain ⟨q1, q2, q3, q4, q5⟩ := hw; go_simp; done) | (intro w hw; obtain ⟨q1, q2, q3, q4, q5⟩ := hw; go_simp; with_reducible rfl)
      refine wpAnyK_take (i := 16) (v := ?_) rfl (by kernel_rfl) (fun _ _ _ h => h) (Or.inl ⟨by kernel_rfl, ?_⟩) HF0.out ?_
      rotate_left
      · first | (intro w hw; obtain ⟨q1, q2, q3, q4, q5⟩ := hw; go_simp; done) | (intro w hw; obtain ⟨q1, q2, q3, q4, q5⟩ := hw; go_simp; with_reducible rfl)
      refine wpAnyK_take (i := 17) (v := ?_) rfl (by kernel_rfl) (fun _ _ _ h => h) (Or.inl ⟨by kernel_rfl, ?_⟩) HF0.out ?_
      rotate_left
      · first | (intro w hw; obtain ⟨q1, q2, q3, q4, q5⟩ := hw; go_simp; done) | (intro w hw; obtain ⟨q1, q2, q3, q4, q5⟩ := hw; go_simp; with_reducible rfl)
      refine wpAnyK_one (i := 6) (by kernel_rfl) rfl (fun KK hKK => ?_)
      go_simp
      go_wp2_with (go_at_call 21; refine (HCL.out _ (HBR.out.trans (HBD.out.mono HBR.out.size))).mono ?_; rintro e w7 ⟨⟨vl2, rfl, hvl⟩, hb7⟩)
      have HB7 := Box.mk (show Below wr.heap.size wr w7 from HBD.out.trans (hb7.mono (Nat.le_refl _)))
      have HVL := Box.mk (hvl w HKL.out)
      clear hb7 hvl
      refine hKK.out _ _ (fun _ => HFF.out _ HB7.out) ?_
      clear hKK KK
      refine wpAnyK_one (i := 12) (by kernel_rfl) rfl (fun KK hKK => ?_)
      go_simp
      go_wp2_with (go_at_call 21; refine (HCR.out _ (HBR.out.trans (HB7.out.mono HBR.out.size))).mono ?_; rintro e w8 ⟨⟨vr2, rfl, hvr⟩, hb8⟩)
      have HB8 := Box.mk (show Below wr.heap.size wr w8 from HB7.out.trans (hb8.mono HB7.out.size))
      have HVR := Box.mk (hvr w HKR.out)
      clear hb8 hvr
      refine hKK.out _ _ (fun _ => HFF.out _ HB8.out) ?_
      clear hKK KK
      obtain ⟨al2, cl2, hv2⟩ := HVL.out.slice
      obtain ⟨ar2, cr2, hv3⟩ := HVR.out.slice
      generalize (il.take 12).length = nl at hv2
      generalize (ir.take 12).length = nr at hv3
      subst hv2
      subst hv3
      refine wpAnyK_one (i := 18) (by kernel_rfl) rfl (fun KK hKK => ?_)
      go_simp
      refine hKK.out _ _ (fun _ => HFF.out _ HB8.out) ?_
      clear hKK KK
      refine wpAnyK_one (i := 19) (by kernel_rfl) rfl (fun KK hKK => ?_)
      go_simp
      refine hKK.out _ _ (fun _ => HFF.out _ (HB8.out.alloc HB8.out.size _)) ?_
      clear hKK KK
      have HS8 := Box.mk (HSEP.out.below HB8.out)
      have hbs8 : w.heap.size ≤ w8.heap.size := Nat.le_trans HBR.out.size HB8.out.size
      refine wpAnyK_one (i := 20) (by kernel_rfl) rfl (fun KK hKK => ?_)
      refine step_pushN (cs := ruleC (cutR ((stl, il), (str, ir), br), .slice al2 nl cl2, .slice ar2 nr cr2)) rfl _ _ 22 rfl pushRule (by decide) HS8.out 0 rfl (by kernel_rfl) (by kernel_rfl) rfl (by intro u hu; simp only [ruleC, List.mem_cons, List.not_mem_nil, or_false] at hu; rcases hu with rfl | rfl | rfl | rfl | rfl <;> rfl) (by omega) (by omega) hbs8 ?_
      rintro v' w9 hS9 -
      refine hKK.out _ _ (fun h => by cases h) ?_
      clear hKK KK
      refine wpAnyK_one (i := 21) (by kernel_rfl) rfl (fun KK hKK => ?_)
      go_simp
      refine hKK.out _ _ (fun h => by cases h) ?_
      clear hKK KK
      refine wpAnyK_done (by kernel_rfl) ?_ _
      refine NoPanic.normal ?_
      have HN := Box.mk (show ∃ L : List (D.Rule × Value × Value), L.length = k + 1 ∧ L.map (·.1) = (l.take (k + 1)).map cutR ∧ RulesV w L ∧ Sep [Pc.row w.heap.size 46 5 v' (k + 1) (L.flatMap ruleC), Pc.old w.heap.size w] w9 by
        refine ⟨L ++ [(cutR ((stl, il), (str, ir), br), .slice al2 nl cl2, .slice ar2 nr cr2)], ?_, ?_, ?_, ?_⟩
        · rw [List.length_append, HL1.out]; rfl
        · rw [List.map_append, HL2.out, HTK.out, List.map_append]; rfl
        · intro y hy
          rcases List.mem_append.1 hy with h | h
          · exact HL3.out y h
          · rw [List.mem_singleton.1 h]; exact ⟨HVL.out, HVR.out⟩
        · rw [List.flatMap_append, List.flatMap_singleton]; exact hS9)
      clear hS9
      go_wp2_with fail
      go_roundw
      case rel => exact ⟨k + 1, hlt, by go_num, HN⟩
      case measure => simp [intOf]; omega
    · have hkm : k = m := by omega
      have HKM := Box.mk hkm
      have hd : l.length ≤ k ∨ (k < l.length ∧ 42 ≤ k) := by have := HM.out; omega
      clear hkm
      rcases hd with hd | ⟨hd, hd2⟩
      all_goals
        go_wp2_with fail
        go_ret
        refine ⟨HBR.out, _, rfl, L, ?_, HL3.out, by rw [HL1.out]; exact HSEP.out.row 0 rfl⟩
        rw [HL2.out]
        unfold few11
        rw [HKM.out, HM.out]
        rcases Nat.le_total l.length 42 with h | h
        · rw [Nat.min_eq_left h, List.take_of_length_le h, List.take_length]
        · rw [Nat.min_eq_right h]
end Go.Proofs.YtjemdepcaaadiaaDoor

/- WHAT PACKAGE nfa GIVES: Run, Fits. -/
namespace Go.Proofs.YtjemdepcaaadiaaDoor
open Go.RowKit

theorem own_below {w w' : World} {B : Nat} {T : TypeId} {v : Value} {n : Nat} {bs : List Value} (h : w.ownsRow B T 1 v n bs) (hb : Below w.heap.size w w') : w'.ownsRow B T 1 v n bs := by
  have hl := h.lt
  refine ⟨h.1, ?_⟩
  rcases h.2 with h2 | ⟨g, cap, cur, h2, h3, h4, h5⟩
  · exact .inl h2
  · exact .inr ⟨g, cap, cur, h2, h3, (hb.block g (hl g (by rw [h2]; rfl)).2).trans h4, h5⟩
def natV (n : Nat) : Value := .int .i64 n
theorem i64_info : (Tryd.prog.info? 2).map (fun i => (i.zero, i.size, i.bytes)) = some (some (.int .i64 0), 1, 8) := by kernel_rfl
theorem bool_info : (Tryd.prog.info? 4).map (fun i => (i.zero, i.size, i.bytes)) = some (some (.bool false), 1, 1) := by kernel_rfl

/-- the sets behind none, one, two .. numbers, as numbers -/
def setsOf (l : List N.Item) (st : Bool) (cs : List Int) : List Int := (N.runs l st (N.clo l 0) cs cs.length).map fun n : Nat => (n : Int)
def runPost (l : List N.Item) (st : Bool) (cs : List Int) (w : World) (e : Ending) (w' : World) : Prop :=
  Below w.heap.size w w' ∧ (rightB l = true → ∃ v, e = .returned (.tuple #[v, .int .i64 0]) ∧ IntsAt w' v (setsOf l st cs)) ∧ (rightB l = false → e = .returned (.tuple #[.slice none 0 0, .int .i64 80]))

theorem lt_62 (l : List N.Item) (hl : l.length ≤ 10) (S : Nat) (hS : S < 2 ^ (2 * l.length + 1)) : S < 4611686018427387904 := by
  have : 2 ^ (2 * l.length + 1) ≤ 2 ^ 21 := Nat.pow_le_pow_right (by omega) (by omega)
  omega

set_option maxHeartbeats 4000000 in
theorem run_any (A : Nat → Addr) (B : Nat) (st : Bool) (v : Value) (l : List N.Item) (cv : Value) (cs : List Int) (w : World) (hv : ItemsAt w v l) (hz : l.length ≤ 16777216) (hc : IntsAt w cv cs) (hcz : cs.length ≤ 1000) (hE : E A B w) (hB : B ≤ w.heap.size) :
    Calls Tryd.prog 46 #[.agg #[.bool st, v], cv] w (runPost l st cs w) := by
  have hb0 := alloc_below w (.cells #[.bool st, v] 44)
  have HC := Box.mk hc
  obtain ⟨ca, ccap, rfl⟩ := hc.slice
  clear hc
  cases hr : rightB l with
  | true =>
    have HO := Box.mk (open_ok A B st v l _ (hv.below hb0) hz (hE.below (hb0.mono hB)) (Nat.le_trans hB hb0.size) ⟨hr⟩)
    have HB0 := Box.mk hb0
    have hl := right_len hr
    have HRT := Box.mk hr
    obtain ⟨i0, hi, hz0, hz1, hz2⟩ := info_parts i64_info
    clear hb0 hE hv hr
    go_enter Tryd.func46, Tryd.ntmps46
    go_wp2_with fail
    refine HO.out.mono ?_; rintro e w1 ⟨hb1, r, m, rfl, hrn⟩
    have HB1 := Box.mk (HB0.out.trans (hb1.mono HB0.out.size))
    have HR1 := Box.mk hrn
    have HCL := Box.mk (closed_any r m st v l (w1.alloc (.cells #[.int .i64 0] 3)) (hrn.below (alloc_below _ _)) w1.heap.size 0 (by simp) (by omega))
    clear hb1 hrn
    go_wp2_with fail
    refine HCL.out.mono ?_; rintro e w2 ⟨rfl, hb2⟩
    have HR2 := Box.mk ((HR1.out.below (alloc_below _ _)).below hb2)
    have HB2 := Box.mk (show Below w.heap.size w w2 from HB1.out.trans (((alloc_below w1 _).trans (hb2.mono (alloc_below w1 _).size)).mono HB1.out.size))
    clear hb2
    go_wp2_with fail
    go_loopw [8, 9, 28] (fun s o i wr => ∃ k : Nat, k ≤ cs.length ∧ i = .int .i64 k ∧ s = .int .i64 (N.at' l st (N.clo l 0) cs k) ∧ Box (wr.ownsRow w2.heap.size 2 1 o (k + 1) ((N.runs l st (N.clo l 0) cs k).map natV)) ∧ Box (Below w2.heap.size w2 wr))
      (fun _ _ i _ => cs.length - (intOf i).toNat)
    case atStart =>
      refine ⟨0, by omega, rfl, by rw [N.at_zero], ⟨?_⟩, ⟨alloc_below _ _⟩⟩
      rw [N.runs_zero]
      have := World.ownsRow_lit (base := w2.heap.size) (e := 2) (size := 1) w2 #[.int .i64 (N.clo l 0)] 1 (Nat.le_refl _) (by unfold maxLen; omega) rfl
      simpa [natV] using this
    case round =>
      obtain ⟨k, hk, rfl, rfl, ho, hb⟩ := hrel
      have hrn := Box.mk (HR2.out.below hb.out)
      by_cases hlt : k < cs.length
      · obtain ⟨x, hx⟩ : ∃ x, cs[k]? = some x := ⟨_, List.getElem?_eq_getElem hlt⟩
        obtain ⟨g, off, cap2, hg1, hg2, hg3, hg4, hg5⟩ := (HC.out.below (HB2.out.trans (hb.out.mono HB2.out.size))).get (by rintro rfl; simp at hlt)
        obtain ⟨rfl, rfl⟩ : ca = some ⟨g, off, none⟩ ∧ ccap = cap2 := by injection hg1 with h1 h2 h3; exact ⟨h1, h3⟩
        have hcx := hg5 k x hx
        have HSU := Box.mk (N.at_succ l st (N.clo l 0) cs k x hx)
        have HSL := Box.mk (lt_62 l hl _ (N.at_lt l st (N.clo l 0) cs (N.clo_lt l 0 (by omega)) k hk))
        have HST := Box.mk (step_any r m st v l wr hrn.out _ HSL.out x)
        have HRS := Box.mk (N.runs_succ l st (N.clo l 0) cs k)
        unfold maxLen at hg3
        clear hx hg1 hg5
        obtain ⟨og, oc, rfl⟩ := ownsRow_succ ho.out
        go_wp2_with fail
        refine HST.out.mono ?_; rintro e w3 ⟨rfl, hb3⟩; rw [← HSU.out]
        have HO3 := Box.mk (own_below ho.out hb3)
        have HB3 := Box.mk (show Below w2.heap.size w2 w3 from hb.out.trans (hb3.mono hb.out.size))
        clear hb3
        go_wp2_with (at_builtin; refine wpList_append_own _ rfl _ _ 26 rfl w2.heap.size 2 i0 (.int .i64 0) 1 8 Tryd.underlying26 hi hz0 hz1 hz2 rfl (by decide) _ _ _ rfl (HO3.out.alloc _) ⟨w3.heap.size, 0, none⟩ 1 1 [.int .i64 (N.at' l st (N.clo l 0) cs (k + 1))] rfl rfl (cell_one_new _ _ _) (by simp [Value.oneCell']) (by unfold maxLen; omega) (by omega) (by have := HB3.out.size; simp; omega) ?_; intro v' w4 hown' hgrow _; obtain ⟨g', cap', rfl⟩ := ownsRow_succ hown')
        have HOW := Box.mk (show w4.ownsRow w2.heap.size 2 1 (.slice (some ⟨g', 0, none⟩) (k + 1 + 1) cap') (k + 1 + 1) ((N.runs l st (N.clo l 0) cs (k + 1)).map natV) by rw [HRS.out, List.map_append]; exact hown')
        have HB4 := Box.mk (show Below w2.heap.size w2 w4 from (HB3.out.alloc HB3.out.size _).grown hgrow (by have := HB3.out.size; simp; omega) (fun q hq => (HO3.out.lt q hq).1))
        clear hown' hgrow
        go_wp2_with fail
        go_roundw
        case rel => exact ⟨k + 1, hlt, by go_num, rfl, HOW, HB4⟩
        case measure => simp [intOf]; omega
      · obtain rfl : k = cs.length := by omega
        obtain ⟨og, oc, rfl⟩ := ownsRow_succ ho.out
        go_wp2_with fail
        go_ret2
        refine ⟨HB2.out.trans (hb.out.mono HB2.out.size), fun _ => ⟨_, rfl, ?_⟩, fun h => ?_⟩
        · refine IntsAt.of_own (n := cs.length + 1) (T := 2) (base := w2.heap.size) ?_ (by simp [setsOf, N.runs_len])
          unfold setsOf
          rw [List.map_map]
          exact ho.out
        · rw [HRT.out] at h; cases h
  | false =>
    have HO := Box.mk (open_bad A B st v l _ (hv.below hb0) hz (hE.below (hb0.mono hB)) (Nat.le_trans hB hb0.size) ⟨hr⟩ (.slice none 0 0))
    have HB0 := Box.mk hb0
    have HE := Box.mk hE
    have HRT := Box.mk hr
    clear hb0 hE hv hr
    go_enter Tryd.func46, Tryd.ntmps46
    go_wp2_with fail
    refine HO.out.mono ?_; rintro e w1 ⟨hb1, rfl⟩
    have HT := Box.mk (told_any A B w1 ((HE.out.below (HB0.out.mono hB)).below (hb1.mono (Nat.le_trans hB HB0.out.size))))
    have HB1 := Box.mk hb1
    unfold errV at HT ⊢
    clear hb1
    go_wp2_with fail
    refine HT.out.mono ?_; rintro e w2 ⟨rfl, rfl⟩
    go_wp2_with fail
    go_ret2
    exact ⟨HB0.out.trans (HB1.out.mono HB0.out.size), fun h => (by rw [HRT.out] at h; cases h), fun _ => rfl⟩

/-- a value that reads as these answers -/
def BoolsAt (w : World) (v : Value) (xs : List Bool) : Prop :=
  (v = .slice none 0 0 ∧ xs = []) ∨ ∃ b off sp cap, v = .slice (some ⟨b, off, sp⟩) xs.length cap ∧ xs.length ≤ cap ∧ cap ≤ maxLen ∧ (xs ≠ [] → sp = none ∧ b < w.heap.size ∧ ∀ i x, xs[i]? = some x → w.cell? ⟨b, off + i, none⟩ = some (.bool x))
theorem BoolsAt.below {w w' : World} {v : Value} {xs : List Bool} (h : BoolsAt w v xs) (hb : Below w.heap.size w w') : BoolsAt w' v xs := by
  rcases h with h | ⟨b, off, sp, cap, h1, h2, h3, h4⟩
  · exact .inl h
  · exact .inr ⟨b, off, sp, cap, h1, h2, h3, fun hn => ⟨(h4 hn).1, Nat.lt_of_lt_of_le (h4 hn).2.1 hb.size, fun i x hx => (hb.cell (p := ⟨b, off + i, none⟩) (h4 hn).2.1).trans ((h4 hn).2.2 i x hx)⟩⟩
theorem BoolsAt.get {w : World} {v : Value} {xs : List Bool} (h : BoolsAt w v xs) (hn : xs ≠ []) :
    ∃ b off cap, v = .slice (some ⟨b, off, none⟩) xs.length cap ∧ xs.length ≤ cap ∧ cap ≤ maxLen ∧ b < w.heap.size ∧ ∀ i x, xs[i]? = some x → w.cell? ⟨b, off + i, none⟩ = some (.bool x) := by
  rcases h with ⟨_, h⟩ | ⟨b, off, sp, cap, h1, h2, h3, h4⟩
  · exact absurd h hn
  · obtain ⟨rfl, h5, h6⟩ := h4 hn
    exact ⟨b, off, cap, h1, h2, h3, h5, h6⟩
theorem BoolsAt.of_own {w : World} {base n : Nat} {T : TypeId} {v : Value} {xs : List Bool} (h : w.ownsRow base T 1 v n (xs.map Value.bool)) (hn : n = xs.length) : BoolsAt w v xs := by
  subst hn
  have hl := h.lt
  rcases h.2 with ⟨h1, h2⟩ | ⟨g, cap, cur, rfl, h2, h3, h4, h5, h6, h7⟩
  · exact .inl ⟨h1, List.eq_nil_of_length_eq_zero h2⟩
  · refine .inr ⟨g, 0, none, cap, rfl, h4, h5, fun _ => ⟨rfl, (hl g rfl).2, fun i x hx => ?_⟩⟩
    have := h.cells (g := g) rfl i (.bool x) (by rw [List.getElem?_map, hx]; rfl)
    rw [show (⟨g, 0 + i, none⟩ : Addr) = (⟨g, 0, none⟩ : Addr).add i by unfold Addr.add; by_cases h0 : i = 0 <;> simp [h0]]
    exact this
theorem BoolsAt.slice {w : World} {v : Value} {xs : List Bool} (h : BoolsAt w v xs) : ∃ a cap, v = .slice a xs.length cap := by
  rcases h with ⟨rfl, rfl⟩ | ⟨b, off, sp, cap, rfl, _⟩
  · exact ⟨_, _, rfl⟩
  · exact ⟨_, _, rfl⟩
theorem ownsRow_shape {w : World} {base : Nat} {e : TypeId} {size : Nat} {v : Value} {n : Nat} {xs : List Value} (h : w.ownsRow base e size v n xs) : ∃ a c, v = .slice a n c := by
  rcases h.2 with ⟨rfl, rfl⟩ | ⟨g, cap, cur, rfl, _⟩
  · exact ⟨_, _, rfl⟩
  · exact ⟨_, _, rfl⟩

def fitsOf (l : List N.Item) (st : Bool) (cs : List Int) : List Bool := (setsOf l st cs).map (doneV l)
def fitsPost (l : List N.Item) (st : Bool) (cs : List Int) (w : World) (e : Ending) (w' : World) : Prop :=
  Below w.heap.size w w' ∧ (rightB l = true → ∃ v, e = .returned (.tuple #[v, .int .i64 0]) ∧ BoolsAt w' v (fitsOf l st cs)) ∧ (rightB l = false → e = .returned (.tuple #[.slice none 0 0, .int .i64 80]))
theorem setsOf_len (l : List N.Item) (st : Bool) (cs : List Int) : (setsOf l st cs).length = cs.length + 1 := by simp [setsOf, N.runs_len]
theorem map_snoc {α β : Type} (f : α → β) (xs : List α) (k : Nat) (x : α) (h : xs[k]? = some x) : (xs.take (k + 1)).map f = (xs.take k).map f ++ [f x] := by
  rw [List.take_add_one, h, List.map_append]; rfl

set_option maxHeartbeats 4000000 in
theorem fits_any (A : Nat → Addr) (B : Nat) (st : Bool) (v : Value) (l : List N.Item) (cv : Value) (cs : List Int) (w : World) (hv : ItemsAt w v l) (hz : l.length ≤ 16777216) (hc : IntsAt w cv cs) (hcz : cs.length ≤ 1000) (hE : E A B w) (hB : B ≤ w.heap.size) :
    Calls Tryd.prog 23 #[.agg #[.bool st, v], cv] w (fitsPost l st cs w) := by
  have hb0 := alloc_below w (.cells #[.bool st, v] 44)
  have HRUN := Box.mk (run_any A B st v l cv cs _ (hv.below hb0) hz (hc.below hb0) hcz (hE.below (hb0.mono hB)) (Nat.le_trans hB hb0.size))
  have HBK := Box.mk (Blk.new w 44 #[.bool st, v])
  have HB0 := Box.mk hb0
  have HE := Box.mk hE
  have HV := Box.mk hv
  obtain ⟨ca, ccap, rfl⟩ := hc.slice
  obtain ⟨i0, hi, hz0, hz1, hz2⟩ := info_parts bool_info
  clear hc hb0 hE hv
  cases hr : rightB l with
  | true =>
    have HRT := Box.mk hr
    clear hr
    go_enter Tryd.func23, Tryd.ntmps23
    go_wp2_with fail
    refine HRUN.out.mono ?_; rintro e w1 ⟨hb1, hyes, -⟩
    obtain ⟨rv, rfl, hri⟩ := hyes HRT.out
    have hzl := setsOf_len l st cs
    obtain ⟨xs, hxs⟩ : ∃ xs, xs = setsOf l st cs := ⟨_, rfl⟩
    rw [← hxs] at hri hzl
    have HX := Box.mk hxs
    have HB1 := Box.mk (HB0.out.trans (hb1.mono HB0.out.size))
    have HBK1 := Box.mk (HBK.out.below hb1 HBK.out.lt)
    have HI := Box.mk hri
    have hxz : xs.length ≤ 1001 := by omega
    have HZL := Box.mk hzl
    obtain ⟨ra, rcap, rfl⟩ := hri.slice
    clear hb1 hyes hri hxs hzl
    go_wp2_with fail
    go_loopw [8, 22] (fun o i wr => ∃ k : Nat, k ≤ xs.length ∧ i = .int .i64 k ∧ Box (wr.ownsRow w1.heap.size 4 1 o k ((xs.take k).map fun x => Value.bool (doneV l x))) ∧ Box (Below w1.heap.size w1 wr))
      (fun _ i _ => xs.length - (intOf i).toNat)
    case atStart => exact ⟨0, by omega, rfl, ⟨World.ownsRow_nil _ _ _ _⟩, ⟨Below.refl _ _⟩⟩
    case round =>
      obtain ⟨k, hk, rfl, ho, hb⟩ := hrel
      have hbk := HBK1.out.below hb.out HBK1.out.lt
      have c0 : wr.cell? ⟨w.heap.size, 0, none⟩ = some (.bool st) := (hbk.cell 0).trans rfl
      have c1 : wr.cell? ⟨w.heap.size, 1, none⟩ = some v := (hbk.cell 1).trans rfl
      clear hbk
      by_cases hlt : k < xs.length
      · obtain ⟨x, hx⟩ : ∃ x, xs[k]? = some x := ⟨_, List.getElem?_eq_getElem hlt⟩
        obtain ⟨g, off, cap2, hg1, hg2, hg3, hg4, hg5⟩ := (HI.out.below hb.out).get (by rintro rfl; simp at hlt)
        obtain ⟨rfl, rfl⟩ : ra = some ⟨g, off, none⟩ ∧ rcap = cap2 := by injection hg1 with h1 h2 h3; exact ⟨h1, h3⟩
        have hcx := hg5 k x hx
        have HSN := Box.mk (map_snoc (fun x => Value.bool (doneV l x)) xs k x hx)
        have hbw := HB1.out.trans (hb.out.mono HB1.out.size)
        have HD := Box.mk (pdone_any A B st v l x wr (HV.out.below hbw) hz (HE.out.below (hbw.mono hB)) (Nat.le_trans hB hbw.size))
        unfold maxLen at hg3
        clear hx hg1 hg5 hbw
        obtain ⟨oa, oc, rfl⟩ := ownsRow_shape ho.out
        go_wp2_with fail
        refine HD.out.mono ?_; rintro e w3 ⟨rfl, hb3⟩
        have HO3 := Box.mk (own_below ho.out hb3)
        have HB3 := Box.mk (show Below w1.heap.size w1 w3 from hb.out.trans (hb3.mono hb.out.size))
        clear hb3
        go_wp2_with (at_builtin; refine wpList_append_own _ rfl _ _ 48 rfl w1.heap.size 4 i0 (.bool false) 1 1 Tryd.underlying48 hi hz0 hz1 hz2 rfl (by decide) _ _ _ rfl (HO3.out.alloc _) ⟨w3.heap.size, 0, none⟩ 1 1 [.bool (doneV l x)] rfl rfl (cell_one_new _ _ _) (by simp [Value.oneCell']) (by unfold maxLen; omega) (by omega) (by have := HB3.out.size; simp; omega) ?_; intro v' w4 hown' hgrow _; obtain ⟨g', cap', rfl⟩ := ownsRow_succ hown')
        have HOW := Box.mk (show w4.ownsRow w1.heap.size 4 1 (.slice (some ⟨g', 0, none⟩) (k + 1) cap') (k + 1) ((xs.take (k + 1)).map fun x => Value.bool (doneV l x)) by rw [HSN.out]; exact hown')
        have HB4 := Box.mk (show Below w1.heap.size w1 w4 from (HB3.out.alloc HB3.out.size _).grown hgrow (by have := HB3.out.size; simp; omega) (fun q hq => (HO3.out.lt q hq).1))
        clear hown' hgrow
        go_wp2_with fail
        go_roundw
        case rel => exact ⟨k + 1, hlt, by go_num, HOW, HB4⟩
        case measure => simp [intOf]; omega
      · obtain rfl : k = xs.length := by omega
        obtain ⟨oa, oc, rfl⟩ := ownsRow_shape ho.out
        go_wp2_with fail
        go_ret2
        refine ⟨HB1.out.trans (hb.out.mono HB1.out.size), fun _ => ⟨_, rfl, ?_⟩, fun h => ?_⟩
        · refine BoolsAt.of_own (n := xs.length) (T := 4) (base := w1.heap.size) ?_ (by rw [HX.out]; simp [fitsOf])
          have := ho.out
          rw [List.take_length] at this
          unfold fitsOf
          rw [← HX.out, List.map_map]
          exact this
        · rw [HRT.out] at h; cases h
  | false =>
    have HRT := Box.mk hr
    clear hr
    go_enter Tryd.func23, Tryd.ntmps23
    go_wp2_with fail
    refine HRUN.out.mono ?_; rintro e w1 ⟨hb1, -, hno⟩
    obtain rfl := hno HRT.out
    have HB1 := Box.mk (HB0.out.trans (hb1.mono HB0.out.size))
    clear hb1 hno
    go_wp2_with fail
    go_ret2
    exact ⟨HB1.out, fun h => (by rw [HRT.out] at h; cases h), fun _ => rfl⟩
end Go.Proofs.YtjemdepcaaadiaaDoor

/- SETS OF STATES SIDE BY SIDE, AS ARRAYS; the builder that lies in memory; something of each rule. -/
namespace Go.Proofs.YtjemdepcaaadiaaDoor
open Go.RowKit

def keyL (s : D.Sets) : List Value := (s ++ List.replicate (40 - s.length) 0).map natV
/-- sets, one of each rule, as an array: zeros behind them -/
def keyC (s : D.Sets) : Array Value := (keyL s).toArray
theorem keyL_len (s : D.Sets) (h : s.length ≤ 40) : (keyL s).length = 40 := by unfold keyL; rw [List.length_map, List.length_append, List.length_replicate]; omega
theorem keyC_size (s : D.Sets) (h : s.length ≤ 40) : (keyC s).size = 40 := by unfold keyC; rw [List.size_toArray, keyL_len s h]
theorem keyC_get (s : D.Sets) (i x : Nat) (h : s[i]? = some x) : (keyC s)[i]? = some (.int .i64 x) := by
  unfold keyC keyL
  have hi := (List.getElem?_eq_some_iff.1 h).1
  rw [List.getElem?_toArray, List.getElem?_map, List.getElem?_append_left hi, h]
  rfl
theorem keyC_set (s : D.Sets) (x : Nat) (h : s.length < 40) : (keyC s).setIfInBounds s.length (.int .i64 x) = keyC (s ++ [x]) := by
  unfold keyC keyL
  rw [List.setIfInBounds_toArray]
  congr 1
  obtain ⟨d, hd⟩ : ∃ d, 40 - s.length = d + 1 := ⟨40 - s.length - 1, by omega⟩
  have hd2 : 40 - (s ++ [x]).length = d := by simp; omega
  rw [hd, hd2, List.map_append, List.map_append, List.map_append, List.replicate_succ, List.map_cons, List.append_assoc, List.set_append, if_neg (by simp), List.length_map, Nat.sub_self]
  rfl
theorem keyC_one (s : D.Sets) : (keyC s).all (·.oneCell') = true := by
  rw [Array.all_eq_true_iff_forall_mem]
  intro v hv
  unfold keyC keyL at hv
  rw [List.mem_toArray] at hv
  obtain ⟨x, -, rfl⟩ := List.mem_map.1 hv
  rfl
theorem keyInfo : (Tryd.prog.info? 101).map (·.size) = some 40 := by kernel_rfl
theorem load_key {W : World} {b : Nat} {s : D.Sets} (hs : s.length ≤ 40) (h : Blk W b 101 (keyC s)) : (loadVar 101 ⟨b, 0, none⟩).run Tryd.prog W = .ok (.agg (keyC s)) W :=
  run_loadVar_row W b _ _ (keyC s) (0, 0) _ h Tryd.underlying101 rfl (by rw [keyInfo, keyC_size s hs])
theorem store_key {W : World} {b : Nat} {s s' : D.Sets} (hs : s.length ≤ 40) (hs' : s'.length ≤ 40) (h : Blk W b 101 (keyC s)) : (storeVar 101 ⟨b, 0, none⟩ (.agg (keyC s'))).run Tryd.prog W = .ok () (W.setRow b (keyC s')) :=
  run_storeVar_row W b _ _ (keyC s) (keyC s') h (by rw [keyInfo, keyC_size s' hs']) (by rw [keyC_size s hs, keyC_size s' hs']) (keyC_one s')

theorem zero40 : (#[.int .i64 0, .int .i64 0, .int .i64 0, .int .i64 0, .int .i64 0, .int .i64 0, .int .i64 0, .int .i64 0, .int .i64 0, .int .i64 0, .int .i64 0, .int .i64 0, .int .i64 0, .int .i64 0, .int .i64 0, .int .i64 0, .int .i64 0, .int .i64 0, .int .i64 0, .int .i64 0, .int .i64 0, .int .i64 0, .int .i64 0, .int .i64 0, .int .i64 0, .int .i64 0, .int .i64 0, .int .i64 0, .int .i64 0, .int .i64 0, .int .i64 0, .int .i64 0, .int .i64 0, .int .i64 0, .int .i64 0, .int .i64 0, .int .i64 0, .int .i64 0, .int .i64 0, .int .i64 0] : Array Value) = keyC [] := rfl
theorem below_setRow {B : Nat} {a w : World} (h : Below B a w) {g : Nat} (hg : B ≤ g) (cs : Array Value) : Below B a (w.setRow g cs) :=
  ⟨h.os, h.tape, h.output, by simpa [World.setRow] using h.size, fun i hi => (setRow_other w g i cs (by omega)).trans (h.block i hi)⟩
theorem Blk.setRow {w : World} {g : Nat} {t : TypeId} {cs : Array Value} (h : Blk w g t cs) (cs' : Array Value) : Blk (w.setRow g cs') g t cs' := setRow_heap w g cs cs' t (0, 0) h
theorem Blk.setRow_far {w : World} {g k : Nat} {t : TypeId} {cs : Array Value} (h : Blk w g t cs) (hk : g ≠ k) (cs' : Array Value) : Blk (w.setRow k cs') g t cs := (setRow_other w k g cs' hk).trans h
/-- the builder's block -/
def Bb (w : World) (b : Nat) (nv fv rv : Value) (n m : Nat) (tv : Value) : Prop := Blk w b 66 #[nv, fv, rv, .int .i64 n, .map (some m), tv]

set_option maxHeartbeats 4000000 in
theorem each_any (b : Nat) (nv fv rv : Value) (n m : Nat) (tv : Value) (rs : List D.Rule) (g : Nat) (lb : Array Value) (f : Nat → Nat) (w : World) (hb : Bb w b nv fv rv n m tv) (hr : RulesAt w rv rs) (hl : rs.length ≤ 40)
    (eg : ∀ args w, (callFunc g args).run Tryd.prog w = .ok (.enter g args) w)
    (hc : ∀ (i : Nat) (x : D.Rule) (vl vr : Value) (W : World), rs[i]? = some x → Below w.heap.size w W → ItemsAt W vl x.1.2 → ItemsAt W vr x.2.1.2 → Calls Tryd.prog g (#[.int .i64 (i : Int), ruleV x vl vr] ++ lb) W fun e W' => e = .returned (.int .i64 (f i)) ∧ Below W.heap.size W W') :
    Calls Tryd.prog 61 #[.pointer (some ⟨b, 0, none⟩), .func (.func g) #[] lb] w fun e w' => e = .returned (.agg (keyC ((List.range rs.length).map f))) ∧ Below w.heap.size w w' := by
  have HC := Box.mk hc
  clear hc
  have HR := Box.mk hr
  have HB := Box.mk hb
  obtain ⟨ao, cap, rfl⟩ := hr.slice
  have c1 : w.cell? ⟨b, 2, none⟩ = some (.slice ao rs.length cap) := (hb.cell 2).trans rfl
  have l0 := hb.lt
  clear hr hb
  go_enter Tryd.func61, Tryd.ntmps61
  go_wp2
  rw [zero40]
  have HO0 := Box.mk (show Blk ((w.alloc (.cells (keyC []) 101)).alloc (.cells (keyC []) 101)) w.heap.size 101 (keyC []) from (Blk.new w _ _).alloc _)
  have HO1 := Box.mk (show Blk ((w.alloc (.cells (keyC []) 101)).alloc (.cells (keyC []) 101)) (w.heap.size + 1) 101 (keyC []) by
    have := Blk.new (w.alloc (.cells (keyC []) 101)) 101 (keyC [])
    simpa using this)
  have HW0 := Box.mk (show Below w.heap.size w ((w.alloc (.cells (keyC []) 101)).alloc (.cells (keyC []) 101)) from ((Below.refl _ _).alloc (Nat.le_refl _) _).alloc (by simp) _)
  clear c1
  go_loopw [13] (fun i wr => ∃ k : Nat, k ≤ rs.length ∧ i = .int .i64 k ∧ Box (Blk wr w.heap.size 101 (keyC [])) ∧ Box (Blk wr (w.heap.size + 1) 101 (keyC ((List.range k).map f))) ∧ Box (Below w.heap.size w wr)) (fun i _ => rs.length - (intOf i).toNat)
  case atStart => exact ⟨0, by omega, rfl, HO0, HO1, HW0⟩
  case round =>
    obtain ⟨k, hk, rfl, ho0, ho1, hb⟩ := hrel
    clear HO0 HO1 HW0
    by_cases hlt : k < rs.length
    · obtain ⟨x, hx⟩ : ∃ x, rs[k]? = some x := ⟨_, List.getElem?_eq_getElem hlt⟩
      have HX := Box.mk hx
      obtain ⟨bg, off, cap2, hg1, hg2, hg3, hg4, hg5⟩ := (HR.out.below hb.out).get (by rintro rfl; simp at hlt)
      obtain ⟨rfl, rfl⟩ : ao = some ⟨bg, off, none⟩ ∧ cap = cap2 := by injection hg1 with h1 h2 h3; exact ⟨h1, h3⟩
      obtain ⟨vl, vr, hc0, hc1, hc2, hc3, hc4, hil, hir⟩ := hg5 k x hx
      have HCC := Box.mk (fun W (h : Below wr.heap.size wr W) => HC.out k x vl vr W HX.out (hb.out.trans (h.mono hb.out.size)) (hil.below h) (hir.below h))
      unfold maxLen at hg3
      obtain ⟨al, cl, rfl⟩ := hil.slice
      obtain ⟨ar, cr, rfl⟩ := hir.slice
      clear hx hg1 hg5 hil hir
      unfold ruleV at HCC
      obtain ⟨⟨stl, il⟩, ⟨str, ir⟩, br⟩ := x
      simp only at HCC hc0 hc1 hc2 hc3 hc4
      have hb40 : k < 40 := by omega
      have HNX := Box.mk (show ∀ w1 : World, Below (wr.heap.size + 1) (wr.alloc (.cells #[.bool stl, .slice al il.length cl, .bool str, .slice ar ir.length cr, .bool br] 46)) w1 → Box (Blk w1 w.heap.size 101 (keyC [])) ∧ Box (Blk w1 (w.heap.size + 1) 101 (keyC ((List.range k).map f))) ∧ Box (Below w.heap.size w w1) from fun w1 h => by
        have h' : Below wr.heap.size wr w1 := ((Below.refl _ _).alloc (Nat.le_refl _) _).trans (h.mono (by omega))
        exact ⟨⟨ho0.out.below h' ho0.out.lt⟩, ⟨ho1.out.below h' ho1.out.lt⟩, ⟨hb.out.trans (h'.mono hb.out.size)⟩⟩)
      have HST := Box.mk (show ∀ w1 : World, Blk w1 (w.heap.size + 1) 101 (keyC ((List.range k).map f)) → Blk (w1.setCell ⟨w.heap.size + 1, k, none⟩ (.int .i64 (f k))) (w.heap.size + 1) 101 (keyC ((List.range (k + 1)).map f)) from fun w1 h => by
        have := h.set_ k (.int .i64 (f k))
        have e := keyC_set ((List.range k).map f) (f k) (by simp; omega)
        rw [show ((List.range k).map f).length = k by simp] at e
        rw [e] at this
        rw [List.range_succ, List.map_append]
        exact this)
      have hb40 : k < 40 := by omega
      go_wp2_with fail
      refine (HCC.out _ ((Below.refl _ _).alloc (Nat.le_refl _) _)).mono ?_; rintro e w1 ⟨rfl, hb1⟩
      obtain ⟨h0, h1, hbw⟩ := HNX.out w1 (by simpa using hb1)
      have hc1' : ∃ v, w1.cell? ⟨w.heap.size + 1, k, none⟩ = some v := by
        have := h1.out.cell k
        rw [Array.getElem?_eq_getElem (by rw [keyC_size _ (by simp; omega)]; omega)] at this
        exact ⟨_, this⟩
      obtain ⟨vv, hvv⟩ := hc1'
      have hff := h1.out.frozen k
      have hHB := Box.mk hb1
      clear hb1
      go_wp2_with fail
      go_roundw
      case rel => exact ⟨k + 1, hlt, by go_num, ⟨h0.out.far (by simp) _⟩, ⟨HST.out _ h1.out⟩, ⟨hbw.out.setCell (by simp) _⟩⟩
      case measure => simp [intOf]; omega
    · obtain rfl : k = rs.length := by omega
      have hs40 : ((List.range rs.length).map f).length ≤ 40 := by simp; omega
      have HI := Box.mk (show (Tryd.prog.info? 101).map (·.size) = some (keyC ((List.range rs.length).map f)).size by rw [keyInfo, keyC_size _ hs40])
      have HSZ := Box.mk (show (keyC []).size = (keyC ((List.range rs.length).map f)).size by rw [keyC_size _ hs40]; rfl)
      clear hs40
      go_wp2_with (first
        | (refine wpList_load_row rfl 101 _ rfl (w.heap.size + 1) rfl 101 (keyC ((List.range rs.length).map f)) (0, 0) _ ho1.out Tryd.underlying101 rfl HI.out ?_)
        | (refine wpList_store_row rfl 101 _ _ rfl w.heap.size (keyC ((List.range rs.length).map f)) rfl rfl 101 (keyC []) ho0.out HI.out HSZ.out (keyC_one _) ?_))
      exact bodyPost_ret (v := .agg (keyC ((List.range rs.length).map f))) (results_cell_row Tryd.results61 _ _ w.heap.size 101 _ (0, 0) _ rfl (ho0.out.setRow _) Tryd.underlying101 rfl HI.out) rfl ⟨rfl, below_setRow hb.out (Nat.le_refl _) _⟩
end Go.Proofs.YtjemdepcaaadiaaDoor
