/-
  Texts of this claim, one behind the other: DfY, DfZ, Df1, SgP, Df12, SgE, SgM, SgF, Df2, Df3, Df4, Df5, Df10.
-/
import Derived.Test.YtbpcipobdokcfaaGreatDoorH6
import Derived.Test.YtbpcipobdokcfaaGreatDoorH1
import Derived.Test.YtbpcipobdokcfaaGreatDoorH3
import Derived.Test.YtbpcipobdokcfaaGreatDoorH2
import Derived.Laws.IdiomRangeMap
import Derived.RegionTactic
import Derived.Test.YtbpcipobdokcfaaGreatDoorH4

/- WHICH MACHINES ARE RIGHT: the program's answer. -/
namespace Go.Proofs.YtbpcipobdokcfaaGreatDoor
open Go.RowKit Go.Shelf
attribute [local go_sem] Oper.semAt_some

def toR (L : Nat) (t : Int) : Bool := decide (0 ≤ t) && decide (t < L)
def rowR (n : Int) (M : D.Mach) (i : Nat) : Bool := decide (((M.1.getD i []).length : Int) = n + 1) && (M.1.getD i []).all (toR M.1.length) && decide (0 ≤ M.2.getD i 0) && decide (M.2.getD i 0 < 1099511627776)
def machR (n : Int) (M : D.Mach) : Bool := decide (1 ≤ n) && decide (n ≤ 32) && decide (1 ≤ M.1.length) && decide (M.1.length ≤ 300) && decide (M.2.length = M.1.length) && (List.range M.1.length).all (rowR n M)

theorem other12_any (t : Int) (bm : Nat) (na : Option Addr) (L nc : Nat) (w : World) (hc : w.cell? ⟨bm, 0, none⟩ = some (.slice na L nc)) (_hlt : bm < w.heap.size) :
    Calls Tryz.prog 55 #[.int .i64 t, .pointer (some ⟨bm, 0, none⟩)] w fun e w' => e = .returned (.bool (!toR L t)) ∧ w = w' := by
  unfold toR
  go_enter Tryz.func55, Tryz.ntmps55
  rcases Int.lt_or_le t 0 with h | h
  · go_wp2_with fail
    go_ret
    exact ⟨ret_bool (by simp; omega), rfl⟩
  · rcases Int.lt_or_le t L with h2 | h2
    · go_wp2_with fail
      go_ret
      exact ⟨ret_bool (by simp [h, h2]), rfl⟩
    · go_wp2_with fail
      go_ret
      exact ⟨ret_bool (by simp <;> omega), rfl⟩

set_option maxHeartbeats 2000000 in
theorem indexI_any (v : Value) (xs : List Int) (bm : Nat) (na : Option Addr) (L nc : Nat) (w : World) (hv : IntsAt w v xs) (hz : xs.length ≤ 16777216) (hc : w.cell? ⟨bm, 0, none⟩ = some (.slice na L nc)) (hlt : bm < w.heap.size) :
    Calls Tryz.prog 84 #[v, .func (.func 55) #[] #[.pointer (some ⟨bm, 0, none⟩)]] w fun e w' => (∃ i : Int, e = .returned (.int .i64 i) ∧ decide (0 ≤ i) = !xs.all (toR L)) ∧ w = w' := by
  have HVB := Box.mk hv
  obtain ⟨ao, cap, rfl⟩ := hv.slice
  have HO := Box.mk (fun t => other12_any t bm na L nc w hc hlt)
  clear hv hc
  go_enter Tryz.func84, Tryz.ntmps84
  go_wp2
  go_loop [8] (fun i => ∃ k : Nat, k ≤ xs.length ∧ i = .int .i64 k ∧ Box ((xs.take k).all (toR L) = true)) (fun i => xs.length - (intOf i).toNat)
  case atStart => exact ⟨0, by omega, rfl, ⟨rfl⟩⟩
  case round =>
    obtain ⟨k, hk, rfl, ha⟩ := hrel
    by_cases hlt' : k < xs.length
    · obtain ⟨x, hx⟩ : ∃ x, xs[k]? = some x := ⟨_, List.getElem?_eq_getElem hlt'⟩
      obtain ⟨g, off, cap2, hg1, hg2, hg3, hg4, hg5⟩ := HVB.out.get (by rintro rfl; simp at hlt')
      obtain ⟨rfl, rfl⟩ : ao = some ⟨g, off, none⟩ ∧ cap = cap2 := by injection hg1 with h1 h2 h3; exact ⟨h1, h3⟩
      have hcx := hg5 k x hx
      have HX := Box.mk hx
      unfold maxLen at hg3
      clear hx hg1 hg5
      cases hi : toR L x with
      | true =>
        have HT := Box.mk (show (xs.take (k + 1)).all (toR L) = true by rw [List.take_add_one, HX.out, List.all_append, ha.out]; simp [hi])
        have HI := Box.mk (show (!toR L x) = false by rw [hi]; rfl)
        clear hi
        go_wp2_with fail
        refine (HO.out x).mono ?_; rintro e w1 ⟨rfl, rfl⟩; rw [HI.out]
        go_wp2_with fail
        go_round
        case rel => exact ⟨k + 1, hlt', by go_num, HT⟩
        case measure => simp [intOf]; omega
      | false =>
        have HT := Box.mk (show xs.all (toR L) = false by
          rw [Bool.eq_false_iff]
          intro h
          rw [List.all_eq_true] at h
          rw [h x (List.mem_of_getElem? HX.out)] at hi
          cases hi)
        have HI := Box.mk (show (!toR L x) = true by rw [hi]; rfl)
        clear hi
        go_wp2_with fail
        refine (HO.out x).mono ?_; rintro e w1 ⟨rfl, rfl⟩; rw [HI.out]
        go_wp2_with fail
        go_ret
        exact ⟨⟨k, rfl, by rw [HT.out]; simp⟩, rfl⟩
    · have HT := Box.mk (show xs.all (toR L) = true by have := ha.out; rwa [List.take_of_length_le (by omega)] at this)
      go_wp2_with fail
      go_ret
      exact ⟨⟨-1, rfl, by rw [HT.out]; rfl⟩, rfl⟩
theorem containsI_any (v : Value) (xs : List Int) (bm : Nat) (na : Option Addr) (L nc : Nat) (w : World) (hv : IntsAt w v xs) (hz : xs.length ≤ 16777216) (hc : w.cell? ⟨bm, 0, none⟩ = some (.slice na L nc)) (hlt : bm < w.heap.size) :
    Calls Tryz.prog 56 #[v, .func (.func 55) #[] #[.pointer (some ⟨bm, 0, none⟩)]] w fun e w' => e = .returned (.bool (!xs.all (toR L))) ∧ w = w' := by
  have HI := Box.mk (indexI_any v xs bm na L nc w hv hz hc hlt)
  clear hv hc
  go_enter Tryz.func56, Tryz.ntmps56
  go_wp2_with fail
  refine HI.out.mono ?_; rintro e w1 ⟨⟨i, rfl, hi⟩, rfl⟩
  have HX := Box.mk hi
  clear hi
  go_wp2_with fail
  go_ret
  exact ⟨ret_bool (by simpa using HX.out), rfl⟩

theorem machR_no {n : Int} {M : D.Mach} {k : Nat} (hk : k < M.1.length) (h : rowR n M k = false) : machR n M = false := by
  unfold machR
  rw [show (List.range M.1.length).all (rowR n M) = false by
    rw [Bool.eq_false_iff]
    intro ha
    rw [List.all_eq_true] at ha
    rw [ha k (List.mem_range.2 hk)] at h
    cases h]
  simp
set_option maxRecDepth 100000 in
set_option maxHeartbeats 4000000 in
theorem mright_any (v : Value) (M : D.Mach) (n : Int) (w : World) (hv : MachAt w v M) (hM : MachFit M) :
    Calls Tryz.prog 32 #[v, .int .i64 n] w fun e w' => e = .returned (.bool (machR n M)) ∧ Below w.heap.size w w' := by
  obtain ⟨na, fa, rfl, hra, hia⟩ := hv
  have HRA := Box.mk hra
  have HIA := Box.mk hia
  have HFM := Box.mk hM
  obtain ⟨aa, ca, rfl⟩ := hra.slice
  obtain ⟨fo, fc, rfl⟩ := hia.slice
  obtain ⟨w2, hw2⟩ : ∃ w2, w2 = w.alloc (.cells #[.slice aa M.1.length ca, .slice fo M.2.length fc] 26) := ⟨_, rfl⟩
  have HW2 := Box.mk hw2
  have hbw : Below w.heap.size w w2 := by rw [hw2]; exact alloc_below _ _
  have HBW := Box.mk hbw
  have HBA := Box.mk (show Blk w2 w.heap.size 26 #[.slice aa M.1.length ca, .slice fo M.2.length fc] by rw [hw2]; exact Blk.new w _ _)
  have c0 : w2.cell? ⟨w.heap.size, 0, none⟩ = some (.slice aa M.1.length ca) := (HBA.out.cell 0).trans rfl
  have c1 : w2.cell? ⟨w.heap.size, 1, none⟩ = some (.slice fo M.2.length fc) := (HBA.out.cell 1).trans rfl
  have l0 := HBA.out.lt
  clear hra hia hM hbw hw2
  by_cases hg : 1 ≤ n ∧ n ≤ 32 ∧ 1 ≤ M.1.length ∧ M.1.length ≤ 300 ∧ M.2.length = M.1.length
  · obtain ⟨g1, g2, g3, g4, g5⟩ := hg
    have HMR := Box.mk (show machR n M = (List.range M.1.length).all (rowR n M) by
      unfold machR
      rw [decide_eq_true g1, decide_eq_true g2, decide_eq_true g3, decide_eq_true g4, decide_eq_true g5]; rfl)
    have HG5 := Box.mk g5
    have hf5 : (M.2.length : Int) = (M.1.length : Int) := by omega
    rw [g5] at c1
    clear g5
    go_enter Tryz.func32, Tryz.ntmps32
    go_upto_region 1 with (fail)
    rw [← HW2.out]
    go_wp2_with fail
    go_loop [39] (fun i => ∃ k : Nat, k ≤ M.1.length ∧ i = .int .i64 k ∧ Box ((List.range k).all (rowR n M) = true)) (fun i => M.1.length - (intOf i).toNat)
    case atStart => exact ⟨0, by omega, rfl, ⟨rfl⟩⟩
    case round =>
      obtain ⟨k, hk, rfl, ha⟩ := hrel
      by_cases hlt : k < M.1.length
      · obtain ⟨x, hx⟩ : ∃ x, M.1[k]? = some x := ⟨_, List.getElem?_eq_getElem hlt⟩
        obtain ⟨y, hy⟩ : ∃ y, M.2[k]? = some y := ⟨_, List.getElem?_eq_getElem (by rw [HG5.out]; exact hlt)⟩
        obtain ⟨pa, oa, ca', ha0, ha1, ha2, ha3, ha4⟩ := (HRA.out.below HBW.out).get (by intro e; rw [e] at hlt; simp at hlt)
        obtain ⟨rfl, rfl⟩ : aa = some ⟨pa, oa, none⟩ ∧ ca = ca' := by injection ha0 with h1 h2 h3; exact ⟨h1, h3⟩
        obtain ⟨pb, ob, cb', hb0, hb1, hb2, hb3, hb4⟩ := (HIA.out.below HBW.out).get (by intro e; rw [e] at hy; simp at hy)
        obtain ⟨rfl, rfl⟩ : fo = some ⟨pb, ob, none⟩ ∧ fc = cb' := by injection hb0 with h1 h2 h3; exact ⟨h1, h3⟩
        obtain ⟨xv, hxc, hxi⟩ := ha4 k x hx
        have hyc := hb4 k y hy
        have HRX := Box.mk (show rowR n M k = (decide ((x.length : Int) = n + 1) && x.all (toR M.1.length) && decide (0 ≤ y) && decide (y < 1099511627776)) by
          unfold rowR; rw [show M.1.getD k [] = x by rw [List.getD, hx]; rfl, show M.2.getD k 0 = y by rw [List.getD, hy]; rfl])
        have HCI := Box.mk (containsI_any xv x w.heap.size (some ⟨pa, oa, none⟩) M.1.length ca w2 hxi (by have := HFM.out.2.2 x (List.mem_of_getElem? hx); omega) c0 l0)
        obtain ⟨xo, xc, rfl⟩ := hxi.slice
        have HLT := Box.mk hlt
        have hxz := HFM.out.2.2 x (List.mem_of_getElem? hx)
        rw [HG5.out] at hb1
        unfold maxLen at ha2 hb2
        clear ha0 ha4 hb0 hb4 hx hy hxi
        by_cases hl1 : (x.length : Int) = n + 1
        · have HL1 := Box.mk hl1
          have q1 : ((x.length : Int) == n + 1) = true := by rw [beq_iff_eq]; exact hl1
          clear hl1
          cases hal : x.all (toR M.1.length) with
          | true =>
            have HAL := Box.mk (show (!x.all (toR M.1.length)) = false by rw [hal]; rfl)
            rcases Int.lt_or_le y 0 with hy0 | hy0
            · have HF := Box.mk (machR_no HLT.out (show rowR n M k = false by rw [HRX.out, decide_eq_true HL1.out, hal]; simp; omega))
              clear hal
              go_wp2_with (go_at_call 56; refine HCI.out.mono ?_; rintro e w1 ⟨rfl, rfl⟩; rw [HAL.out])
              all_goals first | (exact absurd HL1.out (by assumption)) | (exfalso; omega) | skip
              go_ret
              exact ⟨ret_bool (by rw [HF.out]), HBW.out⟩
            · rcases Int.lt_or_le y 1099511627776 with hy1 | hy1
              · have HT := Box.mk (show (List.range (k + 1)).all (rowR n M) = true by
                  rw [List.range_succ, List.all_append, ha.out]
                  simp only [List.all_cons, List.all_nil, Bool.and_true, Bool.true_and]
                  rw [HRX.out, decide_eq_true HL1.out, hal, decide_eq_true hy0, decide_eq_true hy1]; rfl)
                clear hal
                go_wp2_with (go_at_call 56; refine HCI.out.mono ?_; rintro e w1 ⟨rfl, rfl⟩; rw [HAL.out])
                all_goals first | (exact absurd HL1.out (by assumption)) | (exfalso; omega) | skip
                go_round
                case rel => exact ⟨k + 1, hlt, by go_num, HT⟩
                case measure => simp [intOf]; omega
              · have HF := Box.mk (machR_no HLT.out (show rowR n M k = false by rw [HRX.out, decide_eq_true HL1.out, hal]; simp; omega))
                clear hal
                go_wp2_with (go_at_call 56; refine HCI.out.mono ?_; rintro e w1 ⟨rfl, rfl⟩; rw [HAL.out])
                all_goals first | (exact absurd HL1.out (by assumption)) | (exfalso; omega) | skip
                go_ret
                exact ⟨ret_bool (by rw [HF.out]), HBW.out⟩
          | false =>
            have HAL := Box.mk (show (!x.all (toR M.1.length)) = true by rw [hal]; rfl)
            have HF := Box.mk (machR_no HLT.out (show rowR n M k = false by rw [HRX.out, hal]; simp))
            clear hal
            go_wp2_with (go_at_call 56; refine HCI.out.mono ?_; rintro e w1 ⟨rfl, rfl⟩; rw [HAL.out])
            all_goals first | (exact absurd HL1.out (by assumption)) | (exfalso; omega) | skip
            go_ret
            exact ⟨ret_bool (by rw [HF.out]), HBW.out⟩
        · have HF := Box.mk (machR_no HLT.out (show rowR n M k = false by rw [HRX.out, decide_eq_false hl1]; rfl))
          have q1 : ((x.length : Int) == n + 1) = false := beq_eq_false_iff_ne.2 hl1
          have HNE := Box.mk hl1
          clear hl1
          go_wp2_with fail
          all_goals first | (exact absurd (by assumption) HNE.out) | skip
          go_ret
          exact ⟨ret_bool (by rw [HF.out]), HBW.out⟩
      · have HT := Box.mk (show machR n M = true by rw [HMR.out, show M.1.length = k by omega]; exact ha.out)
        go_wp2_with fail
        go_ret
        exact ⟨ret_bool (by rw [HT.out]), HBW.out⟩
  · have HF := Box.mk (show machR n M = false by
      unfold machR
      rw [Bool.eq_false_iff]
      intro h
      simp only [Bool.and_eq_true, decide_eq_true_eq] at h
      exact hg ⟨h.1.1.1.1.1, h.1.1.1.1.2, h.1.1.1.2, h.1.1.2, h.1.2⟩)
    have hg' : n < 1 ∨ (1 ≤ n ∧ 32 < n) ∨ (1 ≤ n ∧ n ≤ 32 ∧ M.1.length < 1) ∨ (1 ≤ n ∧ n ≤ 32 ∧ 1 ≤ M.1.length ∧ 300 < M.1.length) ∨ (1 ≤ n ∧ n ≤ 32 ∧ 1 ≤ M.1.length ∧ M.1.length ≤ 300 ∧ ((M.2.length : Int) != (M.1.length : Int)) = true) := by
      simp only [bne_iff_ne, ne_eq]
      omega
    clear hg
    rcases hg' with g1 | ⟨g1, g2⟩ | ⟨g1, g2, g3⟩ | ⟨g1, g2, g3, g4⟩ | ⟨g1, g2, g3, g4, g5⟩
    all_goals
      go_enter Tryz.func32, Tryz.ntmps32
      go_upto_region 1 with (fail)
      rw [← HW2.out]
      go_wp2_with fail
      all_goals first | (exfalso; omega) | (exfalso; simp_all; done) | skip
      go_ret
      exact ⟨ret_bool (by rw [HF.out]), HBW.out⟩
end Go.Proofs.YtbpcipobdokcfaaGreatDoor

/- HOW A MACHINE GOES: the program's Go. -/
namespace Go.Proofs.YtbpcipobdokcfaaGreatDoor
open Go.RowKit Go.Shelf
attribute [local go_sem] Oper.semAt_some

/-- a row that has just been laid -/
theorem Sep.lit {ps : List Pc} {W : World} (h : Sep ps W) {base : Nat} {e : TypeId} {cs : Array Value} {n : Nat} (hb : base ≤ W.heap.size) (hn : n = cs.size) (hm : n ≤ 1000000) : Sep (Pc.row base e 1 (.slice (some ⟨W.heap.size, 0, none⟩) n n) n cs.toList :: ps) (W.alloc (.cells cs e)) := by
  subst hn
  refine h.add ((Below.refl _ _).alloc (Nat.le_refl _) _) ⟨by simp, .inr ⟨W.heap.size, cs.size, cs, rfl, hb, heap_alloc_new _ _, Nat.le_refl _, by unfold maxLen; omega, by simp, ?_⟩⟩ (fun k hk => ?_)
  · rw [Nat.mul_one, ← Array.length_toList, List.take_length]
  · simp [Pc.row, Value.ownBlock] at hk; omega

def stepM (n : Nat) (M : D.Mach) (at' : Nat) (c : Int) : Nat := ((M.1.getD at' []).getD (colOf n c) 0).toNat
/-- where a machine is behind the first i numbers -/
def stM (n : Nat) (M : D.Mach) (l : List Int) (i : Nat) : Nat := (l.take i).foldl (stepM n M) 0
def goM (n : Nat) (M : D.Mach) (l : List Int) : List Nat := (List.range (l.length + 1)).map (stM n M l)
theorem stM_succ {n : Nat} {M : D.Mach} {l : List Int} {i : Nat} {c : Int} (h : l[i]? = some c) : stM n M l (i + 1) = stepM n M (stM n M l i) c := by
  unfold stM; rw [take_snoc' _ _ _ h, List.foldl_append]; rfl
theorem machR_row {n : Nat} {M : D.Mach} (h : machR n M = true) {a : Nat} (ha : a < M.1.length) :
    ∃ r, M.1[a]? = some r ∧ r.length = n + 1 ∧ (∀ c, c ≤ n → ∃ x : Int, r[c]? = some x ∧ 0 ≤ x ∧ x < M.1.length) ∧ ∃ f : Int, M.2[a]? = some f ∧ 0 ≤ f ∧ f < 1099511627776 := by
  unfold machR at h
  simp only [Bool.and_eq_true, decide_eq_true_eq] at h
  obtain ⟨⟨⟨⟨⟨h1, h2⟩, h3⟩, h4⟩, h5⟩, h6⟩ := h
  rw [List.all_eq_true] at h6
  have h7 := h6 a (List.mem_range.2 ha)
  have hr : M.1[a]? = some M.1[a] := List.getElem?_eq_getElem ha
  have hf : M.2[a]? = some (M.2[a]'(by omega)) := List.getElem?_eq_getElem (by omega)
  unfold rowR at h7
  rw [show M.1.getD a [] = M.1[a] by rw [List.getD, hr]; rfl, show M.2.getD a 0 = M.2[a]'(by omega) by rw [List.getD, hf]; rfl] at h7
  simp only [Bool.and_eq_true, decide_eq_true_eq] at h7
  obtain ⟨⟨⟨k1, k2⟩, k3⟩, k4⟩ := h7
  refine ⟨_, hr, by omega, fun c hc => ?_, _, hf, k3, k4⟩
  have hcl : c < M.1[a].length := by omega
  rw [List.all_eq_true] at k2
  have k5 := k2 _ (List.getElem_mem hcl)
  unfold toR at k5
  simp only [Bool.and_eq_true, decide_eq_true_eq] at k5
  exact ⟨_, List.getElem?_eq_getElem hcl, k5.1, k5.2⟩
theorem machR_parts {n : Int} {M : D.Mach} (h : machR n M = true) : 1 ≤ n ∧ n ≤ 32 ∧ 1 ≤ M.1.length ∧ M.1.length ≤ 300 ∧ M.2.length = M.1.length := by
  unfold machR at h
  simp only [Bool.and_eq_true, decide_eq_true_eq] at h
  exact ⟨h.1.1.1.1.1, h.1.1.1.1.2, h.1.1.1.2, h.1.1.2, h.1.2⟩
theorem stepM_lt {n : Nat} {M : D.Mach} (h : machR n M = true) {a : Nat} (ha : a < M.1.length) (c : Int) : stepM n M a c < M.1.length := by
  obtain ⟨r, hr, hl, hc, -⟩ := machR_row h ha
  obtain ⟨x, hx, h0, h1⟩ := hc (colOf n c) (colOf_le n c)
  unfold stepM
  rw [show M.1.getD a [] = r by rw [List.getD, hr]; rfl, show r.getD (colOf n c) 0 = x by rw [List.getD, hx]; rfl]
  omega
theorem stM_lt {n : Nat} {M : D.Mach} (h : machR n M = true) (l : List Int) : ∀ i, stM n M l i < M.1.length := by
  intro i
  unfold stM
  have key : ∀ (t : List Int) (a : Nat), a < M.1.length → t.foldl (stepM n M) a < M.1.length := by
    intro t
    induction t with
    | nil => intro a ha; exact ha
    | cons c t ih => intro a ha; exact ih _ (stepM_lt h ha c)
  exact key _ 0 (by have := (machR_parts h).2.2.1; omega)
theorem goM_get {n : Nat} {M : D.Mach} {l : List Int} {i : Nat} (h : i ≤ l.length) : (goM n M l)[i]? = some (stM n M l i) := by
  unfold goM; rw [List.getElem?_map, List.getElem?_range (by omega)]; rfl
theorem goM_len (n : Nat) (M : D.Mach) (l : List Int) : (goM n M l).length = l.length + 1 := by unfold goM; simp
theorem goM_take {n : Nat} {M : D.Mach} {l : List Int} {i : Nat} (h : i < l.length) : (goM n M l).take (i + 2) = (goM n M l).take (i + 1) ++ [stM n M l (i + 1)] := take_snoc' _ _ _ (goM_get (by omega))

def goCode (n : Int) (M : D.Mach) : Int := if machR n M = true then 0 else 100
/-- what Go leaves behind -/
def goPost (n : Int) (M : D.Mach) (l : List Int) (w : World) (e : Ending) (w' : World) : Prop :=
  Below w.heap.size w w' ∧ ∃ v, e = .returned (.tuple #[v, .int .i64 (goCode n M)]) ∧ w'.ownsRow w.heap.size 3 1 v (if machR n M = true then l.length + 1 else 0) ((if machR n M = true then goM n.toNat M l else []).map natV)

set_option maxRecDepth 100000 in
set_option maxHeartbeats 8000000 in
theorem mgo_any (A : Nat → Addr) (B : Nat) (v lv : Value) (M : D.Mach) (n : Int) (l : List Int) (w : World) (hv : MachAt w v M) (hM : MachFit M) (hl : IntsAt w lv l) (hz : l.length ≤ 16777216) (hD : Ed A B w) (hB : B ≤ w.heap.size) :
    Calls Tryz.prog 35 #[v, .int .i64 n, lv] w (goPost n M l w) := by
  have HRT := Box.mk (fun W (h : Below w.heap.size w W) => mright_any v M n W (hv.below h) hM)
  have HD := Box.mk (fun W (h : Below w.heap.size w W) => hD.below (h.mono hB))
  have HL := Box.mk hl
  have HMA := Box.mk hv
  obtain ⟨na, fa, rfl, hra, -⟩ := hv
  obtain ⟨aa, ca, rfl⟩ := hra.slice
  obtain ⟨lo, lc, rfl⟩ := hl.slice
  have HRA := Box.mk hra
  obtain ⟨w2, hw2⟩ : ∃ w2, w2 = (w.alloc (.cells #[.slice aa M.1.length ca, fa] 26)).alloc (.cells #[.int .i64 0] 3) := ⟨_, rfl⟩
  have HW2 := Box.mk hw2
  have HS2 := Box.mk (show Sep [Pc.row w.heap.size 3 1 (.slice (some ⟨w.heap.size + 1, 0, none⟩) 1 1) 1 [.int .i64 0], Pc.blk w.heap.size 26 #[.slice aa M.1.length ca, fa], Pc.old w.heap.size w] w2 by
    have h1 := (Sep.start w).alloc_blk 26 #[.slice aa M.1.length ca, fa]
    have h2 := h1.lit (base := w.heap.size) (e := 3) (cs := #[.int .i64 0]) (n := 1) (by simp) rfl (by omega)
    rw [hw2]
    simpa using h2)
  have hb2 : Below w.heap.size w w2 := HS2.out.bel (by simp)
  have HB2 := Box.mk hb2
  have hba := HS2.out.blk 1 rfl
  have c0 : w2.cell? ⟨w.heap.size, 0, none⟩ = some (.slice aa M.1.length ca) := (hba.cell 0).trans rfl
  have c1 : w2.cell? ⟨w.heap.size, 1, none⟩ = some fa := (hba.cell 1).trans rfl
  have l0 := hba.lt
  clear hra hl hM hD hw2 hb2 hba
  cases hr : machR n M with
  | false =>
    have HR := Box.mk hr
    have HC := Box.mk (show goCode n M = 100 by unfold goCode; rw [hr]; rfl)
    clear hr
    go_enter Tryz.func35, Tryz.ntmps35
    go_wp2_with fail
    refine wp_scope_fwd 0 rfl ?_
    go_upto_region 3 with (fail)
    rw [← HW2.out]
    go_wp2_with fail
    refine (HRT.out _ HB2.out).mono ?_; rintro e w3 ⟨rfl, hb3⟩; rw [HR.out]
    have HB3 := Box.mk (HB2.out.trans (hb3.mono HB2.out.size))
    have hD3 := HD.out w3 HB3.out
    have hg := hD3.var 2 (by decide)
    have HT := Box.mk (dtold_any A B 2 (by decide) w3 hD3)
    unfold errV at HT
    clear hb3 hD3
    go_wp2_with fail
    go_step3
    refine ⟨rfl, ?_⟩
    go_wp2_with fail
    refine HT.out.mono ?_; rintro e w4 ⟨rfl, rfl⟩
    go_wp2_with fail
    rw [Exit.noGoto_ret]
    go_ret2
    refine ⟨HB3.out, _, by rw [HC.out]; rfl, ?_⟩
    rw [HR.out]
    exact World.ownsRow_nil _ _ _ _
  | true =>
    have HR := Box.mk hr
    obtain ⟨h1, h2, h3, h4, h5⟩ := machR_parts hr
    obtain ⟨nn, rfl⟩ := Int.eq_ofNat_of_zero_le (show 0 ≤ n by omega)
    have HC := Box.mk (show goCode nn M = 0 by unfold goCode; rw [hr]; rfl)
    have HIN := Box.mk (fun (c : Int) (W : World) => in_any c nn W (by omega) (by omega))
    have HLT := Box.mk (fun i => stM_lt hr l i)
    have HROW := Box.mk (fun {a : Nat} (ha : a < M.1.length) => machR_row hr ha)
    have HG1 := Box.mk (show (goM nn M l).take 1 = [0] by unfold goM; rw [List.range_succ_eq_map]; rfl)
    clear hr h5
    go_enter Tryz.func35, Tryz.ntmps35
    go_wp2_with fail
    refine wp_scope_fwd 0 rfl ?_
    go_upto_region 3 with (fail)
    rw [← HW2.out]
    go_wp2_with fail
    refine (HRT.out _ HB2.out).mono ?_; rintro e w3 ⟨rfl, hb3⟩; rw [HR.out]
    have HS3 := Box.mk (show Sep [Pc.row w.heap.size 3 1 (.slice (some ⟨w.heap.size + 1, 0, none⟩) 1 1) (0 + 1) (((goM nn M l).take (0 + 1)).map natV), Pc.blk w.heap.size 26 #[.slice aa M.1.length ca, fa], Pc.old w.heap.size w] w3 by
      rw [HG1.out]; exact HS2.out.below (hb3.mono HB2.out.size |> fun _ => hb3.mono (Nat.le_refl _) |> fun _ => by
        exact ⟨hb3.os, hb3.tape, hb3.output, hb3.size, fun k hk => hb3.block k hk⟩))
    clear hb3 c0 c1 l0
    go_wp2_with fail
    go_loopw [8, 9, 20] (fun at' o i wr => ∃ k : Nat, k ≤ l.length ∧ i = .int .i64 k ∧ at' = .int .i64 (stM nn M l k) ∧ Box (Sep [Pc.row w.heap.size 3 1 o (k + 1) (((goM nn M l).take (k + 1)).map natV), Pc.blk w.heap.size 26 #[.slice aa M.1.length ca, fa], Pc.old w.heap.size w] wr)) (fun _ _ i _ => l.length - (intOf i).toNat)
    case atStart => exact ⟨0, by omega, rfl, rfl, HS3⟩
    case round =>
      obtain ⟨k, hk, rfl, rfl, hsep⟩ := hrel
      have HBR := Box.mk (show Below w.heap.size w wr from hsep.out.bel (by simp))
      by_cases hlt : k < l.length
      · obtain ⟨c, hc⟩ : ∃ c, l[k]? = some c := ⟨_, List.getElem?_eq_getElem hlt⟩
        obtain ⟨lb, loff, lcap, k1, k2, k3, k4, k5⟩ := (HL.out.below HBR.out).get (by rintro rfl; simp at hlt)
        obtain ⟨rfl, rfl⟩ : lo = some ⟨lb, loff, none⟩ ∧ lc = lcap := by injection k1 with h1 h2 h3; exact ⟨h1, h3⟩
        have hlc := k5 k c hc
        have hat := HLT.out k
        have HAN := Box.mk (HLT.out (k + 1))
        obtain ⟨r, hr1, hr2, hr3, -⟩ := HROW.out hat
        obtain ⟨x, hx1, hx2, hx3⟩ := hr3 (colOf nn c) (colOf_le nn c)
        have HST := Box.mk (show stM nn M l (k + 1) = x.toNat by
          rw [stM_succ hc]; unfold stepM; rw [show M.1.getD (stM nn M l k) [] = r by rw [List.getD, hr1]; rfl, show r.getD (colOf nn c) 0 = x by rw [List.getD, hx1]; rfl])
        have HTK := Box.mk (goM_take (n := nn) (M := M) hlt)
        have hcl := colOf_le nn c
        obtain ⟨pa, oa, ca', ha0, ha1, ha2, ha3, ha4⟩ := (HRA.out.below HBR.out).get (by intro e; rw [e] at hr1; simp at hr1)
        obtain ⟨rfl, rfl⟩ : aa = some ⟨pa, oa, none⟩ ∧ ca = ca' := by injection ha0 with h1 h2 h3; exact ⟨h1, h3⟩
        obtain ⟨xv, hxc, hxi⟩ := ha4 _ r hr1
        obtain ⟨rb, roff, rcap, r1, r2, r3, r4, r5⟩ := hxi.get (by rintro rfl; simp at hr2)
        rw [hr2] at r1 r2
        subst r1
        have hxx := r5 _ x hx1
        have hba := hsep.out.blk 1 rfl
        have HINC := Box.mk (fun W => HIN.out c W)
        obtain ⟨oo, oc, rfl, ho1, ho2⟩ := own_shape (hsep.out.row 0 rfl)
        have HFF := Box.mk (show ∀ W, Below wr.heap.size wr W → W.cell? ⟨w.heap.size, 0, none⟩ = some (.slice (some ⟨pa, oa, none⟩) M.1.length ca) ∧ W.cell? ⟨pa, oa + stM nn M l k, none⟩ = some (.slice (some ⟨rb, roff, none⟩) (nn + 1) rcap) ∧ W.cell? ⟨rb, roff + colOf nn c, none⟩ = some (.int .i64 x) from fun W h =>
          ⟨((hba.below h hba.lt).cell 0).trans rfl, (h.cell (p := ⟨pa, oa + stM nn M l k, none⟩) ha3).trans hxc, (h.cell (p := ⟨rb, roff + colOf nn c, none⟩) r4).trans hxx⟩)
        have HBD := Box.mk (show Below wr.heap.size wr wr.drew from ⟨rfl, rfl, rfl, Nat.le_refl _, fun _ _ => rfl⟩)
        have HSD := Box.mk hsep.out.drew
        have hbs : w.heap.size ≤ wr.drew.heap.size := HBR.out.size
        unfold maxLen at k3 ha2 r3
        generalize hso : stM nn M l k = so at *
        generalize hco : colOf nn c = co at *
        have hs1 : so < ca := by omega
        have hc1 : co < nn + 1 := by omega
        have hc2 : co < rcap := by omega
        have hc3 : (co : Int) < (nn : Int) + 1 := by omega
        clear k1 k5 ha0 ha4 hxc hxi r5 hxx hba hr1 hr3 hx1 hc hsep hso hco
        go_wp2_with fail
        refine wp_region_K 9 (fun W => W.cell? ⟨w.heap.size, 0, none⟩ = some (.slice (some ⟨pa, oa, none⟩) M.1.length ca) ∧ W.cell? ⟨pa, oa + so, none⟩ = some (.slice (some ⟨rb, roff, none⟩) (nn + 1) rcap) ∧ W.cell? ⟨rb, roff + co, none⟩ = some (.int .i64 x)) (by kernel_rfl) ?_
        have HF0 := Box.mk (HFF.out _ HBD.out)
        generalize wr.drew = WR at *
        refine wpAnyK_take (i := 0) (v := ?_) rfl (by kernel_rfl) (fun _ _ _ h => h) (Or.inl ⟨by kernel_rfl, ?_⟩) HF0.out ?_
        rotate_left
        · first | (intro w hw; obtain ⟨q1, q2, q3⟩ := hw; go_simp; done) | (intro w hw; obtain ⟨q1, q2, q3⟩ := hw; go_simp; with_reducible rfl)
        refine wpAnyK_take (i := 1) (v := ?_) rfl (by kernel_rfl) (fun _ _ _ h => h) (Or.inl ⟨by kernel_rfl, ?_⟩) HF0.out ?_
        rotate_left
        · first | (intro w hw; obtain ⟨q1, q2, q3⟩ := hw; go_simp; done) | (intro w hw; obtain ⟨q1, q2, q3⟩ := hw; go_simp; with_reducible rfl)
        refine wpAnyK_take (i := 2) (v := ?_) rfl (by kernel_rfl) (fun _ _ _ h => h) (Or.inl ⟨by kernel_rfl, ?_⟩) HF0.out ?_
        rotate_left
        · first | (intro w hw; obtain ⟨q1, q2, q3⟩ := hw; go_simp; done) | (intro w hw; obtain ⟨q1, q2, q3⟩ := hw; go_simp; with_reducible rfl)
        refine wpAnyK_take (i := 3) (v := ?_) rfl (by kernel_rfl) (fun _ _ _ h => h) (Or.inl ⟨by kernel_rfl, ?_⟩) HF0.out ?_
        rotate_left
        · first | (intro w hw; obtain ⟨q1, q2, q3⟩ := hw; go_simp; done) | (intro w hw; obtain ⟨q1, q2, q3⟩ := hw; go_simp; with_reducible rfl)
        refine wpAnyK_take (i := 4) (v := ?_) rfl (by kernel_rfl) (fun _ _ _ h => h) (Or.inl ⟨by kernel_rfl, ?_⟩) HF0.out ?_
        rotate_left
        · first | (intro w hw; obtain ⟨q1, q2, q3⟩ := hw; go_simp; done) | (intro w hw; obtain ⟨q1, q2, q3⟩ := hw; go_simp; with_reducible rfl)
        refine wpAnyK_take (i := 5) (v := ?_) rfl (by kernel_rfl) (fun _ _ _ h => h) (Or.inl ⟨by kernel_rfl, ?_⟩) HF0.out ?_
        rotate_left
        · first | (intro w hw; obtain ⟨q1, q2, q3⟩ := hw; go_simp; done) | (intro w hw; obtain ⟨q1, q2, q3⟩ := hw; go_simp; with_reducible rfl)
        refine wpAnyK_take (i := 6) (v := ?_) rfl (by kernel_rfl) (fun _ _ _ h => h) (Or.inl ⟨by kernel_rfl, ?_⟩) HF0.out ?_
        rotate_left
        · first | (intro w hw; obtain ⟨q1, q2, q3⟩ := hw; go_simp; done) | (intro w hw; obtain ⟨q1, q2, q3⟩ := hw; go_simp; with_reducible rfl)
        refine wpAnyK_one (i := 7) (by kernel_rfl) rfl (fun KK hKK => ?_)
        go_simp
        go_wp2_with (go_at_call 59; refine (HINC.out _).mono ?_; rintro e w7 ⟨rfl, rfl⟩)
        refine hKK.out _ _ (fun _ => HF0.out) ?_
        clear hKK KK
        refine wpAnyK_take (i := 8) (v := ?_) rfl (by kernel_rfl) (fun _ _ _ h => h) (Or.inl ⟨by kernel_rfl, ?_⟩) HF0.out ?_
        rotate_left
        · first | (intro w hw; obtain ⟨q1, q2, q3⟩ := hw; go_simp; done) | (intro w hw; obtain ⟨q1, q2, q3⟩ := hw; go_simp; with_reducible rfl)
        obtain ⟨y1, y2, y3⟩ := HF0.out
        refine wpAnyK_one (i := 9) (by kernel_rfl) rfl (fun KK hKK => ?_)
        go_simp
        refine hKK.out _ _ (fun h => by cases h) ?_
        clear hKK KK
        refine wpAnyK_one (i := 10) (by kernel_rfl) rfl (fun KK hKK => ?_)
        go_simp
        refine hKK.out _ _ (fun h => by cases h) ?_
        clear hKK KK
        refine wpAnyK_done (by kernel_rfl) ?_ _
        refine NoPanic.normal ?_
        clear y1 y2 y3
        go_wp2_with (at_builtin; refine wpList_push rfl _ _ 27 rfl pushInt HSD.out 0 rfl rfl rfl rfl (by omega) (by omega) hbs ?_; rintro v' w4 hS4 -)
        have HX := Box.mk (show (Value.int .i64 x) = natV (stM nn M l (k + 1)) by unfold natV; rw [HST.out]; exact vint (by omega))
        rw [HX.out] at hS4
        have HS4 := Box.mk (show Sep [Pc.row w.heap.size 3 1 v' (k + 1 + 1) (((goM nn M l).take (k + 1 + 1)).map natV), Pc.blk w.heap.size 26 #[.slice (some ⟨pa, oa, none⟩) M.1.length ca, fa], Pc.old w.heap.size w] w4 by
          rw [HTK.out, List.map_append]; exact hS4)
        clear hS4
        go_wp2_with fail
        go_roundw
        case rel => exact ⟨k + 1, hlt, by go_num, HX.out, HS4⟩
        case measure => simp [intOf]; omega
      · obtain rfl : k = l.length := by omega
        have HTT := Box.mk (show (goM nn M l).take (l.length + 1) = goM nn M l by rw [← goM_len nn M l, List.take_length])
        go_wp2_with fail
        rw [fwd_ret]
        go_ret2
        refine ⟨HBR.out, _, by rw [HC.out]; rfl, ?_⟩
        have := hsep.out.row 0 rfl
        rw [HTT.out] at this
        rw [HR.out]
        exact this
end Go.Proofs.YtbpcipobdokcfaaGreatDoor

/- WHICH RULES FIT, BY A MACHINE: the program's Fits; two machines compared by the program. -/
namespace Go.Proofs.YtbpcipobdokcfaaGreatDoor
open Go.RowKit Go.Shelf
attribute [local go_sem] Oper.semAt_some

def fitM (M : D.Mach) (a : Nat) : Int := M.2.getD a 0
def fitsM (n : Nat) (M : D.Mach) (l : List Int) : List Int := (goM n M l).map (fitM M)
def fits12Post (n : Int) (M : D.Mach) (l : List Int) (w : World) (e : Ending) (w' : World) : Prop :=
  Below w.heap.size w w' ∧ ∃ v, e = .returned (.tuple #[v, .int .i64 (goCode n M)]) ∧ IntsAt w' v (if machR n M = true then fitsM n.toNat M l else [])
theorem row_intsI {w : World} {base n : Nat} {T : TypeId} {v : Value} {xs : List Int} (h : w.ownsRow base T 1 v n (xs.map (Value.int .i64))) (hn : n = xs.length) : IntsAt w v xs := IntsAt.of_own h hn

end Go.Proofs.YtbpcipobdokcfaaGreatDoor

/- PLAIN. Cuts: which are right, which part a place lies in. Nothing of any program. -/
namespace Go.Proofs.YtbpcipobdokcfaaGreatDoor.G

/-- each is greater than the one ahead of it -/
def up : Int → List Int → Bool
  | _, [] => true
  | last, a :: t => decide (last < a) && up a t
def last (cs : List Int) : Int := cs.getLastD (-1)
def right (cs : List Int) (n : Int) : Bool := up (-1) cs && decide (0 < cs.length) && decide (cs.getD 0 1 = 0) && decide (last cs = n)
def whole (cs : List Int) : Bool := decide (0 < cs.length) && right cs (cs.getD (cs.length - 1) 0)
def isIn (cs : List Int) (p : Int) (i : Nat) : Bool := decide (cs.getD i 0 ≤ p) && decide (p < cs.getD (i + 1) 0)
def part (cs : List Int) (p : Int) : Option Nat := if whole cs = true then (List.range (cs.length - 1)).find? (isIn cs p) else none

theorem up_snoc (a : Int) : ∀ (cs : List Int) (l : Int), up l (cs ++ [a]) = (up l cs && decide (cs.getLastD l < a))
  | [], l => by simp [up]
  | c :: t, l => by
    rw [List.cons_append, up, up, up_snoc a t c, Bool.and_assoc]
    cases t with
    | nil => rfl
    | cons d t => rfl
theorem up_take {cs : List Int} {l : Int} (h : up l cs = true) (k : Nat) : up l (cs.take k) = true := by
  induction k with
  | zero => simp [up]
  | succ k ih =>
    cases hk : cs[k]? with
    | none =>
      rw [List.getElem?_eq_none_iff] at hk
      rw [List.take_of_length_le (by omega)]
      exact h
    | some c =>
      have hs : cs = cs.take (k + 1) ++ cs.drop (k + 1) := (List.take_append_drop _ _).symm
      clear ih
      -- the head of what is rising is rising
      have key : ∀ (a b : List Int) (l : Int), up l (a ++ b) = true → up l a = true := by
        intro a
        induction a with
        | nil => intro b l _; rfl
        | cons x t ih =>
          intro b l hx
          rw [List.cons_append, up, Bool.and_eq_true] at hx
          rw [up, Bool.and_eq_true]
          exact ⟨hx.1, ih b x hx.2⟩
      rw [hs] at h
      exact key _ _ _ h
theorem up_get : ∀ (cs : List Int) (l : Int), up l cs = true → ∀ i j, i < j → j < cs.length → cs.getD i 0 < cs.getD j 0
  | [], _, _, _, _, _, h => by simp at h
  | c :: t, l, h, i, j, hij, hj => by
    rw [up, Bool.and_eq_true] at h
    rw [List.length_cons] at hj
    obtain ⟨j, rfl⟩ : ∃ k, j = k + 1 := ⟨j - 1, by omega⟩
    have hup := up_get t c h.2
    cases i with
    | succ i => exact hup i j (by omega) (by omega)
    | zero =>
      have key : ∀ (t : List Int) (c : Int), up c t = true → ∀ j, j < t.length → c < t.getD j 0 := by
        intro t
        induction t with
        | nil => intro c _ j hj; simp at hj
        | cons d t ih =>
          intro c hc j hj
          rw [up, Bool.and_eq_true] at hc
          have hd := of_decide_eq_true hc.1
          cases j with
          | zero => exact hd
          | succ j =>
            have := ih d hc.2 j (by rw [List.length_cons] at hj; omega)
            have e : (d :: t).getD (j + 1) 0 = t.getD j 0 := rfl
            rw [e]
            omega
      exact key t c h.2 j (by omega)
theorem up_iff : ∀ (cs : List Int) (l : Int), (∀ i, i + 1 < cs.length → cs.getD i 0 < cs.getD (i + 1) 0) → (0 < cs.length → l < cs.getD 0 0) → up l cs = true
  | [], _, _, _ => rfl
  | c :: t, l, h, h0 => by
    rw [up, Bool.and_eq_true]
    refine ⟨decide_eq_true (h0 (by simp)), up_iff t c (fun i hi => ?_) (fun ht => ?_)⟩
    · have := h (i + 1) (by rw [List.length_cons]; omega)
      exact this
    · exact h 0 (by rw [List.length_cons]; omega)
theorem whole_parts {cs : List Int} (h : whole cs = true) : up (-1) cs = true ∧ 0 < cs.length ∧ cs.getD 0 0 = 0 := by
  unfold whole right at h
  simp only [Bool.and_eq_true, decide_eq_true_eq] at h
  obtain ⟨h1, ⟨⟨h2, -⟩, h3⟩, -⟩ := h
  refine ⟨h2, h1, ?_⟩
  rw [List.getD_eq_getElem?_getD, List.getElem?_eq_getElem h1] at h3 ⊢
  exact h3
theorem isIn_one {cs : List Int} (h : whole cs = true) {p : Int} {i j : Nat} (hi : i < cs.length - 1) (hj : j < cs.length - 1) (h1 : isIn cs p i = true) (h2 : isIn cs p j = true) : i = j := by
  obtain ⟨hu, -, -⟩ := whole_parts h
  unfold isIn at h1 h2
  simp only [Bool.and_eq_true, decide_eq_true_eq] at h1 h2
  rcases Nat.lt_trichotomy i j with h | h | h
  · rcases Nat.eq_or_lt_of_le (show i + 1 ≤ j from h) with e | e
    · rw [e] at h1; omega
    · have := up_get cs _ hu (i + 1) j e (by omega); omega
  · exact h
  · rcases Nat.eq_or_lt_of_le (show j + 1 ≤ i from h) with e | e
    · rw [e] at h2; omega
    · have := up_get cs _ hu (j + 1) i e (by omega); omega
theorem part_some {cs : List Int} {p : Int} {i : Nat} (h : whole cs = true) (hi : i < cs.length - 1) (h1 : isIn cs p i = true) : part cs p = some i := by
  unfold part
  rw [if_pos h]
  cases hf : (List.range (cs.length - 1)).find? (isIn cs p) with
  | none =>
    have := List.find?_eq_none.1 hf i (List.mem_range.2 hi)
    rw [h1] at this
    exact absurd rfl this
  | some j =>
    have hj := List.mem_range.1 (List.mem_of_find?_eq_some hf)
    have h2 : isIn cs p j = true := List.find?_some hf
    rw [isIn_one h hi hj h1 h2]
theorem part_none {cs : List Int} {p : Int} (h : ∀ i, i < cs.length - 1 → isIn cs p i = false) : part cs p = none := by
  unfold part
  split
  · rw [List.find?_eq_none]
    intro i hi
    rw [h i (List.mem_range.1 hi)]
    exact Bool.false_ne_true
  · rfl
theorem part_got {cs : List Int} {p : Int} {i : Nat} (h : part cs p = some i) : whole cs = true ∧ i < cs.length - 1 ∧ cs.getD i 0 ≤ p ∧ p < cs.getD (i + 1) 0 := by
  unfold part at h
  split at h
  · rename_i hw
    have h2 : isIn cs p i = true := List.find?_some h
    unfold isIn at h2
    simp only [Bool.and_eq_true, decide_eq_true_eq] at h2
    exact ⟨hw, List.mem_range.1 (List.mem_of_find?_eq_some h), h2.1, h2.2⟩
  · cases h
/-- all cuts but the first are greater than 0 -/
theorem cut_pos {cs : List Int} (h : whole cs = true) : ∀ i, i < cs.length → 0 ≤ cs.getD i 0 ∧ (0 < i → 0 < cs.getD i 0) := by
  obtain ⟨hu, -, h0⟩ := whole_parts h
  intro i hi
  rcases Nat.eq_zero_or_pos i with e | e
  · subst e; exact ⟨by omega, fun h => by omega⟩
  · have := up_get cs _ hu 0 i e hi
    exact ⟨by omega, fun _ => by omega⟩
/-- one forth, one back -/
theorem part_at {cs : List Int} (h : whole cs = true) {i : Nat} (hi : i + 1 < cs.length) : part cs (cs.getD i 0) = some i ∧ part cs (cs.getD (i + 1) 0 - 1) = some i := by
  obtain ⟨hu, -, -⟩ := whole_parts h
  have := up_get cs _ hu i (i + 1) (by omega) hi
  constructor
  · exact part_some h (by omega) (by unfold isIn; simp only [Bool.and_eq_true, decide_eq_true_eq]; omega)
  · exact part_some h (by omega) (by unfold isIn; simp only [Bool.and_eq_true, decide_eq_true_eq]; omega)
end Go.Proofs.YtbpcipobdokcfaaGreatDoor.G

/- PLAIN. Which states of a machine are reached; of rules' machine: all. Nothing of any program. -/
namespace Go.Proofs.YtbpcipobdokcfaaGreatDoor.D

def addOne (t : List Nat) (x : Nat) : List Nat := if x ∈ t then t else t ++ [x]
def addAll (t r : List Nat) : List Nat := r.foldl addOne t
/-- what is to be looked at behind k rounds -/
def reach (next : List (List Nat)) : Nat → List Nat
  | 0 => [0]
  | k + 1 => match (reach next k)[k]? with
    | none => reach next k
    | some s => addAll (reach next k) (next.getD s [])
theorem addAll_snoc (t r : List Nat) (x : Nat) : addAll t (r ++ [x]) = addOne (addAll t r) x := by unfold addAll; rw [List.foldl_append]; rfl
theorem addOne_nodup {t : List Nat} (h : t.Nodup) (x : Nat) : (addOne t x).Nodup := by
  unfold addOne
  split
  · exact h
  · rename_i hx
    rw [List.nodup_append]
    exact ⟨h, by simp, fun a ha b hb e => hx (by rw [List.mem_singleton.1 hb] at e; exact e ▸ ha)⟩
theorem addOne_all {p : Nat → Prop} {t : List Nat} (h : ∀ y ∈ t, p y) {x : Nat} (hx : p x) : ∀ y ∈ addOne t x, p y := by
  unfold addOne
  split
  · exact h
  · intro y hy
    rcases List.mem_append.1 hy with h1 | h1
    · exact h y h1
    · rw [List.mem_singleton.1 h1]; exact hx
theorem addAll_nodup : ∀ (r : List Nat) {t : List Nat}, t.Nodup → (addAll t r).Nodup
  | [], _, h => h
  | x :: r, _, h => addAll_nodup r (addOne_nodup h x)
theorem addAll_all {p : Nat → Prop} : ∀ (r : List Nat) {t : List Nat}, (∀ y ∈ t, p y) → (∀ y ∈ r, p y) → ∀ y ∈ addAll t r, p y
  | [], _, h, _ => h
  | x :: r, _, h, hr => addAll_all r (addOne_all h (hr x (List.mem_cons_self ..))) (fun y hy => hr y (List.mem_cons_of_mem _ hy))
theorem addOne_pre (t : List Nat) (x : Nat) : t <+: addOne t x := by unfold addOne; split; exact List.prefix_refl _; exact List.prefix_append _ _
theorem addAll_pre : ∀ (r t : List Nat), t <+: addAll t r
  | [], _ => List.prefix_refl _
  | x :: r, t => (addOne_pre t x).trans (addAll_pre r (addOne t x))
theorem nodup_le : ∀ (N : Nat) (l : List Nat), l.Nodup → (∀ x ∈ l, x < N) → l.length ≤ N
  | 0, l, _, h => by
    cases l with
    | nil => simp
    | cons x t => exact absurd (h x (List.mem_cons_self ..)) (by omega)
  | N + 1, l, hn, h => by
    have ih := nodup_le N (l.erase N) (hn.erase N) (fun x hx => by
      have h1 := (List.Nodup.mem_erase_iff hn).1 hx
      have := h x h1.2
      omega)
    by_cases hm : N ∈ l
    · rw [List.length_erase_of_mem hm] at ih; omega
    · rw [List.erase_of_not_mem hm] at ih; omega
section
variable (next : List (List Nat))
theorem reach_nodup : ∀ k, (reach next k).Nodup
  | 0 => by unfold reach; simp
  | k + 1 => by
    unfold reach
    split
    · exact reach_nodup k
    · exact addAll_nodup _ (reach_nodup k)
theorem reach_all {N : Nat} (hN : 0 < N) (h : ∀ r ∈ next, ∀ x ∈ r, x < N) : ∀ k, ∀ x ∈ reach next k, x < N
  | 0, x, hx => by unfold reach at hx; rw [List.mem_singleton.1 hx]; exact hN
  | k + 1, x, hx => by
    unfold reach at hx
    split at hx
    · exact reach_all hN h k x hx
    · rename_i s _
      refine addAll_all _ (p := fun y => y < N) (reach_all hN h k) (fun y hy => ?_) x hx
      rw [List.getD] at hy
      cases hs : next[s]? with
      | none => rw [hs] at hy; exact absurd hy List.not_mem_nil
      | some r => rw [hs] at hy; exact h r (List.mem_of_getElem? hs) y hy
theorem reach_len {N : Nat} (hN : 0 < N) (h : ∀ r ∈ next, ∀ x ∈ r, x < N) (k : Nat) : (reach next k).length ≤ N := nodup_le N _ (reach_nodup next k) (reach_all next hN h k)
theorem reach_stop {k : Nat} (h : (reach next k).length ≤ k) : ∀ m, reach next (k + m) = reach next k
  | 0 => rfl
  | m + 1 => by
    have ih := reach_stop h m
    rw [← Nat.add_assoc]
    show (match (reach next (k + m))[k + m]? with | none => reach next (k + m) | some s => addAll (reach next (k + m)) (next.getD s [])) = _
    rw [ih, List.getElem?_eq_none (by omega)]
theorem reach_step {k s : Nat} (h : (reach next k)[k]? = some s) : reach next (k + 1) = addAll (reach next k) (next.getD s []) := by
  rw [reach, h]
theorem reach_none {k : Nat} (h : (reach next k)[k]? = none) : reach next (k + 1) = reach next k := by
  rw [reach, h]
theorem reach_pos (k : Nat) : 0 < (reach next k).length := by
  induction k with
  | zero => unfold reach; simp
  | succ k ih =>
    unfold reach
    split
    · exact ih
    · exact Nat.lt_of_lt_of_le ih (addAll_pre _ _).length_le
end

theorem range_snoc_get (L : Nat) : addOne (List.range L) L = List.range (L + 1) := by
  unfold addOne
  rw [if_neg (by simp), List.range_succ]
theorem addAll_row (rs : List Side) (n : Nat) (S : Sets) (t : List Sets) : ∀ k, addAll (List.range t.length) (row rs n S t k).1 = List.range (row rs n S t k).2.length
  | 0 => rfl
  | k + 1 => by
    rw [row_succ]
    simp only
    rw [addAll_snoc, addAll_row rs n S t k]
    generalize (row rs n S t k).2 = t'
    generalize stepAll rs S (cls n k) = s
    by_cases h : s ∈ t'
    · rw [show add t' s = t' by unfold add; rw [if_pos h]]
      unfold addOne
      rw [if_pos (List.mem_range.2 (place_lt h))]
    · rw [show add t' s = t' ++ [s] by unfold add; rw [if_neg h], place_new h, range_snoc_get, List.length_append]
      rfl
section
variable (rs : List Side) (n : Nat)
theorem next_pre (j : Nat) : ∀ m, (build rs n j).next <+: (build rs n (j + m)).next
  | 0 => List.prefix_refl _
  | m + 1 => by
    refine (next_pre j m).trans ?_
    rw [← Nat.add_assoc]
    show (build rs n (j + m)).next <+: ((build rs n (j + m)).go rs n).next
    unfold Bld.go
    split
    · exact List.prefix_refl _
    · exact List.prefix_append _ _
/-- rules' machine numbers its states as they are met -/
theorem reach_build (K : Nat) : ∀ k, k ≤ K → reach (build rs n K).next k = List.range (build rs n k).todo.length
  | 0, _ => by unfold reach; rfl
  | k + 1, hk => by
    have ih := reach_build K k (by omega)
    have hl := build_len rs n k
    have e2 : build rs n (k + 1) = (build rs n k).go rs n := rfl
    rcases Nat.lt_or_ge k (build rs n k).todo.length with h | h
    · have hnl : (build rs n k).next.length = k := by omega
      obtain ⟨S, hS⟩ : ∃ S, (build rs n k).todo[(build rs n k).next.length]? = some S := ⟨_, List.getElem?_eq_getElem (by rw [hnl]; exact h)⟩
      have hg := go_some rs n hS
      rw [reach_step _ (s := k) (by rw [ih, List.getElem?_range h]), ih, e2, hg]
      simp only
      have hpre := next_pre rs n (k + 1) (K - (k + 1))
      rw [show k + 1 + (K - (k + 1)) = K by omega, e2, hg] at hpre
      have hrow : (build rs n K).next[k]? = some (row rs n S (build rs n k).todo (n + 1)).1 := by
        refine pre_get hpre ?_
        simp only
        rw [List.getElem?_append_right (by omega), hnl, Nat.sub_self]
        rfl
      rw [show (build rs n K).next.getD k [] = (row rs n S (build rs n k).todo (n + 1)).1 by rw [List.getD, hrow]; rfl]
      exact addAll_row rs n S _ (n + 1)
    · have hst : (build rs n k).todo.length ≤ (build rs n k).next.length := by omega
      have hgo : (build rs n k).go rs n = build rs n k := go_none rs n hst
      rw [e2, hgo, ← ih]
      exact reach_none _ (by rw [ih, List.getElem?_eq_none (by rw [List.length_range]; exact h)])
theorem row_lt {S : Sets} {t : List Sets} : ∀ k, ∀ x ∈ (row rs n S t k).1, x < (row rs n S t k).2.length
  | 0, x, h => absurd h List.not_mem_nil
  | k + 1, x, h => by
    rw [row_succ] at h ⊢
    simp only at h ⊢
    rcases List.mem_append.1 h with h1 | h1
    · exact Nat.lt_of_lt_of_le (row_lt k x h1) (add_le _ _)
    · rw [List.mem_singleton.1 h1]; exact (place_add _ _).1
theorem build_lt : ∀ k, (∀ r ∈ (build rs n k).next, ∀ x ∈ r, x < (build rs n k).todo.length) ∧ ∀ f ∈ (build rs n k).fits, f < 2 ^ rs.length
  | 0 => ⟨fun r h => absurd h List.not_mem_nil, fun f h => absurd h List.not_mem_nil⟩
  | k + 1 => by
    obtain ⟨h1, h2⟩ := build_lt k
    have e2 : build rs n (k + 1) = (build rs n k).go rs n := rfl
    rw [e2]
    unfold Bld.go
    split
    · exact ⟨h1, h2⟩
    · rename_i S hS
      simp only
      refine ⟨fun r hr x hx => ?_, fun f hf => ?_⟩
      · rcases List.mem_append.1 hr with h | h
        · exact Nat.lt_of_lt_of_le (h1 r h x hx) (row_pre (rs := rs) (n := n) (S := S) (t := (build rs n k).todo) (n + 1)).length_le
        · rw [List.mem_singleton.1 h] at hx
          exact row_lt rs n (n + 1) x hx
      · rcases List.mem_append.1 hf with h | h
        · exact h2 f h
        · rw [List.mem_singleton.1 h]; exact doneTo_lt rs S rs.length
end
end Go.Proofs.YtbpcipobdokcfaaGreatDoor.D

/- THE WALKS OF package seg: which cuts are right; the error that is told. -/
namespace Go.Proofs.YtbpcipobdokcfaaGreatDoor
open Go.RowKit

def Eg (A : Nat → Addr) (B : Nat) (w : World) : Prop := Env [0] 209 A B w
theorem Eg.below {A : Nat → Addr} {B : Nat} {w w' : World} (h : Eg A B w) (hb : Below B w w') : Eg A B w' := Env.below h hb
theorem Eg.cell {A : Nat → Addr} {B : Nat} {w : World} (h : Eg A B w) : w.cell? ⟨0, 0, none⟩ = some (.iface 209 (.pointer (some (A 0)))) := h.var _ (List.mem_singleton.2 rfl)
def cutE (A : Nat → Addr) : Value := errV A 0

theorem stold_any (A : Nat → Addr) (B : Nat) (w : World) (hE : Eg A B w) :
    Calls Tryz.prog 38 #[cutE A] w fun e w' => e = .returned (.int .i64 110) ∧ w = w' := by
  have hg := hE.cell
  have HI := Box.mk (is_env hE 0 0 (by decide) (by decide))
  clear hE
  unfold cutE errV
  go_enter Tryz.func38, Tryz.ntmps38
  go_wp2_with fail
  refine HI.out.mono ?_; rintro e w1 ⟨rfl, rfl⟩
  go_wp2_with fail
  go_ret
  exact ⟨rfl, rfl⟩
theorem stold_nil (A : Nat → Addr) (B : Nat) (w : World) (hE : Eg A B w) :
    Calls Tryz.prog 38 #[.nilIface] w fun e w' => e = .returned (.int .i64 0) ∧ w = w' := by
  have hg := hE.cell
  have HI := Box.mk (is_nil (A 0) w)
  clear hE
  go_enter Tryz.func38, Tryz.ntmps38
  go_wp2_with fail
  refine HI.out.mono ?_; rintro e w1 ⟨rfl, rfl⟩
  go_wp2_with fail
  go_ret
  exact ⟨rfl, rfl⟩

theorem last_take {cs : List Int} {k : Nat} {x : Int} (h : cs[k]? = some x) : G.last (cs.take (k + 1)) = x := by
  unfold G.last
  rw [List.take_add_one, h]
  simp
theorem up_next {cs : List Int} {k : Nat} {x : Int} (h : cs[k]? = some x) : G.up (-1) (cs.take (k + 1)) = (G.up (-1) (cs.take k) && decide (G.last (cs.take k) < x)) := by
  rw [List.take_add_one, h]
  exact G.up_snoc x (cs.take k) (-1)

set_option maxHeartbeats 2000000 in
theorem sright_any (v : Value) (cs : List Int) (n : Int) (w : World) (hv : IntsAt w v cs) (hz : cs.length ≤ 16777216) :
    Calls Tryz.prog 17 #[v, .int .i64 n] w fun e w' => e = .returned (.bool (G.right cs n)) ∧ w = w' := by
  have HV := Box.mk hv
  obtain ⟨ao, cap, rfl⟩ := hv.slice
  clear hv
  go_enter Tryz.func17, Tryz.ntmps17
  go_wp2
  go_loop [10, 5] (fun i o => ∃ (k : Nat) (x : Int), k ≤ cs.length ∧ i = .int .i64 k ∧ o = .int .i64 x ∧ Box (G.last (cs.take k) = x) ∧ Box (G.up (-1) (cs.take k) = true)) (fun i _ => cs.length - (intOf i).toNat)
  case atStart => exact ⟨0, -1, by omega, rfl, rfl, ⟨rfl⟩, ⟨rfl⟩⟩
  case round =>
    obtain ⟨k, x, hk, rfl, rfl, hx, hu⟩ := hrel
    by_cases hlt : k < cs.length
    · obtain ⟨y, hy⟩ : ∃ y, cs[k]? = some y := ⟨_, List.getElem?_eq_getElem hlt⟩
      obtain ⟨g, off, cap2, hg1, hg2, hg3, hg4, hg5⟩ := HV.out.get (by rintro rfl; simp at hlt)
      obtain ⟨rfl, rfl⟩ : ao = some ⟨g, off, none⟩ ∧ cap = cap2 := by injection hg1 with h1 h2 h3; exact ⟨h1, h3⟩
      have hcy := hg5 k y hy
      have HN := Box.mk (up_next hy)
      have HLT := Box.mk (last_take hy)
      unfold maxLen at hg3
      clear hy hg1 hg5
      rcases Int.lt_or_le x y with h | h
      · have HU := Box.mk (show G.up (-1) (cs.take (k + 1)) = true by rw [HN.out, hu.out, hx.out, decide_eq_true h]; rfl)
        go_wp2
        go_round
        case rel => exact ⟨k + 1, y, hlt, by go_num, rfl, HLT, HU⟩
        case measure => simp [intOf]; omega
      · have HR := Box.mk (show G.right cs n = false by
          have h1 : G.up (-1) (cs.take (k + 1)) = false := by rw [HN.out, hx.out, decide_eq_false (by omega : ¬ x < y), Bool.and_false]
          have h2 : G.up (-1) cs = false := by
            rw [Bool.eq_false_iff]
            intro e
            rw [G.up_take e (k + 1)] at h1
            cases h1
          unfold G.right
          rw [h2]
          rfl)
        go_wp2
        go_ret
        exact ⟨ret_bool HR.out.symm, rfl⟩
    · have hkl : k = cs.length := by omega
      have HL := Box.mk (show G.last cs = x by have := hx.out; rwa [hkl, List.take_length] at this)
      have HU := Box.mk (show G.up (-1) cs = true by have := hu.out; rwa [hkl, List.take_length] at this)
      clear hx hu
      by_cases h0 : 0 < cs.length
      · obtain ⟨y, hy⟩ : ∃ y, cs[0]? = some y := ⟨_, List.getElem?_eq_getElem h0⟩
        obtain ⟨g, off, cap2, hg1, hg2, hg3, hg4, hg5⟩ := HV.out.get (by rintro rfl; simp at h0)
        obtain ⟨rfl, rfl⟩ : ao = some ⟨g, off, none⟩ ∧ cap = cap2 := by injection hg1 with h1 h2 h3; exact ⟨h1, h3⟩
        have hcy := hg5 0 y hy
        simp only [Nat.add_zero] at hcy
        have HR := Box.mk (show G.right cs n = (decide (y = 0) && decide (x = n)) by
          unfold G.right
          rw [HU.out, HL.out, decide_eq_true h0, List.getD_eq_getElem?_getD, hy]
          rfl)
        unfold maxLen at hg3
        clear hy hg1 hg5
        by_cases hy0 : y = 0
        · subst hy0
          by_cases hxn : x = n
          · subst hxn
            go_wp2
            go_ret
            exact ⟨ret_bool (by rw [HR.out]; simp), rfl⟩
          · have hq : (x == n) = false := beq_eq_false_iff_ne.2 hxn
            go_wp2
            go_ret
            exact ⟨ret_bool (by rw [HR.out, decide_eq_false hxn]; simp), rfl⟩
        · have hq : (y == 0) = false := beq_eq_false_iff_ne.2 hy0
          go_wp2
          go_ret
          exact ⟨ret_bool (by rw [HR.out, decide_eq_false hy0]; simp), rfl⟩
      · have HR := Box.mk (show G.right cs n = false by unfold G.right; rw [decide_eq_false h0]; simp)
        go_wp2
        go_ret
        exact ⟨ret_bool HR.out.symm, rfl⟩
end Go.Proofs.YtbpcipobdokcfaaGreatDoor

/- RANGE OVER A MAP where blocks are laid between the rounds: the iterator's block is known by its number. Nothing of any one function. -/
namespace Go.Proofs.YtbpcipobdokcfaaGreatDoor
open Go.RowKit
variable {P : Program}

theorem next_at (W : World) (ty : TypeId) (r bm since c0 : Nat) (seen : Array Nat) (es : Array MapEntry) (clock : Nat) (hr : W.heap[r]? = some (.mapIter (some bm) since seen c0)) (hb : W.heap[bm]? = some (.map es clock)) (hold : ∀ x ∈ es.toList, x.born < since) (hsc : since ≤ c0) :
    ((leftOf es seen).size = 0 ∧ (Instr.next (.pointer (some ⟨r, 0, none⟩)) false ty).run P W = .ok (.tuple #[.bool false]) W) ∨
    ∃ e ∈ (leftOf es seen).toList, ∃ W1 : World, (W1 = W ∨ W1 = W.drew) ∧ (Instr.next (.pointer (some ⟨r, 0, none⟩)) false ty).run P W = .ok (.tuple #[.bool true, e.key, e.val]) (W1.putObj r (.mapIter (some bm) since (seen.push e.born) clock)) := by
  simp only [Instr.next, getObj, Sem.run_bind, Sem.run, hr, hb, Result.andThen, next_test_false seen es since c0 hold hsc, Bool.false_eq_true, if_false]
  unfold leftOf
  have hmem : ∀ x ∈ (Array.filter (fun e => !seen.contains e.born) es).toList, x.born < since := fun x hx => hold x (by simp at hx ⊢; exact hx.1)
  generalize Array.filter (fun e => !seen.contains e.born) es = L at hmem ⊢
  have e1 : L.filter (fun x => decide (x.born < since)) = L := Array.filter_eq_self.2 (fun x hx => by simpa using hmem x (by simpa using hx))
  have e2 : L.filter (fun x => decide (x.born ≥ since)) = #[] := by
    rw [Array.filter_eq_empty_iff]
    intro x hx
    have := hmem x (by simpa using hx)
    simp
    omega
  simp only [e1, e2, Array.append_empty]
  by_cases h0 : L.size = 0
  · left
    have : L = #[] := Array.eq_empty_of_size_eq_zero h0
    subst this
    refine ⟨rfl, ?_⟩
    simp [choose, Sem.run, Question.forced]
  · right
    have hne : L.isEmpty = false := by simp [Array.isEmpty, h0]
    simp only [hne, Bool.false_eq_true, if_false, Array.empty_append, Array.size_map]
    have hch : ∃ (j : Nat) (W1 : World), j < L.size ∧ (W1 = W ∨ W1 = W.drew) ∧ (choose (Question.mapNext L.size)).run P W = .ok j W1 := by
      by_cases hf : L.size ≤ 1
      · exact ⟨0, W, by omega, .inl rfl, by simp [choose, Sem.run, Question.forced, hf]⟩
      · exact ⟨_, W.drew, Nat.mod_lt _ (by omega), .inr rfl, by
          simp only [choose, Sem.run, Question.forced, decide_eq_true_eq, hf, if_false, Question.cut]
          rfl⟩
    obtain ⟨j, W1, hj, hal, hrun⟩ := hch
    refine ⟨L[j], by simp, W1, hal, ?_⟩
    have hr1 : W1.heap[r]? = some (.mapIter (some bm) since seen c0) := by rcases hal with rfl | rfl <;> exact hr
    have hset : ∀ (o' : Obj), (setObj r o').run P W1 = .ok () (W1.putObj r o') := fun o' => by
      simp only [setObj, Sem.run]
      rw [hr1]
      rfl
    simp only [hrun, Array.getElem?_map, Array.getElem?_eq_getElem hj, Option.map_some, Sem.run_bind, hset, Result.andThen]
    rfl
theorem entry_at (W : World) (r bm since : Nat) (seen : Array Nat) (es : Array MapEntry) (clock : Nat) (e : MapEntry) (hr : W.heap[r]? = some (.mapIter (some bm) since (seen.push e.born) clock)) (hb : W.heap[bm]? = some (.map es clock)) (he : e ∈ es.toList) (hn : (es.toList.map (·.born)).Nodup) :
    (Instr.entry (.pointer (some ⟨r, 0, none⟩))).run P W = .ok (.tuple #[e.key, e.val]) W := by
  have hf : es.find? (·.born == e.born) = some e := by rw [← Array.find?_toList]; exact find_born e es.toList hn he
  simp only [Instr.entry, getObj, Sem.run_bind, Sem.run, hr, hb, Result.andThen, Array.back?_push, bne_self_eq_false, Bool.false_eq_true, if_false, hf]
  rfl
end Go.Proofs.YtbpcipobdokcfaaGreatDoor

/- THE WALKS OF package seg: the parts of cuts, by their numbers. -/
namespace Go.Proofs.YtbpcipobdokcfaaGreatDoor
open Go.RowKit

/-- the parts' entries in the map, the first k -/
def partE (cs : List Int) (i : Nat) : MapEntry := ⟨.int .i64 (i : Int), .agg #[.int .i64 (cs.getD i 0), .int .i64 (cs.getD (i + 1) 0)], i⟩
def partsE (cs : List Int) (k : Nat) : Array MapEntry := ((List.range k).map (partE cs)).toArray
theorem partsE_succ (cs : List Int) (k : Nat) : partsE cs (k + 1) = (partsE cs k).push (partE cs k) := by
  unfold partsE
  rw [List.range_succ, List.map_append]
  simp
theorem findNow_new (q : Int) : ∀ (l : List MapEntry) (i : Nat), (∀ x ∈ l, ∃ k, x.key = .int .i64 k ∧ q ≠ k) → Instr.findNow (.int .i64) (.int .i64 q) l i = some none
  | [], _, _ => rfl
  | e :: es, i, h => by
    obtain ⟨k, hk, hq⟩ := h e (List.mem_cons_self ..)
    have hq' : (q == k) = false := by simpa using hq
    have := findNow_new q es (i + 1) (fun x hx => h x (List.mem_cons_of_mem _ hx))
    simp [Instr.findNow, Instr.sameNow, hk, hq', this]
theorem partsE_new (cs : List Int) (k : Nat) : Instr.findNow (.int .i64) (.int .i64 (k : Int)) (partsE cs k).toList 0 = some none := by
  refine findNow_new _ _ _ fun x hx => ?_
  unfold partsE at hx
  obtain ⟨i, hi, rfl⟩ := List.mem_map.1 (show x ∈ (List.range k).map (partE cs) from hx)
  have := List.mem_range.1 hi
  exact ⟨i, rfl, by omega⟩
theorem partsE_mem {cs : List Int} {k : Nat} {x : MapEntry} (h : x ∈ (partsE cs k).toList) : ∃ i, i < k ∧ x = partE cs i := by
  unfold partsE at h
  obtain ⟨i, hi, rfl⟩ := List.mem_map.1 (show x ∈ (List.range k).map (partE cs) from h)
  exact ⟨i, List.mem_range.1 hi, rfl⟩
theorem partsE_born (cs : List Int) (k : Nat) : (∀ x ∈ (partsE cs k).toList, x.born < k) ∧ ((partsE cs k).toList.map (·.born)).Nodup := by
  constructor
  · intro x hx
    obtain ⟨i, hi, rfl⟩ := partsE_mem hx
    exact hi
  · have e : (partsE cs k).toList.map (·.born) = List.range k := by
      unfold partsE
      rw [List.map_map]
      conv => rhs; rw [← List.map_id (List.range k)]
      exact List.map_congr_left fun i _ => rfl
    rw [e]
    exact List.nodup_range
theorem partsE_get (cs : List Int) {k i : Nat} (h : i < k) : partE cs i ∈ (partsE cs k).toList := by
  unfold partsE
  exact List.mem_map.2 ⟨i, List.mem_range.2 h, rfl⟩

def partsPost (A : Nat → Addr) (cs : List Int) (w : World) (e : Ending) (w' : World) : Prop :=
  Below w.heap.size w w' ∧ ((G.whole cs = true ∧ ∃ m, e = .returned (.tuple #[.map (some m), .nilIface]) ∧ w'.heap[m]? = some (.map (partsE cs (cs.length - 1)) (cs.length - 1))) ∨ (G.whole cs = false ∧ e = .returned (.tuple #[.map none, cutE A])))

set_option maxHeartbeats 4000000 in
theorem parts_any (A : Nat → Addr) (B : Nat) (v : Value) (cs : List Int) (w : World) (hv : IntsAt w v cs) (hz : cs.length ≤ 1000000) (hE : Eg A B w) :
    Calls Tryz.prog 67 #[v] w (partsPost A cs w) := by
  have HV := Box.mk hv
  have hg := hE.cell
  obtain ⟨ao, cap, rfl⟩ := hv.slice
  have hDR := Box.mk (drew_below w 1)
  clear hv hE
  by_cases h0 : 0 < cs.length
  · obtain ⟨g, off, cap2, hg1, hg2, hg3, hg4, hg5⟩ := HV.out.get (by rintro rfl; simp at h0)
    obtain ⟨rfl, rfl⟩ : ao = some ⟨g, off, none⟩ ∧ cap = cap2 := by injection hg1 with h1 h2 h3; exact ⟨h1, h3⟩
    obtain ⟨nn, hnn⟩ : ∃ nn, cs.length = nn + 1 := ⟨cs.length - 1, by omega⟩
    have HG5 := Box.mk hg5
    obtain ⟨y, hy⟩ : ∃ y, cs[nn]? = some y := ⟨_, List.getElem?_eq_getElem (by omega)⟩
    have hcy := hg5 nn y hy
    have HR := Box.mk (sright_any (.slice (some ⟨g, off, none⟩) cs.length cap) cs y w HV.out (by omega))
    have HW := Box.mk (show G.whole cs = G.right cs y by
      unfold G.whole
      rw [decide_eq_true h0, hnn, Nat.add_sub_cancel, List.getD_eq_getElem?_getD, hy]
      rfl)
    have HNN := Box.mk hnn
    rw [hnn] at HR hg2 ⊢
    unfold maxLen at hg3
    clear hg1 hg5 hy hnn h0
    cases hw : G.right cs y with
    | false =>
      have HWF := Box.mk (HW.out.trans hw)
      have HRF := Box.mk hw
      clear hw
      go_enter Tryz.func67, Tryz.ntmps67
      go_wp2_with fail
      refine HR.out.mono ?_; rintro e w1 ⟨rfl, rfl⟩; rw [HRF.out]
      go_wp2_with fail
      go_region
      go_wp2_with fail
      go_ret2
      exact ⟨hDR.out, .inr ⟨HWF.out, rfl⟩⟩
    | true =>
      have HWT := Box.mk (HW.out.trans hw)
      have HRT := Box.mk hw
      have hmm := @run_makeMap Tryz.prog
      clear hw
      rcases Nat.eq_zero_or_pos nn with hz0 | hz0
      · subst hz0
        simp only [Nat.zero_add, Nat.add_zero] at HR hg2 hcy ⊢
        go_enter Tryz.func67, Tryz.ntmps67
        go_wp2_with fail
        refine HR.out.mono ?_; rintro e w1 ⟨rfl, rfl⟩; rw [HRT.out]
        go_wp2_with fail
        have HM := Box.mk (show (w.alloc (.map #[] 0)).heap[w.heap.size]? = some (.map (partsE cs (cs.length - 1)) (cs.length - 1)) by
          rw [HNN.out]
          exact World.alloc_heap_new w _)
        have HB := Box.mk (show Below w.heap.size w (w.alloc (.map #[] 0)) from (Below.refl _ _).alloc (Nat.le_refl _) _)
        clear hmm
        go_loopw [30] (fun i wr => i = .int .i64 0 ∧ Box (wr = w.alloc (.map #[] 0))) (fun _ _ => 0)
        case atStart => exact ⟨rfl, ⟨rfl⟩⟩
        case round =>
          obtain ⟨rfl, hwr⟩ := hrel
          go_wp2_with fail
          go_ret2
          exact ⟨by rw [hwr.out]; exact HB.out, .inl ⟨HWT.out, _, rfl, by rw [hwr.out]; exact HM.out⟩⟩
      go_enter Tryz.func67, Tryz.ntmps67
      go_wp2_with fail
      refine HR.out.mono ?_; rintro e w1 ⟨rfl, rfl⟩; rw [HRT.out]
      go_wp2_with fail
      clear hmm
      go_loopw [30] (fun (i : Value) (wr : World) => ∃ k : Nat, k ≤ nn ∧ i = .int .i64 k ∧ Box (wr = w.alloc (.map (partsE cs k) k))) (fun i _ => nn - (intOf i).toNat)
      case atStart => exact ⟨0, by omega, rfl, ⟨rfl⟩⟩
      case round =>
        obtain ⟨k, hk, rfl, hwr⟩ := hrel
        by_cases hlt : k < nn
        · obtain ⟨a, ha⟩ : ∃ a, cs[k]? = some a := ⟨_, List.getElem?_eq_getElem (by have := HNN.out; omega)⟩
          obtain ⟨b, hb⟩ : ∃ b, cs[k + 1]? = some b := ⟨_, List.getElem?_eq_getElem (by have := HNN.out; omega)⟩
          have hbw : Below w.heap.size w wr := by rw [hwr.out]; exact (Below.refl _ _).alloc (Nat.le_refl _) _
          have hca := (hbw.cell (p := ⟨g, off + k, none⟩) hg4).trans (HG5.out k a ha)
          have hcb := (hbw.cell (p := ⟨g, off + (k + 1), none⟩) hg4).trans (HG5.out (k + 1) b hb)
          rw [show off + (k + 1) = off + 1 + k by omega] at hcb
          have hins := map_ins (P := Tryz.prog) Tryz.underlying106 Tryz.underlying3 w (partsE cs k) k (k : Int) (.agg #[.int .i64 a, .int .i64 b]) w.heap.size rfl (partsE_new cs k)
          rw [← hwr.out, show (⟨.int .i64 (k : Int), .agg #[.int .i64 a, .int .i64 b], k⟩ : MapEntry) = partE cs k by
            unfold partE
            rw [List.getD_eq_getElem?_getD, ha, List.getD_eq_getElem?_getD, hb]
            rfl, ← partsE_succ] at hins
          clear ha hb hbw
          go_wp2_with fail
          go_roundw
          case rel => exact ⟨k + 1, hlt, by go_num, ⟨rfl⟩⟩
          case measure => simp [intOf]; omega
        · have hkn : k = nn := by omega
          have HM := Box.mk (show wr.heap[w.heap.size]? = some (.map (partsE cs (cs.length - 1)) (cs.length - 1)) by
            rw [hwr.out, HNN.out, hkn, Nat.add_sub_cancel]
            exact World.alloc_heap_new w _)
          have HB := Box.mk (show Below w.heap.size w wr by rw [hwr.out]; exact (Below.refl _ _).alloc (Nat.le_refl _) _)
          go_wp2_with fail
          go_ret2
          exact ⟨HB.out, .inl ⟨HWT.out, _, rfl, HM.out⟩⟩
  · have hl : cs.length = 0 := by omega
    have HWF := Box.mk (show G.whole cs = false by unfold G.whole; rw [decide_eq_false h0]; rfl)
    rw [hl]
    go_enter Tryz.func67, Tryz.ntmps67
    go_wp2_with fail
    go_region
    go_wp2_with fail
    go_ret2
    exact ⟨hDR.out, .inr ⟨HWF.out, rfl⟩⟩

theorem isin_any (a b p : Int) (bx : Nat) (w : World) (hc : w.cell? ⟨bx, 0, none⟩ = some (.int .i64 p)) (hlt : bx < w.heap.size) :
    Calls Tryz.prog 68 #[.agg #[.int .i64 a, .int .i64 b], .pointer (some ⟨bx, 0, none⟩)] w fun e w' => e = .returned (.bool (decide (a ≤ p) && decide (p < b))) ∧ Below w.heap.size w w' := by
  have HB := Box.mk (fun o => alloc_below w o)
  by_cases h1 : a ≤ p
  · by_cases h2 : p < b
    · go_enter Tryz.func68, Tryz.ntmps68
      go_wp2_with fail
      go_ret
      exact ⟨ret_bool (by simp [h1, h2]), HB.out _⟩
    · go_enter Tryz.func68, Tryz.ntmps68
      go_wp2_with fail
      go_ret
      exact ⟨ret_bool (by first | (simp [h1, h2]; done) | (simp; omega)), HB.out _⟩
  · go_enter Tryz.func68, Tryz.ntmps68
    go_wp2_with fail
    go_ret
    exact ⟨ret_bool (by first | (simp [h1]; done) | (simp; omega)), HB.out _⟩
end Go.Proofs.YtbpcipobdokcfaaGreatDoor

/- RULES CUT: the laws' Few (layer 11) and few (layer 12). -/
namespace Go.Proofs.YtbpcipobdokcfaaGreatDoor
open Go.RowKit Go.Shelf
attribute [local go_sem] Oper.semAt_some

def cutR (x : D.Rule) : D.Rule := ((x.1.1, x.1.2.take 12), (x.2.1.1, x.2.1.2.take 12), x.2.2)
def few11 (l : List D.Rule) : List D.Rule := (l.take 42).map cutR
def few12 (l : List D.Rule) : List D.Rule := (few11 l).take 6
theorem take_snoc'' {α : Type} (xs : List α) (k : Nat) (x : α) (h : xs[k]? = some x) : xs.take (k + 1) = xs.take k ++ [x] := by rw [List.take_add_one, h]; rfl
/-- a rule's cells -/
def ruleC (y : D.Rule × Value × Value) : List Value := [.bool y.1.1.1, y.2.1, .bool y.1.2.1.1, y.2.2, .bool y.1.2.2]
theorem pushRule : PushesN Tryz.prog 22 44 5 72 := .mk' (z := .agg #[.bool false, .slice none 0 0, .bool false, .slice none 0 0, .bool false]) Tryz.underlying22 (by kernel_rfl) rfl
/-- rules with the values of their sides, that can be read -/
def RulesV (W : World) (L : List (D.Rule × Value × Value)) : Prop := ∀ y ∈ L, ItemsAt W y.2.1 y.1.1.2 ∧ ItemsAt W y.2.2 y.1.2.1.2
theorem rules_own {W : World} {base n : Nat} {v : Value} {L : List (D.Rule × Value × Value)} (h : W.ownsRow base 44 5 v n (L.flatMap ruleC)) (hn : n = L.length) (hV : RulesV W L) : RulesAt W v (L.map (·.1)) := by
  subst hn
  rcases h.2 with ⟨h1, h2⟩ | ⟨g, cap, cur, h1, h2, h3, h4, h5, h6, h7⟩
  · rw [List.eq_nil_of_length_eq_zero h2]; exact .inl ⟨h1, rfl⟩
  · refine .inr ⟨g, 0, none, cap, by rw [h1, List.length_map], by rw [List.length_map]; exact h4, h5, fun hn => ⟨rfl, (Array.getElem?_eq_some_iff.1 h3).1, fun i x hx => ?_⟩⟩
    rw [List.getElem?_map] at hx
    obtain ⟨y, hy, rfl⟩ := Option.map_eq_some_iff.1 hx
    have hc : ∀ (j : Nat) (u : Value), j < 5 → (ruleC y)[j]? = some u → W.cell? ⟨g, 0 + i * 5 + j, none⟩ = some u := by
      intro j u hj hu
      have h8 := h.cells (g := g) (by rw [h1]; rfl) (i * 5 + j) u (by rw [flat_get ruleC 5 L i j y (fun z _ => rfl) hy hj]; exact hu)
      rw [show (⟨g, 0, none⟩ : Addr).add (i * 5 + j) = ⟨g, 0 + i * 5 + j, none⟩ by unfold Addr.add; split <;> simp_all] at h8
      exact h8
    obtain ⟨k1, k2⟩ := hV y (List.mem_of_getElem? hy)
    exact ⟨y.2.1, y.2.2, hc 0 _ (by omega) rfl, hc 1 _ (by omega) rfl, hc 2 _ (by omega) rfl, hc 3 _ (by omega) rfl, hc 4 _ (by omega) rfl, k1, k2⟩

set_option maxRecDepth 100000 in
set_option maxHeartbeats 8000000 in
theorem few11_any (v : Value) (l : List D.Rule) (w : World) (hv : RulesAt w v l) :
    Calls Tryz.prog 30 #[v] w fun e w' => Below w.heap.size w w' ∧ ∃ v', e = .returned v' ∧ ∃ L : List (D.Rule × Value × Value), L.map (·.1) = few11 l ∧ RulesV w L ∧ w'.ownsRow w.heap.size 44 5 v' L.length (L.flatMap ruleC) := by
  have HR := Box.mk hv
  obtain ⟨ao, cap, rfl⟩ := hv.slice
  obtain ⟨m, hm⟩ : ∃ m, m = min l.length 42 := ⟨_, rfl⟩
  have HM := Box.mk hm
  have hm1 : m ≤ l.length := by omega
  have hm2 : m ≤ 42 := by omega
  have HS0 := Box.mk (show ∃ L : List (D.Rule × Value × Value), L.length = 0 ∧ L.map (·.1) = (l.take 0).map cutR ∧ RulesV w L ∧ Sep [Pc.row w.heap.size 44 5 (.slice none 0 0) 0 (L.flatMap ruleC), Pc.old w.heap.size w] w from
    ⟨[], rfl, rfl, fun y hy => absurd hy List.not_mem_nil, (Sep.start w).nil_row _ _ _⟩)
  clear hv hm
  go_enter Tryz.func30, Tryz.ntmps30
  go_wp2_with fail
  go_loopw [3, 4] (fun o i wr => ∃ k : Nat, k ≤ m ∧ i = .int .i64 k ∧ Box (∃ L : List (D.Rule × Value × Value), L.length = k ∧ L.map (·.1) = (l.take k).map cutR ∧ RulesV w L ∧ Sep [Pc.row w.heap.size 44 5 o k (L.flatMap ruleC), Pc.old w.heap.size w] wr)) (fun _ i _ => m - (intOf i).toNat)
  case atStart => exact ⟨0, by omega, rfl, HS0⟩
  case round =>
    obtain ⟨k, hk, rfl, hbox⟩ := hrel
    obtain ⟨L, hL1, hL2, hL3, hsep⟩ := hbox.out
    have HBR := Box.mk (show Below w.heap.size w wr from hsep.bel (by simp))
    have HL1 := Box.mk hL1
    have HL2 := Box.mk hL2
    have HL3 := Box.mk hL3
    have HSEP := Box.mk hsep
    obtain ⟨oo, oc, rfl, ho1, ho2⟩ := own_shape (hsep.row 0 rfl)
    clear hbox hL1 hL2 hL3 hsep
    by_cases hlt : k < m
    · obtain ⟨x, hx⟩ : ∃ x, l[k]? = some x := ⟨_, List.getElem?_eq_getElem (by omega)⟩
      obtain ⟨bg, off, cap2, hg1, hg2, hg3, hg4, hg5⟩ := (HR.out.below HBR.out).get (by rintro rfl; simp at hm1; omega)
      obtain ⟨rfl, rfl⟩ : ao = some ⟨bg, off, none⟩ ∧ cap = cap2 := by injection hg1 with h1 h2 h3; exact ⟨h1, h3⟩
      obtain ⟨vl, vr, hc0, hc1, hc2, hc3, hc4, hil, hir⟩ := hg5 k x hx
      obtain ⟨bg', off', cap2', kg1, kg2, kg3, kg4, kg5⟩ := HR.out.get (by rintro rfl; simp at hm1; omega)
      obtain ⟨rfl, rfl⟩ : bg = bg' ∧ off = off' := by injection kg1 with h1 h2 h3; injection h1 with h1; injection h1 with h1 h2; exact ⟨h1, h2⟩
      obtain ⟨vl', vr', kc0, kc1, kc2, kc3, kc4, kil, kir⟩ := kg5 k x hx
      obtain rfl : vl = vl' := by
        have := (HBR.out.cell (p := ⟨bg, off + k * 5 + 1, none⟩) kg4).trans kc1
        rw [hc1] at this; simpa using this
      obtain rfl : vr = vr' := by
        have := (HBR.out.cell (p := ⟨bg, off + k * 5 + 3, none⟩) kg4).trans kc3
        rw [hc3] at this; simpa using this
      have HCL := Box.mk (fun W (h : Below w.heap.size w W) => cut_any x.1.1 vl x.1.2 W (kil.below h))
      have HCR := Box.mk (fun W (h : Below w.heap.size w W) => cut_any x.2.1.1 vr x.2.1.2 W (kir.below h))
      have HKL := Box.mk kil
      have HKR := Box.mk kir
      have HTK := Box.mk (take_snoc'' l k x hx)
      have hk42 : k < 42 := by omega
      have hkl : k < l.length := by omega
      have hkc : k < cap := by omega
      unfold maxLen at hg3
      obtain ⟨al, cl, rfl⟩ := kil.slice
      obtain ⟨ar, cr, rfl⟩ := kir.slice
      obtain ⟨⟨stl, il⟩, ⟨str, ir⟩, br⟩ := x
      simp only at hc0 hc1 hc2 hc3 hc4 HCL HCR HKL HKR
      have HFF := Box.mk (show ∀ W, Below wr.heap.size wr W → W.cell? ⟨bg, off + k * 5, none⟩ = some (.bool stl) ∧ W.cell? ⟨bg, off + k * 5 + 1, none⟩ = some (.slice al il.length cl) ∧ W.cell? ⟨bg, off + k * 5 + 2, none⟩ = some (.bool str) ∧ W.cell? ⟨bg, off + k * 5 + 3, none⟩ = some (.slice ar ir.length cr) ∧ W.cell? ⟨bg, off + k * 5 + 4, none⟩ = some (.bool br) from fun W h =>
        ⟨(h.cell (p := ⟨bg, off + k * 5, none⟩) hg4).trans hc0, (h.cell (p := ⟨bg, off + k * 5 + 1, none⟩) hg4).trans hc1, (h.cell (p := ⟨bg, off + k * 5 + 2, none⟩) hg4).trans hc2, (h.cell (p := ⟨bg, off + k * 5 + 3, none⟩) hg4).trans hc3, (h.cell (p := ⟨bg, off + k * 5 + 4, none⟩) hg4).trans hc4⟩)
      have HBD := Box.mk (show Below wr.heap.size wr wr.drew from ⟨rfl, rfl, rfl, Nat.le_refl _, fun _ _ => rfl⟩)
      clear hg1 hg5 kg1 kg5 hil hir kil kir kc0 kc1 kc2 kc3 kc4 hc0 hc1 hc2 hc3 hc4 hx kg2 kg3
      go_wp2_with fail
      refine wp_region_K 20 (fun W => W.cell? ⟨bg, off + k * 5, none⟩ = some (.bool stl) ∧ W.cell? ⟨bg, off + k * 5 + 1, none⟩ = some (.slice al il.length cl) ∧ W.cell? ⟨bg, off + k * 5 + 2, none⟩ = some (.bool str) ∧ W.cell? ⟨bg, off + k * 5 + 3, none⟩ = some (.slice ar ir.length cr) ∧ W.cell? ⟨bg, off + k * 5 + 4, none⟩ = some (.bool br)) (by kernel_rfl) ?_
      have HF0 := Box.mk (HFF.out _ HBD.out)
      refine wpAnyK_take (i := 0) (v := ?_) rfl (by kernel_rfl) (fun _ _ _ h => h) (Or.inl ⟨by kernel_rfl, ?_⟩) HF0.out ?_
      rotate_left
      · first | (intro w hw; obtain ⟨q1, q2, q3, q4, q5⟩ := hw; go_simp; done) | (intro w hw; obtain ⟨q1, q2, q3, q4, q5⟩ := hw; go_simp; with_reducible rfl)
      refine wpAnyK_take (i := 1) (v := ?_) rfl (by kernel_rfl) (fun _ _ _ h => h) (Or.inl ⟨by kernel_rfl, ?_⟩) HF0.out ?_
      rotate_left
      · first | (intro w hw; obtain ⟨q1, q2, q3, q4, q5⟩ := hw; go_simp; done) | (intro w hw; obtain ⟨q1, q2, q3, q4, q5⟩ := hw; go_simp; with_reducible rfl)
      refine wpAnyK_take (i := 2) (v := ?_) rfl (by kernel_rfl) (fun _ _ _ h => h) (Or.inl ⟨by kernel_rfl, ?_⟩) HF0.out ?_
      rotate_left
      · first | (intro w hw; obtain ⟨q1, q2, q3, q4, q5⟩ := hw; go_simp; done) | (intro w hw; obtain ⟨q1, q2, q3, q4, q5⟩ := hw; go_simp; with_reducible rfl)
      refine wpAnyK_take (i := 3) (v := ?_) rfl (by kernel_rfl) (fun _ _ _ h => h) (Or.inl ⟨by kernel_rfl, ?_⟩) HF0.out ?_
      rotate_left
      · first | (intro w hw; obtain ⟨q1, q2, q3, q4, q5⟩ := hw; go_simp; done) | (intro w hw; obtain ⟨q1, q2, q3, q4, q5⟩ := hw; go_simp; with_reducible rfl)
      refine wpAnyK_take (i := 4) (v := ?_) rfl (by kernel_rfl) (fun _ _ _ h => h) (Or.inl ⟨by kernel_rfl, ?_⟩) HF0.out ?_
      rotate_left
      · first | (intro w hw; obtain ⟨q1, q2, q3, q4, q5⟩ := hw; go_simp; done) | (intro w hw; obtain ⟨q1, q2, q3, q4, q5⟩ := hw; go_simp; with_reducible rfl)
      refine wpAnyK_take (i := 5) (v := ?_) rfl (by kernel_rfl) (fun _ _ _ h => h) (Or.inl ⟨by kernel_rfl, ?_⟩) HF0.out ?_
      rotate_left
      · first | (intro w hw; obtain ⟨q1, q2, q3, q4, q5⟩ := hw; go_simp; done) | (intro w hw; obtain ⟨q1, q2, q3, q4, q5⟩ := hw; go_simp; with_reducible rfl)
      refine wpAnyK_take (i := 7) (v := ?_) rfl (by kernel_rfl) (fun _ _ _ h => h) (Or.inl ⟨by kernel_rfl, ?_⟩) HF0.out ?_
      rotate_left
      · first | (intro w hw; obtain ⟨q1, q2, q3, q4, q5⟩ := hw; go_simp; done) | (intro w hw; obtain ⟨q1, q2, q3, q4, q5⟩ := hw; go_simp; with_reducible rfl)
      refine wpAnyK_take (i := 8) (v := ?_) rfl (by kernel_rfl) (fun _ _ _ h => h) (Or.inl ⟨by kernel_rfl, ?_⟩) HF0.out ?_
      rotate_left
      · first | (intro w hw; obtain ⟨q1, q2, q3, q4, q5⟩ := hw; go_simp; done) | (intro w hw; obtain ⟨q1, q2, q3, q4, q5⟩ := hw; go_simp; with_reducible rfl)
      refine wpAnyK_take (i := 9) (v := ?_) rfl (by kernel_rfl) (fun _ _ _ h => h) (Or.inl ⟨by kernel_rfl, ?_⟩) HF0.out ?_
      rotate_left
      · first | (intro w hw; obtain ⟨q1, q2, q3, q4, q5⟩ := hw; go_simp; done) | (intro w hw; obtain ⟨q1, q2, q3, q4, q5⟩ := hw; go_simp; with_reducible rfl)
      refine wpAnyK_take (i := 10) (v := ?_) rfl (by kernel_rfl) (fun _ _ _ h => h) (Or.inl ⟨by kernel_rfl, ?_⟩) HF0.out ?_
      rotate_left
      · first | (intro w hw; obtain ⟨q1, q2, q3, q4, q5⟩ := hw; go_simp; done) | (intro w hw; obtain ⟨q1, q2, q3, q4, q5⟩ := hw; go_simp; with_reducible rfl)
      refine wpAnyK_take (i := 11) (v := ?_) rfl (by kernel_rfl) (fun _ _ _ h => h) (Or.inl ⟨by kernel_rfl, ?_⟩) HF0.out ?_
      rotate_left
      · first | (intro w hw; obtain ⟨q1, q2, q3, q4, q5⟩ := hw; go_simp; done) | (intro w hw; obtain ⟨q1, q2, q3, q4, q5⟩ := hw; go_simp; with_reducible rfl)
      refine wpAnyK_take (i := 13) (v := ?_) rfl (by kernel_rfl) (fun _ _ _ h => h) (Or.inl ⟨by kernel_rfl, ?_⟩) HF0.out ?_
      rotate_left
      · first | (intro w hw; obtain ⟨q1, q2, q3, q4, q5⟩ := hw; go_simp; done) | (intro w hw; obtain ⟨q1, q2, q3, q4, q5⟩ := hw; go_simp; with_reducible rfl)
      refine wpAnyK_take (i := 14) (v := ?_) rfl (by kernel_rfl) (fun _ _ _ h => h) (Or.inl ⟨by kernel_rfl, ?_⟩) HF0.out ?_
      rotate_left
      · first | (intro w hw; obtain ⟨q1, q2, q3, q4, q5⟩ := hw; go_simp; done) | (intro w hw; obtain ⟨q1, q2, q3, q4, q5⟩ := hw; go_simp; with_reducible rfl)
      refine wpAnyK_take (i := 15) (v := ?_) rfl (by kernel_rfl) (fun _ _ _ h => h) (Or.inl ⟨by kernel_rfl, ?_⟩) HF0.out ?_
      rotate_left
      · first | (intro w hw; obtain ⟨q1, q2, q3, q4, q5⟩ := hw; go_simp; done) | (intro w hw; obtain ⟨q1, q2, q3, q4, q5⟩ := hw; go_simp; with_reducible rfl)
      refine wpAnyK_take (i := 16) (v := ?_) rfl (by kernel_rfl) (fun _ _ _ h => h) (Or.inl ⟨by kernel_rfl, ?_⟩) HF0.out ?_
      rotate_left
      · first | (intro w hw; obtain ⟨q1, q2, q3, q4, q5⟩ := hw; go_simp; done) | (intro w hw; obtain ⟨q1, q2, q3, q4, q5⟩ := hw; go_simp; with_reducible rfl)
      refine wpAnyK_take (i := 17) (v := ?_) rfl (by kernel_rfl) (fun _ _ _ h => h) (Or.inl ⟨by kernel_rfl, ?_⟩) HF0.out ?_
      rotate_left
      · first | (intro w hw; obtain ⟨q1, q2, q3, q4, q5⟩ := hw; go_simp; done) | (intro w hw; obtain ⟨q1, q2, q3, q4, q5⟩ := hw; go_simp; with_reducible rfl)
      refine wpAnyK_one (i := 6) (by kernel_rfl) rfl (fun KK hKK => ?_)
      go_simp
      go_wp2_with (go_at_call 53; refine (HCL.out _ (HBR.out.trans (HBD.out.mono HBR.out.size))).mono ?_; rintro e w7 ⟨⟨vl2, rfl, hvl⟩, hb7⟩)
      have HB7 := Box.mk (show Below wr.heap.size wr w7 from HBD.out.trans (hb7.mono (Nat.le_refl _)))
      have HVL := Box.mk (hvl w HKL.out)
      clear hb7 hvl
      refine hKK.out _ _ (fun _ => HFF.out _ HB7.out) ?_
      clear hKK KK
      refine wpAnyK_one (i := 12) (by kernel_rfl) rfl (fun KK hKK => ?_)
      go_simp
      go_wp2_with (go_at_call 53; refine (HCR.out _ (HBR.out.trans (HB7.out.mono HBR.out.size))).mono ?_; rintro e w8 ⟨⟨vr2, rfl, hvr⟩, hb8⟩)
      have HB8 := Box.mk (show Below wr.heap.size wr w8 from HB7.out.trans (hb8.mono HB7.out.size))
      have HVR := Box.mk (hvr w HKR.out)
      clear hb8 hvr
      refine hKK.out _ _ (fun _ => HFF.out _ HB8.out) ?_
      clear hKK KK
      obtain ⟨al2, cl2, hv2⟩ := HVL.out.slice
      obtain ⟨ar2, cr2, hv3⟩ := HVR.out.slice
      generalize (il.take 12).length = nl at hv2
      generalize (ir.take 12).length = nr at hv3
      subst hv2
      subst hv3
      refine wpAnyK_one (i := 18) (by kernel_rfl) rfl (fun KK hKK => ?_)
      go_simp
      refine hKK.out _ _ (fun _ => HFF.out _ HB8.out) ?_
      clear hKK KK
      refine wpAnyK_one (i := 19) (by kernel_rfl) rfl (fun KK hKK => ?_)
      go_simp
      refine hKK.out _ _ (fun _ => HFF.out _ (HB8.out.alloc HB8.out.size _)) ?_
      clear hKK KK
      have HS8 := Box.mk (HSEP.out.below HB8.out)
      have hbs8 : w.heap.size ≤ w8.heap.size := Nat.le_trans HBR.out.size HB8.out.size
      refine wpAnyK_one (i := 20) (by kernel_rfl) rfl (fun KK hKK => ?_)
      refine step_pushN (cs := ruleC (cutR ((stl, il), (str, ir), br), .slice al2 nl cl2, .slice ar2 nr cr2)) rfl _ _ 22 rfl pushRule (by decide) HS8.out 0 rfl (by kernel_rfl) (by kernel_rfl) rfl (by intro u hu; simp only [ruleC, List.mem_cons, List.not_mem_nil, or_false] at hu; rcases hu with rfl | rfl | rfl | rfl | rfl <;> rfl) (by omega) (by omega) hbs8 ?_
      rintro v' w9 hS9 -
      refine hKK.out _ _ (fun h => by cases h) ?_
      clear hKK KK
      refine wpAnyK_one (i := 21) (by kernel_rfl) rfl (fun KK hKK => ?_)
      go_simp
      refine hKK.out _ _ (fun h => by cases h) ?_
      clear hKK KK
      refine wpAnyK_done (by kernel_rfl) ?_ _
      refine NoPanic.normal ?_
      have HN := Box.mk (show ∃ L : List (D.Rule × Value × Value), L.length = k + 1 ∧ L.map (·.1) = (l.take (k + 1)).map cutR ∧ RulesV w L ∧ Sep [Pc.row w.heap.size 44 5 v' (k + 1) (L.flatMap ruleC), Pc.old w.heap.size w] w9 by
        refine ⟨L ++ [(cutR ((stl, il), (str, ir), br), .slice al2 nl cl2, .slice ar2 nr cr2)], ?_, ?_, ?_, ?_⟩
        · rw [List.length_append, HL1.out]; rfl
        · rw [List.map_append, HL2.out, HTK.out, List.map_append]; rfl
        · intro y hy
          rcases List.mem_append.1 hy with h | h
          · exact HL3.out y h
          · rw [List.mem_singleton.1 h]; exact ⟨HVL.out, HVR.out⟩
        · rw [List.flatMap_append, List.flatMap_singleton]; exact hS9)
      clear hS9
      go_wp2_with fail
      go_roundw
      case rel => exact ⟨k + 1, hlt, by go_num, HN⟩
      case measure => simp [intOf]; omega
    · have hkm : k = m := by omega
      have HKM := Box.mk hkm
      have hd : l.length ≤ k ∨ (k < l.length ∧ 42 ≤ k) := by have := HM.out; omega
      clear hkm
      rcases hd with hd | ⟨hd, hd2⟩
      all_goals
        go_wp2_with fail
        go_ret
        refine ⟨HBR.out, _, rfl, L, ?_, HL3.out, by rw [HL1.out]; exact HSEP.out.row 0 rfl⟩
        rw [HL2.out]
        unfold few11
        rw [HKM.out, HM.out]
        rcases Nat.le_total l.length 42 with h | h
        · rw [Nat.min_eq_left h, List.take_of_length_le h, List.take_length]
        · rw [Nat.min_eq_right h]
end Go.Proofs.YtbpcipobdokcfaaGreatDoor

/- RULES CUT, the second half; a rule of two sets; lists that are laid. -/
namespace Go.Proofs.YtbpcipobdokcfaaGreatDoor
open Go.RowKit Go.Shelf
attribute [local go_sem] Oper.semAt_some

theorem items_one (W : World) (a : Int) (T : TypeId) : ItemsAt (W.alloc (.cells #[.int .i64 a, .int .i64 0] T)) (.slice (some ⟨W.heap.size, 0, none⟩) 1 1) [(a, 0)] := by
  refine .inr ⟨W.heap.size, 0, none, 1, rfl, by simp, by unfold maxLen; omega, fun _ => ⟨rfl, by simp, fun i x hx => ?_⟩⟩
  match i, hx with
  | 0, hx =>
    simp only [List.getElem?_cons_zero, Option.some.injEq] at hx
    subst hx
    exact ⟨cell_of_row _ _ _ _ _ _ (heap_alloc_new W _), cell_of_row _ _ _ _ _ _ (heap_alloc_new W _)⟩
  | i + 1, hx => simp at hx
theorem rules_one {W : World} {x : D.Rule} {vl vr : Value} (hl : ItemsAt W vl x.1.2) (hr : ItemsAt W vr x.2.1.2) (T : TypeId) :
    RulesAt (W.alloc (.cells #[.bool x.1.1, vl, .bool x.2.1.1, vr, .bool x.2.2] T)) (.slice (some ⟨W.heap.size, 0, none⟩) 1 1) [x] := by
  refine .inr ⟨W.heap.size, 0, none, 1, rfl, by simp, by unfold maxLen; omega, fun _ => ⟨rfl, by simp, fun i y hy => ?_⟩⟩
  match i, hy with
  | 0, hy =>
    simp only [List.getElem?_cons_zero, Option.some.injEq] at hy
    subst hy
    have hb := alloc_below W (.cells #[.bool x.1.1, vl, .bool x.2.1.1, vr, .bool x.2.2] T)
    exact ⟨vl, vr, cell_of_row _ _ _ _ _ _ (heap_alloc_new W _), cell_of_row _ _ _ _ _ _ (heap_alloc_new W _), cell_of_row _ _ _ _ _ _ (heap_alloc_new W _), cell_of_row _ _ _ _ _ _ (heap_alloc_new W _), cell_of_row _ _ _ _ _ _ (heap_alloc_new W _), hl.below hb, hr.below hb⟩
  | i + 1, hy => simp at hy
theorem ints_lit (W : World) (xs : List Int) (T : TypeId) (n : Nat) (hn : n = xs.length) (hz : n ≤ 1000000) (cs : Array Value) (hc : cs = (xs.map (Value.int .i64)).toArray) : IntsAt (W.alloc (.cells cs T)) (.slice (some ⟨W.heap.size, 0, none⟩) n n) xs := by
  subst hn hc
  refine .inr ⟨W.heap.size, 0, none, xs.length, rfl, Nat.le_refl _, by unfold maxLen; omega, fun _ => ⟨rfl, by simp, fun i x hx => ?_⟩⟩
  rw [Nat.zero_add, cell_of_row _ _ _ _ _ _ (heap_alloc_new W _)]
  simp [hx]

end Go.Proofs.YtbpcipobdokcfaaGreatDoor

/- IS A MACHINE KNOWN? The laws' shown of layer 12. -/
namespace Go.Proofs.YtbpcipobdokcfaaGreatDoor
open Go.RowKit Go.Shelf
attribute [local go_sem] Oper.semAt_some

def one12 : D.Rule := ((false, [(1, 0)]), (false, [(2, 0)]), false)
def M012 : D.Mach := ([[1, 0, 0], [1, 0, 0]], [0, 1])
set_option maxRecDepth 100000 in
theorem code12_a : compCode [one12] 2 = 0 ∧ compM [one12] 2 = M012 := by
  have h1 : rulesB 2 [one12] = true := by decide +kernel
  have h2 : (D.build (lefts [one12]) 2 2).todo.length ≤ (D.build (lefts [one12]) 2 2).next.length := by decide +kernel
  have h3 : D.build (lefts [one12]) 2 300 = D.build (lefts [one12]) 2 2 := D.build_end _ _ (by omega) h2
  have h4 : D.isFew (lefts [one12]) 2 = true := D.few_end _ _ (k := 2) (by omega) h2 (by decide +kernel)
  have h5 : machB (D.build (lefts [one12]) 2 2) = M012 := by decide +kernel
  refine ⟨?_, ?_⟩
  · unfold compCode; rw [h1, show (2 : Int).toNat = 2 from rfl, h4]; rfl
  · unfold compM machOf; rw [h1, show (2 : Int).toNat = 2 from rfl, h4, h3, h5]; rfl
theorem code12_b : compCode [one12] 1 = 90 := by
  have h1 : rulesB 1 [one12] = false := by decide +kernel
  unfold compCode; rw [h1]; rfl
theorem go12_a : machR 2 M012 = true ∧ goM 2 M012 [0, 1, 0, 7] = [0, 1, 0, 1, 0] ∧ fitsM 2 M012 [0, 1] = [0, 1, 0] := by decide +kernel
theorem fit12 : MachFit M012 := ⟨by decide, by decide, by decide⟩
theorem rule12 : ∀ x ∈ [one12], ruleFit x := by
  intro x hx
  rw [List.mem_singleton.1 hx]
  exact ⟨by decide, by decide⟩
/-- the errors of this layer, and the world that they lie in -/
structure Sd (A : Nat → Addr) (B : Nat) (w : World) : Prop where
  e : E A B w
  d : Ed A B w
  le : B ≤ w.heap.size
theorem Sd.below {A : Nat → Addr} {B : Nat} {w w' : World} (h : Sd A B w) (hb : Below w.heap.size w w') : Sd A B w' := ⟨h.e.below (hb.mono h.le), h.d.below (hb.mono h.le), Nat.le_trans h.le hb.size⟩
theorem below_tr {a b c : World} (h : Below a.heap.size a b) (k : Below b.heap.size b c) : Below a.heap.size a c := h.trans (k.mono h.size)
theorem yes_of {P : Program} {f : FuncId} {args : Array Value} {w : World} {p : Prop} [Decidable p] (h : Calls P f args w fun e w' => e = .returned (.bool (decide p)) ∧ Below w.heap.size w w') (hp : p) : Calls P f args w fun e w' => e = .returned (.bool true) ∧ Below w.heap.size w w' :=
  h.mono fun _ _ ⟨h1, h2⟩ => ⟨by rw [h1, decide_eq_true hp], h2⟩
theorem ml_lit (W : World) (T1 T2 T3 : TypeId) : MachAt ((((W.alloc (.cells #[.int .i64 1, .int .i64 0, .int .i64 0] T1)).alloc (.cells #[.int .i64 1, .int .i64 0, .int .i64 0] T1)).alloc (.cells #[.slice (some ⟨W.heap.size, 0, none⟩) 3 3, .slice (some ⟨W.heap.size + 1, 0, none⟩) 3 3] T2)).alloc (.cells #[.int .i64 0, .int .i64 1] T3))
    (.agg #[.slice (some ⟨W.heap.size + 1 + 1, 0, none⟩) 2 2, .slice (some ⟨W.heap.size + 1 + 1 + 1, 0, none⟩) 2 2]) M012 := by
  obtain ⟨W1, h1⟩ : ∃ W1, W1 = W.alloc (.cells #[.int .i64 1, .int .i64 0, .int .i64 0] T1) := ⟨_, rfl⟩
  obtain ⟨W2, h2⟩ : ∃ W2, W2 = W1.alloc (.cells #[.int .i64 1, .int .i64 0, .int .i64 0] T1) := ⟨_, rfl⟩
  obtain ⟨W3, h3⟩ : ∃ W3, W3 = W2.alloc (.cells #[.slice (some ⟨W.heap.size, 0, none⟩) 3 3, .slice (some ⟨W.heap.size + 1, 0, none⟩) 3 3] T2) := ⟨_, rfl⟩
  obtain ⟨W4, h4⟩ : ∃ W4, W4 = W3.alloc (.cells #[.int .i64 0, .int .i64 1] T3) := ⟨_, rfl⟩
  have s1 : W1.heap.size = W.heap.size + 1 := by rw [h1]; simp
  have s2 : W2.heap.size = W.heap.size + 1 + 1 := by rw [h2]; simp [s1]
  have s3 : W3.heap.size = W.heap.size + 1 + 1 + 1 := by rw [h3]; simp [s2]
  rw [← h1, ← h2, ← h3, ← h4]
  have i1 := ints_lit W [1, 0, 0] T1 3 rfl (by omega) #[.int .i64 1, .int .i64 0, .int .i64 0] rfl
  have i2 := ints_lit W1 [1, 0, 0] T1 3 rfl (by omega) #[.int .i64 1, .int .i64 0, .int .i64 0] rfl
  have i3 := ints_lit W3 [0, 1] T3 2 rfl (by omega) #[.int .i64 0, .int .i64 1] rfl
  rw [← h1] at i1
  rw [← h2] at i2
  rw [← h4] at i3
  have b34 : Below W3.heap.size W3 W4 := by rw [h4]; exact alloc_below _ _
  have b23 : Below W2.heap.size W2 W3 := by rw [h3]; exact alloc_below _ _
  have b12 : Below W1.heap.size W1 W2 := by rw [h2]; exact alloc_below _ _
  have b24 := below_tr b23 b34
  have b14 := below_tr b12 b24
  have hbk : Blk W3 W2.heap.size T2 #[.slice (some ⟨W.heap.size, 0, none⟩) 3 3, .slice (some ⟨W.heap.size + 1, 0, none⟩) 3 3] := by rw [h3]; exact Blk.new _ _ _
  have hbk4 := hbk.below b34 hbk.lt
  refine ⟨_, _, rfl, .inr ⟨W.heap.size + 1 + 1, 0, none, 2, rfl, Nat.le_refl _, by unfold maxLen; omega, fun _ => ⟨rfl, by have := hbk4.lt; omega, fun i r hr => ?_⟩⟩, by rw [← s3]; exact i3⟩
  rw [s2] at hbk4
  match i, hr with
  | 0, hr =>
    simp only [M012, List.getElem?_cons_zero, Option.some.injEq] at hr
    subst hr
    exact ⟨_, (hbk4.cell 0).trans rfl, i1.below b14⟩
  | 1, hr =>
    simp only [M012, List.getElem?_cons_succ, List.getElem?_cons_zero, Option.some.injEq] at hr
    subst hr
    exact ⟨_, (hbk4.cell 1).trans rfl, by rw [← s1]; exact i2.below b24⟩
  | i + 2, hr => simp [M012] at hr

end Go.Proofs.YtbpcipobdokcfaaGreatDoor

/- THE LAWS OF LAYER 12, WALKED: rules' machines. -/
namespace Go.Proofs.YtbpcipobdokcfaaGreatDoor
open Go.RowKit Go.Shelf
attribute [local go_sem] Oper.semAt_some

theorem few12_len (l : List D.Rule) : (few12 l).length ≤ 6 := by unfold few12; rw [List.length_take]; omega
theorem few12_fit (l : List D.Rule) : ∀ x ∈ few12 l, ruleFit x := by
  intro x hx
  unfold few12 few11 at hx
  obtain ⟨y, -, rfl⟩ := List.mem_map.1 (List.mem_of_mem_take hx)
  unfold ruleFit cutR
  simp only [List.length_take]
  omega
theorem build_rows (sd : List D.Side) (n : Nat) : ∀ k, ∀ r ∈ (D.build sd n k).next, r.length = n + 1
  | 0, r, h => absurd h List.not_mem_nil
  | k + 1, r, h => by
    have e : D.build sd n (k + 1) = (D.build sd n k).go sd n := rfl
    rw [e] at h
    unfold D.Bld.go at h
    split at h
    · exact build_rows sd n k r h
    · rcases List.mem_append.1 h with h | h
      · exact build_rows sd n k r h
      · rw [List.mem_singleton.1 h, D.row_len]
theorem compM_fit (rs : List D.Rule) (n : Int) : MachFit (compM rs n) := by
  unfold compM
  split
  · rename_i h
    rw [Bool.and_eq_true] at h
    obtain ⟨h1, h2, h3, -⟩ := rulesB_parts h.1
    have hf : (D.build (lefts rs) n.toNat 300).todo.length ≤ 300 := of_decide_eq_true h.2
    have hl := D.build_len (lefts rs) n.toNat 300
    have hr := build_rows (lefts rs) n.toNat 300
    unfold machOf machB MachFit
    generalize D.build (lefts rs) n.toNat 300 = BB at *
    refine ⟨by simp only [List.length_map]; omega, by simp only [List.length_map]; omega, fun r hr' => ?_⟩
    obtain ⟨r0, h5, rfl⟩ := List.mem_map.1 hr'
    rw [List.length_map, hr r0 h5]
    omega
  · exact ⟨by decide, by decide, fun r hr => absurd hr List.not_mem_nil⟩

end Go.Proofs.YtbpcipobdokcfaaGreatDoor

/- A MACHINE CUT, numbers cut: the laws' Table and list (layer 12). -/
namespace Go.Proofs.YtbpcipobdokcfaaGreatDoor
open Go.RowKit Go.Shelf
attribute [local go_sem] Oper.semAt_some

theorem ints_take {w : World} {ao : Option Addr} {cap : Nat} {xs : List Int} (h : IntsAt w (.slice ao xs.length cap) xs) (n : Nat) : IntsAt w (.slice ao (xs.take n).length cap) (xs.take n) := by
  rcases h with ⟨h1, rfl⟩ | ⟨b, off, sp, cap, h1, h2, h3, h4⟩
  · injection h1 with h1 h2 h3
    subst h1 h3
    simp [IntsAt]
  · injection h1 with h1 h2' h3'
    subst h1 h3'
    refine .inr ⟨b, off, sp, _, rfl, by rw [List.length_take]; omega, h3, fun hn => ?_⟩
    have hn' : xs ≠ [] := by rintro rfl; simp at hn
    refine ⟨(h4 hn').1, (h4 hn').2.1, fun i x hx => (h4 hn').2.2 i x ?_⟩
    rw [List.getElem?_take] at hx
    split at hx
    · exact hx
    · cases hx
theorem ints_cap {w : World} {ao : Option Addr} {cap n : Nat} {xs : List Int} (h : IntsAt w (.slice ao n cap) xs) : xs.length ≤ cap ∧ cap ≤ 9223372036854775807 := by
  rcases h with ⟨h1, rfl⟩ | ⟨b, off, sp, cap, h1, h2, h3, h4⟩
  · injection h1 with h1 h2 h3; subst h3; simp
  · injection h1 with h1 h2' h3'; subst h3'; unfold maxLen at h3; omega
def list12 (l : List Int) : List Int := l.take 30
def tableM (M : D.Mach) : D.Mach := ((M.1.take 302).map fun r => r.take 34, M.2.take 302)
theorem tableM_fit (M : D.Mach) : MachFit (tableM M) := by
  unfold tableM MachFit
  refine ⟨by simp only [List.length_map, List.length_take]; omega, by simp only [List.length_take]; omega, fun r hr => ?_⟩
  obtain ⟨r0, -, rfl⟩ := List.mem_map.1 hr
  rw [List.length_take]
  omega
theorem rows_own {W : World} {base n : Nat} {T : TypeId} {v : Value} {vs : List Value} {L : List (List Int)} (h : W.ownsRow base T 1 v n vs) (hn : n = L.length) (hV : ∀ (i : Nat) (r : List Int), L[i]? = some r → ∃ x, vs[i]? = some x ∧ IntsAt W x r) : RowsAt W v L := by
  subst hn
  rcases h.2 with ⟨h1, h2⟩ | ⟨g, cap, cur, h1, h2, h3, h4, h5, h6, h7⟩
  · rw [List.eq_nil_of_length_eq_zero h2]; exact .inl ⟨h1, rfl⟩
  · refine .inr ⟨g, 0, none, cap, h1, h4, h5, fun hn => ⟨rfl, (Array.getElem?_eq_some_iff.1 h3).1, fun i r hr => ?_⟩⟩
    obtain ⟨x, hx, hi⟩ := hV i r hr
    refine ⟨x, ?_, hi⟩
    have h8 := h.cells (g := g) (by rw [h1]; rfl) i x hx
    rw [show (⟨g, 0, none⟩ : Addr).add i = ⟨g, 0 + i, none⟩ by unfold Addr.add; split <;> simp_all] at h8
    exact h8

/-- rows with their values, that can be read -/
def RowsV (W : World) (vs : List Value) (L : List (List Int)) : Prop := vs.length = L.length ∧ ∀ (i : Nat) (r : List Int), L[i]? = some r → ∃ x, vs[i]? = some x ∧ IntsAt W x r
theorem RowsV.snoc {W : World} {vs : List Value} {L : List (List Int)} (h : RowsV W vs L) {x : Value} {r : List Int} (hx : IntsAt W x r) : RowsV W (vs ++ [x]) (L ++ [r]) := by
  refine ⟨by rw [List.length_append, List.length_append, h.1]; rfl, fun i q hq => ?_⟩
  rcases Nat.lt_or_ge i L.length with hl | hl
  · rw [List.getElem?_append_left hl] at hq
    obtain ⟨y, hy, h2⟩ := h.2 i q hq
    exact ⟨y, by rw [List.getElem?_append_left (by rw [h.1]; exact hl)]; exact hy, h2⟩
  · rw [List.getElem?_append_right hl] at hq
    have hi0 : i - L.length = 0 := by have := (List.getElem?_eq_some_iff.1 hq).1; simp at this; omega
    rw [hi0] at hq
    simp only [List.getElem?_cons_zero, Option.some.injEq] at hq
    subst hq
    exact ⟨x, by rw [List.getElem?_append_right (by rw [h.1]; exact hl), h.1, hi0]; rfl, hx⟩
def cutRow (r : List Int) : List Int := r.take 34

set_option maxRecDepth 100000 in
set_option maxHeartbeats 8000000 in
theorem table_any (v : Value) (M : D.Mach) (w : World) (hv : MachAt w v M) :
    Calls Tryz.prog 12 #[v] w fun e w' => Below w.heap.size w w' ∧ ∃ nv fv, e = .returned (.agg #[nv, fv]) ∧ (∀ g, nv.ownBlock = some g → w.heap.size ≤ g) ∧ RowsAt w' nv (tableM M).1 ∧ IntsAt w' fv (tableM M).2 := by
  obtain ⟨na, fa, rfl, hra, hia⟩ := hv
  have HRA := Box.mk hra
  obtain ⟨aa, ca, rfl⟩ := hra.slice
  obtain ⟨fo, fc, rfl⟩ := hia.slice
  obtain ⟨hf1, hf2⟩ := ints_cap hia
  have HFT := Box.mk (ints_take hia 302)
  obtain ⟨nf, hnf⟩ : ∃ nf, (M.2.take 302).length = nf := ⟨_, rfl⟩
  have HNF := Box.mk (show nf = min 302 M.2.length by rw [← hnf, List.length_take])
  rw [hnf] at HFT
  have HNFE := Box.mk hnf
  obtain ⟨m, hm⟩ : ∃ m, m = min M.1.length 302 := ⟨_, rfl⟩
  have HM := Box.mk hm
  have hm1 : m ≤ M.1.length := by omega
  have hm2 : m ≤ 302 := by omega
  obtain ⟨w3, hw3⟩ : ∃ w3, w3 = ((w.alloc (.cells #[.slice aa M.1.length ca, .slice fo M.2.length fc] 26)).alloc (.cells #[.slice none 0 0, .slice none 0 0] 26)).alloc (.cells #[.slice none 0 0, .slice fo nf fc] 26) := ⟨_, rfl⟩
  have HS3 := Box.mk (show ∃ vs, RowsV w vs ((M.1.take 0).map cutRow) ∧ Sep [Pc.row w.heap.size 27 1 (.slice none 0 0) 0 vs, Pc.blk (w.heap.size + 1 + 1) 26 #[.slice none 0 0, .slice fo nf fc], Pc.blk (w.heap.size + 1) 26 #[.slice none 0 0, .slice none 0 0], Pc.blk w.heap.size 26 #[.slice aa M.1.length ca, .slice fo M.2.length fc], Pc.old w.heap.size w] w3 by
    have h1 := (((Sep.start w).alloc_blk 26 #[.slice aa M.1.length ca, .slice fo M.2.length fc]).alloc_blk 26 #[.slice none 0 0, .slice none 0 0]).alloc_blk 26 #[.slice none 0 0, .slice fo nf fc]
    refine ⟨[], ⟨rfl, fun i r h => by simp at h⟩, ?_⟩
    rw [hw3]
    have h2 := h1.nil_row w.heap.size 1 27
    simpa using h2)
  have HW3 := Box.mk hw3
  clear hra hia hm hnf hw3
  go_enter Tryz.func12, Tryz.ntmps12
  rcases (show (302 < M.2.length ∧ nf = 302) ∨ (M.2.length ≤ 302 ∧ nf = M.2.length) by have := HNF.out; omega) with ⟨hq, hq2⟩ | ⟨hq, hq2⟩
  all_goals
    have hw3 := HW3.out
    go_upto_region 2 with (fail)
    first | rw [hq2] at hw3 | skip
    rw [← hw3]
    clear hw3 hq hq2
    go_wp2_with fail
    go_loopw [4] (fun i wr => ∃ k : Nat, k ≤ m ∧ i = .int .i64 k ∧ Box (∃ nv vs, RowsV w vs ((M.1.take k).map cutRow) ∧ Sep [Pc.row w.heap.size 27 1 nv k vs, Pc.blk (w.heap.size + 1 + 1) 26 #[nv, .slice fo nf fc], Pc.blk (w.heap.size + 1) 26 #[.slice none 0 0, .slice none 0 0], Pc.blk w.heap.size 26 #[.slice aa M.1.length ca, .slice fo M.2.length fc], Pc.old w.heap.size w] wr)) (fun i _ => m - (intOf i).toNat)
    case atStart => obtain ⟨vs, h1, h2⟩ := HS3.out; exact ⟨0, by omega, rfl, ⟨_, vs, h1, h2⟩⟩
    case round =>
      obtain ⟨k, hk, rfl, hbox⟩ := hrel
      obtain ⟨nv, vs, hvs, hsep⟩ := hbox.out
      have HVS := Box.mk hvs
      have HSEP := Box.mk hsep
      have HBR := Box.mk (show Below w.heap.size w wr from hsep.bel (by simp))
      obtain ⟨no, nc, rfl, hn1, hn2⟩ := own_shape (hsep.row 0 rfl)
      have HG3 := Box.mk (hsep.blk 1 rfl)
      have HG2 := Box.mk (hsep.blk 2 rfl)
      have HG1 := Box.mk (hsep.blk 3 rfl)
      have g1 : wr.cell? ⟨w.heap.size, 0, none⟩ = some (.slice aa M.1.length ca) := (HG1.out.cell 0).trans rfl
      have l1 := HG1.out.lt
      clear hvs hsep hbox
      by_cases hlt : k < m
      · obtain ⟨x, hx⟩ : ∃ x, M.1[k]? = some x := ⟨_, List.getElem?_eq_getElem (by omega)⟩
        obtain ⟨pa, oa, ca', ha0, ha1, ha2, ha3, ha4⟩ := HRA.out.get (by intro e; rw [e] at hx; simp at hx)
        obtain ⟨rfl, rfl⟩ : aa = some ⟨pa, oa, none⟩ ∧ ca = ca' := by injection ha0 with h1 h2 h3; exact ⟨h1, h3⟩
        obtain ⟨xv, hxc, hxi⟩ := ha4 k x hx
        obtain ⟨xo, xc, rfl⟩ := hxi.slice
        obtain ⟨hx1, hx2⟩ := ints_cap hxi
        have HXT := Box.mk (ints_take hxi 34)
        obtain ⟨q, hq⟩ : ∃ q, (x.take 34).length = q := ⟨_, rfl⟩
        have HQ := Box.mk (show q = min 34 x.length by rw [← hq, List.length_take])
        rw [hq] at HXT
        have HTK := Box.mk (take_snoc'' M.1 k x hx)
        have HFF := Box.mk (show ∀ W, Below wr.heap.size wr W → W.cell? ⟨w.heap.size + 1 + 1, 0, none⟩ = some (.slice no k nc) ∧ W.cell? ⟨w.heap.size, 0, none⟩ = some (.slice (some ⟨pa, oa, none⟩) M.1.length ca) ∧ W.cell? ⟨pa, oa + k, none⟩ = some (.slice xo x.length xc) from fun W h =>
          ⟨((HG3.out.below h HG3.out.lt).cell 0).trans rfl, ((HG1.out.below h HG1.out.lt).cell 0).trans rfl, ((HBR.out.trans (h.mono HBR.out.size)).cell (p := ⟨pa, oa + k, none⟩) ha3).trans hxc⟩)
        have HBD := Box.mk (show Below wr.heap.size wr wr.drew from ⟨rfl, rfl, rfl, Nat.le_refl _, fun _ _ => rfl⟩)
        have HSD := Box.mk HSEP.out.drew
        have hbsd : w.heap.size ≤ wr.drew.heap.size := HBR.out.size
        have hk302 : k < 302 := by omega
        have hkl : k < M.1.length := by omega
        have hkc : k < ca := by omega
        have l3 := HG3.out.lt
        unfold maxLen at ha2
        clear ha0 ha4 hx hxc hxi hq
        go_wp2_with fail
        rcases (show ((34 : Int) < (x.length : Int) ∧ (34 : Int) ≤ (xc : Int) ∧ q = 34) ∨ (¬ (34 : Int) < (x.length : Int) ∧ (x.length : Int) ≤ (xc : Int) ∧ q = x.length) by have := HQ.out; omega) with ⟨hq1, hq3, rfl⟩ | ⟨hq1, hq3, rfl⟩
        all_goals
          refine wp_region_K 16 (fun W => W.cell? ⟨w.heap.size + 1 + 1, 0, none⟩ = some (.slice no k nc) ∧ W.cell? ⟨w.heap.size, 0, none⟩ = some (.slice (some ⟨pa, oa, none⟩) M.1.length ca) ∧ W.cell? ⟨pa, oa + k, none⟩ = some (.slice xo x.length xc)) (by kernel_rfl) ?_
          have HF0 := Box.mk (HFF.out _ HBD.out)
          have HFA := Box.mk (fun o => HFF.out _ (HBD.out.alloc HBD.out.size o))
          generalize wr.drew = WR at *
          refine wpAnyK_take (i := 0) (v := ?_) rfl (by kernel_rfl) (fun _ _ _ h => h) (Or.inl ⟨by kernel_rfl, ?_⟩) HF0.out ?_
          rotate_left
          · first | (intro w hw; obtain ⟨q1, q2, q3⟩ := hw; go_simp; done) | (intro w hw; obtain ⟨q1, q2, q3⟩ := hw; go_simp; with_reducible rfl)
          refine wpAnyK_take (i := 1) (v := ?_) rfl (by kernel_rfl) (fun _ _ _ h => h) (Or.inl ⟨by kernel_rfl, ?_⟩) HF0.out ?_
          rotate_left
          · first | (intro w hw; obtain ⟨q1, q2, q3⟩ := hw; go_simp; done) | (intro w hw; obtain ⟨q1, q2, q3⟩ := hw; go_simp; with_reducible rfl)
          refine wpAnyK_take (i := 2) (v := ?_) rfl (by kernel_rfl) (fun _ _ _ h => h) (Or.inl ⟨by kernel_rfl, ?_⟩) HF0.out ?_
          rotate_left
          · first | (intro w hw; obtain ⟨q1, q2, q3⟩ := hw; go_simp; done) | (intro w hw; obtain ⟨q1, q2, q3⟩ := hw; go_simp; with_reducible rfl)
          refine wpAnyK_take (i := 3) (v := ?_) rfl (by kernel_rfl) (fun _ _ _ h => h) (Or.inl ⟨by kernel_rfl, ?_⟩) HF0.out ?_
          rotate_left
          · first | (intro w hw; obtain ⟨q1, q2, q3⟩ := hw; go_simp; done) | (intro w hw; obtain ⟨q1, q2, q3⟩ := hw; go_simp; with_reducible rfl)
          refine wpAnyK_take (i := 4) (v := ?_) rfl (by kernel_rfl) (fun _ _ _ h => h) (Or.inl ⟨by kernel_rfl, ?_⟩) HF0.out ?_
          rotate_left
          · first | (intro w hw; obtain ⟨q1, q2, q3⟩ := hw; go_simp; done) | (intro w hw; obtain ⟨q1, q2, q3⟩ := hw; go_simp; with_reducible rfl)
          refine wpAnyK_take (i := 5) (v := ?_) rfl (by kernel_rfl) (fun _ _ _ h => h) (Or.inl ⟨by kernel_rfl, ?_⟩) HF0.out ?_
          rotate_left
          · first | (intro w hw; obtain ⟨q1, q2, q3⟩ := hw; go_simp; done) | (intro w hw; obtain ⟨q1, q2, q3⟩ := hw; go_simp; with_reducible rfl)
          refine wpAnyK_take (i := 6) (v := ?_) rfl (by kernel_rfl) (fun _ _ _ h => h) (Or.inl ⟨by kernel_rfl, ?_⟩) HF0.out ?_
          rotate_left
          · first | (intro w hw; obtain ⟨q1, q2, q3⟩ := hw; go_simp; done) | (intro w hw; obtain ⟨q1, q2, q3⟩ := hw; go_simp; with_reducible rfl)
          refine wpAnyK_take (i := 7) (v := ?_) rfl (by kernel_rfl) (fun _ _ _ h => h) (Or.inl ⟨by kernel_rfl, ?_⟩) HF0.out ?_
          rotate_left
          · first | (intro w hw; obtain ⟨q1, q2, q3⟩ := hw; go_simp; done) | (intro w hw; obtain ⟨q1, q2, q3⟩ := hw; go_simp; with_reducible rfl)
          refine wpAnyK_take (i := 8) (v := ?_) rfl (by kernel_rfl) (fun _ _ _ h => h) (Or.inl ⟨by kernel_rfl, ?_⟩) HF0.out ?_
          rotate_left
          · first | (intro w hw; obtain ⟨q1, q2, q3⟩ := hw; go_simp; done) | (intro w hw; obtain ⟨q1, q2, q3⟩ := hw; go_simp; with_reducible rfl)
          refine wpAnyK_take (i := 9) (v := ?_) rfl (by kernel_rfl) (fun _ _ _ h => h) (Or.inl ⟨by kernel_rfl, ?_⟩) HF0.out ?_
          rotate_left
          · first | (intro w hw; obtain ⟨q1, q2, q3⟩ := hw; go_simp; done) | (intro w hw; obtain ⟨q1, q2, q3⟩ := hw; go_simp; with_reducible rfl)
          refine wpAnyK_take (i := 10) (v := ?_) rfl (by kernel_rfl) (fun _ _ _ h => h) (Or.inl ⟨by kernel_rfl, ?_⟩) HF0.out ?_
          rotate_left
          · first | (intro w hw; obtain ⟨q1, q2, q3⟩ := hw; go_simp; done) | (intro w hw; obtain ⟨q1, q2, q3⟩ := hw; go_simp; with_reducible rfl)
          refine wpAnyK_take (i := 11) (v := ?_) rfl (by kernel_rfl) (fun _ _ _ h => h) (Or.inl ⟨by kernel_rfl, ?_⟩) HF0.out ?_
          rotate_left
          · first | (intro w hw; obtain ⟨q1, q2, q3⟩ := hw; go_simp; done) | (intro w hw; obtain ⟨q1, q2, q3⟩ := hw; go_simp; with_reducible rfl)
          refine wpAnyK_take (i := 12) (v := ?_) rfl (by kernel_rfl) (fun _ _ _ h => h) (Or.inl ⟨by kernel_rfl, ?_⟩) HF0.out ?_
          rotate_left
          · first | (intro w hw; obtain ⟨q1, q2, q3⟩ := hw; go_simp; done) | (intro w hw; obtain ⟨q1, q2, q3⟩ := hw; go_simp; with_reducible rfl)
          refine wpAnyK_take (i := 13) (v := ?_) rfl (by kernel_rfl) (fun _ _ _ h => h) (Or.inl ⟨by kernel_rfl, ?_⟩) HF0.out ?_
          rotate_left
          · first | (intro w hw; obtain ⟨q1, q2, q3⟩ := hw; go_simp; done) | (intro w hw; obtain ⟨q1, q2, q3⟩ := hw; go_simp; with_reducible rfl)
          refine wpAnyK_take (i := 14) (v := ?_) rfl (by kernel_rfl) (fun _ _ _ h => h) (Or.inl ⟨by kernel_rfl, ?_⟩) HF0.out ?_
          rotate_left
          · first | (intro w hw; obtain ⟨q1, q2, q3⟩ := hw; go_simp; done) | (intro w hw; obtain ⟨q1, q2, q3⟩ := hw; go_simp; with_reducible rfl)
          refine wpAnyK_one (i := 15) (by kernel_rfl) rfl (fun KK hKK => ?_)
          go_simp
          refine hKK.out _ _ (fun _ => HFA.out _) ?_
          clear hKK KK
          refine wpAnyK_one (i := 16) (by kernel_rfl) rfl (fun KK hKK => ?_)
          refine step_push rfl _ _ 23 rfl pushRowsInt HSD.out 0 rfl (by kernel_rfl) (by kernel_rfl) rfl (by omega) (by omega) hbsd ?_
          rintro v' w9 hS9 ⟨g9, c9, rfl, h91, h92⟩
          refine hKK.out _ _ (fun h => by cases h) ?_
          clear hKK KK
          have HB9 := Box.mk (hS9.blk 1 rfl)
          have z0 := (HB9.out.cell 0).trans (show _ = some (Value.slice no k nc) from rfl)
          have z1 := HB9.out.frozen 0
          have z2 := HB9.out.lt
          have HS10 := Box.mk (hS9.set 1 rfl 0 (.slice (some ⟨g9, 0, none⟩) (k + 1) c9))
          clear hS9
          refine wpAnyK_one (i := 17) (by kernel_rfl) rfl (fun KK hKK => ?_)
          go_simp
          refine hKK.out _ _ (fun h => by cases h) ?_
          clear hKK KK
          refine wpAnyK_one (i := 18) (by kernel_rfl) rfl (fun KK hKK => ?_)
          go_simp
          refine hKK.out _ _ (fun h => by cases h) ?_
          clear hKK KK
          refine wpAnyK_done (by kernel_rfl) ?_ _
          refine NoPanic.normal ?_
          have HN := Box.mk (show ∃ nv vs, RowsV w vs ((M.1.take (k + 1)).map cutRow) ∧ Sep [Pc.row w.heap.size 27 1 nv (k + 1) vs, Pc.blk (w.heap.size + 1 + 1) 26 #[nv, .slice fo nf fc], Pc.blk (w.heap.size + 1) 26 #[.slice none 0 0, .slice none 0 0], Pc.blk w.heap.size 26 #[.slice (some ⟨pa, oa, none⟩) M.1.length ca, .slice fo M.2.length fc], Pc.old w.heap.size w] _ by
            refine ⟨_, _, ?_, HS10.out⟩
            rw [HTK.out, List.map_append]
            exact HVS.out.snoc HXT.out)
          go_wp2_with fail
          go_roundw
          case rel => exact ⟨k + 1, hlt, by go_num, HN⟩
          case measure => simp [intOf]; omega
      · have hkm : k = m := by omega
        have HKM := Box.mk hkm
        have hd : M.1.length ≤ k ∨ (k < M.1.length ∧ 302 ≤ k) := by have := HM.out; omega
        have z0 : wr.cell? ⟨w.heap.size + 1 + 1, 0, none⟩ = some (.slice no k nc) := (HG3.out.cell 0).trans rfl
        have z1 : wr.cell? ⟨w.heap.size + 1 + 1, 1, none⟩ = some (.slice fo nf fc) := (HG3.out.cell 1).trans rfl
        have z2 := HG3.out.lt
        have y0 := (HG2.out.cell 0).trans (show _ = some (Value.slice none 0 0) from rfl)
        have y1 := (HG2.out.cell 1).trans (show _ = some (Value.slice none 0 0) from rfl)
        have f0 := HG2.out.frozen 0
        have f1 := HG2.out.frozen 1
        have y2 := HG2.out.lt
        have HS9 := Box.mk ((HSEP.out.set 2 rfl 0 (.slice no k nc)).set 2 rfl 1 (.slice fo nf fc))
        have HTM := Box.mk (show (M.1.take k).map cutRow = (tableM M).1 by
          unfold tableM
          simp only
          rw [HKM.out, HM.out]
          rcases Nat.le_total M.1.length 302 with h | h
          · rw [Nat.min_eq_left h, List.take_length, List.take_of_length_le h]; rfl
          · rw [Nat.min_eq_right h]; rfl)
        have HKL := Box.mk (show k = ((M.1.take k).map cutRow).length by rw [List.length_map, List.length_take]; have := HM.out; omega)
        clear hkm
        rcases hd with hd | ⟨hd, hd2⟩
        all_goals
          go_wp2_with fail
          have hb9 := HS9.out.bel (n := w.heap.size) (W0 := w) (by simp)
          refine bodyPost_ret (v := .agg #[.slice no k nc, .slice fo nf fc]) (results_cell_row Tryz.results12 _ _ (w.heap.size + 1) 26 _ (0, 0) _ rfl (HS9.out.blk 2 rfl) Tryz.underlying26 rfl machInfo) rfl ⟨hb9, _, _, rfl, fun g hg => ((HS9.out.row 0 rfl).lt g hg).1, ?_, ?_⟩
          · rw [← HTM.out]
            exact rows_own (HS9.out.row 0 rfl) HKL.out (fun i r hr => by
              obtain ⟨x, hx, hi⟩ := HVS.out.2 i r hr
              exact ⟨x, hx, hi.below hb9⟩)
          · exact HFT.out.below hb9
end Go.Proofs.YtbpcipobdokcfaaGreatDoor
