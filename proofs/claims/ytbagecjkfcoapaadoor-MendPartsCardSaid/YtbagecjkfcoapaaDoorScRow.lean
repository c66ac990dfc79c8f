/-
  THE WALKS OF package scalar: the row of a first byte.
-/
import Derived.Test.YtbagecjkfcoapaaDoorBase
namespace Go.Proofs.YtbagecjkfcoapaaDoor
open Go.RowKit
attribute [local go_sem] run_store_float run_store_complex

/-- a number's bits as a float64: those that the rows' ends are -/
def fbits (n : Int) : Nat :=
  if n = 0 then 0 else if n = 128 then 4638707616191610880 else if n = 143 then 4639235381772943360 else if n = 144 then 4639270566145032192
  else if n = 159 then 4639798331726364672 else if n = 160 then 4639833516098453504 else 4640924231633207296
def rowNN (c : Int) : Int := if U.rowN c < 0 then 0 else U.rowN c
def rowV (c : Int) : Value := .agg #[.int .u8 (U.rowM c), .int .i64 (rowNN c), .complex .f64 (fbits (U.rowLo c)) (fbits (U.rowHi c))]
theorem rowV_of {c m n lo hi : Int} {a b : Nat} (h1 : U.rowM c = m) (h2 : rowNN c = n) (h3 : U.rowLo c = lo) (h4 : U.rowHi c = hi) (h5 : fbits lo = a) (h6 : fbits hi = b) :
    Value.agg #[.int .u8 m, .int .i64 n, .complex .f64 a b] = rowV c := by subst h1 h2 h3 h4 h5 h6; rfl
theorem rowV_of' {c m n lo hi : Int} {a b : Nat} (h2 : U.rowN c = n) (hn : 0 ≤ n) (h1 : U.rowM c = m) (h3 : U.rowLo c = lo) (h4 : U.rowHi c = hi) (h5 : fbits lo = a) (h6 : fbits hi = b) :
    Value.agg #[.int .u8 m, .int .i64 n, .complex .f64 a b] = rowV c := rowV_of h1 (by unfold rowNN; rw [h2, if_neg (by omega)]) h3 h4 h5 h6

theorem zero_row (w : World) : (zeroValue 92).run Tryd.prog w = .ok (.agg #[.int .u8 0, .int .i64 0, .complex .f64 0 0]) w := by kernel_rfl

def e1 : MapEntry := ⟨.int .u8 224, .agg #[.int .u8 224, .int .i64 2, .complex .f64 4639833516098453504 4640924231633207296], 0⟩
def e2 : MapEntry := ⟨.int .u8 237, .agg #[.int .u8 224, .int .i64 2, .complex .f64 4638707616191610880 4639798331726364672], 1⟩
def e3 : MapEntry := ⟨.int .u8 240, .agg #[.int .u8 240, .int .i64 3, .complex .f64 4639270566145032192 4640924231633207296], 2⟩
def e4 : MapEntry := ⟨.int .u8 244, .agg #[.int .u8 240, .int .i64 3, .complex .f64 4638707616191610880 4639235381772943360], 3⟩

theorem find_none (c : Int) (h : ¬ c = 224 ∧ ¬ c = 237 ∧ ¬ c = 240 ∧ ¬ c = 244) : Instr.findNow (.int .u8) (.int .u8 c) [e1, e2, e3, e4] 0 = some none := by
  obtain ⟨h1, h2, h3, h4⟩ := h
  replace h1 := beq_eq_false_iff_ne.2 h1
  replace h2 := beq_eq_false_iff_ne.2 h2
  replace h3 := beq_eq_false_iff_ne.2 h3
  replace h4 := beq_eq_false_iff_ne.2 h4
  simp only [Instr.findNow, Instr.sameNow, e1, e2, e3, e4, h1, h2, h3, h4, if_true]

set_option maxRecDepth 100000 in
set_option maxHeartbeats 4000000 in
theorem rowOf_any (c : Int) (h0 : 0 ≤ c) (h1 : c < 256) (w : World) :
    Calls Tryd.prog 50 #[.int .u8 c] w fun e w' => e = .returned (rowV c) ∧ Below w.heap.size w w' := by
  have hmm := @run_makeMap Tryd.prog
  have hins0 := fun (W : World) (o : Obj) => map_ins (P := Tryd.prog) Tryd.underlying100 Tryd.underlying5 (W.alloc o) #[] 0 224 e1.val (W.heap.size + 1) (by simp) rfl
  have hins1 := fun (W : World) (o : Obj) => map_ins (P := Tryd.prog) Tryd.underlying100 Tryd.underlying5 (W.alloc o) #[e1] 1 237 e2.val (W.heap.size + 1) (by simp) rfl
  have hins2 := fun (W : World) (o : Obj) => map_ins (P := Tryd.prog) Tryd.underlying100 Tryd.underlying5 (W.alloc o) #[e1, e2] 2 240 e3.val (W.heap.size + 1) (by simp) rfl
  have hins3 := fun (W : World) (o : Obj) => map_ins (P := Tryd.prog) Tryd.underlying100 Tryd.underlying5 (W.alloc o) #[e1, e2, e3] 3 244 e4.val (W.heap.size + 1) (by simp) rfl
  simp only [List.push_toArray, List.nil_append, List.cons_append, e1, e2, e3, e4, Nat.reduceAdd, Nat.zero_add] at hins0 hins1 hins2 hins3
  by_cases hs : ¬ c = 224 ∧ ¬ c = 237 ∧ ¬ c = 240 ∧ ¬ c = 244
  · have hlk := fun (W : World) (o : Obj) => map_look_none (P := Tryd.prog) Tryd.underlying100 Tryd.underlying5 ((W.alloc o).alloc (.map #[e1, e2, e3, e4] 4)) #[e1, e2, e3, e4] 4 c (W.heap.size + 1) (heap_new _ _ _ (by simp)) _ (zero_row _) (find_none c hs)
    simp only [e1, e2, e3, e4] at hlk
    obtain ⟨n1, n2, n3, n4⟩ := hs
    go_enter Tryd.func50, Tryd.ntmps50
    go_wp2
    all_goals go_returns
    all_goals first
      | exact ⟨ret1 (rowV_of' (lo := 128) (hi := 191) (by unfold U.rowN; repeat' (first | omega | split)) (by omega) (by unfold U.rowM U.rowN; repeat' (first | omega | split)) (by unfold U.rowLo U.rowN; repeat' (first | omega | split)) (by unfold U.rowHi U.rowN; repeat' (first | omega | split)) rfl rfl), (((Below.refl _ _).alloc (Nat.le_refl _) _).alloc (by simp) _).alloc (by simp; omega) _⟩
      | exact ⟨ret1 (rowV_of (lo := 0) (hi := 0) (by unfold U.rowM U.rowN; repeat' (first | omega | split)) (by unfold rowNN U.rowN; repeat' (first | omega | split)) (by unfold U.rowLo U.rowN; repeat' (first | omega | split)) (by unfold U.rowHi U.rowN; repeat' (first | omega | split)) rfl rfl), (((Below.refl _ _).alloc (Nat.le_refl _) _).alloc (by simp) _).alloc (by simp; omega) _⟩
  have hs : c = 224 ∨ c = 237 ∨ c = 240 ∨ c = 244 := by omega
  rcases hs with hs | hs | hs | hs
  · subst hs
    have hlk := fun (W : World) (o : Obj) => map_look (P := Tryd.prog) Tryd.underlying100 Tryd.underlying5 ((W.alloc o).alloc (.map #[e1, e2, e3, e4] 4)) #[e1, e2, e3, e4] 4 224 (W.heap.size + 1) (heap_new _ _ _ (by simp)) 0 e1.val rfl
    simp only [e1, e2, e3, e4] at hlk
    go_enter Tryd.func50, Tryd.ntmps50
    go_wp2
    go_returns
    exact ⟨ret1 (rowV_of' (lo := 160) (hi := 191) rfl (by decide) rfl rfl rfl rfl rfl), (((Below.refl _ _).alloc (Nat.le_refl _) _).alloc (by simp) _).alloc (by simp; omega) _⟩
  · subst hs
    have hlk := fun (W : World) (o : Obj) => map_look (P := Tryd.prog) Tryd.underlying100 Tryd.underlying5 ((W.alloc o).alloc (.map #[e1, e2, e3, e4] 4)) #[e1, e2, e3, e4] 4 237 (W.heap.size + 1) (heap_new _ _ _ (by simp)) 1 e2.val rfl
    simp only [e1, e2, e3, e4] at hlk
    go_enter Tryd.func50, Tryd.ntmps50
    go_wp2
    go_returns
    exact ⟨ret1 (rowV_of' (lo := 128) (hi := 159) rfl (by decide) rfl rfl rfl rfl rfl), (((Below.refl _ _).alloc (Nat.le_refl _) _).alloc (by simp) _).alloc (by simp; omega) _⟩
  · subst hs
    have hlk := fun (W : World) (o : Obj) => map_look (P := Tryd.prog) Tryd.underlying100 Tryd.underlying5 ((W.alloc o).alloc (.map #[e1, e2, e3, e4] 4)) #[e1, e2, e3, e4] 4 240 (W.heap.size + 1) (heap_new _ _ _ (by simp)) 2 e3.val rfl
    simp only [e1, e2, e3, e4] at hlk
    go_enter Tryd.func50, Tryd.ntmps50
    go_wp2
    go_returns
    exact ⟨ret1 (rowV_of' (lo := 144) (hi := 191) rfl (by decide) rfl rfl rfl rfl rfl), (((Below.refl _ _).alloc (Nat.le_refl _) _).alloc (by simp) _).alloc (by simp; omega) _⟩
  · subst hs
    have hlk := fun (W : World) (o : Obj) => map_look (P := Tryd.prog) Tryd.underlying100 Tryd.underlying5 ((W.alloc o).alloc (.map #[e1, e2, e3, e4] 4)) #[e1, e2, e3, e4] 4 244 (W.heap.size + 1) (heap_new _ _ _ (by simp)) 3 e4.val rfl
    simp only [e1, e2, e3, e4] at hlk
    go_enter Tryd.func50, Tryd.ntmps50
    go_wp2
    go_returns
    exact ⟨ret1 (rowV_of' (lo := 128) (hi := 143) rfl (by decide) rfl rfl rfl rfl rfl), (((Below.refl _ _).alloc (Nat.le_refl _) _).alloc (by simp) _).alloc (by simp; omega) _⟩

/- THE ROW's ENDS ARE TOLD AS FLOATS. -/
theorem ends_ge : ∀ d : Fin 256, ∀ n ∈ [(0 : Int), 128, 143, 144, 159, 160, 191],
    ((FloatKind.f64.format.order (FloatKind.f64.nearest (d.val : Int)) (fbits n) == some .gt) || (FloatKind.f64.format.order (FloatKind.f64.nearest (d.val : Int)) (fbits n) == some .eq)) = decide (n ≤ (d.val : Int)) := by decide +kernel
theorem ends_le : ∀ d : Fin 256, ∀ n ∈ [(0 : Int), 128, 143, 144, 159, 160, 191],
    ((FloatKind.f64.format.order (FloatKind.f64.nearest (d.val : Int)) (fbits n) == some .lt) || (FloatKind.f64.format.order (FloatKind.f64.nearest (d.val : Int)) (fbits n) == some .eq)) = decide ((d.val : Int) ≤ n) := by decide +kernel
theorem ends_zero : ∀ n ∈ [(0 : Int), 128, 143, 144, 159, 160, 191], (FloatKind.f64.format.order (fbits n) 0 == some .eq) = decide (n = 0) := by decide +kernel
theorem lo_mem (c : Int) : U.rowLo c ∈ [(0 : Int), 128, 143, 144, 159, 160, 191] := by unfold U.rowLo; repeat' (first | simp; done | split)
theorem hi_mem (c : Int) : U.rowHi c ∈ [(0 : Int), 128, 143, 144, 159, 160, 191] := by unfold U.rowHi; repeat' (first | simp; done | split)

end Go.Proofs.YtbagecjkfcoapaaDoor
