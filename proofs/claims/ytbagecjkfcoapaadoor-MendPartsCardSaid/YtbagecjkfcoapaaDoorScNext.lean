/-
  THE WALK OF package scalar's reader: one scalar is read.
-/
import Derived.Test.YtbagecjkfcoapaaDoorScDec
import Derived.Test.YtbagecjkfcoapaaDoorScRef
import Derived.Lib.Strings
namespace Go.Proofs.YtbagecjkfcoapaaDoor
open Go.RowKit
attribute [local go_sem] run_store_float run_store_complex

/-- the reader's block and the row's, while a scalar is read -/
structure RS (w0 : World) (b xb : Nat) (s : ByteArray) (ev : Value) (m n : Int) (p q : Nat) (w : World) : Prop where
  r : Blk w b 75 #[.string s, ev]
  x : Blk w xb 92 #[.int .u8 m, .int .i64 n, .complex .f64 p q]
  g : w0.grownBy w (some b)
  lt : b < w0.heap.size
  xb : w0.heap.size ≤ xb
section
variable {w0 w w' : World} {b xb : Nat} {s s' : ByteArray} {ev ev' : Value} {m n m' n' : Int} {p q p' q' : Nat}
theorem RS.below (h : RS w0 b xb s ev m n p q w) (hb : Below w.heap.size w w') : RS w0 b xb s ev m n p q w' :=
  ⟨h.r.below hb h.r.lt, h.x.below hb h.x.lt, only_trans h.g (only_of_below hb _), h.lt, h.xb⟩
theorem RS.drew (h : RS w0 b xb s ev m n p q w) : RS w0 b xb s ev m n p q w.drew := ⟨h.r, h.x, only_drew h.g, h.lt, h.xb⟩
theorem RS.alloc (h : RS w0 b xb s ev m n p q w) (o : Obj) : RS w0 b xb s ev m n p q (w.alloc o) := ⟨h.r.alloc o, h.x.alloc o, only_alloc h.g o, h.lt, h.xb⟩
theorem RS.ne (h : RS w0 b xb s ev m n p q w) : xb ≠ b := by have := h.lt; have := h.xb; omega
theorem RS.setS (h : RS w0 b xb s ev m n p q w) : RS w0 b xb s' ev m n p q (w.setCell ⟨b, 0, none⟩ (.string s')) :=
  ⟨h.r.set_ 0 _, h.x.far (p := ⟨b, 0, none⟩) h.ne _, only_setCell h.g (.inl rfl) _, h.lt, h.xb⟩
theorem RS.setE (h : RS w0 b xb s ev m n p q w) : RS w0 b xb s ev' m n p q (w.setCell ⟨b, 1, none⟩ ev') :=
  ⟨h.r.set_ 1 _, h.x.far (p := ⟨b, 1, none⟩) h.ne _, only_setCell h.g (.inl rfl) _, h.lt, h.xb⟩
theorem RS.setX (h : RS w0 b xb s ev m n p q w) : RS w0 b xb s ev m' n' p' q' (((w.setCell ⟨xb, 0, none⟩ (.int .u8 m')).setCell ⟨xb, 1, none⟩ (.int .i64 n')).setCell ⟨xb, 2, none⟩ (.complex .f64 p' q')) :=
  ⟨((h.r.far (p := ⟨xb, 0, none⟩) h.ne.symm _).far (p := ⟨xb, 1, none⟩) h.ne.symm _).far (p := ⟨xb, 2, none⟩) h.ne.symm _,
   ((h.x.set_ 0 _).set_ 1 _).set_ 2 _,
   only_setCell (only_setCell (only_setCell h.g (.inr h.xb) _) (.inr h.xb) _) (.inr h.xb) _, h.lt, h.xb⟩
theorem RS.new {ty : TypeId} (hb : Blk w b 75 #[.string s, ev]) (h : Below (w.alloc (.cells #[.int .u8 m, .int .i64 n, .complex .f64 p q] ty)).heap.size (w.alloc (.cells #[.int .u8 m, .int .i64 n, .complex .f64 p q] ty)) w') (ht : ty = 92) : RS w b w.heap.size s ev m n p q w' := by
  subst ht
  exact ⟨(hb.alloc _).below h (hb.alloc _).lt, (Blk.new w _ _).below h (Blk.new w _ _).lt, only_trans (only_alloc (World.grownBy.refl w _) _) (only_of_below h _), hb.lt, Nat.le_refl _⟩
theorem RS.facts (h : RS w0 b xb s ev m n p q w) : w.cell? ⟨b, 0, none⟩ = some (.string s) ∧ w.cell? ⟨b, 1, none⟩ = some ev ∧ w.frozen? ⟨b, 0, none⟩ = false ∧ w.frozen? ⟨b, 1, none⟩ = false ∧
    w.cell? ⟨xb, 0, none⟩ = some (.int .u8 m) ∧ w.cell? ⟨xb, 1, none⟩ = some (.int .i64 n) ∧ w.cell? ⟨xb, 2, none⟩ = some (.complex .f64 p q) ∧
    w.frozen? ⟨xb, 0, none⟩ = false ∧ w.frozen? ⟨xb, 1, none⟩ = false ∧ w.frozen? ⟨xb, 2, none⟩ = false :=
  ⟨(h.r.cell 0).trans rfl, (h.r.cell 1).trans rfl, h.r.frozen 0, h.r.frozen 1, (h.x.cell 0).trans rfl, (h.x.cell 1).trans rfl, (h.x.cell 2).trans rfl, h.x.frozen 0, h.x.frozen 1, h.x.frozen 2⟩
end


def nextPost (A : Nat → Addr) (b : Nat) (s : ByteArray) (ev : Value) (w : World) (e : Ending) (w' : World) : Prop :=
  match U.dec s.data.toList with
  | none => e = .returned (.tuple #[.int .i64 0, .int .i64 0]) ∧ Blk w' b 75 #[.string s, errV A 2] ∧ w.grownBy w' (some b)
  | some (r, n) => e = .returned (.tuple #[.int .i64 r, .int .i64 (n : Int)]) ∧ Blk w' b 75 #[.string (s.extract n s.size), ev] ∧ w.grownBy w' (some b)
theorem nextPost_none {A : Nat → Addr} {b : Nat} {s : ByteArray} {ev : Value} {w w' : World} {e : Ending} (h : U.dec s.data.toList = none)
    (he : e = .returned (.tuple #[.int .i64 0, .int .i64 0])) (hb : Blk w' b 75 #[.string s, errV A 2]) (hg : w.grownBy w' (some b)) : nextPost A b s ev w e w' := by
  unfold nextPost; rw [h]; exact ⟨he, hb, hg⟩
theorem nextPost_some {A : Nat → Addr} {b : Nat} {s : ByteArray} {ev : Value} {w w' : World} {e : Ending} {r : Int} {n : Nat} (h : U.dec s.data.toList = some (r, n))
    (he : e = .returned (.tuple #[.int .i64 r, .int .i64 (n : Int)])) (hb : Blk w' b 75 #[.string (s.extract n s.size), ev]) (hg : w.grownBy w' (some b)) : nextPost A b s ev w e w' := by
  unfold nextPost; rw [h]; exact ⟨he, hb, hg⟩

set_option maxRecDepth 100000 in
set_option maxHeartbeats 16000000 in
theorem next_any (A : Nat → Addr) (B b : Nat) (ev : Value) (s : ByteArray) (w : World) (hs : s.size ≤ maxLen) (hE : E A B w) (hB : B ≤ b) (hb : Blk w b 75 #[.string s, ev]) :
    Calls Tryd.prog 47 #[.pointer (some ⟨b, 0, none⟩)] w (nextPost A b s ev w) := by
  unfold maxLen at hs
  have HE := Box.mk hE
  have HB := Box.mk hb
  have hc0 : w.cell? ⟨b, 0, none⟩ = some (.string s) := (hb.cell 0).trans rfl
  have hc1 : w.cell? ⟨b, 1, none⟩ = some ev := (hb.cell 1).trans rfl
  have hf1 := hb.frozen 1
  have hblt := hb.lt
  have e1 := hE.cell 2 (by decide)
  have hlt1 : 2 < w.heap.size := by have := (hE.lt 2 (by decide)).1; omega
  clear hE hb
  cases hl : s.data.toList with
  | nil =>
    have hz := isEmpty_nil hl
    have HD := Box.mk (show U.dec s.data.toList = none by rw [hl]; rfl)
    clear hl
    go_enter Tryd.func47, Tryd.ntmps47
    go_wp2_with fail
    refine wp_scope_fwd 0 rfl ?_
    go_wp2_with fail
    go_step3
    refine ⟨rfl, ?_⟩
    go_wp2_with fail
    rw [Exit.noGoto_ret]
    go_ret2
    exact nextPost_none HD.out rfl ((HB.out.set_ 1 _).alloc _) (only_alloc (only_setCell (World.grownBy.refl w _) (.inl rfl) _) _)
  | cons c t =>
  clear hc1 hf1 e1 hlt1
  have hz := isEmpty_cons hl
  have i0 := idx_of Tryd.underlying9 s 0 (d := c) (by rw [hl]; rfl) 0 rfl
  have hsz : (s.size : Int) = t.length + 1 := by rw [size_eq, hl]; simp
  have HV := Box.mk (show rowV (U.b2i c) = .agg #[.int .u8 (U.rowM (U.b2i c)), .int .i64 (rowNN (U.b2i c)), .complex .f64 (fbits (U.rowLo (U.b2i c))) (fbits (U.rowHi (U.b2i c)))] from rfl)
  have hR := fun W => rowOf_any (U.b2i c) (U.b2i_nonneg c) (U.b2i_lt c) W
  have hI := fun W => isRow_any (U.b2i c) W
  have hS := fun d W => isSecond_any (U.b2i c) (U.b2i d) (U.b2i_nonneg d) (U.b2i_lt d) W
  rw [HV.out] at hR hI
  simp only [HV.out] at hS
  have HN := Box.mk (show rowNN (U.b2i c) = if U.rowN (U.b2i c) < 0 then 0 else U.rowN (U.b2i c) from rfl)
  have HL := Box.mk hl
  have hcl := U.b2i_lt c
  have hcg := U.b2i_nonneg c
  have HM := Box.mk (U.rowM_bounds (U.b2i c) hcg hcl)
  generalize fbits (U.rowLo (U.b2i c)) = p at *
  generalize fbits (U.rowHi (U.b2i c)) = q at *
  generalize hm : U.rowM (U.b2i c) = m at *
  generalize hn : rowNN (U.b2i c) = n at *
  have HMM := Box.mk hm
  have HR := Box.mk hR
  have HI := Box.mk hI
  have HS := Box.mk hS
  have HZ := Box.mk hsz
  clear hl hR hI hS hm hn hsz HV
  go_enter Tryd.func47, Tryd.ntmps47
  go_wp2_with fail
  refine wp_scope_fwd 0 rfl ?_
  go_wp2_with fail
  refine (HR.out _).mono ?_
  rintro e w1 ⟨rfl, hb1⟩
  have R1 := RS.new HB.out hb1 rfl
  clear hb1 hc0
  obtain ⟨-, -, -, -, x0, x1, x2, g0, g1, g2⟩ := R1.facts
  go_wp2_with fail
  clear x0 x1 x2 g0 g1 g2
  have R5 := R1.setX (m' := m) (n' := n) (p' := p) (q' := q)
  generalize ((w1.setCell ⟨w.heap.size, 0, none⟩ (.int .u8 m)).setCell ⟨w.heap.size, 1, none⟩ (.int .i64 n)).setCell ⟨w.heap.size, 2, none⟩ (.complex .f64 p q) = w5 at R5 ⊢
  clear R1
  have q0 : ∀ k : CW (RS w b w.heap.size s ev m n p q), k.w.cell? ⟨b, 0, none⟩ = some (.string s) := fun k => k.h.facts.1
  have q1 : ∀ k : CW (RS w b w.heap.size s ev m n p q), k.w.cell? ⟨w.heap.size, 0, none⟩ = some (.int .u8 m) := fun k => k.h.facts.2.2.2.2.1
  have q2 : ∀ k : CW (RS w b w.heap.size s ev m n p q), k.w.cell? ⟨w.heap.size, 1, none⟩ = some (.int .i64 n) := fun k => k.h.facts.2.2.2.2.2.1
  have q3 : ∀ k : CW (RS w b w.heap.size s ev m n p q), k.w.cell? ⟨w.heap.size, 2, none⟩ = some (.complex .f64 p q) := fun k => k.h.facts.2.2.2.2.2.2.1
  by_cases hN : U.rowN (U.b2i c) < 0
  · have h1 : decide (0 ≤ U.rowN (U.b2i c)) = false := by rw [decide_eq_false_iff_not]; omega
    have HI' := HI.out
    rw [h1] at HI'
    have HI2 := Box.mk HI'
    have HD := Box.mk (show U.dec s.data.toList = none by rw [HL.out]; exact U.dec_bad hN)
    clear HI' h1
    refine wp_region_class (RS w b w.heap.size s ev m n p q) (by kernel_rfl) (by kernel_rfl) R5.drew (fun hne => ?_)
    clear R5
    repeat (any_goals (first
      | go_big_quiet_step (first | (go_at_call 51; exact class_call (HI2.out _) (fun _ hb => RS.below (CW.h _) hb)))
      | quiet_step (first | (go_at_call 51; exact class_call (HI2.out _) (fun _ hb => RS.below (CW.h _) hb)))))
    refine wpQuiet_nil ?_
    rintro w2 ⟨⟨_, R6⟩, rfl⟩
    clear q0 q1 q2 q3 hne
    have e1 := (HE.out.below (only_below R6.g hB (by omega))).cell 2 (by decide)
    obtain ⟨y0, y1, y2, y3, -⟩ := R6.facts
    go_wp2_with fail
    go_step3
    refine ⟨rfl, ?_⟩
    go_wp2_with fail
    rw [Exit.noGoto_ret]
    go_ret2
    exact nextPost_none HD.out rfl R6.setE.r R6.setE.g
  have hnn : n = U.rowN (U.b2i c) := by have := HN.out; rw [if_neg hN] at this; exact this
  have h1 : decide (0 ≤ U.rowN (U.b2i c)) = true := by rw [decide_eq_true_eq]; omega
  have HI' := HI.out
  rw [h1] at HI'
  have HI2 := Box.mk HI'
  have n0 : 0 ≤ n := by omega
  have n3 : n ≤ 3 := by have := U.rowN_cases (U.b2i c); omega
  have HNE := Box.mk hnn
  have HNN := Box.mk (show 0 ≤ U.rowN (U.b2i c) by omega)
  clear HI' h1 hnn hN
  by_cases hlen : (s.size : Int) ≤ n
  · have hd : decide ((s.size : Int) ≤ n) = true := by rw [decide_eq_true_eq]; omega
    have HD := Box.mk (show U.dec s.data.toList = none by rw [HL.out]; exact U.dec_short (by have := HZ.out; have := HNE.out; omega))
    refine wp_region_class (RS w b w.heap.size s ev m n p q) (by kernel_rfl) (by kernel_rfl) R5.drew (fun hne => ?_)
    clear R5
    repeat (any_goals (first
      | go_big_quiet_step (first | (go_at_call 51; exact class_call (HI2.out _) (fun _ hb => RS.below (CW.h _) hb)))
      | quiet_step (first | (go_at_call 51; exact class_call (HI2.out _) (fun _ hb => RS.below (CW.h _) hb)))))
    refine wpQuiet_nil ?_
    rintro w2 ⟨⟨_, R6⟩, rfl⟩
    clear q0 q1 q2 q3 hne
    have e1 := (HE.out.below (only_below R6.g hB (by omega))).cell 2 (by decide)
    obtain ⟨y0, y1, y2, y3, -⟩ := R6.facts
    go_wp2_with fail
    go_step3
    refine ⟨rfl, ?_⟩
    go_wp2_with fail
    rw [Exit.noGoto_ret]
    go_ret2
    exact nextPost_none HD.out rfl R6.setE.r R6.setE.g
  have hd : decide ((s.size : Int) ≤ n) = false := by rw [decide_eq_false_iff_not]; omega
  have hz0 : n = 0 ∨ 0 < n := by omega
  rcases hz0 with hz0 | hz0
  case' inl =>
    have hd0 : decide (0 < n) = false := by rw [decide_eq_false_iff_not]; omega
    have HSEC := Box.mk (show n = 0 ∨ ∃ d1 t', t = d1 :: t' ∧ U.rowLo (U.b2i c) ≤ U.b2i d1 ∧ U.b2i d1 ≤ U.rowHi (U.b2i c) from .inl hz0)
    clear hz0
    refine wp_region_class (RS w b w.heap.size s ev m n p q) (by kernel_rfl) (by kernel_rfl) R5.drew (fun hne => ?_)
    clear R5
    repeat (any_goals (first
      | go_big_quiet_step (first | (go_at_call 51; exact class_call (HI2.out _) (fun _ hb => RS.below (CW.h _) hb)))
      | quiet_step (first | (go_at_call 51; exact class_call (HI2.out _) (fun _ hb => RS.below (CW.h _) hb)))))
    refine wpQuiet_nil ?_
    rintro w2 ⟨⟨_, R6⟩, rfl⟩
    clear q0 q1 q2 q3 hne
  case' inr =>
    have hd0 : decide (0 < n) = true := by rw [decide_eq_true_eq]; omega
    obtain ⟨d1, t', ht⟩ : ∃ d1 t', t = d1 :: t' := by
      cases t with
      | nil => have := HZ.out; simp at this; omega
      | cons d1 t' => exact ⟨d1, t', rfl⟩
    have i1 := idx_of Tryd.underlying9 s 1 (d := d1) (by rw [HL.out, ht]; rfl) 1 rfl
    have HS' := HS.out d1
    by_cases hsec' : ¬ (U.rowLo (U.b2i c) ≤ U.b2i d1 ∧ U.b2i d1 ≤ U.rowHi (U.b2i c))
    case pos =>
      have HD := Box.mk (show U.dec s.data.toList = none by rw [HL.out, ht]; exact U.dec_second (by have := HNE.out; omega) hsec')
      rw [show (decide (U.rowLo (U.b2i c) ≤ U.b2i d1) && decide (U.b2i d1 ≤ U.rowHi (U.b2i c))) = false by rw [Bool.and_eq_false_iff, decide_eq_false_iff_not, decide_eq_false_iff_not]; omega] at HS'
      have HS2 := Box.mk HS'
      clear HS' hsec' ht
      refine wp_region_class (RS w b w.heap.size s ev m n p q) (by kernel_rfl) (by kernel_rfl) R5.drew (fun hne => ?_)
      clear R5
      repeat (any_goals (first
        | go_big_quiet_step (first | (go_at_call 51; exact class_call (HI2.out _) (fun _ hb => RS.below (CW.h _) hb)) | (go_at_call 52; exact class_call (HS2.out _) (fun _ hb => RS.below (CW.h _) hb)))
        | quiet_step (first | (go_at_call 51; exact class_call (HI2.out _) (fun _ hb => RS.below (CW.h _) hb)) | (go_at_call 52; exact class_call (HS2.out _) (fun _ hb => RS.below (CW.h _) hb)))))
      refine wpQuiet_nil ?_
      rintro w2 ⟨⟨_, R6⟩, rfl⟩
      clear q0 q1 q2 q3 hne
      have e1 := (HE.out.below (only_below R6.g hB (by omega))).cell 2 (by decide)
      obtain ⟨y0, y1, y2, y3, -⟩ := R6.facts
      go_wp2_with fail
      go_step3
      refine ⟨rfl, ?_⟩
      go_wp2_with fail
      rw [Exit.noGoto_ret]
      go_ret2
      exact nextPost_none HD.out rfl R6.setE.r R6.setE.g
    have hsec := Decidable.not_not.1 hsec'
    rw [show (decide (U.rowLo (U.b2i c) ≤ U.b2i d1) && decide (U.b2i d1 ≤ U.rowHi (U.b2i c))) = true by simp [hsec]] at HS'
    have HS2 := Box.mk HS'
    have HSEC := Box.mk (show n = 0 ∨ ∃ d1 t', t = d1 :: t' ∧ U.rowLo (U.b2i c) ≤ U.b2i d1 ∧ U.b2i d1 ≤ U.rowHi (U.b2i c) from .inr ⟨d1, t', ht, hsec⟩)
    clear HS' hsec hsec' hz0 ht
    refine wp_region_class (RS w b w.heap.size s ev m n p q) (by kernel_rfl) (by kernel_rfl) R5.drew (fun hne => ?_)
    clear R5
    repeat (any_goals (first
      | go_big_quiet_step (first | (go_at_call 51; exact class_call (HI2.out _) (fun _ hb => RS.below (CW.h _) hb)) | (go_at_call 52; exact class_call (HS2.out _) (fun _ hb => RS.below (CW.h _) hb)))
      | quiet_step (first | (go_at_call 51; exact class_call (HI2.out _) (fun _ hb => RS.below (CW.h _) hb)) | (go_at_call 52; exact class_call (HS2.out _) (fun _ hb => RS.below (CW.h _) hb)))))
    refine wpQuiet_nil ?_
    rintro w2 ⟨⟨_, R6⟩, rfl⟩
    clear q0 q1 q2 q3 hne
  all_goals
    clear hd hd0
    have hw1 : IntKind.i64.wrap (n + 1) = n + 1 := IntWalk.i64_in _ (by omega)
    have hsl : ∀ W, (Instr.slice 9 (.string s) (some (.int .i64 1)) (some (.int .i64 (n + 1))) none).run Tryd.prog W = .ok (.string (s.extract 1 (n + 1).toNat)) W := by
      intro W
      exact slice_str Tryd.underlying9 s 1 (n + 1) (by omega) W
    generalize hsub : s.extract 1 (n + 1).toNat = sub at *
    go_wp2_with fail
    have hcv := fun W s' => run_bytes_of_string (P := Tryd.prog) W 9 63 5 s' Tryd.underlying9 Tryd.underlying63 Tryd.underlying5
    obtain ⟨o0, -, -, -, -, o2, -⟩ := R6.facts
    go_region
    have R7 := ((R6.alloc (.cells (bytesRow sub (grownCap w2.drew sub.size 0 5)) 5 ((bytesRow sub (grownCap w2.drew sub.size 0 5)).size, (bytesRow sub (grownCap w2.drew sub.size 0 5)).size + 1))).drew).drew
    have hcells := fun j d => bytes_cells w2 5 sub (grownCap w2.drew sub.size 0 5) ((bytesRow sub (grownCap w2.drew sub.size 0 5)).size, (bytesRow sub (grownCap w2.drew sub.size 0 5)).size + 1) j d
    replace hcells : ∀ j d, sub.data.toList[j]? = some d → (w2.alloc (.cells (bytesRow sub (grownCap w2.drew sub.size 0 5)) 5 ((bytesRow sub (grownCap w2.drew sub.size 0 5)).size, (bytesRow sub (grownCap w2.drew sub.size 0 5)).size + 1))).drew.drew.cell? ⟨w2.heap.size, j, none⟩ = some (.int .u8 (U.b2i d)) := hcells
    generalize (w2.alloc (.cells (bytesRow sub (grownCap w2.drew sub.size 0 5)) 5 ((bytesRow sub (grownCap w2.drew sub.size 0 5)).size, (bytesRow sub (grownCap w2.drew sub.size 0 5)).size + 1))).drew.drew = w6 at R7 hcells ⊢
    generalize w2.heap.size = g6 at hcells ⊢
    have hsubl : sub.data.toList = t.take n.toNat := by
      rw [← hsub, Lib.extract_data, HL.out]
      rw [show (n + 1).toNat - 1 = n.toNat by omega]
      rfl
    have hszN : (s.size : Int) = t.length + 1 := HZ.out
    have hsubz : sub.size = n.toNat := by rw [size_eq, hsubl, List.length_take]; omega
    have hdec : (∀ d ∈ t.take n.toNat, U.isTail d = true) → U.dec (c :: t) = some (U.fold (U.b2i c - m) (t.take n.toNat), n.toNat + 1) :=
      fun hall => U.dec_of HNE.out HMM.out n0 (by omega) hall HSEC.out
    have hno : ∀ d ∈ t.take n.toNat, U.isTail d = false → U.dec (c :: t) = none := by
      intro d hd hf
      have h1 := HNE.out
      rw [h1] at hd
      exact U.dec_not (by omega) hd hf
    have HDEC := Box.mk hdec
    have HNO := Box.mk hno
    have HCELL := Box.mk hcells
    have HSUB := Box.mk hsubl
    have HSUBZ := Box.mk hsubz
    have hs3 : sub.size ≤ 3 := by omega
    have HSZN := Box.mk hszN
    clear hdec hno hcells hsubl hsubz hsub hsl hw1 hcv hszN
    go_wp2_with fail
    go_loop [64] (fun i => ∃ j : Nat, j ≤ sub.size ∧ i = .int .i64 j ∧ ∀ d ∈ sub.data.toList.take j, U.isTail d = true) (fun i => sub.size - (intOf i).toNat)
    case atStart => exact ⟨0, by omega, rfl, by simp⟩
    case round =>
      obtain ⟨j, hj, rfl, hall⟩ := hrel
      have HALL := Box.mk hall
      clear hall
      by_cases hlt : j < sub.size
      · obtain ⟨d, hd⟩ : ∃ d, sub.data.toList[j]? = some d := ⟨_, List.getElem?_eq_getElem (by rw [← size_eq]; exact hlt)⟩
        have hc := HCELL.out j d hd
        have hmem : d ∈ sub.data.toList := List.mem_of_getElem? hd
        have HTS := Box.mk (show U.isTail d = true → ∀ x ∈ sub.data.toList.take (j + 1), U.isTail x = true by
          intro h x hx
          rw [List.take_add_one, hd] at hx
          rcases List.mem_append.1 hx with hx | hx
          · exact HALL.out x hx
          · simp at hx; rw [hx]; exact h)
        have HMEM := Box.mk hmem
        clear hd hmem
        have hb0 := U.b2i_nonneg d
        have hb1 := U.b2i_lt d
        have e1 := (HE.out.below (only_below R7.g hB (by omega))).cell 2 (by decide)
        obtain ⟨y0, y1, y2, y3, -⟩ := R7.facts
        go_wp2_with fail
        · go_step3
          refine ⟨rfl, ?_⟩
          go_wp2_with fail
          rw [Exit.noGoto_ret]
          go_ret2
          refine nextPost_none ?_ rfl R7.setE.r R7.setE.g
          rw [HL.out]
          exact HNO.out d (by have := HMEM.out; rwa [HSUB.out] at this) ((U.isTail_false d).2 (by omega))
        · clear y0 y1 y2 y3 e1
          have HT := Box.mk (HTS.out ((U.isTail_iff d).2 (by omega)))
          have HJ := Box.mk hlt
          go_round
          case rel => exact ⟨j + 1, HJ.out, by go_num, HT.out⟩
          case measure => have := HJ.out; simp [intOf]; omega
        · go_step3
          refine ⟨rfl, ?_⟩
          go_wp2_with fail
          rw [Exit.noGoto_ret]
          go_ret2
          refine nextPost_none ?_ rfl R7.setE.r R7.setE.g
          rw [HL.out]
          exact HNO.out d (by have := HMEM.out; rwa [HSUB.out] at this) ((U.isTail_false d).2 (by omega))
      · obtain rfl : j = sub.size := by omega
        have hdc := HDEC.out (by have := HALL.out; rw [List.take_of_length_le (by rw [← size_eq]; exact Nat.le_refl _), HSUB.out] at this; exact this)
        have HDC := Box.mk hdc
        clear hdc
        go_wp2_with fail
        obtain ⟨o0, o1, -, -, o2, o3, -⟩ := R7.facts
        have HMB := HM.out
        have hmb : 0 ≤ U.b2i c - m ∧ U.b2i c - m < 128 := by have := HNN.out; omega
        have hmw : IntKind.u8.wrap (U.b2i c - m) = U.b2i c - m := IntWalk.u8_in _ (by omega) 
        go_region
        clear o0 o1 o2 o3 HMB hmw
        have R8 := R7.drew
        generalize w6.drew = w8 at R8 ⊢
        clear R7
        go_wp2_with fail
        obtain ⟨o0, o1, p0, p1, o2, o3, -⟩ := R8.drew.facts
        have hcv := fun W s' => run_bytes_of_string (P := Tryd.prog) W 9 63 5 s' Tryd.underlying9 Tryd.underlying63 Tryd.underlying5
        have hw1 : IntKind.i64.wrap (n + 1) = n + 1 := IntWalk.i64_in _ (by omega)
        have hnn : ((n + 1).toNat : Int) = n + 1 := by omega
        have hT := fun W => take_any b 0 s (n + 1).toNat W (by have := HSZN.out; omega) hs
        rw [hnn] at hT
        have hpl : (s.extract 0 (n + 1).toNat).data.toList = c :: t.take n.toNat := by
          rw [Lib.extract_data, HL.out, show (n + 1).toNat - 0 = n.toNat + 1 by omega]; rfl
        have hpost : s.extract (n + 1).toNat s.size = s.extract (n.toNat + 1) s.size := by rw [show (n + 1).toNat = n.toNat + 1 by omega]
        rw [hpost] at hT
        generalize hpre : s.extract 0 (n + 1).toNat = pre at hT hpl
        generalize hpst : s.extract (n.toNat + 1) s.size = post at hT
        have hpz : pre.size = n.toNat + 1 := by rw [size_eq, hpl, List.length_cons, List.length_take]; have := HSZN.out; omega
        have hsl : ∀ W, (Instr.slice 9 (.string pre) (some (.int .i64 1)) none none).run Tryd.prog W = .ok (.string (pre.extract 1 pre.size)) W := by
          intro W
          exact run_slice_string_l (P := Tryd.prog) W 9 pre Tryd.underlying9 .i64 1 (by omega) (by omega)
        have hql : (pre.extract 1 pre.size).data.toList = t.take n.toNat := by
          rw [Lib.extract_data, hpl, hpz]; simp [List.take_take]
        generalize pre.extract 1 pre.size = sub2 at hsl hql
        have hqz : sub2.size = n.toNat := by rw [size_eq, hql, List.length_take]; have := HSZN.out; omega
        have HT := Box.mk hT
        have HQL := Box.mk hql
        have HQZ := Box.mk hqz
        have HPST := Box.mk hpst
        clear hT hql hqz hpz hpl hpre hpst hpost hnn
        go_region_with (go_at_call 53; refine (HT.out _ ?_ ?_).mono ?_; exact o0; exact p0; rintro e w9 ⟨rfl, rfl⟩)
        simp only [List.getElem_toArray, List.getElem_cons_succ, List.getElem_cons_zero, Act.put, List.setIfInBounds_toArray, List.set_cons_succ, List.set_cons_zero]
        have R9 := (((R8.setS (s' := post)).alloc (.cells (bytesRow sub2 (grownCap (w8.setCell ⟨b, 0, none⟩ (.string post)).drew sub2.size 0 5)) 5 ((bytesRow sub2 (grownCap (w8.setCell ⟨b, 0, none⟩ (.string post)).drew sub2.size 0 5)).size, (bytesRow sub2 (grownCap (w8.setCell ⟨b, 0, none⟩ (.string post)).drew sub2.size 0 5)).size + 1))).drew).drew
        have hcells : ∀ j d, sub2.data.toList[j]? = some d → _ := fun j d => bytes_cells (w8.setCell ⟨b, 0, none⟩ (.string post)) 5 sub2 (grownCap (w8.setCell ⟨b, 0, none⟩ (.string post)).drew sub2.size 0 5) ((bytesRow sub2 (grownCap (w8.setCell ⟨b, 0, none⟩ (.string post)).drew sub2.size 0 5)).size, (bytesRow sub2 (grownCap (w8.setCell ⟨b, 0, none⟩ (.string post)).drew sub2.size 0 5)).size + 1) j d
        replace hcells : ∀ j d, sub2.data.toList[j]? = some d → (((w8.setCell ⟨b, 0, none⟩ (.string post)).alloc (.cells (bytesRow sub2 (grownCap (w8.setCell ⟨b, 0, none⟩ (.string post)).drew sub2.size 0 5)) 5 ((bytesRow sub2 (grownCap (w8.setCell ⟨b, 0, none⟩ (.string post)).drew sub2.size 0 5)).size, (bytesRow sub2 (grownCap (w8.setCell ⟨b, 0, none⟩ (.string post)).drew sub2.size 0 5)).size + 1))).drew).drew.cell? ⟨w8.heap.size, j, none⟩ = some (.int .u8 (U.b2i d)) := by
          intro j d hd
          have := hcells j d hd
          rw [World.size_setCell] at this
          exact this
        generalize (((w8.setCell ⟨b, 0, none⟩ (.string post)).alloc (.cells (bytesRow sub2 (grownCap (w8.setCell ⟨b, 0, none⟩ (.string post)).drew sub2.size 0 5)) 5 ((bytesRow sub2 (grownCap (w8.setCell ⟨b, 0, none⟩ (.string post)).drew sub2.size 0 5)).size, (bytesRow sub2 (grownCap (w8.setCell ⟨b, 0, none⟩ (.string post)).drew sub2.size 0 5)).size + 1))).drew).drew = wA at R9 hcells ⊢
        generalize w8.heap.size = gA at hcells ⊢
        have HCELL2 := Box.mk hcells
        clear hcells R8 o0 o1 p0 p1 o2 o3 hcv hsl hw1
        go_wp2_with fail
        have hsame : sub2.data.toList = sub.data.toList := HQL.out.trans HSUB.out.symm
        have HFB := Box.mk (fun j => U.fold_bounds (sub2.data.toList.take j) (fun d hd => by
          have h1 := HALL.out
          rw [List.take_of_length_le (by rw [← size_eq]; exact Nat.le_refl _)] at h1
          rw [hsame] at hd
          exact h1 d (List.mem_of_mem_take hd)) (U.b2i c - m) hmb.1 (by rw [List.length_take, ← size_eq]; have := HQZ.out; omega) hmb.2)
        have HTL := Box.mk (fun d (hd : d ∈ sub2.data.toList) => by
          have h1 := HALL.out
          rw [List.take_of_length_le (by rw [← size_eq]; exact Nat.le_refl _)] at h1
          rw [hsame] at hd
          exact (U.isTail_iff d).1 (h1 d hd))
        have hq3 : sub2.size ≤ 3 := by have := HQZ.out; omega
        clear hsame
        go_loop [5, 95] (fun o i => ∃ j : Nat, j ≤ sub2.size ∧ i = .int .i64 j ∧ o = .int .i64 (U.fold (U.b2i c - m) (sub2.data.toList.take j))) (fun _ i => sub2.size - (intOf i).toNat)
        case atStart => exact ⟨0, by omega, rfl, rfl⟩
        case round =>
          obtain ⟨j, hj, rfl, rfl⟩ := hrel
          have hfb := HFB.out j
          generalize hfold : U.fold (U.b2i c - m) (sub2.data.toList.take j) = x at *
          by_cases hlt : j < sub2.size
          · obtain ⟨d, hd⟩ : ∃ d, sub2.data.toList[j]? = some d := ⟨_, List.getElem?_eq_getElem (by rw [← size_eq]; exact hlt)⟩
            have hc := HCELL2.out j d hd
            have hr := HTL.out d (List.mem_of_getElem? hd)
            have HSN := Box.mk (show U.fold (U.b2i c - m) (sub2.data.toList.take (j + 1)) = 64 * x + U.b2i d - 128 by
              rw [List.take_add_one, hd, ← hfold]; exact U.fold_snoc _ _ _)
            clear hd hfold
            have HO := Box.mk (show bits .or .i64 (x * 64) (bits .and .i64 (U.b2i d) 63) = 64 * x + U.b2i d - 128 by
              rw [and_63 _ (by omega) (by omega), or_64 _ _ hfb.1 (by omega) (by omega) (by omega)]; omega)
            have HJ := Box.mk hlt
            go_wp2_with fail
            refine ⟨⟨j + 1, HJ.out, by go_num, vint (by rw [HO.out, HSN.out])⟩, ?_⟩
            have := HJ.out
            simp [intOf]; omega
          · obtain rfl : j = sub2.size := by omega
            have HF := Box.mk (show U.fold (U.b2i c - m) (t.take n.toNat) = x by
              rw [← hfold, HQL.out, HQZ.out, List.take_take, Nat.min_self])
            clear hfold
            go_wp2_with fail
            obtain ⟨o0, o1, -, -, o2, o3, -⟩ := R9.facts
            go_region
            go_wp2_with fail
            rw [fwd_ret]
            go_ret2
            refine nextPost_some (r := x) (n := n.toNat + 1) (by rw [HL.out, HDC.out, HF.out]) ?_ ?_ ?_
            · exact ret2 rfl (vint (by omega))
            · rw [HPST.out]; exact R9.drew.r
            · exact R9.drew.g
end Go.Proofs.YtbagecjkfcoapaaDoor
