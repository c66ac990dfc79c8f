/-
  Texts of this claim, one behind the other: Range, Ints, Sep, NfaA, NfaB, NfaC, NfaD, NfaE, NfaF.
-/
import Derived.Test.YtbpcipobdokcfaaGreatDoorH1
import Derived.RangeFuncNested
import Derived.RangeFuncBound
import Derived.RangeFuncCalls
import Derived.RangeFuncLeaves
import Derived.OwnWalkIn
import Derived.TacticsInMore
import Derived.LoopNIn
import Derived.LoopIn
import Derived.ChangeSlices
import Derived.WideShapes
import Derived.DataReads
import Derived.Maps.AppendAt
import Derived.Shelf.Abstract
import Derived.Shelf.RegionOpen
import Derived.Deep.SlicePairs
import Derived.Lib.SmallJoins
import Derived.RegionTactic

/- A RANGE OVER A FUNCTION: one law for the caller, one form of contract for the iterator. The iterator may keep a state of its own in blocks of its own ('own'); the caller's invariant abides what it does there; the rounds leave those blocks alone. -/
namespace Go.Proofs.YtbpcipobdokcfaaGreatDoor
open Go.RowKit

/-- new blocks, and writes to the blocks of one kind -/
structure Turns (own : Nat → Prop) (W W' : World) : Prop where
  os : W'.os = W.os
  tape : W'.tape = W.tape
  output : W'.output = W.output
  size : W.heap.size ≤ W'.heap.size
  block : ∀ k, k < W.heap.size → ¬ own k → W'.heap[k]? = W.heap[k]?
/-- the blocks of one kind lie as they lay -/
structure Holds (own : Nat → Prop) (W W' : World) : Prop where
  size : W.heap.size ≤ W'.heap.size
  block : ∀ k, own k → W'.heap[k]? = W.heap[k]?
section
variable {own own' : Nat → Prop} {A B C : World}
theorem Turns.refl (own : Nat → Prop) (A : World) : Turns own A A := ⟨rfl, rfl, rfl, Nat.le_refl _, fun _ _ _ => rfl⟩
theorem Turns.trans (h : Turns own A B) (k : Turns own B C) : Turns own A C :=
  ⟨k.os.trans h.os, k.tape.trans h.tape, k.output.trans h.output, Nat.le_trans h.size k.size, fun i hi ho => (k.block i (Nat.lt_of_lt_of_le hi h.size) ho).trans (h.block i hi ho)⟩
theorem Turns.mono (h : Turns own A B) (hm : ∀ k, own k → own' k) : Turns own' A B := ⟨h.os, h.tape, h.output, h.size, fun i hi ho => h.block i hi (fun k => ho (hm i k))⟩
theorem Turns.of_below (h : Below A.heap.size A B) : Turns own A B := ⟨h.os, h.tape, h.output, h.size, fun i hi _ => h.block i hi⟩
theorem Turns.of_only {b : Nat} (h : A.grownBy B (some b)) (hb : own b) : Turns own A B :=
  ⟨h.os, h.tape, h.output, h.size, fun i hi ho => h.block i hi (fun e => ho (by cases e; exact hb))⟩
theorem Turns.drew (A : World) : Turns own A A.drew := ⟨rfl, rfl, rfl, Nat.le_refl _, fun _ _ _ => rfl⟩
theorem Turns.alloc (A : World) (o : Obj) : Turns own A (A.alloc o) := .of_below ((Below.refl _ _).alloc (Nat.le_refl _) o)
theorem Turns.setCell (A : World) {p : Addr} (hp : own p.block) (u : Value) : Turns own A (A.setCell p u) :=
  ⟨rfl, rfl, rfl, by simp [World.setCell], fun k _ ho => Below.heap_setCell _ _ _ _ (fun e => ho (by rw [e]; exact hp))⟩
theorem Turns.putObj (A : World) {l : Nat} (hl : own l) (o : Obj) : Turns own A (A.putObj l o) :=
  ⟨rfl, rfl, rfl, by simp, fun k _ ho => World.putObj_heap_other (fun e => ho (by rw [e]; exact hl))⟩
theorem Turns.below (h : Turns own A B) {n : Nat} (hn : n ≤ A.heap.size) (ho : ∀ k, own k → n ≤ k) : Below n A B :=
  ⟨h.os, h.tape, h.output, h.size, fun k hk => h.block k (by omega) (fun e => by have := ho k e; omega)⟩
theorem Turns.blk (h : Turns own A B) {g : Nat} {t : TypeId} {cs : Array Value} (hb : Blk A g t cs) (hg : ¬ own g) : Blk B g t cs := (h.block g hb.lt hg).trans hb
theorem Turns.cell (h : Turns own A B) {p : Addr} {v : Value} (hp : A.cell? p = some v) (hg : ¬ own p.block) : B.cell? p = some v :=
  (World.cell?_of_block (h.block p.block (World.block_lt_of_cell? A p hp) hg)).trans hp
theorem Turns.row (h : Turns own A B) {base : Nat} {e : TypeId} {size : Nat} {v : Value} {n : Nat} {xs : List Value} (hr : A.ownsRow base e size v n xs) (hg : ∀ k, v.ownBlock = some k → ¬ own k) : B.ownsRow base e size v n xs := by
  refine ⟨hr.1, ?_⟩
  rcases hr.2 with hn | ⟨g, cap, cur, rfl, hb, hgg, rest⟩
  · exact .inl hn
  · exact .inr ⟨g, cap, cur, rfl, hb, (h.block g (Array.getElem?_eq_some_iff.1 hgg).1 (hg g rfl)).trans hgg, rest⟩
theorem Holds.refl (own : Nat → Prop) (A : World) : Holds own A A := ⟨Nat.le_refl _, fun _ _ => rfl⟩
theorem Holds.trans (h : Holds own A B) (k : Holds own B C) : Holds own A C := ⟨Nat.le_trans h.size k.size, fun i hi => (k.block i hi).trans (h.block i hi)⟩
theorem Holds.mono (h : Holds own A B) (hm : ∀ k, own' k → own k) : Holds own' A B := ⟨h.size, fun i hi => h.block i (hm i hi)⟩
theorem Holds.of_turns (h : Turns own' A B) (hl : ∀ k, own k → k < A.heap.size) (hd : ∀ k, own k → ¬ own' k) : Holds own A B := ⟨h.size, fun k hk => h.block k (hl k hk) (hd k hk)⟩
end

/-- WHAT AN ITERATOR's CLOSURE PROMISES, the record's number being l: whatever the caller keeps (J) that abides its turns, each round at what comes next: all have come (S), or a round has said that no more is wanted. -/
def IterC {α : Type} (n : Nat) (P : Program) (gf : Nat) (lb : Array Value) (encs : α → Array Value) (own keep : Nat → Prop) (ok : List α → α → Prop) (S : List α → World → Prop) (l : Nat) (W1 : World) : Prop :=
  ∀ (J Jx : List α → World → Prop), (∀ pre W W', J pre W → Turns own W W' → J pre W') → (∀ pre W W', Jx pre W → Turns own W W' → Jx pre W') →
    (∀ pre x W, J pre W → ok pre x → YieldAt Fence.wide (n - 1) P l (encs x) W fun e W' => (e = .returned (.bool true) ∧ J (pre ++ [x]) W' ∧ Holds keep W W') ∨ (e = .returned (.bool false) ∧ Jx (pre ++ [x]) W')) →
    J [] W1 → CallsIn Fence.wide n P gf (#[.func (.yield l) #[] #[]] ++ lb) W1 fun e W' => (∃ v, e = .returned v) ∧ ((∃ xs, S xs W' ∧ J xs W') ∨ (∃ pre, Jx pre W'))

/-- how a round's body may be left -/
def roundP {α : Type} (keep : Nat → Prop) (I : List α → World → Prop) (Ix : Code → List α → World → Prop) (l D : Nat) (xs : List α) (W : World) : Exit → Act → World → Prop
  | .normal, _, W' => Holds (fun k => keep k ∨ k = l ∨ k = D) W W' ∧ I xs W'
  | .ret, _, W' => Holds (fun k => k = l ∨ k = D) W W' ∧ Ix .ret xs W'
  | .exit id, _, W' => Holds (fun k => k = l ∨ k = D) W W' ∧ Ix (.exit id) xs W'
  | .goto t, _, W' => Holds (fun k => k = l ∨ k = D) W W' ∧ Ix (.goto t) xs W'
  | .panic _, _, _ => False
  | .outgrown, _, _ => False

/-- **THE STATEMENT** -/
theorem range_law {α : Type} {P : Program} {n : Nat} {g : Operand} {ps : Array Tmp} {assign body : Code} {Q : Exit → Act → World → Prop} {a : Act} {w : World}
    {gf : Nat} {lb : Array Value} (hg : a.eval g = .func (.func gf) #[] lb) (eg : ∀ args w, (callFunc gf args).run P w = .ok (.enter gf args) w)
    {encs : α → Array Value} {own keep : Nat → Prop} {ok : List α → α → Prop} {S : List α → World → Prop} (hown : ∀ k, own k ∨ keep k → k < w.heap.size)
    (hit : ∀ W1, Turns (fun _ => False) w W1 → IterC (n - 1) P gf lb encs own keep ok S (w.heap.size + 1) W1)
    (hps : ∀ x, (encs x).size = ps.size)
    (I : List α → World → Prop) (Ix : Code → List α → World → Prop)
    (hI : ∀ pre W W', I pre W → Turns (fun k => own k ∨ k = w.heap.size + 1) W W' → I pre W')
    (hIx : ∀ c pre W W', Ix c pre W → Turns (fun k => own k ∨ k = w.heap.size + 1) W W' → Ix c pre W')
    (h0 : I [] w) (Ax : α → Act → World → Prop) (hAx : ∀ x a1 W W', Ax x a1 W → Turns (fun k => k = w.heap.size + 1) W W' → Ax x a1 W')
    (hassign : ∀ (x : α) (W : World) (K : Act → World → Prop), w.heap.size + 2 ≤ W.heap.size → (∀ a1 W1, Turns (fun _ => False) W W1 → Ax x a1 W1 → K a1 W1) →
      assign.wpIn (Fence.wide.inRound (w.heap.size + 1)) (n - 1 - 1) P (Exit.then K (fun _ _ _ => False)) { tmps := (ps.zip (encs x)).foldl (fun t (p, v) => t.setIfInBounds p v) a.tmps, defers := [] } W)
    (hbody : ∀ (pre : List α) (x : α) (a1 : Act) (W : World), w.heap.size + 2 ≤ W.heap.size → I pre W → ok pre x → Ax x a1 W →
      body.wpIn (Fence.wide.inRound (w.heap.size + 1)) (n - 1 - 1) P (roundP keep I Ix (w.heap.size + 1) w.heap.size (pre ++ [x]) W) a1 W)
    (hdone : ∀ (xs : List α) (W : World), w.heap.size + 2 ≤ W.heap.size → S xs W → I xs W → W.heap[w.heap.size]? = some (.deferred (some [])) → Q .normal { a with defers := { target := .collected w.heap.size, args := #[] } :: a.defers } W)
    (hstop : ∀ (c : Code) (pre : List α) (W : World), w.heap.size + 2 ≤ W.heap.size → Ix c pre W → W.heap[w.heap.size]? = some (.deferred (some [])) → c.wpIn Fence.wide n P Q { a with defers := { target := .collected w.heap.size, args := #[] } :: a.defers } W)
    (hS : ∀ xs W W', S xs W → Turns (fun k => k = w.heap.size + 1) W W' → S xs W') :
    (Code.rangeFunc g ps assign body).wpIn Fence.wide n P Q a w := by
  refine wpIn_rangeFunc ?_
  intro fn hfn
  obtain ⟨rec, hrec⟩ : ∃ rec : LoopState → Option Code → Loop, rec = fun st pe => { state := st, pending := pe, fn, tmps := a.tmps, params := ps, assign, body, defers := w.heap.size } := ⟨_, rfl⟩
  obtain ⟨W1, hW1⟩ : ∃ W1, (w.alloc (.deferred (some []))).alloc (.loop (rec .ready none)) = W1 := ⟨_, rfl⟩
  have hL1 : W1.heap[w.heap.size + 1]? = some (.loop (rec .ready none)) := by
    rw [← hW1]; have := World.alloc_heap_new (w.alloc (.deferred (some []))) (.loop (rec .ready none)); rwa [World.size_alloc] at this
  have hK1 : W1.heap[w.heap.size]? = some (.deferred (some [])) := by
    rw [← hW1]; exact (Below.heap_alloc _ _ _ (by simp)).trans (World.alloc_heap_new w _)
  have hT1 : ∀ o, Turns o w W1 := fun o => by rw [← hW1]; exact (Turns.alloc w _).trans (Turns.alloc _ _)
  have hI1 : I [] W1 := hI _ _ _ h0 (hT1 _)
  refine ⟨w.heap.size + 1, [{ target := .collected w.heap.size, args := #[] }], W1, { target := .fn (.func gf) lb, args := #[.func (.yield (w.heap.size + 1)) #[] #[]] }, W1, gf,
    #[.func (.yield (w.heap.size + 1)) #[] #[]] ++ lb, W1, ?_, ?_, ?_, ?_, fun h => by simp [Fence.wide] at h, ?_⟩
  · rw [← hW1, hrec]; exact run_enterLoop_outer _ _ _ _ _
  · simp only [resolve, hg]
    simp [go_sem]
  · intro f' _; trivial
  · simp [invoke, go_sem, eg]
  · have hnl : ¬ own (w.heap.size + 1) := fun h => by have := hown _ (.inl h); omega
    have hnd : ¬ own w.heap.size := fun h => by have := hown _ (.inl h); omega
    refine (hit W1 (hT1 _)
      (fun pre W => I pre W ∧ W.heap[w.heap.size + 1]? = some (.loop (rec .ready none)) ∧ W.heap[w.heap.size]? = some (.deferred (some [])))
      (fun pre W => ∃ c, Ix c pre W ∧ W.heap[w.heap.size + 1]? = some (.loop (rec .done (some c))) ∧ W.heap[w.heap.size]? = some (.deferred (some [])))
      ?_ ?_ ?_ ⟨hI1, hL1, hK1⟩).mono ?_
    · rintro pre W W' ⟨hi, hl, hk⟩ ht
      exact ⟨hI _ _ _ hi (ht.mono fun k => .inl), (ht.block _ (Array.getElem?_eq_some_iff.1 hl).1 hnl).trans hl, (ht.block _ (Array.getElem?_eq_some_iff.1 hk).1 hnd).trans hk⟩
    · rintro pre W W' ⟨c, hi, hl, hk⟩ ht
      exact ⟨c, hIx _ _ _ _ hi (ht.mono fun k => .inl), (ht.block _ (Array.getElem?_eq_some_iff.1 hl).1 hnl).trans hl, (ht.block _ (Array.getElem?_eq_some_iff.1 hk).1 hnd).trans hk⟩
    · -- one round
      rintro pre x W ⟨hi, hl, hk⟩ hok
      have hlt : w.heap.size + 1 < W.heap.size := (Array.getElem?_eq_some_iff.1 hl).1
      have hy := run_yield (P := P) (args := encs x) hl (by rw [hrec]; exact hps x)
      rw [hrec] at hy
      refine ⟨fn, _, assign, body, hy, roundIn_of_wpIn hfn (hassign x W _ (by omega) fun a1 Wa ha hax => ?_)⟩
      have hla : Wa.heap[w.heap.size + 1]? = some (.loop (rec .ready none)) := (ha.block _ hlt (fun h => h)).trans hl
      have hka : Wa.heap[w.heap.size]? = some (.deferred (some [])) := (ha.block _ (by omega) (fun h => h)).trans hk
      have hlta : w.heap.size + 1 < Wa.heap.size := (Array.getElem?_eq_some_iff.1 hla).1
      refine ⟨_, run_beginRound hla (by rw [hrec]), ?_⟩
      obtain ⟨Wb, hWb⟩ : ∃ Wb, Wa.putObj (w.heap.size + 1) (.loop { rec .ready none with state := .busy }) = Wb := ⟨_, rfl⟩
      rw [hWb]
      have htb : ∀ o : Nat → Prop, o (w.heap.size + 1) → Turns o Wa Wb := fun o ho => by rw [← hWb]; exact Turns.putObj _ ho _
      have hlb : Wb.heap[w.heap.size + 1]? = some (.loop { rec .ready none with state := .busy }) := by rw [← hWb]; exact World.putObj_heap_same hlta
      have hkb : Wb.heap[w.heap.size]? = some (.deferred (some [])) := by rw [← hWb]; exact (World.putObj_heap_other (by omega)).trans hka
      have hsb : Wb.heap.size = Wa.heap.size := by rw [← hWb]; simp
      refine wpIn_mono (hbody pre x a1 Wb (by omega) (hI _ _ _ hi ((ha.mono fun _ h => h.elim).trans (htb _ (.inr rfl)))) hok (hAx _ _ _ _ hax (htb _ rfl))) ?_
      have fin : ∀ (jump : Option Code) (W3 : World), Holds (fun k => k = w.heap.size + 1 ∨ k = w.heap.size) Wb W3 →
          (Instr.endRound (w.heap.size + 1) jump).run P W3 = .ok (.bool jump.isNone) (W3.putObj (w.heap.size + 1) (.loop (rec (if jump.isNone then .ready else .done) jump))) ∧
          (W3.putObj (w.heap.size + 1) (.loop (rec (if jump.isNone then .ready else .done) jump))).heap[w.heap.size + 1]? = some (.loop (rec (if jump.isNone then .ready else .done) jump)) ∧
          (W3.putObj (w.heap.size + 1) (.loop (rec (if jump.isNone then .ready else .done) jump))).heap[w.heap.size]? = some (.deferred (some [])) := fun jump W3 hk3 => by
        have hl3 := (hk3.block _ (.inl rfl)).trans hlb
        have := run_endRound (P := P) jump hl3
        rw [hrec] at this ⊢
        exact ⟨this, World.putObj_heap_same (Array.getElem?_eq_some_iff.1 hl3).1, (World.putObj_heap_other (by omega)).trans ((hk3.block _ (.inr rfl)).trans hkb)⟩
      rintro e a3 W3 hp
      cases e with
      | normal =>
        obtain ⟨hh, hi3⟩ := hp
        obtain ⟨hr, hl4, hk4⟩ := fin none W3 (hh.mono fun _ h => .inr h)
        refine ⟨_, _, hr, .inl ⟨rfl, ⟨hI _ _ _ hi3 (Turns.putObj _ (.inr rfl) _), hl4, hk4⟩, ?_⟩⟩
        refine ⟨?_, fun k ho => ?_⟩
        · have := ha.size; have := hh.size; simp; omega
        · have hkw := hown k (.inr ho)
          rw [World.putObj_heap_other (by omega), hh.block k (.inl ho), ← hWb, World.putObj_heap_other (by omega)]
          exact ha.block k (by omega) (fun h => h)
      | ret =>
        obtain ⟨hh, hi3⟩ := hp
        obtain ⟨hr, hl4, hk4⟩ := fin (some .ret) W3 hh
        exact ⟨_, _, hr, .inr ⟨rfl, .ret, hIx _ _ _ _ hi3 (Turns.putObj _ (.inr rfl) _), hl4, hk4⟩⟩
      | exit id =>
        obtain ⟨hh, hi3⟩ := hp
        obtain ⟨hr, hl4, hk4⟩ := fin (some (.exit id)) W3 hh
        exact ⟨_, _, hr, .inr ⟨rfl, .exit id, hIx _ _ _ _ hi3 (Turns.putObj _ (.inr rfl) _), hl4, hk4⟩⟩
      | goto t =>
        obtain ⟨hh, hi3⟩ := hp
        obtain ⟨hr, hl4, hk4⟩ := fin (some (.goto t)) W3 hh
        exact ⟨_, _, hr, .inr ⟨rfl, .goto t, hIx _ _ _ _ hi3 (Turns.putObj _ (.inr rfl) _), hl4, hk4⟩⟩
      | panic ch => exact hp.elim
      | outgrown => exact hp.elim
    · -- behind the iterator
      rintro e W2 ⟨⟨v, rfl⟩, (⟨xs, hSx, hi, hl, hk⟩ | ⟨pre, c, hi, hl, hk⟩)⟩
      · have hlt := (Array.getElem?_eq_some_iff.1 hl).1
        exact ⟨none, _, by have := run_endLoop (P := P) hl (by rw [hrec]; simp); rw [hrec] at this; exact this,
          hdone xs _ (by simp; omega) (hS _ _ _ hSx (Turns.putObj (own := fun k => k = w.heap.size + 1) _ rfl _)) (hI _ _ _ hi (Turns.putObj _ (.inr rfl) _)) ((World.putObj_heap_other (by omega)).trans hk)⟩
      · have hlt := (Array.getElem?_eq_some_iff.1 hl).1
        exact ⟨some c, _, by have := run_endLoop (P := P) hl (by rw [hrec]; simp); rw [hrec] at this; exact this,
          hstop c pre _ (by simp; omega) (hIx _ _ _ _ hi (Turns.putObj _ (.inr rfl) _)) ((World.putObj_heap_other (by omega)).trans hk)⟩
end Go.Proofs.YtbpcipobdokcfaaGreatDoor

/- LISTS OF NUMBERS, AS VALUES. -/
namespace Go.Proofs.YtbpcipobdokcfaaGreatDoor
open Go.RowKit

/-- a value that reads as these numbers -/
def IntsAt (w : World) (v : Value) (xs : List Int) : Prop :=
  (v = .slice none 0 0 ∧ xs = []) ∨ ∃ b off sp cap, v = .slice (some ⟨b, off, sp⟩) xs.length cap ∧ xs.length ≤ cap ∧ cap ≤ maxLen ∧ (xs ≠ [] → sp = none ∧ b < w.heap.size ∧ ∀ i x, xs[i]? = some x → w.cell? ⟨b, off + i, none⟩ = some (.int .i64 x))
theorem IntsAt.below {w w' : World} {v : Value} {xs : List Int} (h : IntsAt w v xs) (hb : Below w.heap.size w w') : IntsAt w' v xs := by
  rcases h with h | ⟨b, off, sp, cap, h1, h2, h3, h4⟩
  · exact .inl h
  · exact .inr ⟨b, off, sp, cap, h1, h2, h3, fun hn => ⟨(h4 hn).1, Nat.lt_of_lt_of_le (h4 hn).2.1 hb.size, fun i x hx => (hb.cell (p := ⟨b, off + i, none⟩) (h4 hn).2.1).trans ((h4 hn).2.2 i x hx)⟩⟩
theorem IntsAt.get {w : World} {v : Value} {xs : List Int} (h : IntsAt w v xs) (hn : xs ≠ []) :
    ∃ b off cap, v = .slice (some ⟨b, off, none⟩) xs.length cap ∧ xs.length ≤ cap ∧ cap ≤ maxLen ∧ b < w.heap.size ∧ ∀ i x, xs[i]? = some x → w.cell? ⟨b, off + i, none⟩ = some (.int .i64 x) := by
  rcases h with ⟨_, h⟩ | ⟨b, off, sp, cap, h1, h2, h3, h4⟩
  · exact absurd h hn
  · obtain ⟨rfl, h5, h6⟩ := h4 hn
    exact ⟨b, off, cap, h1, h2, h3, h5, h6⟩
theorem IntsAt.of_own {w : World} {base n : Nat} {T : TypeId} {v : Value} {xs : List Int} (h : w.ownsRow base T 1 v n (xs.map (Value.int .i64))) (hn : n = xs.length) : IntsAt w v xs := by
  subst hn
  have hl := h.lt
  rcases h.2 with ⟨h1, h2⟩ | ⟨g, cap, cur, rfl, h2, h3, h4, h5, h6, h7⟩
  · exact .inl ⟨h1, List.eq_nil_of_length_eq_zero h2⟩
  · refine .inr ⟨g, 0, none, cap, rfl, h4, h5, fun _ => ⟨rfl, (hl g rfl).2, fun i x hx => ?_⟩⟩
    have := h.cells (g := g) rfl i (.int .i64 x) (by rw [List.getElem?_map, hx]; rfl)
    rw [show (⟨g, 0 + i, none⟩ : Addr) = (⟨g, 0, none⟩ : Addr).add i by unfold Addr.add; by_cases h0 : i = 0 <;> simp [h0]]
    exact this
theorem IntsAt.nil {w : World} : IntsAt w (.slice none 0 0) [] := .inl ⟨rfl, rfl⟩
theorem IntsAt.slice {w : World} {v : Value} {xs : List Int} (h : IntsAt w v xs) : ∃ a cap, v = .slice a xs.length cap := by
  rcases h with ⟨rfl, rfl⟩ | ⟨b, off, sp, cap, rfl, _⟩
  · exact ⟨_, _, rfl⟩
  · exact ⟨_, _, rfl⟩

set_option maxRecDepth 100000 in
theorem IntsAt.open {H : Type} {enc : TypeId × Value → H} {W : World} {base : Nat} {v : Value} {d : DataW H} {ps : List MemPlace} (hval : Value.okWide Tryz.prog W .any base 27 v)
    (hd : DataW.Trod enc Tryz.prog W 0 (fun _ => true) true 27 v d ps) : ∃ xs, IntsAt W v xs := by
  obtain ⟨a0, len0, cap0, rfl⟩ := Go.WideShapes.okWide_slice Tryz.underlying27 hval
  obtain ⟨fuel, hf⟩ := hd
  rcases Go.ChangeShapes.open_ints Tryz.underlying27 Tryz.underlying3 (by kernel_rfl) hf with ⟨h1, _⟩ | ⟨a, len, cap, zs, h1, _, h2, h3, h4, _, h5, _⟩
  · simp [Value.cells] at h1
    obtain ⟨rfl, rfl, rfl⟩ := h1
    exact ⟨[], .nil⟩
  · simp [Value.cells] at h1
    obtain ⟨rfl, rfl, rfl⟩ := h1
    simp only [if_true] at h4
    have hl : (zs.take len0).length = len0 := by rw [List.length_take]; omega
    obtain ⟨b, off, sp⟩ := a
    refine ⟨zs.take len0, .inr ⟨b, off, sp, cap0, by rw [hl], by rw [hl]; exact h2, h3, fun hn => ?_⟩⟩
    have h0 : 0 < zs.length := by
      rcases Nat.eq_zero_or_pos zs.length with h | h
      · exact absurd (by rw [List.eq_nil_of_length_eq_zero h]; simp) hn
      · exact h
    have hc0 := h5 0 h0
    have hsp : sp = none := World.cell?_spot (a := (⟨b, off, sp⟩ : Addr).add 0) hc0
    subst hsp
    refine ⟨rfl, World.block_lt_of_cell? _ _ hc0, fun i x hx => ?_⟩
    rw [List.getElem?_take] at hx
    split at hx
    · have hi : i < zs.length := (List.getElem?_eq_some_iff.1 hx).1
      have := h5 i hi
      rw [show (⟨b, off + i, none⟩ : Addr) = (⟨b, off, none⟩ : Addr).add i by unfold Addr.add; by_cases h0 : i = 0 <;> simp [h0], this, List.getD, hx]
      rfl
    · cases hx

end Go.Proofs.YtbpcipobdokcfaaGreatDoor

/- PIECES OF MEMORY SIDE BY SIDE: each is kept by whatever leaves its blocks alone. Nothing of any one function. -/
namespace Go.Proofs.YtbpcipobdokcfaaGreatDoor
open Go.RowKit

/-- a piece: its blocks, and what is known of it -/
structure Pc where
  fp : Nat → Prop
  ok : World → Prop
  keep : ∀ {own : Nat → Prop} {W W' : World}, ok W → Turns own W W' → (∀ k, fp k → ¬ own k) → ok W'
  lt : ∀ {W : World} {k : Nat}, ok W → fp k → k < W.heap.size

/-- pieces that share no block -/
def Sep : List Pc → World → Prop
  | [], _ => True
  | p :: ps, w => p.ok w ∧ (∀ q ∈ ps, ∀ k, p.fp k → ¬ q.fp k) ∧ Sep ps w

section
variable {W W' : World}
theorem Sep.ok_of : ∀ {ps : List Pc}, Sep ps W → ∀ p ∈ ps, p.ok W
  | _ :: _, ⟨h, _, hs⟩, q, hq => (List.mem_cons.1 hq).elim (fun e => e ▸ h) (fun e => Sep.ok_of hs q e)
theorem Sep.keep {own : Nat → Prop} : ∀ {ps : List Pc}, Sep ps W → Turns own W W' → (∀ p ∈ ps, ∀ k, p.fp k → ¬ own k) → Sep ps W'
  | [], _, _, _ => trivial
  | p :: _, ⟨h, hd, hs⟩, ht, ho => ⟨p.keep h ht (ho p (List.mem_cons_self ..)), hd, Sep.keep hs ht (fun q hq => ho q (List.mem_cons_of_mem _ hq))⟩
theorem Sep.below {ps : List Pc} (h : Sep ps W) (hb : Below W.heap.size W W') : Sep ps W' := h.keep (own := fun _ => False) (Turns.of_below hb) (fun _ _ _ _ h => h)
theorem Sep.head {p : Pc} {ps : List Pc} (h : Sep (p :: ps) W) : p.ok W := h.1
theorem Sep.tail {p : Pc} {ps : List Pc} (h : Sep (p :: ps) W) : Sep ps W := h.2.2
theorem Sep.at' {ps : List Pc} (h : Sep ps W) (i : Nat) {p : Pc} (hi : ps[i]? = some p) : p.ok W := h.ok_of p (List.mem_of_getElem? hi)
theorem Sep.lt {ps : List Pc} (h : Sep ps W) {p : Pc} (hp : p ∈ ps) {k : Nat} (hk : p.fp k) : k < W.heap.size := p.lt (h.ok_of p hp) hk
/-- a new piece -/
theorem Sep.add {p : Pc} {ps : List Pc} (h : Sep ps W) (hb : Below W.heap.size W W') (hp : p.ok W') (hn : ∀ k, p.fp k → W.heap.size ≤ k) : Sep (p :: ps) W' :=
  ⟨hp, fun q hq k hk hqk => by have := hn k hk; have := h.lt hq hqk; omega, h.below hb⟩
/-- what is done to one piece -/
theorem Sep.upd {own : Nat → Prop} : ∀ {ps : List Pc} (i : Nat) {p p' : Pc}, Sep ps W → ps[i]? = some p → Turns own W W' → (∀ k, own k → k < W.heap.size → p.fp k) → p'.ok W' → (∀ k, p'.fp k → p.fp k ∨ W.heap.size ≤ k) → Sep (ps.set i p') W'
  | [], _, _, _, _, hi, _, _, _, _ => by simp at hi
  | q :: ps, 0, p, p', h, hi, ht, ho, hp, hn => by
    simp only [List.getElem?_cons_zero, Option.some.injEq] at hi
    subst hi
    have h' := h
    obtain ⟨h1, h2, h3⟩ := h
    refine ⟨hp, fun r hr k hk hrk => ?_, h3.keep ht (fun r hr k hk hok => ?_)⟩
    · rcases hn k hk with e | e
      · exact h2 r hr k e hrk
      · have := h3.lt hr hrk; omega
    · exact h2 r hr k (ho k hok (h3.lt hr hk)) hk
  | q :: ps, i + 1, p, p', h, hi, ht, ho, hp, hn => by
    rw [List.getElem?_cons_succ] at hi
    have h' := h
    obtain ⟨h1, h2, h3⟩ := h
    have hm := List.mem_of_getElem? hi
    have hq : q.ok W' := q.keep h1 ht (fun k hk hok => h2 p hm k hk (ho k hok (q.lt h1 hk)))
    refine ⟨hq, fun r hr k hk hrk => ?_, Sep.upd i h3 hi ht ho hp hn⟩
    rcases List.mem_or_eq_of_mem_set hr with e | e
    · exact h2 r e k hk hrk
    · subst e
      rcases hn k hrk with e | e
      · exact h2 p hm k hk e
      · have := q.lt h1 hk; omega
theorem Sep.perm {ps qs : List Pc} (hp : ps.Perm qs) : Sep ps W → Sep qs W := by
  induction hp with
  | nil => exact id
  | cons a hp ih => exact fun ⟨h1, h2, h3⟩ => ⟨h1, fun q hq => h2 q (hp.mem_iff.2 hq), ih h3⟩
  | swap a b l =>
    rintro ⟨h1, h2, h3, h4, h5⟩
    refine ⟨h3, fun q hq k hk hqk => ?_, h1, fun q hq => h2 q (List.mem_cons_of_mem _ hq), h5⟩
    rcases List.mem_cons.1 hq with e | e
    · subst e; exact h2 a (List.mem_cons_self ..) k hqk hk
    · exact h4 q e k hk hqk
  | trans _ _ i1 i2 => exact fun h => i2 (i1 h)
/-- a piece that is no longer looked at -/
theorem Sep.drop {ps : List Pc} (i : Nat) (h : Sep ps W) : Sep (ps.eraseIdx i) W := by
  induction ps generalizing i with
  | nil => exact trivial
  | cons p ps ih =>
    cases i with
    | zero => exact h.2.2
    | succ i => exact ⟨h.1, fun q hq => h.2.1 q (List.mem_of_mem_eraseIdx hq), ih i h.2.2⟩
/-- two pieces as one -/
theorem Sep.merge {p q r : Pc} {ps : List Pc} (h : Sep (p :: q :: ps) W) (hr : r.ok W) (hf : ∀ k, r.fp k → p.fp k ∨ q.fp k) : Sep (r :: ps) W :=
  ⟨hr, fun s hs k hk hsk => (hf k hk).elim (fun e => h.2.1 s (List.mem_cons_of_mem _ hs) k e hsk) (fun e => h.2.2.2.1 s hs k e hsk), h.2.2.2.2⟩
/-- what is known of one piece alone is told otherwise -/
theorem Sep.as : ∀ {ps : List Pc} (i : Nat) {p p' : Pc}, Sep ps W → ps[i]? = some p → (p.ok W → p'.ok W) → (∀ k, p'.fp k → p.fp k) → Sep (ps.set i p') W := by
  intro ps i p p' h hi h1 h2
  exact h.upd (own := fun _ => False) i hi (Turns.refl _ _) (fun _ h _ => h.elim) (h1 (h.at' i hi)) (fun k hk => .inl (h2 k hk))
/-- a stretch of pieces is kept alone -/
theorem Sep.apart {p q : Pc} {ps : List Pc} (h : Sep (p :: ps) W) (hq : q ∈ ps) {k : Nat} (hk : p.fp k) : ¬ q.fp k := h.2.1 q hq k hk
end

/- KINDS OF PIECES. -/
/-- all that lies below a mark: as it lay in an old world -/
def Pc.old (n : Nat) (W0 : World) : Pc where
  fp k := k < n
  ok W := n ≤ W.heap.size ∧ Below n W0 W
  keep := fun {_ _ _} h ht ho => ⟨Nat.le_trans h.1 ht.size, h.2.trans ⟨ht.os, ht.tape, ht.output, ht.size, fun k hk => ht.block k (Nat.lt_of_lt_of_le hk h.1) (ho k hk)⟩⟩
  lt := fun {_ _} h hk => Nat.lt_of_lt_of_le hk h.1
/-- a block known whole -/
def Pc.blk (g : Nat) (t : TypeId) (cs : Array Value) : Pc where
  fp k := k = g
  ok W := Blk W g t cs
  keep := fun {_ _ _} h ht ho => ht.blk h (ho g rfl)
  lt := fun {_ _} h hk => hk ▸ h.lt
/-- a row of one's own -/
def Pc.row (base : Nat) (e : TypeId) (s : Nat) (v : Value) (n : Nat) (xs : List Value) : Pc where
  fp k := v.ownBlock = some k
  ok W := W.ownsRow base e s v n xs
  keep := fun {_ _ _} h ht ho => ht.row h ho
  lt := fun {_ _} h hk => (h.lt _ hk).2
/-- a mark of a loop that has ended -/
def Pc.mark (D : Nat) : Pc where
  fp k := k = D
  ok W := W.heap[D]? = some (.deferred (some []))
  keep := fun {_ _ _} h ht ho => (ht.block D (Array.getElem?_eq_some_iff.1 h).1 (ho D rfl)).trans h
  lt := fun {_ _} h hk => hk ▸ (Array.getElem?_eq_some_iff.1 h).1
/-- any object -/
def Pc.obj (g : Nat) (o : Obj) : Pc where
  fp k := k = g
  ok W := W.heap[g]? = some o
  keep := fun {_ _ _} h ht ho => (ht.block g (Array.getElem?_eq_some_iff.1 h).1 (ho g rfl)).trans h
  lt := fun {_ _} h hk => hk ▸ (Array.getElem?_eq_some_iff.1 h).1
/-- rows within a row (m more slots than rows are told of): each once it is full, read alone -/
def Pc.rowsM (m base : Nat) (E e : TypeId) (v : Value) (vs : List Value) (xss : List (List Value)) : Pc where
  fp k := v.ownBlock = some k ∨ ∃ i x, i < xss.length ∧ vs[i]? = some x ∧ x.ownBlock = some k
  ok W := vs.length = xss.length + m ∧ W.ownsRow base E 1 v vs.length vs ∧ ∀ (i : Nat) (xs : List Value), xss[i]? = some xs → ∃ x, vs[i]? = some x ∧ W.ownsRow base e 1 x xs.length xs ∧ x.ownBlock ≠ some (v.ownBlock.getD W.heap.size)
  keep := fun {own W W'} ⟨h0, h1, h2⟩ ht ho => ⟨h0, ht.row h1 (fun k hk => ho k (.inl hk)), fun i xs hi => by
    obtain ⟨x, hx, hr, hn⟩ := h2 i xs hi
    refine ⟨x, hx, ht.row hr (fun k hk => ho k (.inr ⟨i, x, (List.getElem?_eq_some_iff.1 hi).1, hx, hk⟩)), ?_⟩
    cases hv : v.ownBlock with
    | some k => rw [hv] at hn; exact hn
    | none => intro e; have h8 := (hr.lt _ e).2; have h9 := ht.size; rw [Option.getD_none] at h8; omega⟩
  lt := fun {_ _} ⟨_, h1, h2⟩ hk => hk.elim (fun h => (h1.lt _ h).2) (fun ⟨i, x, hi, hx, h⟩ => by
    obtain ⟨x', hx', hr, _⟩ := h2 i _ (List.getElem?_eq_getElem hi)
    rw [hx] at hx'
    cases hx'
    exact (hr.lt _ h).2)
abbrev Pc.rows (base : Nat) (E e : TypeId) (v : Value) (vs : List Value) (xss : List (List Value)) : Pc := Pc.rowsM 0 base E e v vs xss

section
variable {W W' : World}
theorem Pc.old_start (W : World) : (Pc.old W.heap.size W).ok W := ⟨Nat.le_refl _, Below.refl _ _⟩
theorem Sep.start (W : World) : Sep [Pc.old W.heap.size W] W := ⟨Pc.old_start W, fun _ h => absurd h List.not_mem_nil, trivial⟩
theorem Sep.bel {n : Nat} {W0 : World} {ps : List Pc} (h : Sep ps W) (hi : Pc.old n W0 ∈ ps) : Below n W0 W := (h.ok_of _ hi).2
theorem Sep.blk {ps : List Pc} (h : Sep ps W) (i : Nat) {g : Nat} {t : TypeId} {cs : Array Value} (hi : ps[i]? = some (Pc.blk g t cs)) : Blk W g t cs := h.at' i hi
theorem Sep.row {ps : List Pc} (h : Sep ps W) (i : Nat) {base n s : Nat} {e : TypeId} {v : Value} {xs : List Value} (hi : ps[i]? = some (Pc.row base e s v n xs)) : W.ownsRow base e s v n xs := h.at' i hi
/-- a block that is laid -/
theorem Sep.alloc_blk {ps : List Pc} (h : Sep ps W) (t : TypeId) (cs : Array Value) : Sep (Pc.blk W.heap.size t cs :: ps) (W.alloc (.cells cs t)) :=
  h.add ((Below.refl _ _).alloc (Nat.le_refl _) _) (Blk.new W t cs) (fun k hk => by rw [show k = W.heap.size from hk]; exact Nat.le_refl _)
theorem Sep.alloc {ps : List Pc} (h : Sep ps W) (o : Obj) : Sep ps (W.alloc o) := h.below ((Below.refl _ _).alloc (Nat.le_refl _) o)
theorem Sep.drew {ps : List Pc} (h : Sep ps W) : Sep ps W.drew := h.keep (own := fun _ => False) (Turns.drew W) (fun _ _ _ _ h => h)
theorem turns_drewN (own : Nat → Prop) (W : World) (n : Nat) : Turns own W (W.drewN n) := ⟨rfl, rfl, rfl, Nat.le_refl _, fun _ _ _ => rfl⟩
theorem Sep.drewN {ps : List Pc} (h : Sep ps W) (n : Nat) : Sep ps (W.drewN n) := h.keep (own := fun _ => False) (turns_drewN _ W n) (fun _ _ _ _ h => h)
theorem Sep.nil_row {ps : List Pc} (h : Sep ps W) (base s : Nat) (e : TypeId) : Sep (Pc.row base e s (.slice none 0 0) 0 [] :: ps) W :=
  ⟨World.ownsRow_nil _ _ _ _, fun _ _ k hk => by simp [Pc.row, Value.ownBlock] at hk, h⟩
/-- a store in a block known whole -/
theorem Sep.set {ps : List Pc} (h : Sep ps W) (i : Nat) {g : Nat} {t : TypeId} {cs : Array Value} (hi : ps[i]? = some (Pc.blk g t cs)) (j : Nat) (u : Value) : Sep (ps.set i (Pc.blk g t (cs.setIfInBounds j u))) (W.setCell ⟨g, j, none⟩ u) :=
  h.upd (own := fun k => k = g) i hi (Turns.setCell (own := fun k => k = g) W (p := ⟨g, j, none⟩) rfl u) (fun _ hk _ => hk) ((h.blk i hi).set_ j u) (fun _ hk => .inl hk)
theorem own_base {w : World} {base base' : Nat} {e : TypeId} {s : Nat} {v : Value} {n : Nat} {xs : List Value} (h : w.ownsRow base e s v n xs) (hb : base' ≤ base) : w.ownsRow base' e s v n xs :=
  ⟨h.1, h.2.imp id (fun ⟨g, cap, cur, h1, h2, r⟩ => ⟨g, cap, cur, h1, Nat.le_trans hb h2, r⟩)⟩
theorem turns_grown' {own : Nat → Prop} {A B : World} {row : Option Nat} (h : A.grownBy B row) (hr : ∀ k, row = some k → own k) : Turns own A B :=
  ⟨h.os, h.tape, h.output, h.size, fun i hi ho => h.block i hi (fun e => ho (hr i e.symm))⟩
/-- a row that was grown by an append -/
theorem Sep.grow {ps : List Pc} (h : Sep ps W) (i : Nat) {base n n' s : Nat} {e : TypeId} {v v' : Value} {xs xs' : List Value} (hi : ps[i]? = some (Pc.row base e s v n xs)) (hg : W.grownBy W' v.ownBlock) (hr : W'.ownsRow base e s v' n' xs')
    (ho : v'.ownBlock = v.ownBlock ∨ ∀ k, v'.ownBlock = some k → W.heap.size ≤ k) : Sep (ps.set i (Pc.row base e s v' n' xs')) W' :=
  h.upd (own := fun k => v.ownBlock = some k) i hi (turns_grown' hg (fun _ h => h)) (fun _ hk _ => hk) hr (fun k hk => by
    rcases ho with e | e
    · exact .inl (show v.ownBlock = some k by rw [← e]; exact hk)
    · exact .inr (e k hk))
/-- a row that a call has made -/
theorem Sep.got {ps : List Pc} (h : Sep ps W) {base n s : Nat} {e : TypeId} {v : Value} {xs : List Value} (hb : Below W.heap.size W W') (hr : W'.ownsRow W.heap.size e s v n xs) (hB : base ≤ W.heap.size) : Sep (Pc.row base e s v n xs :: ps) W' :=
  h.add hb (own_base hr hB) (fun k hk => (hr.lt k hk).1)
end

/-- a piece at the head goes into another one -/
theorem Sep.join : ∀ {ps : List Pc} (i : Nat) {p q r : Pc} {W : World}, Sep (p :: ps) W → ps[i]? = some q → r.ok W → (∀ k, r.fp k → p.fp k ∨ q.fp k) → Sep (ps.set i r) W
  | [], _, _, _, _, _, _, hi, _, _ => by simp at hi
  | s :: ps, 0, p, q, r, W, h, hi, hr, hf => by
    simp only [List.getElem?_cons_zero, Option.some.injEq] at hi
    subst hi
    exact Sep.merge (ps := ps) h hr hf
  | s :: ps, i + 1, p, q, r, W, h, hi, hr, hf => by
    rw [List.getElem?_cons_succ] at hi
    obtain ⟨h1, h2, h3, h4, h5⟩ := h
    have hm := List.mem_of_getElem? hi
    refine ⟨h3, fun t ht k hk htk => ?_, Sep.join i (p := p) ⟨h1, fun t ht => h2 t (List.mem_cons_of_mem _ ht), h5⟩ hi hr hf⟩
    rcases List.mem_or_eq_of_mem_set ht with e | e
    · exact h4 t e k hk htk
    · subst e
      rcases hf k htk with e | e
      · exact h2 s (List.mem_cons_self ..) k e hk
      · exact h4 q hm k hk e
theorem Sep.nil_rows {ps : List Pc} {W : World} (h : Sep ps W) (base : Nat) (E e : TypeId) : Sep (Pc.rows base E e (.slice none 0 0) [] [] :: ps) W := by
  refine ⟨⟨rfl, World.ownsRow_nil _ _ _ _, fun i xs hi => by simp at hi⟩, fun _ _ k hk => ?_, h⟩
  rcases hk with hk | ⟨i, x, hi, _⟩
  · simp [Value.ownBlock] at hk
  · simp at hi
/-- a row of one row -/
theorem Sep.rows_one {ps : List Pc} {W : World} {base : Nat} {E e : TypeId} {x : Value} {xs : List Value} (h : Sep (Pc.row base e 1 x xs.length xs :: ps) W) (hb : base ≤ W.heap.size) :
    Sep (Pc.rows base E e (.slice (some ⟨W.heap.size, 0, none⟩) 1 1) [x] [xs] :: ps) (W.alloc (.cells #[x] E)) := by
  have h1 := h.row 0 rfl
  have h2 := h.alloc (.cells #[x] E)
  have hlt := h1.lt
  have hnew : (W.alloc (.cells #[x] E)).ownsRow base E 1 (.slice (some ⟨W.heap.size, 0, none⟩) 1 1) 1 [x] :=
    ⟨rfl, .inr ⟨W.heap.size, 1, #[x], rfl, hb, heap_alloc_new _ _, Nat.le_refl _, by unfold maxLen; omega, rfl, rfl⟩⟩
  have h3 : Sep (Pc.row base E 1 (.slice (some ⟨W.heap.size, 0, none⟩) 1 1) 1 [x] :: Pc.row base e 1 x xs.length xs :: ps) (W.alloc (.cells #[x] E)) :=
    h.add ((Below.refl _ _).alloc (Nat.le_refl _) _) hnew (fun k hk => by simp [Pc.row, Value.ownBlock] at hk; omega)
  refine h3.merge ⟨rfl, hnew, fun i ys hi => ?_⟩ (fun k hk => ?_)
  · match i, hi with
    | 0, hi =>
      simp only [List.getElem?_cons_zero, Option.some.injEq] at hi
      subst hi
      exact ⟨x, rfl, h1.alloc _, fun e => by have := (hlt _ e).2; simp [Value.ownBlock] at this⟩
    | i + 1, hi => simp at hi
  · rcases hk with hk | ⟨i, y, hi, hy, hk⟩
    · exact .inl hk
    · simp only [List.length_cons, List.length_nil] at hi
      obtain rfl : i = 0 := by omega
      simp only [List.getElem?_cons_zero, Option.some.injEq] at hy
      subst hy
      exact .inr hk
/-- a row more within a row of rows -/
theorem Sep.push_rows {ps : List Pc} {W W' : World} {base n : Nat} {E e : TypeId} {x v v' : Value} {xs : List Value} {vs : List Value} {xss : List (List Value)} (h : Sep (Pc.row base e 1 x n xs :: ps) W) (i : Nat) (hi : ps[i]? = some (Pc.rows base E e v vs xss)) (hn : n = xs.length)
    (hg : W.grownBy W' v.ownBlock) (hr : W'.ownsRow base E 1 v' (vs.length + 1) (vs ++ [x])) (ho : v'.ownBlock = v.ownBlock ∨ ∀ k, v'.ownBlock = some k → W.heap.size ≤ k) : Sep (ps.set i (Pc.rows base E e v' (vs ++ [x]) (xss ++ [xs]))) W' := by
  subst hn
  obtain ⟨h0, h1, h2⟩ := h.at' (i + 1) (p := Pc.rows base E e v vs xss) (by simpa using hi)
  have hT : Turns (fun k => v.ownBlock = some k) W W' := turns_grown' hg (fun _ h => h)
  have hblk : ∀ k, v'.ownBlock = some k → v.ownBlock = some k ∨ W.heap.size ≤ k := fun k hk => by
    rcases ho with e | e
    · exact .inl (e ▸ hk)
    · exact .inr (e k hk)
  have hin : ∀ (j : Nat) (ys : List Value), xss[j]? = some ys → ∃ y, vs[j]? = some y ∧ W'.ownsRow base e 1 y ys.length ys ∧ y.ownBlock ≠ some (v'.ownBlock.getD W'.heap.size) := by
    intro j ys hj
    obtain ⟨y, hy, hyr, hyn⟩ := h2 j ys hj
    have hne : ∀ k, y.ownBlock = some k → ¬ v.ownBlock = some k := fun k hk hv => by rw [hv] at hyn; exact hyn hk
    have hyr' := hT.row hyr hne
    refine ⟨y, hy, hyr', ?_⟩
    cases hv : v'.ownBlock with
    | none => intro e; have := (hyr'.lt _ e).2; simp at this
    | some k =>
      intro e
      rcases hblk k hv with h | h
      · exact hne k e h
      · have := (hyr.lt k e).2; omega
  have htmp : (Pc.rowsM 1 base E e v' (vs ++ [x]) xss).ok W' := ⟨by rw [List.length_append]; simp at h0 ⊢; omega, by rw [List.length_append]; exact hr, fun j ys hj => by
    obtain ⟨y, hy, h3⟩ := hin j ys hj
    exact ⟨y, by rw [List.getElem?_append_left (List.getElem?_eq_some_iff.1 hy).1]; exact hy, h3⟩⟩
  have hlv : vs.length = xss.length := by simpa using h0
  have hS := h.upd (own := fun k => v.ownBlock = some k) (i + 1) (p' := Pc.rowsM 1 base E e v' (vs ++ [x]) xss) (by simpa using hi) hT (fun k hk _ => Or.inl hk) htmp (fun k hk => by
    rcases hk with hk | ⟨j, y, hj, hy, hk⟩
    · rcases hblk k hk with e | e
      · exact .inl (.inl e)
      · exact .inr e
    · rw [List.getElem?_append_left (by omega)] at hy
      exact .inl (.inr ⟨j, y, hj, hy, hk⟩))
  rw [List.set_cons_succ] at hS
  have hx := hS.row 0 rfl
  have hget : (ps.set i (Pc.rowsM 1 base E e v' (vs ++ [x]) xss))[i]? = some (Pc.rowsM 1 base E e v' (vs ++ [x]) xss) := by
    rw [List.getElem?_set_self (List.getElem?_eq_some_iff.1 hi).1]
  have hxv : ∀ k, x.ownBlock = some k → ¬ v'.ownBlock = some k := fun k hk hv => hS.apart (List.mem_of_getElem? hget) (k := k) hk (.inl hv)
  have := hS.join i (r := Pc.rows base E e v' (vs ++ [x]) (xss ++ [xs])) hget ⟨by simp [hlv], by rw [List.length_append]; exact hr, fun j ys hj => by
      rcases Nat.lt_or_ge j xss.length with hl | hl
      · rw [List.getElem?_append_left hl] at hj
        obtain ⟨y, hy, h3⟩ := hin j ys hj
        exact ⟨y, by rw [List.getElem?_append_left (List.getElem?_eq_some_iff.1 hy).1]; exact hy, h3⟩
      · rw [List.getElem?_append_right hl] at hj
        have hj0 : j - xss.length = 0 := by have := (List.getElem?_eq_some_iff.1 hj).1; simp at this; omega
        rw [hj0] at hj
        simp only [List.getElem?_cons_zero, Option.some.injEq] at hj
        subst hj
        refine ⟨x, by rw [List.getElem?_append_right (by omega), show j - vs.length = 0 by omega]; rfl, hx, ?_⟩
        cases hv : v'.ownBlock with
        | none => intro e; have := (hx.lt _ e).2; simp at this
        | some k => intro e; exact hxv k e hv⟩ (fun k hk => by
      rcases hk with hk | ⟨j, y, hj, hy, hk⟩
      · exact .inr (.inl hk)
      · rcases Nat.lt_or_ge j vs.length with hl | hl
        · exact .inr (.inr ⟨j, y, by omega, hy, hk⟩)
        · rw [List.getElem?_append_right hl] at hy
          have hj0 : j - vs.length = 0 := by have := (List.getElem?_eq_some_iff.1 hy).1; simp at this; omega
          rw [hj0] at hy
          simp only [List.getElem?_cons_zero, Option.some.injEq] at hy
          subst hy
          exact .inl hk)
  rwa [List.set_set] at this

theorem front_perm : ∀ {ps : List Pc} (i : Nat) {p : Pc}, ps[i]? = some p → (ps.Perm (p :: ps.eraseIdx i))
  | [], _, _, h => by simp at h
  | q :: ps, 0, p, h => by
    simp only [List.getElem?_cons_zero, Option.some.injEq] at h
    subst h
    exact List.Perm.refl _
  | q :: ps, i + 1, p, h => by
    rw [List.getElem?_cons_succ] at h
    exact ((front_perm i h).cons q).trans (List.Perm.swap p q _)
/-- a piece is taken to the head -/
theorem Sep.front {ps : List Pc} {W : World} (h : Sep ps W) (i : Nat) {p : Pc} (hi : ps[i]? = some p) : Sep (p :: ps.eraseIdx i) W := h.perm (front_perm i hi)

/-- what an append needs to know of a row's type -/
structure Pushes (P : Program) (t e : TypeId) (bytes : Nat) : Prop where
  out : ∃ (i : TypeInfo) (z : Value), P.underlying t = some (.slice e) ∧ P.info? e = some i ∧ i.zero = some z ∧ i.size = 1 ∧ i.bytes = bytes ∧ z.cells.size = 1
theorem Pushes.mk' {P : Program} {t e : TypeId} {bytes : Nat} {z : Value} (ht : P.underlying t = some (.slice e)) (h : (P.info? e).map (fun i => (i.zero, i.size, i.bytes)) = some (some z, 1, bytes)) (hz : z.cells.size = 1) : Pushes P t e bytes := by
  cases hi : P.info? e with
  | none => rw [hi] at h; cases h
  | some i =>
    rw [hi] at h
    simp only [Option.map_some, Option.some.injEq, Prod.mk.injEq] at h
    exact ⟨i, z, ht, hi, h.1, h.2.1, h.2.2, hz⟩
/-- APPEND OF ONE TO A ROW OF ONE'S OWN, among other pieces -/
theorem wpList_push {P : Program} {w0 : World} {ops : Array Oper} {rest : List Oper} {o : Oper} {a : Act} {Q : Exit → Act → World → Prop} (hgd : o.guard = none) (s x : Operand) (t : TypeId)
    (ho : o.op = .call { callee := .builtin .append, args := #[s, x], argTypes := #[t, t] }) {base : Nat} {e te : TypeId} {bytes : Nat} (hP : Pushes P t e bytes) {ps : List Pc} (hS : Sep ps w0) (k : Nat) {v u : Value} {n : Nat} {xs : List Value}
    (hk : ps[k]? = some (Pc.row base e 1 v n xs)) (hs : a.eval s = v) (hx : a.eval x = .slice (some ⟨w0.heap.size, 0, none⟩) 1 1) (h1 : u.oneCell' = true) (hn : n ≤ 1000000000) (hby : bytes ≤ 1000) (hbase : base ≤ w0.heap.size)
    (h : ∀ v' w', Sep (ps.set k (Pc.row base e 1 v' (n + 1) (xs ++ [u]))) w' → (∃ g c, v' = .slice (some ⟨g, 0, none⟩) (n + 1) c ∧ n + 1 ≤ c ∧ c ≤ 9223372036854775807) → wpList P ops Q rest (a.put o.dst v') w') : wpList P ops Q (o :: rest) a (w0.alloc (.cells #[u] te)) := by
  obtain ⟨i, z, ht, hi, hz0, hz1, hz2, hz3⟩ := hP.out
  have hb : (n + 1) * bytes ≤ 1000000001 * 1000 := Nat.mul_le_mul (by omega) hby
  refine wpList_append_own_at _ hgd s x t ho base e i z 1 bytes ht hi hz0 hz1 hz2 hz3 (by decide) v n xs hs ((hS.row k hk).alloc _) ⟨w0.heap.size, 0, none⟩ 1 1 [u] hx rfl (cell_one_new _ _ _) (by simpa using h1) (by unfold maxLen; omega) (by omega) (by simp; omega) ?_
  intro v' w' hown hgrow _ hat
  have hS' := (hS.alloc (.cells #[u] te)).grow k hk hgrow hown (by
    rcases hat with e1 | e1
    · exact .inl e1
    · exact .inr (fun q hq => by rw [e1] at hq; simp only [Option.some.injEq] at hq; omega))
  refine h v' w' hS' ?_
  rcases hown.2 with ⟨_, h2⟩ | ⟨g, cap, cur, h2, _, _, h3, h4, _⟩
  · omega
  · exact ⟨g, cap, h2, h3, by unfold maxLen at h4; omega⟩

/-- APPEND OF ONE ROW TO A ROW OF ROWS: what is told of the row goes into the other piece -/
theorem wpList_push_rows {P : Program} {w0 : World} {ops : Array Oper} {rest : List Oper} {o : Oper} {a : Act} {Q : Exit → Act → World → Prop} (hgd : o.guard = none) (s x : Operand) (t : TypeId)
    (ho : o.op = .call { callee := .builtin .append, args := #[s, x], argTypes := #[t, t] }) {base : Nat} {E e te : TypeId} {bytes : Nat} (hP : Pushes P t E bytes) {ps : List Pc} {u : Value} {n : Nat} {xs : List Value} (hS : Sep (Pc.row base e 1 u n xs :: ps) w0) (k : Nat) {v : Value} {vs : List Value} {xss : List (List Value)}
    (hk : ps[k]? = some (Pc.rows base E e v vs xss)) (hs : a.eval s = v) (hx : a.eval x = .slice (some ⟨w0.heap.size, 0, none⟩) 1 1) (h1 : u.oneCell' = true) (hlen : n = xs.length) (hn : vs.length ≤ 1000000000) (hby : bytes ≤ 1000) (hbase : base ≤ w0.heap.size)
    (h : ∀ v' w', Sep (ps.set k (Pc.rows base E e v' (vs ++ [u]) (xss ++ [xs]))) w' → (∃ g c, v' = .slice (some ⟨g, 0, none⟩) (vs.length + 1) c ∧ vs.length + 1 ≤ c ∧ c ≤ 9223372036854775807) → wpList P ops Q rest (a.put o.dst v') w') : wpList P ops Q (o :: rest) a (w0.alloc (.cells #[u] te)) := by
  obtain ⟨i, z, ht, hi, hz0, hz1, hz2, hz3⟩ := hP.out
  have hb : (vs.length + 1) * bytes ≤ 1000000001 * 1000 := Nat.mul_le_mul (by omega) hby
  have hrow := (hS.at' (k + 1) (p := Pc.rows base E e v vs xss) (by simpa using hk)).2.1
  refine wpList_append_own_at _ hgd s x t ho base E i z 1 bytes ht hi hz0 hz1 hz2 hz3 (by decide) v vs.length vs hs (hrow.alloc _) ⟨w0.heap.size, 0, none⟩ 1 1 [u] hx rfl (cell_one_new _ _ _) (by simpa using h1) (by unfold maxLen; omega) (by omega) (by simp; omega) ?_
  intro v' w' hown hgrow _ hat
  have hS' := (hS.alloc (.cells #[u] te)).push_rows k hk hlen hgrow hown (by
    rcases hat with e1 | e1
    · exact .inl e1
    · exact .inr (fun q hq => by rw [e1] at hq; simp only [Option.some.injEq] at hq; omega))
  refine h v' w' hS' ?_
  rcases hown.2 with ⟨_, h2⟩ | ⟨g, cap, cur, h2, _, _, h3, h4, _⟩
  · omega
  · exact ⟨g, cap, h2, h3, by unfold maxLen at h4; omega⟩
/-- what a row's shape is -/
theorem own_shape {w : World} {base s n : Nat} {e : TypeId} {v : Value} {xs : List Value} (h : w.ownsRow base e s v n xs) : ∃ a c, v = .slice a n c ∧ n ≤ c ∧ c ≤ 9223372036854775807 := by
  rcases h.2 with ⟨rfl, rfl⟩ | ⟨g, cap, cur, rfl, _, _, h3, h4, _⟩
  · exact ⟨_, _, rfl, Nat.le_refl _, by omega⟩
  · exact ⟨_, _, rfl, h3, by unfold maxLen at h4; omega⟩
end Go.Proofs.YtbpcipobdokcfaaGreatDoor

/- SETS OF CLASSES AND OF STATES, BIT BY BIT: the leaves that layers 8 and 10, and the document's, reckon with. -/
namespace Go.Proofs.YtbpcipobdokcfaaGreatDoor
open Go.RowKit

def setB (set : Int) : Bool := decide (0 ≤ set) && decide (set < 4294967296)

theorem pow_le (k : Nat) (h : k ≤ 40) : (2 : Int) ^ k ≤ 1099511627776 := by
  have h2 : 2 ^ k ≤ 2 ^ 40 := Nat.pow_le_pow_right (by omega) h
  rw [show (2 : Int) ^ k = ((2 ^ k : Nat) : Int) by simp]
  omega
theorem bit_any (n : Nat) (w : World) (hn : n ≤ 40) :
    Calls Tryz.prog 104 #[.int .i64 n] w fun e w' => e = .returned (.int .i64 ((2 ^ n : Nat) : Int)) ∧ w = w' := by
  go_enter Tryz.func104, Tryz.ntmps104
  go_wp2
  go_loop [4, 3] (fun i o => ∃ (k : Nat) (x : Int), k ≤ n ∧ i = .int .i64 k ∧ o = .int .i64 x ∧ 0 ≤ x ∧ x ≤ 1099511627776 ∧ Box (x = 2 ^ k)) (fun i _ => n - (intOf i).toNat)
  case atStart => exact ⟨0, 1, by omega, rfl, rfl, by omega, by omega, ⟨rfl⟩⟩
  case round =>
    obtain ⟨k, x, hk, rfl, rfl, hx0, hx1, hx⟩ := hrel
    by_cases hlt : k < n
    · have h2 := pow_le (k + 1) (by omega)
      have HX := Box.mk (show 2 * x = 2 ^ (k + 1) by rw [hx.out, Int.pow_succ]; omega)
      have HY := Box.mk (show 2 * x ≤ 1099511627776 by rw [HX.out]; exact h2)
      clear h2
      go_wp2
      go_round
      case rel => exact ⟨k + 1, 2 * x, hlt, by go_num, rfl, by omega, HY.out, HX⟩
      case measure => simp [intOf]; omega
    · obtain rfl : k = n := by omega
      go_wp2
      go_ret
      exact ⟨by rw [hx.out]; simp, rfl⟩
theorem worth_any (n : Nat) (w : World) (hn : n ≤ 40) :
    Calls Tryz.prog 115 #[.int .i64 n] w fun e w' => e = .returned (.int .i64 ((2 ^ n : Nat) : Int)) ∧ w = w' := by
  go_enter Tryz.func115, Tryz.ntmps115
  go_wp2
  go_loop [4, 3] (fun i o => ∃ (k : Nat) (x : Int), k ≤ n ∧ i = .int .i64 k ∧ o = .int .i64 x ∧ 0 ≤ x ∧ x ≤ 1099511627776 ∧ Box (x = 2 ^ k)) (fun i _ => n - (intOf i).toNat)
  case atStart => exact ⟨0, 1, by omega, rfl, rfl, by omega, by omega, ⟨rfl⟩⟩
  case round =>
    obtain ⟨k, x, hk, rfl, rfl, hx0, hx1, hx⟩ := hrel
    by_cases hlt : k < n
    · have h2 := pow_le (k + 1) (by omega)
      have HX := Box.mk (show 2 * x = 2 ^ (k + 1) by rw [hx.out, Int.pow_succ]; omega)
      have HY := Box.mk (show 2 * x ≤ 1099511627776 by rw [HX.out]; exact h2)
      clear h2
      go_wp2
      go_round
      case rel => exact ⟨k + 1, 2 * x, hlt, by go_num, rfl, by omega, HY.out, HX⟩
      case measure => simp [intOf]; omega
    · obtain rfl : k = n := by omega
      go_wp2
      go_ret
      exact ⟨by rw [hx.out]; simp, rfl⟩

theorem cright_any (set : Int) (w : World) :
    Calls Tryz.prog 108 #[.int .i64 set, .int .i64 32] w fun e w' => e = .returned (.bool (setB set)) ∧ w = w' := by
  unfold setB
  by_cases h0 : 0 ≤ set
  · go_enter Tryz.func108, Tryz.ntmps108
    go_wp2
    all_goals go_ret
    all_goals refine ⟨ret_bool ?_, rfl⟩
    all_goals (rw [Bool.eq_iff_iff]; simp; omega)
  · go_enter Tryz.func108, Tryz.ntmps108
    go_wp2
    go_ret
    exact ⟨ret_bool (by simp; omega), rfl⟩
theorem and_1 (x : Int) (h0 : 0 ≤ x) (h1 : x < 9223372036854775808) : bits .and .i64 x 1 = x % 2 := by
  obtain ⟨k, rfl⟩ := Int.eq_ofNat_of_zero_le h0
  have := i64_and_nat k 1 (by omega) (by omega)
  rw [show ((1 : Nat) : Int) = 1 from rfl] at this
  rw [this, Nat.and_one_is_mod]
  omega
theorem test_bit (S n : Nat) (h : S < 9223372036854775808) : (bits .and .i64 ((S : Int) / 2 ^ n) 1 == 1) = S.testBit n := by
  have hd : (S : Int) / 2 ^ n = ((S / 2 ^ n : Nat) : Int) := by simp
  have hle : S / 2 ^ n ≤ S := Nat.div_le_self _ _
  rw [hd, Nat.testBit_eq_decide_div_mod_eq]
  generalize S / 2 ^ n = z at hle
  rw [and_1 _ (by omega) (by omega), Bool.eq_iff_iff]
  simp only [beq_iff_eq, decide_eq_true_eq]
  omega
theorem chas_any (set n : Int) (w : World) : Calls Tryz.prog 87 #[.int .i64 set, .int .i64 n] w fun e w' => e = .returned (.bool (N.hasC set n)) ∧ w = w' := by
  unfold N.hasC
  by_cases hs : setB set = true
  · have HS := Box.mk hs
    unfold setB at hs
    simp only [Bool.and_eq_true, decide_eq_true_eq] at hs
    obtain ⟨h0, h1⟩ := hs
    by_cases hn : 0 ≤ n ∧ n < 32
    · obtain ⟨h2, h3⟩ := hn
      go_enter Tryz.func87, Tryz.ntmps87
      go_wp2_with fail
      refine (cright_any set _).mono ?_; rintro e w1 ⟨rfl, rfl⟩; rw [HS.out]
      go_wp2_with fail
      go_ret
      refine ⟨ret_bool ?_, rfl⟩
      obtain ⟨S, rfl⟩ := Int.eq_ofNat_of_zero_le h0
      rw [test_bit S _ (by omega)]
      simp [h1, h2, h3]
    · have hn' : n < 0 ∨ (0 ≤ n ∧ 32 ≤ n) := by omega
      rcases hn' with h | ⟨h, h'⟩
      all_goals
        go_enter Tryz.func87, Tryz.ntmps87
        go_wp2_with fail
        refine (cright_any set _).mono ?_; rintro e w1 ⟨rfl, rfl⟩; rw [HS.out]
        go_wp2_with fail
        go_ret
        refine ⟨ret_bool ?_, rfl⟩
        simp
        omega
  · have HS := Box.mk (show setB set = false by simpa using hs)
    go_enter Tryz.func87, Tryz.ntmps87
    go_wp2_with fail
    refine (cright_any set _).mono ?_; rintro e w1 ⟨rfl, rfl⟩; rw [HS.out]
    go_wp2_with fail
    go_ret
    refine ⟨ret_bool ?_, rfl⟩
    have := HS.out
    unfold setB at this
    rw [this]; rfl

theorem rcright_any (set : Int) (w : World) :
    Calls Tryz.prog 91 #[.int .i64 set, .int .i64 32] w fun e w' => e = .returned (.bool (setB set)) ∧ w = w' := by
  unfold setB
  by_cases h0 : 0 ≤ set
  · go_enter Tryz.func91, Tryz.ntmps91
    go_wp2_with fail
    refine (worth_any 32 _ (by omega)).mono ?_; rintro e w1 ⟨rfl, rfl⟩
    go_wp2_with fail
    go_ret
    refine ⟨ret_bool ?_, rfl⟩
    rw [Bool.eq_iff_iff]; simp; omega
  · go_enter Tryz.func91, Tryz.ntmps91
    go_wp2_with fail
    go_ret
    exact ⟨ret_bool (by simp; omega), rfl⟩
theorem div_bit (S n : Nat) : ((S : Int) / ((2 ^ n : Nat) : Int) % 2 == 1) = S.testBit n := by
  have hd : (S : Int) / ((2 ^ n : Nat) : Int) = ((S / 2 ^ n : Nat) : Int) := by simp
  rw [hd, Nat.testBit_eq_decide_div_mod_eq, Bool.eq_iff_iff]
  generalize S / 2 ^ n = z
  simp only [beq_iff_eq, decide_eq_true_eq]
  omega
theorem div_le (S q : Nat) : 0 ≤ (S : Int) / (q : Int) ∧ (S : Int) / (q : Int) ≤ S := by
  have h := Nat.div_le_self S q
  rw [show (S : Int) / (q : Int) = ((S / q : Nat) : Int) by simp]
  exact ⟨Int.natCast_nonneg _, by exact_mod_cast h⟩
theorem rchas_any (set n : Int) (w : World) : Calls Tryz.prog 116 #[.int .i64 set, .int .i64 n] w fun e w' => e = .returned (.bool (N.hasC set n)) ∧ w = w' := by
  unfold N.hasC
  by_cases hs : setB set = true
  · have HS := Box.mk hs
    unfold setB at hs
    simp only [Bool.and_eq_true, decide_eq_true_eq] at hs
    obtain ⟨h0, h1⟩ := hs
    by_cases hn : 0 ≤ n ∧ n < 32
    · obtain ⟨h2, h3⟩ := hn
      obtain ⟨m, rfl⟩ := Int.eq_ofNat_of_zero_le h2
      have hp : 0 < 2 ^ m := Nat.two_pow_pos m
      obtain ⟨q, hq⟩ : ∃ q, 2 ^ m = q := ⟨_, rfl⟩
      have hq0 : 0 < q := by rw [← hq]; exact hp
      have HQ := Box.mk hq
      obtain ⟨S, rfl⟩ := Int.eq_ofNat_of_zero_le h0
      obtain ⟨d0, d1⟩ := div_le S q
      have d2 : (S : Int) / (q : Int) < 4294967296 := by omega
      clear hq hp
      go_enter Tryz.func116, Tryz.ntmps116
      go_wp2_with fail
      refine (rcright_any S _).mono ?_; rintro e w1 ⟨rfl, rfl⟩; rw [HS.out]
      go_wp2_with fail
      refine (worth_any m _ (by omega)).mono ?_; rintro e w1 ⟨rfl, rfl⟩; rw [HQ.out]
      go_wp2_with fail
      go_ret
      refine ⟨ret_bool ?_, rfl⟩
      rw [← HQ.out, div_bit]
      simp [h1, h3]
    · have hn' : n < 0 ∨ (0 ≤ n ∧ 32 ≤ n) := by omega
      rcases hn' with h | ⟨h, h'⟩
      all_goals
        go_enter Tryz.func116, Tryz.ntmps116
        go_wp2_with fail
        refine (rcright_any set _).mono ?_; rintro e w1 ⟨rfl, rfl⟩; rw [HS.out]
        go_wp2_with fail
        go_ret
        refine ⟨ret_bool ?_, rfl⟩
        simp
        omega
  · have HS := Box.mk (show setB set = false by simpa using hs)
    go_enter Tryz.func116, Tryz.ntmps116
    go_wp2_with fail
    refine (rcright_any set _).mono ?_; rintro e w1 ⟨rfl, rfl⟩; rw [HS.out]
    go_wp2_with fail
    go_ret
    refine ⟨ret_bool ?_, rfl⟩
    have := HS.out
    unfold setB at this
    rw [this]; rfl
theorem has_any (S n : Nat) (w : World) (hn : n ≤ 40) (hS : S < 4611686018427387904) : Calls Tryz.prog 103 #[.int .i64 S, .int .i64 n] w fun e w' => e = .returned (.bool (S.testBit n)) ∧ w = w' := by
  have hp : 0 < 2 ^ n := Nat.two_pow_pos n
  obtain ⟨q, hq⟩ : ∃ q, 2 ^ n = q := ⟨_, rfl⟩
  have hq0 : 0 < q := by rw [← hq]; exact hp
  have HQ := Box.mk hq
  obtain ⟨d0, d1⟩ := div_le S q
  have d2 : (S : Int) / (q : Int) < 4611686018427387904 := by omega
  clear hq hp
  go_enter Tryz.func103, Tryz.ntmps103
  go_wp2_with fail
  refine (bit_any n _ hn).mono ?_; rintro e w1 ⟨rfl, rfl⟩; rw [HQ.out]
  go_wp2_with fail
  go_ret
  refine ⟨ret_bool ?_, rfl⟩
  rw [← HQ.out, div_bit]
end Go.Proofs.YtbpcipobdokcfaaGreatDoor

/- PATTERNS AS VALUES; which are right: the program's answer and the document's. -/
namespace Go.Proofs.YtbpcipobdokcfaaGreatDoor
open Go.RowKit

/-- a value that reads as these items -/
def ItemsAt (w : World) (v : Value) (l : List N.Item) : Prop :=
  (v = .slice none 0 0 ∧ l = []) ∨ ∃ b off sp cap, v = .slice (some ⟨b, off, sp⟩) l.length cap ∧ l.length ≤ cap ∧ cap ≤ maxLen ∧
    (l ≠ [] → sp = none ∧ b < w.heap.size ∧ ∀ i x, l[i]? = some x → w.cell? ⟨b, off + i * 2, none⟩ = some (.int .i64 x.1) ∧ w.cell? ⟨b, off + i * 2 + 1, none⟩ = some (.int .i64 x.2))
theorem ItemsAt.below {w w' : World} {v : Value} {l : List N.Item} (h : ItemsAt w v l) (hb : Below w.heap.size w w') : ItemsAt w' v l := by
  rcases h with h | ⟨b, off, sp, cap, h1, h2, h3, h4⟩
  · exact .inl h
  · exact .inr ⟨b, off, sp, cap, h1, h2, h3, fun hn => ⟨(h4 hn).1, Nat.lt_of_lt_of_le (h4 hn).2.1 hb.size, fun i x hx =>
      ⟨(hb.cell (p := ⟨b, off + i * 2, none⟩) (h4 hn).2.1).trans ((h4 hn).2.2 i x hx).1, (hb.cell (p := ⟨b, off + i * 2 + 1, none⟩) (h4 hn).2.1).trans ((h4 hn).2.2 i x hx).2⟩⟩⟩
theorem ItemsAt.get {w : World} {v : Value} {l : List N.Item} (h : ItemsAt w v l) (hn : l ≠ []) :
    ∃ b off cap, v = .slice (some ⟨b, off, none⟩) l.length cap ∧ l.length ≤ cap ∧ cap ≤ maxLen ∧ b < w.heap.size ∧
      ∀ i x, l[i]? = some x → w.cell? ⟨b, off + i * 2, none⟩ = some (.int .i64 x.1) ∧ w.cell? ⟨b, off + i * 2 + 1, none⟩ = some (.int .i64 x.2) := by
  rcases h with ⟨_, h⟩ | ⟨b, off, sp, cap, h1, h2, h3, h4⟩
  · exact absurd h hn
  · obtain ⟨rfl, h5, h6⟩ := h4 hn
    exact ⟨b, off, cap, h1, h2, h3, h5, h6⟩
theorem ItemsAt.slice {w : World} {v : Value} {l : List N.Item} (h : ItemsAt w v l) : ∃ a cap, v = .slice a l.length cap := by
  rcases h with ⟨rfl, rfl⟩ | ⟨b, off, sp, cap, rfl, _⟩
  · exact ⟨_, _, rfl⟩
  · exact ⟨_, _, rfl⟩

def itemB (x : N.Item) : Bool := setB x.1 && decide (0 ≤ x.2) && decide (x.2 ≤ 2)
def rightB (l : List N.Item) : Bool := decide (l.length ≤ 10) && l.all itemB

set_option maxHeartbeats 1000000 in
theorem other_any (x : N.Item) (bn : Nat) (w : World) (hn : w.cell? ⟨bn, 0, none⟩ = some (.int .i64 32)) (hlt : bn < w.heap.size) :
    Calls Tryz.prog 107 #[.agg #[.int .i64 x.1, .int .i64 x.2], .pointer (some ⟨bn, 0, none⟩)] w fun e w' => e = .returned (.bool (!itemB x)) ∧ Below w.heap.size w w' := by
  obtain ⟨set, how⟩ := x
  unfold itemB
  have hb : ∀ o1 o2, Below w.heap.size w ((w.alloc o1).alloc o2) := fun o1 o2 => ((Below.refl _ _).alloc (Nat.le_refl _) _).alloc (by simp) _
  go_enter Tryz.func107, Tryz.ntmps107
  rcases Int.lt_or_le how 0 with h | h
  · go_wp2_with fail
    go_ret
    exact ⟨ret_bool (by simp; omega), hb _ _⟩
  rcases Int.lt_or_le 2 how with h2 | h2
  · go_wp2_with fail
    go_ret
    exact ⟨ret_bool (by simp; omega), hb _ _⟩
  have ho := World.cell?_alloc_old
  go_wp2_with (go_at_call 108; refine (cright_any _ _).mono ?_; rintro e w1 ⟨rfl, rfl⟩)
  go_ret
  exact ⟨ret_bool (by simp [h, h2]), hb _ _⟩

theorem all_take' (l : List N.Item) (k : Nat) (x : N.Item) (h : l[k]? = some x) (ha : (l.take k).all itemB = true) (hx : itemB x = true) : (l.take (k + 1)).all itemB = true := by
  rw [List.take_add_one, h, List.all_append, ha]; simp [hx]
theorem all_no (l : List N.Item) (k : Nat) (x : N.Item) (h : l[k]? = some x) (hx : itemB x = false) : l.all itemB = false := by
  rw [Bool.eq_false_iff]
  intro ha
  rw [List.all_eq_true] at ha
  rw [ha x (List.mem_of_getElem? h)] at hx
  cases hx

set_option maxHeartbeats 2000000 in
theorem index_any (v : Value) (l : List N.Item) (bn : Nat) (w : World) (hv : ItemsAt w v l) (hz : l.length ≤ 16777216) (hn : w.cell? ⟨bn, 0, none⟩ = some (.int .i64 32)) (hlt : bn < w.heap.size) :
    Calls Tryz.prog 124 #[v, .func (.func 107) #[] #[.pointer (some ⟨bn, 0, none⟩)]] w fun e w' => (∃ i : Int, e = .returned (.int .i64 i) ∧ decide (0 ≤ i) = !l.all itemB) ∧ Below w.heap.size w w' := by
  have HVB := Box.mk hv
  obtain ⟨ao, cap, rfl⟩ := hv.slice
  clear hv
  have HN := Box.mk hn
  clear hn
  go_enter Tryz.func124, Tryz.ntmps124
  go_wp2
  go_loopw [8] (fun i wr => ∃ k : Nat, k ≤ l.length ∧ i = .int .i64 k ∧ Box ((l.take k).all itemB = true) ∧ Box (Below w.heap.size w wr)) (fun i _ => l.length - (intOf i).toNat)
  case atStart => exact ⟨0, by omega, rfl, ⟨rfl⟩, ⟨Below.refl _ _⟩⟩
  case round =>
    obtain ⟨k, hk, rfl, ha, hb⟩ := hrel
    by_cases hlt' : k < l.length
    · obtain ⟨x, hx⟩ : ∃ x, l[k]? = some x := ⟨_, List.getElem?_eq_getElem hlt'⟩
      have HX := Box.mk hx
      obtain ⟨g, off, cap2, hg1, hg2, hg3, hg4, hg5⟩ := (HVB.out.below hb.out).get (by rintro rfl; simp at hlt')
      obtain ⟨rfl, rfl⟩ : ao = some ⟨g, off, none⟩ ∧ cap = cap2 := by injection hg1 with h1 h2 h3; exact ⟨h1, h3⟩
      obtain ⟨hc1, hc2⟩ := hg5 k x hx
      unfold maxLen at hg3
      have HN2 := Box.mk (show wr.cell? ⟨bn, 0, none⟩ = some (.int .i64 32) from (hb.out.cell (p := ⟨bn, 0, none⟩) hlt).trans HN.out)
      have HL2 := Box.mk (show bn < wr.heap.size from Nat.lt_of_lt_of_le hlt hb.out.size)
      clear hx hg1 hg5
      cases hi : itemB x with
      | true =>
        have HT := Box.mk (all_take' l k x HX.out ha.out hi)
        have HI := Box.mk (show (!itemB x) = false by rw [hi]; rfl)
        clear hi
        go_wp2_with fail
        refine (other_any x bn _ HN2.out HL2.out).mono ?_; rintro e w1 ⟨rfl, hb1⟩; rw [HI.out]
        have HB1 := Box.mk (show Below w.heap.size w w1 from hb.out.trans (hb1.mono hb.out.size))
        clear hb1
        go_wp2_with fail
        go_roundw
        case rel => exact ⟨k + 1, hlt', by go_num, HT, HB1⟩
        case measure => simp [intOf]; omega
      | false =>
        have HT := Box.mk (all_no l k x HX.out hi)
        have HI := Box.mk (show (!itemB x) = true by rw [hi]; rfl)
        clear hi
        go_wp2_with fail
        refine (other_any x bn _ HN2.out HL2.out).mono ?_; rintro e w1 ⟨rfl, hb1⟩; rw [HI.out]
        go_wp2_with fail
        go_ret
        exact ⟨⟨k, rfl, by rw [HT.out]; simp⟩, hb.out.trans (hb1.mono hb.out.size)⟩
    · have HT := Box.mk (show l.all itemB = true by have := ha.out; rwa [List.take_of_length_le (by omega)] at this)
      go_wp2_with fail
      go_ret
      exact ⟨⟨-1, rfl, by rw [HT.out]; rfl⟩, hb.out⟩
end Go.Proofs.YtbpcipobdokcfaaGreatDoor

/- WHICH PATTERNS ARE RIGHT: the program's answer and the document's; a pattern's first twelve items. -/
namespace Go.Proofs.YtbpcipobdokcfaaGreatDoor
open Go.RowKit

theorem contains_any (v : Value) (l : List N.Item) (bn : Nat) (w : World) (hv : ItemsAt w v l) (hz : l.length ≤ 16777216) (hn : w.cell? ⟨bn, 0, none⟩ = some (.int .i64 32)) (hlt : bn < w.heap.size) :
    Calls Tryz.prog 109 #[v, .func (.func 107) #[] #[.pointer (some ⟨bn, 0, none⟩)]] w fun e w' => e = .returned (.bool (!l.all itemB)) ∧ Below w.heap.size w w' := by
  have HI := Box.mk (index_any v l bn w hv hz hn hlt)
  clear hv hn
  go_enter Tryz.func109, Tryz.ntmps109
  go_wp2_with fail
  refine HI.out.mono ?_; rintro e w1 ⟨⟨i, rfl, hi⟩, hb⟩
  have HX := Box.mk hi
  clear hi
  go_wp2_with fail
  go_ret
  exact ⟨ret_bool (by simpa using HX.out), hb⟩

set_option maxHeartbeats 1000000 in
theorem pright_any (st : Bool) (v : Value) (l : List N.Item) (w : World) (hv : ItemsAt w v l) (hz : l.length ≤ 16777216) :
    Calls Tryz.prog 82 #[.agg #[.bool st, v], .int .i64 32] w fun e w' => e = .returned (.bool (rightB l)) ∧ Below w.heap.size w w' := by
  unfold rightB
  have hw : Below w.heap.size w ((w.alloc (.cells #[.bool st, v] 42)).alloc (.cells #[.int .i64 32] 3)) := ((Below.refl _ _).alloc (Nat.le_refl _) _).alloc (by simp) _
  have HW := Box.mk hw
  have HV := Box.mk (hv.below hw)
  have HN := Box.mk (show ((w.alloc (.cells #[.bool st, v] 42)).alloc (.cells #[.int .i64 32] 3)).cell? ⟨w.heap.size + 1, 0, none⟩ = some (.int .i64 32) by
    have := World.cell?_alloc_mark (w.alloc (.cells #[.bool st, v] 42)) #[.int .i64 32] 3 (0, 0) 0
    simp at this ⊢)
  obtain ⟨ao, cap, rfl⟩ := hv.slice
  clear hv hw
  by_cases hl : l.length ≤ 10
  · go_enter Tryz.func82, Tryz.ntmps82
    go_wp2_with fail
    refine (contains_any _ l (w.heap.size + 1) _ HV.out hz HN.out (by simp)).mono ?_; rintro e w1 ⟨rfl, hb⟩
    have HB := Box.mk hb
    clear hb
    go_wp2_with fail
    go_ret
    exact ⟨ret_bool (by simp [hl]), HW.out.trans (HB.out.mono HW.out.size)⟩
  · have hl' : 10 < l.length := by omega
    go_enter Tryz.func82, Tryz.ntmps82
    go_wp2_with fail
    go_ret
    exact ⟨ret_bool (by simp), HW.out⟩

set_option maxHeartbeats 2000000 in
theorem rpright_any (st : Bool) (v : Value) (l : List N.Item) (w : World) (hv : ItemsAt w v l) (hz : l.length ≤ 16777216) :
    Calls Tryz.prog 65 #[.agg #[.bool st, v], .int .i64 32] w fun e w' => e = .returned (.bool (rightB l)) ∧ Below w.heap.size w w' := by
  have HVB := Box.mk hv
  obtain ⟨ao, cap, rfl⟩ := hv.slice
  clear hv
  have HB0 := Box.mk (Blk.new w 42 #[.bool st, .slice ao l.length cap])
  have HW0 := Box.mk (((Below.refl w.heap.size w).alloc (Nat.le_refl _) (.cells #[.bool st, .slice ao l.length cap] 42)))
  go_enter Tryz.func65, Tryz.ntmps65
  go_wp2
  go_loopw [5] (fun i wr => ∃ k : Nat, k ≤ l.length ∧ i = .int .i64 k ∧ Box ((l.take k).all itemB = true) ∧ Blk wr w.heap.size 42 #[.bool st, .slice ao l.length cap] ∧ Box (Below w.heap.size w wr)) (fun i _ => l.length - (intOf i).toNat)
  case atStart => exact ⟨0, by omega, rfl, ⟨rfl⟩, HB0.out, HW0⟩
  case round =>
    obtain ⟨k, hk, rfl, ha, hbk, hb⟩ := hrel
    have c1 : wr.cell? ⟨w.heap.size, 1, none⟩ = some (.slice ao l.length cap) := (hbk.cell 1).trans rfl
    have hl0 := hbk.lt
    have HBK := Box.mk hbk
    clear hbk
    by_cases hlt : k < l.length
    · obtain ⟨x, hx⟩ : ∃ x, l[k]? = some x := ⟨_, List.getElem?_eq_getElem hlt⟩
      have HX := Box.mk hx
      obtain ⟨g, off, cap2, hg1, hg2, hg3, hg4, hg5⟩ := (HVB.out.below hb.out).get (by rintro rfl; simp at hlt)
      obtain ⟨rfl, rfl⟩ : ao = some ⟨g, off, none⟩ ∧ cap = cap2 := by injection hg1 with h1 h2 h3; exact ⟨h1, h3⟩
      obtain ⟨hc1, hc2⟩ := hg5 k x hx
      unfold maxLen at hg3
      have HBA := Box.mk (fun o => hb.out.alloc hb.out.size o)
      clear hx hg1 hg5
      obtain ⟨set, how⟩ := x
      cases hs : setB set with
      | true =>
        have HS := Box.mk hs
        rcases Int.lt_or_le how 0 with h | h
        · have HT := Box.mk (show rightB l = false by unfold rightB; rw [all_no l k _ HX.out (by unfold itemB; simp; omega)]; simp)
          clear hs
          go_wp2_with fail
          refine (rcright_any _ _).mono ?_; rintro e w1 ⟨rfl, rfl⟩; rw [HS.out]
          go_wp2_with fail
          go_ret
          exact ⟨by rw [HT.out]; rfl, HBA.out _⟩
        rcases Int.lt_or_le 2 how with h2 | h2
        · have HT := Box.mk (show rightB l = false by unfold rightB; rw [all_no l k _ HX.out (by unfold itemB; simp; omega)]; simp)
          clear hs
          go_wp2_with fail
          refine (rcright_any _ _).mono ?_; rintro e w1 ⟨rfl, rfl⟩; rw [HS.out]
          go_wp2_with fail
          go_ret
          exact ⟨by rw [HT.out]; rfl, HBA.out _⟩
        have HT := Box.mk (all_take' l k _ HX.out ha.out (show itemB (set, how) = true by unfold itemB; simp [hs, h, h2]))
        clear hs
        go_wp2_with fail
        refine (rcright_any _ _).mono ?_; rintro e w1 ⟨rfl, rfl⟩; rw [HS.out]
        go_wp2_with fail
        go_roundw
        case rel => exact ⟨k + 1, hlt, by go_num, HT, HBK.out.alloc _, ⟨HBA.out _⟩⟩
        case measure => simp [intOf]; omega
      | false =>
        have HS := Box.mk hs
        have HT := Box.mk (show rightB l = false by unfold rightB; rw [all_no l k _ HX.out (by unfold itemB; simp [hs])]; simp)
        clear hs
        go_wp2_with fail
        refine (rcright_any _ _).mono ?_; rintro e w1 ⟨rfl, rfl⟩; rw [HS.out]
        go_wp2_with fail
        go_ret
        exact ⟨by rw [HT.out]; rfl, HBA.out _⟩
    · have HT := Box.mk (show l.all itemB = true by have := ha.out; rwa [List.take_of_length_le (by omega)] at this)
      go_wp2_with fail
      go_ret
      refine ⟨ret_bool ?_, hb.out⟩
      unfold rightB
      rw [HT.out, Bool.eq_iff_iff]
      simp
      omega

theorem ItemsAt.take {w : World} {ao : Option Addr} {cap : Nat} {l : List N.Item} (h : ItemsAt w (.slice ao l.length cap) l) (n : Nat) : ItemsAt w (.slice ao (l.take n).length cap) (l.take n) := by
  rcases h with ⟨h1, rfl⟩ | ⟨b, off, sp, cap, h1, h2, h3, h4⟩
  · injection h1 with h1 h2 h3
    subst h1 h3
    simp [ItemsAt]
  · injection h1 with h1 h2' h3'
    subst h1 h3'
    refine .inr ⟨b, off, sp, _, rfl, by rw [List.length_take]; omega, h3, fun hn => ?_⟩
    have hn' : l ≠ [] := by rintro rfl; simp at hn
    refine ⟨(h4 hn').1, (h4 hn').2.1, fun i x hx => (h4 hn').2.2 i x ?_⟩
    rw [List.getElem?_take] at hx
    split at hx
    · exact hx
    · cases hx
theorem ItemsAt.cap_le {w : World} {ao : Option Addr} {cap n : Nat} {l : List N.Item} (h : ItemsAt w (.slice ao n cap) l) : l.length ≤ cap ∧ cap ≤ 9223372036854775807 := by
  rcases h with ⟨h1, rfl⟩ | ⟨b, off, sp, cap, h1, h2, h3, h4⟩
  · injection h1 with h1 h2 h3; subst h3; simp
  · injection h1 with h1 h2' h3'; subst h3'; unfold maxLen at h3; omega

set_option maxHeartbeats 2000000 in
theorem cut_any (st : Bool) (v : Value) (l : List N.Item) (w : World) (hv : ItemsAt w v l) :
    Calls Tryz.prog 53 #[.agg #[.bool st, v]] w fun e w' => (∃ v', e = .returned (.agg #[.bool st, v']) ∧ ∀ W, ItemsAt W v l → ItemsAt W v' (l.take 12)) ∧ Below w.heap.size w w' := by
  obtain ⟨ao, cap, rfl⟩ := hv.slice
  obtain ⟨hc1, hc2⟩ := hv.cap_le
  have HT := Box.mk (fun (W : World) (h : ItemsAt W (.slice ao l.length cap) l) => h.take 12)
  have HB := Box.mk (show ∀ o1 o2, Below w.heap.size w ((w.alloc o1).alloc o2).drew from fun o1 o2 => below_drewN (((Below.refl _ _).alloc (Nat.le_refl _) o1).alloc (by simp) o2) 1)
  clear hv
  go_enter Tryz.func53, Tryz.ntmps53
  go_wp2
  go_region
  go_wp2
  · have hlt : 12 < l.length := by omega
    refine bodyPost_ret (v := .agg #[.bool st, .slice ao 12 cap]) (by simp [results, Tryz.results53, go_sem]) rfl ⟨⟨_, rfl, fun W h => ?_⟩, HB.out _ _⟩
    have := HT.out W h
    rw [show (l.take 12).length = 12 by rw [List.length_take]; omega] at this
    exact this
  · have hle : l.length ≤ 12 := by omega
    refine bodyPost_ret (v := .agg #[.bool st, .slice ao l.length cap]) (by simp [results, Tryz.results53, go_sem]) rfl ⟨⟨_, rfl, fun W h => ?_⟩, HB.out _ _⟩
    have := HT.out W h
    rw [List.take_of_length_le hle] at this ⊢
    exact this
end Go.Proofs.YtbpcipobdokcfaaGreatDoor

/- THE RUNNER: what opens one, all its states, what closes a state, which error is told. -/
namespace Go.Proofs.YtbpcipobdokcfaaGreatDoor
open Go.RowKit

/-- the ways on, by how often an item stands -/
def how1 : MapEntry := ⟨.int .i64 0, .func (.func 117) #[] #[], 0⟩
def how2 : MapEntry := ⟨.int .i64 1, .func (.func 118) #[] #[], 1⟩
def how3 : MapEntry := ⟨.int .i64 2, .func (.func 119) #[] #[], 2⟩
/-- a runner that lies in memory -/
structure Rn (w : World) (r m : Nat) (st : Bool) (v : Value) (l : List N.Item) : Prop where
  blk : Blk w r 174 #[.bool st, v, .map (some m)]
  how : w.heap[m]? = some (.map #[how1, how2, how3] 3)
  items : ItemsAt w v l
  right : rightB l = true
theorem Rn.below {w w' : World} {r m : Nat} {st : Bool} {v : Value} {l : List N.Item} (h : Rn w r m st v l) (hb : Below w.heap.size w w') : Rn w' r m st v l :=
  ⟨h.blk.below hb h.blk.lt, (hb.block m (Array.getElem?_eq_some_iff.1 h.how).1).trans h.how, h.items.below hb, h.right⟩
theorem Rn.len {w : World} {r m : Nat} {st : Bool} {v : Value} {l : List N.Item} (h : Rn w r m st v l) : l.length ≤ 10 := by
  have := h.right
  unfold rightB at this
  rw [Bool.and_eq_true] at this
  exact of_decide_eq_true this.1

theorem most_cast (l : List N.Item) : ((2 : Int) ^ (2 * l.length + 1) - 1) = (N.most l : Int) := by
  unfold N.most
  have : 0 < 2 ^ (2 * l.length + 1) := Nat.two_pow_pos _
  rw [show ((2 : Int) ^ (2 * l.length + 1)) = ((2 ^ (2 * l.length + 1) : Nat) : Int) by simp]
  omega

set_option maxHeartbeats 1000000 in
theorem all_any (r m : Nat) (st : Bool) (v : Value) (l : List N.Item) (w : World) (h : Rn w r m st v l) :
    Calls Tryz.prog 120 #[.pointer (some ⟨r, 0, none⟩)] w fun e w' => e = .returned (.int .i64 (N.most l)) ∧ w = w' := by
  have hl := h.len
  obtain ⟨ao, cap, rfl⟩ := h.items.slice
  have c1 : w.cell? ⟨r, 1, none⟩ = some (.slice ao l.length cap) := (h.blk.cell 1).trans rfl
  clear h
  go_enter Tryz.func120, Tryz.ntmps120
  go_wp2
  go_ret
  refine ⟨ret_int ?_, rfl⟩
  have h1 := pow_le (2 * l.length + 1) (by omega)
  have h0 : (0 : Int) ≤ 2 ^ (2 * l.length + 1) := by rw [show ((2 : Int) ^ (2 * l.length + 1)) = ((2 ^ (2 * l.length + 1) : Nat) : Int) by simp]; exact Int.natCast_nonneg _
  rw [← most_cast]
  generalize (2 : Int) ^ (2 * l.length + 1) = z at h0 h1 ⊢
  unfold wrap64
  omega

theorem told_any (A : Nat → Addr) (B : Nat) (w : World) (hE : E A B w) :
    Calls Tryz.prog 94 #[errV A 3] w fun e w' => e = .returned (.int .i64 80) ∧ w = w' := by
  have hg := hE.cell 3 (by decide)
  have HI := Box.mk (is_sents hE 3 3 (by decide) (by decide))
  clear hE
  unfold errV
  go_enter Tryz.func94, Tryz.ntmps94
  go_wp2_with fail
  refine HI.out.mono ?_; rintro e w1 ⟨rfl, rfl⟩
  go_wp2_with fail
  go_ret
  exact ⟨rfl, rfl⟩

def openOk (w : World) (st : Bool) (v : Value) (l : List N.Item) (e : Ending) (w' : World) : Prop := Below w.heap.size w w' ∧ ∃ r m, e = .returned (.tuple #[.pointer (some ⟨r, 0, none⟩), .nilIface]) ∧ Rn w' r m st v l
def openNo (w : World) (A : Nat → Addr) (e : Ending) (w' : World) : Prop := Below w.heap.size w w' ∧ e = .returned (.tuple #[.pointer none, errV A 3])

set_option maxHeartbeats 4000000 in
/-- a pattern that is not right -/
theorem open_bad (A : Nat → Addr) (B : Nat) (st : Bool) (v : Value) (l : List N.Item) (w : World) (hv : ItemsAt w v l) (hz : l.length ≤ 16777216) (hE : E A B w) (hB : B ≤ w.heap.size) (HR : Box (rightB l = false)) (sets : Value) :
    Calls Tryz.prog 93 #[.agg #[.bool st, v], sets] w (openNo w A) := by
  have hmm := @run_makeMap Tryz.prog
  have hins0 := fun (W : World) (o : Obj) => map_ins (P := Tryz.prog) Tryz.underlying172 Tryz.underlying3 (W.alloc o) #[] 0 0 how1.val (W.heap.size + 1) (by simp) rfl
  have hins1 := fun (W : World) (o : Obj) => map_ins (P := Tryz.prog) Tryz.underlying172 Tryz.underlying3 (W.alloc o) #[how1] 1 1 how2.val (W.heap.size + 1) (by simp) rfl
  have hins2 := fun (W : World) (o : Obj) => map_ins (P := Tryz.prog) Tryz.underlying172 Tryz.underlying3 (W.alloc o) #[how1, how2] 2 2 how3.val (W.heap.size + 1) (by simp) rfl
  simp only [List.push_toArray, List.nil_append, List.cons_append, how1, how2, how3, Nat.reduceAdd, Nat.zero_add] at hins0 hins1 hins2
  obtain ⟨W3, hW3⟩ : ∃ W3, W3 = (((w.alloc (.cells #[.bool st, v] 42)).alloc (.map #[how1, how2, how3] 3)).alloc (.cells #[.bool st, v, .map (some (w.heap.size + 1))] 174)) := ⟨_, rfl⟩
  have hw : Below w.heap.size w W3 := by rw [hW3]; exact (((Below.refl _ _).alloc (Nat.le_refl _) _).alloc (by simp) _).alloc (by simp; omega) _
  have HM := Box.mk (show W3.heap[w.heap.size + 1]? = some (.map #[how1, how2, how3] 3) by
    rw [hW3]
    refine (Below.heap_alloc _ _ _ (by simp)).trans ?_
    have := heap_alloc_new (w.alloc (.cells #[.bool st, v] 42)) (.map #[how1, how2, how3] 3)
    simpa using this)
  have HBK := Box.mk (show Blk W3 (w.heap.size + 1 + 1) 174 #[.bool st, v, .map (some (w.heap.size + 1))] by
    rw [hW3]
    have := Blk.new ((w.alloc (.cells #[.bool st, v] 42)).alloc (.map #[how1, how2, how3] 3)) 174 #[.bool st, v, .map (some (w.heap.size + 1))]
    simpa using this)
  have hv3 := hv.below hw
  have HRN := Box.mk (fun hr => (⟨HBK.out, HM.out, hv3, hr⟩ : Rn W3 (w.heap.size + 1 + 1) (w.heap.size + 1) st v l))
  have HP := Box.mk (pright_any st v l W3 hv3 hz)
  have HW := Box.mk hw
  have HE3 := Box.mk (hE.below (hw.mono hB))
  clear hv3 hw hE
  have HV := Box.mk hv
  obtain ⟨ao, cap, rfl⟩ := hv.slice
  clear hv
  have H3 := Box.mk hW3
  clear hW3
  go_enter Tryz.func93, Tryz.ntmps93
  go_wp2_with fail
  refine wp_scope_fwd 0 rfl ?_
  go_wp2_with fail
  have h3 := H3.out
  simp only [how1, how2, how3] at h3
  rw [← h3]
  clear h3 hins0 hins1 hins2 hmm
  refine HP.out.mono ?_; rintro e w1 ⟨rfl, hb1⟩; rw [HR.out]
  have hE1 := HE3.out.below (hb1.mono (Nat.le_trans hB HW.out.size))
  have HB1 := Box.mk hb1
  clear hb1
  go_wp2_with fail
  go_step3
  refine ⟨rfl, ?_⟩
  have hg := hE1.cell 3 (by decide)
  clear hE1
  go_wp2_with fail
  go_region
  go_wp2_with fail
  rw [Exit.noGoto_ret]
  go_ret2
  exact ⟨below_drewN (HW.out.trans (HB1.out.mono HW.out.size)) 1, rfl⟩

set_option maxHeartbeats 4000000 in
/-- no sets are asked about -/
theorem open_ok (A : Nat → Addr) (B : Nat) (st : Bool) (v : Value) (l : List N.Item) (w : World) (hv : ItemsAt w v l) (hz : l.length ≤ 16777216) (hE : E A B w) (hB : B ≤ w.heap.size) (HR : Box (rightB l = true)) :
    Calls Tryz.prog 93 #[.agg #[.bool st, v], .slice none 0 0] w (openOk w st v l) := by
  have hmm := @run_makeMap Tryz.prog
  have hins0 := fun (W : World) (o : Obj) => map_ins (P := Tryz.prog) Tryz.underlying172 Tryz.underlying3 (W.alloc o) #[] 0 0 how1.val (W.heap.size + 1) (by simp) rfl
  have hins1 := fun (W : World) (o : Obj) => map_ins (P := Tryz.prog) Tryz.underlying172 Tryz.underlying3 (W.alloc o) #[how1] 1 1 how2.val (W.heap.size + 1) (by simp) rfl
  have hins2 := fun (W : World) (o : Obj) => map_ins (P := Tryz.prog) Tryz.underlying172 Tryz.underlying3 (W.alloc o) #[how1, how2] 2 2 how3.val (W.heap.size + 1) (by simp) rfl
  simp only [List.push_toArray, List.nil_append, List.cons_append, how1, how2, how3, Nat.reduceAdd, Nat.zero_add] at hins0 hins1 hins2
  obtain ⟨W3, hW3⟩ : ∃ W3, W3 = (((w.alloc (.cells #[.bool st, v] 42)).alloc (.map #[how1, how2, how3] 3)).alloc (.cells #[.bool st, v, .map (some (w.heap.size + 1))] 174)) := ⟨_, rfl⟩
  have hw : Below w.heap.size w W3 := by rw [hW3]; exact (((Below.refl _ _).alloc (Nat.le_refl _) _).alloc (by simp) _).alloc (by simp; omega) _
  have HM := Box.mk (show W3.heap[w.heap.size + 1]? = some (.map #[how1, how2, how3] 3) by
    rw [hW3]
    refine (Below.heap_alloc _ _ _ (by simp)).trans ?_
    have := heap_alloc_new (w.alloc (.cells #[.bool st, v] 42)) (.map #[how1, how2, how3] 3)
    simpa using this)
  have HBK := Box.mk (show Blk W3 (w.heap.size + 1 + 1) 174 #[.bool st, v, .map (some (w.heap.size + 1))] by
    rw [hW3]
    have := Blk.new ((w.alloc (.cells #[.bool st, v] 42)).alloc (.map #[how1, how2, how3] 3)) 174 #[.bool st, v, .map (some (w.heap.size + 1))]
    simpa using this)
  have hv3 := hv.below hw
  have HRN := Box.mk (fun hr => (⟨HBK.out, HM.out, hv3, hr⟩ : Rn W3 (w.heap.size + 1 + 1) (w.heap.size + 1) st v l))
  have HP := Box.mk (pright_any st v l W3 hv3 hz)
  have HW := Box.mk hw
  have HE3 := Box.mk (hE.below (hw.mono hB))
  clear hv3 hw hE
  have HV := Box.mk hv
  obtain ⟨ao, cap, rfl⟩ := hv.slice
  clear hv
  have H3 := Box.mk hW3
  clear hW3
  go_enter Tryz.func93, Tryz.ntmps93
  go_wp2_with fail
  refine wp_scope_fwd 0 rfl ?_
  go_wp2_with fail
  have h3 := H3.out
  simp only [how1, how2, how3] at h3
  rw [← h3]
  clear h3 hins0 hins1 hins2 hmm
  refine HP.out.mono ?_; rintro e w1 ⟨rfl, hb1⟩; rw [HR.out]
  have HRN1 := Box.mk ((HRN.out HR.out).below hb1)
  have HB1 := Box.mk hb1
  clear hb1
  go_wp2_with fail
  go_rounds 1
  go_wp2_with fail
  rw [fwd_ret]
  go_ret2
  exact ⟨HW.out.trans (HB1.out.mono HW.out.size), _, _, rfl, HRN1.out⟩

set_option maxHeartbeats 4000000 in
/-- one set, that may be -/
theorem open_set_ok (A : Nat → Addr) (B : Nat) (st : Bool) (v : Value) (l : List N.Item) (w : World) (hv : ItemsAt w v l) (hz : l.length ≤ 16777216) (hE : E A B w) (hB : B ≤ w.heap.size) (HR : Box (rightB l = true)) (sb : Nat) (x : Int) (hs : w.cell? ⟨sb, 0, none⟩ = some (.int .i64 x)) (h0 : 0 ≤ x) (h1 : x ≤ N.most l) :
    Calls Tryz.prog 93 #[.agg #[.bool st, v], .slice (some ⟨sb, 0, none⟩) 1 1] w (openOk w st v l) := by
  have hmm := @run_makeMap Tryz.prog
  have hins0 := fun (W : World) (o : Obj) => map_ins (P := Tryz.prog) Tryz.underlying172 Tryz.underlying3 (W.alloc o) #[] 0 0 how1.val (W.heap.size + 1) (by simp) rfl
  have hins1 := fun (W : World) (o : Obj) => map_ins (P := Tryz.prog) Tryz.underlying172 Tryz.underlying3 (W.alloc o) #[how1] 1 1 how2.val (W.heap.size + 1) (by simp) rfl
  have hins2 := fun (W : World) (o : Obj) => map_ins (P := Tryz.prog) Tryz.underlying172 Tryz.underlying3 (W.alloc o) #[how1, how2] 2 2 how3.val (W.heap.size + 1) (by simp) rfl
  simp only [List.push_toArray, List.nil_append, List.cons_append, how1, how2, how3, Nat.reduceAdd, Nat.zero_add] at hins0 hins1 hins2
  obtain ⟨W3, hW3⟩ : ∃ W3, W3 = (((w.alloc (.cells #[.bool st, v] 42)).alloc (.map #[how1, how2, how3] 3)).alloc (.cells #[.bool st, v, .map (some (w.heap.size + 1))] 174)) := ⟨_, rfl⟩
  have hw : Below w.heap.size w W3 := by rw [hW3]; exact (((Below.refl _ _).alloc (Nat.le_refl _) _).alloc (by simp) _).alloc (by simp; omega) _
  have HM := Box.mk (show W3.heap[w.heap.size + 1]? = some (.map #[how1, how2, how3] 3) by
    rw [hW3]
    refine (Below.heap_alloc _ _ _ (by simp)).trans ?_
    have := heap_alloc_new (w.alloc (.cells #[.bool st, v] 42)) (.map #[how1, how2, how3] 3)
    simpa using this)
  have HBK := Box.mk (show Blk W3 (w.heap.size + 1 + 1) 174 #[.bool st, v, .map (some (w.heap.size + 1))] by
    rw [hW3]
    have := Blk.new ((w.alloc (.cells #[.bool st, v] 42)).alloc (.map #[how1, how2, how3] 3)) 174 #[.bool st, v, .map (some (w.heap.size + 1))]
    simpa using this)
  have hv3 := hv.below hw
  have HRN := Box.mk (fun hr => (⟨HBK.out, HM.out, hv3, hr⟩ : Rn W3 (w.heap.size + 1 + 1) (w.heap.size + 1) st v l))
  have HP := Box.mk (pright_any st v l W3 hv3 hz)
  have HW := Box.mk hw
  have HE3 := Box.mk (hE.below (hw.mono hB))
  clear hv3 hw hE
  have HV := Box.mk hv
  obtain ⟨ao, cap, rfl⟩ := hv.slice
  clear hv
  have H3 := Box.mk hW3
  clear hW3
  go_enter Tryz.func93, Tryz.ntmps93
  go_wp2_with fail
  refine wp_scope_fwd 0 rfl ?_
  go_wp2_with fail
  have h3 := H3.out
  simp only [how1, how2, how3] at h3
  rw [← h3]
  clear h3 hins0 hins1 hins2 hmm
  refine HP.out.mono ?_; rintro e w1 ⟨rfl, hb1⟩; rw [HR.out]
  have HRN1 := Box.mk ((HRN.out HR.out).below hb1)
  have HB1 := Box.mk hb1
  have hc : w1.cell? ⟨sb, 0, none⟩ = some (.int .i64 x) := ((HW.out.trans (hb1.mono HW.out.size)).cell (p := ⟨sb, 0, none⟩) (World.block_lt_of_cell? w _ hs)).trans hs
  clear hb1 hs
  have h1' : ¬ (N.most l : Int) < x := by omega
  go_wp2_with fail
  refine wp_loop_rounds 2 ?_
  rw [rounds_succ]
  go_wp2_with fail
  refine (all_any _ _ st _ l _ HRN1.out).mono ?_; rintro e w2 ⟨rfl, rfl⟩
  go_wp2_with fail
  rw [rounds_succ]
  go_wp2_with fail
  rw [fwd_ret]
  go_ret2
  exact ⟨HW.out.trans (HB1.out.mono HW.out.size), _, _, rfl, HRN1.out⟩

set_option maxHeartbeats 4000000 in
/-- one set, that may not be -/
theorem open_set_bad (A : Nat → Addr) (B : Nat) (st : Bool) (v : Value) (l : List N.Item) (w : World) (hv : ItemsAt w v l) (hz : l.length ≤ 16777216) (hE : E A B w) (hB : B ≤ w.heap.size) (HR : Box (rightB l = true)) (sb : Nat) (x : Int) (hs : w.cell? ⟨sb, 0, none⟩ = some (.int .i64 x)) (h : x < 0 ∨ (0 ≤ x ∧ (N.most l : Int) < x)) :
    Calls Tryz.prog 93 #[.agg #[.bool st, v], .slice (some ⟨sb, 0, none⟩) 1 1] w (openNo w A) := by
  have hmm := @run_makeMap Tryz.prog
  have hins0 := fun (W : World) (o : Obj) => map_ins (P := Tryz.prog) Tryz.underlying172 Tryz.underlying3 (W.alloc o) #[] 0 0 how1.val (W.heap.size + 1) (by simp) rfl
  have hins1 := fun (W : World) (o : Obj) => map_ins (P := Tryz.prog) Tryz.underlying172 Tryz.underlying3 (W.alloc o) #[how1] 1 1 how2.val (W.heap.size + 1) (by simp) rfl
  have hins2 := fun (W : World) (o : Obj) => map_ins (P := Tryz.prog) Tryz.underlying172 Tryz.underlying3 (W.alloc o) #[how1, how2] 2 2 how3.val (W.heap.size + 1) (by simp) rfl
  simp only [List.push_toArray, List.nil_append, List.cons_append, how1, how2, how3, Nat.reduceAdd, Nat.zero_add] at hins0 hins1 hins2
  obtain ⟨W3, hW3⟩ : ∃ W3, W3 = (((w.alloc (.cells #[.bool st, v] 42)).alloc (.map #[how1, how2, how3] 3)).alloc (.cells #[.bool st, v, .map (some (w.heap.size + 1))] 174)) := ⟨_, rfl⟩
  have hw : Below w.heap.size w W3 := by rw [hW3]; exact (((Below.refl _ _).alloc (Nat.le_refl _) _).alloc (by simp) _).alloc (by simp; omega) _
  have HM := Box.mk (show W3.heap[w.heap.size + 1]? = some (.map #[how1, how2, how3] 3) by
    rw [hW3]
    refine (Below.heap_alloc _ _ _ (by simp)).trans ?_
    have := heap_alloc_new (w.alloc (.cells #[.bool st, v] 42)) (.map #[how1, how2, how3] 3)
    simpa using this)
  have HBK := Box.mk (show Blk W3 (w.heap.size + 1 + 1) 174 #[.bool st, v, .map (some (w.heap.size + 1))] by
    rw [hW3]
    have := Blk.new ((w.alloc (.cells #[.bool st, v] 42)).alloc (.map #[how1, how2, how3] 3)) 174 #[.bool st, v, .map (some (w.heap.size + 1))]
    simpa using this)
  have hv3 := hv.below hw
  have HRN := Box.mk (fun hr => (⟨HBK.out, HM.out, hv3, hr⟩ : Rn W3 (w.heap.size + 1 + 1) (w.heap.size + 1) st v l))
  have HP := Box.mk (pright_any st v l W3 hv3 hz)
  have HW := Box.mk hw
  have HE3 := Box.mk (hE.below (hw.mono hB))
  clear hv3 hw hE
  have HV := Box.mk hv
  obtain ⟨ao, cap, rfl⟩ := hv.slice
  clear hv
  have H3 := Box.mk hW3
  clear hW3
  go_enter Tryz.func93, Tryz.ntmps93
  go_wp2_with fail
  refine wp_scope_fwd 0 rfl ?_
  go_wp2_with fail
  have h3 := H3.out
  simp only [how1, how2, how3] at h3
  rw [← h3]
  clear h3 hins0 hins1 hins2 hmm
  refine HP.out.mono ?_; rintro e w1 ⟨rfl, hb1⟩; rw [HR.out]
  have HRN1 := Box.mk ((HRN.out HR.out).below hb1)
  have hE1 := HE3.out.below (hb1.mono (Nat.le_trans hB HW.out.size))
  have HB1 := Box.mk hb1
  have hc : w1.cell? ⟨sb, 0, none⟩ = some (.int .i64 x) := ((HW.out.trans (hb1.mono HW.out.size)).cell (p := ⟨sb, 0, none⟩) (World.block_lt_of_cell? w _ hs)).trans hs
  clear hb1 hs
  go_wp2_with fail
  refine wp_loop_rounds 2 ?_
  rw [rounds_succ]
  rcases h with h | ⟨h, h'⟩
  · go_wp2_with fail
    go_step3
    refine ⟨rfl, ?_⟩
    have hg := hE1.cell 3 (by decide)
    clear hE1
    go_wp2_with fail
    go_region
    go_wp2_with fail
    rw [Exit.noGoto_ret]
    go_ret2
    exact ⟨below_drewN (HW.out.trans (HB1.out.mono HW.out.size)) 1, rfl⟩
  · go_wp2_with fail
    refine (all_any _ _ st _ l _ HRN1.out).mono ?_; rintro e w2 ⟨rfl, rfl⟩
    go_wp2_with fail
    go_step3
    refine ⟨rfl, ?_⟩
    have hg := hE1.cell 3 (by decide)
    clear hE1
    go_wp2_with fail
    go_region
    go_wp2_with fail
    rw [Exit.noGoto_ret]
    go_ret2
    exact ⟨below_drewN (HW.out.trans (HB1.out.mono HW.out.size)) 1, rfl⟩
end Go.Proofs.YtbpcipobdokcfaaGreatDoor

/- STATES CLOSED BY THE RUNNER. -/
namespace Go.Proofs.YtbpcipobdokcfaaGreatDoor
open Go.RowKit

theorem pow_cast (k : Nat) : (2 : Int) ^ k = ((2 ^ k : Nat) : Int) := by simp
theorem or_pow (S m : Nat) (hS : S < 1099511627776) (hm : m ≤ 39) : bits .or .i64 (S : Int) (wrap64 (2 ^ m)) = ((S ||| 2 ^ m : Nat) : Int) := by
  have h1 := pow_le m (by omega)
  rw [pow_cast] at h1 ⊢
  generalize 2 ^ m = z at h1 ⊢
  rw [IntWalk.wrap64_in _ (by omega), i64_or_nat _ _ (by omega) (by omega)]
theorem or_small (S m k : Nat) (hS : S < 2 ^ k) (hm : m < k) : S ||| 2 ^ m < 2 ^ k := Nat.or_lt_two_pow hS (Nat.pow_lt_pow_right (by omega) hm)
theorem lt_40 (S k : Nat) (hS : S < 2 ^ k) (hk : k ≤ 40) : S < 1099511627776 := by
  have : 2 ^ k ≤ 2 ^ 40 := Nat.pow_le_pow_right (by omega) hk
  omega

set_option maxHeartbeats 4000000 in
theorem closed_any (r m : Nat) (st : Bool) (v : Value) (l : List N.Item) (w : World) (h : Rn w r m st v l) (sb n : Nat) (hs : w.cell? ⟨sb, 0, none⟩ = some (.int .i64 n)) (hn : n ≤ 2 * l.length) :
    Calls Tryz.prog 95 #[.pointer (some ⟨r, 0, none⟩), .slice (some ⟨sb, 0, none⟩) 1 1] w fun e w' => e = .returned (.int .i64 (N.clo l n)) ∧ Below w.heap.size w w' := by
  have hl := h.len
  have HR := Box.mk h
  obtain ⟨ao, cap, rfl⟩ := h.items.slice
  clear h
  go_enter Tryz.func95, Tryz.ntmps95
  go_wp2_with fail
  refine wp_loop_rounds 2 ?_
  rw [rounds_succ]
  go_wp2_with fail
  clear hs
  go_loopw [5, 7] (fun s i wr => ∃ S k : Nat, s = .int .i64 S ∧ i = .int .i64 k ∧ k ≤ 2 * l.length ∧ Box (S ||| N.clo l k = N.clo l n) ∧ Box (S < 2 ^ (2 * l.length + 1)) ∧ Box (Below w.heap.size w wr)) (fun _ i _ => 2 * l.length + 2 - (intOf i).toNat)
  case atStart => exact ⟨0, n, rfl, rfl, hn, ⟨Nat.zero_or _⟩, ⟨Nat.two_pow_pos _⟩, ⟨Below.refl _ _⟩⟩
  case round =>
    obtain ⟨S, k, rfl, rfl, hk, he, hS, hb⟩ := hrel
    have HRr := Box.mk (HR.out.below hb.out)
    have c1 : wr.cell? ⟨r, 1, none⟩ = some (.slice ao l.length cap) := (HRr.out.blk.cell 1).trans rfl
    have HO := Box.mk (or_pow S k (lt_40 _ _ hS.out (by omega)) (by omega))
    by_cases hodd : k % 2 = 1
    · have HC := Box.mk (N.clo_odd l k hodd)
      go_wp2_with fail
      rw [rounds_succ]
      go_wp2_with fail
      go_ret
      exact ⟨ret_int (by rw [HO.out, ← he.out, HC.out]), hb.out⟩
    have hev : k % 2 = 0 := by omega
    by_cases hend : l.length ≤ k / 2
    · have HC := Box.mk (N.clo_end l k hend)
      clear hodd
      go_wp2_with fail
      rw [rounds_succ]
      go_wp2_with fail
      go_ret
      exact ⟨ret_int (by rw [HO.out, ← he.out, HC.out]), hb.out⟩
    obtain ⟨x, hx⟩ : ∃ x, l[k / 2]? = some x := ⟨_, List.getElem?_eq_getElem (by omega)⟩
    obtain ⟨g, off, cap2, hg1, hg2, hg3, hg4, hg5⟩ := HRr.out.items.get (by rintro rfl; simp at hend)
    obtain ⟨rfl, rfl⟩ : ao = some ⟨g, off, none⟩ ∧ cap = cap2 := by injection hg1 with h1 h2 h3; exact ⟨h1, h3⟩
    obtain ⟨hc1, hc2⟩ := hg5 _ x hx
    have HH := Box.mk (show N.howAt l (k / 2) = x.2 by unfold N.howAt; simp [List.getD, hx])
    unfold maxLen at hg3
    have hlt : k / 2 < l.length := by omega
    have hlr := HRr.out.blk.lt
    have t1 : ((k : Int) % 2 == 1) = false := by rw [beq_eq_false_iff_ne]; omega
    have t2 : decide ((l.length : Int) ≤ (k : Int) / 2) = false := by rw [decide_eq_false_iff_not]; omega
    have HBA := Box.mk (fun o m => below_drewN (hb.out.alloc hb.out.size o) m)
    clear hx hg1 hg5 hodd hend
    obtain ⟨set, how⟩ := x
    by_cases h0 : how = 0
    · have HC := Box.mk (N.clo_once l k (HH.out.trans h0))
      subst h0
      go_wp2_with fail
      go_quiet (fail)
      go_wp2_with fail
      rw [rounds_succ]
      go_wp2_with fail
      go_ret
      exact ⟨ret_int (by rw [HO.out, ← he.out, HC.out]), HBA.out _ _⟩
    · have HC := Box.mk (N.clo_next l k hev hlt (by rw [HH.out]; exact h0))
      have t3 : (how == 0) = false := by rw [beq_eq_false_iff_ne]; exact h0
      have HE := Box.mk (show S ||| 2 ^ k ||| N.clo l (k + 2) = N.clo l n by rw [Nat.or_assoc, ← HC.out]; exact he.out)
      have HS := Box.mk (or_small S k _ hS.out (show k < 2 * l.length + 1 by omega))
      go_wp2_with fail
      go_quiet (fail)
      go_wp2_with fail
      go_roundw
      case rel => exact ⟨S ||| 2 ^ k, k + 2, by rw [HO.out], by go_num, by omega, HE, HS, ⟨HBA.out _ _⟩⟩
      case measure => simp [intOf]; omega
end Go.Proofs.YtbpcipobdokcfaaGreatDoor

/- THE STATES THAT A CLASS STEPS FROM, AND WHERE TO: the runner's iterator. -/
namespace Go.Proofs.YtbpcipobdokcfaaGreatDoor
open Go.RowKit

/-- all that lay in one world lies in another as it lay -/
structure Agree (W0 w : World) : Prop where
  size : W0.heap.size ≤ w.heap.size
  block : ∀ k, k < W0.heap.size → w.heap[k]? = W0.heap[k]?
theorem Agree.refl (w : World) : Agree w w := ⟨Nat.le_refl _, fun _ _ => rfl⟩
theorem Agree.of_below {W0 w : World} (h : Below W0.heap.size W0 w) : Agree W0 w := ⟨h.size, h.block⟩
theorem Agree.trans {A B C : World} (h : Agree A B) (k : Agree B C) : Agree A C := ⟨Nat.le_trans h.size k.size, fun i hi => (k.block i (Nat.lt_of_lt_of_le hi h.size)).trans (h.block i hi)⟩
theorem Agree.alloc {A B : World} (h : Agree A B) (o : Obj) : Agree A (B.alloc o) := h.trans (.of_below ((Below.refl _ _).alloc (Nat.le_refl _) o))
theorem Agree.turns {A B C : World} {own : Nat → Prop} (h : Agree A B) (k : Turns own B C) (ho : ∀ i, own i → A.heap.size ≤ i) : Agree A C :=
  ⟨Nat.le_trans h.size k.size, fun i hi => (k.block i (Nat.lt_of_lt_of_le hi h.size) (fun e => by have := ho i e; omega)).trans (h.block i hi)⟩
theorem Agree.holds {A B C : World} {own : Nat → Prop} (h : Agree A B) (k : Holds own B C) (ho : ∀ i, i < A.heap.size → own i) : Agree A C :=
  ⟨Nat.le_trans h.size k.size, fun i hi => (k.block i (ho i hi)).trans (h.block i hi)⟩
theorem ItemsAt.agree {w w' : World} {v : Value} {l : List N.Item} (h : ItemsAt w v l) (hb : Agree w w') : ItemsAt w' v l := by
  rcases h with h | ⟨b, off, sp, cap, h1, h2, h3, h4⟩
  · exact .inl h
  · exact .inr ⟨b, off, sp, cap, h1, h2, h3, fun hn => ⟨(h4 hn).1, Nat.lt_of_lt_of_le (h4 hn).2.1 hb.size, fun i x hx =>
      ⟨(World.cell?_of_block (hb.block b (h4 hn).2.1)).trans ((h4 hn).2.2 i x hx).1, (World.cell?_of_block (hb.block b (h4 hn).2.1)).trans ((h4 hn).2.2 i x hx).2⟩⟩⟩
theorem Rn.agree {w w' : World} {r m : Nat} {st : Bool} {v : Value} {l : List N.Item} (h : Rn w r m st v l) (hb : Agree w w') : Rn w' r m st v l :=
  ⟨(hb.block r h.blk.lt).trans h.blk, (hb.block m (Array.getElem?_eq_some_iff.1 h.how).1).trans h.how, h.items.agree hb, h.right⟩

theorem map_look1 {P : Program} {T K E : TypeId} {q : IntKind} (hm : P.underlying T = some (.map K E)) (hk : P.underlying K = some (.int q)) (W : World) (es : Array MapEntry) (clk : Nat) (k : Int) (n : Nat) (hg : W.heap[n]? = some (.map es clk))
    (i : Nat) (v : Value) (hf : Instr.findNow (.int q) (.int q k) es.toList 0 = some (some (i, v))) :
    (Instr.lookup T (.map (some n)) (.int q k) false).run P W = .ok v W := by
  have h1 : (Instr.checkKey es.isEmpty 10000 K (.int q k)).run P W = .ok () W := MapKept.run_checkKey hk (by simp [MapKept.IsKey]) _ 9999
  have h2 := MapKept.run_findKey (P := P) (w := W) hk hf
  unfold Instr.lookup
  simp only [Sem.run_bind, run_underlying hm, Result.andThen, MapKept.run_getObj_map hg, h1, h2, Sem.run_pure, Bool.false_eq_true, if_false]

theorem how1_any (n : Nat) (w : World) (hn : n ≤ 1000) : Calls Tryz.prog 117 #[.int .i64 n] w fun e w' => e = .returned (.int .i64 (n + 2)) ∧ w = w' := by
  go_enter Tryz.func117, Tryz.ntmps117
  go_wp2
  go_ret
  exact ⟨rfl, rfl⟩
theorem how2_any (n : Nat) (w : World) : Calls Tryz.prog 118 #[.int .i64 n] w fun e w' => e = .returned (.int .i64 n) ∧ w = w' := by
  go_enter Tryz.func118, Tryz.ntmps118
  go_wp2
  go_ret
  exact ⟨rfl, rfl⟩
theorem how3_any (n : Nat) (w : World) (hn : n ≤ 1000) : Calls Tryz.prog 119 #[.int .i64 n] w fun e w' => e = .returned (.int .i64 (n + 1)) ∧ w = w' := by
  go_enter Tryz.func119, Tryz.ntmps119
  go_wp2
  go_ret
  exact ⟨rfl, rfl⟩

theorem test_bit0 (S n : Nat) (h : S < 9223372036854775808) : (bits .and .i64 ((S : Int) / 2 ^ n) 1 == 0) = !S.testBit n := by
  have hd : (S : Int) / 2 ^ n = ((S / 2 ^ n : Nat) : Int) := by simp
  have hle : S / 2 ^ n ≤ S := Nat.div_le_self _ _
  rw [hd, Nat.testBit_eq_decide_div_mod_eq]
  generalize S / 2 ^ n = z at hle
  rw [and_1 _ (by omega) (by omega), Bool.eq_iff_iff]
  simp only [beq_iff_eq, Bool.not_eq_true', decide_eq_false_iff_not]
  omega

/-- the states that a class steps from, of the first k -/
def stepsOf (l : List N.Item) (S : Nat) (c : Int) (k : Nat) : List Nat := (List.range k).filter (N.goes l S c)
theorem stepsOf_yes {l : List N.Item} {S : Nat} {c : Int} {k : Nat} (h : N.goes l S c k = true) : stepsOf l S c (k + 1) = stepsOf l S c k ++ [k] := by
  unfold stepsOf; rw [List.range_succ, List.filter_append]; simp [h]
theorem stepsOf_no {l : List N.Item} {S : Nat} {c : Int} {k : Nat} (h : N.goes l S c k = false) : stepsOf l S c (k + 1) = stepsOf l S c k := by
  unfold stepsOf; rw [List.range_succ, List.filter_append]; simp [h]
theorem fill_steps (l : List N.Item) (S : Nat) (c : Int) (a : Nat) : ∀ k, N.fill l S c a k = (stepsOf l S c k).foldl (fun out n => out ||| N.clo l (N.goto l n)) a
  | 0 => rfl
  | k + 1 => by
    rw [N.fill_succ, fill_steps l S c a k]
    cases h : N.goes l S c k with
    | true => rw [if_pos rfl, stepsOf_yes h, List.foldl_append]; rfl
    | false => rw [if_neg (by simp), stepsOf_no h]

theorem quiet_left {P : Program} {f : FuncId} {args : Array Value} {w : World} {n : Nat} {v : Value}
    (h : Calls P f args (w.drewN n) fun e w' => e = .returned v ∧ w.drewN n = w') : Calls P f args (w.drewN n) fun e w'' => e = .returned v ∧ ∃ m, w'' = w.drewN m :=
  h.mono fun _ _ ⟨he, hm⟩ => ⟨he, n, hm.symm⟩
theorem right_item {l : List N.Item} (h : rightB l = true) {i : Nat} {x : N.Item} (hx : l[i]? = some x) : 0 ≤ x.2 ∧ x.2 ≤ 2 := by
  unfold rightB at h
  rw [Bool.and_eq_true, List.all_eq_true] at h
  have := h.2 x (List.mem_of_getElem? hx)
  unfold itemB at this
  simp only [Bool.and_eq_true, decide_eq_true_eq] at this
  exact ⟨this.1.2, this.2⟩

def keepOf (W0 : World) (Br Bs Bc : Nat) (k : Nat) : Prop := k < W0.heap.size ∨ k = Br ∨ k = Bs ∨ k = Bc

set_option maxHeartbeats 4000000 in
theorem states1_iter (n : Nat) (W0 : World) (r m : Nat) (st : Bool) (v : Value) (li : List N.Item) (hR : Rn W0 r m st v li) (S : Nat) (hS : S < 4611686018427387904) (c : Int) (Br Bs Bc : Nat) (l : Nat) (W1 : World)
    (hA : Agree W0 W1) (hr : Blk W1 Br 146 #[.pointer (some ⟨r, 0, none⟩)]) (hs : Blk W1 Bs 2 #[.int .i64 S]) (hc : Blk W1 Bc 3 #[.int .i64 c]) :
    IterC (n + 1) Tryz.prog 133 #[.pointer (some ⟨Br, 0, none⟩), .pointer (some ⟨Bs, 0, none⟩), .pointer (some ⟨Bc, 0, none⟩)] (fun x : Nat => #[.int .i64 x, .int .i64 (N.goto li x)]) (fun _ => False) (keepOf W0 Br Bs Bc) (fun _ x => x < 2 * li.length)
      (fun xs _ => xs = stepsOf li S c (2 * li.length)) l W1 := by
  intro J Jx hJ hJx hY h0
  have HY := Box.mk hY
  have HJ := Box.mk hJ
  clear hY hJ
  have HR := Box.mk hR
  have hlen := hR.len
  obtain ⟨ao, cap, rfl⟩ := hR.items.slice
  clear hR
  have c1 : W1.cell? ⟨Br, 0, none⟩ = some (.pointer (some ⟨r, 0, none⟩)) := (hr.cell 0).trans rfl
  have c2 : W1.cell? ⟨r, 1, none⟩ = some (.slice ao li.length cap) := ((HR.out.agree hA).blk.cell 1).trans rfl
  refine callsIn_of_wp Tryz.func133 rfl trivial ?_
  simp only [Tryz.ntmps133, List.size_toArray, List.length_cons, List.length_nil, Nat.reduceAdd, Nat.reduceSub, Array.replicate_succ, Array.replicate_zero, List.push_toArray, List.append_toArray, List.nil_append, List.cons_append]
  gi_wp2
  refine wpIn_wide.2 (wp_scope_straight ((wpIn_wide (n := n + 1)).1 ?_))
  gi_wp2
  refine wpIn_label ?_
  gi_wp2
  clear c1 c2
  gi_loopw [15] (fun i wr => ∃ k : Nat, k ≤ 2 * li.length ∧ i = .int .i64 k ∧ Box (Agree W0 wr) ∧ Box (Blk wr Br 146 #[.pointer (some ⟨r, 0, none⟩)]) ∧ Box (Blk wr Bs 2 #[.int .i64 S]) ∧ Box (Blk wr Bc 3 #[.int .i64 c]) ∧ J (stepsOf li S c k) wr)
    (fun i _ => 2 * li.length - (intOf i).toNat)
  case atStart => exact ⟨0, by omega, rfl, ⟨hA⟩, ⟨hr⟩, ⟨hs⟩, ⟨hc⟩, h0⟩
  case round =>
    obtain ⟨k, hk, rfl, ha, hbr, hbs, hbc, hj⟩ := hrel
    have HJr := Box.mk hj
    clear hj hA hr hs hc h0
    by_cases hlt : k < 2 * li.length
    · obtain ⟨x, hx⟩ : ∃ x, li[k / 2]? = some x := ⟨_, List.getElem?_eq_getElem (by omega)⟩
      have HRr := Box.mk (HR.out.agree ha.out)
      have c1 : wr.cell? ⟨Br, 0, none⟩ = some (.pointer (some ⟨r, 0, none⟩)) := (hbr.out.cell 0).trans rfl
      have c2 : wr.cell? ⟨r, 1, none⟩ = some (.slice ao li.length cap) := (HRr.out.blk.cell 1).trans rfl
      have c3 : wr.cell? ⟨Bs, 0, none⟩ = some (.int .i64 S) := (hbs.out.cell 0).trans rfl
      have c4 : wr.cell? ⟨Bc, 0, none⟩ = some (.int .i64 c) := (hbc.out.cell 0).trans rfl
      have c5 : wr.cell? ⟨r, 2, none⟩ = some (.map (some m)) := (HRr.out.blk.cell 2).trans rfl
      have l1 := hbr.out.lt
      have l2 := hbs.out.lt
      have l3 := hbc.out.lt
      have l4 := HRr.out.blk.lt
      obtain ⟨g, off, cap2, hg1, hg2, hg3, hg4, hg5⟩ := HRr.out.items.get (by rintro rfl; simp at hlt)
      obtain ⟨rfl, rfl⟩ : ao = some ⟨g, off, none⟩ ∧ cap = cap2 := by injection hg1 with h1 h2 h3; exact ⟨h1, h3⟩
      obtain ⟨hc1, hc2⟩ := hg5 _ x hx
      obtain ⟨hw0, hw1⟩ := right_item HRr.out.right hx
      have HH := Box.mk (show N.howAt li (k / 2) = x.2 ∧ N.setAt li (k / 2) = x.1 by unfold N.howAt N.setAt; simp [List.getD, hx])
      unfold maxLen at hg3
      have hlt2 : k / 2 < li.length := by omega
      have HN := Box.mk (show ∀ W2, Turns (fun _ => False) wr W2 → N.goes li S c k = false → ∃ k' : Nat, k' ≤ 2 * li.length ∧ Value.int .i64 ((k : Int) + 1) = .int .i64 k' ∧ Box (Agree W0 W2) ∧ Box (Blk W2 Br 146 #[.pointer (some ⟨r, 0, none⟩)]) ∧ Box (Blk W2 Bs 2 #[.int .i64 S]) ∧ Box (Blk W2 Bc 3 #[.int .i64 c]) ∧ J (stepsOf li S c k') W2 from fun W2 ht hg =>
        ⟨k + 1, hlt, by go_num, ⟨ha.out.turns ht (fun _ h => h.elim)⟩, ⟨ht.blk hbr.out (fun h => h)⟩, ⟨ht.blk hbs.out (fun h => h)⟩, ⟨ht.blk hbc.out (fun h => h)⟩, by rw [stepsOf_no hg]; exact HJ.out _ _ _ HJr.out ht⟩)
      have HTA := Box.mk (fun o => Turns.alloc (own := fun _ => False) wr o)
      obtain ⟨set, how⟩ := x
      clear hx hg1 hg5
      have hb0 := test_bit0 S k (by omega)
      cases hbit : S.testBit k with
      | false =>
        have HG := Box.mk (show N.goes li S c k = false by unfold N.goes; rw [hbit]; rfl)
        rw [hbit] at hb0
        simp only [Bool.not_false] at hb0
        clear hbit
        gi_wp2
        refine ⟨trivial, ?_⟩
        gi_wp2
        go_roundw
        case rel => exact HN.out _ (HTA.out _) HG.out
        case measure => simp [intOf]; omega
      | true =>
        rw [hbit] at hb0
        simp only [Bool.not_true] at hb0
        cases hhas : N.hasC set c with
        | false =>
          have HG := Box.mk (show N.goes li S c k = false by unfold N.goes; rw [hbit, HH.out.2, hhas]; rfl)
          have HHAS := Box.mk hhas
          clear hbit hhas
          gi_wp2
          refine ⟨trivial, ((callsIn_wide (n := n)).2 (chas_any set c _)).mono ?_⟩; rintro e w1 ⟨rfl, rfl⟩; rw [HHAS.out]
          gi_wp2
          go_roundw
          case rel => exact HN.out _ (HTA.out _) HG.out
          case measure => simp [intOf]; omega
        | true =>
          have HG := Box.mk (show N.goes li S c k = true by unfold N.goes; rw [hbit, HH.out.2, hhas]; rfl)
          have HHAS := Box.mk hhas
          clear hbit hhas HN
          have HYW := Box.mk (fun W2 (ht : Turns (fun _ => False) wr W2) => HY.out (stepsOf li S c k) k W2 (HJ.out _ _ _ HJr.out ht) hlt)
          have HEND := Box.mk (show ∀ W2 W3, Turns (fun _ => False) wr W2 → J (stepsOf li S c k ++ [k]) W3 → Holds (keepOf W0 Br Bs Bc) W2 W3 → ∃ k' : Nat, k' ≤ 2 * li.length ∧ Value.int .i64 ((k : Int) + 1) = .int .i64 k' ∧ Box (Agree W0 W3) ∧ Box (Blk W3 Br 146 #[.pointer (some ⟨r, 0, none⟩)]) ∧ Box (Blk W3 Bs 2 #[.int .i64 S]) ∧ Box (Blk W3 Bc 3 #[.int .i64 c]) ∧ J (stepsOf li S c k') W3 from fun W2 W3 ht hj hh =>
            ⟨k + 1, hlt, by go_num, ⟨(ha.out.turns ht (fun _ h => h.elim)).holds hh (fun _ h => .inl h)⟩, ⟨(hh.block _ (.inr (.inl rfl))).trans (ht.blk hbr.out (fun h => h))⟩, ⟨(hh.block _ (.inr (.inr (.inl rfl)))).trans (ht.blk hbs.out (fun h => h))⟩, ⟨(hh.block _ (.inr (.inr (.inr rfl)))).trans (ht.blk hbc.out (fun h => h))⟩, by rw [stepsOf_yes HG.out]; exact hj⟩)
          by_cases hodd : k % 2 = 1
          · have t1 : ((k : Int) % 2 == 0) = false := by rw [beq_eq_false_iff_ne]; omega
            have HGO := Box.mk (show ((N.goto li k : Nat) : Int) = (k : Int) - 1 by unfold N.goto; rw [if_pos hodd]; omega)
            have hy0 := HYW.out _ (HTA.out (.cells #[.int .i64 set, .int .i64 how] 52))
            simp only [HGO.out] at hy0
            obtain ⟨fn, tmps, assign, body, hy, hRd⟩ := hy0
            have HRD := Box.mk hRd
            have k1 : 1 ≤ k := by omega
            clear hRd hodd
            gi_wp2
            refine ⟨trivial, ((callsIn_wide (n := n)).2 (chas_any set c _)).mono ?_⟩; rintro e w1 ⟨rfl, rfl⟩; rw [HHAS.out]
            gi_wp2
            have HTD := Box.mk (fun (_ : Unit) => HTA.out (.cells #[.int .i64 set, .int .i64 how] 52))
            refine HRD.out.mono ?_
            rintro e W3 (⟨rfl, hj3, hk3⟩ | ⟨rfl, hx3⟩)
            · have HR3 := Box.mk (HEND.out _ _ (HTD.out ()) hj3 hk3)
              clear hj3 hk3
              gi_wp2
              go_roundw
              case rel => exact HR3.out
              case measure => simp [intOf]; omega
            · gi_wp2
              rw [Exit.noGoto_normal]
              go_end0
              exact ⟨⟨_, rfl⟩, .inr ⟨_, hx3⟩⟩
          · have t1 : ((k : Int) % 2 == 0) = true := by rw [beq_iff_eq]; omega
            have HM := Box.mk (show ∀ o nd, ((wr.alloc o).drewN nd).heap[m]? = some (.map #[how1, how2, how3] 3) from fun o nd => (Below.heap_alloc _ _ _ (Array.getElem?_eq_some_iff.1 HRr.out.how).1).trans HRr.out.how)
            have hk1000 : k ≤ 1000 := by omega
            rcases (show how = 0 ∨ how = 1 ∨ how = 2 by omega) with rfl | rfl | rfl
            · have hlk := fun nd => map_look1 (P := Tryz.prog) Tryz.underlying172 Tryz.underlying3 ((wr.alloc (.cells #[.int .i64 set, .int .i64 0] 52)).drewN nd) #[how1, how2, how3] 3 0 m (HM.out _ nd) 0 how1.val rfl
              simp only [how1] at hlk
              have HGO := Box.mk (show ((N.goto li k : Nat) : Int) = (k : Int) + 2 by unfold N.goto; rw [if_neg hodd, if_pos HH.out.1]; simp)
              clear hodd
              gi_wp2
              refine ⟨trivial, ((callsIn_wide (n := n)).2 (chas_any set c _)).mono ?_⟩; rintro e w1 ⟨rfl, rfl⟩; rw [HHAS.out]
              gi_wp2
              refine wpIn_wide.2 ?_
              go_quiet ((go_at_call 117; exact quiet_left (how1_any _ _ hk1000)))
              have hy0 := HYW.out ((wr.alloc (.cells #[.int .i64 set, .int .i64 0] 52)).drewN nq) ((HTA.out _).trans (Turns.of_below (below_drewN (Below.refl _ _) nq)))
              simp only [HGO.out] at hy0
              obtain ⟨fn, tmps, assign, body, hy, hRd⟩ := hy0
              have HRD := Box.mk hRd
              clear hRd
              gi_wp2
              refine HRD.out.mono ?_
              rintro e W3 (⟨rfl, hj3, hk3⟩ | ⟨rfl, hx3⟩)
              · have HR3 := Box.mk (HEND.out _ _ ((HTA.out _).trans (Turns.of_below (below_drewN (Below.refl _ _) nq))) hj3 hk3)
                clear hj3 hk3
                gi_wp2
                go_roundw
                case rel => exact HR3.out
                case measure => simp [intOf]; omega
              · gi_wp2
                rw [Exit.noGoto_normal]
                go_end0
                exact ⟨⟨_, rfl⟩, .inr ⟨_, hx3⟩⟩
            · have hlk := fun nd => map_look1 (P := Tryz.prog) Tryz.underlying172 Tryz.underlying3 ((wr.alloc (.cells #[.int .i64 set, .int .i64 1] 52)).drewN nd) #[how1, how2, how3] 3 1 m (HM.out _ nd) 1 how2.val rfl
              simp only [how2] at hlk
              have HGO := Box.mk (show ((N.goto li k : Nat) : Int) = (k : Int) by unfold N.goto; rw [if_neg hodd, if_neg (by rw [HH.out.1]; simp), if_pos HH.out.1])
              clear hodd
              gi_wp2
              refine ⟨trivial, ((callsIn_wide (n := n)).2 (chas_any set c _)).mono ?_⟩; rintro e w1 ⟨rfl, rfl⟩; rw [HHAS.out]
              gi_wp2
              refine wpIn_wide.2 ?_
              go_quiet ((go_at_call 118; exact quiet_left (how2_any _ _)))
              have hy0 := HYW.out ((wr.alloc (.cells #[.int .i64 set, .int .i64 1] 52)).drewN nq) ((HTA.out _).trans (Turns.of_below (below_drewN (Below.refl _ _) nq)))
              simp only [HGO.out] at hy0
              obtain ⟨fn, tmps, assign, body, hy, hRd⟩ := hy0
              have HRD := Box.mk hRd
              clear hRd
              gi_wp2
              refine HRD.out.mono ?_
              rintro e W3 (⟨rfl, hj3, hk3⟩ | ⟨rfl, hx3⟩)
              · have HR3 := Box.mk (HEND.out _ _ ((HTA.out _).trans (Turns.of_below (below_drewN (Below.refl _ _) nq))) hj3 hk3)
                clear hj3 hk3
                gi_wp2
                go_roundw
                case rel => exact HR3.out
                case measure => simp [intOf]; omega
              · gi_wp2
                rw [Exit.noGoto_normal]
                go_end0
                exact ⟨⟨_, rfl⟩, .inr ⟨_, hx3⟩⟩
            · have hlk := fun nd => map_look1 (P := Tryz.prog) Tryz.underlying172 Tryz.underlying3 ((wr.alloc (.cells #[.int .i64 set, .int .i64 2] 52)).drewN nd) #[how1, how2, how3] 3 2 m (HM.out _ nd) 2 how3.val rfl
              simp only [how3] at hlk
              have HGO := Box.mk (show ((N.goto li k : Nat) : Int) = (k : Int) + 1 by unfold N.goto; rw [if_neg hodd, if_neg (by rw [HH.out.1]; simp), if_neg (by rw [HH.out.1]; simp)]; simp)
              clear hodd
              gi_wp2
              refine ⟨trivial, ((callsIn_wide (n := n)).2 (chas_any set c _)).mono ?_⟩; rintro e w1 ⟨rfl, rfl⟩; rw [HHAS.out]
              gi_wp2
              refine wpIn_wide.2 ?_
              go_quiet ((go_at_call 119; exact quiet_left (how3_any _ _ hk1000)))
              have hy0 := HYW.out ((wr.alloc (.cells #[.int .i64 set, .int .i64 2] 52)).drewN nq) ((HTA.out _).trans (Turns.of_below (below_drewN (Below.refl _ _) nq)))
              simp only [HGO.out] at hy0
              obtain ⟨fn, tmps, assign, body, hy, hRd⟩ := hy0
              have HRD := Box.mk hRd
              clear hRd
              gi_wp2
              refine HRD.out.mono ?_
              rintro e W3 (⟨rfl, hj3, hk3⟩ | ⟨rfl, hx3⟩)
              · have HR3 := Box.mk (HEND.out _ _ ((HTA.out _).trans (Turns.of_below (below_drewN (Below.refl _ _) nq))) hj3 hk3)
                clear hj3 hk3
                gi_wp2
                go_roundw
                case rel => exact HR3.out
                case measure => simp [intOf]; omega
              · gi_wp2
                rw [Exit.noGoto_normal]
                go_end0
                exact ⟨⟨_, rfl⟩, .inr ⟨_, hx3⟩⟩
    · obtain rfl : k = 2 * li.length := by omega
      gi_wp2
      rw [Exit.noGoto_normal]
      go_end0
      exact ⟨⟨_, rfl⟩, .inl ⟨_, rfl, HJr.out⟩⟩
end Go.Proofs.YtbpcipobdokcfaaGreatDoor
