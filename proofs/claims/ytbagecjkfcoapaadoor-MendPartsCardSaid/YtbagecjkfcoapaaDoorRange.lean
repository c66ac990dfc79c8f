/-
  A RANGE OVER A FUNCTION: one law for the caller, one form of contract for the iterator. The iterator may keep a state of its own in blocks of its own ('own'); the caller's invariant abides what it does there; the rounds leave those blocks alone.
-/
import Derived.Test.YtbagecjkfcoapaaDoorBase
import Derived.RangeFuncNested
import Derived.RangeFuncBound
import Derived.RangeFuncCalls
import Derived.RangeFuncLeaves
import Derived.OwnWalkIn
import Derived.TacticsInMore
import Derived.LoopNIn
import Derived.LoopIn
namespace Go.Proofs.YtbagecjkfcoapaaDoor
open Go.RowKit

/-- new blocks, and writes to the blocks of one kind -/
structure Turns (own : Nat → Prop) (W W' : World) : Prop where
  os : W'.os = W.os
  tape : W'.tape = W.tape
  output : W'.output = W.output
  size : W.heap.size ≤ W'.heap.size
  block : ∀ k, k < W.heap.size → ¬ own k → W'.heap[k]? = W.heap[k]?
/-- the blocks of one kind lie as they lay -/
structure Holds (own : Nat → Prop) (W W' : World) : Prop where
  size : W.heap.size ≤ W'.heap.size
  block : ∀ k, own k → W'.heap[k]? = W.heap[k]?
section
variable {own own' : Nat → Prop} {A B C : World}
theorem Turns.refl (own : Nat → Prop) (A : World) : Turns own A A := ⟨rfl, rfl, rfl, Nat.le_refl _, fun _ _ _ => rfl⟩
theorem Turns.trans (h : Turns own A B) (k : Turns own B C) : Turns own A C :=
  ⟨k.os.trans h.os, k.tape.trans h.tape, k.output.trans h.output, Nat.le_trans h.size k.size, fun i hi ho => (k.block i (Nat.lt_of_lt_of_le hi h.size) ho).trans (h.block i hi ho)⟩
theorem Turns.mono (h : Turns own A B) (hm : ∀ k, own k → own' k) : Turns own' A B := ⟨h.os, h.tape, h.output, h.size, fun i hi ho => h.block i hi (fun k => ho (hm i k))⟩
theorem Turns.of_below (h : Below A.heap.size A B) : Turns own A B := ⟨h.os, h.tape, h.output, h.size, fun i hi _ => h.block i hi⟩
theorem Turns.of_only {b : Nat} (h : A.grownBy B (some b)) (hb : own b) : Turns own A B :=
  ⟨h.os, h.tape, h.output, h.size, fun i hi ho => h.block i hi (fun e => ho (by cases e; exact hb))⟩
theorem Turns.drew (A : World) : Turns own A A.drew := ⟨rfl, rfl, rfl, Nat.le_refl _, fun _ _ _ => rfl⟩
theorem Turns.alloc (A : World) (o : Obj) : Turns own A (A.alloc o) := .of_below ((Below.refl _ _).alloc (Nat.le_refl _) o)
theorem Turns.setCell (A : World) {p : Addr} (hp : own p.block) (u : Value) : Turns own A (A.setCell p u) :=
  ⟨rfl, rfl, rfl, by simp [World.setCell], fun k _ ho => Below.heap_setCell _ _ _ _ (fun e => ho (by rw [e]; exact hp))⟩
theorem Turns.putObj (A : World) {l : Nat} (hl : own l) (o : Obj) : Turns own A (A.putObj l o) :=
  ⟨rfl, rfl, rfl, by simp, fun k _ ho => World.putObj_heap_other (fun e => ho (by rw [e]; exact hl))⟩
theorem Turns.below (h : Turns own A B) {n : Nat} (hn : n ≤ A.heap.size) (ho : ∀ k, own k → n ≤ k) : Below n A B :=
  ⟨h.os, h.tape, h.output, h.size, fun k hk => h.block k (by omega) (fun e => by have := ho k e; omega)⟩
theorem Turns.blk (h : Turns own A B) {g : Nat} {t : TypeId} {cs : Array Value} (hb : Blk A g t cs) (hg : ¬ own g) : Blk B g t cs := (h.block g hb.lt hg).trans hb
theorem Turns.cell (h : Turns own A B) {p : Addr} {v : Value} (hp : A.cell? p = some v) (hg : ¬ own p.block) : B.cell? p = some v :=
  (World.cell?_of_block (h.block p.block (World.block_lt_of_cell? A p hp) hg)).trans hp
theorem Turns.row (h : Turns own A B) {base : Nat} {e : TypeId} {size : Nat} {v : Value} {n : Nat} {xs : List Value} (hr : A.ownsRow base e size v n xs) (hg : ∀ k, v.ownBlock = some k → ¬ own k) : B.ownsRow base e size v n xs := by
  refine ⟨hr.1, ?_⟩
  rcases hr.2 with hn | ⟨g, cap, cur, rfl, hb, hgg, rest⟩
  · exact .inl hn
  · exact .inr ⟨g, cap, cur, rfl, hb, (h.block g (Array.getElem?_eq_some_iff.1 hgg).1 (hg g rfl)).trans hgg, rest⟩
theorem Holds.refl (own : Nat → Prop) (A : World) : Holds own A A := ⟨Nat.le_refl _, fun _ _ => rfl⟩
theorem Holds.trans (h : Holds own A B) (k : Holds own B C) : Holds own A C := ⟨Nat.le_trans h.size k.size, fun i hi => (k.block i hi).trans (h.block i hi)⟩
theorem Holds.mono (h : Holds own A B) (hm : ∀ k, own' k → own k) : Holds own' A B := ⟨h.size, fun i hi => h.block i (hm i hi)⟩
theorem Holds.of_turns (h : Turns own' A B) (hl : ∀ k, own k → k < A.heap.size) (hd : ∀ k, own k → ¬ own' k) : Holds own A B := ⟨h.size, fun k hk => h.block k (hl k hk) (hd k hk)⟩
end

/-- WHAT AN ITERATOR's CLOSURE PROMISES, the record's number being l: whatever the caller keeps (J) that abides its turns, each round at what comes next: all have come (S), or a round has said that no more is wanted. -/
def IterC {α : Type} (n : Nat) (P : Program) (gf : Nat) (lb : Array Value) (encs : α → Array Value) (own keep : Nat → Prop) (ok : List α → α → Prop) (S : List α → World → Prop) (l : Nat) (W1 : World) : Prop :=
  ∀ (J Jx : List α → World → Prop), (∀ pre W W', J pre W → Turns own W W' → J pre W') → (∀ pre W W', Jx pre W → Turns own W W' → Jx pre W') →
    (∀ pre x W, J pre W → ok pre x → YieldAt Fence.wide (n - 1) P l (encs x) W fun e W' => (e = .returned (.bool true) ∧ J (pre ++ [x]) W' ∧ Holds keep W W') ∨ (e = .returned (.bool false) ∧ Jx (pre ++ [x]) W')) →
    J [] W1 → CallsIn Fence.wide n P gf (#[.func (.yield l) #[] #[]] ++ lb) W1 fun e W' => (∃ v, e = .returned v) ∧ ((∃ xs, S xs W' ∧ J xs W') ∨ (∃ pre, Jx pre W'))

/-- how a round's body may be left -/
def roundP {α : Type} (keep : Nat → Prop) (I : List α → World → Prop) (Ix : Code → List α → World → Prop) (l D : Nat) (xs : List α) (W : World) : Exit → Act → World → Prop
  | .normal, _, W' => Holds (fun k => keep k ∨ k = l ∨ k = D) W W' ∧ I xs W'
  | .ret, _, W' => Holds (fun k => k = l ∨ k = D) W W' ∧ Ix .ret xs W'
  | .exit id, _, W' => Holds (fun k => k = l ∨ k = D) W W' ∧ Ix (.exit id) xs W'
  | .goto t, _, W' => Holds (fun k => k = l ∨ k = D) W W' ∧ Ix (.goto t) xs W'
  | .panic _, _, _ => False
  | .outgrown, _, _ => False

/-- **THE STATEMENT** -/
theorem range_law {α : Type} {P : Program} {n : Nat} {g : Operand} {ps : Array Tmp} {assign body : Code} {Q : Exit → Act → World → Prop} {a : Act} {w : World}
    {gf : Nat} {lb : Array Value} (hg : a.eval g = .func (.func gf) #[] lb) (eg : ∀ args w, (callFunc gf args).run P w = .ok (.enter gf args) w)
    {encs : α → Array Value} {own keep : Nat → Prop} {ok : List α → α → Prop} {S : List α → World → Prop} (hown : ∀ k, own k ∨ keep k → k < w.heap.size)
    (hit : ∀ W1, Turns (fun _ => False) w W1 → IterC (n - 1) P gf lb encs own keep ok S (w.heap.size + 1) W1)
    (hps : ∀ x, (encs x).size = ps.size)
    (I : List α → World → Prop) (Ix : Code → List α → World → Prop)
    (hI : ∀ pre W W', I pre W → Turns (fun k => own k ∨ k = w.heap.size + 1) W W' → I pre W')
    (hIx : ∀ c pre W W', Ix c pre W → Turns (fun k => own k ∨ k = w.heap.size + 1) W W' → Ix c pre W')
    (h0 : I [] w) (Ax : α → Act → World → Prop) (hAx : ∀ x a1 W W', Ax x a1 W → Turns (fun k => k = w.heap.size + 1) W W' → Ax x a1 W')
    (hassign : ∀ (x : α) (W : World) (K : Act → World → Prop), w.heap.size + 2 ≤ W.heap.size → (∀ a1 W1, Turns (fun _ => False) W W1 → Ax x a1 W1 → K a1 W1) →
      assign.wpIn (Fence.wide.inRound (w.heap.size + 1)) (n - 1 - 1) P (Exit.then K (fun _ _ _ => False)) { tmps := (ps.zip (encs x)).foldl (fun t (p, v) => t.setIfInBounds p v) a.tmps, defers := [] } W)
    (hbody : ∀ (pre : List α) (x : α) (a1 : Act) (W : World), w.heap.size + 2 ≤ W.heap.size → I pre W → ok pre x → Ax x a1 W →
      body.wpIn (Fence.wide.inRound (w.heap.size + 1)) (n - 1 - 1) P (roundP keep I Ix (w.heap.size + 1) w.heap.size (pre ++ [x]) W) a1 W)
    (hdone : ∀ (xs : List α) (W : World), w.heap.size + 2 ≤ W.heap.size → S xs W → I xs W → W.heap[w.heap.size]? = some (.deferred (some [])) → Q .normal { a with defers := { target := .collected w.heap.size, args := #[] } :: a.defers } W)
    (hstop : ∀ (c : Code) (pre : List α) (W : World), w.heap.size + 2 ≤ W.heap.size → Ix c pre W → W.heap[w.heap.size]? = some (.deferred (some [])) → c.wpIn Fence.wide n P Q { a with defers := { target := .collected w.heap.size, args := #[] } :: a.defers } W)
    (hS : ∀ xs W W', S xs W → Turns (fun k => k = w.heap.size + 1) W W' → S xs W') :
    (Code.rangeFunc g ps assign body).wpIn Fence.wide n P Q a w := by
  refine wpIn_rangeFunc ?_
  intro fn hfn
  obtain ⟨rec, hrec⟩ : ∃ rec : LoopState → Option Code → Loop, rec = fun st pe => { state := st, pending := pe, fn, tmps := a.tmps, params := ps, assign, body, defers := w.heap.size } := ⟨_, rfl⟩
  obtain ⟨W1, hW1⟩ : ∃ W1, (w.alloc (.deferred (some []))).alloc (.loop (rec .ready none)) = W1 := ⟨_, rfl⟩
  have hL1 : W1.heap[w.heap.size + 1]? = some (.loop (rec .ready none)) := by
    rw [← hW1]; have := World.alloc_heap_new (w.alloc (.deferred (some []))) (.loop (rec .ready none)); rwa [World.size_alloc] at this
  have hK1 : W1.heap[w.heap.size]? = some (.deferred (some [])) := by
    rw [← hW1]; exact (Below.heap_alloc _ _ _ (by simp)).trans (World.alloc_heap_new w _)
  have hT1 : ∀ o, Turns o w W1 := fun o => by rw [← hW1]; exact (Turns.alloc w _).trans (Turns.alloc _ _)
  have hI1 : I [] W1 := hI _ _ _ h0 (hT1 _)
  refine ⟨w.heap.size + 1, [{ target := .collected w.heap.size, args := #[] }], W1, { target := .fn (.func gf) lb, args := #[.func (.yield (w.heap.size + 1)) #[] #[]] }, W1, gf,
    #[.func (.yield (w.heap.size + 1)) #[] #[]] ++ lb, W1, ?_, ?_, ?_, ?_, fun h => by simp [Fence.wide] at h, ?_⟩
  · rw [← hW1, hrec]; exact run_enterLoop_outer _ _ _ _ _
  · simp only [resolve, hg]
    simp [go_sem]
  · intro f' _; trivial
  · simp [invoke, go_sem, eg]
  · have hnl : ¬ own (w.heap.size + 1) := fun h => by have := hown _ (.inl h); omega
    have hnd : ¬ own w.heap.size := fun h => by have := hown _ (.inl h); omega
    refine (hit W1 (hT1 _)
      (fun pre W => I pre W ∧ W.heap[w.heap.size + 1]? = some (.loop (rec .ready none)) ∧ W.heap[w.heap.size]? = some (.deferred (some [])))
      (fun pre W => ∃ c, Ix c pre W ∧ W.heap[w.heap.size + 1]? = some (.loop (rec .done (some c))) ∧ W.heap[w.heap.size]? = some (.deferred (some [])))
      ?_ ?_ ?_ ⟨hI1, hL1, hK1⟩).mono ?_
    · rintro pre W W' ⟨hi, hl, hk⟩ ht
      exact ⟨hI _ _ _ hi (ht.mono fun k => .inl), (ht.block _ (Array.getElem?_eq_some_iff.1 hl).1 hnl).trans hl, (ht.block _ (Array.getElem?_eq_some_iff.1 hk).1 hnd).trans hk⟩
    · rintro pre W W' ⟨c, hi, hl, hk⟩ ht
      exact ⟨c, hIx _ _ _ _ hi (ht.mono fun k => .inl), (ht.block _ (Array.getElem?_eq_some_iff.1 hl).1 hnl).trans hl, (ht.block _ (Array.getElem?_eq_some_iff.1 hk).1 hnd).trans hk⟩
    · -- one round
      rintro pre x W ⟨hi, hl, hk⟩ hok
      have hlt : w.heap.size + 1 < W.heap.size := (Array.getElem?_eq_some_iff.1 hl).1
      have hy := run_yield (P := P) (args := encs x) hl (by rw [hrec]; exact hps x)
      rw [hrec] at hy
      refine ⟨fn, _, assign, body, hy, roundIn_of_wpIn hfn (hassign x W _ (by omega) fun a1 Wa ha hax => ?_)⟩
      have hla : Wa.heap[w.heap.size + 1]? = some (.loop (rec .ready none)) := (ha.block _ hlt (fun h => h)).trans hl
      have hka : Wa.heap[w.heap.size]? = some (.deferred (some [])) := (ha.block _ (by omega) (fun h => h)).trans hk
      have hlta : w.heap.size + 1 < Wa.heap.size := (Array.getElem?_eq_some_iff.1 hla).1
      refine ⟨_, run_beginRound hla (by rw [hrec]), ?_⟩
      obtain ⟨Wb, hWb⟩ : ∃ Wb, Wa.putObj (w.heap.size + 1) (.loop { rec .ready none with state := .busy }) = Wb := ⟨_, rfl⟩
      rw [hWb]
      have htb : ∀ o : Nat → Prop, o (w.heap.size + 1) → Turns o Wa Wb := fun o ho => by rw [← hWb]; exact Turns.putObj _ ho _
      have hlb : Wb.heap[w.heap.size + 1]? = some (.loop { rec .ready none with state := .busy }) := by rw [← hWb]; exact World.putObj_heap_same hlta
      have hkb : Wb.heap[w.heap.size]? = some (.deferred (some [])) := by rw [← hWb]; exact (World.putObj_heap_other (by omega)).trans hka
      have hsb : Wb.heap.size = Wa.heap.size := by rw [← hWb]; simp
      refine wpIn_mono (hbody pre x a1 Wb (by omega) (hI _ _ _ hi ((ha.mono fun _ h => h.elim).trans (htb _ (.inr rfl)))) hok (hAx _ _ _ _ hax (htb _ rfl))) ?_
      have fin : ∀ (jump : Option Code) (W3 : World), Holds (fun k => k = w.heap.size + 1 ∨ k = w.heap.size) Wb W3 →
          (Instr.endRound (w.heap.size + 1) jump).run P W3 = .ok (.bool jump.isNone) (W3.putObj (w.heap.size + 1) (.loop (rec (if jump.isNone then .ready else .done) jump))) ∧
          (W3.putObj (w.heap.size + 1) (.loop (rec (if jump.isNone then .ready else .done) jump))).heap[w.heap.size + 1]? = some (.loop (rec (if jump.isNone then .ready else .done) jump)) ∧
          (W3.putObj (w.heap.size + 1) (.loop (rec (if jump.isNone then .ready else .done) jump))).heap[w.heap.size]? = some (.deferred (some [])) := fun jump W3 hk3 => by
        have hl3 := (hk3.block _ (.inl rfl)).trans hlb
        have := run_endRound (P := P) jump hl3
        rw [hrec] at this ⊢
        exact ⟨this, World.putObj_heap_same (Array.getElem?_eq_some_iff.1 hl3).1, (World.putObj_heap_other (by omega)).trans ((hk3.block _ (.inr rfl)).trans hkb)⟩
      rintro e a3 W3 hp
      cases e with
      | normal =>
        obtain ⟨hh, hi3⟩ := hp
        obtain ⟨hr, hl4, hk4⟩ := fin none W3 (hh.mono fun _ h => .inr h)
        refine ⟨_, _, hr, .inl ⟨rfl, ⟨hI _ _ _ hi3 (Turns.putObj _ (.inr rfl) _), hl4, hk4⟩, ?_⟩⟩
        refine ⟨?_, fun k ho => ?_⟩
        · have := ha.size; have := hh.size; simp; omega
        · have hkw := hown k (.inr ho)
          rw [World.putObj_heap_other (by omega), hh.block k (.inl ho), ← hWb, World.putObj_heap_other (by omega)]
          exact ha.block k (by omega) (fun h => h)
      | ret =>
        obtain ⟨hh, hi3⟩ := hp
        obtain ⟨hr, hl4, hk4⟩ := fin (some .ret) W3 hh
        exact ⟨_, _, hr, .inr ⟨rfl, .ret, hIx _ _ _ _ hi3 (Turns.putObj _ (.inr rfl) _), hl4, hk4⟩⟩
      | exit id =>
        obtain ⟨hh, hi3⟩ := hp
        obtain ⟨hr, hl4, hk4⟩ := fin (some (.exit id)) W3 hh
        exact ⟨_, _, hr, .inr ⟨rfl, .exit id, hIx _ _ _ _ hi3 (Turns.putObj _ (.inr rfl) _), hl4, hk4⟩⟩
      | goto t =>
        obtain ⟨hh, hi3⟩ := hp
        obtain ⟨hr, hl4, hk4⟩ := fin (some (.goto t)) W3 hh
        exact ⟨_, _, hr, .inr ⟨rfl, .goto t, hIx _ _ _ _ hi3 (Turns.putObj _ (.inr rfl) _), hl4, hk4⟩⟩
      | panic ch => exact hp.elim
      | outgrown => exact hp.elim
    · -- behind the iterator
      rintro e W2 ⟨⟨v, rfl⟩, (⟨xs, hSx, hi, hl, hk⟩ | ⟨pre, c, hi, hl, hk⟩)⟩
      · have hlt := (Array.getElem?_eq_some_iff.1 hl).1
        exact ⟨none, _, by have := run_endLoop (P := P) hl (by rw [hrec]; simp); rw [hrec] at this; exact this,
          hdone xs _ (by simp; omega) (hS _ _ _ hSx (Turns.putObj (own := fun k => k = w.heap.size + 1) _ rfl _)) (hI _ _ _ hi (Turns.putObj _ (.inr rfl) _)) ((World.putObj_heap_other (by omega)).trans hk)⟩
      · have hlt := (Array.getElem?_eq_some_iff.1 hl).1
        exact ⟨some c, _, by have := run_endLoop (P := P) hl (by rw [hrec]; simp); rw [hrec] at this; exact this,
          hstop c pre _ (by simp; omega) (hIx _ _ _ _ hi (Turns.putObj _ (.inr rfl) _)) ((World.putObj_heap_other (by omega)).trans hk)⟩
end Go.Proofs.YtbagecjkfcoapaaDoor
