/-
  Texts of this claim, one behind the other: NfaK, NfaL, NfaM, NfaN, NfaO, DfF, Range3, DfI, DfJ, DfK, DfL, DfM, DfN.
-/
import Derived.Test.YtjemdepcaaadiaaGreatDoorH3
import Derived.Deep.AppendLies
import Derived.Deep.RegionLaw
import Derived.Test.YtjemdepcaaadiaaGreatDoorH2
import Derived.Maps.OwnIn

/- THE DOCUMENT's ANSWERS OF LAYER 10: Most, First, Step, Done, Run, Fits. -/
namespace Go.Proofs.YtjemdepcaaadiaaGreatDoor
open Go.RowKit

theorem most_pow (l : List N.Item) : (2 : Int) * ((2 ^ (2 * l.length) : Nat) : Int) - 1 = (N.most l : Int) := by
  unfold N.most
  have h : 2 ^ (2 * l.length + 1) = 2 * 2 ^ (2 * l.length) := by rw [Nat.pow_succ]; omega
  have : 0 < 2 ^ (2 * l.length) := Nat.two_pow_pos _
  rw [h]
  omega

/-- a set that may not be, by the document's three tests -/
theorem setOk_no {l : List N.Item} {x : Int} (hr : rightB l = true) (h : setOk l x = false) : x < 0 ∨ (0 ≤ x ∧ (N.most l : Int) < x) := by
  unfold setOk at h
  rw [hr] at h
  simp at h
  omega
theorem setOk_yes {l : List N.Item} {x : Int} (h : setOk l x = true) : rightB l = true ∧ 0 ≤ x ∧ x ≤ N.most l := by
  unfold setOk at h
  simp only [Bool.and_eq_true, decide_eq_true_eq] at h
  exact ⟨h.1.1, h.1.2, h.2⟩

end Go.Proofs.YtjemdepcaaadiaaGreatDoor

/- THE DOCUMENT's Fits OF LAYER 10; the lists that the laws compare. -/
namespace Go.Proofs.YtjemdepcaaadiaaGreatDoor
open Go.RowKit

end Go.Proofs.YtjemdepcaaadiaaGreatDoor

/- THE LAWS OF LAYER 10, WALKED: lists compared, the first forty numbers, what is shown. -/
namespace Go.Proofs.YtjemdepcaaadiaaGreatDoor
open Go.RowKit

theorem drew_below (w : World) (n : Nat) : Below w.heap.size w (w.drewN n) := below_drewN (Below.refl _ _) n

theorem row_at (xs : List Value) (w : World) (T : TypeId) (i : Nat) (x : Value) (hx : xs[i]? = some x) : (w.alloc (.cells xs.toArray T)).cell? ⟨w.heap.size, i, none⟩ = some x := by
  have := World.cell?_alloc_mark w xs.toArray T (0, 0) i
  rw [this]
  simpa using hx
theorem IntsAt.lit (w : World) (T : TypeId) (xs : List Int) (hz : xs.length ≤ 1000) : IntsAt (w.alloc (.cells (xs.map (Value.int .i64)).toArray T)) (.slice (some ⟨w.heap.size, 0, none⟩) xs.length xs.length) xs :=
  .inr ⟨w.heap.size, 0, none, xs.length, rfl, Nat.le_refl _, by unfold maxLen; omega, fun _ => ⟨rfl, by simp, fun i x hx => by
    rw [Nat.zero_add]; exact row_at _ w T i _ (by rw [List.getElem?_map, hx]; rfl)⟩⟩
theorem BoolsAt.lit (w : World) (T : TypeId) (xs : List Bool) (hz : xs.length ≤ 1000) : BoolsAt (w.alloc (.cells (xs.map Value.bool).toArray T)) (.slice (some ⟨w.heap.size, 0, none⟩) xs.length xs.length) xs :=
  .inr ⟨w.heap.size, 0, none, xs.length, rfl, Nat.le_refl _, by unfold maxLen; omega, fun _ => ⟨rfl, by simp, fun i x hx => by
    rw [Nat.zero_add]; exact row_at _ w T i _ (by rw [List.getElem?_map, hx]; rfl)⟩⟩

/-- the pattern that is shown -/
def shownL : List N.Item := [(1, 0), (2, 1)]
theorem shown_items (w : World) (T : TypeId) : ItemsAt (w.alloc (.cells #[.int .i64 1, .int .i64 0, .int .i64 2, .int .i64 1] T)) (.slice (some ⟨w.heap.size, 0, none⟩) 2 2) shownL := by
  refine .inr ⟨w.heap.size, 0, none, 2, rfl, by decide, by decide, fun _ => ⟨rfl, by simp, fun i x hx => ?_⟩⟩
  have hr := row_at [.int .i64 1, .int .i64 0, .int .i64 2, .int .i64 1] w T
  match i, hx with
  | 0, hx => cases hx; exact ⟨hr 0 _ rfl, hr 1 _ rfl⟩
  | 1, hx => cases hx; exact ⟨hr 2 _ rfl, hr 3 _ rfl⟩
theorem shown_right : rightB shownL = true := by decide +kernel
theorem shown_sets : setsOf shownL false [0, 1] = [1, 21, 21] := by decide +kernel
theorem shown_fits : fitsOf shownL false [0, 1, 0, 5] = [false, true, true, true, false] := by decide +kernel
theorem shown_step : stepV shownL false 32 0 = .tuple #[.int .i64 0, .int .i64 80] := by
  unfold stepV; rw [show setOk shownL 32 = false by decide +kernel]; rfl
theorem shown_most : mostV shownL = 31 := by decide +kernel

/-- where a walk stands: the errors lie where they lay, what was there when it began is as it was -/
structure St (A : Nat → Addr) (B : Nat) (W0 w : World) : Prop where
  e : E A B w
  b : Below W0.heap.size W0 w
  hB : B ≤ W0.heap.size
section
variable {A : Nat → Addr} {B : Nat} {W0 w w' : World}
theorem St.step (h : St A B W0 w) (hb : Below w.heap.size w w') : St A B W0 w' := ⟨h.e.below (hb.mono (Nat.le_trans h.hB h.b.size)), h.b.trans (hb.mono h.b.size), h.hB⟩
theorem St.le (h : St A B W0 w) : B ≤ w.heap.size := Nat.le_trans h.hB h.b.size
theorem St.start (h : E A B w) (hB : B ≤ w.heap.size) : St A B w w := ⟨h, Below.refl _ _, hB⟩
theorem St.alloc (h : St A B W0 w) (o : Obj) : St A B W0 (w.alloc o) := h.step (alloc_below w o)
theorem St.agree (h : St A B W0 w) : Agree W0 w := .of_below h.b
end

end Go.Proofs.YtjemdepcaaadiaaGreatDoor

/- THE LAWS OF LAYER 10, WALKED. -/
namespace Go.Proofs.YtjemdepcaaadiaaGreatDoor
open Go.RowKit

theorem first_pair (l : List N.Item) : ∃ a e, firstV l = .tuple #[.int .i64 a, .int .i64 e] := by
  unfold firstV
  split
  · exact ⟨_, _, rfl⟩
  · exact ⟨_, _, rfl⟩
theorem step_pair (l : List N.Item) (st : Bool) (x c : Int) : ∃ a e, stepV l st x c = .tuple #[.int .i64 a, .int .i64 e] := by
  unfold stepV
  split
  · exact ⟨_, _, rfl⟩
  · exact ⟨_, _, rfl⟩

def codeOf (l : List N.Item) : Int := if rightB l = true then 0 else 80
def setsR (l : List N.Item) (st : Bool) (cs : List Int) : List Int := if rightB l = true then setsOf l st cs else []
def fitsR (l : List N.Item) (st : Bool) (cs : List Int) : List Bool := if rightB l = true then fitsOf l st cs else []
theorem runPost.all {l : List N.Item} {st : Bool} {cs : List Int} {w w' : World} {e : Ending} (h : runPost l st cs w e w') : Below w.heap.size w w' ∧ ∃ v, e = .returned (.tuple #[v, .int .i64 (codeOf l)]) ∧ IntsAt w' v (setsR l st cs) := by
  obtain ⟨hb, hy, hn⟩ := h
  unfold codeOf setsR
  cases hr : rightB l with
  | true => exact ⟨hb, hy hr⟩
  | false => exact ⟨hb, _, hn hr, .nil⟩
theorem fitsPost.all {l : List N.Item} {st : Bool} {cs : List Int} {w w' : World} {e : Ending} (h : fitsPost l st cs w e w') : Below w.heap.size w w' ∧ ∃ v, e = .returned (.tuple #[v, .int .i64 (codeOf l)]) ∧ BoolsAt w' v (fitsR l st cs) := by
  obtain ⟨hb, hy, hn⟩ := h
  unfold codeOf fitsR
  cases hr : rightB l with
  | true => exact ⟨hb, hy hr⟩
  | false => exact ⟨hb, _, hn hr, .inl ⟨rfl, rfl⟩⟩

end Go.Proofs.YtjemdepcaaadiaaGreatDoor

/- THE LAWS OF LAYER 10, WALKED: unions, and where a pattern with Start has fitted. -/
namespace Go.Proofs.YtjemdepcaaadiaaGreatDoor
open Go.RowKit

theorem wf_range {n : Int} (h : (Lit.int .i64 n).wf = true) : -9223372036854775808 ≤ n ∧ n ≤ 9223372036854775807 := by
  simp only [Lit.wf, Bool.and_eq_true, decide_eq_true_eq] at h
  exact h
theorem ofInt_neg (a : Int) (h0 : -9223372036854775808 ≤ a) (h1 : a < 0) : 9223372036854775808 ≤ (BitVec.ofInt 64 a).toNat := by
  rw [BitVec.toNat_ofInt]
  omega
theorem or_nonneg (a b : Int) (ha : -9223372036854775808 ≤ a) (hb : -9223372036854775808 ≤ b) (h : 0 ≤ bits .or .i64 a b) : 0 ≤ a ∧ 0 ≤ b := by
  have key : (BitVec.ofInt 64 a ||| BitVec.ofInt 64 b).toNat < 9223372036854775808 := by
    rcases Nat.lt_or_ge (BitVec.ofInt 64 a ||| BitVec.ofInt 64 b).toNat 9223372036854775808 with h' | h'
    · exact h'
    · exfalso
      have hlt := (BitVec.ofInt 64 a ||| BitVec.ofInt 64 b).isLt
      have h2 : 0 ≤ IntKind.i64.wrap ((BitVec.ofInt 64 a ||| BitVec.ofInt 64 b).toNat : Int) := h
      rw [IntKind.wrap_i64] at h2
      generalize (BitVec.ofInt 64 a ||| BitVec.ofInt 64 b).toNat = z at *
      omega
  rw [BitVec.toNat_or] at key
  constructor
  · rcases Int.lt_or_le a 0 with h' | h'
    · have h1 := ofInt_neg a ha h'
      have h2 : (BitVec.ofInt 64 a).toNat ≤ (BitVec.ofInt 64 a).toNat ||| (BitVec.ofInt 64 b).toNat := Nat.left_le_or
      omega
    · exact h'
  · rcases Int.lt_or_le b 0 with h' | h'
    · have h1 := ofInt_neg b hb h'
      have h2 : (BitVec.ofInt 64 b).toNat ≤ (BitVec.ofInt 64 a).toNat ||| (BitVec.ofInt 64 b).toNat := Nat.right_le_or
      omega
    · exact h'
theorem stepV_no {l : List N.Item} {st : Bool} {x c : Int} (h : setOk l x = false) : stepV l st x c = .tuple #[.int .i64 0, .int .i64 80] := by unfold stepV; rw [h]; rfl
theorem stepV_yes {l : List N.Item} {st : Bool} {x c : Int} (h : setOk l x = true) : stepV l st x c = .tuple #[.int .i64 (N.step l st x.toNat c), .int .i64 0] := by unfold stepV; rw [h]; rfl
theorem setOk_lt {l : List N.Item} {S : Nat} (h : setOk l (S : Int) = true) : S < 2 ^ (2 * l.length + 1) := by
  have h1 := (setOk_yes h).2.2
  unfold N.most at h1
  have : 0 < 2 ^ (2 * l.length + 1) := Nat.two_pow_pos _
  omega
theorem setOk_of_lt {l : List N.Item} {S : Nat} (hr : rightB l = true) (h : S < 2 ^ (2 * l.length + 1)) : setOk l (S : Int) = true := by
  unfold setOk N.most
  rw [hr]
  simp only [Bool.true_and, Bool.and_eq_true, decide_eq_true_eq]
  omega
theorem setOk_or {l : List N.Item} {S T : Nat} (hs : setOk l (S : Int) = true) (ht : setOk l (T : Int) = true) : setOk l ((S ||| T : Nat) : Int) = true :=
  setOk_of_lt (setOk_yes hs).1 (Nat.or_lt_two_pow (setOk_lt hs) (setOk_lt ht))
theorem or_cast {l : List N.Item} (hl : l.length ≤ 10) {S T : Nat} (hs : S < 2 ^ (2 * l.length + 1)) (ht : T < 2 ^ (2 * l.length + 1)) : bits .or .i64 (S : Int) (T : Int) = ((S ||| T : Nat) : Int) := by
  have h1 := lt_62 l hl S hs
  have h2 := lt_62 l hl T ht
  exact i64_or_nat S T (by omega) (by omega)

end Go.Proofs.YtjemdepcaaadiaaGreatDoor

/- THE BUILDER's CLOSURES: a rule's first states, a rule's step; all of them. -/
namespace Go.Proofs.YtjemdepcaaadiaaGreatDoor
open Go.RowKit Go.Shelf
attribute [local go_sem] Oper.semAt_some

set_option maxHeartbeats 1000000 in
theorem first1_any (A : Nat → Addr) (B : Nat) (i : Int) (x : D.Rule) (vl vr : Value) (w : World) (hr : rightB x.1.2 = true) (hl : ItemsAt w vl x.1.2) (hrr : ItemsAt w vr x.2.1.2) (hE : E A B w) (hB : B ≤ w.heap.size) :
    Calls Tryz.prog 50 #[.int .i64 i, ruleV x vl vr] w fun e w' => e = .returned (.int .i64 (N.clo x.1.2 0)) ∧ Below w.heap.size w w' := by
  obtain ⟨⟨stl, il⟩, ⟨str, ir⟩, br⟩ := x
  simp only at hr hl hrr
  unfold ruleV
  have hlen := right_len hr
  have hb0 := alloc_below w (.cells #[.bool stl, vl, .bool str, vr, .bool br] 51)
  have HP := Box.mk (first_any A B stl vl il _ (hl.below hb0) (by omega) (hE.below (hb0.mono hB)) (Nat.le_trans hB hb0.size))
  have HB0 := Box.mk hb0
  have HF := Box.mk (show firstV il = .tuple #[.int .i64 (N.clo il 0), .int .i64 0] by unfold firstV; rw [hr]; rfl)
  clear hb0 hl hrr hE
  go_enter Tryz.func50, Tryz.ntmps50
  go_wp2_with fail
  refine HP.out.mono ?_; rintro e w1 ⟨rfl, hb1⟩; rw [HF.out]
  have HB1 := Box.mk (HB0.out.trans (hb1.mono HB0.out.size))
  clear hb1
  go_wp2_with fail
  go_ret
  exact ⟨rfl, HB1.out⟩

set_option maxHeartbeats 1000000 in
theorem step1_any (A : Nat → Addr) (B : Nat) (i : Nat) (x : D.Rule) (vl vr : Value) (Bl Bn : Nat) (S : D.Sets) (s : Nat) (c : Int) (w : World) (hr : rightB x.1.2 = true) (hl : ItemsAt w vl x.1.2) (hrr : ItemsAt w vr x.2.1.2) (hE : E A B w) (hB : B ≤ w.heap.size)
    (hS : S[i]? = some s) (hs : s < 2 ^ (2 * x.1.2.length + 1)) (hi : i < 40) (hbl : Blk w Bl 92 (keyC S)) (hbn : Blk w Bn 3 #[.int .i64 c]) :
    Calls Tryz.prog 80 #[.int .i64 i, ruleV x vl vr, .pointer (some ⟨Bl, 0, none⟩), .pointer (some ⟨Bn, 0, none⟩)] w fun e w' => e = .returned (.int .i64 (N.step x.1.2 x.1.1 s c)) ∧ Below w.heap.size w w' := by
  obtain ⟨⟨stl, il⟩, ⟨str, ir⟩, br⟩ := x
  simp only at hr hl hrr hs
  unfold ruleV
  have hlen := right_len hr
  have hb0 := alloc_below w (.cells #[.bool stl, vl, .bool str, vr, .bool br] 51)
  have HV := Box.mk (show stepV il stl s c = .tuple #[.int .i64 (N.step il stl s c), .int .i64 0] by rw [stepV_yes (setOk_of_lt hr hs), Int.toNat_natCast])
  have HST := Box.mk (fun W (h : Below w.heap.size w W) => pstep_any A B stl vl il s c W (hl.below h) (by omega) (hE.below (h.mono hB)) (Nat.le_trans hB h.size))
  have HB0 := Box.mk hb0
  have c1 : w.cell? ⟨Bl, i, none⟩ = some (.int .i64 s) := (hbl.cell i).trans (keyC_get S i s hS)
  have c2 : w.cell? ⟨Bn, 0, none⟩ = some (.int .i64 c) := (hbn.cell 0).trans rfl
  have l1 := hbl.lt
  have l2 := hbn.lt
  clear hb0 hl hrr hE hS hs hbl hbn hr
  go_enter Tryz.func80, Tryz.ntmps80
  go_wp2_with fail
  go_region_with ((go_at_call 81; refine (HST.out _ ?_).mono ?_; exact below_drewN HB0.out _; rintro e w3 ⟨rfl, hb3⟩; rw [HV.out]; have HB3 := Box.mk (HB0.out.trans (show Below w.heap.size (w.alloc (.cells #[.bool stl, vl, .bool str, vr, .bool br] 51)) w3 from (Below.mono ⟨hb3.os, hb3.tape, hb3.output, hb3.size, hb3.block⟩ (by simp)))); clear hb3))
  all_goals
    go_wp2_with fail
    go_ret
    exact ⟨rfl, HB3.out⟩
end Go.Proofs.YtjemdepcaaadiaaGreatDoor

/- A RANGE OVER A FUNCTION (XRange2), where the iterator reads blocks between the rounds that the rounds may turn: of them the caller's invariant says enough (G). -/
namespace Go.Proofs.YtjemdepcaaadiaaGreatDoor
open Go.RowKit

section
variable {F : Fence} {nF : Nat} {P : Program} {ops : Array Oper} {rest : List Oper} {o : Oper} {a : Act} {w : World} {Q : Exit → Act → World → Prop}
theorem wpListIn_load_row (hgd : o.guard = none) (ty : TypeId) (x : Operand) (ho : o.op = .load ty x)
    (g : Nat) (hx : a.eval x = .pointer (some ⟨g, 0, none⟩)) (t : TypeId) (cs : Array Value) (fr : Nat × Nat) (d : TypeDesc) (hg : w.heap[g]? = some (.cells cs t fr))
    (hu : P.underlying ty = some d) (hd : (match d with | .struct _ | .array _ _ => true | _ => false) = true) (hi : (P.info? ty).map (·.size) = some cs.size)
    (h : wpListIn F nF P ops Q rest (a.put o.dst (.agg cs)) w) : wpListIn F nF P ops Q (o :: rest) a w := by
  refine wpListIn_plain hgd fun K hK => ?_
  unfold Oper.wpIn
  refine ⟨by simp [Oper.about, ho], ?_⟩
  rw [Oper.semAt_plain F _ _ (by rw [ho]; intro c hc'; cases hc')]
  simp only [execOp, ho, hx, Instr.loadAt, Instr.sureAddr, Sem.run_bind, Sem.run_pure, Result.andThen_ok, run_loadVar_row w g t ty cs fr d hg hu hd hi]
  exact hK _ _ h
theorem wpListIn_store_row (hgd : o.guard = none) (ty : TypeId) (x y : Operand) (ho : o.op = .store ty x y)
    (g : Nat) (cells : Array Value) (hx : a.eval x = .pointer (some ⟨g, 0, none⟩)) (hy : a.eval y = .agg cells)
    (t : TypeId) (old : Array Value) (hg : w.heap[g]? = some (.cells old t (0, 0))) (hi : (P.info? ty).map (·.size) = some cells.size)
    (hold : old.size = cells.size) (h1 : cells.all (·.oneCell') = true)
    (h : wpListIn F nF P ops Q rest (a.put o.dst undef) (w.setRow g cells)) : wpListIn F nF P ops Q (o :: rest) a w := by
  refine wpListIn_plain hgd fun K hK => ?_
  unfold Oper.wpIn
  refine ⟨by simp [Oper.about, ho], ?_⟩
  rw [Oper.semAt_plain F _ _ (by rw [ho]; intro c hc'; cases hc')]
  simp only [execOp, ho, hx, hy, Instr.storeAt, Instr.sureAddr, Sem.run_bind, Sem.run_pure, Result.andThen_ok, run_storeVar_row w g t ty old cells hg hi hold h1]
  exact hK _ _ h
end

/-- WHAT AN ITERATOR's CLOSURE PROMISES, the record's number being l: whatever the caller keeps (J) that abides its turns, each round at what comes next: all have come (S), or a round has said that no more is wanted. -/
def IterC3 {α : Type} (n : Nat) (P : Program) (gf : Nat) (lb : Array Value) (encs : α → Array Value) (own keep : Nat → Prop) (ok : List α → α → Prop) (S : List α → World → Prop) (G : World → Prop) (l : Nat) (W1 : World) : Prop :=
  ∀ (J Jx : List α → World → Prop), (∀ pre W, J pre W → G W) → (∀ pre W W', J pre W → Turns own W W' → J pre W') → (∀ pre W W', Jx pre W → Turns own W W' → Jx pre W') →
    (∀ pre x W0 W, J pre W0 → Turns own W0 W → ok pre x → YieldAt Fence.wide (n - 1) P l (encs x) W fun e W' => (e = .returned (.bool true) ∧ J (pre ++ [x]) W' ∧ Holds (fun k => keep k ∨ (W0.heap.size ≤ k ∧ k < W.heap.size)) W W') ∨ (e = .returned (.bool false) ∧ Jx (pre ++ [x]) W')) →
    J [] W1 → CallsIn Fence.wide n P gf (#[.func (.yield l) #[] #[]] ++ lb) W1 fun e W' => (∃ v, e = .returned v) ∧ ((∃ xs, S xs W' ∧ J xs W') ∨ (∃ pre, Jx pre W'))

/-- **THE STATEMENT** -/
theorem range_law3 {α : Type} {P : Program} {n : Nat} {g : Operand} {ps : Array Tmp} {assign body : Code} {Q : Exit → Act → World → Prop} {a : Act} {w : World}
    {gf : Nat} {lb : Array Value} (hg : a.eval g = .func (.func gf) #[] lb) (eg : ∀ args w, (callFunc gf args).run P w = .ok (.enter gf args) w)
    {encs : α → Array Value} {own keep : Nat → Prop} {ok : List α → α → Prop} {S : List α → World → Prop} {G : World → Prop} (hown : ∀ k, own k ∨ keep k → k < w.heap.size)
    (hit : ∀ W1, Turns (fun _ => False) w W1 → IterC3 (n - 1) P gf lb encs own keep ok S G (w.heap.size + 1) W1)
    (hps : ∀ x, (encs x).size = ps.size)
    (I : List α → World → Prop) (Ix : Code → List α → World → Prop)
    (hI : ∀ pre W W', I pre W → Turns (fun k => own k ∨ k = w.heap.size + 1) W W' → I pre W')
    (hIx : ∀ c pre W W', Ix c pre W → Turns (fun k => own k ∨ k = w.heap.size + 1) W W' → Ix c pre W')
    (hG : ∀ pre W, I pre W → G W) (h0 : I [] w) (Ax : α → Act → World → Prop) (hAx : ∀ x a1 W W', Ax x a1 W → Turns (fun k => k = w.heap.size + 1) W W' → Ax x a1 W')
    (hassign : ∀ (x : α) (W : World) (K : Act → World → Prop), w.heap.size + 2 ≤ W.heap.size → (∀ a1 W1, Turns (fun _ => False) W W1 → Ax x a1 W1 → K a1 W1) →
      assign.wpIn (Fence.wide.inRound (w.heap.size + 1)) (n - 1 - 1) P (Exit.then K (fun _ _ _ => False)) { tmps := (ps.zip (encs x)).foldl (fun t (p, v) => t.setIfInBounds p v) a.tmps, defers := [] } W)
    (hbody : ∀ (pre : List α) (x : α) (a1 : Act) (W0 W : World) (N : Nat), w.heap.size + 2 ≤ W0.heap.size → I pre W0 → Turns (fun k => own k ∨ k = w.heap.size + 1) W0 W → N ≤ W.heap.size → ok pre x → Ax x a1 W →
      body.wpIn (Fence.wide.inRound (w.heap.size + 1)) (n - 1 - 1) P (roundP (fun k => keep k ∨ (W0.heap.size ≤ k ∧ k < N)) I Ix (w.heap.size + 1) w.heap.size (pre ++ [x]) W) a1 W)
    (hdone : ∀ (xs : List α) (W : World), w.heap.size + 2 ≤ W.heap.size → S xs W → I xs W → W.heap[w.heap.size]? = some (.deferred (some [])) → Q .normal { a with defers := { target := .collected w.heap.size, args := #[] } :: a.defers } W)
    (hstop : ∀ (c : Code) (pre : List α) (W : World), w.heap.size + 2 ≤ W.heap.size → Ix c pre W → W.heap[w.heap.size]? = some (.deferred (some [])) → c.wpIn Fence.wide n P Q { a with defers := { target := .collected w.heap.size, args := #[] } :: a.defers } W)
    (hS : ∀ xs W W', S xs W → Turns (fun k => k = w.heap.size + 1) W W' → S xs W') :
    (Code.rangeFunc g ps assign body).wpIn Fence.wide n P Q a w := by
  refine wpIn_rangeFunc ?_
  intro fn hfn
  obtain ⟨rec, hrec⟩ : ∃ rec : LoopState → Option Code → Loop, rec = fun st pe => { state := st, pending := pe, fn, tmps := a.tmps, params := ps, assign, body, defers := w.heap.size } := ⟨_, rfl⟩
  obtain ⟨W1, hW1⟩ : ∃ W1, (w.alloc (.deferred (some []))).alloc (.loop (rec .ready none)) = W1 := ⟨_, rfl⟩
  have hL1 : W1.heap[w.heap.size + 1]? = some (.loop (rec .ready none)) := by
    rw [← hW1]; have := World.alloc_heap_new (w.alloc (.deferred (some []))) (.loop (rec .ready none)); rwa [World.size_alloc] at this
  have hK1 : W1.heap[w.heap.size]? = some (.deferred (some [])) := by
    rw [← hW1]; exact (Below.heap_alloc _ _ _ (by simp)).trans (World.alloc_heap_new w _)
  have hT1 : ∀ o, Turns o w W1 := fun o => by rw [← hW1]; exact (Turns.alloc w _).trans (Turns.alloc _ _)
  have hI1 : I [] W1 := hI _ _ _ h0 (hT1 _)
  refine ⟨w.heap.size + 1, [{ target := .collected w.heap.size, args := #[] }], W1, { target := .fn (.func gf) lb, args := #[.func (.yield (w.heap.size + 1)) #[] #[]] }, W1, gf,
    #[.func (.yield (w.heap.size + 1)) #[] #[]] ++ lb, W1, ?_, ?_, ?_, ?_, fun h => by simp [Fence.wide] at h, ?_⟩
  · rw [← hW1, hrec]; exact run_enterLoop_outer _ _ _ _ _
  · simp only [resolve, hg]
    simp [go_sem]
  · intro f' _; trivial
  · simp [invoke, go_sem, eg]
  · have hnl : ¬ own (w.heap.size + 1) := fun h => by have := hown _ (.inl h); omega
    have hnd : ¬ own w.heap.size := fun h => by have := hown _ (.inl h); omega
    refine (hit W1 (hT1 _)
      (fun pre W => I pre W ∧ W.heap[w.heap.size + 1]? = some (.loop (rec .ready none)) ∧ W.heap[w.heap.size]? = some (.deferred (some [])))
      (fun pre W => ∃ c, Ix c pre W ∧ W.heap[w.heap.size + 1]? = some (.loop (rec .done (some c))) ∧ W.heap[w.heap.size]? = some (.deferred (some [])))
      (fun pre W h => hG pre W h.1) ?_ ?_ ?_ ⟨hI1, hL1, hK1⟩).mono ?_
    · rintro pre W W' ⟨hi, hl, hk⟩ ht
      exact ⟨hI _ _ _ hi (ht.mono fun k => .inl), (ht.block _ (Array.getElem?_eq_some_iff.1 hl).1 hnl).trans hl, (ht.block _ (Array.getElem?_eq_some_iff.1 hk).1 hnd).trans hk⟩
    · rintro pre W W' ⟨c, hi, hl, hk⟩ ht
      exact ⟨c, hIx _ _ _ _ hi (ht.mono fun k => .inl), (ht.block _ (Array.getElem?_eq_some_iff.1 hl).1 hnl).trans hl, (ht.block _ (Array.getElem?_eq_some_iff.1 hk).1 hnd).trans hk⟩
    · -- one round
      rintro pre x W0 W ⟨hi, hl0, hk0⟩ ht hok
      have hlt0 : w.heap.size + 1 < W0.heap.size := (Array.getElem?_eq_some_iff.1 hl0).1
      have hl := (ht.block _ hlt0 hnl).trans hl0
      have hk := (ht.block _ (by omega) hnd).trans hk0
      have hlt : w.heap.size + 1 < W.heap.size := (Array.getElem?_eq_some_iff.1 hl).1
      have hy := run_yield (P := P) (args := encs x) hl (by rw [hrec]; exact hps x)
      rw [hrec] at hy
      refine ⟨fn, _, assign, body, hy, roundIn_of_wpIn hfn (hassign x W _ (by omega) fun a1 Wa ha hax => ?_)⟩
      have hla : Wa.heap[w.heap.size + 1]? = some (.loop (rec .ready none)) := (ha.block _ hlt (fun h => h)).trans hl
      have hka : Wa.heap[w.heap.size]? = some (.deferred (some [])) := (ha.block _ (by omega) (fun h => h)).trans hk
      have hlta : w.heap.size + 1 < Wa.heap.size := (Array.getElem?_eq_some_iff.1 hla).1
      refine ⟨_, run_beginRound hla (by rw [hrec]), ?_⟩
      obtain ⟨Wb, hWb⟩ : ∃ Wb, Wa.putObj (w.heap.size + 1) (.loop { rec .ready none with state := .busy }) = Wb := ⟨_, rfl⟩
      rw [hWb]
      have htb : ∀ o : Nat → Prop, o (w.heap.size + 1) → Turns o Wa Wb := fun o ho => by rw [← hWb]; exact Turns.putObj _ ho _
      have hlb : Wb.heap[w.heap.size + 1]? = some (.loop { rec .ready none with state := .busy }) := by rw [← hWb]; exact World.putObj_heap_same hlta
      have hkb : Wb.heap[w.heap.size]? = some (.deferred (some [])) := by rw [← hWb]; exact (World.putObj_heap_other (by omega)).trans hka
      have hsb : Wb.heap.size = Wa.heap.size := by rw [← hWb]; simp
      refine wpIn_mono (hbody pre x a1 W0 Wb W.heap.size (by omega) hi ((ht.mono fun _ h => .inl h).trans ((ha.mono fun _ h => h.elim).trans (htb _ (.inr rfl)))) (by have := ha.size; omega) hok (hAx _ _ _ _ hax (htb _ rfl))) ?_
      have fin : ∀ (jump : Option Code) (W3 : World), Holds (fun k => k = w.heap.size + 1 ∨ k = w.heap.size) Wb W3 →
          (Instr.endRound (w.heap.size + 1) jump).run P W3 = .ok (.bool jump.isNone) (W3.putObj (w.heap.size + 1) (.loop (rec (if jump.isNone then .ready else .done) jump))) ∧
          (W3.putObj (w.heap.size + 1) (.loop (rec (if jump.isNone then .ready else .done) jump))).heap[w.heap.size + 1]? = some (.loop (rec (if jump.isNone then .ready else .done) jump)) ∧
          (W3.putObj (w.heap.size + 1) (.loop (rec (if jump.isNone then .ready else .done) jump))).heap[w.heap.size]? = some (.deferred (some [])) := fun jump W3 hk3 => by
        have hl3 := (hk3.block _ (.inl rfl)).trans hlb
        have := run_endRound (P := P) jump hl3
        rw [hrec] at this ⊢
        exact ⟨this, World.putObj_heap_same (Array.getElem?_eq_some_iff.1 hl3).1, (World.putObj_heap_other (by omega)).trans ((hk3.block _ (.inr rfl)).trans hkb)⟩
      rintro e a3 W3 hp
      cases e with
      | normal =>
        obtain ⟨hh, hi3⟩ := hp
        obtain ⟨hr, hl4, hk4⟩ := fin none W3 (hh.mono fun _ h => .inr h)
        refine ⟨_, _, hr, .inl ⟨rfl, ⟨hI _ _ _ hi3 (Turns.putObj _ (.inr rfl) _), hl4, hk4⟩, ?_⟩⟩
        refine ⟨?_, fun k ho => ?_⟩
        · have := ha.size; have := hh.size; simp; omega
        · have hkw : k ≠ w.heap.size + 1 ∧ k < W.heap.size := by
            rcases ho with h | h
            · have := hown k (.inr h); omega
            · omega
          rw [World.putObj_heap_other (fun e => hkw.1 e), hh.block k (.inl ho), ← hWb, World.putObj_heap_other (fun e => hkw.1 e)]
          exact ha.block k hkw.2 (fun h => h)
      | ret =>
        obtain ⟨hh, hi3⟩ := hp
        obtain ⟨hr, hl4, hk4⟩ := fin (some .ret) W3 hh
        exact ⟨_, _, hr, .inr ⟨rfl, .ret, hIx _ _ _ _ hi3 (Turns.putObj _ (.inr rfl) _), hl4, hk4⟩⟩
      | exit id =>
        obtain ⟨hh, hi3⟩ := hp
        obtain ⟨hr, hl4, hk4⟩ := fin (some (.exit id)) W3 hh
        exact ⟨_, _, hr, .inr ⟨rfl, .exit id, hIx _ _ _ _ hi3 (Turns.putObj _ (.inr rfl) _), hl4, hk4⟩⟩
      | goto t =>
        obtain ⟨hh, hi3⟩ := hp
        obtain ⟨hr, hl4, hk4⟩ := fin (some (.goto t)) W3 hh
        exact ⟨_, _, hr, .inr ⟨rfl, .goto t, hIx _ _ _ _ hi3 (Turns.putObj _ (.inr rfl) _), hl4, hk4⟩⟩
      | panic ch => exact hp.elim
      | outgrown => exact hp.elim
    · -- behind the iterator
      rintro e W2 ⟨⟨v, rfl⟩, (⟨xs, hSx, hi, hl, hk⟩ | ⟨pre, c, hi, hl, hk⟩)⟩
      · have hlt := (Array.getElem?_eq_some_iff.1 hl).1
        exact ⟨none, _, by have := run_endLoop (P := P) hl (by rw [hrec]; simp); rw [hrec] at this; exact this,
          hdone xs _ (by simp; omega) (hS _ _ _ hSx (Turns.putObj (own := fun k => k = w.heap.size + 1) _ rfl _)) (hI _ _ _ hi (Turns.putObj _ (.inr rfl) _)) ((World.putObj_heap_other (by omega)).trans hk)⟩
      · have hlt := (Array.getElem?_eq_some_iff.1 hl).1
        exact ⟨some c, _, by have := run_endLoop (P := P) hl (by rw [hrec]; simp); rw [hrec] at this; exact this,
          hstop c pre _ (by simp; omega) (hIx _ _ _ _ hi (Turns.putObj _ (.inr rfl) _)) ((World.putObj_heap_other (by omega)).trans hk)⟩
end Go.Proofs.YtjemdepcaaadiaaGreatDoor

/- THE BUILDER's STEPS: an iterator over the classes, each with what it makes of some sets. -/
namespace Go.Proofs.YtjemdepcaaadiaaGreatDoor
open Go.RowKit Go.Shelf
attribute [local go_sem] Oper.semAt_some

def lefts (rs : List D.Rule) : List D.Side := rs.map (·.1)
theorem lefts_len (rs : List D.Rule) : (lefts rs).length = rs.length := by simp [lefts]
theorem lefts_at {rs : List D.Rule} {i : Nat} {x : D.Rule} (h : rs[i]? = some x) : D.sideAt (lefts rs) i = x.1 := D.sideAt_get (by unfold lefts; rw [List.getElem?_map, h]; rfl)

theorem stepsM_any (b : Nat) (S : D.Sets) (w : World) :
    Calls Tryz.prog 52 #[.pointer (some ⟨b, 0, none⟩), .agg (keyC S)] w fun e w' => e = .returned (.func (.func 79) #[] #[.pointer (some ⟨w.heap.size, 0, none⟩), .pointer (some ⟨w.heap.size + 1, 0, none⟩)]) ∧
      (w.alloc (.cells #[.pointer (some ⟨b, 0, none⟩)] 64)).alloc (.cells (keyC S) 92) = w' := by
  go_enter Tryz.func52, Tryz.ntmps52
  go_wp2
  go_ret
  exact ⟨rfl, rfl⟩

theorem setRow_new (w : World) (old cs : Array Value) (t : TypeId) : (w.alloc (.cells old t)).setRow w.heap.size cs = w.alloc (.cells cs t) := by
  unfold World.setRow World.alloc
  congr 1
  apply Array.ext
  · simp
  · intro i h1 h2
    rw [Array.getElem_modify]
    simp only [Array.getElem_push]
    by_cases e : i = w.heap.size
    · subst e; simp
    · have : i < w.heap.size := by simp at h2; omega
      simp [this, Ne.symm e]
/-- what the iterator reads of what the rounds may turn -/
def Gb (A : Nat → Addr) (B b n m : Nat) (rv : Value) (rs : List D.Rule) (W : World) : Prop := (∃ nv fv tv, Bb W b nv fv rv n m tv) ∧ RulesAt W rv rs ∧ E A B W ∧ B ≤ W.heap.size
theorem Gb.below {A : Nat → Addr} {B b n m : Nat} {rv : Value} {rs : List D.Rule} {W W' : World} (h : Gb A B b n m rv rs W) (hb : Below W.heap.size W W') : Gb A B b n m rv rs W' := by
  obtain ⟨⟨nv, fv, tv, h1⟩, h2, h3, h4⟩ := h
  exact ⟨⟨nv, fv, tv, h1.below hb h1.lt⟩, h2.below hb, h3.below (hb.mono h4), Nat.le_trans h4 hb.size⟩
theorem below_of_turns {W W' : World} (h : Turns (fun _ => False) W W') : Below W.heap.size W W' := h.below (Nat.le_refl _) (fun _ h => h.elim)

def stEnc (rs : List D.Rule) (n : Nat) (S : D.Sets) (k : Nat) : Array Value := #[.int .i64 (k : Int), .agg (keyC (D.stepAll (lefts rs) S (D.cls n k)))]

theorem step_all {A : Nat → Addr} {B b n m : Nat} {rv : Value} {rs : List D.Rule} {S : D.Sets} {Bl Bn : Nat} {c : Int} {W : World} (hG : Gb A B b n m rv rs W) (hr : ∀ x ∈ rs, rightB x.1.2 = true) (hl : rs.length ≤ 40) (hS : D.Good (lefts rs) S)
    (hbl : Blk W Bl 92 (keyC S)) (hbn : Blk W Bn 3 #[.int .i64 c]) :
    Calls Tryz.prog 49 #[.pointer (some ⟨b, 0, none⟩), .func (.func 80) #[] #[.pointer (some ⟨Bl, 0, none⟩), .pointer (some ⟨Bn, 0, none⟩)]] W fun e w' => e = .returned (.agg (keyC (D.stepAll (lefts rs) S c))) ∧ Below W.heap.size W w' := by
  obtain ⟨⟨nv, fv, tv, h1⟩, h2, h3, h4⟩ := hG
  have := each_any b nv fv rv n m tv rs 80 #[.pointer (some ⟨Bl, 0, none⟩), .pointer (some ⟨Bn, 0, none⟩)] (D.stepAt (lefts rs) S c) W h1 h2 hl (enters_of Tryz.func80 (by kernel_rfl) rfl) (fun i x vl vr W' hx hb hil hir => by
    have hi : i < rs.length := (List.getElem?_eq_some_iff.1 hx).1
    have hgood := hS.2 i (by rw [lefts_len]; exact hi)
    rw [lefts_at hx] at hgood
    have hSi : S[i]? = some (S.getD i 0) := by
      have : i < S.length := by rw [hS.1, lefts_len]; exact hi
      rw [List.getD, List.getElem?_eq_getElem this]; rfl
    have := step1_any A B i x vl vr Bl Bn S (S.getD i 0) c W' (hr x (List.mem_of_getElem? hx)) hil hir (h3.below (hb.mono h4)) (Nat.le_trans h4 hb.size) hSi hgood (by omega) (hbl.below hb hbl.lt) (hbn.below hb hbn.lt)
    unfold D.stepAt
    rw [lefts_at hx]
    exact this)
  rw [← lefts_len] at this
  exact this
set_option maxHeartbeats 4000000 in
theorem steps1_iter (n' : Nat) (A : Nat → Addr) (B b n m : Nat) (rv : Value) (rs : List D.Rule) (S : D.Sets) (Bx Bl l : Nat) (W1 : World) (hn : n ≤ 32) (hr : ∀ x ∈ rs, rightB x.1.2 = true) (hl : rs.length ≤ 40) (hS : D.Good (lefts rs) S)
    (hx : Blk W1 Bx 64 #[.pointer (some ⟨b, 0, none⟩)]) (hbl : Blk W1 Bl 92 (keyC S)) :
    IterC3 (n' + 1) Tryz.prog 79 #[.pointer (some ⟨Bx, 0, none⟩), .pointer (some ⟨Bl, 0, none⟩)] (stEnc rs n S) (fun _ => False) (fun k => k = Bx ∨ k = Bl) (fun pre x => x = pre.length ∧ x ≤ n)
      (fun xs _ => xs = List.range (n + 1)) (Gb A B b n m rv rs) l W1 := by
  intro J Jx hJG hJ hJx hY h0
  have HY := Box.mk hY
  have HJ := Box.mk hJ
  have HJG := Box.mk hJG
  have HSA := Box.mk (fun (W : World) (Bn : Nat) (c : Int) (hG : Gb A B b n m rv rs W) (hbl : Blk W Bl 92 (keyC S)) (hbn : Blk W Bn 3 #[.int .i64 c]) => (callsIn_wide (n := n')).2 (step_all (m := m) hG hr hl hS hbl hbn))
  have HK := Box.mk (fun c => show (D.stepAll (lefts rs) S c).length ≤ 40 by rw [D.stepAll_len, lefts_len]; exact hl)
  clear hY hJ hJG hr hS
  obtain ⟨⟨nv0, fv0, tv0, g1⟩, -, -, -⟩ := HJG.out _ _ h0
  have c1 : W1.cell? ⟨Bx, 0, none⟩ = some (.pointer (some ⟨b, 0, none⟩)) := (hx.cell 0).trans rfl
  have c2 : W1.cell? ⟨b, 3, none⟩ = some (.int .i64 n) := (g1.cell 3).trans rfl
  clear g1
  refine callsIn_of_wp Tryz.func79 rfl trivial ?_
  simp only [Tryz.ntmps79, List.size_toArray, List.length_cons, List.length_nil, Nat.reduceAdd, Nat.reduceSub, Array.replicate_succ, Array.replicate_zero, List.push_toArray, List.append_toArray, List.nil_append, List.cons_append]
  gi_wp2
  refine wpIn_wide.2 (wp_scope_straight ((wpIn_wide (n := n' + 1)).1 ?_))
  gi_wp2
  refine wpIn_label ?_
  gi_wp2
  clear c1 c2
  gi_loopw [12] (fun i wr => ∃ k : Nat, k ≤ n + 1 ∧ i = .int .i64 k ∧ Box (Blk wr Bx 64 #[.pointer (some ⟨b, 0, none⟩)]) ∧ Box (Blk wr Bl 92 (keyC S)) ∧ Box (J (List.range k) wr))
    (fun i _ => n + 1 - (intOf i).toNat)
  case atStart => exact ⟨0, by omega, rfl, ⟨hx⟩, ⟨hbl⟩, ⟨h0⟩⟩
  case round =>
    obtain ⟨k, hk, rfl, hbx, hbS, hj⟩ := hrel
    clear hx hbl h0
    by_cases hlt : k < n + 1
    · have HGr := Box.mk (HJG.out _ _ hj.out)
      obtain ⟨⟨nv0, fv0, tv0, g1⟩, -, -, -⟩ := HGr.out
      have c1 : wr.cell? ⟨Bx, 0, none⟩ = some (.pointer (some ⟨b, 0, none⟩)) := (hbx.out.cell 0).trans rfl
      have c2 : wr.cell? ⟨b, 3, none⟩ = some (.int .i64 n) := (g1.cell 3).trans rfl
      have l1 := hbx.out.lt
      have l2 := g1.lt
      have HTA := Box.mk (fun (c : Int) => show Below wr.heap.size wr (wr.alloc (.cells #[.int .i64 c] 3)) from (Below.refl _ _).alloc (Nat.le_refl _) _)
      have HCA := Box.mk (fun (c : Int) => HSA.out (wr.alloc (.cells #[.int .i64 c] 3)) wr.heap.size c (HGr.out.below (HTA.out c)) (hbS.out.alloc _) (Blk.new _ _ _))
      have HRND := Box.mk (fun W2 (hb : Below wr.heap.size wr W2) => HY.out (List.range k) k wr W2 hj.out (Turns.of_below hb) ⟨by simp, by omega⟩)
      have HEND := Box.mk (show ∀ W2 W3, Below wr.heap.size wr W2 → J (List.range k ++ [k]) W3 → Holds (fun q => (q = Bx ∨ q = Bl) ∨ (wr.heap.size ≤ q ∧ q < W2.heap.size)) W2 W3 → ∃ k' : Nat, k' ≤ n + 1 ∧ Value.int .i64 ((k : Int) + 1) = .int .i64 k' ∧ Box (Blk W3 Bx 64 #[.pointer (some ⟨b, 0, none⟩)]) ∧ Box (Blk W3 Bl 92 (keyC S)) ∧ Box (J (List.range k') W3) from fun W2 W3 hb hj3 hh =>
        ⟨k + 1, hlt, by go_num, ⟨(hh.block _ (.inl (.inl rfl))).trans (hbx.out.below hb hbx.out.lt)⟩, ⟨(hh.block _ (.inl (.inr rfl))).trans (hbS.out.below hb hbS.out.lt)⟩, ⟨by rw [List.range_succ]; exact hj3⟩⟩)
      clear g1 hj
      by_cases he : k = n
      · have HCL := Box.mk (show D.cls n k = -1 by unfold D.cls; rw [if_pos he])
        subst he
        gi_wp2
        refine ⟨trivial, (HCA.out (-1)).mono ?_⟩; rintro e w1 ⟨rfl, hb1⟩
        have HB1 := Box.mk (show Below wr.heap.size wr w1 from (HTA.out (-1)).trans (hb1.mono (by simp)))
        have HIF := Box.mk (show (Tryz.prog.info? 92).map (·.size) = some (keyC (D.stepAll (lefts rs) S (-1))).size by rw [keyInfo, keyC_size _ (HK.out (-1))])
        have HSZ := Box.mk (show (keyC []).size = (keyC (D.stepAll (lefts rs) S (-1))).size by rw [keyC_size _ (HK.out (-1))]; rfl)
        have HB2 := Box.mk (show Below wr.heap.size wr (w1.alloc (.cells (keyC (D.stepAll (lefts rs) S (-1))) 92)) from HB1.out.alloc HB1.out.size _)
        have hy0 := HRND.out _ HB2.out
        unfold stEnc at hy0
        rw [HCL.out] at hy0
        obtain ⟨fn, tmps, assign, body, hy, hRd⟩ := hy0
        have HRD := Box.mk hRd
        clear hb1 hRd
        gi_wp2_with (first
          | (refine wpListIn_store_row rfl 92 _ _ rfl w1.heap.size (keyC (D.stepAll (lefts rs) S (-1))) rfl rfl 92 (keyC []) (Blk.new w1 _ (keyC [])) HIF.out HSZ.out (keyC_one _) ?_; rw [setRow_new])
          | (refine wpListIn_load_row rfl 92 _ rfl w1.heap.size rfl 92 (keyC (D.stepAll (lefts rs) S (-1))) (0, 0) _ (Blk.new w1 _ _) Tryz.underlying92 rfl HIF.out ?_))
        refine HRD.out.mono ?_
        rintro e W3 (⟨rfl, hj3, hk3⟩ | ⟨rfl, hx3⟩)
        · have HR3 := Box.mk (HEND.out _ _ HB2.out hj3 hk3)
          clear hj3 hk3
          gi_wp2
          go_roundw
          case rel => exact HR3.out
          case measure => simp [intOf] <;> omega
        · gi_wp2
          rw [Exit.noGoto_normal]
          go_end0
          exact ⟨⟨_, rfl⟩, .inr ⟨_, hx3⟩⟩
      · have HCL := Box.mk (show D.cls n k = (k : Int) by unfold D.cls; rw [if_neg he])
        have hkn : ((k : Int) == n) = false := by rw [beq_eq_false_iff_ne]; omega
        gi_wp2
        refine ⟨trivial, (HCA.out ((k : Int))).mono ?_⟩; rintro e w1 ⟨rfl, hb1⟩
        have HB1 := Box.mk (show Below wr.heap.size wr w1 from (HTA.out ((k : Int))).trans (hb1.mono (by simp)))
        have HIF := Box.mk (show (Tryz.prog.info? 92).map (·.size) = some (keyC (D.stepAll (lefts rs) S ((k : Int)))).size by rw [keyInfo, keyC_size _ (HK.out ((k : Int)))])
        have HSZ := Box.mk (show (keyC []).size = (keyC (D.stepAll (lefts rs) S ((k : Int)))).size by rw [keyC_size _ (HK.out ((k : Int)))]; rfl)
        have HB2 := Box.mk (show Below wr.heap.size wr (w1.alloc (.cells (keyC (D.stepAll (lefts rs) S ((k : Int)))) 92)) from HB1.out.alloc HB1.out.size _)
        have hy0 := HRND.out _ HB2.out
        unfold stEnc at hy0
        rw [HCL.out] at hy0
        obtain ⟨fn, tmps, assign, body, hy, hRd⟩ := hy0
        have HRD := Box.mk hRd
        clear hb1 hRd
        gi_wp2_with (first
          | (refine wpListIn_store_row rfl 92 _ _ rfl w1.heap.size (keyC (D.stepAll (lefts rs) S ((k : Int)))) rfl rfl 92 (keyC []) (Blk.new w1 _ (keyC [])) HIF.out HSZ.out (keyC_one _) ?_; rw [setRow_new])
          | (refine wpListIn_load_row rfl 92 _ rfl w1.heap.size rfl 92 (keyC (D.stepAll (lefts rs) S ((k : Int)))) (0, 0) _ (Blk.new w1 _ _) Tryz.underlying92 rfl HIF.out ?_))
        refine HRD.out.mono ?_
        rintro e W3 (⟨rfl, hj3, hk3⟩ | ⟨rfl, hx3⟩)
        · have HR3 := Box.mk (HEND.out _ _ HB2.out hj3 hk3)
          clear hj3 hk3
          gi_wp2
          go_roundw
          case rel => exact HR3.out
          case measure => simp [intOf] <;> omega
        · gi_wp2
          rw [Exit.noGoto_normal]
          go_end0
          exact ⟨⟨_, rfl⟩, .inr ⟨_, hx3⟩⟩
    · obtain rfl : k = n + 1 := by omega
      gi_wp2
      rw [Exit.noGoto_normal]
      go_end0
      exact ⟨⟨_, rfl⟩, .inl ⟨_, rfl, hj.out⟩⟩
end Go.Proofs.YtjemdepcaaadiaaGreatDoor

/- WHICH RULES ARE DONE AT SOME SETS; what sets have together; which error is told. -/
namespace Go.Proofs.YtjemdepcaaadiaaGreatDoor
open Go.RowKit Go.Shelf
attribute [local go_sem] Oper.semAt_some

def orAll (xs : List Nat) : Nat := xs.foldl (fun a b => a ||| b) 0
theorem orAll_snoc (xs : List Nat) (x : Nat) : orAll (xs ++ [x]) = orAll xs ||| x := by unfold orAll; rw [List.foldl_append]; rfl
theorem orAll_lt (xs : List Nat) (k : Nat) (h : ∀ x ∈ xs, x < 2 ^ k) : orAll xs < 2 ^ k := by
  have key : ∀ (l : List Nat) (a : Nat), a < 2 ^ k → (∀ x ∈ l, x < 2 ^ k) → l.foldl (fun a b => a ||| b) a < 2 ^ k := by
    intro l
    induction l with
    | nil => intro a ha _; exact ha
    | cons x t ih => intro a ha hx; exact ih _ (Nat.or_lt_two_pow ha (hx x (List.mem_cons_self ..))) (fun y hy => hx y (List.mem_cons_of_mem _ hy))
  exact key xs 0 (Nat.two_pow_pos k) h
theorem take_snoc' {α : Type} (xs : List α) (k : Nat) (x : α) (h : xs[k]? = some x) : xs.take (k + 1) = xs.take k ++ [x] := by rw [List.take_add_one, h]; rfl

set_option maxHeartbeats 1000000 in
theorem union_any (v : Value) (xs : List Nat) (w : World) (hv : IntsAt w v (xs.map fun x : Nat => (x : Int))) (hx : ∀ x ∈ xs, x < 2 ^ 40) (hz : xs.length ≤ 16777216) :
    Calls Tryz.prog 83 #[v] w fun e w' => e = .returned (.int .i64 (orAll xs)) ∧ w = w' := by
  have HV := Box.mk hv
  have HX := Box.mk hx
  obtain ⟨va, vc, rfl⟩ := hv.slice
  rw [List.length_map] at HV ⊢
  clear hv hx
  go_enter Tryz.func83, Tryz.ntmps83
  go_wp2
  go_loop [3, 8] (fun o i => ∃ k : Nat, k ≤ xs.length ∧ i = .int .i64 k ∧ o = .int .i64 (orAll (xs.take k))) (fun _ i => xs.length - (intOf i).toNat)
  case atStart => exact ⟨0, by omega, rfl, rfl⟩
  case round =>
    obtain ⟨k, hk, rfl, rfl⟩ := hrel
    by_cases hlt : k < xs.length
    · obtain ⟨x, hxk⟩ : ∃ x, xs[k]? = some x := ⟨_, List.getElem?_eq_getElem hlt⟩
      obtain ⟨g, off, cap2, hg1, hg2, hg3, hg4, hg5⟩ := HV.out.get (by intro e; have := congrArg List.length e; simp at this; subst this; simp at hlt)
      rw [List.length_map] at hg1 hg2
      obtain ⟨rfl, rfl⟩ : va = some ⟨g, off, none⟩ ∧ vc = cap2 := by injection hg1 with h1 h2 h3; exact ⟨h1, h3⟩
      have hcx := hg5 k x (by rw [List.getElem?_map, hxk]; rfl)
      have h1 := orAll_lt (xs.take k) 40 (fun y hy => HX.out y (List.mem_of_mem_take hy))
      have h2 := HX.out x (List.mem_of_getElem? hxk)
      have HOR := Box.mk (show bits .or .i64 (orAll (xs.take k) : Int) (x : Int) = (orAll (xs.take (k + 1)) : Int) by rw [i64_or_nat _ _ (by omega) (by omega), take_snoc' xs k x hxk, orAll_snoc])
      unfold maxLen at hg3
      clear hg1 hg5 hxk
      go_wp2
      rw [HOR.out]
      go_round
      case rel => exact ⟨k + 1, hlt, by go_num, rfl⟩
      case measure => simp [intOf]; omega
    · obtain rfl : k = xs.length := by omega
      go_wp2
      go_ret
      exact ⟨rfl, rfl⟩

/-- the sets of one, of those of the first k rules that are done -/
def doneL (rs : List D.Side) (S : D.Sets) (k : Nat) : List Nat := ((List.range k).filter (D.doneAt rs S)).map (2 ^ ·)
theorem doneL_yes {rs : List D.Side} {S : D.Sets} {k : Nat} (h : D.doneAt rs S k = true) : doneL rs S (k + 1) = doneL rs S k ++ [2 ^ k] := by
  unfold doneL; rw [List.range_succ, List.filter_append, List.map_append]; simp [h]
theorem doneL_no {rs : List D.Side} {S : D.Sets} {k : Nat} (h : D.doneAt rs S k = false) : doneL rs S (k + 1) = doneL rs S k := by
  unfold doneL; rw [List.range_succ, List.filter_append, List.map_append]; simp [h]
theorem doneL_or (rs : List D.Side) (S : D.Sets) : ∀ k, orAll (doneL rs S k) = D.doneTo rs S k
  | 0 => rfl
  | k + 1 => by
    unfold D.doneTo
    cases h : D.doneAt rs S k with
    | true => rw [doneL_yes h, orAll_snoc, doneL_or rs S k, if_pos rfl]
    | false => rw [doneL_no h, doneL_or rs S k, if_neg (by simp)]
theorem doneL_len (rs : List D.Side) (S : D.Sets) (k : Nat) : (doneL rs S k).length ≤ k := by
  unfold doneL; rw [List.length_map]; exact Nat.le_trans (List.length_filter_le _ _) (by simp)
theorem doneL_lt {rs : List D.Side} {S : D.Sets} {k : Nat} (hk : k ≤ 40) : ∀ x ∈ doneL rs S k, x < 2 ^ 40 := by
  intro x hx
  unfold doneL at hx
  obtain ⟨i, hi, rfl⟩ := List.mem_map.1 hx
  have := List.mem_range.1 (List.mem_filter.1 hi).1
  exact Nat.pow_lt_pow_right (by omega) (by omega)

theorem wrap_pow (k : Nat) (h : k < 40) : wrap64 (2 ^ k) = ((2 ^ k : Nat) : Int) := by
  have h1 := pow_le k (by omega)
  rw [pow_cast] at h1 ⊢
  generalize 2 ^ k = z at h1 ⊢
  exact IntWalk.wrap64_in _ (by omega)
theorem ints_own {w : World} {base n : Nat} {T : TypeId} {v : Value} {xs : List Nat} (h : w.ownsRow base T 1 v n (xs.map natV)) (hn : n = xs.length) : IntsAt w v (xs.map fun x : Nat => (x : Int)) :=
  IntsAt.of_own (n := n) (by rw [List.map_map]; exact h) (by rw [List.length_map]; exact hn)

set_option maxRecDepth 100000 in
set_option maxHeartbeats 4000000 in
theorem bdone_any (A : Nat → Addr) (B b : Nat) (nv fv rv : Value) (n m : Nat) (tv : Value) (rs : List D.Rule) (S : D.Sets) (w : World) (hb : Bb w b nv fv rv n m tv) (hR : RulesAt w rv rs) (hl : rs.length ≤ 40) (hr : ∀ x ∈ rs, rightB x.1.2 = true) (hS : D.Good (lefts rs) S) (hE : E A B w) (hB : B ≤ w.heap.size) :
    Calls Tryz.prog 53 #[.pointer (some ⟨b, 0, none⟩), .agg (keyC S)] w fun e w' => e = .returned (.int .i64 (D.doneTo (lefts rs) S rs.length)) ∧ Below w.heap.size w w' := by
  have HR := Box.mk hR
  have HRI := Box.mk hr
  have HS := Box.mk hS
  have HE := Box.mk hE
  obtain ⟨w1, hw1⟩ : ∃ w1, w1 = w.alloc (.cells (keyC S) 92) := ⟨_, rfl⟩
  have hb1 : Below w.heap.size w w1 := by rw [hw1]; exact (Below.refl _ _).alloc (Nat.le_refl _) _
  have HW1 := Box.mk hw1
  have HB1 := Box.mk hb1
  have HX := Box.mk (show Blk w1 w.heap.size 92 (keyC S) by rw [hw1]; exact Blk.new _ _ _)
  obtain ⟨ao, cap, rfl⟩ := hR.slice
  have c2 : w1.cell? ⟨b, 2, none⟩ = some (.slice ao rs.length cap) := ((hb.below hb1 hb.lt).cell 2).trans rfl
  have l0 : b < w1.heap.size := (hb.below hb1 hb.lt).lt
  obtain ⟨i0, hi, hz0, hz1, hz2⟩ := info_parts i64_info
  clear hR hr hS hE hb hb1 hw1
  go_enter Tryz.func53, Tryz.ntmps53
  go_upto_region 2 with (fail)
  rw [← HW1.out]
  go_wp2_with fail
  clear c2
  go_loopw [5, 13] (fun o i wr => ∃ k : Nat, k ≤ rs.length ∧ i = .int .i64 k ∧ Box (wr.ownsRow w1.heap.size 2 1 o (doneL (lefts rs) S k).length ((doneL (lefts rs) S k).map natV)) ∧ Box (Below w1.heap.size w1 wr))
    (fun _ i _ => rs.length - (intOf i).toNat)
  case atStart => exact ⟨0, by omega, rfl, ⟨World.ownsRow_nil _ _ _ _⟩, ⟨Below.refl _ _⟩⟩
  case round =>
    obtain ⟨k, hk, rfl, ho, hbr⟩ := hrel
    have HBW := Box.mk (HB1.out.trans (hbr.out.mono HB1.out.size))
    by_cases hlt : k < rs.length
    · obtain ⟨x, hx⟩ : ∃ x, rs[k]? = some x := ⟨_, List.getElem?_eq_getElem hlt⟩
      obtain ⟨bg, off, cap2, hg1, hg2, hg3, hg4, hg5⟩ := (HR.out.below HBW.out).get (by rintro rfl; simp at hlt)
      obtain ⟨rfl, rfl⟩ : ao = some ⟨bg, off, none⟩ ∧ cap = cap2 := by injection hg1 with h1 h2 h3; exact ⟨h1, h3⟩
      obtain ⟨vl, vr, hc0, hc1, hc2, hc3, hc4, hil, hir⟩ := hg5 k x hx
      have hrx := HRI.out x (List.mem_of_getElem? hx)
      have hgood := HS.out.2 k (by rw [lefts_len]; exact hlt)
      rw [lefts_at hx] at hgood
      have hSk : S[k]? = some (S.getD k 0) := by
        have : k < S.length := by rw [HS.out.1, lefts_len]; exact hlt
        rw [List.getD, List.getElem?_eq_getElem this]; rfl
      have hxb := HX.out.below hbr.out HX.out.lt
      have cs : wr.cell? ⟨w.heap.size, k, none⟩ = some (.int .i64 (S.getD k 0 : Nat)) := (hxb.cell k).trans (keyC_get S k _ hSk)
      have lx := hxb.lt
      have HDA := Box.mk (show doneV x.1.2 (S.getD k 0 : Nat) = D.doneAt (lefts rs) S k by unfold doneV D.doneAt; rw [setOk_of_lt hrx hgood, Int.toNat_natCast, lefts_at hx]; rfl)
      have HDN := Box.mk (fun W (h : Below wr.heap.size wr W) => pdone_any A B x.1.1 vl x.1.2 (S.getD k 0 : Nat) W (hil.below h) (by have := right_len hrx; omega) (HE.out.below ((HBW.out.trans (h.mono HBW.out.size)).mono hB)) (Nat.le_trans hB (Nat.le_trans HBW.out.size h.size)))
      have HBA := Box.mk (fun o => show Below wr.heap.size wr (wr.alloc o) from (Below.refl _ _).alloc (Nat.le_refl _) _)
      obtain ⟨al, cl, rfl⟩ := hil.slice
      obtain ⟨ar, cr, rfl⟩ := hir.slice
      generalize S.getD k 0 = sk at *
      unfold maxLen at hg3
      obtain ⟨⟨stl, il⟩, ⟨str, ir⟩, br⟩ := x
      simp only at hc0 hc1 hc2 hc3 hc4 HDA HDN
      clear hx hg1 hg5 hil hir hrx hgood hSk hxb
      have hk40 : k < 40 := by omega
      have hdl := doneL_len (lefts rs) S k
      cases hd : D.doneAt (lefts rs) S k with
      | true =>
        have HD := Box.mk hd
        have HDL := Box.mk (doneL_yes hd)
        clear hd
        go_wp2_with fail
        go_region_with ((go_at_call 82; refine (HDN.out _ ?_).mono ?_; exact below_drewN (HBA.out _) _; rintro e w3 ⟨rfl, hb3⟩; rw [HDA.out, HD.out]; have HB3 := Box.mk (show Below wr.heap.size wr w3 from (HBA.out _).trans (Below.mono ⟨hb3.os, hb3.tape, hb3.output, hb3.size, hb3.block⟩ (HBA.out _).size)); clear hb3))
        all_goals
          have HB3' := Box.mk (show Below w1.heap.size w1 w3 from hbr.out.trans (HB3.out.mono hbr.out.size))
          have HO3 := Box.mk (own_below ho.out HB3.out)
          go_wp2_with (at_builtin; refine wpList_append_own _ rfl _ _ 23 rfl w1.heap.size 2 i0 (.int .i64 0) 1 8 Tryz.underlying23 hi hz0 hz1 hz2 rfl (by decide) _ _ _ rfl (HO3.out.alloc _) ⟨w3.heap.size, 0, none⟩ 1 1 [.int .i64 (wrap64 (2 ^ k))] rfl rfl (cell_one_new _ _ _) (by simp [Value.oneCell']) (by unfold maxLen; omega) (by omega) (by have := HB3'.out.size; simp; omega) ?_; intro v' w4 hown' hgrow _)
          have HOW := Box.mk (show w4.ownsRow w1.heap.size 2 1 v' (doneL (lefts rs) S (k + 1)).length ((doneL (lefts rs) S (k + 1)).map natV) by
            rw [HDL.out, List.length_append, List.map_append, show [2 ^ k].map natV = [Value.int .i64 (wrap64 (2 ^ k))] by simp only [List.map_cons, List.map_nil, natV]; rw [wrap_pow k hk40]]
            exact hown')
          have HB4 := Box.mk (show Below w1.heap.size w1 w4 from (HB3'.out.alloc HB3'.out.size _).grown hgrow (by have := HB3'.out.size; simp; omega) (fun q hq => (HO3.out.lt q hq).1))
          clear hown' hgrow
          go_wp2_with fail
          go_roundw
          case rel => exact ⟨k + 1, hlt, by go_num, HOW, HB4⟩
          case measure => simp [intOf]; omega
      | false =>
        have HD := Box.mk hd
        have HDL := Box.mk (doneL_no hd)
        clear hd
        go_wp2_with fail
        go_region_with ((go_at_call 82; refine (HDN.out _ ?_).mono ?_; exact below_drewN (HBA.out _) _; rintro e w3 ⟨rfl, hb3⟩; rw [HDA.out, HD.out]; have HB3 := Box.mk (show Below wr.heap.size wr w3 from (HBA.out _).trans (Below.mono ⟨hb3.os, hb3.tape, hb3.output, hb3.size, hb3.block⟩ (HBA.out _).size)); clear hb3))
        all_goals
          have HB3' := Box.mk (show Below w1.heap.size w1 w3 from hbr.out.trans (HB3.out.mono hbr.out.size))
          have HO3 := Box.mk (own_below ho.out HB3.out)
          go_wp2_with fail
          go_roundw
          case rel => exact ⟨k + 1, hlt, by go_num, ⟨by rw [HDL.out]; exact HO3.out⟩, HB3'⟩
          case measure => simp [intOf]; omega
    · obtain rfl : k = rs.length := by omega
      have hdl := doneL_len (lefts rs) S rs.length
      have HU := Box.mk (union_any _ (doneL (lefts rs) S rs.length) wr (ints_own ho.out rfl) (doneL_lt hl) (by omega))
      clear hdl
      go_wp2_with fail
      refine HU.out.mono ?_; rintro e w2 ⟨rfl, rfl⟩
      go_wp2_with fail
      go_ret
      exact ⟨ret_int (by rw [doneL_or]), HBW.out⟩
end Go.Proofs.YtjemdepcaaadiaaGreatDoor

/- MACHINES AS VALUES; what a builder that is at work has in memory. -/
namespace Go.Proofs.YtjemdepcaaadiaaGreatDoor
open Go.RowKit

/-- a value that reads as lists of numbers -/
def RowsAt (w : World) (v : Value) (rows : List (List Int)) : Prop :=
  (v = .slice none 0 0 ∧ rows = []) ∨ ∃ b off sp cap, v = .slice (some ⟨b, off, sp⟩) rows.length cap ∧ rows.length ≤ cap ∧ cap ≤ maxLen ∧ (rows ≠ [] → sp = none ∧ b < w.heap.size ∧ ∀ i r, rows[i]? = some r → ∃ x, w.cell? ⟨b, off + i, none⟩ = some x ∧ IntsAt w x r)
theorem RowsAt.nil {w : World} : RowsAt w (.slice none 0 0) [] := .inl ⟨rfl, rfl⟩
theorem RowsAt.below {w w' : World} {v : Value} {rows : List (List Int)} (h : RowsAt w v rows) (hb : Below w.heap.size w w') : RowsAt w' v rows := by
  rcases h with h | ⟨b, off, sp, cap, h1, h2, h3, h4⟩
  · exact .inl h
  · refine .inr ⟨b, off, sp, cap, h1, h2, h3, fun hn => ⟨(h4 hn).1, Nat.lt_of_lt_of_le (h4 hn).2.1 hb.size, fun i r hr => ?_⟩⟩
    obtain ⟨x, hx, hi⟩ := (h4 hn).2.2 i r hr
    exact ⟨x, (hb.cell (p := ⟨b, off + i, none⟩) (h4 hn).2.1).trans hx, hi.below hb⟩
theorem RowsAt.get {w : World} {v : Value} {rows : List (List Int)} (h : RowsAt w v rows) (hn : rows ≠ []) :
    ∃ b off cap, v = .slice (some ⟨b, off, none⟩) rows.length cap ∧ rows.length ≤ cap ∧ cap ≤ maxLen ∧ b < w.heap.size ∧ ∀ i r, rows[i]? = some r → ∃ x, w.cell? ⟨b, off + i, none⟩ = some x ∧ IntsAt w x r := by
  rcases h with ⟨_, h⟩ | ⟨b, off, sp, cap, h1, h2, h3, h4⟩
  · exact absurd h hn
  · obtain ⟨rfl, h5, h6⟩ := h4 hn
    exact ⟨b, off, cap, h1, h2, h3, h5, h6⟩
theorem RowsAt.slice {w : World} {v : Value} {rows : List (List Int)} (h : RowsAt w v rows) : ∃ a cap, v = .slice a rows.length cap := by
  rcases h with ⟨rfl, rfl⟩ | ⟨b, off, sp, cap, rfl, _⟩
  · exact ⟨_, _, rfl⟩
  · exact ⟨_, _, rfl⟩
/-- a machine: where each state goes, what fits there -/
abbrev D.Mach := List (List Int) × List Int
def MachAt (w : World) (v : Value) (M : D.Mach) : Prop := ∃ nv fv, v = .agg #[nv, fv] ∧ RowsAt w nv M.1 ∧ IntsAt w fv M.2
theorem MachAt.below {w w' : World} {v : Value} {M : D.Mach} (h : MachAt w v M) (hb : Below w.heap.size w w') : MachAt w' v M := by
  obtain ⟨nv, fv, h1, h2, h3⟩ := h
  exact ⟨nv, fv, h1, h2.below hb, h3.below hb⟩

/- MARKS OF LOOPS THAT HAVE ENDED, among the deferred calls. -/
def MarkOf (D : Nat) : Deferred := { target := .collected D, args := #[] }
/-- marks of loops since a world -/
structure Marks (w0 : World) (Ds : List Nat) (w : World) : Prop where
  at' : ∀ D ∈ Ds, w0.heap.size ≤ D ∧ w.heap[D]? = some (.deferred (some []))
  once : Ds.Nodup
theorem Marks.nil (w0 w : World) : Marks w0 [] w := ⟨fun _ h => absurd h List.not_mem_nil, List.nodup_nil⟩
theorem Marks.turns {w0 w w' : World} {Ds : List Nat} {own : Nat → Prop} (h : Marks w0 Ds w) (ht : Turns own w w') (ho : ∀ D ∈ Ds, ¬ own D) : Marks w0 Ds w' :=
  ⟨fun D hD => ⟨(h.at' D hD).1, (ht.block D (Array.getElem?_eq_some_iff.1 (h.at' D hD).2).1 (ho D hD)).trans (h.at' D hD).2⟩, h.once⟩
theorem Marks.cons {w0 w : World} {Ds : List Nat} {D : Nat} (h : Marks w0 Ds w) (h1 : w0.heap.size ≤ D) (h2 : w.heap[D]? = some (.deferred (some []))) (hn : D ∉ Ds) : Marks w0 (D :: Ds) w :=
  ⟨fun q hE => (List.mem_cons.1 hE).elim (fun e => by subst e; exact ⟨h1, h2⟩) (fun e => h.at' q e), List.nodup_cons.2 ⟨hn, h.once⟩⟩
theorem leaves_marks {F : Fence} {n : Nat} {P : Program} {fn : Func} {tmps : Array Value} {R : Ending → World → Prop} {w0 : World} : ∀ (Ds : List Nat) (w : World), Marks w0 Ds w →
    (∀ w', Turns (fun q => q ∈ Ds) w w' → LeavesInM F n P fn tmps R [] .returning w') → LeavesInM F n P fn tmps R (Ds.map MarkOf) .returning w
  | [], w, _, h => h w (Turns.refl _ _)
  | D :: Ds, w, hM, h => by
    refine ⟨by simp, .inl ⟨D, _, rfl, run_takeDeferred (hM.at' D (List.mem_cons_self ..)).2, ?_⟩⟩
    have hd := List.nodup_cons.1 hM.once
    have ht : Turns (fun q => q = D) w (w.putObj D (.deferred none)) := Turns.putObj (own := fun q => q = D) w rfl _
    refine leaves_marks Ds _ ((⟨fun E hE => hM.at' E (List.mem_cons_of_mem _ hE), hd.2⟩ : Marks w0 Ds w).turns ht (fun E hE e => hd.1 (e ▸ hE))) (fun w' ht' => h w' ?_)
    exact (ht.mono fun k hk => by subst hk; exact List.mem_cons_self ..).trans (ht'.mono fun k hk => List.mem_cons_of_mem _ hk)

theorem turns_old {own own' : Nat → Prop} {w0 w w' : World} (h : Turns own w0 w) (k : Turns own' w w') (ho : ∀ q, q < w0.heap.size → own' q → own q) : Turns own w0 w' :=
  ⟨k.os.trans h.os, k.tape.trans h.tape, k.output.trans h.output, Nat.le_trans h.size k.size, fun i hi hn => (k.block i (Nat.lt_of_lt_of_le hi h.size) (fun e => hn (ho i hi e))).trans (h.block i hi hn)⟩
/-- rows of two kinds lie in two blocks -/
theorem own_ne {w : World} {B B' e e' s s' n n' : Nat} {v v' : Value} {xs xs' : List Value} (h : w.ownsRow B e s v n xs) (h' : w.ownsRow B' e' s' v' n' xs') (he : e ≠ e') {g : Nat} (hg : v.ownBlock = some g) : v'.ownBlock ≠ some g := by
  intro hg'
  rcases h.2 with ⟨rfl, _⟩ | ⟨g1, cap, cur, rfl, _, hc, _⟩
  · simp [Value.ownBlock] at hg
  · rcases h'.2 with ⟨rfl, _⟩ | ⟨g2, cap2, cur2, rfl, _, hc2, _⟩
    · simp [Value.ownBlock] at hg'
    · simp only [Value.ownBlock, Option.some.injEq] at hg hg'
      subst hg; subst hg'
      rw [hc] at hc2
      simp only [Option.some.injEq, Obj.cells.injEq] at hc2
      exact he hc2.2.1
theorem own_blk {w : World} {B e s n : Nat} {v : Value} {xs : List Value} (h : w.ownsRow B e s v n xs) {g t : Nat} {cs : Array Value} (hb : Blk w g t cs) (he : e ≠ t) : v.ownBlock ≠ some g := by
  intro hg
  rcases h.2 with ⟨rfl, _⟩ | ⟨g1, cap, cur, rfl, _, hc, _⟩
  · simp [Value.ownBlock] at hg
  · simp only [Value.ownBlock, Option.some.injEq] at hg
    subst hg
    unfold Blk at hb
    rw [hc] at hb
    simp only [Option.some.injEq, Obj.cells.injEq] at hb
    exact he hb.2.1
theorem own_mark {w : World} {B e s n : Nat} {v : Value} {xs : List Value} (h : w.ownsRow B e s v n xs) {D : Nat} {o : Option (List Deferred)} (hb : w.heap[D]? = some (.deferred o)) : v.ownBlock ≠ some D := by
  intro hg
  rcases h.2 with ⟨rfl, _⟩ | ⟨g1, cap, cur, rfl, _, hc, _⟩
  · simp [Value.ownBlock] at hg
  · simp only [Value.ownBlock, Option.some.injEq] at hg
    subst hg
    rw [hc] at hb
    cases hb

/-- what stands ready ahead of a builder's work: the rules, the errors -/
structure Old (A : Nat → Addr) (B : Nat) (S : List Nat) (rv : Value) (rs : List D.Rule) (b m : Nat) (wE w0 : World) : Prop where
  e : E A B wE
  ed : Env S 166 A B wE
  rules : RulesAt wE rv rs
  hB : B ≤ wE.heap.size
  bel : Below wE.heap.size wE w0
  hb : wE.heap.size ≤ b ∧ b < w0.heap.size
  hm : wE.heap.size ≤ m ∧ m < w0.heap.size
theorem Old.now {A : Nat → Addr} {B : Nat} {S : List Nat} {rv : Value} {rs : List D.Rule} {b m : Nat} {wE w0 w : World} (h : Old A B S rv rs b m wE w0) (ht : Turns (fun q => q = b ∨ q = m) w0 w) : Below wE.heap.size wE w :=
  h.bel.trans (ht.below h.bel.size (fun q hk => hk.elim (fun e => by rw [e]; exact h.hb.1) (fun e => by rw [e]; exact h.hm.1)))

/-- a builder at work: what it met, the states that it made -/
structure BS (w0 : World) (b m n k : Nat) (rv : Value) (t : List D.Sets) (next : List (List Nat)) (fits : List Nat) (nv fv tv : Value) (vs : List Value) (w : World) : Prop where
  mets : Mets w w0.heap.size b m nv fv rv n k tv t
  nrow : w.ownsRow w0.heap.size 26 1 nv next.length vs
  rows : ∀ (i : Nat) (r : List Nat), next[i]? = some r → ∃ v, vs[i]? = some v ∧ w.ownsRow w0.heap.size 3 1 v r.length (r.map natV)
  frow : w.ownsRow w0.heap.size 2 1 fv fits.length (fits.map natV)
  turns : Turns (fun q => q = b ∨ q = m) w0 w
  lb : b < w0.heap.size
  lm : m < w0.heap.size
section
variable {w0 w w' : World} {b m n k : Nat} {rv : Value} {t : List D.Sets} {next : List (List Nat)} {fits : List Nat} {nv fv tv : Value} {vs : List Value}
/-- what leaves the builder's own blocks alone -/
theorem BS.keep {own : Nat → Prop} (h : BS w0 b m n k rv t next fits nv fv tv vs w) (ht : Turns own w w') (hb : ¬ own b) (hm : ¬ own m) (hn : ∀ g, nv.ownBlock = some g → ¬ own g) (hf : ∀ g, fv.ownBlock = some g → ¬ own g) (htv : ∀ g, tv.ownBlock = some g → ¬ own g)
    (hr : ∀ v ∈ vs, ∀ g, v.ownBlock = some g → ¬ own g) (ho : ∀ q, q < w0.heap.size → ¬ own q) : BS w0 b m n k rv t next fits nv fv tv vs w' := by
  refine ⟨⟨ht.blk h.mets.blk hb, (ht.block m (Array.getElem?_eq_some_iff.1 h.mets.met).1 hm).trans h.mets.met, ht.row h.mets.row htv, h.mets.fine, h.mets.apart, h.mets.bm⟩, ht.row h.nrow hn, fun i r hi => ?_, ht.row h.frow hf, turns_old h.turns ht (fun q hq e => absurd e (ho q hq)), h.lb, h.lm⟩
  obtain ⟨v, hv, hrow⟩ := h.rows i r hi
  exact ⟨v, hv, ht.row hrow (hr v (List.mem_of_getElem? hv))⟩
theorem BS.below (h : BS w0 b m n k rv t next fits nv fv tv vs w) (hb : Below w.heap.size w w') : BS w0 b m n k rv t next fits nv fv tv vs w' :=
  h.keep (own := fun _ => False) (Turns.of_below hb) (fun h => h) (fun h => h) (fun _ _ h => h) (fun _ _ h => h) (fun _ _ h => h) (fun _ _ _ _ h => h) (fun _ _ h => h)
theorem BS.rows_of (h : BS w0 b m n k rv t next fits nv fv tv vs w) : ∀ v ∈ vs, ∃ r : List Nat, w.ownsRow w0.heap.size 3 1 v r.length (r.map natV) := by
  intro v hv
  obtain ⟨i, hi⟩ := List.mem_iff_getElem?.1 hv
  have hl : vs.length = next.length := by have := h.nrow.1; omega
  have hin : i < next.length := by have := (List.getElem?_eq_some_iff.1 hi).1; omega
  obtain ⟨v', h1, h2⟩ := h.rows i _ (List.getElem?_eq_getElem hin)
  rw [hi] at h1
  cases h1
  exact ⟨_, h2⟩
/-- the number of some sets has been looked up -/
theorem BS.number (h : BS w0 b m n k rv t next fits nv fv tv vs w) {s : D.Sets} {e : Ending} (hp : numPost w0.heap.size b m nv fv rv n k tv t s w e w') : ∃ tv', BS w0 b m n k rv (D.add t s) next fits nv fv tv' vs w' := by
  obtain ⟨-, ht, tv', hM, -⟩ := hp
  have hlt := h.mets.row.lt
  have hbm : ∀ g, w0.heap.size ≤ g → g ≠ b ∧ g ≠ m := fun g hg => ⟨by have := h.lb; omega, by have := h.lm; omega⟩
  refine ⟨tv', hM, ht.row h.nrow (fun g hg => ?_), fun i r hi => ?_, ht.row h.frow (fun g hg => ?_), turns_old h.turns ht (fun q hq e => ?_), h.lb, h.lm⟩
  · rintro (e | e | e)
    · exact (hbm g (h.nrow.lt g hg).1).1 e
    · exact (hbm g (h.nrow.lt g hg).1).2 e
    · exact own_ne h.nrow h.mets.row (by decide) hg e
  · obtain ⟨v, hv, hrow⟩ := h.rows i r hi
    refine ⟨v, hv, ht.row hrow (fun g hg => ?_)⟩
    rintro (e | e | e)
    · exact (hbm g (hrow.lt g hg).1).1 e
    · exact (hbm g (hrow.lt g hg).1).2 e
    · exact own_ne hrow h.mets.row (by decide) hg e
  · rintro (e | e | e)
    · exact (hbm g (h.frow.lt g hg).1).1 e
    · exact (hbm g (h.frow.lt g hg).1).2 e
    · exact own_ne h.frow h.mets.row (by decide) hg e
  · rcases e with e | e | e
    · exact .inl e
    · exact .inr e
    · have := (hlt q e).1; omega
theorem own_ints {w : World} {base : Nat} {v : Value} {r : List Nat} (h : w.ownsRow base 3 1 v r.length (r.map natV)) : IntsAt w v (r.map fun x : Nat => (x : Int)) := ints_own h rfl
/-- the states, as a machine -/
theorem BS.mach (h : BS w0 b m n k rv t next fits nv fv tv vs w) : RowsAt w nv (next.map fun r => r.map fun x : Nat => (x : Int)) ∧ IntsAt w fv (fits.map fun x : Nat => (x : Int)) := by
  refine ⟨?_, ints_own h.frow rfl⟩
  have hl : vs.length = next.length := by have := h.nrow.1; omega
  rcases h.nrow.2 with ⟨h1, h2⟩ | ⟨g, cap, cur, h1, h2, h3, h4, h5, h6, h7⟩
  · exact .inl ⟨h1, by rw [List.eq_nil_of_length_eq_zero h2]; rfl⟩
  · refine .inr ⟨g, 0, none, cap, by rw [h1, List.length_map], by rw [List.length_map]; exact h4, h5, fun hn => ⟨rfl, (Array.getElem?_eq_some_iff.1 h3).1, fun i r hr => ?_⟩⟩
    rw [List.getElem?_map] at hr
    obtain ⟨r0, h8, rfl⟩ := Option.map_eq_some_iff.1 hr
    obtain ⟨v, hv, hrow⟩ := h.rows i r0 h8
    refine ⟨v, ?_, own_ints hrow⟩
    have := h.nrow.cells (g := g) (by rw [h1]; rfl) i v hv
    rw [show (⟨g, 0 + i, none⟩ : Addr) = (⟨g, 0, none⟩ : Addr).add i by unfold Addr.add; by_cases h0 : i = 0 <;> simp [h0]]
    exact this
end
end Go.Proofs.YtjemdepcaaadiaaGreatDoor

/- WHAT THE BUILDER's WORK BEGINS WITH. -/
namespace Go.Proofs.YtjemdepcaaadiaaGreatDoor
open Go.RowKit Go.Shelf
attribute [local go_sem] Oper.semAt_some

def sideOk (rs : List D.Rule) : Prop := ∀ x ∈ rs, rightB x.1.2 = true
theorem first_all {A : Nat → Addr} {B b n m : Nat} {nv fv rv tv : Value} {rs : List D.Rule} {W : World} (h1 : Bb W b nv fv rv n m tv) (h2 : RulesAt W rv rs) (h3 : E A B W) (h4 : B ≤ W.heap.size) (hr : sideOk rs) (hl : rs.length ≤ 40) :
    Calls Tryz.prog 49 #[.pointer (some ⟨b, 0, none⟩), .func (.func 50) #[] #[]] W fun e w' => e = .returned (.agg (keyC (D.firstAll (lefts rs)))) ∧ Below W.heap.size W w' := by
  have := each_any b nv fv rv n m tv rs 50 #[] (D.firstAt (lefts rs)) W h1 h2 hl (enters_of Tryz.func50 (by kernel_rfl) rfl) (fun i x vl vr W' hx hb hil hir => by
    have := first1_any A B i x vl vr W' (hr x (List.mem_of_getElem? hx)) hil hir (h3.below (hb.mono h4)) (Nat.le_trans h4 hb.size)
    unfold D.firstAt
    rw [lefts_at hx]
    exact this)
  rw [← lefts_len] at this
  exact this
theorem small_of_good {rs : List D.Rule} {s : D.Sets} (hr : sideOk rs) (h : D.Good (lefts rs) s) : Small s := by
  intro x hx
  obtain ⟨i, hi⟩ := List.mem_iff_getElem?.1 hx
  have hl := (List.getElem?_eq_some_iff.1 hi).1
  have hi' : i < rs.length := by have := h.1; rw [lefts_len] at this; omega
  have h2 := h.2 i (by rw [lefts_len]; exact hi')
  rw [lefts_at (List.getElem?_eq_getElem hi'), List.getD, hi] at h2
  exact lt_62 _ (right_len (hr _ (List.getElem_mem hi'))) _ h2
theorem mets_zero {w : World} {base b m : Nat} {nv fv rv : Value} {n k : Nat} (hk : k ≤ 40) (hb : Bb w b nv fv rv n m (.slice none 0 0)) (hm : w.heap[m]? = some (.map #[] 0)) (hbm : b ≠ m) : Mets w base b m nv fv rv n k (.slice none 0 0) [] :=
  ⟨hb, hm, World.ownsRow_nil _ _ _ _, ⟨hk, fun _ h => absurd h List.not_mem_nil, fun _ h => absurd h List.not_mem_nil, List.nodup_nil⟩, fun g hg => by simp [Value.ownBlock] at hg, hbm⟩
theorem bs_zero {w0 w : World} {b m : Nat} {rv : Value} {n k : Nat} (hk : k ≤ 40) (hb : Bb w b (.slice none 0 0) (.slice none 0 0) rv n m (.slice none 0 0)) (hm : w.heap[m]? = some (.map #[] 0)) (hbm : b ≠ m) (hw : Below w0.heap.size w0 w) (lb : b < w0.heap.size) (lm : m < w0.heap.size) :
    BS w0 b m n k rv [] [] [] (.slice none 0 0) (.slice none 0 0) (.slice none 0 0) [] w :=
  ⟨mets_zero hk hb hm hbm, World.ownsRow_nil _ _ _ _, fun i r h => by simp at h, World.ownsRow_nil _ _ _ _, (Turns.of_below (own := fun _ => False) hw).mono (fun _ h => h.elim), lb, lm⟩

end Go.Proofs.YtjemdepcaaadiaaGreatDoor

/- THE BUILDER's INNER LOOP: what it has in memory from round to round. -/
namespace Go.Proofs.YtjemdepcaaadiaaGreatDoor
open Go.RowKit

/-- a builder within a state's row: N1 holds the row, L is the record of the loop -/
structure IN (w0 : World) (N1 L b m n k : Nat) (rv : Value) (t : List D.Sets) (next : List (List Nat)) (fits row : List Nat) (nv fv tv cv : Value) (vs : List Value) (Ds : List Nat) (W : World) : Prop where
  bs : BS w0 b m n k rv t next fits nv fv tv vs W
  cur : Blk W N1 26 #[cv]
  crow : W.ownsRow w0.heap.size 3 1 cv row.length (row.map natV)
  hp : Blk W w0.heap.size 64 #[.pointer (some ⟨b, 0, none⟩)]
  he : Blk W (w0.heap.size + 1) 57 #[.nilIface]
  marks : Marks w0 Ds W
  nlt : ∀ g, nv.ownBlock = some g → g < N1
  flt : ∀ g, fv.ownBlock = some g → g < N1
  vlt : ∀ v ∈ vs, ∀ g, v.ownBlock = some g → g < N1
  tvb : ∀ g, tv.ownBlock = some g → g < N1 ∨ L < g
  cvb : ∀ g, cv.ownBlock = some g → L < g
  dlt : ∀ q ∈ Ds, q < N1
  n0 : w0.heap.size + 1 < N1
  n1 : N1 < L
section
variable {w0 W W' : World} {N1 L b m n k : Nat} {rv : Value} {t : List D.Sets} {next : List (List Nat)} {fits row : List Nat} {nv fv tv cv : Value} {vs : List Value} {Ds : List Nat}
theorem IN.turns {own : Nat → Prop} (h : IN w0 N1 L b m n k rv t next fits row nv fv tv cv vs Ds W) (ht : Turns own W W') (ho : ∀ q, own q → q = L) : IN w0 N1 L b m n k rv t next fits row nv fv tv cv vs Ds W' := by
  have h0 := h.n0
  have h1 := h.n1
  have hb := h.bs.lb
  have hm := h.bs.lm
  refine ⟨h.bs.keep ht (fun e => ?_) (fun e => ?_) (fun g hg e => ?_) (fun g hg e => ?_) (fun g hg e => ?_) (fun v hv g hg e => ?_) (fun q hq e => ?_), ht.blk h.cur (fun e => ?_), ht.row h.crow (fun g hg e => ?_), ht.blk h.hp (fun e => ?_), ht.blk h.he (fun e => ?_), h.marks.turns ht (fun q hq e => ?_), h.nlt, h.flt, h.vlt, h.tvb, h.cvb, h.dlt, h.n0, h.n1⟩
  all_goals have e' := ho _ e
  · omega
  · omega
  · have := h.nlt g hg; omega
  · have := h.flt g hg; omega
  · have := h.tvb g hg; omega
  · have := h.vlt v hv g hg; omega
  · omega
  · omega
  · have := h.cvb g hg; omega
  · omega
  · omega
  · have := h.dlt q hq; omega
theorem IN.number (h : IN w0 N1 L b m n k rv t next fits row nv fv tv cv vs Ds W) {s : D.Sets} {e : Ending} (hp : numPost w0.heap.size b m nv fv rv n k tv t s W e W') (hL : L < W.heap.size) :
    (∃ tv', IN w0 N1 L b m n k rv (D.add t s) next fits row nv fv tv' cv vs Ds W') ∧ Turns (fun q => q = b ∨ q = m ∨ tv.ownBlock = some q) W W' := by
  have h0 := h.n0
  have h1 := h.n1
  have hb := h.bs.lb
  have hm := h.bs.lm
  have ht := hp.2.1
  obtain ⟨tv', hM, hg⟩ := hp.2.2
  have htb : ∀ g, tv'.ownBlock = some g → g < N1 ∨ L < g := by
    intro g hg'
    rcases hg with e | ⟨g2, e, h2⟩
    · exact h.tvb g (by rw [← e]; exact hg')
    · rw [hg'] at e; cases e; right; omega
  have hbs' : BS w0 b m n k rv (D.add t s) next fits nv fv tv' vs W' := by
    have hbm : ∀ g, w0.heap.size ≤ g → g ≠ b ∧ g ≠ m := fun g hg => ⟨by omega, by omega⟩
    refine ⟨hM, ht.row h.bs.nrow (fun g hg => ?_), fun i r hi => ?_, ht.row h.bs.frow (fun g hg => ?_), turns_old h.bs.turns ht (fun q hq e => ?_), h.bs.lb, h.bs.lm⟩
    · rintro (e | e | e)
      · exact (hbm g (h.bs.nrow.lt g hg).1).1 e
      · exact (hbm g (h.bs.nrow.lt g hg).1).2 e
      · exact own_ne h.bs.nrow h.bs.mets.row (by decide) hg e
    · obtain ⟨v, hv, hrow⟩ := h.bs.rows i r hi
      refine ⟨v, hv, ht.row hrow (fun g hg => ?_)⟩
      rintro (e | e | e)
      · exact (hbm g (hrow.lt g hg).1).1 e
      · exact (hbm g (hrow.lt g hg).1).2 e
      · exact own_ne hrow h.bs.mets.row (by decide) hg e
    · rintro (e | e | e)
      · exact (hbm g (h.bs.frow.lt g hg).1).1 e
      · exact (hbm g (h.bs.frow.lt g hg).1).2 e
      · exact own_ne h.bs.frow h.bs.mets.row (by decide) hg e
    · rcases e with e | e | e
      · exact .inl e
      · exact .inr e
      · have := (h.bs.mets.row.lt q e).1; omega
  refine ⟨⟨tv', hbs', ht.blk h.cur ?_, ht.row h.crow (fun g hg => ?_), ht.blk h.hp ?_, ht.blk h.he ?_, h.marks.turns ht (fun q hq => ?_), h.nlt, h.flt, h.vlt, htb, h.cvb, h.dlt, h.n0, h.n1⟩, ht⟩
  · rintro (e | e | e)
    · omega
    · omega
    · exact own_blk h.bs.mets.row h.cur (by decide) e
  · have := h.cvb g hg
    rintro (e | e | e)
    · omega
    · omega
    · exact own_ne h.crow h.bs.mets.row (by decide) hg e
  · rintro (e | e | e)
    · omega
    · omega
    · exact own_blk h.bs.mets.row h.hp (by decide) e
  · rintro (e | e | e)
    · omega
    · omega
    · exact own_blk h.bs.mets.row h.he (by decide) e
  · have h3 := h.marks.at' q hq
    rintro (e | e | e)
    · omega
    · omega
    · exact own_mark h.bs.mets.row h3.2 e
/-- a number more in the row -/
theorem IN.push (h : IN w0 N1 L b m n k rv t next fits row nv fv tv cv vs Ds W) (hL : L < W.heap.size) {x : Nat} {o : Obj} {W1 : World} {cv' : Value} (hown : W1.ownsRow w0.heap.size 3 1 cv' (row.length + 1) (row.map natV ++ [natV x])) (hgrow : (W.alloc o).grownBy W1 cv.ownBlock)
    (hat : cv'.ownBlock = cv.ownBlock ∨ cv'.ownBlock = some (W.alloc o).heap.size) :
    IN w0 N1 L b m n k rv t next fits (row ++ [x]) nv fv tv cv' vs Ds (W1.setCell ⟨N1, 0, none⟩ cv') ∧ Turns (fun q => q = N1 ∨ cv.ownBlock = some q) W (W1.setCell ⟨N1, 0, none⟩ cv') := by
  have h0 := h.n0
  have h1 := h.n1
  have hb := h.bs.lb
  have hm := h.bs.lm
  have hT1 : Turns (fun q => cv.ownBlock = some q) W W1 := (Turns.alloc W o).trans (turns_grown hgrow (fun q hq => hq))
  have hT2 : Turns (fun q => q = N1) W1 (W1.setCell ⟨N1, 0, none⟩ cv') := Turns.setCell (own := fun q => q = N1) W1 (p := ⟨N1, 0, none⟩) rfl _
  have hT := (hT1.mono (own' := fun q => q = N1 ∨ cv.ownBlock = some q) (fun q hq => .inr hq)).trans (hT2.mono (fun q hq => .inl hq))
  have hcb : ∀ g, cv'.ownBlock = some g → L < g := by
    intro g hg
    rcases hat with e | e
    · exact h.cvb g (by rw [← e]; exact hg)
    · rw [hg] at e; simp at e; omega
  have hcur1 : Blk W1 N1 26 #[cv] := hT1.blk h.cur (fun e => own_blk h.crow h.cur (by decide) e)
  refine ⟨⟨h.bs.keep hT ?_ ?_ (fun g hg => ?_) (fun g hg => ?_) (fun g hg => ?_) (fun v hv g hg => ?_) (fun q hq => ?_), hcur1.set_ 0 _, ?_, hT.blk h.hp ?_, hT.blk h.he ?_, h.marks.turns hT (fun q hq => ?_), h.nlt, h.flt, h.vlt, h.tvb, hcb, h.dlt, h.n0, h.n1⟩, hT⟩
  · rintro (e | e)
    · omega
    · have := h.cvb _ e; omega
  · rintro (e | e)
    · omega
    · have := h.cvb _ e; omega
  · have := h.nlt g hg
    rintro (e | e)
    · omega
    · have := h.cvb _ e; omega
  · have := h.flt g hg
    rintro (e | e)
    · omega
    · have := h.cvb _ e; omega
  · rintro (e | e)
    · subst e; exact own_blk h.bs.mets.row h.cur (by decide) hg
    · exact own_ne h.bs.mets.row h.crow (by decide) hg e
  · have := h.vlt v hv g hg
    rintro (e | e)
    · omega
    · have := h.cvb _ e; omega
  · rintro (e | e)
    · omega
    · have := h.cvb _ e; omega
  · rw [List.length_append, List.map_append]
    exact hT2.row hown (fun g hg => by have := hcb g hg; omega)
  · rintro (e | e)
    · omega
    · have := h.cvb _ e; omega
  · rintro (e | e)
    · omega
    · have := h.cvb _ e; omega
  · have := h.dlt q hq
    rintro (e | e)
    · omega
    · have := h.cvb _ e; omega
end

/-- a builder between two states -/
structure FS (w0 : World) (b m n k : Nat) (rv : Value) (t : List D.Sets) (next : List (List Nat)) (fits : List Nat) (nv fv tv : Value) (vs : List Value) (Ds : List Nat) (W : World) : Prop where
  bs : BS w0 b m n k rv t next fits nv fv tv vs W
  hp : Blk W w0.heap.size 64 #[.pointer (some ⟨b, 0, none⟩)]
  he : Blk W (w0.heap.size + 1) 57 #[.nilIface]
  marks : Marks w0 Ds W
section
variable {w0 W W1 : World} {b m n k : Nat} {rv : Value} {t : List D.Sets} {next : List (List Nat)} {fits row : List Nat} {nv fv tv cv nv' fv' : Value} {vs : List Value} {Ds : List Nat}
theorem FS.below {W' : World} (h : FS w0 b m n k rv t next fits nv fv tv vs Ds W) (hb : Below W.heap.size W W') : FS w0 b m n k rv t next fits nv fv tv vs Ds W' :=
  ⟨h.bs.below hb, h.hp.below hb h.hp.lt, h.he.below hb h.he.lt, h.marks.turns (own := fun _ => False) (Turns.of_below hb) (fun _ _ h => h)⟩
/-- a row more -/
theorem FS.push_next (h : FS w0 b m n k rv t next fits nv fv tv vs Ds W) {o : Obj} (hc : W.ownsRow w0.heap.size 3 1 cv row.length (row.map natV)) (hown : W1.ownsRow w0.heap.size 26 1 nv' (next.length + 1) (vs ++ [cv])) (hgrow : (W.alloc o).grownBy W1 nv.ownBlock) :
    FS w0 b m n k rv t (next ++ [row]) fits nv' fv tv (vs ++ [cv]) Ds (W1.setCell ⟨b, 0, none⟩ nv') := by
  have hb := h.bs.lb
  have hm := h.bs.lm
  have hT1 : Turns (fun q => nv.ownBlock = some q) W W1 := (Turns.alloc W o).trans (turns_grown hgrow (fun q hq => hq))
  have hT2 : Turns (fun q => q = b) W1 (W1.setCell ⟨b, 0, none⟩ nv') := Turns.setCell (own := fun q => q = b) W1 (p := ⟨b, 0, none⟩) rfl _
  have hT := (hT1.mono (own' := fun q => q = b ∨ nv.ownBlock = some q) (fun q hq => .inr hq)).trans (hT2.mono (fun q hq => .inl hq))
  have hge : ∀ q, nv.ownBlock = some q → w0.heap.size ≤ q := fun q hq => (h.bs.nrow.lt q hq).1
  have hvl : vs.length = next.length := by have := h.bs.nrow.1; omega
  have hblk1 : Bb W1 b nv fv rv n m tv := hT1.blk h.bs.mets.blk (fun e => by have := hge _ e; omega)
  refine ⟨⟨⟨hblk1.set_ 0 _, (hT.block m (Array.getElem?_eq_some_iff.1 h.bs.mets.met).1 ?_).trans h.bs.mets.met, hT.row h.bs.mets.row (fun g hg => ?_), h.bs.mets.fine, h.bs.mets.apart, h.bs.mets.bm⟩, ?_, fun i r hi => ?_, hT.row h.bs.frow (fun g hg => ?_), turns_old h.bs.turns hT (fun q hq e => ?_), hb, hm⟩, hT.blk h.hp ?_, hT.blk h.he ?_, h.marks.turns hT (fun q hq => ?_)⟩
  · rintro (e | e)
    · exact h.bs.mets.bm e.symm
    · have := hge _ e; omega
  · rintro (e | e)
    · have := (h.bs.mets.row.lt g hg).1; omega
    · exact own_ne h.bs.mets.row h.bs.nrow (by decide) hg e
  · rw [List.length_append]
    exact hT2.row hown (fun g hg => by have := (hown.lt g hg).1; omega)
  · rcases Nat.lt_or_ge i next.length with hlt | hge'
    · rw [List.getElem?_append_left hlt] at hi
      obtain ⟨v, hv, hrow⟩ := h.bs.rows i r hi
      refine ⟨v, by rw [List.getElem?_append_left (by omega)]; exact hv, hT.row hrow (fun g hg => ?_)⟩
      rintro (e | e)
      · have := (hrow.lt g hg).1; omega
      · exact own_ne hrow h.bs.nrow (by decide) hg e
    · rw [List.getElem?_append_right hge'] at hi
      obtain ⟨h1, h2⟩ := List.getElem?_eq_some_iff.1 hi
      simp only [List.length_cons, List.length_nil] at h1
      have hi0 : i - next.length = 0 := by omega
      obtain rfl : row = r := by rw [← h2]; simp [hi0]
      refine ⟨cv, by rw [List.getElem?_append_right (by omega), hvl, hi0]; rfl, hT.row hc (fun g hg => ?_)⟩
      rintro (e | e)
      · have := (hc.lt g hg).1; omega
      · exact own_ne hc h.bs.nrow (by decide) hg e
  · rintro (e | e)
    · have := (h.bs.frow.lt g hg).1; omega
    · exact own_ne h.bs.frow h.bs.nrow (by decide) hg e
  · rcases e with e | e
    · exact .inl e
    · have := hge _ e; omega
  · rintro (e | e)
    · omega
    · exact own_blk h.bs.nrow h.hp (by decide) e
  · rintro (e | e)
    · omega
    · exact own_blk h.bs.nrow h.he (by decide) e
  · have h4 := h.marks.at' q hq
    rintro (e | e)
    · omega
    · exact own_mark h.bs.nrow h4.2 e
/-- a set of rules that fit more -/
theorem FS.push_fits (h : FS w0 b m n k rv t next fits nv fv tv vs Ds W) {o : Obj} {f : Nat} (hown : W1.ownsRow w0.heap.size 2 1 fv' (fits.length + 1) (fits.map natV ++ [natV f])) (hgrow : (W.alloc o).grownBy W1 fv.ownBlock) :
    FS w0 b m n k rv t next (fits ++ [f]) nv fv' tv vs Ds (W1.setCell ⟨b, 1, none⟩ fv') := by
  have hb := h.bs.lb
  have hm := h.bs.lm
  have hT1 : Turns (fun q => fv.ownBlock = some q) W W1 := (Turns.alloc W o).trans (turns_grown hgrow (fun q hq => hq))
  have hT2 : Turns (fun q => q = b) W1 (W1.setCell ⟨b, 1, none⟩ fv') := Turns.setCell (own := fun q => q = b) W1 (p := ⟨b, 1, none⟩) rfl _
  have hT := (hT1.mono (own' := fun q => q = b ∨ fv.ownBlock = some q) (fun q hq => .inr hq)).trans (hT2.mono (fun q hq => .inl hq))
  have hge : ∀ q, fv.ownBlock = some q → w0.heap.size ≤ q := fun q hq => (h.bs.frow.lt q hq).1
  have hblk1 : Bb W1 b nv fv rv n m tv := hT1.blk h.bs.mets.blk (fun e => by have := hge _ e; omega)
  refine ⟨⟨⟨hblk1.set_ 1 _, (hT.block m (Array.getElem?_eq_some_iff.1 h.bs.mets.met).1 ?_).trans h.bs.mets.met, hT.row h.bs.mets.row (fun g hg => ?_), h.bs.mets.fine, h.bs.mets.apart, h.bs.mets.bm⟩, hT.row h.bs.nrow (fun g hg => ?_), fun i r hi => ?_, ?_, turns_old h.bs.turns hT (fun q hq e => ?_), hb, hm⟩, hT.blk h.hp ?_, hT.blk h.he ?_, h.marks.turns hT (fun q hq => ?_)⟩
  · rintro (e | e)
    · exact h.bs.mets.bm e.symm
    · have := hge _ e; omega
  · rintro (e | e)
    · have := (h.bs.mets.row.lt g hg).1; omega
    · exact own_ne h.bs.mets.row h.bs.frow (by decide) hg e
  · rintro (e | e)
    · have := (h.bs.nrow.lt g hg).1; omega
    · exact own_ne h.bs.nrow h.bs.frow (by decide) hg e
  · obtain ⟨v, hv, hrow⟩ := h.bs.rows i r hi
    refine ⟨v, hv, hT.row hrow (fun g hg => ?_)⟩
    rintro (e | e)
    · have := (hrow.lt g hg).1; omega
    · exact own_ne hrow h.bs.frow (by decide) hg e
  · rw [List.length_append, List.map_append]
    exact hT2.row hown (fun g hg => by have := (hown.lt g hg).1; omega)
  · rcases e with e | e
    · exact .inl e
    · have := hge _ e; omega
  · rintro (e | e)
    · omega
    · exact own_blk h.bs.frow h.hp (by decide) e
  · rintro (e | e)
    · omega
    · exact own_blk h.bs.frow h.he (by decide) e
  · have h4 := h.marks.at' q hq
    rintro (e | e)
    · omega
    · exact own_mark h.bs.frow h4.2 e
end
end Go.Proofs.YtjemdepcaaadiaaGreatDoor

/- ONE ROUND OF THE BUILDER's INNER LOOP: a class, and what it makes of some sets. -/
namespace Go.Proofs.YtjemdepcaaadiaaGreatDoor
open Go.RowKit Go.Shelf
attribute [local go_sem] Oper.semAt_some

theorem int_info : (Tryz.prog.info? 3).map (fun i => (i.zero, i.size, i.bytes)) = some (some (.int .i64 0), 1, 8) := by kernel_rfl
def firstLoop : Code → Option Code
  | .loop c => some c
  | .seq a b => match firstLoop a with
    | some c => some c
    | none => firstLoop b
  | .block _ c => firstLoop c
  | .scope c => firstLoop c
  | .cond _ a b => match firstLoop a with
    | some c => some c
    | none => firstLoop b
  | _ => none
def firstRange : Code → Option (Operand × Array Tmp × Code × Code)
  | .rangeFunc g ps asg body => some (g, ps, asg, body)
  | .loop c => firstRange c
  | .seq a b => match firstRange a with
    | some c => some c
    | none => firstRange b
  | .block _ c => firstRange c
  | .scope c => firstRange c
  | .cond _ a b => match firstRange a with
    | some c => some c
    | none => firstRange b
  | _ => none
noncomputable def bldRange : Operand × Array Tmp × Code × Code := (Tryz.f36.body.bind firstRange).getD (.tmp 0, #[], .skip, .skip)
noncomputable def bldBody : Code := bldRange.2.2.2

/-- what the inner loop keeps -/
def InI (w0 : World) (N1 L b m n : Nat) (rv : Value) (sd : List D.Side) (K : Nat) (S : D.Sets) (nv fv : Value) (vs : List Value) (Ds : List Nat) (pre : List Nat) (W : World) : Prop :=
  (D.row sd n S (D.build sd n K).todo pre.length).2.length ≤ 300 ∧ ∃ tv cv, IN w0 N1 L b m n sd.length rv (D.row sd n S (D.build sd n K).todo pre.length).2 (D.build sd n K).next (D.build sd n K).fits (D.row sd n S (D.build sd n K).todo pre.length).1 nv fv tv cv vs Ds W
/-- there were too many -/
def InX (w0 : World) (A : Nat → Addr) (b m : Nat) (sd : List D.Side) (n : Nat) (Ds : List Nat) (W : World) : Prop :=
  D.isFew sd n = false ∧ Turns (fun q => q = b ∨ q = m) w0 W ∧ Blk W (w0.heap.size + 1) 57 #[errV A 0] ∧ Marks w0 Ds W

set_option maxRecDepth 100000 in
set_option maxHeartbeats 4000000 in
theorem inner_any (A : Nat → Addr) (B : Nat) (Se : List Nat) (hSe : 0 ∈ Se) (n' L Dd N1 b m n K : Nat) (rv : Value) (rs : List D.Rule) (S : D.Sets) (nv fv : Value) (vs : List Value) (Ds : List Nat) (keep : Nat → Prop) (wE w0 W0 W : World) (pre : List Nat) (ub : Nat)
    (hO : Old A B Se rv rs b m wE w0) (hI : InI w0 N1 L b m n rv (lefts rs) K S nv fv vs Ds pre W0) (ht : Turns (fun q => q = L) W0 W) (hL : L < W0.heap.size) (hkeep : ∀ q, keep q ∨ q = L ∨ q = Dd → (N1 < q ∧ q ≤ L) ∨ (W0.heap.size ≤ q ∧ q < W.heap.size)) (hK : (D.build (lefts rs) n K).next.length = K) (hS : (D.build (lefts rs) n K).todo[K]? = some S) (hK3 : (D.build (lefts rs) n K).todo.length ≤ 300) (hpre : pre.length ≤ n) (hn : n ≤ 32) (hl : rs.length ≤ 40) (hr : sideOk rs) (hub : Blk W ub 92 (keyC (D.stepAll (lefts rs) S (D.cls n pre.length)))) (s3 s5 s7 s8 s9 s10 s11 s12 s13 s14 s15 s16 s17 s18 s19 s20 s21 s22 s23 s24 s25 s26 s27 s28 s29 s30 s31 s32 s33 s34 s35 s36 s37 s38 s39 s40 s41 s42 s43 s44 s45 s46 s47 s48 s49 s50 s51 s52 s53 s54 s55 s56 s57 s58 s59 s60 s61 s62 s63 s64 s65 s66 s67 s68 s69 s70 s71 s72 s73 s74 s75 s76 s77 : Value) :
    bldBody.wpIn (Fence.wide.inRound L) n' Tryz.prog (roundP keep (InI w0 N1 L b m n rv (lefts rs) K S nv fv vs Ds) (fun c _ W' => c = .ret ∧ InX w0 A b m (lefts rs) n Ds W') L Dd (pre ++ [pre.length]) W) { tmps := (Value.pointer (some ⟨b, 0, none⟩) :: Value.pointer (some ⟨w0.heap.size, 0, none⟩) :: Value.pointer (some ⟨w0.heap.size + 1, 0, none⟩) :: s3 :: Value.pointer (some ⟨N1, 0, none⟩) :: s5 :: Value.pointer (some ⟨ub, 0, none⟩) :: s7 :: s8 :: s9 :: s10 :: s11 :: s12 :: s13 :: s14 :: s15 :: s16 :: s17 :: s18 :: s19 :: s20 :: s21 :: s22 :: s23 :: s24 :: s25 :: s26 :: s27 :: s28 :: s29 :: s30 :: s31 :: s32 :: s33 :: s34 :: s35 :: s36 :: s37 :: s38 :: s39 :: s40 :: s41 :: s42 :: s43 :: s44 :: s45 :: s46 :: s47 :: s48 :: s49 :: s50 :: s51 :: s52 :: s53 :: s54 :: s55 :: s56 :: s57 :: s58 :: s59 :: s60 :: s61 :: s62 :: s63 :: s64 :: s65 :: s66 :: s67 :: s68 :: s69 :: s70 :: s71 :: s72 :: s73 :: s74 :: s75 :: s76 :: s77 :: []).toArray, defers := [] } W := by
  obtain ⟨hlen, tv, cv, hIN0⟩ := hI
  obtain ⟨t, hti⟩ : ∃ t, (D.row (lefts rs) n S (D.build (lefts rs) n K).todo pre.length).2 = t := ⟨_, rfl⟩
  obtain ⟨rw, hrw⟩ : ∃ rw, (D.row (lefts rs) n S (D.build (lefts rs) n K).todo pre.length).1 = rw := ⟨_, rfl⟩
  obtain ⟨s, hs⟩ : ∃ s, D.stepAll (lefts rs) S (D.cls n pre.length) = s := ⟨_, rfl⟩
  have HRS := Box.mk (show D.row (lefts rs) n S (D.build (lefts rs) n K).todo (pre.length + 1) = (rw ++ [D.place t s], D.add t s) by rw [D.row_succ, hti, hrw, hs])
  have hrl : rw.length = pre.length := by rw [← hrw, D.row_len]
  have HRL := Box.mk hrl
  have hrl33 : rw.length ≤ 32 := by omega
  have HTI := Box.mk hti
  have HK := Box.mk hK
  clear hrl hK
  rw [hti] at hlen hIN0
  rw [hrw] at hIN0
  have hgood : D.Good (lefts rs) s := by rw [← hs]; exact D.good_step _ _ _
  have hsl : s.length = rs.length := by have := hgood.1; rwa [lefts_len] at this
  have HIN := Box.mk (hIN0.turns ht (fun q hq => hq))
  have HB := Box.mk hub
  rw [hs] at HB
  have hLW : L < W.heap.size := Nat.lt_of_lt_of_le hL ht.size
  have HNUM := Box.mk ((callsIn_wide (n := n' - 1)).2 (number_any w0.heap.size b m nv fv rv n (lefts rs).length tv t s W HIN.out.bs.mets hgood.1 (small_of_good hr hgood) hlen (Nat.le_of_lt HIN.out.hp.lt)))
  have HIF := Box.mk (show (Tryz.prog.info? 92).map (·.size) = some (keyC s).size by rw [keyInfo, keyC_size s (by omega)])
  have c1 : W.cell? ⟨w0.heap.size, 0, none⟩ = some (.pointer (some ⟨b, 0, none⟩)) := (HIN.out.hp.cell 0).trans rfl
  have l1 := HIN.out.hp.lt
  -- what the round leaves alone
  have HKP := Box.mk (show ∀ W' : World, Turns (fun q => q = b ∨ q = m ∨ tv.ownBlock = some q ∨ q = N1 ∨ cv.ownBlock = some q ∨ q = w0.heap.size + 1) W W' → Holds (fun q => keep q ∨ q = L ∨ q = Dd) W W' from fun W' hT => by
    have htlt := hIN0.bs.mets.row.lt
    have hclt := hIN0.crow.lt
    have hsz := ht.size
    have h0 := hIN0.n0
    have h1 := hIN0.n1
    have hb := hIN0.bs.lb
    have hm := hIN0.bs.lm
    refine Holds.of_turns hT (fun q hq => ?_) (fun q hq => ?_)
    · have := hkeep q hq; omega
    · have hk := hkeep q hq
      rintro (e | e | e | e | e | e)
      · omega
      · omega
      · have h3 := hIN0.tvb q e; have h4 := (htlt q e).2; omega
      · omega
      · have h3 := hIN0.cvb q e; have h4 := (hclt q e).2; omega
      · omega)
  have HSL := Box.mk hsl
  clear hub hs hIN0 hkeep ht hti hrw hsl
  conv => arg 4; whnf
  gi_wp2_with (refine wpListIn_load_row rfl 92 _ rfl ub rfl 92 (keyC s) (0, 0) _ HB.out Tryz.underlying92 rfl HIF.out ?_)
  refine ⟨trivial, fun h => by simp [Fence.wide] at h, (CallsIn.inRound L HNUM.out).mono ?_⟩
  rintro e W1 hp
  obtain ⟨⟨tv', hIN1⟩, hT1⟩ := HIN.out.number hp hLW
  have he := hp.1
  subst he
  have HT1 := Box.mk hT1
  have HIN1 := Box.mk hIN1
  by_cases hfew : D.place t s < 300
  · have hd : decide (D.place t s < 300) = true := decide_eq_true hfew
    rw [hd]
    obtain ⟨ca, cc, rfl⟩ := ownsRow_shape hIN1.crow
    have c4 : W1.cell? ⟨N1, 0, none⟩ = some (.slice ca rw.length cc) := (hIN1.cur.cell 0).trans rfl
    have l4 := hIN1.cur.lt
    obtain ⟨i0, hi, hz0, hz1, hz2⟩ := info_parts int_info
    have HL1 := Box.mk (Nat.lt_of_lt_of_le hLW hT1.size)
    have HTL := Box.mk (show (D.add t s).length ≤ 300 by
      unfold D.add
      split
      · exact hlen
      · rename_i hns
        rw [D.place_new hns] at hfew
        simp; omega)
    have hbs : w0.heap.size ≤ W1.heap.size := Nat.le_of_lt hIN1.hp.lt
    clear hp hIN1 hT1 hd c1 l1
    gi_wp2_with (gi_at_builtin; refine wpListIn_append_own_at _ rfl _ _ 26 rfl w0.heap.size 3 i0 (.int .i64 0) 1 8 Tryz.underlying26 hi hz0 hz1 hz2 rfl (by decide) (.slice ca rw.length cc) _ _ rfl (HIN1.out.crow.alloc _) ⟨W1.heap.size, 0, none⟩ 1 1 [.int .i64 (D.place t s : Int)] rfl rfl (cell_one_new _ _ _) (by simp [Value.oneCell']) (by unfold maxLen; omega) (by omega) (by simp; omega) ?_; intro v' w1 hown' hgrow _ hat; obtain ⟨g', cap', rfl⟩ := ownsRow_succ hown'; have hv1 := (HIN1.out.cur.alloc _).grown hgrow (Ne.symm (own_blk HIN1.out.crow HIN1.out.cur (by decide))); have hc1 := hv1.cell 0; have hf1 := hv1.frozen 0; simp at hc1)
    have hg' : (Value.slice (some ⟨g', 0, none⟩) (rw.length + 1) cap').ownBlock = (Value.slice ca rw.length cc).ownBlock ∨ (Value.slice (some ⟨g', 0, none⟩) (rw.length + 1) cap').ownBlock = some (W1.alloc (.cells #[.int .i64 (D.place t s : Int)] 3)).heap.size := hat
    obtain ⟨hIN2, hT2⟩ := HIN1.out.push HL1.out (x := D.place t s) hown' hgrow hg'
    refine ⟨(HKP.out _ ((HT1.out.mono ?_).trans (hT2.mono ?_))).mono (fun q hq => hq), ?_⟩
    · rintro q (e | e | e)
      · exact .inl e
      · exact .inr (.inl e)
      · exact .inr (.inr (.inl e))
    · rintro q (e | e)
      · exact .inr (.inr (.inr (.inl e)))
      · exact .inr (.inr (.inr (.inr (.inl e))))
    · unfold InI
      rw [List.length_append, List.length_cons, List.length_nil, Nat.zero_add, HRS.out]
      exact ⟨HTL.out, tv', _, hIN2⟩
  · have hd : decide (D.place t s < 300) = false := decide_eq_false hfew
    rw [hd]
    have hns : s ∉ t := fun hm => hfew (Nat.lt_of_lt_of_le (D.place_lt hm) hlen)
    have htl : t.length = 300 := by rw [D.place_new hns] at hfew; omega
    have HFEW := Box.mk (show D.isFew (lefts rs) n = false by
      have hKl : K < (D.build (lefts rs) n K).todo.length := (List.getElem?_eq_some_iff.1 hS).1
      refine D.few_no (lefts rs) n (k := K + 1) (by omega) ?_
      have hgo : D.build (lefts rs) n (K + 1) = _ := D.go_some (lefts rs) n (b := D.build (lefts rs) n K) (by rw [HK.out]; exact hS)
      rw [hgo]
      have hle := D.row_le (lefts rs) n S (D.build (lefts rs) n K).todo (show pre.length + 1 ≤ n + 1 by omega)
      rw [HRS.out] at hle
      have : (D.add t s).length = 301 := by unfold D.add; rw [if_neg hns]; simp; omega
      simp only at hle ⊢
      omega)
    have hbel := hO.now hIN1.bs.turns
    have hed := hO.ed.below (hbel.mono hO.hB)
    have hg : W1.cell? ⟨0, 0, none⟩ = some (errV A 0) := hed.var _ hSe
    have lg : 0 < W1.heap.size := by have h1 := (hed.lt _ hSe).1; have h2 := hO.hB; have h3 := hbel.size; omega
    have cbe : W1.cell? ⟨w0.heap.size + 1, 0, none⟩ = some .nilIface := (hIN1.he.cell 0).trans rfl
    have fbe := hIN1.he.frozen 0
    have lbe := hIN1.he.lt
    have hTS : Turns (fun q => q = w0.heap.size + 1) W1 (W1.setCell ⟨w0.heap.size + 1, 0, none⟩ (errV A 0)) := Turns.setCell (own := fun q => q = w0.heap.size + 1) W1 (p := ⟨w0.heap.size + 1, 0, none⟩) rfl _
    have HX := Box.mk (show InX w0 A b m (lefts rs) n Ds (W1.setCell ⟨w0.heap.size + 1, 0, none⟩ (errV A 0)) from
      ⟨HFEW.out, turns_old hIN1.bs.turns hTS (fun q hq e => by omega), hIN1.he.set_ 0 _, hIN1.marks.turns hTS (fun q hq e => by have := hIN1.dlt q hq; have h4 := (hIN1.marks.at' q hq).2; subst e; rw [show W1.heap[w0.heap.size + 1]? = _ from hIN1.he] at h4; cases h4)⟩)
    have HHO := Box.mk ((HKP.out _ ((hT1.mono (own' := fun q => q = b ∨ q = m ∨ tv.ownBlock = some q ∨ q = N1 ∨ cv.ownBlock = some q ∨ q = w0.heap.size + 1) (by
      rintro q (e | e | e)
      · exact .inl e
      · exact .inr (.inl e)
      · exact .inr (.inr (.inl e)))).trans (hTS.mono (fun q e => .inr (.inr (.inr (.inr (.inr e)))))))).mono (own' := fun q => q = L ∨ q = Dd) (fun q hq => .inr hq))
    clear hp hIN1 hT1 hd c1 l1 hbel hed hTS hns htl hfew
    unfold errV at hg HX HHO
    gi_wp2
    exact ⟨HHO.out, rfl, HX.out⟩
end Go.Proofs.YtjemdepcaaadiaaGreatDoor
