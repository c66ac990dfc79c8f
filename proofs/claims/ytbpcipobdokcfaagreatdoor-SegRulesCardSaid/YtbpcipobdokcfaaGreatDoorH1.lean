/-
  Texts of this claim, one behind the other: Utf, Base, ErrIs, Env, Laid, Laid2, NfaP, NfaP2, NfaS, NfaT, NfaU.
-/
import Derived.KernelRfl
import Derived.Test.YtbpcipobdokcfaaGreatDoorProg
import Derived.WalkKit
import Derived.WalkSpells
import Derived.WalkLawsBesides
import Derived.Handy
import Derived.Lib.Hide
import Derived.Deep.QuietTactic
import Derived.BigQuiet
import Derived.Deep.RegionHeld3
import Derived.Deep.RegionWith
import Derived.Deep.DeepCutAuto
import Derived.StillTailTactics
import Derived.MapKept
import Derived.LaidEql
import Derived.Stop.Asserts
import Derived.Stop.LaidTwo
import Derived.RowKitTokens
import Derived.Laws.OwnMore
import Derived.Deep.Draws
import Derived.Stop.LaidErr
import Derived.ProofKit

/- PLAIN. UTF-8 on lists of bytes: the row of a first byte, the scalar that a text begins with, a scalar's bytes; that the two are inverse; nothing of any program. -/
namespace Go.Proofs.YtbpcipobdokcfaaGreatDoor.U

/-- how many bytes stand behind a first byte; below 0: it is none. -/
def rowN (c : Int) : Int := if c < 128 then 0 else if c < 194 then -1 else if c < 224 then 1 else if c < 240 then 2 else if c < 245 then 3 else -1
def rowLo (c : Int) : Int := if rowN c < 0 then 0 else if c = 224 then 160 else if c = 240 then 144 else 128
def rowHi (c : Int) : Int := if rowN c < 0 then 0 else if c = 237 then 159 else if c = 244 then 143 else 191
def rowM (c : Int) : Int := if rowN c < 0 then 0 else if c < 128 then 0 else if c < 224 then 192 else if c < 240 then 224 else 240

def right (r : Int) : Bool := decide (0 ≤ r) && decide (r ≤ 1114111) && (decide (r < 55296) || decide (57343 < r))

/-- a byte that may stand behind -/
def isTail (c : UInt8) : Bool := decide (128 ≤ c.toNat) && decide (c.toNat ≤ 191)
def b2i (c : UInt8) : Int := (c.toNat : Int)
/-- what tail bytes make of a number -/
def fold (a : Int) (l : List UInt8) : Int := l.foldl (fun a c => 64 * a + b2i c - 128) a

/-- the bytes behind the first one are as the row asks -/
def tailOk (c : Int) (l : List UInt8) : Bool :=
  decide (rowN c ≤ (l.length : Int)) && (l.take (rowN c).toNat).all isTail &&
    (match l.take (rowN c).toNat with | [] => true | d :: _ => decide (rowLo c ≤ b2i d) && decide (b2i d ≤ rowHi c))

/-- the scalar that a text begins with, and how many bytes it has -/
def dec : List UInt8 → Option (Int × Nat)
  | [] => none
  | c :: l => if rowN (b2i c) < 0 then none else if tailOk (b2i c) l then some (fold (b2i c - rowM (b2i c)) (l.take (rowN (b2i c)).toNat), (rowN (b2i c)).toNat + 1) else none

def byte (n : Int) : UInt8 := UInt8.ofNat n.toNat
/-- a scalar's bytes -/
def enc (r : Int) : List UInt8 :=
  if r < 128 then [byte r]
  else if r < 2048 then [byte (192 + r / 64), byte (128 + r % 64)]
  else if r < 65536 then [byte (224 + r / 4096), byte (128 + r / 64 % 64), byte (128 + r % 64)]
  else [byte (240 + r / 262144), byte (128 + r / 4096 % 64), byte (128 + r / 64 % 64), byte (128 + r % 64)]

theorem b2i_nonneg (c : UInt8) : 0 ≤ b2i c := by unfold b2i; omega
theorem b2i_lt (c : UInt8) : b2i c < 256 := by unfold b2i; have := c.toNat_lt; omega
theorem b2i_byte (n : Int) (h0 : 0 ≤ n) (h1 : n < 256) : b2i (byte n) = n := by
  unfold b2i byte
  rw [UInt8.toNat_ofNat']
  have : n.toNat % 2 ^ 8 = n.toNat := Nat.mod_eq_of_lt (by omega)
  rw [this]; omega
theorem b2i_inj {c d : UInt8} (h : b2i c = b2i d) : c = d := by
  apply UInt8.toNat_inj.1; unfold b2i at h; omega
theorem byte_b2i (c : UInt8) : byte (b2i c) = c := b2i_inj (b2i_byte _ (b2i_nonneg c) (b2i_lt c))
theorem byte_eq {n : Int} {c : UInt8} (h : n = b2i c) : byte n = c := by rw [h, byte_b2i]
theorem isTail_iff (c : UInt8) : isTail c = true ↔ 128 ≤ b2i c ∧ b2i c ≤ 191 := by
  unfold isTail b2i; simp; omega
theorem isTail_false (c : UInt8) : isTail c = false ↔ b2i c < 128 ∨ 191 < b2i c := by
  rw [← Bool.not_eq_true, isTail_iff]; omega

theorem right_iff (r : Int) : right r = true ↔ 0 ≤ r ∧ r ≤ 1114111 ∧ (r < 55296 ∨ 57343 < r) := by
  unfold right; simp; omega

theorem enc_len (r : Int) : 1 ≤ (enc r).length ∧ (enc r).length ≤ 4 := by
  unfold enc; repeat' (first | split | simp)

/-- a scalar's bytes, whatever stands behind them, begin with it -/
theorem dec_enc (r : Int) (h : right r = true) (t : List UInt8) : dec (enc r ++ t) = some (r, (enc r).length) := by
  rw [right_iff] at h
  obtain ⟨h0, h1, h2⟩ := h
  unfold enc
  split
  · simp only [List.cons_append, List.nil_append, dec]
    rw [b2i_byte r h0 (by omega)]
    have e1 : rowN r = 0 := by unfold rowN; rw [if_pos (by omega)]
    have e2 : rowM r = 0 := by unfold rowM; rw [e1]; simp; omega
    simp [e1, e2, tailOk, fold]
  · split
    · simp only [List.cons_append, List.nil_append, dec]
      rw [b2i_byte (192 + r / 64) (by omega) (by omega)]
      have e1 : rowN (192 + r / 64) = 1 := by unfold rowN; rw [if_neg (by omega), if_neg (by omega), if_pos (by omega)]
      have e2 : rowM (192 + r / 64) = 192 := by unfold rowM; rw [e1, if_neg (by omega), if_neg (by omega), if_pos (by omega)]
      have e3 : rowLo (192 + r / 64) = 128 := by unfold rowLo; rw [e1, if_neg (by omega), if_neg (by omega), if_neg (by omega)]
      have e4 : rowHi (192 + r / 64) = 191 := by unfold rowHi; rw [e1, if_neg (by omega), if_neg (by omega), if_neg (by omega)]
      have b1 := b2i_byte (128 + r % 64) (by omega) (by omega)
      have t1 : isTail (byte (128 + r % 64)) = true := by rw [isTail_iff, b1]; omega
      simp [e1, e2, e3, e4, tailOk, fold, t1, b1]
      constructor <;> omega
    · split
      · simp only [List.cons_append, List.nil_append, dec]
        rw [b2i_byte (224 + r / 4096) (by omega) (by omega)]
        have e1 : rowN (224 + r / 4096) = 2 := by unfold rowN; rw [if_neg (by omega), if_neg (by omega), if_neg (by omega), if_pos (by omega)]
        have e2 : rowM (224 + r / 4096) = 224 := by unfold rowM; rw [e1, if_neg (by omega), if_neg (by omega), if_neg (by omega), if_pos (by omega)]
        have b1 := b2i_byte (128 + r / 64 % 64) (by omega) (by omega)
        have b2 := b2i_byte (128 + r % 64) (by omega) (by omega)
        have t1 : isTail (byte (128 + r / 64 % 64)) = true := by rw [isTail_iff, b1]; omega
        have t2 : isTail (byte (128 + r % 64)) = true := by rw [isTail_iff, b2]; omega
        have e3 : rowLo (224 + r / 4096) ≤ 128 + r / 64 % 64 := by unfold rowLo; rw [e1]; repeat' (first | omega | split)
        have e4 : 128 + r / 64 % 64 ≤ rowHi (224 + r / 4096) := by unfold rowHi; rw [e1]; repeat' (first | omega | split)
        have e5 : (2 : Int) ≤ (t.length : Int) + 1 + 1 := by omega
        simp [e1, e2, e3, e4, e5, tailOk, fold, t1, t2, b1, b2]
        omega
      · simp only [List.cons_append, List.nil_append, dec]
        rw [b2i_byte (240 + r / 262144) (by omega) (by omega)]
        have e1 : rowN (240 + r / 262144) = 3 := by unfold rowN; rw [if_neg (by omega), if_neg (by omega), if_neg (by omega), if_neg (by omega), if_pos (by omega)]
        have e2 : rowM (240 + r / 262144) = 240 := by unfold rowM; rw [e1, if_neg (by omega), if_neg (by omega), if_neg (by omega), if_neg (by omega)]
        have b1 := b2i_byte (128 + r / 4096 % 64) (by omega) (by omega)
        have b2 := b2i_byte (128 + r / 64 % 64) (by omega) (by omega)
        have b3 := b2i_byte (128 + r % 64) (by omega) (by omega)
        have t1 : isTail (byte (128 + r / 4096 % 64)) = true := by rw [isTail_iff, b1]; omega
        have t2 : isTail (byte (128 + r / 64 % 64)) = true := by rw [isTail_iff, b2]; omega
        have t3 : isTail (byte (128 + r % 64)) = true := by rw [isTail_iff, b3]; omega
        have e3 : rowLo (240 + r / 262144) ≤ 128 + r / 4096 % 64 := by unfold rowLo; rw [e1]; repeat' (first | omega | split)
        have e4 : 128 + r / 4096 % 64 ≤ rowHi (240 + r / 262144) := by unfold rowHi; rw [e1]; repeat' (first | omega | split)
        have e5 : (3 : Int) ≤ (t.length : Int) + 1 + 1 + 1 := by omega
        simp [e1, e2, e3, e4, e5, tailOk, fold, t1, t2, t3, b1, b2, b3]
        omega

theorem rowN_cases (c : Int) : rowN c = -1 ∨ rowN c = 0 ∨ rowN c = 1 ∨ rowN c = 2 ∨ rowN c = 3 := by unfold rowN; repeat' (first | omega | split)
theorem rowN_zero (c : Int) (h : rowN c = 0) : c < 128 := by unfold rowN at h; split at h; assumption; repeat' (first | omega | split at h)
theorem rowN_one (c : Int) (h : rowN c = 1) : 194 ≤ c ∧ c < 224 := by unfold rowN at h; repeat' (first | omega | split at h)
theorem rowN_two (c : Int) (h : rowN c = 2) : 224 ≤ c ∧ c < 240 := by unfold rowN at h; repeat' (first | omega | split at h)
theorem rowN_three (c : Int) (h : rowN c = 3) : 240 ≤ c ∧ c < 245 := by unfold rowN at h; repeat' (first | omega | split at h)
theorem rowLo_ge (c : Int) (h : 0 ≤ rowN c) : 128 ≤ rowLo c ∧ (c = 224 → rowLo c = 160) ∧ (c = 240 → rowLo c = 144) := by
  unfold rowLo; rw [if_neg (by omega)]; repeat' (first | omega | split)
theorem rowHi_le (c : Int) (h : 0 ≤ rowN c) : rowHi c ≤ 191 ∧ (c = 237 → rowHi c = 159) ∧ (c = 244 → rowHi c = 143) := by
  unfold rowHi; rw [if_neg (by omega)]; repeat' (first | omega | split)
theorem tail_range {c : UInt8} (h : isTail c = true) : 128 ≤ b2i c ∧ b2i c ≤ 191 := (isTail_iff c).1 h

/-- what a text begins with is a scalar, and its bytes are the text's first -/
theorem dec_some {s : List UInt8} {r : Int} {n : Nat} (h : dec s = some (r, n)) : right r = true ∧ enc r = s.take n ∧ 1 ≤ n ∧ n ≤ 4 ∧ n ≤ s.length := by
  cases s with
  | nil => simp [dec] at h
  | cons c l =>
    have c0 := b2i_nonneg c
    simp only [dec] at h
    split at h
    · cases h
    rename_i hn
    split at h
    case isFalse => cases h
    rename_i ht
    simp only [Option.some.injEq, Prod.mk.injEq] at h
    obtain ⟨rfl, rfl⟩ := h
    simp only [tailOk, Bool.and_eq_true, decide_eq_true_eq] at ht
    obtain ⟨⟨hlen, hall⟩, hd⟩ := ht
    rcases rowN_cases (b2i c) with e | e | e | e | e
    · omega
    · have hc := rowN_zero _ e
      have em : rowM (b2i c) = 0 := by unfold rowM; rw [e]; simp; omega
      simp only [e, em, Int.toNat_zero, List.take_zero, fold, List.foldl_nil, Int.sub_zero, Nat.zero_add, List.take_succ_cons]
      refine ⟨by rw [right_iff]; omega, ?_, by omega, by omega, by simp⟩
      unfold enc; rw [if_pos hc, byte_b2i]
    · have hc := rowN_one _ e
      have em : rowM (b2i c) = 192 := by unfold rowM; rw [e, if_neg (by omega), if_neg (by omega), if_pos (by omega)]
      rcases l with _ | ⟨d1, l⟩
      · simp [e] at hlen
      ·
        simp only [e, Int.toNat_one, List.take_succ_cons, List.take_zero, List.all_cons, List.all_nil, Bool.and_true] at hall
        have t1 := tail_range hall
        simp only [e, em, Int.toNat_one, List.take_succ_cons, List.take_zero, fold, List.foldl_cons, List.foldl_nil]
        refine And.intro ((right_iff _).2 (by omega)) (And.intro ?_ (And.intro (by omega) (And.intro (by omega) (by simp))))
        unfold enc; rw [if_neg (by omega), if_pos (by omega)]
        simp only [List.cons.injEq, and_true]
        exact ⟨byte_eq (by omega), byte_eq (by omega)⟩
    · have hc := rowN_two _ e
      have em : rowM (b2i c) = 224 := by unfold rowM; rw [e, if_neg (by omega), if_neg (by omega), if_neg (by omega), if_pos (by omega)]
      have hlo := rowLo_ge (b2i c) (by omega)
      have hhi := rowHi_le (b2i c) (by omega)
      rcases l with _ | ⟨d1, l⟩
      · simp [e] at hlen
      rcases l with _ | ⟨d2, l⟩
      · simp [e] at hlen
      ·
        have e2 : (2 : Int).toNat = 2 := rfl
        simp only [e, e2, List.take_succ_cons, List.take_zero, List.all_cons, List.all_nil, Bool.and_true, Bool.and_eq_true] at hall
        simp only [e, e2, List.take_succ_cons, List.take_zero, Bool.and_eq_true, decide_eq_true_eq] at hd
        have t1 := tail_range hall.1
        have t2 := tail_range hall.2
        simp only [e, e2, em, List.take_succ_cons, List.take_zero, fold, List.foldl_cons, List.foldl_nil]
        refine And.intro ((right_iff _).2 (by omega)) (And.intro ?_ (And.intro (by omega) (And.intro (by omega) (by simp))))
        unfold enc; rw [if_neg (by omega), if_neg (by omega), if_pos (by omega)]
        simp only [List.cons.injEq, and_true]
        exact ⟨byte_eq (by omega), byte_eq (by omega), byte_eq (by omega)⟩
    · have hc := rowN_three _ e
      have em : rowM (b2i c) = 240 := by unfold rowM; rw [e, if_neg (by omega), if_neg (by omega), if_neg (by omega), if_neg (by omega)]
      have hlo := rowLo_ge (b2i c) (by omega)
      have hhi := rowHi_le (b2i c) (by omega)
      rcases l with _ | ⟨d1, l⟩
      · simp [e] at hlen
      rcases l with _ | ⟨d2, l⟩
      · simp [e] at hlen
      rcases l with _ | ⟨d3, l⟩
      · simp [e] at hlen
      ·
        have e2 : (3 : Int).toNat = 3 := rfl
        simp only [e, e2, List.take_succ_cons, List.take_zero, List.all_cons, List.all_nil, Bool.and_true, Bool.and_eq_true] at hall
        simp only [e, e2, List.take_succ_cons, List.take_zero, Bool.and_eq_true, decide_eq_true_eq] at hd
        have t1 := tail_range hall.1
        have t2 := tail_range hall.2.1
        have t3 := tail_range hall.2.2
        simp only [e, e2, em, List.take_succ_cons, List.take_zero, fold, List.foldl_cons, List.foldl_nil]
        refine And.intro ((right_iff _).2 (by omega)) (And.intro ?_ (And.intro (by omega) (And.intro (by omega) (by simp))))
        unfold enc; rw [if_neg (by omega), if_neg (by omega), if_neg (by omega)]
        simp only [List.cons.injEq, and_true]
        exact ⟨byte_eq (by omega), byte_eq (by omega), byte_eq (by omega), byte_eq (by omega)⟩

/-- the scalar that a text begins with is the same, whatever stands behind its bytes -/
theorem dec_take {s : List UInt8} {r : Int} {n : Nat} (h : dec s = some (r, n)) (t : List UInt8) : dec (s.take n ++ t) = some (r, n) := by
  obtain ⟨hr, he, h1, _, hn⟩ := dec_some h
  have := dec_enc r hr t
  rw [he] at this
  rw [this, List.length_take, Nat.min_eq_left hn]

/-- a text's scalars, up to so many steps -/
def scal : Nat → List UInt8 → Option (List Int)
  | 0, s => if s = [] then some [] else none
  | k + 1, s => if s = [] then some [] else
    match dec s with
    | none => none
    | some (r, n) => (scal k (s.drop n)).map (r :: ·)
def scalars (s : List UInt8) : Option (List Int) := scal s.length s
def valid (s : List UInt8) : Bool := (scalars s).isSome
def textOf (l : List Int) : List UInt8 := l.flatMap enc

theorem scal_more (k : Nat) : ∀ (s : List UInt8) (j : Nat), s.length ≤ k → s.length ≤ j → scal k s = scal j s := by
  induction k with
  | zero => intro s j h _; have : s = [] := List.eq_nil_of_length_eq_zero (by omega); subst this; cases j <;> rfl
  | succ k ih =>
    intro s j h hj
    cases j with
    | zero => have : s = [] := List.eq_nil_of_length_eq_zero (by omega); subst this; rfl
    | succ j =>
      simp only [scal]
      split
      · rfl
      · cases hd : dec s with
        | none => rfl
        | some p =>
          obtain ⟨r, n⟩ := p
          have := dec_some hd
          simp only
          rw [ih (s.drop n) j (by rw [List.length_drop]; omega) (by rw [List.length_drop]; omega)]

theorem scalars_nil : scalars [] = some [] := rfl
theorem scalars_none {s : List UInt8} (hs : s ≠ []) (h : dec s = none) : scalars s = none := by
  unfold scalars
  cases hl : s.length with
  | zero => exact absurd (List.eq_nil_of_length_eq_zero hl) hs
  | succ k => simp only [scal]; rw [if_neg hs, h]
theorem scalars_some {s : List UInt8} {r : Int} {n : Nat} (h : dec s = some (r, n)) : scalars s = (scalars (s.drop n)).map (r :: ·) := by
  have hs : s ≠ [] := by rintro rfl; simp [dec] at h
  have := dec_some h
  unfold scalars
  cases hl : s.length with
  | zero => exact absurd (List.eq_nil_of_length_eq_zero hl) hs
  | succ k =>
    simp only [scal]; rw [if_neg hs, h]
    simp only
    rw [scal_more k (s.drop n) (s.drop n).length (by rw [List.length_drop]; omega) (Nat.le_refl _)]

theorem enc_ne (r : Int) : enc r ≠ [] := by have := enc_len r; intro h; rw [h] at this; simp at this
theorem scalars_enc (r : Int) (h : right r = true) (t : List UInt8) : scalars (enc r ++ t) = (scalars t).map (r :: ·) := by
  rw [scalars_some (dec_enc r h t), List.drop_left]
theorem scalars_textOf (l : List Int) (h : ∀ r ∈ l, right r = true) (t : List UInt8) : scalars (textOf l ++ t) = (scalars t).map (l ++ ·) := by
  induction l with
  | nil => simp [textOf]
  | cons r l ih =>
    have e : textOf (r :: l) ++ t = enc r ++ (textOf l ++ t) := by simp [textOf]
    rw [e, scalars_enc r (h r (by simp)), ih (fun r hr => h r (by simp [hr])), Option.map_map]
    congr 1
theorem textOf_scalars (k : Nat) : ∀ (s : List UInt8) (l : List Int), s.length ≤ k → scalars s = some l → textOf l = s ∧ ∀ r ∈ l, right r = true := by
  induction k with
  | zero =>
    intro s l hk h
    have : s = [] := List.eq_nil_of_length_eq_zero (by omega)
    subst this
    rw [scalars_nil] at h
    cases h
    exact ⟨rfl, fun r hr => by cases hr⟩
  | succ k ih =>
    intro s l hk h
    by_cases hs : s = []
    · subst hs
      rw [scalars_nil] at h
      cases h
      exact ⟨rfl, fun r hr => by cases hr⟩
    cases hd : dec s with
    | none => rw [scalars_none hs hd] at h; cases h
    | some p =>
      obtain ⟨r, n⟩ := p
      obtain ⟨hr, he, h1, _, hn⟩ := dec_some hd
      rw [scalars_some hd] at h
      cases hl : scalars (s.drop n) with
      | none => rw [hl] at h; cases h
      | some l' =>
        rw [hl] at h
        simp only [Option.map_some, Option.some.injEq] at h
        subst h
        obtain ⟨g1, g2⟩ := ih _ l' (by rw [List.length_drop]; omega) hl
        refine ⟨?_, fun x hx => ?_⟩
        · show enc r ++ textOf l' = s
          rw [g1, he, List.take_append_drop]
        · rcases List.mem_cons.1 hx with rfl | hx
          · exact hr
          · exact g2 x hx
theorem scalars_iff (s : List UInt8) (l : List Int) : scalars s = some l ↔ textOf l = s ∧ ∀ r ∈ l, right r = true := by
  refine ⟨textOf_scalars s.length s l (Nat.le_refl _), fun ⟨h1, h2⟩ => ?_⟩
  have := scalars_textOf l h2 []
  rw [List.append_nil, h1, scalars_nil] at this
  simpa using this
theorem valid_iff (s : List UInt8) : valid s = true ↔ ∃ l, textOf l = s ∧ ∀ r ∈ l, right r = true := by
  unfold valid
  rw [Option.isSome_iff_exists]
  exact ⟨fun ⟨l, h⟩ => ⟨l, (scalars_iff s l).1 h⟩, fun ⟨l, h⟩ => ⟨l, (scalars_iff s l).2 h⟩⟩
theorem textOf_append (a b : List Int) : textOf (a ++ b) = textOf a ++ textOf b := by simp [textOf]

/-- a first byte is no tail -/
theorem enc_head (r : Int) (h : right r = true) : ∃ c l, enc r = c :: l ∧ isTail c = false ∧ l.all isTail = true := by
  rw [right_iff] at h
  unfold enc
  split
  · refine ⟨_, _, rfl, ?_, rfl⟩
    rw [isTail_false, b2i_byte _ (by omega) (by omega)]; omega
  · split
    · refine ⟨_, _, rfl, ?_, ?_⟩
      · rw [isTail_false, b2i_byte _ (by omega) (by omega)]; omega
      · simp only [List.all_cons, List.all_nil, Bool.and_true]
        rw [isTail_iff, b2i_byte _ (by omega) (by omega)]; omega
    · split
      · refine ⟨_, _, rfl, ?_, ?_⟩
        · rw [isTail_false, b2i_byte _ (by omega) (by omega)]; omega
        · simp only [List.all_cons, List.all_nil, Bool.and_true, Bool.and_eq_true]
          rw [isTail_iff, isTail_iff, b2i_byte _ (by omega) (by omega), b2i_byte _ (by omega) (by omega)]; omega
      · refine ⟨_, _, rfl, ?_, ?_⟩
        · rw [isTail_false, b2i_byte _ (by omega) (by omega)]; omega
        · simp only [List.all_cons, List.all_nil, Bool.and_true, Bool.and_eq_true]
          rw [isTail_iff, isTail_iff, isTail_iff, b2i_byte _ (by omega) (by omega), b2i_byte _ (by omega) (by omega), b2i_byte _ (by omega) (by omega)]; omega
/-- a well-formed text does not begin with a tail -/
theorem valid_head {c : UInt8} {l : List UInt8} (h : valid (c :: l) = true) : isTail c = false := by
  obtain ⟨k, h1, h2⟩ := (valid_iff _).1 h
  cases k with
  | nil => simp [textOf] at h1
  | cons r k =>
    obtain ⟨d, t, he, hd, _⟩ := enc_head r (h2 r (by simp))
    have : textOf (r :: k) = enc r ++ textOf k := rfl
    rw [this, he] at h1
    simp only [List.cons_append, List.cons.injEq] at h1
    rw [← h1.1]; exact hd

theorem valid_nil : valid [] = true := rfl
theorem valid_append_left {s : List UInt8} (h : valid s = true) (t : List UInt8) : valid (s ++ t) = valid t := by
  obtain ⟨l, rfl, hl⟩ := (valid_iff _).1 h
  unfold valid
  rw [scalars_textOf l hl t]
  cases scalars t <;> rfl
/-- a text that begins with a scalar's bytes: these are not cut by a well-formed end -/
theorem valid_append_right {t : List UInt8} (ht : valid t = true) (k : Nat) : ∀ s : List UInt8, s.length ≤ k → valid (s ++ t) = true → valid s = true := by
  induction k with
  | zero => intro s hk _; have : s = [] := List.eq_nil_of_length_eq_zero (by omega); subst this; rfl
  | succ k ih =>
    intro s hk h
    by_cases hs : s = []
    · subst hs; rfl
    obtain ⟨l, h1, h2⟩ := (valid_iff _).1 h
    cases l with
    | nil => simp [textOf] at h1; exact absurd h1.1 hs
    | cons r l =>
      have hr := h2 r (by simp)
      have e : textOf (r :: l) = enc r ++ textOf l := rfl
      rw [e] at h1
      by_cases hlen : (enc r).length ≤ s.length
      · have h3 : (enc r ++ textOf l).take (enc r).length = (s ++ t).take (enc r).length := by rw [h1]
        rw [List.take_left, List.take_append_of_le_length hlen] at h3
        have h4 : s = enc r ++ s.drop (enc r).length := by
          conv => lhs; rw [← List.take_append_drop (enc r).length s]
          rw [← h3]
        have h5 : textOf l = s.drop (enc r).length ++ t := by
          have := h1
          rw [h4, List.append_assoc] at this
          have := List.append_cancel_left this
          simpa using this
        have hv : valid (s.drop (enc r).length) = true := by
          refine ih _ (by rw [List.length_drop]; have := enc_len r; omega) ?_
          exact (valid_iff _).2 ⟨l, h5, fun x hx => h2 x (by simp [hx])⟩
        rw [h4, valid_append_left ((valid_iff _).2 ⟨[r], by simp [textOf], by simpa using hr⟩)]
        exact hv
      · exfalso
        obtain ⟨c, tl, he, _, hall⟩ := enc_head r hr
        cases s with
        | nil => exact hs rfl
        | cons c' s' =>
          cases t with
          | nil =>
            have := congrArg List.length h1
            simp at this hlen
            have := enc_len r
            omega
          | cons d t =>
            have hd := valid_head ht
            rw [he] at h1 hlen
            simp only [List.cons_append, List.cons.injEq] at h1
            have h6 : (tl ++ textOf l)[s'.length]? = (s' ++ d :: t)[s'.length]? := by rw [h1.2]
            simp only [List.length_cons] at hlen
            rw [List.getElem?_append_left (by omega), List.getElem?_append_right (Nat.le_refl _)] at h6
            simp only [Nat.sub_self, List.getElem?_cons_zero] at h6
            have hm : d ∈ tl := List.mem_of_getElem? h6
            have := List.all_eq_true.1 hall d hm
            rw [hd] at this
            cases this
theorem valid_joins {s t : List UInt8} (ht : valid t = true) : valid (s ++ t) = valid s := by
  cases hs : valid s with
  | true => rw [valid_append_left hs, ht]
  | false =>
    cases h : valid (s ++ t) with
    | false => rfl
    | true => rw [valid_append_right ht s.length s (Nat.le_refl _) h] at hs; cases hs

/-- no part of a scalar's bytes is well-formed -/
theorem pieces (r : Int) (h : right r = true) (i : Nat) (h1 : 1 ≤ i) (h2 : i < (enc r).length) : valid ((enc r).take i) = false ∧ valid ((enc r).drop i) = false := by
  obtain ⟨c, tl, he, hc, hall⟩ := enc_head r h
  constructor
  · rw [← Bool.not_eq_true]
    intro hv
    have hsome : valid (enc r) = true := (valid_iff _).2 ⟨[r], by simp [textOf], by simpa using h⟩
    rw [← List.take_append_drop i (enc r), valid_append_left hv] at hsome
    cases hd : (enc r).drop i with
    | nil => have := congrArg List.length hd; simp at this; omega
    | cons d u =>
      rw [hd] at hsome
      have hh := valid_head hsome
      have hm : d ∈ tl := by
        have : (enc r).drop i = tl.drop (i - 1) := by
          rw [he]; cases i with
          | zero => omega
          | succ i => simp
        have hm : d ∈ tl.drop (i - 1) := by rw [← this, hd]; simp
        exact List.mem_of_mem_drop hm
      rw [List.all_eq_true.1 hall d hm] at hh
      cases hh
  · rw [← Bool.not_eq_true]
    intro hv
    cases hd : (enc r).drop i with
    | nil => have := congrArg List.length hd; simp at this; omega
    | cons d u =>
      rw [hd] at hv
      have hh := valid_head hv
      have hm : d ∈ tl := by
        have : (enc r).drop i = tl.drop (i - 1) := by
          rw [he]; cases i with
          | zero => omega
          | succ i => simp
        have hm : d ∈ tl.drop (i - 1) := by rw [← this, hd]; simp
        exact List.mem_of_mem_drop hm
      rw [List.all_eq_true.1 hall d hm] at hh
      cases hh

/- THE SCALAR THAT A TEXT BEGINS WITH, BY ITS FIRST BYTE's ROW: the forms that the walks meet. -/
theorem dec_bad {c : UInt8} {t : List UInt8} (e : rowN (b2i c) < 0) : dec (c :: t) = none := by simp only [dec]; rw [if_pos e]
theorem dec_short {c : UInt8} {t : List UInt8} (h : (t.length : Int) < rowN (b2i c)) : dec (c :: t) = none := by
  simp only [dec]
  split
  · rfl
  rw [if_neg]
  simp only [tailOk, Bool.and_eq_true, decide_eq_true_eq]
  omega
theorem dec_zero {c : UInt8} {t : List UInt8} (e : rowN (b2i c) = 0) : dec (c :: t) = some (b2i c, 1) := by
  have hc := rowN_zero _ e
  have em : rowM (b2i c) = 0 := by unfold rowM; rw [e]; simp; omega
  simp [dec, e, em, tailOk, fold]
theorem dec_one {c d1 : UInt8} {t : List UInt8} (e : rowN (b2i c) = 1) :
    dec (c :: d1 :: t) = if rowLo (b2i c) ≤ b2i d1 ∧ b2i d1 ≤ rowHi (b2i c) ∧ 128 ≤ b2i d1 ∧ b2i d1 ≤ 191 then some (64 * (b2i c - 192) + b2i d1 - 128, 2) else none := by
  have hc := rowN_one _ e
  have em : rowM (b2i c) = 192 := by unfold rowM; rw [e, if_neg (by omega), if_neg (by omega), if_pos (by omega)]
  have h1 := isTail_iff d1
  simp only [dec, e, em]
  rw [if_neg (by omega)]
  by_cases k1 : isTail d1 = true
  · have := h1.1 k1
    by_cases k2 : rowLo (b2i c) ≤ b2i d1 ∧ b2i d1 ≤ rowHi (b2i c)
    · rw [if_pos, if_pos (by omega)]
      · simp [fold]
      · simp [tailOk, e, k1, k2]; omega
    · rw [if_neg, if_neg (by omega)]
      simp [tailOk, e, k1]; omega
  · rw [if_neg, if_neg (by rw [h1] at k1; omega)]
    simp [tailOk, e, k1]
theorem dec_two {c d1 d2 : UInt8} {t : List UInt8} (e : rowN (b2i c) = 2) :
    dec (c :: d1 :: d2 :: t) = if rowLo (b2i c) ≤ b2i d1 ∧ b2i d1 ≤ rowHi (b2i c) ∧ 128 ≤ b2i d1 ∧ b2i d1 ≤ 191 ∧ 128 ≤ b2i d2 ∧ b2i d2 ≤ 191 then some (64 * (64 * (b2i c - 224) + b2i d1 - 128) + b2i d2 - 128, 3) else none := by
  have hc := rowN_two _ e
  have em : rowM (b2i c) = 224 := by unfold rowM; rw [e, if_neg (by omega), if_neg (by omega), if_neg (by omega), if_pos (by omega)]
  have h1 := isTail_iff d1
  have h2 := isTail_iff d2
  have e2 : (2 : Int).toNat = 2 := rfl
  simp only [dec, e, em]
  rw [if_neg (by omega)]
  by_cases k1 : isTail d1 = true ∧ isTail d2 = true
  · have j1 := h1.1 k1.1
    have j2 := h2.1 k1.2
    by_cases k2 : rowLo (b2i c) ≤ b2i d1 ∧ b2i d1 ≤ rowHi (b2i c)
    · rw [if_pos, if_pos (by omega)]
      · simp [fold, e2]
      · simp [tailOk, e, e2, k1, k2]; omega
    · rw [if_neg, if_neg (by omega)]
      simp [tailOk, e, e2, k1]; omega
  · rw [if_neg, if_neg (by rw [h1, h2] at k1; omega)]
    simp only [tailOk, e, e2, List.take_succ_cons, List.take_zero, List.all_cons, List.all_nil, Bool.and_true, Bool.and_eq_true]
    exact fun h => k1 h.1.2
theorem dec_three {c d1 d2 d3 : UInt8} {t : List UInt8} (e : rowN (b2i c) = 3) :
    dec (c :: d1 :: d2 :: d3 :: t) = if rowLo (b2i c) ≤ b2i d1 ∧ b2i d1 ≤ rowHi (b2i c) ∧ 128 ≤ b2i d1 ∧ b2i d1 ≤ 191 ∧ 128 ≤ b2i d2 ∧ b2i d2 ≤ 191 ∧ 128 ≤ b2i d3 ∧ b2i d3 ≤ 191 then some (64 * (64 * (64 * (b2i c - 240) + b2i d1 - 128) + b2i d2 - 128) + b2i d3 - 128, 4) else none := by
  have hc := rowN_three _ e
  have em : rowM (b2i c) = 240 := by unfold rowM; rw [e, if_neg (by omega), if_neg (by omega), if_neg (by omega), if_neg (by omega)]
  have h1 := isTail_iff d1
  have h2 := isTail_iff d2
  have h3 := isTail_iff d3
  have e2 : (3 : Int).toNat = 3 := rfl
  simp only [dec, e, em]
  rw [if_neg (by omega)]
  by_cases k1 : isTail d1 = true ∧ isTail d2 = true ∧ isTail d3 = true
  · have j1 := h1.1 k1.1
    have j2 := h2.1 k1.2.1
    have j3 := h3.1 k1.2.2
    by_cases k2 : rowLo (b2i c) ≤ b2i d1 ∧ b2i d1 ≤ rowHi (b2i c)
    · rw [if_pos, if_pos (by omega)]
      · simp [fold, e2]
      · simp [tailOk, e, e2, k1, k2]; omega
    · rw [if_neg, if_neg (by omega)]
      simp [tailOk, e, e2, k1]; omega
  · rw [if_neg, if_neg (by rw [h1, h2, h3] at k1; omega)]
    simp only [tailOk, e, e2, List.take_succ_cons, List.take_zero, List.all_cons, List.all_nil, Bool.and_true, Bool.and_eq_true]
    exact fun h => k1 h.1.2

theorem fold_snoc (a : Int) (l : List UInt8) (d : UInt8) : fold a (l ++ [d]) = 64 * fold a l + b2i d - 128 := by simp [fold]
theorem fold_bounds (l : List UInt8) (hl : ∀ d ∈ l, isTail d = true) : ∀ a : Int, 0 ≤ a → l.length ≤ 3 → a < 128 → 0 ≤ fold a l ∧ fold a l < 33554432 := by
  intro a ha hlen hlt
  match l, hl, hlen with
  | [], _, _ => simp [fold]; omega
  | [d], hl, _ =>
    have h1 := (isTail_iff d).1 (hl d (by simp))
    simp only [fold, List.foldl_cons, List.foldl_nil]; omega
  | [d, e], hl, _ =>
    have h1 := (isTail_iff d).1 (hl d (by simp))
    have h2 := (isTail_iff e).1 (hl e (by simp))
    simp only [fold, List.foldl_cons, List.foldl_nil]; omega
  | [d, e, f], hl, _ =>
    have h1 := (isTail_iff d).1 (hl d (by simp))
    have h2 := (isTail_iff e).1 (hl e (by simp))
    have h3 := (isTail_iff f).1 (hl f (by simp))
    simp only [fold, List.foldl_cons, List.foldl_nil]; omega
  | _ :: _ :: _ :: _ :: _, _, h => simp at h

theorem dec_of {c : UInt8} {t : List UInt8} {n m : Int} (hn : n = rowN (b2i c)) (hm : rowM (b2i c) = m) (h0 : 0 ≤ n) (hl : n ≤ t.length) (hall : ∀ d ∈ t.take n.toNat, isTail d = true)
    (hsec : n = 0 ∨ ∃ d1 t', t = d1 :: t' ∧ rowLo (b2i c) ≤ b2i d1 ∧ b2i d1 ≤ rowHi (b2i c)) : dec (c :: t) = some (fold (b2i c - m) (t.take n.toNat), n.toNat + 1) := by
  simp only [dec]
  rw [if_neg (by omega), if_pos, ← hn, hm]
  unfold tailOk
  rw [← hn]
  simp only [Bool.and_eq_true, decide_eq_true_eq]
  refine ⟨⟨hl, List.all_eq_true.2 hall⟩, ?_⟩
  rcases hsec with h | ⟨d1, t', rfl, h1, h2⟩
  · subst h; rfl
  · rcases Int.lt_or_eq_of_le h0 with h | h
    · obtain ⟨k, hk⟩ : ∃ k, n.toNat = k + 1 := ⟨n.toNat - 1, by omega⟩
      rw [hk]
      simpa using ⟨h1, h2⟩
    · rw [← h]; rfl
theorem dec_not {c : UInt8} {t : List UInt8} {d : UInt8} (h0 : 0 ≤ rowN (b2i c)) (hd : d ∈ t.take (rowN (b2i c)).toNat) (hf : isTail d = false) : dec (c :: t) = none := by
  simp only [dec]
  rw [if_neg (by omega), if_neg]
  unfold tailOk
  simp only [Bool.and_eq_true]
  intro h
  have := List.all_eq_true.1 h.1.2 d hd
  rw [hf] at this
  cases this
theorem dec_second {c d1 : UInt8} {t : List UInt8} (h0 : 0 < rowN (b2i c)) (hd : ¬ (rowLo (b2i c) ≤ b2i d1 ∧ b2i d1 ≤ rowHi (b2i c))) : dec (c :: d1 :: t) = none := by
  simp only [dec]
  rw [if_neg (by omega), if_neg]
  unfold tailOk
  simp only [Bool.and_eq_true]
  intro h
  obtain ⟨k, hk⟩ : ∃ k, (rowN (b2i c)).toNat = k + 1 := ⟨(rowN (b2i c)).toNat - 1, by omega⟩
  have := h.2
  rw [hk] at this
  simp at this
  exact hd this
theorem rowM_bounds (c : Int) (h0 : 0 ≤ c) (h1 : c < 256) : rowN c < 0 ∨ (0 ≤ c - rowM c ∧ c - rowM c < 128 ∧ 0 ≤ rowM c) := by
  rcases rowN_cases c with e | e | e | e | e
  · omega
  · have := rowN_zero _ e; unfold rowM; rw [e, if_neg (by omega), if_pos (by omega)]; omega
  · have := rowN_one _ e; unfold rowM; rw [e, if_neg (by omega), if_neg (by omega), if_pos (by omega)]; omega
  · have := rowN_two _ e; unfold rowM; rw [e, if_neg (by omega), if_neg (by omega), if_neg (by omega), if_pos (by omega)]; omega
  · have := rowN_three _ e; unfold rowM; rw [e, if_neg (by omega), if_neg (by omega), if_neg (by omega), if_neg (by omega)]; omega
end Go.Proofs.YtbpcipobdokcfaaGreatDoor.U

/- THE COMMON HEAD OF ALL WALKS: the kit's texts under one name, and small lemmas on what calls give back. Nothing of any one function. -/
namespace Go.Proofs.YtbpcipobdokcfaaGreatDoor
open Go.RowKit

/-- a fact kept out of every tactic's sight -/
structure Box (p : Prop) : Prop where
  out : p

theorem ret_bool {a b : Bool} (h : a = b) : Ending.returned (.bool a) = .returned (.bool b) := by rw [h]
theorem ret_int {k : IntKind} {a b : Int} (h : a = b) : Ending.returned (.int k a) = .returned (.int k b) := by rw [h]
theorem ret1 {a a' : Value} (h : a = a') : Ending.returned a = .returned a' := by rw [h]
theorem ret2 {a b a' b' : Value} (h : a = a') (h2 : b = b') : Ending.returned (.tuple #[a, b]) = .returned (.tuple #[a', b']) := by rw [h, h2]
theorem ret3 {a b c a' b' c' : Value} (h : a = a') (h2 : b = b') (h3 : c = c') : Ending.returned (.tuple #[a, b, c]) = .returned (.tuple #[a', b', c']) := by rw [h, h2, h3]
theorem vint {k : IntKind} {a b : Int} (h : a = b) : Value.int k a = .int k b := by rw [h]
theorem vbool {a b : Bool} (h : a = b) : Value.bool a = .bool b := by rw [h]
theorem vstr {a b : ByteArray} (h : a.data.toList = b.data.toList) : Value.string a = .string b := by
  congr 1; cases a; cases b; congr 1; exact Array.toList_inj.1 h

theorem size_eq (s : ByteArray) : s.size = s.data.toList.length := by rw [← ByteArray.size_data, Array.length_toList]

/-- a text's byte at a place that is known -/
theorem idx_of {P : Program} {T : TypeId} (hT : P.underlying T = some .string) (s : ByteArray) (k : Nat) {d : UInt8} (hd : s.data.toList[k]? = some d) (i : Int) (hi : i = k) :
    ∀ w, (Instr.index T (.string s) (.int .i64 i)).run P w = .ok (.int .u8 (U.b2i d)) w := by
  intro w
  subst hi
  have hk : k < s.size := by rw [size_eq]; exact (List.getElem?_eq_some_iff.1 hd).1
  rw [run_index_string w _ _ _ _ hT, dif_pos (by omega)]
  have : s[k]'hk = d := by
    have := (List.getElem?_eq_some_iff.1 hd).2
    rw [← this]; rfl
  simp [this, U.b2i]

/-- a row of bytes that has just been laid, as a text -/
theorem conv_bytes {P : Program} {src e dst : TypeId} (hs : P.underlying src = some (.slice e)) (he : P.underlying e = some (.int .u8)) (hd : P.underlying dst = some .string) (C : List Int) (w : World) (cap : Nat) (n : Nat) (hn : n = C.length) (t : TypeId) :
    (convert src dst (.slice (some ⟨w.heap.size, 0, none⟩) n cap)).run P (w.alloc (.cells (C.map (Value.int .u8)).toArray t)) = .ok (.string (strOfNums C)) (w.alloc (.cells (C.map (Value.int .u8)).toArray t)) := by
  subst hn
  refine run_convert_bytes_arg _ src e hs he w.heap.size 0 C.length cap C rfl (fun i hi => ?_) dst hd
  rw [cell_of_row _ _ _ _ _ _ (heap_alloc_new w _)]
  simp [hi]

theorem heap_new (w : World) (o : Obj) (n : Nat) (hn : n = w.heap.size) : (w.alloc o).heap[n]? = some o := by subst hn; exact heap_alloc_new w o
theorem set_push {α : Type} (a : Array α) (x y : α) : (a.push x).setIfInBounds a.size y = a.push y := by
  apply Array.ext
  · simp
  · intro i h1 h2
    rw [Array.getElem_setIfInBounds (by simpa using h1)]
    split
    · rename_i h; subst h; simp
    · rename_i h
      have : i < a.size := by simp at h1; omega
      simp [Array.getElem_push, this]
theorem set_new (w : World) (o o' : Obj) (n : Nat) (hn : n = w.heap.size) : ({ w.alloc o with heap := (w.alloc o).heap.setIfInBounds n o' } : World) = w.alloc o' := by
  subst hn
  have e : (w.alloc o).heap.setIfInBounds w.heap.size o' = w.heap.push o' := set_push _ _ _
  rw [e]; rfl

/- A MAP THAT THE CALL HAS JUST LAID: a store of a new key, a look-up. -/
theorem map_ins {P : Program} {T K E : TypeId} {q : IntKind} (hm : P.underlying T = some (.map K E)) (hk : P.underlying K = some (.int q)) (w : World) (es : Array MapEntry) (clk : Nat) (k : Int) (v : Value) (n : Nat) (hn : n = w.heap.size)
    (hf : Instr.findNow (.int q) (.int q k) es.toList 0 = some none) :
    (Instr.mapUpdate T (.map (some n)) (.int q k) v).run P (w.alloc (.map es clk)) = .ok () (w.alloc (.map (es.push ⟨.int q k, v, clk⟩) (clk + 1))) := by
  have hg := heap_new w (.map es clk) n hn
  have h1 : (Instr.checkKey false 10000 K (.int q k)).run P (w.alloc (.map es clk)) = .ok () (w.alloc (.map es clk)) := MapKept.run_checkKey hk (by simp [MapKept.IsKey]) false 9999
  have h2 := MapKept.run_findKey (P := P) (w := w.alloc (.map es clk)) hk hf
  unfold Instr.mapUpdate
  simp only [Sem.run_bind, run_underlying hm, Result.andThen, MapKept.run_getObj_map hg, h1, h2, MapKept.run_setObj_map _ hg, set_new w _ _ n hn]
theorem map_look {P : Program} {T K E : TypeId} {q : IntKind} (hm : P.underlying T = some (.map K E)) (hk : P.underlying K = some (.int q)) (W : World) (es : Array MapEntry) (clk : Nat) (k : Int) (n : Nat) (hg : W.heap[n]? = some (.map es clk))
    (i : Nat) (v : Value) (hf : Instr.findNow (.int q) (.int q k) es.toList 0 = some (some (i, v))) :
    (Instr.lookup T (.map (some n)) (.int q k) true).run P W = .ok (.tuple #[v, .bool true]) W := by
  have h1 : (Instr.checkKey es.isEmpty 10000 K (.int q k)).run P W = .ok () W := MapKept.run_checkKey hk (by simp [MapKept.IsKey]) _ 9999
  have h2 := MapKept.run_findKey (P := P) (w := W) hk hf
  unfold Instr.lookup
  simp only [Sem.run_bind, run_underlying hm, Result.andThen, MapKept.run_getObj_map hg, h1, h2, Sem.run_pure, if_true]
theorem map_look_none {P : Program} {T K E : TypeId} {q : IntKind} (hm : P.underlying T = some (.map K E)) (hk : P.underlying K = some (.int q)) (W : World) (es : Array MapEntry) (clk : Nat) (k : Int) (n : Nat) (hg : W.heap[n]? = some (.map es clk))
    (z : Value) (hz : (zeroValue E).run P W = .ok z W) (hf : Instr.findNow (.int q) (.int q k) es.toList 0 = some none) :
    (Instr.lookup T (.map (some n)) (.int q k) true).run P W = .ok (.tuple #[z, .bool false]) W := by
  have h1 : (Instr.checkKey es.isEmpty 10000 K (.int q k)).run P W = .ok () W := MapKept.run_checkKey hk (by simp [MapKept.IsKey]) _ 9999
  have h2 := MapKept.run_findKey (P := P) (w := W) hk hf
  unfold Instr.lookup
  simp only [Sem.run_bind, run_underlying hm, Result.andThen, MapKept.run_getObj_map hg, h1, h2, Sem.run_pure, if_true, hz]

theorem run_store_float (P : Program) (w : World) (a : Addr) (m : Mode) (k : FloatKind) (b : Nat) : (store a (.float k b) m).run P w = stored P w a (.float k b) m := run_store P w a _ m rfl
theorem run_store_complex (P : Program) (w : World) (a : Addr) (m : Mode) (k : FloatKind) (x y : Nat) : (store a (.complex k x y) m).run P w = stored P w a (.complex k x y) m := run_store P w a _ m rfl

/- A BLOCK THAT IS KNOWN WHOLE. -/
def Blk (w : World) (g : Nat) (t : TypeId) (cs : Array Value) : Prop := w.heap[g]? = some (.cells cs t (0, 0))
section
variable {w w' : World} {g : Nat} {t : TypeId} {cs : Array Value}
theorem Blk.lt (h : Blk w g t cs) : g < w.heap.size := by
  rcases Nat.lt_or_ge g w.heap.size with hlt | hge
  · exact hlt
  · unfold Blk at h; rw [Array.getElem?_eq_none hge] at h; cases h
theorem Blk.cell (h : Blk w g t cs) (i : Nat) : w.cell? ⟨g, i, none⟩ = cs[i]? := cell_of_row w g i cs t (0, 0) h
theorem Blk.frozen (h : Blk w g t cs) (i : Nat) : w.frozen? ⟨g, i, none⟩ = false := by
  unfold Blk at h
  simp [World.frozen?, h]
theorem Blk.new (w : World) (t : TypeId) (cs : Array Value) : Blk (w.alloc (.cells cs t)) w.heap.size t cs := heap_alloc_new w _
theorem Blk.drewN (h : Blk w g t cs) (n : Nat) : Blk (w.drewN n) g t cs := h
theorem Blk.alloc (h : Blk w g t cs) (o : Obj) : Blk (w.alloc o) g t cs := (Below.heap_alloc w o g h.lt).trans h
theorem Blk.set_ (h : Blk w g t cs) (i : Nat) (u : Value) : Blk (w.setCell ⟨g, i, none⟩ u) g t (cs.setIfInBounds i u) := by
  unfold Blk at h ⊢
  simp [World.setCell, Array.getElem?_modify, h]
theorem Blk.far (h : Blk w g t cs) {p : Addr} (hp : g ≠ p.block) (u : Value) : Blk (w.setCell p u) g t cs := (Below.heap_setCell w p u g hp).trans h
theorem Blk.below {B : Nat} (h : Blk w g t cs) (hb : Below B w w') (hg : g < B) : Blk w' g t cs := (hb.block g hg).trans h
theorem Blk.grown {row : Option Nat} (h : Blk w g t cs) (hb : w.grownBy w' row) (hg : some g ≠ row) : Blk w' g t cs := (hb.block g h.lt hg).trans h
end

theorem below_drewN {B : Nat} {a w : World} (h : Below B a w) (n : Nat) : Below B a (w.drewN n) := ⟨h.os, h.tape, h.output, h.size, h.block⟩
theorem only_drewN {a w : World} {row : Option Nat} (h : a.grownBy w row) (n : Nat) : a.grownBy (w.drewN n) row := ⟨h.os, h.tape, h.output, h.size, h.block⟩
theorem only_drew {a w : World} {row : Option Nat} (h : a.grownBy w row) : a.grownBy w.drew row := ⟨h.os, h.tape, h.output, h.size, h.block⟩
theorem only_alloc {a w : World} {row : Option Nat} (h : a.grownBy w row) (o : Obj) : a.grownBy (w.alloc o) row :=
  ⟨h.os, h.tape, h.output, Nat.le_trans h.size (by simp), fun i hi hne => (Below.heap_alloc w o i (Nat.lt_of_lt_of_le hi h.size)).trans (h.block i hi hne)⟩
theorem only_setCell {a w : World} {g : Nat} (h : a.grownBy w (some g)) {p : Addr} (hp : p.block = g ∨ a.heap.size ≤ p.block) (u : Value) : a.grownBy (w.setCell p u) (some g) :=
  ⟨h.os, h.tape, h.output, by simpa [World.setCell] using h.size, fun i hi hne => (Below.heap_setCell w p u i (by
    rintro rfl
    rcases hp with hp | hp
    · exact hne (by rw [hp])
    · omega)).trans (h.block i hi hne)⟩
theorem only_of_below {a w : World} (h : Below a.heap.size a w) (row : Option Nat) : a.grownBy w row := ⟨h.os, h.tape, h.output, h.size, fun i hi _ => h.block i hi⟩
theorem only_trans {a b c : World} {row : Option Nat} (h : a.grownBy b row) (k : b.grownBy c row) : a.grownBy c row :=
  ⟨k.os.trans h.os, k.tape.trans h.tape, k.output.trans h.output, Nat.le_trans h.size k.size, fun i hi hne => (k.block i (Nat.lt_of_lt_of_le hi h.size) hne).trans (h.block i hi hne)⟩
theorem only_below {a b : World} {g : Nat} (h : a.grownBy b (some g)) {B : Nat} (hB : B ≤ g) (hB2 : B ≤ a.heap.size) : Below B a b :=
  ⟨h.os, h.tape, h.output, h.size, fun i hi => h.block i (by omega) (by intro e; cases e; omega)⟩

/- THE ERRORS THAT THE PROGRAM's VARIABLES HOLD. -/
/-- the variable g holds the error at A g; each lies below B, in a row of its own -/
structure Env (S : List Nat) (TP : TypeId) (A : Nat → Addr) (B : Nat) (w : World) : Prop where
  var : ∀ g ∈ S, w.cell? ⟨g, 0, none⟩ = some (.iface TP (.pointer (some (A g))))
  row : ∀ g ∈ S, ∃ c t, w.heap[(A g).block]? = some (.cells c t (0, 0))
  lt : ∀ g ∈ S, g < B ∧ (A g).block < B
  ne : ∀ g ∈ S, ∀ h ∈ S, g ≠ h → A g ≠ A h
theorem Env.below {S : List Nat} {TP : TypeId} {A : Nat → Addr} {B : Nat} {w w' : World} (h : Env S TP A B w) (hb : Below B w w') : Env S TP A B w' where
  var g hg := (hb.cell (p := ⟨g, 0, none⟩) (h.lt g hg).1).trans (h.var g hg)
  row g hg := by
    obtain ⟨c, t, hr⟩ := h.row g hg
    exact ⟨c, t, (hb.block _ (h.lt g hg).2).trans hr⟩
  lt := h.lt
  ne := h.ne

/- A SCOPE WHOSE GOTOS ALL LEAD ON TO ONE LABEL: the rest behind the label is walked where the jump is met. -/
def fwd (l : Nat) (J : Act → World → Prop) (Q : Exit → Act → World → Prop) : Exit → Act → World → Prop
  | .goto l', a, w => l' = l ∧ J a w
  | e, a, w => Q e a w
section
variable {l : Nat} {J : Act → World → Prop} {Q : Exit → Act → World → Prop} {a : Act} {w : World}
@[go_sem] theorem fwd_normal : fwd l J Q .normal a w = Q .normal a w := rfl
@[go_sem] theorem fwd_exit (id : Nat) : fwd l J Q (.exit id) a w = Q (.exit id) a w := rfl
@[go_sem] theorem fwd_ret : fwd l J Q .ret a w = Q .ret a w := rfl
@[go_sem] theorem fwd_panic (ch : List PanicEntry) : fwd l J Q (.panic ch) a w = Q (.panic ch) a w := rfl
end
theorem wp_scope_fwd {P : Program} {a : Act} {w : World} {Q : Exit → Act → World → Prop} {c rest : Code} (l : Nat) (hf : findLabel c l = some rest)
    (h : c.wp P (fwd l (fun a w => rest.wp P (Exit.noGoto Q) a w) Q) a w) : (Code.scope c).wp P Q a w := by
  refine wp_scope_jumps l (fun a w => rest.wp P (Exit.noGoto Q) a w) (fun _ _ => 0) hf (Code.wp_mono ?_ h) (fun a w hJ => Code.wp_mono ?_ hJ)
  · intro e a w he
    cases e <;> exact he
  · intro e a w he
    cases e with
    | goto l' => exact (he : False).elim
    | _ => exact he

theorem slice_str {P : Program} {T : TypeId} (hT : P.underlying T = some .string) (s : ByteArray) (lo hi : Int) (h : 0 ≤ lo ∧ lo ≤ hi ∧ hi ≤ s.size) :
    ∀ W, (Instr.slice T (.string s) (some (.int .i64 lo)) (some (.int .i64 hi)) none).run P W = .ok (.string (s.extract lo.toNat hi.toNat)) W := by
  intro W
  rw [run_slice_string_if W _ _ _ _ _ _ hT, if_pos (by omega), if_pos (by omega)]

theorem bytes_cells (W : World) (e : TypeId) (s : ByteArray) (cap : Nat) (fr : Nat × Nat) (j : Nat) (d : UInt8) (hd : s.data.toList[j]? = some d) :
    (W.alloc (.cells (bytesRow s cap) e fr)).cell? ⟨W.heap.size, j, none⟩ = some (.int .u8 (U.b2i d)) := by
  rw [World.cell?_alloc_mark]
  have hj : j < s.data.toList.length := (List.getElem?_eq_some_iff.1 hd).1
  have hd' : s.data[j]? = some d := by rw [← hd, Array.getElem?_toList]
  unfold bytesRow
  rw [Array.getElem?_append_left (by simpa using hj), Array.getElem?_map, hd']
  rfl

theorem ofInt_i64 (a : Nat) (ha : a < 9223372036854775808) : (BitVec.ofInt 64 (a : Int)).toNat = a := by
  rw [BitVec.ofInt_natCast, BitVec.toNat_ofNat]; exact Nat.mod_eq_of_lt (by omega)
theorem i64_and_nat (a b : Nat) (ha : a < 9223372036854775808) (hb : b < 9223372036854775808) : bits .and .i64 (a : Int) (b : Int) = ((a &&& b : Nat) : Int) := by
  have hx : a &&& b < 2 ^ 63 := Nat.and_lt_two_pow _ (by omega)
  show IntKind.i64.wrap ((BitVec.ofInt 64 (a : Int) &&& BitVec.ofInt 64 (b : Int)).toNat : Int) = _
  rw [BitVec.toNat_and, ofInt_i64 a ha, ofInt_i64 b hb, IntKind.wrap_i64]
  omega
theorem i64_or_nat (a b : Nat) (ha : a < 9223372036854775808) (hb : b < 9223372036854775808) : bits .or .i64 (a : Int) (b : Int) = ((a ||| b : Nat) : Int) := by
  have hx : a ||| b < 2 ^ 63 := Nat.or_lt_two_pow (by omega) (by omega)
  show IntKind.i64.wrap ((BitVec.ofInt 64 (a : Int) ||| BitVec.ofInt 64 (b : Int)).toNat : Int) = _
  rw [BitVec.toNat_or, ofInt_i64 a ha, ofInt_i64 b hb, IntKind.wrap_i64]
  omega
theorem and_63 (y : Int) (h0 : 0 ≤ y) (h1 : y < 9223372036854775808) : bits .and .i64 y 63 = y % 64 := by
  obtain ⟨k, rfl⟩ := Int.eq_ofNat_of_zero_le h0
  have := i64_and_nat k 63 (by omega) (by omega)
  rw [show ((63 : Nat) : Int) = 63 from rfl] at this
  rw [this, show k &&& 63 = k % 64 from Nat.and_two_pow_sub_one_eq_mod k 6]
  omega
theorem or_64 (x z : Int) (h0 : 0 ≤ x) (h1 : x < 4294967296) (h2 : 0 ≤ z) (h3 : z < 64) : bits .or .i64 (x * 64) z = x * 64 + z := by
  obtain ⟨k, rfl⟩ := Int.eq_ofNat_of_zero_le h0
  obtain ⟨l, rfl⟩ := Int.eq_ofNat_of_zero_le h2
  have := i64_or_nat (2 ^ 6 * k) l (by omega) (by omega)
  rw [← Nat.two_pow_add_eq_or_of_lt (by omega) k] at this
  rw [show (k : Int) * 64 = ((2 ^ 6 * k : Nat) : Int) by omega, this]
  omega

/- A REGION THAT DRAWS ITS ORDER, ITS OPERATIONS READING AND CALLING IN WORLDS OF ONE CLASS. -/
structure CW (Inv : World → Prop) where
  w : World
  h : Inv w
theorem wp_region_class {P : Program} {id : Nat} {Q : Exit → Act → World → Prop} {a : Act} {w : World} {l : List Oper} (Inv : World → Prop) (hm : P.follows .mixedOrders = true) (hB : Region.lexB .any l.toArray = true) (h0 : Inv w.drew)
    (h : Nonempty (CW Inv) → wpQuiet P l.toArray (fun w' => ∃ n : CW Inv, w' = n.w) (fun a' => ∀ w', (∃ n : CW Inv, w' = n.w) → Q .normal a' w') l a) : (Code.region id l.toArray true).wp P Q a w :=
  wp_region_quiet (C := fun w' => ∃ n : CW Inv, w' = n.w) hm hB ⟨⟨_, h0⟩, rfl⟩ (by simpa using h ⟨⟨_, h0⟩⟩)
theorem class_call {P : Program} {f : FuncId} {args : Array Value} {v : Value} {W : World} {Inv : World → Prop} (h : Calls P f args W fun e w' => e = .returned v ∧ Below W.heap.size W w') (hI : ∀ w', Below W.heap.size W w' → Inv w') :
    Calls P f args W fun e w'' => e = .returned v ∧ ∃ m : CW Inv, w'' = m.w := h.mono fun _ _ ⟨he, hb⟩ => ⟨he, ⟨_, hI _ hb⟩, rfl⟩
theorem class_same {P : Program} {f : FuncId} {args : Array Value} {v : Value} {W : World} {Inv : World → Prop} (h : Calls P f args W fun e w' => e = .returned v ∧ W = w') (hI : Inv W) :
    Calls P f args W fun e w'' => e = .returned v ∧ ∃ m : CW Inv, w'' = m.w := h.mono fun _ _ ⟨he, hb⟩ => ⟨he, ⟨_, hb ▸ hI⟩, rfl⟩
end Go.Proofs.YtbpcipobdokcfaaGreatDoor

/- errors.Is, errors.is: Go's own text, walked: at the very error, at another, at nil. (After the worked text SentryIs.) -/
namespace Go.Proofs.YtbpcipobdokcfaaGreatDoor
open Go.RowKit Go.Extern.Stop Go.Stop Go.Extern

theorem isTypeOf (v : Value) (w : World) : (callFunc 89 #[.iface 209 v]).run Tryz.prog w = .ok (.value (.iface 162 (.agg #[.pointer (some ⟨4, 209, none⟩)]))) w := by kernel_rfl
theorem isComparable (w : World) : (callFunc 171 #[.agg #[.pointer (some ⟨4, 209, none⟩)]]).run Tryz.prog w = .ok (.value (.bool true)) w := by kernel_rfl
theorem isMethodComparable (v : Value) (w : World) : (Go.method 346 162 v "Comparable").run Tryz.prog w = .ok (171, v) w := by kernel_rfl
theorem isComp : (Tryz.prog.info? 209).map (·.comparable) = some true := by kernel_rfl
theorem isSize : (Tryz.prog.info? 234).map (·.size) = some 1 := by kernel_rfl
theorem noIsE (v : Value) (xT : TypeId) (w : World) : (Instr.typeAssert (.iface 209 v) xT 164 true).run Tryz.prog w = .ok (.tuple #[.nilIface, .bool false]) w := run_typeAssert_lacksB Tryz.underlying164 (by kernel_rfl) (by kernel_rfl) v xT w
theorem noUnwrapE (v : Value) (xT : TypeId) (w : World) : (Instr.typeAssert (.iface 209 v) xT 167 true).run Tryz.prog w = .ok (.tuple #[.nilIface, .bool false]) w := run_typeAssert_lacksB Tryz.underlying167 (by kernel_rfl) (by kernel_rfl) v xT w
theorem noUnwrapsE (v : Value) (xT : TypeId) (w : World) : (Instr.typeAssert (.iface 209 v) xT 168 true).run Tryz.prog w = .ok (.tuple #[.nilIface, .bool false]) w := run_typeAssert_lacksB Tryz.underlying168 (by kernel_rfl) (by kernel_rfl) v xT w

/-- errors.Is(x, x) -/
theorem is_same (a : Addr) (w : World) :
    Calls Tryz.prog 62 #[.iface 209 (.pointer (some a)), .iface 209 (.pointer (some a))] w fun e w' => e = .returned (.bool true) ∧ w = w' := by
  obtain ⟨i, hi, hcmp⟩ := Option.map_eq_some_iff.1 isComp
  obtain ⟨j, hj, hjs⟩ := Option.map_eq_some_iff.1 isSize
  have tT := isTypeOf
  have cT := isComparable
  have mR := isMethodComparable
  have heq := run_eql_iface_ptr_same (P := Tryz.prog) w a Tryz.underlying66 Tryz.underlying209 hi hcmp hj
  go_enter Tryz.func62, Tryz.ntmps62
  go_wp2
  refine wp_loop_rounds 1 ?_
  rw [rounds_succ]
  go_wp2
  go_ret
  exact ⟨rfl, rfl⟩

/-- errors.Is(nil, x) -/
theorem is_nil (b : Addr) (w : World) :
    Calls Tryz.prog 62 #[.nilIface, .iface 209 (.pointer (some b))] w fun e w' => e = .returned (.bool false) ∧ w = w' := by
  have hn := run_eql_iface_nil_left (P := Tryz.prog) w 209 (.pointer (some b)) Tryz.underlying66
  go_enter Tryz.func62, Tryz.ntmps62
  go_wp2
  go_ret
  exact ⟨rfl, rfl⟩

/-- errors.Is(x, y), two errors -/
theorem is_other (a b : Addr) (ca cb : Array Value) (ta tb : TypeId) (w : World) (hne : a ≠ b) (ha : w.heap[a.block]? = some (.cells ca ta (0, 0))) (hb : w.heap[b.block]? = some (.cells cb tb (0, 0))) :
    Calls Tryz.prog 62 #[.iface 209 (.pointer (some a)), .iface 209 (.pointer (some b))] w fun e w' => e = .returned (.bool false) ∧ w = w' := by
  obtain ⟨i, hi, hcmp⟩ := Option.map_eq_some_iff.1 isComp
  obtain ⟨j, hj, hjs⟩ := Option.map_eq_some_iff.1 isSize
  have tT := isTypeOf
  have cT := isComparable
  have mR := isMethodComparable
  have nE := noIsE
  have uE := noUnwrapE
  have vE := noUnwrapsE
  have heq := run_eql_iface_ptr_other (P := Tryz.prog) w Tryz.underlying66 Tryz.underlying209 hi hcmp hj (by rw [hjs]; decide) hne ha hb
  go_enter Tryz.func62, Tryz.ntmps62
  go_wp2
  refine wp_loop_rounds 1 ?_
  rw [rounds_succ]
  go_wp2
  go_ret
  exact ⟨rfl, rfl⟩
end Go.Proofs.YtbpcipobdokcfaaGreatDoor

/- THE ERRORS THAT THE VARIABLES OF THIS SEAT's PROGRAM HOLD. -/
namespace Go.Proofs.YtbpcipobdokcfaaGreatDoor
open Go.RowKit

def sents : List Nat := [
  3,
  ]
def E (A : Nat → Addr) (B : Nat) (w : World) : Prop := Env sents 209 A B w
def errV (A : Nat → Addr) (g : Nat) : Value := .iface 209 (.pointer (some (A g)))
theorem E.below {A : Nat → Addr} {B : Nat} {w w' : World} (h : E A B w) (hb : Below B w w') : E A B w' := Env.below h hb
theorem E.cell {A : Nat → Addr} {B : Nat} {w : World} (h : E A B w) (g : Nat) (hg : g ∈ sents) : w.cell? ⟨g, 0, none⟩ = some (.iface 209 (.pointer (some (A g)))) := h.var g hg

/-- errors.Is at two of a list of variables' errors -/
theorem is_env {S : List Nat} {A : Nat → Addr} {B : Nat} {w : World} (h : Env S 209 A B w) (g k : Nat) (hg : g ∈ S) (hk : k ∈ S) :
    Calls Tryz.prog 62 #[.iface 209 (.pointer (some (A g))), .iface 209 (.pointer (some (A k)))] w fun e w' => e = .returned (.bool (g == k)) ∧ w = w' := by
  by_cases e : g = k
  · subst e
    simpa using is_same (A g) w
  · obtain ⟨ca, ta, ha⟩ := h.row g hg
    obtain ⟨cb, tb, hb⟩ := h.row k hk
    have := is_other (A g) (A k) ca cb ta tb w (h.ne g hg k hk e) ha hb
    rw [show (g == k) = false from beq_eq_false_iff_ne.2 e]
    exact this
/-- errors.Is at two of the variables' errors -/
theorem is_sents {A : Nat → Addr} {B : Nat} {w : World} (h : E A B w) (g k : Nat) (hg : g ∈ sents) (hk : k ∈ sents) :
    Calls Tryz.prog 62 #[.iface 209 (.pointer (some (A g))), .iface 209 (.pointer (some (A k)))] w fun e w' => e = .returned (.bool (g == k)) ∧ w = w' := is_env h g k hg hk
theorem env_sub {S S' : List Nat} {T : TypeId} {A : Nat → Addr} {B : Nat} {w : World} (h : Env S T A B w) (hs : ∀ g ∈ S', g ∈ S) : Env S' T A B w :=
  ⟨fun g hg => h.var g (hs g hg), fun g hg => h.row g (hs g hg), fun g hg => h.lt g (hs g hg), fun g hg k hk => h.ne g (hs g hg) k (hs k hk)⟩
end Go.Proofs.YtbpcipobdokcfaaGreatDoor

/- WHAT A ROW's LIST OF SENTINELS GIVES, however many there are: each variable holds an error of its own. -/
namespace Go.Proofs.YtbpcipobdokcfaaGreatDoor
open Go.RowKit Go.ChangeShapes

/-- a sentinel: its name, its number, its text -/
abbrev Sent := String × Nat × List UInt8
def sentD (nm : String) (x : Sent) : String × DataW Unit := (x.1, .iface nm (.ptr (.agg [.lit (.string x.2.2)])))

section
variable {P : Program} {nm : String} {W : World} {ti tp te ts : TypeId} {ms : Array (String × TypeId)} {f : Field}
theorem laid_vars (hi : P.underlying ti = some (.interface ms)) (hrow : ∀ u, P.typeName? 3 u = some nm → u = tp)
    (hp : P.underlying tp = some (.pointer te)) (he : P.underlying te = some (.struct #[f])) (hft : f.type = ts) (hfo : f.offset = 0) (hs : P.underlying ts = some .string) (hc : P.cellsOf te = 1) (hcs : P.cellsOf ts = 1) :
    ∀ (L : List Sent) (ps : List MemPlace), DataW.LaidVars P W (L.map (sentD nm)) ps → ps.Nodup →
      (∀ b off, MemPlace.cell b off ∈ ps → (∃ c t, W.heap[b]? = some (.cells c t (0, 0))) ∧ ∀ u v, W.cell? ⟨b, off, none⟩ = some (.iface u v) → Value.okWide P W .any 0 u v) →
      (∀ x ∈ L, P.globalNamed x.1 = some x.2.1 ∧ (P.globals[x.2.1]?).map (·.type) = some ti) →
      ∃ A : Nat → Addr, (∀ x ∈ L, W.cell? ⟨x.2.1, 0, none⟩ = some (.iface tp (.pointer (some (A x.2.1)))) ∧ (∃ c t, W.heap[(A x.2.1).block]? = some (.cells c t (0, 0))) ∧ (A x.2.1).block < W.heap.size ∧ MemPlace.cell (A x.2.1).block (A x.2.1).off ∈ ps) ∧
        ∀ x ∈ L, ∀ y ∈ L, x.2.1 ≠ y.2.1 → A x.2.1 ≠ A y.2.1
  | [], _, _, _, _, _ => ⟨fun _ => ⟨0, 0, none⟩, fun x hx => absurd hx (List.not_mem_nil), fun x hx => absurd hx (List.not_mem_nil)⟩
  | x0 :: L, ps, hv, hnd, hrows, hg => by
    obtain ⟨g0, t0, cs0, f0, p0, q0, hg0, ht0, hv0, hd0, hrest, e0⟩ := hv
    obtain ⟨hgx, htx⟩ := hg x0 (List.mem_cons_self ..)
    obtain rfl := Option.some.inj (hgx.symm.trans hg0)
    obtain rfl := Option.some.inj (htx.symm.trans ht0)
    subst e0
    obtain ⟨l0⟩ := cs0
    have ok0 : ∀ u v, l0 = [.iface u v] → Value.okWide P W .any 0 u v := fun u v e => by
      subst e
      exact (hrows x0.2.1 0 (by simp [MemPlace.row])).2 u v (by simpa using World.var?_cell hg0 hv0 0)
    obtain ⟨a0, s0, rfl, hc0, hs0, hz0, rfl⟩ := errorString_of_trod hi hrow hp he hft hfo hs hc hcs hd0 ok0
    have hcell : W.cell? ⟨x0.2.1, 0, none⟩ = some (.iface tp (.pointer (some a0))) := by simpa using World.var?_cell hg0 hv0 0
    have hm0 : MemPlace.cell a0.block a0.off ∈ MemPlace.row ⟨x0.2.1, 0, none⟩ ([Value.iface tp (.pointer (some a0))].toArray).size ++ MemPlace.row a0 1 ++ q0 := by simp [MemPlace.row]
    obtain ⟨A, h1, h2⟩ := laid_vars hi hrow hp he hft hfo hs hc hcs L q0 hrest (List.Nodup.sublist (List.sublist_append_right _ _) hnd) (fun b off hm => hrows b off (List.mem_append_right _ hm)) (fun x hx => hg x (List.mem_cons_of_mem _ hx))
    have hspot : a0.spot = none := World.cell?_spot hc0
    have hfar : ∀ y ∈ L, a0 ≠ A y.2.1 := by
      intro y hy e
      have hq := (h1 y hy).2.2.2
      rw [← e] at hq
      rw [List.nodup_append] at hnd
      exact hnd.2.2 _ (by simp [MemPlace.row]) _ hq rfl
    have hhead : (∃ c t, W.heap[a0.block]? = some (.cells c t (0, 0))) ∧ a0.block < W.heap.size := by
      obtain ⟨c, t, hb⟩ := (hrows _ _ hm0).1
      exact ⟨⟨c, t, hb⟩, (Array.getElem?_eq_some_iff.1 hb).1⟩
    by_cases hin : ∃ y ∈ L, y.2.1 = x0.2.1
    · -- the same variable twice: its place would be met twice
      obtain ⟨y, hy, e⟩ := hin
      have hcy := (h1 y hy).1
      rw [e, hcell] at hcy
      simp only [Option.some.injEq, Value.iface.injEq, Value.pointer.injEq, true_and] at hcy
      exact absurd (by rw [← e] at hcy; exact hcy) (hfar y hy)
    · have hne : ∀ y ∈ L, y.2.1 ≠ x0.2.1 := fun y hy e => hin ⟨y, hy, e⟩
      refine ⟨fun g => if g = x0.2.1 then a0 else A g, fun x hx => ?_, fun x hx y hy hxy => ?_⟩
      · rcases List.mem_cons.1 hx with rfl | hx
        · simp only [if_true]
          exact ⟨hcell, hhead.1, hhead.2, hm0⟩
        · simp only [if_neg (hne x hx)]
          obtain ⟨k1, k2, k3, k4⟩ := h1 x hx
          exact ⟨k1, k2, k3, List.mem_append_right _ k4⟩
      · rcases List.mem_cons.1 hx with rfl | hx' <;> rcases List.mem_cons.1 hy with rfl | hy'
        · exact absurd rfl hxy
        · simp only [if_true, if_neg (hne y hy')]; exact hfar y hy'
        · simp only [if_true, if_neg (hne x hx')]; exact fun e => hfar x hx' e.symm
        · simp only [if_neg (hne x hx'), if_neg (hne y hy')]; exact h2 x hx' y hy' hxy
end

/-- where the variables' errors lie -/
theorem E_of_list {nm : String} {W : World} {ti te ts : TypeId} {ms : Array (String × TypeId)} {f : Field} (hi : Tryz.prog.underlying ti = some (.interface ms)) (hrow : ∀ u, Tryz.prog.typeName? 3 u = some nm → u = 209)
    (hp : Tryz.prog.underlying 209 = some (.pointer te)) (he : Tryz.prog.underlying te = some (.struct #[f])) (hft : f.type = ts) (hfo : f.offset = 0) (hs : Tryz.prog.underlying ts = some .string) (hc : Tryz.prog.cellsOf te = 1) (hcs : Tryz.prog.cellsOf ts = 1)
    (L : List Sent) (hg : ∀ x ∈ L, Tryz.prog.globalNamed x.1 = some x.2.1 ∧ (Tryz.prog.globals[x.2.1]?).map (·.type) = some ti) (hL : laidMet Tryz.prog (L.map (sentD nm)) W) (hS : ∀ g ∈ sents, ∃ x ∈ L, x.2.1 = g) : ∃ A : Nat → Addr, E A W.heap.size W := by
  obtain ⟨ps, hv, hnd, hrows⟩ := hL
  obtain ⟨A, h1, h2⟩ := laid_vars hi hrow hp he hft hfo hs hc hcs L ps hv hnd hrows hg
  refine ⟨A, fun g hm => ?_, fun g hm => ?_, fun g hm => ?_, fun g hm k hk hgk => ?_⟩
  · obtain ⟨x, hx, rfl⟩ := hS g hm; exact (h1 x hx).1
  · obtain ⟨x, hx, rfl⟩ := hS g hm; exact (h1 x hx).2.1
  · obtain ⟨x, hx, rfl⟩ := hS g hm; exact ⟨World.block_lt_of_cell? _ _ (h1 x hx).1, (h1 x hx).2.2.1⟩
  · obtain ⟨x, hx, rfl⟩ := hS g hm
    obtain ⟨y, hy, rfl⟩ := hS k hk
    exact h2 x hx y hy hgk
end Go.Proofs.YtbpcipobdokcfaaGreatDoor

/- WHAT A ROW's LIST OF SENTINELS GIVES, for all of its variables at once. -/
namespace Go.Proofs.YtbpcipobdokcfaaGreatDoor
open Go.RowKit Go.ChangeShapes

/-- where the variables' errors lie -/
theorem Env_of_list {nm : String} {W : World} {ti te ts : TypeId} {ms : Array (String × TypeId)} {f : Field} (hi : Tryz.prog.underlying ti = some (.interface ms)) (hrow : ∀ u, Tryz.prog.typeName? 3 u = some nm → u = 209)
    (hp : Tryz.prog.underlying 209 = some (.pointer te)) (he : Tryz.prog.underlying te = some (.struct #[f])) (hft : f.type = ts) (hfo : f.offset = 0) (hs : Tryz.prog.underlying ts = some .string) (hc : Tryz.prog.cellsOf te = 1) (hcs : Tryz.prog.cellsOf ts = 1)
    (L : List Sent) (hg : ∀ x ∈ L, Tryz.prog.globalNamed x.1 = some x.2.1 ∧ (Tryz.prog.globals[x.2.1]?).map (·.type) = some ti) (hL : laidMet Tryz.prog (L.map (sentD nm)) W) : ∃ A : Nat → Addr, Env (L.map (·.2.1)) 209 A W.heap.size W := by
  obtain ⟨ps, hv, hnd, hrows⟩ := hL
  obtain ⟨A, h1, h2⟩ := laid_vars hi hrow hp he hft hfo hs hc hcs L ps hv hnd hrows hg
  have hS : ∀ g ∈ L.map (·.2.1), ∃ x ∈ L, x.2.1 = g := fun g hm => List.mem_map.1 hm
  refine ⟨A, fun g hm => ?_, fun g hm => ?_, fun g hm => ?_, fun g hm k hk hgk => ?_⟩
  · obtain ⟨x, hx, rfl⟩ := hS g hm; exact (h1 x hx).1
  · obtain ⟨x, hx, rfl⟩ := hS g hm; exact (h1 x hx).2.1
  · obtain ⟨x, hx, rfl⟩ := hS g hm; exact ⟨World.block_lt_of_cell? _ _ (h1 x hx).1, (h1 x hx).2.2.1⟩
  · obtain ⟨x, hx, rfl⟩ := hS g hm
    obtain ⟨y, hy, rfl⟩ := hS k hk
    exact h2 x hx y hy hgk
end Go.Proofs.YtbpcipobdokcfaaGreatDoor

/- PLAIN. Patterns of classes as machines: states closed, steps, runs; nothing of any program. Sets of states are natural numbers, a bit a state. -/
namespace Go.Proofs.YtbpcipobdokcfaaGreatDoor.N

/-- an item: its set of classes, how often it stands -/
abbrev Item := Int × Int

/-- the states that one stands for, from item n/2 on (state n is even) -/
def cloS : List Item → Nat → Nat
  | [], n => 2 ^ n
  | x :: t, n => if x.2 = 0 then 2 ^ n else 2 ^ n ||| cloS t (n + 2)
/-- a state, closed -/
def clo (l : List Item) (n : Nat) : Nat := if n % 2 = 1 then 2 ^ n else cloS (l.drop (n / 2)) n

def hasC (set c : Int) : Bool := decide (0 ≤ set) && decide (set < 4294967296) && decide (0 ≤ c) && decide (c < 32) && decide (set.toNat.testBit c.toNat = true)
def setAt (l : List Item) (i : Nat) : Int := (l.getD i (0, 0)).1
def howAt (l : List Item) (i : Nat) : Int := (l.getD i (0, 0)).2
def goto (l : List Item) (n : Nat) : Nat := if n % 2 = 1 then n - 1 else if howAt l (n / 2) = 0 then n + 2 else if howAt l (n / 2) = 1 then n else n + 1
def goes (l : List Item) (S : Nat) (c : Int) (n : Nat) : Bool := S.testBit n && hasC (setAt l (n / 2)) c
def fill (l : List Item) (S : Nat) (c : Int) (init : Nat) (k : Nat) : Nat := (List.range k).foldl (fun out n => if goes l S c n = true then out ||| clo l (goto l n) else out) init
def init (l : List Item) (start : Bool) : Nat := if start then 0 else clo l 0
def step (l : List Item) (start : Bool) (S : Nat) (c : Int) : Nat := fill l S c (init l start) (2 * l.length)
def most (l : List Item) : Nat := 2 ^ (2 * l.length + 1) - 1
def doneB (l : List Item) (S : Nat) : Bool := S.testBit (2 * l.length)
def run (l : List Item) (start : Bool) : Nat → List Int → List Nat
  | S, [] => [S]
  | S, c :: t => S :: run l start (step l start S c) t

theorem fill_succ (l : List Item) (S : Nat) (c : Int) (a k : Nat) : fill l S c a (k + 1) = if goes l S c k = true then fill l S c a k ||| clo l (goto l k) else fill l S c a k := by
  unfold fill
  rw [List.range_succ, List.foldl_append]
  rfl
theorem fill_or (l : List Item) (S : Nat) (c : Int) (a b : Nat) : ∀ k, fill l S c (a ||| b) k = fill l S c a k ||| b
  | 0 => rfl
  | k + 1 => by
    rw [fill_succ, fill_succ, fill_or l S c a b k]
    split
    · rw [Nat.or_assoc, Nat.or_comm b, ← Nat.or_assoc]
    · rfl
/-- the document adds the first states last -/
theorem fill_last (l : List Item) (S : Nat) (c : Int) (b k : Nat) : fill l S c 0 k ||| b = fill l S c b k := by
  have := fill_or l S c 0 b k
  rw [Nat.zero_or] at this
  exact this.symm
theorem fill_bit (l : List Item) (S : Nat) (c : Int) (a i : Nat) : ∀ k, (fill l S c a k).testBit i = true ↔ a.testBit i = true ∨ ∃ n, n < k ∧ goes l S c n = true ∧ (clo l (goto l n)).testBit i = true
  | 0 => by simp [fill]
  | k + 1 => by
    rw [fill_succ]
    have ih := fill_bit l S c a i k
    constructor
    · intro h
      split at h
      · rename_i hg
        rw [Nat.testBit_or, Bool.or_eq_true] at h
        rcases h with h | h
        · rcases ih.1 h with h | ⟨n, h1, h2⟩
          · exact .inl h
          · exact .inr ⟨n, by omega, h2⟩
        · exact .inr ⟨k, by omega, hg, h⟩
      · rcases ih.1 h with h | ⟨n, h1, h2⟩
        · exact .inl h
        · exact .inr ⟨n, by omega, h2⟩
    · intro h
      have key : (fill l S c a k).testBit i = true ∨ (goes l S c k = true ∧ (clo l (goto l k)).testBit i = true) := by
        rcases h with h | ⟨n, h1, h2, h3⟩
        · exact .inl (ih.2 (.inl h))
        · by_cases e : n = k
          · subst e; exact .inr ⟨h2, h3⟩
          · exact .inl (ih.2 (.inr ⟨n, by omega, h2, h3⟩))
      split
      · rw [Nat.testBit_or, Bool.or_eq_true]
        rcases key with h | ⟨_, h⟩
        · exact .inl h
        · exact .inr h
      · rename_i hg
        rcases key with h | ⟨h, _⟩
        · exact h
        · exact absurd h hg

/-- steps of two sets together are both's steps together -/
theorem step_or (l : List Item) (start : Bool) (a b : Nat) (c : Int) : step l start (a ||| b) c = step l start a c ||| step l start b c := by
  apply Nat.eq_of_testBit_eq
  intro i
  rw [Nat.testBit_or, Bool.eq_iff_iff, Bool.or_eq_true]
  unfold step
  rw [fill_bit, fill_bit, fill_bit]
  have hg : ∀ n, goes l (a ||| b) c n = true ↔ goes l a c n = true ∨ goes l b c n = true := by
    intro n
    unfold goes
    rw [Nat.testBit_or]
    cases a.testBit n <;> cases b.testBit n <;> simp
  constructor
  · rintro (h | ⟨n, h1, h2, h3⟩)
    · exact .inl (.inl h)
    · rcases (hg n).1 h2 with h | h
      · exact .inl (.inr ⟨n, h1, h, h3⟩)
      · exact .inr (.inr ⟨n, h1, h, h3⟩)
  · rintro ((h | ⟨n, h1, h2, h3⟩) | (h | ⟨n, h1, h2, h3⟩))
    · exact .inl h
    · exact .inr ⟨n, h1, (hg n).2 (.inl h2), h3⟩
    · exact .inl h
    · exact .inr ⟨n, h1, (hg n).2 (.inr h2), h3⟩
theorem step_mono (l : List Item) (s t : Bool) (hst : t = true → s = true) (a b : Nat) (c : Int) (hab : ∀ i, a.testBit i = true → b.testBit i = true) (i : Nat) (h : (step l s a c).testBit i = true) : (step l t b c).testBit i = true := by
  unfold step at h ⊢
  rw [fill_bit] at h ⊢
  rcases h with h | ⟨n, h1, h2, h3⟩
  · left
    unfold init at h ⊢
    cases s <;> cases t <;> simp_all
  · right
    refine ⟨n, h1, ?_, h3⟩
    unfold goes at h2 ⊢
    rw [Bool.and_eq_true] at h2 ⊢
    exact ⟨hab n h2.1, h2.2⟩

/- BOUNDS: no state that there is not. -/
theorem cloS_lt (l : List Item) : ∀ n k, n + 2 * l.length ≤ k → cloS l n < 2 ^ (k + 1) := by
  induction l with
  | nil => intro n k h; exact Nat.pow_lt_pow_right (by omega) (by simp at h; omega)
  | cons x t ih =>
    intro n k h
    simp only [List.length_cons] at h
    have h0 : 2 ^ n < 2 ^ (k + 1) := Nat.pow_lt_pow_right (by omega) (by omega)
    unfold cloS
    split
    · exact h0
    · exact Nat.or_lt_two_pow h0 (ih (n + 2) k (by omega))
theorem clo_lt (l : List Item) (n : Nat) (h : n ≤ 2 * l.length) : clo l n < 2 ^ (2 * l.length + 1) := by
  unfold clo
  split
  · exact Nat.pow_lt_pow_right (by omega) (by omega)
  · exact cloS_lt _ _ _ (by rw [List.length_drop]; omega)
theorem goto_le (l : List Item) (n : Nat) (h : n < 2 * l.length) : goto l n ≤ 2 * l.length := by
  unfold goto; repeat' (first | omega | split)
theorem fill_lt (l : List Item) (S : Nat) (c : Int) (a : Nat) (ha : a < 2 ^ (2 * l.length + 1)) : ∀ k, k ≤ 2 * l.length → fill l S c a k < 2 ^ (2 * l.length + 1)
  | 0, _ => ha
  | k + 1, h => by
    rw [fill_succ]
    have ih := fill_lt l S c a ha k (by omega)
    split
    · exact Nat.or_lt_two_pow ih (clo_lt l _ (goto_le l k (by omega)))
    · exact ih
theorem init_lt (l : List Item) (start : Bool) : init l start < 2 ^ (2 * l.length + 1) := by
  unfold init
  split
  · exact Nat.pow_pos (by omega)
  · exact clo_lt l 0 (by omega)
theorem step_lt (l : List Item) (start : Bool) (S : Nat) (c : Int) : step l start S c < 2 ^ (2 * l.length + 1) := fill_lt l S c _ (init_lt l start) _ (Nat.le_refl _)
end Go.Proofs.YtbpcipobdokcfaaGreatDoor.N

/- PLAIN. Runs of patterns' machines, place by place: what the laws of layer 10 say of them; nothing of any program. -/
namespace Go.Proofs.YtbpcipobdokcfaaGreatDoor.N

theorem drop_at (l : List Item) (i : Nat) (h : i < l.length) : l.drop i = (l.getD i (0, 0)) :: l.drop (i + 1) := by
  rw [List.drop_eq_getElem_cons h]
  simp [List.getD, List.getElem?_eq_getElem h]
theorem clo_odd (l : List Item) (n : Nat) (h : n % 2 = 1) : clo l n = 2 ^ n := by unfold clo; rw [if_pos h]
theorem clo_end (l : List Item) (n : Nat) (h : l.length ≤ n / 2) : clo l n = 2 ^ n := by
  unfold clo
  split
  · rfl
  · rw [List.drop_eq_nil_of_le h]; rfl
theorem clo_once (l : List Item) (n : Nat) (h : howAt l (n / 2) = 0) : clo l n = 2 ^ n := by
  by_cases hl : n / 2 < l.length
  · unfold clo
    split
    · rfl
    · rw [drop_at l _ hl]; unfold cloS; unfold howAt at h; rw [if_pos h]
  · exact clo_end l n (by omega)
theorem clo_next (l : List Item) (n : Nat) (h0 : n % 2 = 0) (hl : n / 2 < l.length) (h : howAt l (n / 2) ≠ 0) : clo l n = 2 ^ n ||| clo l (n + 2) := by
  unfold clo
  rw [if_neg (by omega), if_neg (by omega), drop_at l _ hl, show (n + 2) / 2 = n / 2 + 1 by omega]
  unfold howAt at h
  rw [cloS, if_neg h]

/-- the set behind the first k numbers -/
def at' (l : List Item) (st : Bool) (S : Nat) (cs : List Int) (k : Nat) : Nat := (cs.take k).foldl (step l st) S
/-- the sets behind none, one, two .. of k numbers -/
def runs (l : List Item) (st : Bool) (S : Nat) (cs : List Int) (k : Nat) : List Nat := (List.range (k + 1)).map (at' l st S cs)
theorem at_zero (l : List Item) (st : Bool) (S : Nat) (cs : List Int) : at' l st S cs 0 = S := by simp [at']
theorem at_succ (l : List Item) (st : Bool) (S : Nat) (cs : List Int) (k : Nat) (c : Int) (h : cs[k]? = some c) : at' l st S cs (k + 1) = step l st (at' l st S cs k) c := by
  unfold at'
  rw [List.take_add_one, h, List.foldl_append]
  rfl
theorem runs_zero (l : List Item) (st : Bool) (S : Nat) (cs : List Int) : runs l st S cs 0 = [S] := by simp [runs, at_zero]
theorem runs_succ (l : List Item) (st : Bool) (S : Nat) (cs : List Int) (k : Nat) : runs l st S cs (k + 1) = runs l st S cs k ++ [at' l st S cs (k + 1)] := by
  unfold runs
  rw [List.range_succ, List.map_append]
  rfl
theorem runs_len (l : List Item) (st : Bool) (S : Nat) (cs : List Int) (k : Nat) : (runs l st S cs k).length = k + 1 := by simp [runs]
theorem runs_get (l : List Item) (st : Bool) (S : Nat) (cs : List Int) (k i : Nat) (h : i ≤ k) : (runs l st S cs k)[i]? = some (at' l st S cs i) := by
  unfold runs
  rw [List.getElem?_map, List.getElem?_range (by omega)]
  rfl
theorem at_take (l : List Item) (st : Bool) (S : Nat) (cs : List Int) (n k : Nat) (h : k ≤ n) : at' l st S (cs.take n) k = at' l st S cs k := by
  unfold at'
  rw [List.take_take, Nat.min_eq_left h]
theorem runs_take (l : List Item) (st : Bool) (S : Nat) (cs : List Int) (n k : Nat) (h : n ≤ k) : (runs l st S cs k).take (n + 1) = runs l st S (cs.take n) n := by
  apply List.ext_getElem?
  intro i
  rw [List.getElem?_take]
  split
  · rename_i hi
    rw [runs_get _ _ _ _ _ _ (by omega), runs_get _ _ _ _ _ _ (by omega), at_take _ _ _ _ _ _ (by omega)]
  · rename_i hi
    rw [List.getElem?_eq_none (by rw [runs_len]; omega)]
theorem at_lt (l : List Item) (st : Bool) (S : Nat) (cs : List Int) (hS : S < 2 ^ (2 * l.length + 1)) : ∀ k, k ≤ cs.length → at' l st S cs k < 2 ^ (2 * l.length + 1)
  | 0, _ => by rw [at_zero]; exact hS
  | k + 1, h => by
    rw [at_succ l st S cs k _ (List.getElem?_eq_getElem (by omega))]
    exact step_lt _ _ _ _
theorem clo_self (l : List Item) (n : Nat) : (clo l n).testBit n = true := by
  by_cases h : n % 2 = 1
  · rw [clo_odd l n h]; exact Nat.testBit_two_pow_self
  · by_cases hl : n / 2 < l.length
    · by_cases h0 : howAt l (n / 2) = 0
      · rw [clo_once l n h0]; exact Nat.testBit_two_pow_self
      · rw [clo_next l n (by omega) hl h0, Nat.testBit_or, Nat.testBit_two_pow_self]; rfl
    · rw [clo_end l n (by omega)]; exact Nat.testBit_two_pow_self
theorem step_zero (l : List Item) (S : Nat) (c : Int) : (step l false S c).testBit 0 = true := by
  unfold step
  rw [fill_bit]
  exact .inl (by unfold init; rw [if_neg (by simp)]; exact clo_self l 0)
/-- each set has state 0; with Start the first one -/
theorem at_odd (l : List Item) (st : Bool) (cs : List Int) (k : Nat) (hk : k ≤ cs.length) (h : st = false ∨ k = 0) : at' l st (clo l 0) cs k % 2 = 1 := by
  have key : (at' l st (clo l 0) cs k).testBit 0 = true := by
    rcases k with - | k
    · rw [at_zero]; exact clo_self l 0
    · rw [at_succ l st _ cs k _ (List.getElem?_eq_getElem (by omega))]
      obtain rfl : st = false := by rcases h with h | h; exact h; omega
      exact step_zero _ _ _
  rw [Nat.testBit_zero] at key
  simpa using key
theorem at_mono (l : List Item) (cs : List Int) (S : Nat) (i : Nat) : ∀ k, k ≤ cs.length → (at' l true S cs k).testBit i = true → (at' l false S cs k).testBit i = true := by
  intro k
  induction k generalizing i with
  | zero => intro _ h; rw [at_zero] at h ⊢; exact h
  | succ k ih =>
    intro hk h
    rw [at_succ l _ S cs k _ (List.getElem?_eq_getElem (by omega))] at h ⊢
    exact step_mono l true false (fun h => by cases h) _ _ _ (fun j hj => ih j (by omega) hj) i h
theorem done_mono (l : List Item) (cs : List Int) (S k : Nat) (hk : k ≤ cs.length) (h : doneB l (at' l true S cs k) = true) : doneB l (at' l false S cs k) = true := at_mono l cs S _ k hk h
theorem or_lt (a b n : Nat) (ha : a < 2 ^ n) (hb : b < 2 ^ n) : a ||| b < 2 ^ n := Nat.or_lt_two_pow ha hb
theorem done_or (l : List Item) (a b : Nat) : doneB l (a ||| b) = (doneB l a || doneB l b) := by unfold doneB; rw [Nat.testBit_or]
end Go.Proofs.YtbpcipobdokcfaaGreatDoor.N

/- PLAIN. Where items end, and the states that say so: what a closed state holds. Nothing of any program. -/
namespace Go.Proofs.YtbpcipobdokcfaaGreatDoor.N

/-- the states that an even one stands for: the even ones from it on, over items that may be left out -/
theorem clo_bit (l : List Item) : ∀ (d n m : Nat), n % 2 = 0 → 2 * l.length ≤ n + 2 * d →
    ((clo l n).testBit m = true ↔ m = n ∨ (n ≤ m ∧ m % 2 = 0 ∧ m / 2 ≤ l.length ∧ ∀ i, n / 2 ≤ i → i < m / 2 → howAt l i ≠ 0)) := by
  intro d
  induction d with
  | zero =>
    intro n m hn hd
    rw [clo_end l n (by omega), Nat.testBit_two_pow]
    simp only [decide_eq_true_eq]
    constructor
    · intro h; exact .inl h.symm
    · rintro (h | ⟨h1, h2, h3, -⟩)
      · exact h.symm
      · omega
  | succ d ih =>
    intro n m hn hd
    by_cases hl : n / 2 < l.length
    · by_cases h0 : howAt l (n / 2) = 0
      · rw [clo_once l n h0, Nat.testBit_two_pow]
        simp only [decide_eq_true_eq]
        constructor
        · intro h; exact .inl h.symm
        · rintro (h | ⟨h1, h2, h3, h4⟩)
          · exact h.symm
          · rcases Nat.eq_or_lt_of_le h1 with h | h
            · exact h
            · exact absurd h0 (h4 (n / 2) (Nat.le_refl _) (by omega))
      · rw [clo_next l n hn hl h0, Nat.testBit_or, Nat.testBit_two_pow, Bool.or_eq_true, decide_eq_true_eq, ih (n + 2) m (by omega) (by omega)]
        constructor
        · rintro (h | h | ⟨h1, h2, h3, h4⟩)
          · exact .inl h.symm
          · exact .inr ⟨by omega, by omega, by omega, fun i h1 h2 => by
              obtain rfl : i = n / 2 := by omega
              exact h0⟩
          · refine .inr ⟨by omega, h2, h3, fun i h5 h6 => ?_⟩
            by_cases hi : i = n / 2
            · subst hi; exact h0
            · exact h4 i (by omega) h6
        · rintro (h | ⟨h1, h2, h3, h4⟩)
          · exact .inl h.symm
          · rcases Nat.eq_or_lt_of_le h1 with h | h
            · exact .inl h
            · by_cases h5 : m = n + 2
              · exact .inr (.inl h5)
              · exact .inr (.inr ⟨by omega, h2, h3, fun i h6 h7 => h4 i (by omega) h7⟩)
    · rw [clo_end l n (by omega), Nat.testBit_two_pow]
      simp only [decide_eq_true_eq]
      constructor
      · intro h; exact .inl h.symm
      · rintro (h | ⟨h1, h2, h3, -⟩)
        · exact h.symm
        · omega
theorem clo_even (l : List Item) (n m : Nat) (hn : n % 2 = 0) : (clo l n).testBit m = true ↔ m = n ∨ (n ≤ m ∧ m % 2 = 0 ∧ m / 2 ≤ l.length ∧ ∀ i, n / 2 ≤ i → i < m / 2 → howAt l i ≠ 0) :=
  clo_bit l l.length n m hn (by omega)

/-- a number at a place lies in an item's set -/
def okAt (l : List Item) (cs : List Int) (i j : Nat) : Prop := ∃ c, cs[j]? = some c ∧ hasC (setAt l i) c = true
def okOn (l : List Item) (cs : List Int) (i a k : Nat) : Prop := ∀ j, a ≤ j → j < k → okAt l cs i j
/-- an item goes from one place to another -/
def full (l : List Item) (cs : List Int) (i a b : Nat) : Prop := a ≤ b ∧ okOn l cs i a b ∧ (howAt l i = 0 → b = a + 1) ∧ (howAt l i = 2 → (b - a) % 2 = 0)
/-- the first items go from one place to another -/
def Ends (l : List Item) (cs : List Int) : Nat → Nat → Nat → Prop
  | 0, f, a => a = f
  | i + 1, f, a => ∃ b, Ends l cs i f b ∧ full l cs i b a
theorem Ends.le {l : List Item} {cs : List Int} : ∀ {i f a : Nat}, Ends l cs i f a → f ≤ a
  | 0, _, _, h => by unfold Ends at h; omega
  | i + 1, f, a, h => by obtain ⟨b, h1, h2⟩ := h; exact Nat.le_trans h1.le h2.1
/-- items that may be left out -/
theorem Ends.skip {l : List Item} {cs : List Int} {i f a : Nat} (h : Ends l cs i f a) : ∀ m, i ≤ m → (∀ j, i ≤ j → j < m → howAt l j ≠ 0) → Ends l cs m f a := by
  intro m
  induction m with
  | zero =>
    intro hm _
    have e : i = 0 := by omega
    rw [e] at h
    exact h
  | succ m ih =>
    intro hm hs
    by_cases hi : i = m + 1
    · subst hi; exact h
    · exact ⟨a, ih (by omega) (fun j h1 h2 => hs j h1 (by omega)), Nat.le_refl _, fun j h1 h2 => by omega, fun h0 => absurd h0 (hs m (by omega) (by omega)), fun _ => by simp⟩
end Go.Proofs.YtbpcipobdokcfaaGreatDoor.N

/- PLAIN. The states behind some numbers say where items end. Nothing of any program. -/
namespace Go.Proofs.YtbpcipobdokcfaaGreatDoor.N

def part (l : List Item) (cs : List Int) (i a k : Nat) : Prop := a ≤ k ∧ okOn l cs i a k ∧ (howAt l i = 0 → k = a) ∧ (howAt l i = 2 → (k - a) % 2 = 0)
def half (l : List Item) (cs : List Int) (i a k : Nat) : Prop := a ≤ k ∧ okOn l cs i a k ∧ howAt l i = 2 ∧ (k - a) % 2 = 1
def Stt (l : List Item) (st : Bool) (cs : List Int) (k m : Nat) : Prop := ∃ f a, (st = true → f = 0) ∧ Ends l cs (m / 2) f a ∧ (m % 2 = 0 → part l cs (m / 2) a k) ∧ (m % 2 = 1 → half l cs (m / 2) a k)

theorem part_self (l : List Item) (cs : List Int) (i a : Nat) : part l cs i a a := ⟨Nat.le_refl _, fun j h1 h2 => by omega, fun _ => rfl, fun _ => by simp⟩
theorem Ends.zero {l : List Item} {cs : List Int} : ∀ {i f a : Nat}, Ends l cs i f a → a ≤ f → ∀ j, j < i → howAt l j ≠ 0
  | 0, _, _, _, _, j, hj => by omega
  | i + 1, f, a, h, hl, j, hj => by
    obtain ⟨b, h1, h2, -, h4, -⟩ := h
    have := h1.le
    by_cases hji : j = i
    · subst hji; intro h0; have := h4 h0; omega
    · exact Ends.zero h1 (by omega) j (by omega)
theorem Ends.last {l : List Item} {cs : List Int} {k : Nat} : ∀ {i f : Nat}, Ends l cs i f (k + 1) → f ≤ k → ∃ j b, j < i ∧ b ≤ k ∧ Ends l cs j f b ∧ full l cs j b (k + 1) ∧ ∀ q, j < q → q < i → howAt l q ≠ 0
  | 0, f, h, hl => by unfold Ends at h; omega
  | i + 1, f, h, hl => by
    obtain ⟨b, h1, h2⟩ := h
    by_cases hb : b ≤ k
    · exact ⟨i, b, by omega, hb, h1, h2, fun q _ _ => by omega⟩
    · have e : b = k + 1 := by have := h2.1; omega
      subst e
      obtain ⟨j, b', h3, h4, h5, h6, h7⟩ := Ends.last h1 hl
      refine ⟨j, b', by omega, h4, h5, h6, fun q hq1 hq2 => ?_⟩
      by_cases hq : q = i
      · subst hq; intro h0; have := h2.2.2.1 h0; omega
      · exact h7 q hq1 (by omega)
theorem how_out {l : List Item} {i : Nat} (h : howAt l i ≠ 0) : i < l.length := by
  rcases Nat.lt_or_ge i l.length with h' | h'
  · exact h'
  · exfalso; apply h; unfold howAt; rw [List.getD_eq_getElem?_getD, List.getElem?_eq_none h']; rfl
theorem okOn.more {l : List Item} {cs : List Int} {i a k : Nat} (h : okOn l cs i a k) (hk : okAt l cs i k) : okOn l cs i a (k + 1) := fun j h1 h2 => by
  by_cases e : j = k
  · subst e; exact hk
  · exact h j h1 (by omega)
theorem okOn.less {l : List Item} {cs : List Int} {i a k : Nat} (h : okOn l cs i a (k + 1)) : okOn l cs i a k := fun j h1 h2 => h j h1 (by omega)

/-- behind a closed even state: items that may be left out -/
theorem clo_stt {l : List Item} {st : Bool} {cs : List Int} {k n m f : Nat} (hn : n % 2 = 0) (hf : st = true → f = 0) (he : Ends l cs (n / 2) f k) (hm : (clo l n).testBit m = true) : Stt l st cs k m := by
  rcases (clo_even l n m hn).1 hm with rfl | ⟨h1, h2, h3, h4⟩
  · exact ⟨f, k, hf, he, fun _ => part_self .., fun h => by omega⟩
  · exact ⟨f, k, hf, he.skip (m / 2) (by omega) h4, fun _ => part_self .., fun h => by omega⟩
theorem clo_part {l : List Item} {st : Bool} {cs : List Int} {k n m f a : Nat} (hn : n % 2 = 0) (hf : st = true → f = 0) (he : Ends l cs (n / 2) f a) (hp : part l cs (n / 2) a k) (h0 : howAt l (n / 2) ≠ 0) (hm : (clo l n).testBit m = true) : Stt l st cs k m := by
  rcases (clo_even l n m hn).1 hm with rfl | ⟨h1, h2, h3, h4⟩
  · exact ⟨f, a, hf, he, fun _ => hp, fun h => by omega⟩
  · by_cases e : m = n
    · subst e; exact ⟨f, a, hf, he, fun _ => hp, fun h => by omega⟩
    · have hE : Ends l cs (n / 2 + 1) f k := ⟨a, he, hp.1, hp.2.1, fun h => absurd h h0, hp.2.2.2⟩
      exact ⟨f, k, hf, hE.skip (m / 2) (by omega) (fun j h5 h6 => h4 j (by omega) h6), fun _ => part_self .., fun h => by omega⟩

theorem stt_fwd {l : List Item} {st : Bool} {cs : List Int} (hh : ∀ i, howAt l i = 0 ∨ howAt l i = 1 ∨ howAt l i = 2) {k n m : Nat} (h : Stt l st cs k n) (hk : okAt l cs (n / 2) k) (hm : (clo l (goto l n)).testBit m = true) : Stt l st cs (k + 1) m := by
  obtain ⟨f, a, hf, he, hp, hq⟩ := h
  by_cases hn : n % 2 = 1
  · obtain ⟨h1, h2, h3, h4⟩ := hq hn
    have hg : goto l n = n - 1 := by unfold goto; rw [if_pos hn]
    rw [hg] at hm
    have e : (n - 1) / 2 = n / 2 := by omega
    refine clo_part (n := n - 1) (a := a) (by omega) hf (by rw [e]; exact he) ?_ (by rw [e, h3]; decide) hm
    rw [e]
    exact ⟨by omega, h2.more hk, (fun h => by rw [h3] at h; cases h), fun _ => by omega⟩
  · have hn0 : n % 2 = 0 := by omega
    obtain ⟨h1, h2, h3, h4⟩ := hp hn0
    unfold goto at hm
    rw [if_neg hn] at hm
    rcases hh (n / 2) with e | e | e
    · rw [if_pos e] at hm
      have := h3 e
      subst this
      refine clo_stt (n := n + 2) (by omega) hf ?_ hm
      rw [show (n + 2) / 2 = n / 2 + 1 by omega]
      exact ⟨k, he, by omega, h2.more hk, fun _ => rfl, (fun h => by rw [e] at h; cases h)⟩
    · rw [if_neg (by rw [e]; decide), if_pos e] at hm
      exact clo_part hn0 hf he ⟨by omega, h2.more hk, (fun h => by rw [e] at h; cases h), (fun h => by rw [e] at h; cases h)⟩ (by rw [e]; decide) hm
    · rw [if_neg (by rw [e]; decide), if_neg (by rw [e]; decide), clo_odd l _ (by omega), Nat.testBit_two_pow, decide_eq_true_eq] at hm
      subst hm
      have e2 : (n + 1) / 2 = n / 2 := by omega
      have := h4 e
      exact ⟨f, a, hf, by rw [e2]; exact he, fun h => by omega, fun _ => by rw [e2]; exact ⟨by omega, h2.more hk, e, by omega⟩⟩

theorem stt_back {l : List Item} {st : Bool} {cs : List Int} (hh : ∀ i, howAt l i = 0 ∨ howAt l i = 1 ∨ howAt l i = 2) {k m : Nat} (hm : m ≤ 2 * l.length) (h : Stt l st cs (k + 1) m) :
    (st = false ∧ (clo l 0).testBit m = true) ∨ ∃ n, n < 2 * l.length ∧ Stt l st cs k n ∧ okAt l cs (n / 2) k ∧ (clo l (goto l n)).testBit m = true := by
  obtain ⟨f, a, hf, he, hp, hq⟩ := h
  by_cases hm1 : m % 2 = 1
  · obtain ⟨h1, h2, h3, h4⟩ := hq hm1
    have e2 : (m - 1) / 2 = m / 2 := by omega
    refine .inr ⟨m - 1, by omega, ⟨f, a, hf, by rw [e2]; exact he, fun _ => by rw [e2]; exact ⟨by omega, h2.less, (fun h => by rw [h3] at h; cases h), fun _ => by omega⟩, fun h => by omega⟩, by rw [e2]; exact h2 k (by omega) (by omega), ?_⟩
    unfold goto
    rw [if_neg (by omega), e2, if_neg (by rw [h3]; decide), if_neg (by rw [h3]; decide), show m - 1 + 1 = m by omega]
    exact clo_self l m
  · have hm0 : m % 2 = 0 := by omega
    obtain ⟨h1, h2, h3, h4⟩ := hp hm0
    by_cases ha : a ≤ k
    · have h0 : howAt l (m / 2) ≠ 0 := fun h => by have := h3 h; omega
      have hlt := how_out h0
      have hok := h2 k (by omega) (by omega)
      rcases hh (m / 2) with e | e | e
      · exact absurd e h0
      · refine .inr ⟨m, by omega, ⟨f, a, hf, he, fun _ => ⟨ha, h2.less, fun h => absurd h h0, (fun h => by rw [e] at h; cases h)⟩, fun h => by omega⟩, hok, ?_⟩
        unfold goto
        rw [if_neg hm1, if_neg h0, if_pos e]
        exact clo_self l m
      · have := h4 e
        have e2 : (m + 1) / 2 = m / 2 := by omega
        refine .inr ⟨m + 1, by omega, ⟨f, a, hf, by rw [e2]; exact he, fun h => by omega, fun _ => by rw [e2]; exact ⟨ha, h2.less, e, by omega⟩⟩, by rw [e2]; exact hok, ?_⟩
        unfold goto
        rw [if_pos (by omega), show m + 1 - 1 = m by omega]
        exact clo_self l m
    · have ea : a = k + 1 := by omega
      subst ea
      by_cases hfk : f ≤ k
      · obtain ⟨j, b, hj, hb, hE, hF, hS⟩ := Ends.last he hfk
        have hok : okAt l cs j k := hF.2.1 k (by omega) (by omega)
        have hskip : howAt l j ≠ 0 → (clo l (2 * j)).testBit m = true := fun h0 => (clo_even l (2 * j) m (by omega)).2 (.inr ⟨by omega, hm0, by omega, fun i h5 h6 => by
          by_cases e : i = j
          · subst e; exact h0
          · exact hS i (by omega) (by omega)⟩)
        have hjl : j < l.length := by omega
        rcases hh j with e | e | e
        · have := hF.2.2.1 e
          have eb : b = k := by omega
          subst eb
          refine .inr ⟨2 * j, by omega, ⟨f, b, hf, by rw [show 2 * j / 2 = j by omega]; exact hE, fun _ => part_self .., fun h => by omega⟩, by rw [show 2 * j / 2 = j by omega]; exact hok, ?_⟩
          unfold goto
          rw [if_neg (by omega), show 2 * j / 2 = j by omega, if_pos e]
          exact (clo_even l (2 * j + 2) m (by omega)).2 (.inr ⟨by omega, hm0, by omega, fun i h5 h6 => hS i (by omega) (by omega)⟩)
        · refine .inr ⟨2 * j, by omega, ⟨f, b, hf, by rw [show 2 * j / 2 = j by omega]; exact hE, fun _ => by rw [show 2 * j / 2 = j by omega]; exact ⟨hb, hF.2.1.less, (fun h => by rw [e] at h; cases h), (fun h => by rw [e] at h; cases h)⟩, fun h => by omega⟩, by rw [show 2 * j / 2 = j by omega]; exact hok, ?_⟩
          unfold goto
          rw [if_neg (by omega), show 2 * j / 2 = j by omega, if_neg (by rw [e]; decide), if_pos e]
          exact hskip (by rw [e]; decide)
        · have := hF.2.2.2 e
          refine .inr ⟨2 * j + 1, by omega, ⟨f, b, hf, by rw [show (2 * j + 1) / 2 = j by omega]; exact hE, fun h => by omega, fun _ => by rw [show (2 * j + 1) / 2 = j by omega]; exact ⟨hb, hF.2.1.less, e, by omega⟩⟩, by rw [show (2 * j + 1) / 2 = j by omega]; exact hok, ?_⟩
          unfold goto
          rw [if_pos (by omega), show 2 * j + 1 - 1 = 2 * j by omega]
          exact hskip (by rw [e]; decide)
      · have := he.le
        have hz := he.zero (by omega)
        have hst : st = false := by
          cases st with
          | false => rfl
          | true => have := hf rfl; omega
        refine .inl ⟨hst, (clo_even l 0 m rfl).2 ?_⟩
        exact .inr ⟨by omega, hm0, by omega, fun i _ h6 => hz i h6⟩

/-- the states behind k numbers -/
theorem at_stt (l : List Item) (st : Bool) (cs : List Int) (hh : ∀ i, howAt l i = 0 ∨ howAt l i = 1 ∨ howAt l i = 2) : ∀ k, k ≤ cs.length → ∀ m, m ≤ 2 * l.length → ((at' l st (clo l 0) cs k).testBit m = true ↔ Stt l st cs k m) := by
  intro k
  induction k with
  | zero =>
    intro _ m hm
    rw [at_zero]
    constructor
    · intro h; exact clo_stt (n := 0) (f := 0) rfl (fun _ => rfl) rfl h
    · rintro ⟨f, a, hf, he, hp, hq⟩
      by_cases hm1 : m % 2 = 1
      · obtain ⟨h1, -, -, h4⟩ := hq hm1; omega
      · obtain ⟨h1, -, -, -⟩ := hp (by omega)
        have := he.le
        exact (clo_even l 0 m rfl).2 (.inr ⟨by omega, by omega, by omega, fun i _ h => he.zero (by omega) i h⟩)
  | succ k ih =>
    intro hk m hm
    obtain ⟨c, hc⟩ : ∃ c, cs[k]? = some c := ⟨_, List.getElem?_eq_getElem (by omega)⟩
    rw [at_succ l st _ cs k c hc]
    unfold step
    rw [fill_bit]
    have hgo : ∀ n, n < 2 * l.length → (goes l (at' l st (clo l 0) cs k) c n = true ↔ Stt l st cs k n ∧ okAt l cs (n / 2) k) := fun n hn => by
      unfold goes
      rw [Bool.and_eq_true, ih (by omega) n (by omega)]
      constructor
      · rintro ⟨h1, h2⟩; exact ⟨h1, c, hc, h2⟩
      · rintro ⟨h1, c', hc', h2⟩; rw [hc] at hc'; cases hc'; exact ⟨h1, h2⟩
    constructor
    · rintro (h | ⟨n, h1, h2, h3⟩)
      · unfold init at h
        cases st with
        | true => simp at h
        | false =>
          rw [if_neg (by decide)] at h
          exact clo_stt (n := 0) (f := k + 1) rfl (fun h => by cases h) rfl h
      · obtain ⟨h4, h5⟩ := (hgo n h1).1 h2
        exact stt_fwd hh h4 h5 h3
    · intro h
      rcases stt_back hh hm h with ⟨hs, h'⟩ | ⟨n, h1, h2, h3, h4⟩
      · left; unfold init; rw [hs, if_neg (by decide)]; exact h'
      · exact .inr ⟨n, h1, (hgo n h1).2 ⟨h2, h3⟩, h4⟩

/-- all is done behind k numbers just if all items end there, from some place on -/
theorem done_iff (l : List Item) (st : Bool) (cs : List Int) (hh : ∀ i, howAt l i = 0 ∨ howAt l i = 1 ∨ howAt l i = 2) (k : Nat) (hk : k ≤ cs.length) :
    doneB l (at' l st (clo l 0) cs k) = true ↔ ∃ f, (st = true → f = 0) ∧ f ≤ k ∧ Ends l cs l.length f k := by
  unfold doneB
  rw [at_stt l st cs hh k hk _ (Nat.le_refl _)]
  unfold Stt
  rw [show 2 * l.length / 2 = l.length by omega]
  constructor
  · rintro ⟨f, a, hf, he, hp, -⟩
    have h3 := (hp (by omega)).2.2.1 (by
      unfold howAt; rw [List.getD_eq_getElem?_getD, List.getElem?_eq_none (Nat.le_refl _)]; rfl)
    subst h3
    exact ⟨f, hf, he.le, he⟩
  · rintro ⟨f, hf, -, he⟩
    exact ⟨f, k, hf, he, fun _ => part_self .., fun h => by omega⟩
/-- the numbers behind a place count for nothing -/
theorem okAt_take {l : List Item} {cs : List Int} {k i j : Nat} (h : j < k) : okAt l (cs.take k) i j ↔ okAt l cs i j := by
  unfold okAt
  rw [List.getElem?_take, if_pos h]
theorem full_take {l : List Item} {cs : List Int} {k i a b : Nat} (h : b ≤ k) : full l (cs.take k) i a b ↔ full l cs i a b := by
  unfold full okOn
  constructor
  · rintro ⟨h1, h2, h3⟩; exact ⟨h1, fun j h4 h5 => (okAt_take (by omega)).1 (h2 j h4 h5), h3⟩
  · rintro ⟨h1, h2, h3⟩; exact ⟨h1, fun j h4 h5 => (okAt_take (by omega)).2 (h2 j h4 h5), h3⟩
theorem Ends_take {l : List Item} {cs : List Int} {k : Nat} : ∀ {i f a : Nat}, a ≤ k → (Ends l (cs.take k) i f a ↔ Ends l cs i f a)
  | 0, _, _, _ => Iff.rfl
  | i + 1, f, a, h => by
    constructor
    · rintro ⟨b, h1, h2⟩
      exact ⟨b, (Ends_take (Nat.le_trans h2.1 h)).1 h1, (full_take h).1 h2⟩
    · rintro ⟨b, h1, h2⟩
      exact ⟨b, (Ends_take (Nat.le_trans h2.1 h)).2 h1, (full_take h).2 h2⟩
end Go.Proofs.YtbpcipobdokcfaaGreatDoor.N

/- PLAIN. Where an item ends, as a list. Nothing of any program. -/
namespace Go.Proofs.YtbpcipobdokcfaaGreatDoor.N

/-- how many numbers from a place on lie in an item's set, one by one -/
def runLen (l : List Item) (cs : List Int) (i a : Nat) : Nat := ((cs.drop a).takeWhile fun c => hasC (setAt l i) c).length
theorem while_iff (p : Int → Bool) : ∀ (t : List Int) (j : Nat), (∀ x, x < j → ∃ c, t[x]? = some c ∧ p c = true) ↔ j ≤ (t.takeWhile p).length
  | [], j => by
    simp only [List.takeWhile_nil, List.length_nil]
    constructor
    · intro h
      rcases Nat.eq_zero_or_pos j with h0 | h0
      · omega
      · obtain ⟨c, hc, -⟩ := h 0 h0; simp at hc
    · intro h x hx; omega
  | c :: t, j => by
    cases j with
    | zero => exact ⟨fun _ => Nat.zero_le _, fun _ x hx => by omega⟩
    | succ j =>
      by_cases hc : p c = true
      · rw [List.takeWhile_cons_of_pos hc, List.length_cons]
        have ih := while_iff p t j
        constructor
        · intro h
          have := ih.1 fun x hx => by
            obtain ⟨d, h1, h2⟩ := h (x + 1) (by omega)
            exact ⟨d, by simpa using h1, h2⟩
          omega
        · intro h x hx
          cases x with
          | zero => exact ⟨c, rfl, hc⟩
          | succ x =>
            obtain ⟨d, h1, h2⟩ := ih.2 (by omega) x (by omega)
            exact ⟨d, by simpa using h1, h2⟩
      · rw [List.takeWhile_cons_of_neg hc, List.length_nil]
        constructor
        · intro h
          obtain ⟨d, h1, h2⟩ := h 0 (by omega)
          simp at h1
          subst h1
          exact absurd h2 hc
        · intro h; omega
theorem okOn_iff (l : List Item) (cs : List Int) (i a b : Nat) (h : a ≤ b) : okOn l cs i a b ↔ b ≤ a + runLen l cs i a := by
  have hw := while_iff (fun c => hasC (setAt l i) c) (cs.drop a) (b - a)
  unfold runLen
  constructor
  · intro ho
    have := hw.1 fun x hx => by
      obtain ⟨c, h1, h2⟩ := ho (a + x) (by omega) (by omega)
      exact ⟨c, by rw [List.getElem?_drop]; exact h1, h2⟩
    omega
  · intro hb j h1 h2
    obtain ⟨c, h3, h4⟩ := hw.2 (by omega) (j - a) (by omega)
    rw [List.getElem?_drop, show a + (j - a) = j by omega] at h3
    exact ⟨c, h3, h4⟩
/-- where an item may end that begins at a place -/
def nexts (l : List Item) (cs : List Int) (i a : Nat) : List Nat :=
  if howAt l i = 0 then (if runLen l cs i a = 0 then [] else [a + 1])
  else if howAt l i = 1 then (List.range (runLen l cs i a + 1)).map (a + ·)
  else ((List.range (runLen l cs i a + 1)).filter fun d => d % 2 == 0).map (a + ·)
theorem nexts_iff {l : List Item} {cs : List Int} (hh : ∀ i, howAt l i = 0 ∨ howAt l i = 1 ∨ howAt l i = 2) (i a b : Nat) : b ∈ nexts l cs i a ↔ full l cs i a b := by
  unfold nexts full
  rcases hh i with e | e | e
  · rw [if_pos e]
    constructor
    · intro h
      split at h
      · exact absurd h List.not_mem_nil
      · rename_i h0
        simp only [List.mem_singleton] at h
        subst h
        exact ⟨by omega, (okOn_iff l cs i a (a + 1) (by omega)).2 (by omega), fun _ => rfl, fun h => by rw [e] at h; cases h⟩
    · rintro ⟨h1, h2, h3, -⟩
      have hb := h3 e
      subst hb
      have := (okOn_iff l cs i a (a + 1) (by omega)).1 h2
      rw [if_neg (by omega)]
      exact List.mem_singleton.2 rfl
  · rw [if_neg (by rw [e]; decide), if_pos e]
    simp only [List.mem_map, List.mem_range]
    constructor
    · rintro ⟨d, h1, rfl⟩
      exact ⟨by omega, (okOn_iff l cs i a (a + d) (by omega)).2 (by omega), (fun h => by rw [e] at h; cases h), fun h => by rw [e] at h; cases h⟩
    · rintro ⟨h1, h2, -⟩
      have := (okOn_iff l cs i a b h1).1 h2
      exact ⟨b - a, by omega, by omega⟩
  · rw [if_neg (by rw [e]; decide), if_neg (by rw [e]; decide)]
    simp only [List.mem_map, List.mem_filter, List.mem_range, beq_iff_eq]
    constructor
    · rintro ⟨d, ⟨h1, h2⟩, rfl⟩
      exact ⟨by omega, (okOn_iff l cs i a (a + d) (by omega)).2 (by omega), (fun h => by rw [e] at h; cases h), fun _ => by omega⟩
    · rintro ⟨h1, h2, -, h4⟩
      have := (okOn_iff l cs i a b h1).1 h2
      have := h4 e
      exact ⟨b - a, ⟨by omega, by omega⟩, by omega⟩
end Go.Proofs.YtbpcipobdokcfaaGreatDoor.N
