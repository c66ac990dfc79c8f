/-
  PLAIN. UTF-8 on lists of bytes: the row of a first byte, the scalar that a text begins with, a scalar's bytes; that the two are inverse; nothing of any program.
-/
import Derived.KernelRfl
namespace Go.Proofs.YtbagecjkfcoapaaDoor.U

/-- how many bytes stand behind a first byte; below 0: it is none. -/
def rowN (c : Int) : Int := if c < 128 then 0 else if c < 194 then -1 else if c < 224 then 1 else if c < 240 then 2 else if c < 245 then 3 else -1
def rowLo (c : Int) : Int := if rowN c < 0 then 0 else if c = 224 then 160 else if c = 240 then 144 else 128
def rowHi (c : Int) : Int := if rowN c < 0 then 0 else if c = 237 then 159 else if c = 244 then 143 else 191
def rowM (c : Int) : Int := if rowN c < 0 then 0 else if c < 128 then 0 else if c < 224 then 192 else if c < 240 then 224 else 240

def right (r : Int) : Bool := decide (0 ≤ r) && decide (r ≤ 1114111) && (decide (r < 55296) || decide (57343 < r))

/-- a byte that may stand behind -/
def isTail (c : UInt8) : Bool := decide (128 ≤ c.toNat) && decide (c.toNat ≤ 191)
def b2i (c : UInt8) : Int := (c.toNat : Int)
/-- what tail bytes make of a number -/
def fold (a : Int) (l : List UInt8) : Int := l.foldl (fun a c => 64 * a + b2i c - 128) a

/-- the bytes behind the first one are as the row asks -/
def tailOk (c : Int) (l : List UInt8) : Bool :=
  decide (rowN c ≤ (l.length : Int)) && (l.take (rowN c).toNat).all isTail &&
    (match l.take (rowN c).toNat with | [] => true | d :: _ => decide (rowLo c ≤ b2i d) && decide (b2i d ≤ rowHi c))

/-- the scalar that a text begins with, and how many bytes it has -/
def dec : List UInt8 → Option (Int × Nat)
  | [] => none
  | c :: l => if rowN (b2i c) < 0 then none else if tailOk (b2i c) l then some (fold (b2i c - rowM (b2i c)) (l.take (rowN (b2i c)).toNat), (rowN (b2i c)).toNat + 1) else none

def byte (n : Int) : UInt8 := UInt8.ofNat n.toNat
/-- a scalar's bytes -/
def enc (r : Int) : List UInt8 :=
  if r < 128 then [byte r]
  else if r < 2048 then [byte (192 + r / 64), byte (128 + r % 64)]
  else if r < 65536 then [byte (224 + r / 4096), byte (128 + r / 64 % 64), byte (128 + r % 64)]
  else [byte (240 + r / 262144), byte (128 + r / 4096 % 64), byte (128 + r / 64 % 64), byte (128 + r % 64)]

theorem b2i_nonneg (c : UInt8) : 0 ≤ b2i c := by unfold b2i; omega
theorem b2i_lt (c : UInt8) : b2i c < 256 := by unfold b2i; have := c.toNat_lt; omega
theorem b2i_byte (n : Int) (h0 : 0 ≤ n) (h1 : n < 256) : b2i (byte n) = n := by
  unfold b2i byte
  rw [UInt8.toNat_ofNat']
  have : n.toNat % 2 ^ 8 = n.toNat := Nat.mod_eq_of_lt (by omega)
  rw [this]; omega
theorem b2i_inj {c d : UInt8} (h : b2i c = b2i d) : c = d := by
  apply UInt8.toNat_inj.1; unfold b2i at h; omega
theorem byte_b2i (c : UInt8) : byte (b2i c) = c := b2i_inj (b2i_byte _ (b2i_nonneg c) (b2i_lt c))
theorem byte_eq {n : Int} {c : UInt8} (h : n = b2i c) : byte n = c := by rw [h, byte_b2i]
theorem isTail_iff (c : UInt8) : isTail c = true ↔ 128 ≤ b2i c ∧ b2i c ≤ 191 := by
  unfold isTail b2i; simp; omega
theorem isTail_false (c : UInt8) : isTail c = false ↔ b2i c < 128 ∨ 191 < b2i c := by
  rw [← Bool.not_eq_true, isTail_iff]; omega

theorem right_iff (r : Int) : right r = true ↔ 0 ≤ r ∧ r ≤ 1114111 ∧ (r < 55296 ∨ 57343 < r) := by
  unfold right; simp; omega

theorem enc_len (r : Int) : 1 ≤ (enc r).length ∧ (enc r).length ≤ 4 := by
  unfold enc; repeat' (first | split | simp)

/-- a scalar's bytes, whatever stands behind them, begin with it -/
theorem dec_enc (r : Int) (h : right r = true) (t : List UInt8) : dec (enc r ++ t) = some (r, (enc r).length) := by
  rw [right_iff] at h
  obtain ⟨h0, h1, h2⟩ := h
  unfold enc
  split
  · simp only [List.cons_append, List.nil_append, dec]
    rw [b2i_byte r h0 (by omega)]
    have e1 : rowN r = 0 := by unfold rowN; rw [if_pos (by omega)]
    have e2 : rowM r = 0 := by unfold rowM; rw [e1]; simp; omega
    simp [e1, e2, tailOk, fold]
  · split
    · simp only [List.cons_append, List.nil_append, dec]
      rw [b2i_byte (192 + r / 64) (by omega) (by omega)]
      have e1 : rowN (192 + r / 64) = 1 := by unfold rowN; rw [if_neg (by omega), if_neg (by omega), if_pos (by omega)]
      have e2 : rowM (192 + r / 64) = 192 := by unfold rowM; rw [e1, if_neg (by omega), if_neg (by omega), if_pos (by omega)]
      have e3 : rowLo (192 + r / 64) = 128 := by unfold rowLo; rw [e1, if_neg (by omega), if_neg (by omega), if_neg (by omega)]
      have e4 : rowHi (192 + r / 64) = 191 := by unfold rowHi; rw [e1, if_neg (by omega), if_neg (by omega), if_neg (by omega)]
      have b1 := b2i_byte (128 + r % 64) (by omega) (by omega)
      have t1 : isTail (byte (128 + r % 64)) = true := by rw [isTail_iff, b1]; omega
      simp [e1, e2, e3, e4, tailOk, fold, t1, b1]
      constructor <;> omega
    · split
      · simp only [List.cons_append, List.nil_append, dec]
        rw [b2i_byte (224 + r / 4096) (by omega) (by omega)]
        have e1 : rowN (224 + r / 4096) = 2 := by unfold rowN; rw [if_neg (by omega), if_neg (by omega), if_neg (by omega), if_pos (by omega)]
        have e2 : rowM (224 + r / 4096) = 224 := by unfold rowM; rw [e1, if_neg (by omega), if_neg (by omega), if_neg (by omega), if_pos (by omega)]
        have b1 := b2i_byte (128 + r / 64 % 64) (by omega) (by omega)
        have b2 := b2i_byte (128 + r % 64) (by omega) (by omega)
        have t1 : isTail (byte (128 + r / 64 % 64)) = true := by rw [isTail_iff, b1]; omega
        have t2 : isTail (byte (128 + r % 64)) = true := by rw [isTail_iff, b2]; omega
        have e3 : rowLo (224 + r / 4096) ≤ 128 + r / 64 % 64 := by unfold rowLo; rw [e1]; repeat' (first | omega | split)
        have e4 : 128 + r / 64 % 64 ≤ rowHi (224 + r / 4096) := by unfold rowHi; rw [e1]; repeat' (first | omega | split)
        have e5 : (2 : Int) ≤ (t.length : Int) + 1 + 1 := by omega
        simp [e1, e2, e3, e4, e5, tailOk, fold, t1, t2, b1, b2]
        omega
      · simp only [List.cons_append, List.nil_append, dec]
        rw [b2i_byte (240 + r / 262144) (by omega) (by omega)]
        have e1 : rowN (240 + r / 262144) = 3 := by unfold rowN; rw [if_neg (by omega), if_neg (by omega), if_neg (by omega), if_neg (by omega), if_pos (by omega)]
        have e2 : rowM (240 + r / 262144) = 240 := by unfold rowM; rw [e1, if_neg (by omega), if_neg (by omega), if_neg (by omega), if_neg (by omega)]
        have b1 := b2i_byte (128 + r / 4096 % 64) (by omega) (by omega)
        have b2 := b2i_byte (128 + r / 64 % 64) (by omega) (by omega)
        have b3 := b2i_byte (128 + r % 64) (by omega) (by omega)
        have t1 : isTail (byte (128 + r / 4096 % 64)) = true := by rw [isTail_iff, b1]; omega
        have t2 : isTail (byte (128 + r / 64 % 64)) = true := by rw [isTail_iff, b2]; omega
        have t3 : isTail (byte (128 + r % 64)) = true := by rw [isTail_iff, b3]; omega
        have e3 : rowLo (240 + r / 262144) ≤ 128 + r / 4096 % 64 := by unfold rowLo; rw [e1]; repeat' (first | omega | split)
        have e4 : 128 + r / 4096 % 64 ≤ rowHi (240 + r / 262144) := by unfold rowHi; rw [e1]; repeat' (first | omega | split)
        have e5 : (3 : Int) ≤ (t.length : Int) + 1 + 1 + 1 := by omega
        simp [e1, e2, e3, e4, e5, tailOk, fold, t1, t2, t3, b1, b2, b3]
        omega

theorem rowN_cases (c : Int) : rowN c = -1 ∨ rowN c = 0 ∨ rowN c = 1 ∨ rowN c = 2 ∨ rowN c = 3 := by unfold rowN; repeat' (first | omega | split)
theorem rowN_zero (c : Int) (h : rowN c = 0) : c < 128 := by unfold rowN at h; split at h; assumption; repeat' (first | omega | split at h)
theorem rowN_one (c : Int) (h : rowN c = 1) : 194 ≤ c ∧ c < 224 := by unfold rowN at h; repeat' (first | omega | split at h)
theorem rowN_two (c : Int) (h : rowN c = 2) : 224 ≤ c ∧ c < 240 := by unfold rowN at h; repeat' (first | omega | split at h)
theorem rowN_three (c : Int) (h : rowN c = 3) : 240 ≤ c ∧ c < 245 := by unfold rowN at h; repeat' (first | omega | split at h)
theorem rowLo_ge (c : Int) (h : 0 ≤ rowN c) : 128 ≤ rowLo c ∧ (c = 224 → rowLo c = 160) ∧ (c = 240 → rowLo c = 144) := by
  unfold rowLo; rw [if_neg (by omega)]; repeat' (first | omega | split)
theorem rowHi_le (c : Int) (h : 0 ≤ rowN c) : rowHi c ≤ 191 ∧ (c = 237 → rowHi c = 159) ∧ (c = 244 → rowHi c = 143) := by
  unfold rowHi; rw [if_neg (by omega)]; repeat' (first | omega | split)
theorem tail_range {c : UInt8} (h : isTail c = true) : 128 ≤ b2i c ∧ b2i c ≤ 191 := (isTail_iff c).1 h

/-- what a text begins with is a scalar, and its bytes are the text's first -/
theorem dec_some {s : List UInt8} {r : Int} {n : Nat} (h : dec s = some (r, n)) : right r = true ∧ enc r = s.take n ∧ 1 ≤ n ∧ n ≤ 4 ∧ n ≤ s.length := by
  cases s with
  | nil => simp [dec] at h
  | cons c l =>
    have c0 := b2i_nonneg c
    simp only [dec] at h
    split at h
    · cases h
    rename_i hn
    split at h
    case isFalse => cases h
    rename_i ht
    simp only [Option.some.injEq, Prod.mk.injEq] at h
    obtain ⟨rfl, rfl⟩ := h
    simp only [tailOk, Bool.and_eq_true, decide_eq_true_eq] at ht
    obtain ⟨⟨hlen, hall⟩, hd⟩ := ht
    rcases rowN_cases (b2i c) with e | e | e | e | e
    · omega
    · have hc := rowN_zero _ e
      have em : rowM (b2i c) = 0 := by unfold rowM; rw [e]; simp; omega
      simp only [e, em, Int.toNat_zero, List.take_zero, fold, List.foldl_nil, Int.sub_zero, Nat.zero_add, List.take_succ_cons]
      refine ⟨by rw [right_iff]; omega, ?_, by omega, by omega, by simp⟩
      unfold enc; rw [if_pos hc, byte_b2i]
    · have hc := rowN_one _ e
      have em : rowM (b2i c) = 192 := by unfold rowM; rw [e, if_neg (by omega), if_neg (by omega), if_pos (by omega)]
      rcases l with _ | ⟨d1, l⟩
      · simp [e] at hlen
      ·
        simp only [e, Int.toNat_one, List.take_succ_cons, List.take_zero, List.all_cons, List.all_nil, Bool.and_true] at hall
        have t1 := tail_range hall
        simp only [e, em, Int.toNat_one, List.take_succ_cons, List.take_zero, fold, List.foldl_cons, List.foldl_nil]
        refine And.intro ((right_iff _).2 (by omega)) (And.intro ?_ (And.intro (by omega) (And.intro (by omega) (by simp))))
        unfold enc; rw [if_neg (by omega), if_pos (by omega)]
        simp only [List.cons.injEq, and_true]
        exact ⟨byte_eq (by omega), byte_eq (by omega)⟩
    · have hc := rowN_two _ e
      have em : rowM (b2i c) = 224 := by unfold rowM; rw [e, if_neg (by omega), if_neg (by omega), if_neg (by omega), if_pos (by omega)]
      have hlo := rowLo_ge (b2i c) (by omega)
      have hhi := rowHi_le (b2i c) (by omega)
      rcases l with _ | ⟨d1, l⟩
      · simp [e] at hlen
      rcases l with _ | ⟨d2, l⟩
      · simp [e] at hlen
      ·
        have e2 : (2 : Int).toNat = 2 := rfl
        simp only [e, e2, List.take_succ_cons, List.take_zero, List.all_cons, List.all_nil, Bool.and_true, Bool.and_eq_true] at hall
        simp only [e, e2, List.take_succ_cons, List.take_zero, Bool.and_eq_true, decide_eq_true_eq] at hd
        have t1 := tail_range hall.1
        have t2 := tail_range hall.2
        simp only [e, e2, em, List.take_succ_cons, List.take_zero, fold, List.foldl_cons, List.foldl_nil]
        refine And.intro ((right_iff _).2 (by omega)) (And.intro ?_ (And.intro (by omega) (And.intro (by omega) (by simp))))
        unfold enc; rw [if_neg (by omega), if_neg (by omega), if_pos (by omega)]
        simp only [List.cons.injEq, and_true]
        exact ⟨byte_eq (by omega), byte_eq (by omega), byte_eq (by omega)⟩
    · have hc := rowN_three _ e
      have em : rowM (b2i c) = 240 := by unfold rowM; rw [e, if_neg (by omega), if_neg (by omega), if_neg (by omega), if_neg (by omega)]
      have hlo := rowLo_ge (b2i c) (by omega)
      have hhi := rowHi_le (b2i c) (by omega)
      rcases l with _ | ⟨d1, l⟩
      · simp [e] at hlen
      rcases l with _ | ⟨d2, l⟩
      · simp [e] at hlen
      rcases l with _ | ⟨d3, l⟩
      · simp [e] at hlen
      ·
        have e2 : (3 : Int).toNat = 3 := rfl
        simp only [e, e2, List.take_succ_cons, List.take_zero, List.all_cons, List.all_nil, Bool.and_true, Bool.and_eq_true] at hall
        simp only [e, e2, List.take_succ_cons, List.take_zero, Bool.and_eq_true, decide_eq_true_eq] at hd
        have t1 := tail_range hall.1
        have t2 := tail_range hall.2.1
        have t3 := tail_range hall.2.2
        simp only [e, e2, em, List.take_succ_cons, List.take_zero, fold, List.foldl_cons, List.foldl_nil]
        refine And.intro ((right_iff _).2 (by omega)) (And.intro ?_ (And.intro (by omega) (And.intro (by omega) (by simp))))
        unfold enc; rw [if_neg (by omega), if_neg (by omega), if_neg (by omega)]
        simp only [List.cons.injEq, and_true]
        exact ⟨byte_eq (by omega), byte_eq (by omega), byte_eq (by omega), byte_eq (by omega)⟩

/-- the scalar that a text begins with is the same, whatever stands behind its bytes -/
theorem dec_take {s : List UInt8} {r : Int} {n : Nat} (h : dec s = some (r, n)) (t : List UInt8) : dec (s.take n ++ t) = some (r, n) := by
  obtain ⟨hr, he, h1, _, hn⟩ := dec_some h
  have := dec_enc r hr t
  rw [he] at this
  rw [this, List.length_take, Nat.min_eq_left hn]

/-- a text's scalars, up to so many steps -/
def scal : Nat → List UInt8 → Option (List Int)
  | 0, s => if s = [] then some [] else none
  | k + 1, s => if s = [] then some [] else
    match dec s with
    | none => none
    | some (r, n) => (scal k (s.drop n)).map (r :: ·)
def scalars (s : List UInt8) : Option (List Int) := scal s.length s
def valid (s : List UInt8) : Bool := (scalars s).isSome
def textOf (l : List Int) : List UInt8 := l.flatMap enc

theorem scal_more (k : Nat) : ∀ (s : List UInt8) (j : Nat), s.length ≤ k → s.length ≤ j → scal k s = scal j s := by
  induction k with
  | zero => intro s j h _; have : s = [] := List.eq_nil_of_length_eq_zero (by omega); subst this; cases j <;> rfl
  | succ k ih =>
    intro s j h hj
    cases j with
    | zero => have : s = [] := List.eq_nil_of_length_eq_zero (by omega); subst this; rfl
    | succ j =>
      simp only [scal]
      split
      · rfl
      · cases hd : dec s with
        | none => rfl
        | some p =>
          obtain ⟨r, n⟩ := p
          have := dec_some hd
          simp only
          rw [ih (s.drop n) j (by rw [List.length_drop]; omega) (by rw [List.length_drop]; omega)]

theorem scalars_nil : scalars [] = some [] := rfl
theorem scalars_none {s : List UInt8} (hs : s ≠ []) (h : dec s = none) : scalars s = none := by
  unfold scalars
  cases hl : s.length with
  | zero => exact absurd (List.eq_nil_of_length_eq_zero hl) hs
  | succ k => simp only [scal]; rw [if_neg hs, h]
theorem scalars_some {s : List UInt8} {r : Int} {n : Nat} (h : dec s = some (r, n)) : scalars s = (scalars (s.drop n)).map (r :: ·) := by
  have hs : s ≠ [] := by rintro rfl; simp [dec] at h
  have := dec_some h
  unfold scalars
  cases hl : s.length with
  | zero => exact absurd (List.eq_nil_of_length_eq_zero hl) hs
  | succ k =>
    simp only [scal]; rw [if_neg hs, h]
    simp only
    rw [scal_more k (s.drop n) (s.drop n).length (by rw [List.length_drop]; omega) (Nat.le_refl _)]

theorem enc_ne (r : Int) : enc r ≠ [] := by have := enc_len r; intro h; rw [h] at this; simp at this
theorem scalars_enc (r : Int) (h : right r = true) (t : List UInt8) : scalars (enc r ++ t) = (scalars t).map (r :: ·) := by
  rw [scalars_some (dec_enc r h t), List.drop_left]
theorem scalars_textOf (l : List Int) (h : ∀ r ∈ l, right r = true) (t : List UInt8) : scalars (textOf l ++ t) = (scalars t).map (l ++ ·) := by
  induction l with
  | nil => simp [textOf]
  | cons r l ih =>
    have e : textOf (r :: l) ++ t = enc r ++ (textOf l ++ t) := by simp [textOf]
    rw [e, scalars_enc r (h r (by simp)), ih (fun r hr => h r (by simp [hr])), Option.map_map]
    congr 1
theorem textOf_scalars (k : Nat) : ∀ (s : List UInt8) (l : List Int), s.length ≤ k → scalars s = some l → textOf l = s ∧ ∀ r ∈ l, right r = true := by
  induction k with
  | zero =>
    intro s l hk h
    have : s = [] := List.eq_nil_of_length_eq_zero (by omega)
    subst this
    rw [scalars_nil] at h
    cases h
    exact ⟨rfl, fun r hr => by cases hr⟩
  | succ k ih =>
    intro s l hk h
    by_cases hs : s = []
    · subst hs
      rw [scalars_nil] at h
      cases h
      exact ⟨rfl, fun r hr => by cases hr⟩
    cases hd : dec s with
    | none => rw [scalars_none hs hd] at h; cases h
    | some p =>
      obtain ⟨r, n⟩ := p
      obtain ⟨hr, he, h1, _, hn⟩ := dec_some hd
      rw [scalars_some hd] at h
      cases hl : scalars (s.drop n) with
      | none => rw [hl] at h; cases h
      | some l' =>
        rw [hl] at h
        simp only [Option.map_some, Option.some.injEq] at h
        subst h
        obtain ⟨g1, g2⟩ := ih _ l' (by rw [List.length_drop]; omega) hl
        refine ⟨?_, fun x hx => ?_⟩
        · show enc r ++ textOf l' = s
          rw [g1, he, List.take_append_drop]
        · rcases List.mem_cons.1 hx with rfl | hx
          · exact hr
          · exact g2 x hx
theorem scalars_iff (s : List UInt8) (l : List Int) : scalars s = some l ↔ textOf l = s ∧ ∀ r ∈ l, right r = true := by
  refine ⟨textOf_scalars s.length s l (Nat.le_refl _), fun ⟨h1, h2⟩ => ?_⟩
  have := scalars_textOf l h2 []
  rw [List.append_nil, h1, scalars_nil] at this
  simpa using this
theorem valid_iff (s : List UInt8) : valid s = true ↔ ∃ l, textOf l = s ∧ ∀ r ∈ l, right r = true := by
  unfold valid
  rw [Option.isSome_iff_exists]
  exact ⟨fun ⟨l, h⟩ => ⟨l, (scalars_iff s l).1 h⟩, fun ⟨l, h⟩ => ⟨l, (scalars_iff s l).2 h⟩⟩
theorem textOf_append (a b : List Int) : textOf (a ++ b) = textOf a ++ textOf b := by simp [textOf]

/-- a first byte is no tail -/
theorem enc_head (r : Int) (h : right r = true) : ∃ c l, enc r = c :: l ∧ isTail c = false ∧ l.all isTail = true := by
  rw [right_iff] at h
  unfold enc
  split
  · refine ⟨_, _, rfl, ?_, rfl⟩
    rw [isTail_false, b2i_byte _ (by omega) (by omega)]; omega
  · split
    · refine ⟨_, _, rfl, ?_, ?_⟩
      · rw [isTail_false, b2i_byte _ (by omega) (by omega)]; omega
      · simp only [List.all_cons, List.all_nil, Bool.and_true]
        rw [isTail_iff, b2i_byte _ (by omega) (by omega)]; omega
    · split
      · refine ⟨_, _, rfl, ?_, ?_⟩
        · rw [isTail_false, b2i_byte _ (by omega) (by omega)]; omega
        · simp only [List.all_cons, List.all_nil, Bool.and_true, Bool.and_eq_true]
          rw [isTail_iff, isTail_iff, b2i_byte _ (by omega) (by omega), b2i_byte _ (by omega) (by omega)]; omega
      · refine ⟨_, _, rfl, ?_, ?_⟩
        · rw [isTail_false, b2i_byte _ (by omega) (by omega)]; omega
        · simp only [List.all_cons, List.all_nil, Bool.and_true, Bool.and_eq_true]
          rw [isTail_iff, isTail_iff, isTail_iff, b2i_byte _ (by omega) (by omega), b2i_byte _ (by omega) (by omega), b2i_byte _ (by omega) (by omega)]; omega
/-- a well-formed text does not begin with a tail -/
theorem valid_head {c : UInt8} {l : List UInt8} (h : valid (c :: l) = true) : isTail c = false := by
  obtain ⟨k, h1, h2⟩ := (valid_iff _).1 h
  cases k with
  | nil => simp [textOf] at h1
  | cons r k =>
    obtain ⟨d, t, he, hd, _⟩ := enc_head r (h2 r (by simp))
    have : textOf (r :: k) = enc r ++ textOf k := rfl
    rw [this, he] at h1
    simp only [List.cons_append, List.cons.injEq] at h1
    rw [← h1.1]; exact hd

theorem valid_nil : valid [] = true := rfl
theorem valid_append_left {s : List UInt8} (h : valid s = true) (t : List UInt8) : valid (s ++ t) = valid t := by
  obtain ⟨l, rfl, hl⟩ := (valid_iff _).1 h
  unfold valid
  rw [scalars_textOf l hl t]
  cases scalars t <;> rfl
/-- a text that begins with a scalar's bytes: these are not cut by a well-formed end -/
theorem valid_append_right {t : List UInt8} (ht : valid t = true) (k : Nat) : ∀ s : List UInt8, s.length ≤ k → valid (s ++ t) = true → valid s = true := by
  induction k with
  | zero => intro s hk _; have : s = [] := List.eq_nil_of_length_eq_zero (by omega); subst this; rfl
  | succ k ih =>
    intro s hk h
    by_cases hs : s = []
    · subst hs; rfl
    obtain ⟨l, h1, h2⟩ := (valid_iff _).1 h
    cases l with
    | nil => simp [textOf] at h1; exact absurd h1.1 hs
    | cons r l =>
      have hr := h2 r (by simp)
      have e : textOf (r :: l) = enc r ++ textOf l := rfl
      rw [e] at h1
      by_cases hlen : (enc r).length ≤ s.length
      · have h3 : (enc r ++ textOf l).take (enc r).length = (s ++ t).take (enc r).length := by rw [h1]
        rw [List.take_left, List.take_append_of_le_length hlen] at h3
        have h4 : s = enc r ++ s.drop (enc r).length := by
          conv => lhs; rw [← List.take_append_drop (enc r).length s]
          rw [← h3]
        have h5 : textOf l = s.drop (enc r).length ++ t := by
          have := h1
          rw [h4, List.append_assoc] at this
          have := List.append_cancel_left this
          simpa using this
        have hv : valid (s.drop (enc r).length) = true := by
          refine ih _ (by rw [List.length_drop]; have := enc_len r; omega) ?_
          exact (valid_iff _).2 ⟨l, h5, fun x hx => h2 x (by simp [hx])⟩
        rw [h4, valid_append_left ((valid_iff _).2 ⟨[r], by simp [textOf], by simpa using hr⟩)]
        exact hv
      · exfalso
        obtain ⟨c, tl, he, _, hall⟩ := enc_head r hr
        cases s with
        | nil => exact hs rfl
        | cons c' s' =>
          cases t with
          | nil =>
            have := congrArg List.length h1
            simp at this hlen
            have := enc_len r
            omega
          | cons d t =>
            have hd := valid_head ht
            rw [he] at h1 hlen
            simp only [List.cons_append, List.cons.injEq] at h1
            have h6 : (tl ++ textOf l)[s'.length]? = (s' ++ d :: t)[s'.length]? := by rw [h1.2]
            simp only [List.length_cons] at hlen
            rw [List.getElem?_append_left (by omega), List.getElem?_append_right (Nat.le_refl _)] at h6
            simp only [Nat.sub_self, List.getElem?_cons_zero] at h6
            have hm : d ∈ tl := List.mem_of_getElem? h6
            have := List.all_eq_true.1 hall d hm
            rw [hd] at this
            cases this
theorem valid_joins {s t : List UInt8} (ht : valid t = true) : valid (s ++ t) = valid s := by
  cases hs : valid s with
  | true => rw [valid_append_left hs, ht]
  | false =>
    cases h : valid (s ++ t) with
    | false => rfl
    | true => rw [valid_append_right ht s.length s (Nat.le_refl _) h] at hs; cases hs

/-- no part of a scalar's bytes is well-formed -/
theorem pieces (r : Int) (h : right r = true) (i : Nat) (h1 : 1 ≤ i) (h2 : i < (enc r).length) : valid ((enc r).take i) = false ∧ valid ((enc r).drop i) = false := by
  obtain ⟨c, tl, he, hc, hall⟩ := enc_head r h
  constructor
  · rw [← Bool.not_eq_true]
    intro hv
    have hsome : valid (enc r) = true := (valid_iff _).2 ⟨[r], by simp [textOf], by simpa using h⟩
    rw [← List.take_append_drop i (enc r), valid_append_left hv] at hsome
    cases hd : (enc r).drop i with
    | nil => have := congrArg List.length hd; simp at this; omega
    | cons d u =>
      rw [hd] at hsome
      have hh := valid_head hsome
      have hm : d ∈ tl := by
        have : (enc r).drop i = tl.drop (i - 1) := by
          rw [he]; cases i with
          | zero => omega
          | succ i => simp
        have hm : d ∈ tl.drop (i - 1) := by rw [← this, hd]; simp
        exact List.mem_of_mem_drop hm
      rw [List.all_eq_true.1 hall d hm] at hh
      cases hh
  · rw [← Bool.not_eq_true]
    intro hv
    cases hd : (enc r).drop i with
    | nil => have := congrArg List.length hd; simp at this; omega
    | cons d u =>
      rw [hd] at hv
      have hh := valid_head hv
      have hm : d ∈ tl := by
        have : (enc r).drop i = tl.drop (i - 1) := by
          rw [he]; cases i with
          | zero => omega
          | succ i => simp
        have hm : d ∈ tl.drop (i - 1) := by rw [← this, hd]; simp
        exact List.mem_of_mem_drop hm
      rw [List.all_eq_true.1 hall d hm] at hh
      cases hh

/- THE SCALAR THAT A TEXT BEGINS WITH, BY ITS FIRST BYTE's ROW: the forms that the walks meet. -/
theorem dec_bad {c : UInt8} {t : List UInt8} (e : rowN (b2i c) < 0) : dec (c :: t) = none := by simp only [dec]; rw [if_pos e]
theorem dec_short {c : UInt8} {t : List UInt8} (h : (t.length : Int) < rowN (b2i c)) : dec (c :: t) = none := by
  simp only [dec]
  split
  · rfl
  rw [if_neg]
  simp only [tailOk, Bool.and_eq_true, decide_eq_true_eq]
  omega
theorem dec_zero {c : UInt8} {t : List UInt8} (e : rowN (b2i c) = 0) : dec (c :: t) = some (b2i c, 1) := by
  have hc := rowN_zero _ e
  have em : rowM (b2i c) = 0 := by unfold rowM; rw [e]; simp; omega
  simp [dec, e, em, tailOk, fold]
theorem dec_one {c d1 : UInt8} {t : List UInt8} (e : rowN (b2i c) = 1) :
    dec (c :: d1 :: t) = if rowLo (b2i c) ≤ b2i d1 ∧ b2i d1 ≤ rowHi (b2i c) ∧ 128 ≤ b2i d1 ∧ b2i d1 ≤ 191 then some (64 * (b2i c - 192) + b2i d1 - 128, 2) else none := by
  have hc := rowN_one _ e
  have em : rowM (b2i c) = 192 := by unfold rowM; rw [e, if_neg (by omega), if_neg (by omega), if_pos (by omega)]
  have h1 := isTail_iff d1
  simp only [dec, e, em]
  rw [if_neg (by omega)]
  by_cases k1 : isTail d1 = true
  · have := h1.1 k1
    by_cases k2 : rowLo (b2i c) ≤ b2i d1 ∧ b2i d1 ≤ rowHi (b2i c)
    · rw [if_pos, if_pos (by omega)]
      · simp [fold]
      · simp [tailOk, e, k1, k2]; omega
    · rw [if_neg, if_neg (by omega)]
      simp [tailOk, e, k1]; omega
  · rw [if_neg, if_neg (by rw [h1] at k1; omega)]
    simp [tailOk, e, k1]
theorem dec_two {c d1 d2 : UInt8} {t : List UInt8} (e : rowN (b2i c) = 2) :
    dec (c :: d1 :: d2 :: t) = if rowLo (b2i c) ≤ b2i d1 ∧ b2i d1 ≤ rowHi (b2i c) ∧ 128 ≤ b2i d1 ∧ b2i d1 ≤ 191 ∧ 128 ≤ b2i d2 ∧ b2i d2 ≤ 191 then some (64 * (64 * (b2i c - 224) + b2i d1 - 128) + b2i d2 - 128, 3) else none := by
  have hc := rowN_two _ e
  have em : rowM (b2i c) = 224 := by unfold rowM; rw [e, if_neg (by omega), if_neg (by omega), if_neg (by omega), if_pos (by omega)]
  have h1 := isTail_iff d1
  have h2 := isTail_iff d2
  have e2 : (2 : Int).toNat = 2 := rfl
  simp only [dec, e, em]
  rw [if_neg (by omega)]
  by_cases k1 : isTail d1 = true ∧ isTail d2 = true
  · have j1 := h1.1 k1.1
    have j2 := h2.1 k1.2
    by_cases k2 : rowLo (b2i c) ≤ b2i d1 ∧ b2i d1 ≤ rowHi (b2i c)
    · rw [if_pos, if_pos (by omega)]
      · simp [fold, e2]
      · simp [tailOk, e, e2, k1, k2]; omega
    · rw [if_neg, if_neg (by omega)]
      simp [tailOk, e, e2, k1]; omega
  · rw [if_neg, if_neg (by rw [h1, h2] at k1; omega)]
    simp only [tailOk, e, e2, List.take_succ_cons, List.take_zero, List.all_cons, List.all_nil, Bool.and_true, Bool.and_eq_true]
    exact fun h => k1 h.1.2
theorem dec_three {c d1 d2 d3 : UInt8} {t : List UInt8} (e : rowN (b2i c) = 3) :
    dec (c :: d1 :: d2 :: d3 :: t) = if rowLo (b2i c) ≤ b2i d1 ∧ b2i d1 ≤ rowHi (b2i c) ∧ 128 ≤ b2i d1 ∧ b2i d1 ≤ 191 ∧ 128 ≤ b2i d2 ∧ b2i d2 ≤ 191 ∧ 128 ≤ b2i d3 ∧ b2i d3 ≤ 191 then some (64 * (64 * (64 * (b2i c - 240) + b2i d1 - 128) + b2i d2 - 128) + b2i d3 - 128, 4) else none := by
  have hc := rowN_three _ e
  have em : rowM (b2i c) = 240 := by unfold rowM; rw [e, if_neg (by omega), if_neg (by omega), if_neg (by omega), if_neg (by omega)]
  have h1 := isTail_iff d1
  have h2 := isTail_iff d2
  have h3 := isTail_iff d3
  have e2 : (3 : Int).toNat = 3 := rfl
  simp only [dec, e, em]
  rw [if_neg (by omega)]
  by_cases k1 : isTail d1 = true ∧ isTail d2 = true ∧ isTail d3 = true
  · have j1 := h1.1 k1.1
    have j2 := h2.1 k1.2.1
    have j3 := h3.1 k1.2.2
    by_cases k2 : rowLo (b2i c) ≤ b2i d1 ∧ b2i d1 ≤ rowHi (b2i c)
    · rw [if_pos, if_pos (by omega)]
      · simp [fold, e2]
      · simp [tailOk, e, e2, k1, k2]; omega
    · rw [if_neg, if_neg (by omega)]
      simp [tailOk, e, e2, k1]; omega
  · rw [if_neg, if_neg (by rw [h1, h2, h3] at k1; omega)]
    simp only [tailOk, e, e2, List.take_succ_cons, List.take_zero, List.all_cons, List.all_nil, Bool.and_true, Bool.and_eq_true]
    exact fun h => k1 h.1.2

theorem fold_snoc (a : Int) (l : List UInt8) (d : UInt8) : fold a (l ++ [d]) = 64 * fold a l + b2i d - 128 := by simp [fold]
theorem fold_bounds (l : List UInt8) (hl : ∀ d ∈ l, isTail d = true) : ∀ a : Int, 0 ≤ a → l.length ≤ 3 → a < 128 → 0 ≤ fold a l ∧ fold a l < 33554432 := by
  intro a ha hlen hlt
  match l, hl, hlen with
  | [], _, _ => simp [fold]; omega
  | [d], hl, _ =>
    have h1 := (isTail_iff d).1 (hl d (by simp))
    simp only [fold, List.foldl_cons, List.foldl_nil]; omega
  | [d, e], hl, _ =>
    have h1 := (isTail_iff d).1 (hl d (by simp))
    have h2 := (isTail_iff e).1 (hl e (by simp))
    simp only [fold, List.foldl_cons, List.foldl_nil]; omega
  | [d, e, f], hl, _ =>
    have h1 := (isTail_iff d).1 (hl d (by simp))
    have h2 := (isTail_iff e).1 (hl e (by simp))
    have h3 := (isTail_iff f).1 (hl f (by simp))
    simp only [fold, List.foldl_cons, List.foldl_nil]; omega
  | _ :: _ :: _ :: _ :: _, _, h => simp at h

theorem dec_of {c : UInt8} {t : List UInt8} {n m : Int} (hn : n = rowN (b2i c)) (hm : rowM (b2i c) = m) (h0 : 0 ≤ n) (hl : n ≤ t.length) (hall : ∀ d ∈ t.take n.toNat, isTail d = true)
    (hsec : n = 0 ∨ ∃ d1 t', t = d1 :: t' ∧ rowLo (b2i c) ≤ b2i d1 ∧ b2i d1 ≤ rowHi (b2i c)) : dec (c :: t) = some (fold (b2i c - m) (t.take n.toNat), n.toNat + 1) := by
  simp only [dec]
  rw [if_neg (by omega), if_pos, ← hn, hm]
  unfold tailOk
  rw [← hn]
  simp only [Bool.and_eq_true, decide_eq_true_eq]
  refine ⟨⟨hl, List.all_eq_true.2 hall⟩, ?_⟩
  rcases hsec with h | ⟨d1, t', rfl, h1, h2⟩
  · subst h; rfl
  · rcases Int.lt_or_eq_of_le h0 with h | h
    · obtain ⟨k, hk⟩ : ∃ k, n.toNat = k + 1 := ⟨n.toNat - 1, by omega⟩
      rw [hk]
      simpa using ⟨h1, h2⟩
    · rw [← h]; rfl
theorem dec_not {c : UInt8} {t : List UInt8} {d : UInt8} (h0 : 0 ≤ rowN (b2i c)) (hd : d ∈ t.take (rowN (b2i c)).toNat) (hf : isTail d = false) : dec (c :: t) = none := by
  simp only [dec]
  rw [if_neg (by omega), if_neg]
  unfold tailOk
  simp only [Bool.and_eq_true]
  intro h
  have := List.all_eq_true.1 h.1.2 d hd
  rw [hf] at this
  cases this
theorem dec_second {c d1 : UInt8} {t : List UInt8} (h0 : 0 < rowN (b2i c)) (hd : ¬ (rowLo (b2i c) ≤ b2i d1 ∧ b2i d1 ≤ rowHi (b2i c))) : dec (c :: d1 :: t) = none := by
  simp only [dec]
  rw [if_neg (by omega), if_neg]
  unfold tailOk
  simp only [Bool.and_eq_true]
  intro h
  obtain ⟨k, hk⟩ : ∃ k, (rowN (b2i c)).toNat = k + 1 := ⟨(rowN (b2i c)).toNat - 1, by omega⟩
  have := h.2
  rw [hk] at this
  simp at this
  exact hd this
theorem rowM_bounds (c : Int) (h0 : 0 ≤ c) (h1 : c < 256) : rowN c < 0 ∨ (0 ≤ c - rowM c ∧ c - rowM c < 128 ∧ 0 ≤ rowM c) := by
  rcases rowN_cases c with e | e | e | e | e
  · omega
  · have := rowN_zero _ e; unfold rowM; rw [e, if_neg (by omega), if_pos (by omega)]; omega
  · have := rowN_one _ e; unfold rowM; rw [e, if_neg (by omega), if_neg (by omega), if_pos (by omega)]; omega
  · have := rowN_two _ e; unfold rowM; rw [e, if_neg (by omega), if_neg (by omega), if_neg (by omega), if_pos (by omega)]; omega
  · have := rowN_three _ e; unfold rowM; rw [e, if_neg (by omega), if_neg (by omega), if_neg (by omega), if_neg (by omega)]; omega
end Go.Proofs.YtbagecjkfcoapaaDoor.U
