/-
  PLAIN. What the laws of layer 2 say of units; nothing of any program.
-/
import Derived.Test.YtbagecjkfcoapaaDoorMnP
namespace Go.Proofs.YtbagecjkfcoapaaDoor.M
open U

theorem units_ind {P : List UInt8 → Prop} (h0 : P []) (h1 : ∀ s, s ≠ [] → P (s.drop (unit s).1) → P s) : ∀ s, P s := by
  have key : ∀ (k : Nat) (s : List UInt8), s.length ≤ k → P s := by
    intro k
    induction k with
    | zero =>
      intro s h
      have : s = [] := List.eq_nil_of_length_eq_zero (by omega)
      subst this; exact h0
    | succ k ih =>
      intro s h
      by_cases hs : s = []
      · subst hs; exact h0
      · have := unit_le hs
        exact h1 s hs (ih _ (by rw [List.length_drop]; omega))
  exact fun s => key s.length s (Nat.le_refl _)

def shift (a : Nat) (x : Place) : Place := (x.1 + a, x.2.1, x.2.2)
theorem place_shift (us : List (Nat × Bool)) : ∀ a b, place (a + b) us = (place a us).map (shift b) := by
  induction us with
  | nil => intro a b; rfl
  | cons u us ih =>
    intro a b
    simp only [place, List.map_cons, shift]
    rw [show a + b + u.1 = (a + u.1) + b by omega, ih]
theorem rest_shift (s : List UInt8) (a : Nat) : rest s a = (places (s.drop a)).map (shift a) := by
  unfold rest places
  have := place_shift (units (s.drop a)) 0 a
  rw [Nat.zero_add] at this
  exact this
theorem mended_shift (s : List UInt8) (a : Nat) (x : Place) : mended s (shift a x) = mended (s.drop a) x := by
  unfold mended shift
  rw [List.drop_drop]
  simp only [Nat.add_comm]
theorem repair_shift (s : List UInt8) (a : Nat) (pl : List Place) : repair s (pl.map (shift a)) = repair (s.drop a) pl := by
  unfold repair
  rw [List.flatMap_map]
  congr 1
  exact funext fun x => mended_shift s a x
theorem bad_shift (a : Nat) (pl : List Place) : bad (pl.map (shift a)) = bad pl := by
  unfold bad
  rw [List.filter_map, List.length_map]
  rfl
theorem cuts_shift (a : Nat) (pl : List Place) : (cuts pl).map (· + a) = a :: (pl.map (shift a)).map fun x => x.1 + x.2.1 := by
  unfold cuts
  rw [List.map_cons, List.map_map, List.map_map, Nat.zero_add]
  congr 1
  apply List.map_congr_left
  intro x _
  show x.1 + x.2.1 + a = x.1 + a + x.2.1
  omega

def fix (s : List UInt8) : List UInt8 := repair s (places s)
def badN (s : List UInt8) : Nat := bad (places s)
theorem places_nil : places [] = [] := rfl
theorem places_cons {s : List UInt8} (hs : s ≠ []) : places s = (0, (unit s).1, (unit s).2) :: (places (s.drop (unit s).1)).map (shift (unit s).1) := by
  have hl : 0 < s.length := List.length_pos_iff.2 hs
  have := rest_cons s 0 hl
  rw [rest_zero, List.drop_zero, Nat.zero_add, rest_shift] at this
  exact this
theorem places_len (s : List UInt8) : (places s).length = (units s).length := by
  unfold places
  have key : ∀ (us : List (Nat × Bool)) a, (place a us).length = us.length := by
    intro us
    induction us with
    | nil => intro a; rfl
    | cons u us ih => intro a; simp only [place, List.length_cons, ih]
  exact key _ _
theorem fix_nil : fix [] = [] := rfl
theorem fix_cons {s : List UInt8} (hs : s ≠ []) : fix s = (if (unit s).2 then s.take (unit s).1 else mark) ++ fix (s.drop (unit s).1) := by
  unfold fix
  rw [places_cons hs]
  show repair s (_ :: _) = _
  rw [show repair s ((0, (unit s).1, (unit s).2) :: (places (s.drop (unit s).1)).map (shift (unit s).1)) = mended s (0, (unit s).1, (unit s).2) ++ repair s ((places (s.drop (unit s).1)).map (shift (unit s).1)) from rfl, repair_shift]
  rfl
theorem badN_cons {s : List UInt8} (hs : s ≠ []) : badN s = (if (unit s).2 then 0 else 1) + badN (s.drop (unit s).1) := by
  unfold badN
  rw [places_cons hs]
  have : ∀ (x : Place) pl, bad (x :: pl) = (if x.2.2 then 0 else 1) + bad pl := by
    intro x pl
    unfold bad
    rw [List.filter_cons]
    cases x.2.2 <;> simp [Nat.add_comm]
  rw [this, bad_shift]
theorem cutsN_cons {s : List UInt8} (hs : s ≠ []) : cuts (places s) = 0 :: (cuts (places (s.drop (unit s).1))).map (· + (unit s).1) := by
  rw [cuts_shift]
  conv => lhs; rw [places_cons hs]
  unfold cuts
  rw [List.map_cons]
  simp only [Nat.zero_add]

theorem mark_enc : mark = enc 65533 := by decide +kernel
theorem dec_of_ok {s : List UInt8} (h : (unit s).2 = true) : ∃ r, dec s = some (r, (unit s).1) := by
  cases hd : dec s with
  | none => rw [unit_none hd] at h; cases h
  | some p => obtain ⟨r, n⟩ := p; rw [unit_some hd]; exact ⟨r, rfl⟩
theorem scalars_fix (s : List UInt8) : ∃ l, scalars (fix s) = some l ∧ l.length = (units s).length := by
  refine units_ind (P := fun s => ∃ l, scalars (fix s) = some l ∧ l.length = (units s).length) ⟨[], rfl, rfl⟩ (fun s hs ih => ?_) s
  obtain ⟨l, h1, h2⟩ := ih
  have hu := units_cons hs
  cases hok : (unit s).2 with
  | true =>
    obtain ⟨r, hd⟩ := dec_of_ok hok
    obtain ⟨hr, he, _⟩ := dec_some hd
    refine ⟨r :: l, ?_, by rw [hu, List.length_cons, List.length_cons, h2]⟩
    rw [fix_cons hs, hok, if_pos rfl, ← he, scalars_enc r hr, h1]
    rfl
  | false =>
    refine ⟨65533 :: l, ?_, by rw [hu, List.length_cons, List.length_cons, h2]⟩
    rw [fix_cons hs, hok, if_neg (by simp), mark_enc, scalars_enc 65533 (by decide), h1]
    rfl
theorem valid_fix (s : List UInt8) : valid (fix s) = true := by
  obtain ⟨l, h, _⟩ := scalars_fix s
  unfold valid; rw [h]; rfl
theorem valid_cons {s : List UInt8} (hs : s ≠ []) (h : valid s = true) : (unit s).2 = true ∧ valid (s.drop (unit s).1) = true := by
  cases hd : dec s with
  | none => unfold valid at h; rw [scalars_none hs hd] at h; cases h
  | some p =>
    obtain ⟨r, n⟩ := p
    rw [unit_some hd]
    unfold valid at h ⊢
    rw [scalars_some hd] at h
    refine ⟨rfl, ?_⟩
    show (scalars (s.drop n)).isSome = true
    simpa using h
theorem valid_of_cons {s : List UInt8} (hok : (unit s).2 = true) (h : valid (s.drop (unit s).1) = true) : valid s = true := by
  obtain ⟨r, hd⟩ := dec_of_ok hok
  unfold valid at h ⊢
  rw [scalars_some hd]
  simpa using h
theorem fix_valid (s : List UInt8) : valid s = true → fix s = s ∧ badN s = 0 := by
  refine units_ind (P := fun s => valid s = true → fix s = s ∧ badN s = 0) (fun _ => ⟨rfl, rfl⟩) (fun s hs ih h => ?_) s
  obtain ⟨h1, h2⟩ := valid_cons hs h
  obtain ⟨h3, h4⟩ := ih h2
  rw [fix_cons hs, badN_cons hs, h1, h3, h4]
  simp
theorem valid_of_bad (s : List UInt8) : badN s = 0 → valid s = true := by
  refine units_ind (P := fun s => badN s = 0 → valid s = true) (fun _ => rfl) (fun s hs ih h => ?_) s
  rw [badN_cons hs] at h
  cases hok : (unit s).2 with
  | true => rw [hok] at h; exact valid_of_cons hok (ih (by simpa using h))
  | false => rw [hok] at h; simp at h
theorem fix_iff (s : List UInt8) : fix s = s ↔ valid s = true := ⟨fun h => by rw [← h]; exact valid_fix s, fun h => (fix_valid s h).1⟩
theorem bad_iff (s : List UInt8) : badN s = 0 ↔ valid s = true := ⟨valid_of_bad s, fun h => (fix_valid s h).2⟩

theorem unit_join {s : List UInt8} (t : List UInt8) (h : (unit s).2 = true) : unit (s ++ t) = unit s := by
  obtain ⟨r, hd⟩ := dec_of_ok h
  obtain ⟨_, _, _, _, hn⟩ := dec_some hd
  have := dec_take hd (s.drop (unit s).1 ++ t)
  rw [← List.append_assoc, List.take_append_drop] at this
  rw [unit_some this]
  exact Prod.ext rfl h.symm
theorem joins (t : List UInt8) (s : List UInt8) : valid s = true → fix (s ++ t) = s ++ fix t ∧ badN (s ++ t) = badN t ∧ cuts (places (s ++ t)) = (cuts (places s)).dropLast ++ (cuts (places t)).map (· + s.length) ∧ (units (s ++ t)).length = (units s).length + (units t).length := by
  refine units_ind (P := fun s => valid s = true → fix (s ++ t) = s ++ fix t ∧ badN (s ++ t) = badN t ∧ cuts (places (s ++ t)) = (cuts (places s)).dropLast ++ (cuts (places t)).map (· + s.length) ∧ (units (s ++ t)).length = (units s).length + (units t).length) (fun _ => ⟨rfl, rfl, ?_, ?_⟩) (fun s hs ih h => ?_) s
  · show cuts (places t) = [] ++ (cuts (places t)).map (· + 0)
    simp
  · show (units t).length = 0 + (units t).length
    omega
  · obtain ⟨h1, h2⟩ := valid_cons hs h
    obtain ⟨h3, h4, h5, h6⟩ := ih h2
    have hu := unit_join t h1
    have hle := (unit_le hs).2.2
    have hst : s ++ t ≠ [] := by simp [hs]
    have hd : (s ++ t).drop (unit s).1 = s.drop (unit s).1 ++ t := List.drop_append_of_le_length hle
    have htk : (s ++ t).take (unit s).1 = s.take (unit s).1 := List.take_append_of_le_length hle
    refine ⟨?_, ?_, ?_, ?_⟩
    · rw [fix_cons hst, hu, hd, h3, h1, htk, if_pos rfl, ← List.append_assoc, List.take_append_drop]
    · rw [badN_cons hst, hu, hd, h4, h1]; simp
    · rw [cutsN_cons hst, hu, hd, h5, cutsN_cons hs, List.map_append, List.map_map]
      have hne : (cuts (places (s.drop (unit s).1))).map (· + (unit s).1) ≠ [] := by simp [cuts]
      rw [List.dropLast_cons_of_ne_nil hne, List.cons_append, List.map_dropLast]
      congr 2
      apply List.map_congr_left
      intro x _
      show x + (s.drop (unit s).1).length + (unit s).1 = x + s.length
      rw [List.length_drop]; omega
    · rw [units_cons hst, hu, hd, units_cons hs, List.length_cons, List.length_cons, h6]; omega
end Go.Proofs.YtbagecjkfcoapaaDoor.M
