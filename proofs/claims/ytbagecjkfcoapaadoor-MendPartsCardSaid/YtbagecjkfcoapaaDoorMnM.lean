/-
  A MAP WITH NUMBERS FOR KEYS, AS A FUNCTION: look-up, store.
-/
import Derived.Test.YtbagecjkfcoapaaDoorRange
namespace Go.Proofs.YtbagecjkfcoapaaDoor
open Go.RowKit

/-- what a map with numbers for keys holds at one -/
def mget (es : Array MapEntry) (q : Int) : Option Value := match Instr.findNow (.int .i64) (.int .i64 q) es.toList 0 with | some (some p) => some p.2 | _ => none
def IntKeys (es : Array MapEntry) : Prop := ∀ x ∈ es.toList, ∃ k, x.key = .int .i64 k
def keyIs : Value → Int → Bool
  | .int .i64 k, q => decide (k = q)
  | _, _ => false
theorem keyIs_iff (v : Value) (q : Int) : keyIs v q = true ↔ v = .int .i64 q := by
  constructor
  · intro h
    unfold keyIs at h
    split at h
    · simp at h; subst h; rfl
    · cases h
  · rintro rfl; simp [keyIs]
def lget : List MapEntry → Int → Option Value
  | [], _ => none
  | e :: es, q => if keyIs e.key q = true then some e.val else lget es q
theorem find_lget (q : Int) : ∀ (l : List MapEntry) (i : Nat), (∀ x ∈ l, ∃ k, x.key = .int .i64 k) →
    (Instr.findNow (.int .i64) (.int .i64 q) l i = some none ∧ lget l q = none) ∨ ∃ j v, Instr.findNow (.int .i64) (.int .i64 q) l i = some (some (i + j, v)) ∧ lget l q = some v ∧ ∃ e, l[j]? = some e ∧ e.key = .int .i64 q ∧ e.val = v
  | [], _, _ => .inl ⟨rfl, rfl⟩
  | e :: es, i, h => by
    obtain ⟨k, hk⟩ := h e (List.mem_cons_self ..)
    by_cases hq : q = k
    · subst hq
      refine .inr ⟨0, e.val, ?_, ?_, e, rfl, hk, rfl⟩
      · simp [Instr.findNow, Instr.sameNow, hk]
      · simp [lget, keyIs, hk]
    · have hq' : (q == k) = false := by simpa using hq
      have hkq : ¬ k = q := fun e => hq e.symm
      rcases find_lget q es (i + 1) (fun x hx => h x (List.mem_cons_of_mem _ hx)) with ⟨h1, h2⟩ | ⟨j, v, h1, h2, e', h3, h4⟩
      · exact .inl ⟨by simp [Instr.findNow, Instr.sameNow, hk, hq', h1], by simp [lget, keyIs, hk, hkq, h2]⟩
      · exact .inr ⟨j + 1, v, by simp [Instr.findNow, Instr.sameNow, hk, hq', h1]; omega, by simp [lget, keyIs, hk, hkq, h2], e', h3, h4⟩
theorem mget_lget {es : Array MapEntry} (h : IntKeys es) (q : Int) : mget es q = lget es.toList q := by
  unfold mget
  rcases find_lget q es.toList 0 h with ⟨h1, h2⟩ | ⟨j, v, h1, h2, _⟩ <;> rw [h1, h2]
theorem lget_snoc (l : List MapEntry) (e : MapEntry) (k q : Int) (hk : e.key = .int .i64 k) (hn : lget l k = none) : lget (l ++ [e]) q = if q = k then some e.val else lget l q := by
  induction l with
  | nil =>
    by_cases h : q = k
    · subst h; simp [lget, keyIs, hk]
    · have : ¬ k = q := fun e => h e.symm
      simp [lget, keyIs, hk, h, this]
  | cons x t ih =>
    simp only [lget] at hn
    split at hn
    · cases hn
    · rename_i hx
      simp only [List.cons_append, lget]
      rw [ih hn]
      by_cases h : q = k
      · subst h; rw [if_neg hx, if_pos rfl, if_pos rfl]
      · rw [if_neg h, if_neg h]
theorem lget_modify (k q : Int) (v : Value) : ∀ (l : List MapEntry) (j : Nat) (e : MapEntry), l[j]? = some e → e.key = .int .i64 k → lget l k = some e.val → (∀ i x, i < j → l[i]? = some x → x.key ≠ .int .i64 k) →
    lget (l.modify j (fun e => { e with key := .int .i64 k, val := v })) q = if q = k then some v else lget l q
  | [], _, _, h, _, _, _ => by simp at h
  | x :: t, 0, e, h, hk, _, _ => by
    simp at h
    subst h
    simp only [List.modify_zero_cons, lget]
    by_cases hq : q = k
    · subst hq; simp [keyIs]
    · have : ¬ k = q := fun e => hq e.symm
      simp [hq, this, hk, keyIs]
  | x :: t, j + 1, e, h, hk, hl, hf => by
    have hx := hf 0 x (by omega) rfl
    simp only [List.getElem?_cons_succ] at h
    simp only [lget] at hl
    have hx' : ¬ keyIs x.key k = true := fun e => hx ((keyIs_iff _ _).mp e)
    rw [if_neg hx'] at hl
    have ih := lget_modify k q v t j e h hk hl (fun i y hi hy => hf (i + 1) y (by omega) (by simpa using hy))
    simp only [List.modify_succ_cons, lget]
    rw [ih]
    by_cases hq : q = k
    · subst hq; rw [if_neg hx', if_pos rfl, if_pos rfl]
    · rw [if_neg hq, if_neg hq]
theorem find_first (k : Int) : ∀ (l : List MapEntry) (i j : Nat) (v : Value), (∀ x ∈ l, ∃ k, x.key = .int .i64 k) → Instr.findNow (.int .i64) (.int .i64 k) l i = some (some (i + j, v)) → ∀ m x, m < j → l[m]? = some x → x.key ≠ .int .i64 k
  | [], _, _, _, _, h => by simp [Instr.findNow] at h
  | e :: es, i, j, v, hk, h => by
    obtain ⟨k', hk'⟩ := hk e (List.mem_cons_self ..)
    by_cases hq : k = k'
    · subst hq
      simp [Instr.findNow, Instr.sameNow, hk'] at h
      intro m x hm; omega
    · have hq' : (k == k') = false := by simpa using hq
      simp [Instr.findNow, Instr.sameNow, hk', hq'] at h
      intro m x hm hx
      cases m with
      | zero =>
        simp at hx
        subst hx
        rw [hk']
        intro e; injection e with _ e; exact hq e.symm
      | succ m =>
        exact find_first k es (i + 1) (j - 1) v (fun x hx => hk x (List.mem_cons_of_mem _ hx)) (by rw [h]; congr 3; omega) m x (by omega) (by simpa using hx)

section
variable {P : Program} {T K E : TypeId}
theorem map_get (hm : P.underlying T = some (.map K E)) (hk : P.underlying K = some (.int .i64)) (W : World) (es : Array MapEntry) (clk : Nat) (k : Int) (n : Nat) (hg : W.heap[n]? = some (.map es clk)) (hik : IntKeys es) (z : Value) (hz : (zeroValue E).run P W = .ok z W) :
    (Instr.lookup T (.map (some n)) (.int .i64 k) false).run P W = .ok ((mget es k).getD z) W := by
  have h1 : (Instr.checkKey es.isEmpty 10000 K (.int .i64 k)).run P W = .ok () W := MapKept.run_checkKey hk (by simp [MapKept.IsKey]) _ 9999
  rcases find_lget k es.toList 0 hik with ⟨hf, hl⟩ | ⟨j, v, hf, hl, _⟩
  · have h2 := MapKept.run_findKey (P := P) (w := W) hk hf
    unfold Instr.lookup
    rw [mget_lget hik, hl]
    simp only [Sem.run_bind, run_underlying hm, Result.andThen, MapKept.run_getObj_map hg, h1, h2, Sem.run_pure, Bool.false_eq_true, if_false, hz, Option.getD_none]
  · have h2 := MapKept.run_findKey (P := P) (w := W) hk hf
    unfold Instr.lookup
    rw [mget_lget hik, hl]
    simp only [Sem.run_bind, run_underlying hm, Result.andThen, MapKept.run_getObj_map hg, h1, h2, Sem.run_pure, Bool.false_eq_true, if_false, Option.getD_some]
theorem map_put (hm : P.underlying T = some (.map K E)) (hk : P.underlying K = some (.int .i64)) (W : World) (es : Array MapEntry) (clk : Nat) (k : Int) (v : Value) (n : Nat) (hg : W.heap[n]? = some (.map es clk)) (hik : IntKeys es) :
    ∃ es' clk', (Instr.mapUpdate T (.map (some n)) (.int .i64 k) v).run P W = .ok () (W.putObj n (.map es' clk')) ∧ IntKeys es' ∧ ∀ q, mget es' q = if q = k then some v else mget es q := by
  have h1 : (Instr.checkKey false 10000 K (.int .i64 k)).run P W = .ok () W := MapKept.run_checkKey hk (by simp [MapKept.IsKey]) false 9999
  rcases find_lget k es.toList 0 hik with ⟨hf, hl⟩ | ⟨j, v0, hf, hl, e, he, hek, hev⟩
  · have h2 := MapKept.run_findKey (P := P) (w := W) hk hf
    have hik' : IntKeys (es.push ⟨.int .i64 k, v, clk⟩) := by
      intro x hx
      rw [Array.toList_push, List.mem_append, List.mem_singleton] at hx
      rcases hx with hx | rfl
      · exact hik x hx
      · exact ⟨k, rfl⟩
    refine ⟨es.push ⟨.int .i64 k, v, clk⟩, clk + 1, ?_, hik', fun q => ?_⟩
    · unfold Instr.mapUpdate
      simp only [Sem.run_bind, run_underlying hm, Result.andThen, MapKept.run_getObj_map hg, h1, h2, MapKept.run_setObj_map _ hg]
      rfl
    · rw [mget_lget hik', mget_lget hik, Array.toList_push, lget_snoc _ _ k q rfl hl]
  · have h2 := MapKept.run_findKey (P := P) (w := W) hk hf
    rw [Nat.zero_add] at hf h2
    have hje : es[j]? = some e := by simpa using he
    have hik' : IntKeys (es.modify j (fun e => { e with key := .int .i64 k, val := v })) := by
      intro x hx
      rcases MapFrom.mem_modify hx with hx | ⟨e', _, rfl⟩
      · exact hik x hx
      · exact ⟨k, rfl⟩
    refine ⟨es.modify j (fun e => { e with key := .int .i64 k, val := v }), clk, ?_, hik', fun q => ?_⟩
    · unfold Instr.mapUpdate
      simp only [Sem.run_bind, run_underlying hm, Result.andThen, MapKept.run_getObj_map hg, h1, h2, hje, Option.map_some, Option.getD_some, hek, MapKept.run_keyThatStays (k := .int .i64 k) (d := .int .i64) (by simp [MapKept.IsKey]), MapKept.run_setObj_map _ hg]
      rfl
    · rw [mget_lget hik', mget_lget hik, Array.toList_modify]
      exact lget_modify k q v es.toList j e he hek (by rw [hl, hev]) (fun i x hi hx => find_first k es.toList 0 j v0 hik (by rw [Nat.zero_add]; exact hf) i x hi hx)
end
end Go.Proofs.YtbagecjkfcoapaaDoor
