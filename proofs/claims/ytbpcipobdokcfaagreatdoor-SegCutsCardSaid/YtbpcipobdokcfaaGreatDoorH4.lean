/-
  Texts of this claim, one behind the other: DfG, DfH, NfaJ, NfaK, NfaL, NfaM, NfaN, NfaO, DfF, Range3, DfI.
-/
import Derived.Test.YtbpcipobdokcfaaGreatDoorH3
import Derived.WideKeyArr
import Derived.StillTailTactics
import Derived.Deep.RegionHeld3
import Derived.Maps.AppendAt
import Derived.Great.BuildSlice
import Derived.Deep.MidRow
import Derived.Deep.AppendLies
import Derived.Deep.RegionLaw
import Derived.Test.YtbpcipobdokcfaaGreatDoorH2

/- THE SETS THAT WERE MET, AS A MAP WHOSE KEYS ARE ARRAYS. -/
namespace Go.Proofs.YtbpcipobdokcfaaGreatDoor
open Go.RowKit Go.WideMaps

theorem keyArr : ArrKey Tryz.prog 115 2 40 := ⟨Tryz.underlying115, by kernel_rfl, by kernel_rfl, by kernel_rfl⟩
theorem keyLaw : KeyLaw Tryz.prog 115 := keyArr.law
theorem keyType1 : Tryz.prog.keyType 115 = true := by kernel_rfl
theorem typesSize : ∃ m, Tryz.prog.types.size = m + 1 := ⟨346 - 101, by kernel_rfl⟩
theorem mapM_all {α β : Type} (f : α → Option β) : ∀ (l : List α), (∀ x ∈ l, ∃ y, f x = some y) → ∃ ys, l.mapM f = some ys
  | [], _ => ⟨[], rfl⟩
  | x :: t, h => by
    obtain ⟨y, hy⟩ := h x (List.mem_cons_self ..)
    obtain ⟨ys, hys⟩ := mapM_all f t (fun z hz => h z (List.mem_cons_of_mem _ hz))
    exact ⟨y :: ys, by rw [List.mapM_cons, hy, hys]; rfl⟩
/-- numbers that an integer holds -/
def Small (s : D.Sets) : Prop := ∀ x ∈ s, x < 4611686018427387904
theorem keyL_get (s : D.Sets) (h : s.length ≤ 40) (hx : Small s) (i : Nat) (hi : i < 40) : ∃ x : Nat, (keyL s)[i]? = some (.int .i64 x) ∧ x < 4611686018427387904 := by
  unfold keyL
  rw [List.getElem?_map]
  rcases Nat.lt_or_ge i s.length with h1 | h1
  · rw [List.getElem?_append_left h1, List.getElem?_eq_getElem h1]
    exact ⟨_, rfl, hx _ (List.getElem_mem h1)⟩
  · rw [List.getElem?_append_right h1, List.getElem?_replicate, if_pos (by omega)]
    exact ⟨0, rfl, by decide⟩
theorem key_of (s : D.Sets) (h : s.length ≤ 40) (hx : Small s) : ∃ l, keyOf Tryz.prog 115 (.agg (keyC s)) = some l := by
  have hsz := keyC_size s h
  obtain ⟨m, hm⟩ := typesSize
  unfold keyOf
  simp only [keyArr.hu]
  rw [if_pos (by simp [keyType1, Value.formed, keyArr.hu, keyArr.size, hsz]), hm]
  unfold Program.keyLits
  simp only [keyArr.hu, Value.cells]
  rw [if_pos (by rw [keyArr.size]; simpa using hsz)]
  obtain ⟨ys, hys⟩ := mapM_all (fun i => Tryz.prog.keyLits (m + 1) 2 (((keyC s).toList.drop (i * Tryz.prog.cellsOf 2)).take (Tryz.prog.cellsOf 2))) (List.range 40) (fun i hi => by
    rw [List.mem_range] at hi
    obtain ⟨x, h1, h2⟩ := keyL_get s h hx i hi
    refine ⟨[.int .i64 x], ?_⟩
    have hl : ((keyC s).toList.drop (i * Tryz.prog.cellsOf 2)).take (Tryz.prog.cellsOf 2) = [.int .i64 (x : Int)] := by
      rw [keyArr.one, Nat.mul_one]
      show ((keyL s).drop i).take 1 = _
      have hlt := (List.getElem?_eq_some_iff.1 h1).1
      rw [List.drop_eq_getElem_cons hlt, (List.getElem?_eq_some_iff.1 h1).2]
      rfl
    rw [hl]
    unfold Program.keyLits
    rw [Tryz.underlying2]
    have hwf : (Lit.int .i64 (x : Int)).wf = true := by
      simp only [Lit.wf, Bool.and_eq_true, decide_eq_true_eq]
      show (-9223372036854775808 : Int) ≤ x ∧ (x : Int) ≤ 9223372036854775807
      omega
    simp [hwf])
  rw [hys]
  exact ⟨_, rfl⟩
theorem keyC_inj {s s' : D.Sets} (h : s.length = s'.length) (e : keyC s = keyC s') : s = s' := by
  apply List.ext_getElem? 
  intro i
  rcases Nat.lt_or_ge i s.length with h1 | h1
  · have h2 : i < s'.length := by omega
    have e1 := keyC_get s i _ (List.getElem?_eq_getElem h1)
    have e2 := keyC_get s' i _ (List.getElem?_eq_getElem h2)
    rw [e, e2] at e1
    rw [List.getElem?_eq_getElem h1, List.getElem?_eq_getElem h2]
    simp only [Option.some.injEq, Value.int.injEq, true_and] at e1 ⊢
    omega
  · rw [List.getElem?_eq_none h1, List.getElem?_eq_none (by omega)]

/-- the map's entries: what was met, in its order -/
def ents (t : List D.Sets) : Array MapEntry := (t.mapIdx fun i s => (⟨.agg (keyC s), .int .i64 (i : Int), i⟩ : MapEntry)).toArray
theorem ents_snoc (t : List D.Sets) (s : D.Sets) : ents (t ++ [s]) = (ents t).push ⟨.agg (keyC s), .int .i64 (t.length : Int), t.length⟩ := by
  unfold ents
  rw [List.mapIdx_concat, List.push_toArray]
theorem ents_get (t : List D.Sets) (i : Nat) : (ents t).toList[i]? = (t[i]?).map fun s => (⟨.agg (keyC s), .int .i64 (i : Int), i⟩ : MapEntry) := by
  unfold ents
  simp
/-- what was met: sets of so many rules, each once -/
structure Fine (n : Nat) (t : List D.Sets) : Prop where
  n40 : n ≤ 40
  len : ∀ s ∈ t, s.length = n
  small : ∀ s ∈ t, Small s
  once : t.Nodup
theorem find_met {n : Nat} {t : List D.Sets} (F : Fine n t) {s : D.Sets} (hl : s.length = n) (hs : Small s) (W : World) :
    (s ∉ t ∧ (Instr.findKey 115 (.agg (keyC s)) (ents t).toList).run Tryz.prog W = .ok none W) ∨
    (s ∈ t ∧ (Instr.findKey 115 (.agg (keyC s)) (ents t).toList).run Tryz.prog W = .ok (some (D.place t s, .int .i64 (D.place t s : Int))) W) := by
  obtain ⟨lx, hlx⟩ := key_of s (by rw [hl]; exact F.n40) hs
  have hmem : ∀ e ∈ (ents t).toList, ∃ (i : Nat) (s' : D.Sets), t[i]? = some s' ∧ e = ⟨.agg (keyC s'), .int .i64 (i : Int), i⟩ := by
    intro e he
    obtain ⟨i, hi⟩ := List.mem_iff_getElem?.1 he
    rw [ents_get] at hi
    obtain ⟨s', h1, h2⟩ := Option.map_eq_some_iff.1 hi
    exact ⟨i, s', h1, h2.symm⟩
  rcases keyLaw.find W hlx (ents t).toList (fun e he => by
    obtain ⟨i, s', h1, rfl⟩ := hmem e he
    exact key_of s' (by rw [F.len s' (List.mem_of_getElem? h1)]; exact F.n40) (F.small s' (List.mem_of_getElem? h1))) with ⟨h1, h2⟩ | ⟨j, e, h1, h2, h3⟩
  · left
    refine ⟨fun hm => ?_, h1⟩
    obtain ⟨i, hi⟩ := List.mem_iff_getElem?.1 hm
    exact h2 _ (List.mem_of_getElem? (by rw [ents_get, hi]; rfl)) rfl
  · right
    rw [ents_get] at h2
    obtain ⟨s', h4, rfl⟩ := Option.map_eq_some_iff.1 h2
    simp only [Value.agg.injEq] at h3
    obtain rfl := keyC_inj (by rw [F.len s' (List.mem_of_getElem? h4), hl]) h3
    have hm := List.mem_of_getElem? h4
    have hj : j = D.place t s' := by
      obtain ⟨h7, h8⟩ := List.getElem?_eq_some_iff.1 h4
      have h9 := List.Nodup.idxOf_getElem F.once j h7
      rw [h8] at h9
      exact h9.symm
    subst hj
    exact ⟨hm, h1⟩
theorem look_met {n : Nat} {t : List D.Sets} (F : Fine n t) {s : D.Sets} (hl : s.length = n) (hs : Small s) (W : World) (m : Nat) (hg : W.heap[m]? = some (.map (ents t) t.length)) :
    (s ∉ t ∧ (Instr.lookup 76 (.map (some m)) (.agg (keyC s)) true).run Tryz.prog W = .ok (.tuple #[.int .i64 0, .bool false]) W) ∨
    (s ∈ t ∧ (Instr.lookup 76 (.map (some m)) (.agg (keyC s)) true).run Tryz.prog W = .ok (.tuple #[.int .i64 (D.place t s : Int), .bool true]) W) := by
  obtain ⟨lx, hlx⟩ := key_of s (by rw [hl]; exact F.n40) hs
  have hck := keyLaw.check W (ents t).isEmpty hlx
  have hz : (zeroValue 3).run Tryz.prog W = .ok (.int .i64 0) W := by kernel_rfl
  rcases find_met F hl hs W with ⟨h1, h2⟩ | ⟨h1, h2⟩
  · left
    refine ⟨h1, ?_⟩
    unfold Instr.lookup
    simp only [Sem.run_bind, run_underlying Tryz.underlying76, Result.andThen, MapKept.run_getObj_map hg, hck, h2, hz, Sem.run_pure, if_true]
  · right
    refine ⟨h1, ?_⟩
    unfold Instr.lookup
    simp only [Sem.run_bind, run_underlying Tryz.underlying76, Result.andThen, MapKept.run_getObj_map hg, hck, h2, Sem.run_pure, if_true]
theorem put_met {n : Nat} {t : List D.Sets} (F : Fine n t) {s : D.Sets} (hl : s.length = n) (hs : Small s) (hn : s ∉ t) (W : World) (m : Nat) (hg : W.heap[m]? = some (.map (ents t) t.length)) :
    (Instr.mapUpdate 76 (.map (some m)) (.agg (keyC s)) (.int .i64 (t.length : Int))).run Tryz.prog W = .ok () (W.putObj m (.map (ents (t ++ [s])) (t ++ [s]).length)) := by
  obtain ⟨lx, hlx⟩ := key_of s (by rw [hl]; exact F.n40) hs
  have hck := keyLaw.check W false hlx
  rcases find_met F hl hs W with ⟨h1, h2⟩ | ⟨h1, h2⟩
  · rw [ents_snoc, List.length_append]
    unfold Instr.mapUpdate
    simp only [Sem.run_bind, run_underlying Tryz.underlying76, Result.andThen, MapKept.run_getObj_map hg, hck, h2, MapKept.run_setObj_map _ hg]
    rfl
  · exact absurd h1 hn
theorem add_fine {n : Nat} {t : List D.Sets} (F : Fine n t) {s : D.Sets} (hl : s.length = n) (hs : Small s) : Fine n (D.add t s) :=
  ⟨F.n40, D.add_all F.len hl, D.add_all F.small hs, D.add_nodup F.once⟩
end Go.Proofs.YtbpcipobdokcfaaGreatDoor

/- THE NUMBER OF SOME SETS: the builder's look at what it met. -/
namespace Go.Proofs.YtbpcipobdokcfaaGreatDoor
open Go.RowKit

section
variable {P : Program} {ops : Array Oper} {w : World}
theorem wpStill_row {Q : Act → Prop} {a : Act} {o : Oper} {rest : List Oper} (hgd : o.guard = none) (ty : TypeId) (x : Operand) (ho : o.op = .load ty x)
    (g : Nat) (hx : a.eval x = .pointer (some ⟨g, 0, none⟩)) (t : TypeId) (cs : Array Value) (fr : Nat × Nat) (d : TypeDesc) (hg : w.heap[g]? = some (.cells cs t fr))
    (hu : P.underlying ty = some d) (hd : (match d with | .struct _ | .array _ _ => true | _ => false) = true) (hi : (P.info? ty).map (·.size) = some cs.size)
    (h : wpStill P ops w Q rest (a.put o.dst (.agg cs))) : wpStill P ops w Q (o :: rest) a := by
  refine wpStill_step fun K hK => ?_
  rw [if_pos (by simp [Region.wanted, hgd])]
  unfold Oper.still execOp
  simp only [ho, hx, Instr.loadAt, Instr.sureAddr, Sem.run_bind, Sem.run_pure, Result.andThen_ok, run_loadVar_row w g t ty cs fr d hg hu hd hi, Oper.stillUpon_value]
  exact hK _ h
end

section
variable {P : Program} {ops : Array Oper} {o : Oper} {a : Act} {w : World} {K : Act → World → Prop} {Q : Exit → Act → World → Prop} {E' : Prop}
theorem step_row (hgd : o.guard = none) (ty : TypeId) (x : Operand) (ho : o.op = .load ty x)
    (g : Nat) (hx : a.eval x = .pointer (some ⟨g, 0, none⟩)) (t : TypeId) (cs : Array Value) (fr : Nat × Nat) (d : TypeDesc) (hg : w.heap[g]? = some (.cells cs t fr))
    (hu : P.underlying ty = some d) (hd : (match d with | .struct _ | .array _ _ => true | _ => false) = true) (hi : (P.info? ty).map (·.size) = some cs.size)
    (h : K (a.put o.dst (.agg cs)) w) : if Region.wanted o (yielded ops a.tmps) = true then Oper.wp P o a w K Q else E' := by
  rw [if_pos (by simp [Region.wanted, hgd])]
  exact wp_load_row ty x ho g hx t cs fr d hg hu hd hi h
theorem step_append (hgd : o.guard = none) (s x : Operand) (t : TypeId)
    (ho : o.op = .call { callee := .builtin .append, args := #[s, x], argTypes := #[t, t] })
    (base : Nat) (e : TypeId) (i : TypeInfo) (z : Value) (size bytes : Nat) (ht : P.underlying t = some (.slice e)) (hi : P.info? e = some i) (hz : i.zero = some z)
    (hsize : i.size = size) (hby : i.bytes = bytes) (hzs : z.cells.size = size) (hsz : 0 < size)
    (v : Value) (n : Nat) (xs : List Value) (hs : a.eval s = v) (hown : w.ownsRow base e size v n xs)
    (ad : Addr) (m c : Nat) (news : List Value) (hx : a.eval x = .slice (some ad) m c) (hl : news.length = m * size) (hnews : ∀ j u, news[j]? = some u → w.cell? (ad.add j) = some u) (h1 : ∀ u ∈ news, u.oneCell' = true)
    (h63 : n + m ≤ maxLen) (hbytes : (n + m) * bytes ≤ 140737488355328) (hbase : base ≤ w.heap.size)
    (h : ∀ v' w', w'.ownsRow base e size v' (n + m) (xs ++ news) → w.grownBy w' v.ownBlock → (v' = .slice none 0 0 ↔ v = .slice none 0 0 ∧ m = 0) → (v'.ownBlock = v.ownBlock ∨ v'.ownBlock = some w.heap.size) → K (a.put o.dst v') w') :
    if Region.wanted o (yielded ops a.tmps) = true then Oper.wp P o a w K Q else E' := by
  rw [if_pos (by simp [Region.wanted, hgd])]
  obtain ⟨v', w', hr, h2, h3, h4, h5⟩ := run_append_own_at (P := P) w base t o.type e i z size bytes ht hi hz hsize hby hzs hsz v n xs hown ad m c news hl hnews h1 h63 hbytes hbase
  unfold Oper.wp execOp
  simp only [ho, resolve, invoke, builtin, Sem.run_bind, Sem.run_pure, Result.andThen_ok, List.map_toArray, List.map_cons, List.map_nil, hs, hx, hr]
  exact h v' w' h2 h3 h4 h5
end

theorem liInfo : (Tryz.prog.info? 115).map (fun i => (i.zero, i.size, i.bytes)) = some (some (.agg (keyC [])), 40, 320) := by kernel_rfl
theorem keyL_one (s : D.Sets) : ∀ u ∈ keyL s, u.oneCell' = true := by
  intro u hu
  unfold keyL at hu
  obtain ⟨x, -, rfl⟩ := List.mem_map.1 hu
  rfl
theorem news_key (s : D.Sets) (W : World) : ∀ j u, (keyL s)[j]? = some u → (W.alloc (.cells (keyC s) 115)).cell? ((⟨W.heap.size, 0, none⟩ : Addr).add j) = some u := by
  intro j u hu
  rw [Addr.add_mid, Nat.zero_add, (Blk.new W _ (keyC s)).cell j]
  unfold keyC
  simpa using hu
/-- a builder that lies in memory: what it met, and what is to do -/
structure Mets (w : World) (base b m : Nat) (nv fv rv : Value) (n k : Nat) (tv : Value) (t : List D.Sets) : Prop where
  blk : Bb w b nv fv rv n m tv
  met : w.heap[m]? = some (.map (ents t) t.length)
  row : w.ownsRow base 115 40 tv t.length (t.flatMap keyL)
  fine : Fine k t
  apart : ∀ g, tv.ownBlock = some g → g ≠ b ∧ g ≠ m
  bm : b ≠ m


theorem fold_set : ∀ (l : List Value) (k : Nat) (A : Array Value), A.size = k + l.length → (l.zipIdx k).foldl (fun (A : Array Value) (x : Value × Nat) => A.setIfInBounds x.2 x.1) A = (A.toList.take k ++ l).toArray
  | [], k, A, h => by
    have : A.toList.take k = A.toList := List.take_of_length_le (by simp at h ⊢; omega)
    rw [List.zipIdx_nil, List.foldl_nil, this]; simp
  | v :: r, k, A, h => by
    rw [List.zipIdx_cons, List.foldl_cons, fold_set r (k + 1) (A.setIfInBounds k v) (by simp at h ⊢; omega)]
    have hk : k < A.toList.length := by simp at h ⊢; omega
    congr 1
    rw [Array.toList_setIfInBounds, List.take_add_one, List.take_set, List.set_eq_of_length_le (by rw [List.length_take]; exact Nat.min_le_left _ _), List.getElem?_set_self (by simpa using hk)]
    simp
theorem fill_key (s : D.Sets) (hs : s.length ≤ 40) (z : Array Value) (hz : z.size = 40) : Instr.fill (fun i => some (i * 40, 40)) z [(0, .agg (keyC s))] = some (keyC s) := by
  have h40 := keyC_size s hs
  unfold Instr.fill
  simp only [Value.cells, h40, hz]
  have hf := fold_set (keyL s) 0 z (by rw [hz, keyL_len s hs])
  have : (keyC s).zipIdx.foldl (fun (cs : Array Value) (x : Value × Nat) => cs.setIfInBounds (0 * 40 + x.2) x.1) z = keyC s := by
    have e : (keyC s).zipIdx.foldl (fun (cs : Array Value) (x : Value × Nat) => cs.setIfInBounds (0 * 40 + x.2) x.1) z = ((keyL s).zipIdx 0).foldl (fun (A : Array Value) (x : Value × Nat) => A.setIfInBounds x.2 x.1) z := by
      rw [← Array.foldl_toList, Array.toList_zipIdx]
      simp [keyC]
    rw [e, hf]
    rfl
  simpa [Instr.fill] using this
theorem step_build {ops : Array Oper} {o : Oper} {a : Act} {w : World} {K : Act → World → Prop} {Q : Exit → Act → World → Prop} {E' : Prop} (hgd : o.guard = none) (x : Operand) (ho : o.op = .buildSlice 77 1 #[(0, x)]) (s : D.Sets) (hs : s.length ≤ 40) (hx : a.eval x = .agg (keyC s))
    (h : K (a.put o.dst (.slice (some ⟨w.heap.size, 0, none⟩) 1 1)) (w.alloc (.cells (keyC s) 115))) : if Region.wanted o (yielded ops a.tmps) = true then Oper.wp Tryz.prog o a w K Q else E' := by
  rw [if_pos (by simp [Region.wanted, hgd])]
  obtain ⟨i0, hi, hz0, hz1, hz2⟩ := info_parts liInfo
  refine wp_buildSlice 77 115 1 #[(0, x)] ho (keyC s) i0 _ Tryz.underlying77 hi hz0 (by rw [hz1]; decide) (by rw [hz1]; decide) ?_ h
  rw [hz1]
  have := fill_key s hs ((Array.range (1 * 40)).map ((Value.agg (keyC [])).cells[· % (Value.agg (keyC [])).cells.size]!)) (by simp)
  simpa [hx] using this

theorem putObj_size (w : World) (n : Nat) (o : Obj) : (w.putObj n o).heap.size = w.heap.size := by simp
theorem hW1_size {w W1 : World} {o : Obj} (h : W1 = w.alloc o) : W1.drew.heap.size = w.heap.size + 1 := by rw [h]; simp [World.drew]

theorem turns_grown {own : Nat → Prop} {A B : World} {row : Option Nat} (h : A.grownBy B row) (hr : ∀ k, row = some k → own k) : Turns own A B :=
  ⟨h.os, h.tape, h.output, h.size, fun k hk ho => h.block k hk (fun e => ho (hr k e.symm))⟩
def numPost (base b m : Nat) (nv fv rv : Value) (n k : Nat) (tv : Value) (t : List D.Sets) (s : D.Sets) (w : World) (e : Ending) (w' : World) : Prop :=
  e = .returned (.tuple #[.int .i64 (D.place t s : Int), .bool (decide (D.place t s < 300))]) ∧
    Turns (fun q => q = b ∨ q = m ∨ tv.ownBlock = some q) w w' ∧ ∃ tv', Mets w' base b m nv fv rv n k tv' (D.add t s) ∧ (tv'.ownBlock = tv.ownBlock ∨ ∃ g, tv'.ownBlock = some g ∧ w.heap.size ≤ g)
theorem number_end {base b m : Nat} {nv fv rv : Value} {n k : Nat} {ta : Option Addr} {tc : Nat} {t : List D.Sets} {s : D.Sets} {w W4 : World} (hM : Mets w base b m nv fv rv n k (.slice ta t.length tc) t) (hl : s.length = k) (hs : Small s) (hn : s ∉ t)
    (hT : Turns (fun q => q = m) w W4) (hB : Blk W4 b 79 #[nv, fv, rv, .int .i64 n, .map (some m), .slice ta t.length tc]) (hm : W4.heap[m]? = some (.map (ents (t ++ [s])) (t.length + 1))) (w1 : World) (g' cap' : Nat)
    (hown : w1.ownsRow base 115 40 (.slice (some ⟨g', 0, none⟩) (t.length + 1) cap') (t.length + 1) ((t ++ [s]).flatMap keyL)) (hgrow : (W4.alloc (.cells (keyC s) 115)).grownBy w1 (Value.slice ta t.length tc).ownBlock)
    (hat : (Value.slice (some ⟨g', 0, none⟩) (t.length + 1) cap').ownBlock = (Value.slice ta t.length tc).ownBlock ∨ (Value.slice (some ⟨g', 0, none⟩) (t.length + 1) cap').ownBlock = some (W4.alloc (.cells (keyC s) 115)).heap.size) :
    numPost base b m nv fv rv n k (.slice ta t.length tc) t s w (.returned (.tuple #[.int .i64 (t.length : Int), .bool (decide ((t.length : Int) < 300))])) (w1.setCell ⟨b, 5, none⟩ (.slice (some ⟨g', 0, none⟩) (t.length + 1) cap')) := by
  have hap := hM.apart
  have hbm := hM.bm
  have hlt := hM.row.lt
  have hmlt : m < w.heap.size := (Array.getElem?_eq_some_iff.1 hM.met).1
  have hblt : b < w.heap.size := hM.blk.lt
  have hsz := hT.size
  have hg' : (Value.slice ta t.length tc).ownBlock = some g' ∨ w.heap.size ≤ g' := by
    rcases hat with h | h
    · left; rw [← h]; rfl
    · right
      have : g' = (W4.alloc (.cells (keyC s) 115)).heap.size := by simpa [Value.ownBlock] using h
      rw [this]; simp; omega
  have hgb : g' ≠ b ∧ g' ≠ m := by
    rcases hg' with h | h
    · exact hap g' h
    · exact ⟨by omega, by omega⟩
  have hT1 : Turns (fun q => q = m ∨ (Value.slice ta t.length tc).ownBlock = some q) w w1 := ((hT.mono fun k h => .inl h).trans (Turns.alloc W4 _)).trans (turns_grown hgrow (fun k h => .inr h))
  have hT2 := (hT1.mono (own' := fun q => q = b ∨ q = m ∨ (Value.slice ta t.length tc).ownBlock = some q) fun k h => .inr h).trans (Turns.setCell w1 (p := ⟨b, 5, none⟩) (.inl rfl) (.slice (some ⟨g', 0, none⟩) (t.length + 1) cap'))
  have hadd : D.add t s = t ++ [s] := by unfold D.add; rw [if_neg hn]
  have hTb : Turns (fun q => q = b) w1 (w1.setCell ⟨b, 5, none⟩ (.slice (some ⟨g', 0, none⟩) (t.length + 1) cap')) := Turns.setCell (own := fun q => q = b) w1 (p := ⟨b, 5, none⟩) rfl _
  have hB1 := (hB.alloc (.cells (keyC s) 115)).grown hgrow (fun e => (hap b e.symm).1 rfl)
  have hm1 : w1.heap[m]? = some (.map (ents (t ++ [s])) (t.length + 1)) := (hgrow.block m (by simp; omega) (fun e => (hap m e.symm).2 rfl)).trans ((Below.heap_alloc _ _ _ (by omega)).trans hm)
  unfold numPost
  rw [D.place_new hn, hadd]
  refine ⟨ret2 rfl (vbool (by rw [Bool.eq_iff_iff]; simp only [decide_eq_true_eq]; omega)), hT2, .slice (some ⟨g', 0, none⟩) (t.length + 1) cap', ⟨hB1.set_ 5 _, ?_, ?_, ?_, ?_, hbm⟩, ?_⟩
  · rw [List.length_append]
    exact (hTb.block m (by have := (Array.getElem?_eq_some_iff.1 hm1).1; omega) (Ne.symm hbm)).trans hm1
  · rw [List.length_append]
    exact hTb.row hown (fun k h => by have : k = g' := by simpa [Value.ownBlock] using h.symm
                                      subst this; exact hgb.1)
  · have := add_fine hM.fine hl hs
    rwa [hadd] at this
  · intro g hg
    have : g = g' := by simpa [Value.ownBlock] using hg.symm
    subst this; exact hgb
  · rcases hg' with h | h
    · left; rw [h]; rfl
    · right; exact ⟨g', rfl, h⟩

theorem number_met {base b m : Nat} {nv fv rv : Value} {n k : Nat} {tv : Value} {t : List D.Sets} {s : D.Sets} {w W : World} (hM : Mets w base b m nv fv rv n k tv t) (hn : s ∈ t)
    (hw : Below w.heap.size w W) (hB : Blk W b 79 #[nv, fv, rv, .int .i64 n, .map (some m), tv]) (hm : W.heap[m]? = some (.map (ents t) t.length)) :
    numPost base b m nv fv rv n k tv t s w (.returned (.tuple #[.int .i64 (D.place t s : Int), .bool (decide ((D.place t s : Int) < 300))])) W := by
  unfold numPost
  have hadd : D.add t s = t := by unfold D.add; rw [if_pos hn]
  rw [hadd]
  have hT : Turns (fun _ => False) w W := Turns.of_below hw
  exact ⟨ret2 rfl (vbool (by rw [Bool.eq_iff_iff]; simp only [decide_eq_true_eq]; omega)), hT.mono (fun _ h => h.elim), tv, ⟨hB, hm, hT.row hM.row (fun _ _ h => h), hM.fine, hM.apart, hM.bm⟩, .inl rfl⟩

set_option maxRecDepth 100000 in
set_option maxHeartbeats 4000000 in
theorem number_any (base b m : Nat) (nv fv rv : Value) (n k : Nat) (tv : Value) (t : List D.Sets) (s : D.Sets) (w : World) (hM : Mets w base b m nv fv rv n k tv t) (hl : s.length = k) (hs : Small s) (ht : t.length ≤ 300) (hb : base ≤ w.heap.size) :
    Calls Tryz.prog 69 #[.pointer (some ⟨b, 0, none⟩), .agg (keyC s)] w (numPost base b m nv fv rv n k tv t s w) := by
  have hk := hM.fine.n40
  have HM := Box.mk hM
  have HSZ := Box.mk (keyC_size s (by omega))
  have HI := Box.mk (show (Tryz.prog.info? 115).map (·.size) = some (keyC s).size by rw [keyInfo, HSZ.out])
  obtain ⟨W1, hW1⟩ : ∃ W1, W1 = w.alloc (.cells (keyC s) 115) := ⟨_, rfl⟩
  have hb1 : Below w.heap.size w W1 := by rw [hW1]; exact (Below.refl _ _).alloc (Nat.le_refl _) _
  have HX := Box.mk (show Blk W1 w.heap.size 115 (keyC s) by rw [hW1]; exact Blk.new _ _ _)
  have HB1 := Box.mk (show Blk W1 b 79 #[nv, fv, rv, .int .i64 n, .map (some m), tv] from hM.blk.below hb1 hM.blk.lt)
  have HMET := Box.mk (show W1.heap[m]? = some (.map (ents t) t.length) from (hb1.block m (Array.getElem?_eq_some_iff.1 hM.met).1).trans hM.met)
  have HW1 := Box.mk hW1
  have HBW := Box.mk hb1
  have lb : b < W1.heap.size := HB1.out.lt
  have lx : w.heap.size < W1.heap.size := HX.out.lt
  clear hM hb1
  go_enter Tryz.func69, Tryz.ntmps69
  go_upto_region 1 with (fail)
  rw [← HW1.out]
  clear hW1
  refine wp_region_still_lit (by kernel_rfl) (by kernel_rfl) ?_
  change wpStill _ _ W1.drew (fun a' => Exit.then _ _ Exit.normal a' W1.drew) _ _
  obtain ⟨W2, hW2⟩ : ∃ W2, W2 = W1.drew := ⟨_, rfl⟩
  have HX2 := Box.mk (show Blk W2 w.heap.size 115 (keyC s) by rw [hW2]; exact HX.out)
  have HB2 := Box.mk (show Blk W2 b 79 #[nv, fv, rv, .int .i64 n, .map (some m), tv] by rw [hW2]; exact HB1.out)
  have HMET2 := Box.mk (show W2.heap[m]? = some (.map (ents t) t.length) by rw [hW2]; exact HMET.out)
  have HBW2 := Box.mk (show Below w.heap.size w W2 by rw [hW2]; exact below_drewN HBW.out 1)
  have HSZ2 := Box.mk (show W2.heap.size = w.heap.size + 1 by rw [hW2, hW1_size HW1.out])
  rw [← hW2]
  clear hW2 HX HB1 HMET HBW HW1 lb lx
  have c4 : W2.cell? ⟨b, 4, none⟩ = some (.map (some m)) := (HB2.out.cell 4).trans rfl
  rcases look_met HM.out.fine hl hs W2 m HMET2.out with ⟨hin, hlk⟩ | ⟨hin, hlk⟩
  · have HIN := Box.mk hin
    have hsm := Box.mk hs
    have hs40 := Box.mk (show s.length ≤ 40 by omega)
    have hzz := Box.mk (show (Value.agg (keyC [])).cells.size = 40 from rfl)
    obtain ⟨i0, hi, hz0, hz1, hz2⟩ := info_parts liInfo
    clear hin hs
    still_step
    still_step
    still_step
    still_step
    refine wpStill_row rfl 115 _ rfl w.heap.size rfl 115 (keyC s) (0, 0) _ HX2.out Tryz.underlying115 rfl HI.out ?_
    still_step
    still_step
    still_step
    still_step
    still_step
    still_step
    refine wpStill_nil ?_
    clear c4 hlk
    obtain ⟨ta, tc, rfl⟩ := ownsRow_shape HM.out.row
    have c5 : W2.cell? ⟨b, 5, none⟩ = some (.slice ta t.length tc) := (HB2.out.cell 5).trans rfl
    go_upto_region 4 with (fail)
    clear c5
    refine wp_region_still_tail 6 (by kernel_rfl) (by kernel_rfl) ?_
    simp only [List.take_succ_cons, List.take_zero, List.drop_succ_cons, List.drop_zero]
    change wpStill _ _ W2.drew (fun a' => wpList _ _ _ _ a' W2.drew) _ _
    obtain ⟨W3, hW3⟩ : ∃ W3, W3 = W2.drew := ⟨_, rfl⟩
    have HX3 := Box.mk (show Blk W3 w.heap.size 115 (keyC s) by rw [hW3]; exact HX2.out)
    have HB3 := Box.mk (show Blk W3 b 79 #[nv, fv, rv, .int .i64 n, .map (some m), .slice ta t.length tc] by rw [hW3]; exact HB2.out)
    have HMET3 := Box.mk (show W3.heap[m]? = some (.map (ents t) t.length) by rw [hW3]; exact HMET2.out)
    have HBW3 := Box.mk (show Below w.heap.size w W3 by rw [hW3]; exact below_drewN HBW2.out 1)
    have HSZ3 := Box.mk (show W3.heap.size = w.heap.size + 1 by rw [hW3]; exact HSZ2.out)
    rw [← hW3]
    clear hW3 HX2 HB2 HMET2 HBW2 HSZ2
    have c4 : W3.cell? ⟨b, 4, none⟩ = some (.map (some m)) := (HB3.out.cell 4).trans rfl
    have hput := put_met HM.out.fine hl hsm.out HIN.out W3 m HMET3.out
    still_step
    still_step
    still_step
    still_step
    refine wpStill_row rfl 115 _ rfl w.heap.size rfl 115 (keyC s) (0, 0) _ HX3.out Tryz.underlying115 rfl HI.out ?_
    still_step
    refine wpStill_nil ?_
    clear c4
    go_upto_region 5 with (fail)
    obtain ⟨W4, hW4⟩ : ∃ W4, W4 = (W3.putObj m (Obj.map (ents (t ++ [s])) (t.length + 1))).drew := ⟨_, rfl⟩
    have hmlt : m < w.heap.size := (Array.getElem?_eq_some_iff.1 HM.out.met).1
    have hblt : b < w.heap.size := HM.out.blk.lt
    have HT4 := Box.mk (show Turns (fun q => q = m) w W4 by rw [hW4]; exact ((Turns.of_below HBW3.out).trans (Turns.putObj (own := fun q => q = m) W3 rfl _)).trans (Turns.drew _))
    have HX4 := Box.mk (show Blk W4 w.heap.size 115 (keyC s) by rw [hW4]; exact (World.putObj_heap_other (by omega)).trans HX3.out)
    have HB4 := Box.mk (show Blk W4 b 79 #[nv, fv, rv, .int .i64 n, .map (some m), .slice ta t.length tc] by rw [hW4]; exact (World.putObj_heap_other HM.out.bm).trans HB3.out)
    have HMET4 := Box.mk (show W4.heap[m]? = some (.map (ents (t ++ [s])) (t.length + 1)) by rw [hW4]; exact World.putObj_heap_same (by have := HSZ3.out; omega))
    have HSZ4 := Box.mk (show W4.heap.size = w.heap.size + 1 by rw [hW4]; exact (putObj_size W3 m _).trans HSZ3.out)
    refine wp_region_any (by kernel_rfl) ?_
    change wpAny _ _ _ _ _ _ _ (World.drew _)
    rw [← hW4]
    clear hW4 HX3 HB3 HMET3 HBW3 HSZ3 hput
    have HR4 := Box.mk (HT4.out.row HM.out.row (fun g hg => (HM.out.apart g hg).2))
    have c5 : W4.cell? ⟨b, 5, none⟩ = some (.slice ta t.length tc) := (HB4.out.cell 5).trans rfl
    have HNB := Box.mk (show some b ≠ (Value.slice ta t.length tc).ownBlock from fun e => (HM.out.apart b e.symm).1 rfl)
    have HFIN := Box.mk (fun w1 g' cap' hown hgrow hat => number_end HM.out hl hsm.out HIN.out HT4.out HB4.out HMET4.out w1 g' cap' hown hgrow hat)
    refine wpAny_take (i := 0) (v := ?_) rfl (by kernel_rfl) (by kernel_rfl) (by kernel_rfl) (fun _ _ _ h => h) (Or.inl ⟨by kernel_rfl, ?_⟩) ?_
    rotate_left
    · first | (intro w; go_simp; done) | (intro w; go_simp; with_reducible rfl)
    refine wpAny_take (i := 1) (v := ?_) rfl (by kernel_rfl) (by kernel_rfl) (by kernel_rfl) (fun _ _ _ h => h) (Or.inl ⟨by kernel_rfl, ?_⟩) ?_
    rotate_left
    · first | (intro w; go_simp; done) | (intro w; go_simp; with_reducible rfl)
    refine wpAny_take (i := 2) (v := ?_) rfl (by kernel_rfl) (by kernel_rfl) (by kernel_rfl) (fun _ _ _ h => h) (Or.inl ⟨by kernel_rfl, ?_⟩) ?_
    rotate_left
    · first | (intro w; go_simp; done) | (intro w; go_simp; with_reducible rfl)
    refine wpAny_take (i := 3) (v := ?_) rfl (by kernel_rfl) (by kernel_rfl) (by kernel_rfl) (fun _ _ _ h => h) (Or.inl ⟨by kernel_rfl, ?_⟩) ?_
    rotate_left
    · first | (intro w; go_simp; done) | (intro w; go_simp; with_reducible rfl)
    have hbl4 : b < W4.heap.size := HB4.out.lt
    refine wpAny_ready (rs := [4, 5]) (by kernel_rfl) (by simp) ?_
    refine AllReady.cons rfl (fun K hK => ?_) (AllReady.cons rfl (fun K hK => ?_) AllReady.nil)
    · go_simp
      refine hK _ _ ?_
      clear hK K
      refine wpAny_ready (rs := [5]) (by kernel_rfl) (by simp) ?_
      refine AllReady.cons rfl (fun K hK => ?_) AllReady.nil
      refine step_row rfl 115 _ rfl w.heap.size (by kernel_rfl) 115 (keyC s) (0, 0) _ HX4.out Tryz.underlying115 rfl HI.out ?_
      refine hK _ _ ?_
      clear hK K
      refine wpAny_ready (rs := [6]) (by kernel_rfl) (by simp) ?_
      refine AllReady.cons rfl (fun K hK => ?_) AllReady.nil
      refine step_build rfl _ rfl s hs40.out (by kernel_rfl) ?_
      refine hK _ _ ?_
      clear hK K
      refine wpAny_ready (rs := [7]) (by kernel_rfl) (by simp) ?_
      refine AllReady.cons rfl (fun K hK => ?_) AllReady.nil
      refine step_append rfl _ _ 77 rfl base 115 i0 (.agg (keyC [])) 40 320 Tryz.underlying77 hi hz0 hz1 hz2 hzz.out (by decide) (.slice ta t.length tc) _ _ (by kernel_rfl) (HR4.out.alloc _) ⟨W4.heap.size, 0, none⟩ 1 1 (keyL s) (by kernel_rfl) (keyL_len s hs40.out) (news_key s W4) (keyL_one s) (by unfold maxLen; omega) (by omega) (by simp; have := HSZ4.out; omega) ?_
      intro v' w1 hown' hgrow _ hat
      obtain ⟨g', cap', rfl⟩ := ownsRow_succ hown'
      have HV1 := Box.mk ((HB4.out.alloc _).grown hgrow HNB.out)
      have HFIN1 := Box.mk (HFIN.out w1 g' cap' (by rw [List.flatMap_append]; simpa using hown') hgrow hat)
      have c5' := (HV1.out.cell 5).trans (show _ = some (Value.slice ta t.length tc) from rfl)
      have f5' := HV1.out.frozen 5
      clear hown' hgrow hat
      refine hK _ _ ?_
      clear hK K
      refine wpAny_take (i := 8) (v := ?_) rfl (by kernel_rfl) (by kernel_rfl) (by kernel_rfl) (fun _ _ _ h => h) (Or.inl ⟨by kernel_rfl, ?_⟩) ?_
      rotate_left
      · first | (intro w; go_simp; done) | (intro w; go_simp; with_reducible rfl)
      refine wpAny_take (i := 9) (v := ?_) rfl (by kernel_rfl) (by kernel_rfl) (by kernel_rfl) (fun _ _ _ h => h) (Or.inl ⟨by kernel_rfl, ?_⟩) ?_
      rotate_left
      · first | (intro w; go_simp; done) | (intro w; go_simp; with_reducible rfl)
      refine wpAny_ready (rs := [10]) (by kernel_rfl) (by simp) ?_
      refine AllReady.cons rfl (fun K hK => ?_) AllReady.nil
      go_simp
      refine hK _ _ ?_
      clear hK K
      refine wpAny_done (by kernel_rfl) ?_ _
      go_wp2_with fail
      go_ret2
      exact HFIN1.out
    · refine step_row rfl 115 _ rfl w.heap.size (by kernel_rfl) 115 (keyC s) (0, 0) _ HX4.out Tryz.underlying115 rfl HI.out ?_
      refine hK _ _ ?_
      clear hK K
      refine wpAny_ready (rs := [4, 6]) (by kernel_rfl) (by simp) ?_
      refine AllReady.cons rfl (fun K hK => ?_) (AllReady.cons rfl (fun K hK => ?_) AllReady.nil)
      · go_simp
        refine hK _ _ ?_
        clear hK K
        refine wpAny_ready (rs := [6]) (by kernel_rfl) (by simp) ?_
        refine AllReady.cons rfl (fun K hK => ?_) AllReady.nil
        refine step_build rfl _ rfl s hs40.out (by kernel_rfl) ?_
        refine hK _ _ ?_
        clear hK K
        refine wpAny_ready (rs := [7]) (by kernel_rfl) (by simp) ?_
        refine AllReady.cons rfl (fun K hK => ?_) AllReady.nil
        refine step_append rfl _ _ 77 rfl base 115 i0 (.agg (keyC [])) 40 320 Tryz.underlying77 hi hz0 hz1 hz2 hzz.out (by decide) (.slice ta t.length tc) _ _ (by kernel_rfl) (HR4.out.alloc _) ⟨W4.heap.size, 0, none⟩ 1 1 (keyL s) (by kernel_rfl) (keyL_len s hs40.out) (news_key s W4) (keyL_one s) (by unfold maxLen; omega) (by omega) (by simp; have := HSZ4.out; omega) ?_
        intro v' w1 hown' hgrow _ hat
        obtain ⟨g', cap', rfl⟩ := ownsRow_succ hown'
        have HV1 := Box.mk ((HB4.out.alloc _).grown hgrow HNB.out)
        have HFIN1 := Box.mk (HFIN.out w1 g' cap' (by rw [List.flatMap_append]; simpa using hown') hgrow hat)
        have c5' := (HV1.out.cell 5).trans (show _ = some (Value.slice ta t.length tc) from rfl)
        have f5' := HV1.out.frozen 5
        clear hown' hgrow hat
        refine hK _ _ ?_
        clear hK K
        refine wpAny_take (i := 8) (v := ?_) rfl (by kernel_rfl) (by kernel_rfl) (by kernel_rfl) (fun _ _ _ h => h) (Or.inl ⟨by kernel_rfl, ?_⟩) ?_
        rotate_left
        · first | (intro w; go_simp; done) | (intro w; go_simp; with_reducible rfl)
        refine wpAny_take (i := 9) (v := ?_) rfl (by kernel_rfl) (by kernel_rfl) (by kernel_rfl) (fun _ _ _ h => h) (Or.inl ⟨by kernel_rfl, ?_⟩) ?_
        rotate_left
        · first | (intro w; go_simp; done) | (intro w; go_simp; with_reducible rfl)
        refine wpAny_ready (rs := [10]) (by kernel_rfl) (by simp) ?_
        refine AllReady.cons rfl (fun K hK => ?_) AllReady.nil
        go_simp
        refine hK _ _ ?_
        clear hK K
        refine wpAny_done (by kernel_rfl) ?_ _
        go_wp2_with fail
        go_ret2
        exact HFIN1.out
      · refine step_build rfl _ rfl s hs40.out (by kernel_rfl) ?_
        refine hK _ _ ?_
        clear hK K
        refine wpAny_ready (rs := [4]) (by kernel_rfl) (by simp) ?_
        refine AllReady.cons rfl (fun K hK => ?_) AllReady.nil
        go_simp
        refine hK _ _ ?_
        clear hK K
        refine wpAny_ready (rs := [7]) (by kernel_rfl) (by simp) ?_
        refine AllReady.cons rfl (fun K hK => ?_) AllReady.nil
        refine step_append rfl _ _ 77 rfl base 115 i0 (.agg (keyC [])) 40 320 Tryz.underlying77 hi hz0 hz1 hz2 hzz.out (by decide) (.slice ta t.length tc) _ _ (by kernel_rfl) (HR4.out.alloc _) ⟨W4.heap.size, 0, none⟩ 1 1 (keyL s) (by kernel_rfl) (keyL_len s hs40.out) (news_key s W4) (keyL_one s) (by unfold maxLen; omega) (by omega) (by simp; have := HSZ4.out; omega) ?_
        intro v' w1 hown' hgrow _ hat
        obtain ⟨g', cap', rfl⟩ := ownsRow_succ hown'
        have HV1 := Box.mk ((HB4.out.alloc _).grown hgrow HNB.out)
        have HFIN1 := Box.mk (HFIN.out w1 g' cap' (by rw [List.flatMap_append]; simpa using hown') hgrow hat)
        have c5' := (HV1.out.cell 5).trans (show _ = some (Value.slice ta t.length tc) from rfl)
        have f5' := HV1.out.frozen 5
        clear hown' hgrow hat
        refine hK _ _ ?_
        clear hK K
        refine wpAny_take (i := 8) (v := ?_) rfl (by kernel_rfl) (by kernel_rfl) (by kernel_rfl) (fun _ _ _ h => h) (Or.inl ⟨by kernel_rfl, ?_⟩) ?_
        rotate_left
        · first | (intro w; go_simp; done) | (intro w; go_simp; with_reducible rfl)
        refine wpAny_take (i := 9) (v := ?_) rfl (by kernel_rfl) (by kernel_rfl) (by kernel_rfl) (fun _ _ _ h => h) (Or.inl ⟨by kernel_rfl, ?_⟩) ?_
        rotate_left
        · first | (intro w; go_simp; done) | (intro w; go_simp; with_reducible rfl)
        refine wpAny_ready (rs := [10]) (by kernel_rfl) (by simp) ?_
        refine AllReady.cons rfl (fun K hK => ?_) AllReady.nil
        go_simp
        refine hK _ _ ?_
        clear hK K
        refine wpAny_done (by kernel_rfl) ?_ _
        go_wp2_with fail
        go_ret2
        exact HFIN1.out
  · have HIN := Box.mk (D.place_lt hin)
    have HFIN := Box.mk (number_met HM.out hin HBW2.out HB2.out HMET2.out)
    clear hin hs
    still_step
    still_step
    still_step
    still_step
    refine wpStill_row rfl 115 _ rfl w.heap.size rfl 115 (keyC s) (0, 0) _ HX2.out Tryz.underlying115 rfl HI.out ?_
    still_step
    still_step
    still_step
    still_step
    still_step
    still_step
    refine wpStill_nil ?_
    clear c4 hlk
    go_wp2_with fail
    go_ret2
    exact HFIN.out
end Go.Proofs.YtbpcipobdokcfaaGreatDoor

/- THE DOCUMENT's ANSWERS OF LAYER 10: add, step, Most, First, Step, Done. -/
namespace Go.Proofs.YtbpcipobdokcfaaGreatDoor
open Go.RowKit

theorem add_or (S n : Nat) (h : S.testBit n = false) : S + 2 ^ n = S ||| 2 ^ n := by
  have hp : 2 ^ (n + 1) = 2 * 2 ^ n := by rw [Nat.pow_succ]; omega
  have hpos : 0 < 2 ^ n := Nat.two_pow_pos n
  rw [Nat.testBit_eq_decide_div_mod_eq, decide_eq_false_iff_not] at h
  have hb : S % 2 ^ (n + 1) < 2 ^ n := by
    rw [hp, Nat.mul_comm, Nat.mod_mul]
    have : S / 2 ^ n % 2 = 0 := by omega
    rw [this]
    have := Nat.mod_lt S hpos
    omega
  have hS : 2 ^ (n + 1) * (S / 2 ^ (n + 1)) + S % 2 ^ (n + 1) = S := Nat.div_add_mod _ _
  generalize S / 2 ^ (n + 1) = a at hS
  generalize S % 2 ^ (n + 1) = b at hS hb
  have h1 : 2 ^ (n + 1) * a + b = 2 ^ (n + 1) * a ||| b := Nat.two_pow_add_eq_or_of_lt (by omega) a
  have h2 : 2 ^ n * 1 + b = 2 ^ n * 1 ||| b := Nat.two_pow_add_eq_or_of_lt hb 1
  have h3 : 2 ^ (n + 1) * a + (2 ^ n * 1 + b) = 2 ^ (n + 1) * a ||| (2 ^ n * 1 + b) := Nat.two_pow_add_eq_or_of_lt (by omega) a
  rw [Nat.mul_one] at h2 h3
  rw [← hS, show 2 ^ (n + 1) * a + b + 2 ^ n = 2 ^ (n + 1) * a + (2 ^ n + b) by omega, h3, h2, h1, Nat.or_assoc, Nat.or_comm b]
theorem or_has (S n : Nat) (h : S.testBit n = true) : S ||| 2 ^ n = S := by
  apply Nat.eq_of_testBit_eq
  intro i
  rw [Nat.testBit_or, Nat.testBit_two_pow]
  by_cases e : n = i
  · subst e; rw [h]; rfl
  · simp [e]

set_option maxHeartbeats 4000000 in
theorem radd_any (st : Bool) (v : Value) (l : List N.Item) (hl : l.length ≤ 12) : ∀ (d n S : Nat) (w : World), 2 * l.length + 2 - n ≤ d → n ≤ 2 * l.length → S < 2 ^ (2 * l.length + 1) → ItemsAt w v l →
    Calls Tryz.prog 76 #[.agg #[.bool st, v], .int .i64 S, .int .i64 n] w fun e w' => e = .returned (.int .i64 ((S ||| N.clo l n : Nat) : Int)) ∧ Below w.heap.size w w' := by
  intro d
  induction d with
  | zero => intro n S w hd hn hS hv; omega
  | succ d ih =>
    intro n S w hd hn hS hv
    have IH := Box.mk ih
    have HV := Box.mk hv
    have HB0 := Box.mk (Blk.new w 42 #[.bool st, v])
    have HW0 := Box.mk (alloc_below w (.cells #[.bool st, v] 42))
    have HS := Box.mk hS
    have hS2 : S < 1099511627776 := lt_40 _ _ hS (by omega)
    obtain ⟨ao, cap, rfl⟩ := hv.slice
    obtain ⟨q, hq⟩ : ∃ q, 2 ^ n = q := ⟨_, rfl⟩
    have hq1 : q ≤ 1099511627776 := by rw [← hq]; exact Nat.pow_le_pow_right (n := 2) (by omega) (show n ≤ 40 by omega)
    have HQ := Box.mk hq
    have HD := Box.mk hd
    clear hv ih hS hq hd
    go_enter Tryz.func76, Tryz.ntmps76
    go_wp2_with fail
    refine (has_any S n _ (by omega) (by omega)).mono ?_; rintro e w1 ⟨rfl, rfl⟩
    go_upto_if 10 with (fail)
    go_cut [1] from 9 to 14 (fun s wx => s = .int .i64 ((S ||| 2 ^ n : Nat) : Int) ∧ Box (Below w.heap.size w wx) ∧ Box (Blk wx w.heap.size 42 #[.bool st, .slice ao l.length cap]))
    case first =>
      cases hb : S.testBit n with
      | true =>
        have HO := Box.mk (or_has S n hb)
        clear hb
        go_wp2_with fail
        go_meet
        exact ⟨by rw [HO.out], HW0, HB0⟩
      | false =>
        have HO := Box.mk (add_or S n hb)
        clear hb
        go_wp2_with fail
        refine (bit_any n _ (by omega)).mono ?_; rintro e w1 ⟨rfl, rfl⟩; rw [HQ.out]
        go_wp2_with fail
        go_meet
        exact ⟨vint (by rw [← HO.out, HQ.out]; simp), HW0, HB0⟩
    case rest =>
      obtain ⟨rfl, hb, hbk⟩ := hcut
      have c0 : wc.cell? ⟨w.heap.size, 0, none⟩ = some (.bool st) := (hbk.out.cell 0).trans rfl
      have c1 : wc.cell? ⟨w.heap.size, 1, none⟩ = some (.slice ao l.length cap) := (hbk.out.cell 1).trans rfl
      by_cases hodd : n % 2 = 1
      · have HC := Box.mk (N.clo_odd l n hodd)
        have t1 : ((n : Int) % 2 == 0) = false := by rw [beq_eq_false_iff_ne]; omega
        clear hodd
        go_wp2_with fail
        go_ret
        exact ⟨by rw [HC.out]; rfl, hb.out⟩
      have t1 : ((n : Int) % 2 == 0) = true := by rw [beq_iff_eq]; omega
      by_cases hend : l.length ≤ n / 2
      · have HC := Box.mk (N.clo_end l n hend)
        have t2 : decide ((n : Int) / 2 < (l.length : Int)) = false := by rw [decide_eq_false_iff_not]; omega
        clear hodd
        go_wp2_with fail
        go_ret
        exact ⟨by rw [HC.out]; rfl, hb.out⟩
      have t2 : decide ((n : Int) / 2 < (l.length : Int)) = true := by rw [decide_eq_true_eq]; omega
      obtain ⟨x, hx⟩ : ∃ x, l[n / 2]? = some x := ⟨_, List.getElem?_eq_getElem (by omega)⟩
      obtain ⟨g, off, cap2, hg1, hg2, hg3, hg4, hg5⟩ := (HV.out.below hb.out).get (by rintro rfl; simp at hend)
      obtain ⟨rfl, rfl⟩ : ao = some ⟨g, off, none⟩ ∧ cap = cap2 := by injection hg1 with h1 h2 h3; exact ⟨h1, h3⟩
      obtain ⟨hc1, hc2⟩ := hg5 _ x hx
      have HH := Box.mk (show N.howAt l (n / 2) = x.2 by unfold N.howAt; simp [List.getD, hx])
      unfold maxLen at hg3
      have hlt : n / 2 < l.length := by omega
      obtain ⟨set, how⟩ := x
      by_cases h0 : how = 0
      · have HC := Box.mk (N.clo_once l n (HH.out.trans h0))
        subst h0
        clear hx hg1 hg5 hodd hend
        go_wp2_with fail
        go_ret
        exact ⟨by rw [HC.out]; rfl, hb.out⟩
      · have HC := Box.mk (N.clo_next l n (by omega) hlt (by rw [HH.out]; exact h0))
        have t3 : (how == 0) = false := by rw [beq_eq_false_iff_ne]; exact h0
        have HI := Box.mk (IH.out (n + 2) (S ||| 2 ^ n) wc (by have := HD.out; omega) (by omega) (or_small S n _ HS.out (by omega)) (HV.out.below hb.out))
        have HN := Box.mk (show ((n : Int) + 2) = ((n + 2 : Nat) : Int) by omega)
        clear hx hg1 hg5 hodd hend
        go_wp2_with fail
        rw [HN.out]
        refine HI.out.mono ?_; rintro e w2 ⟨rfl, hb2⟩
        have HB2 := Box.mk (hb.out.trans (hb2.mono hb.out.size))
        clear hb2
        go_wp2_with fail
        go_ret
        exact ⟨by rw [HC.out, ← Nat.or_assoc]; rfl, HB2.out⟩

theorem fill_bound (l : List N.Item) (S : Nat) (c : Int) (k : Nat) (hk : k ≤ 2 * l.length) : N.fill l S c 0 k < 2 ^ (2 * l.length + 1) := N.fill_lt l S c 0 (Nat.two_pow_pos _) k hk

set_option maxHeartbeats 4000000 in
theorem rstep_any (st : Bool) (v : Value) (l : List N.Item) (hr : rightB l = true) (S : Nat) (hS : S < 4611686018427387904) (c : Int) (w : World) (hv : ItemsAt w v l) :
    Calls Tryz.prog 106 #[.agg #[.bool st, v], .int .i64 S, .int .i64 c] w fun e w' => e = .returned (.int .i64 (N.step l st S c)) ∧ Below w.heap.size w w' := by
  have hl := right_len hr
  have HRT := Box.mk hr
  have HV := Box.mk hv
  have HB0 := Box.mk (Blk.new w 42 #[.bool st, v])
  have HW0 := Box.mk (alloc_below w (.cells #[.bool st, v] 42))
  obtain ⟨ao, cap, rfl⟩ := hv.slice
  clear hv hr
  go_enter Tryz.func106, Tryz.ntmps106
  go_wp2_with fail
  go_loopw [7, 8] (fun o i wr => ∃ k : Nat, k ≤ 2 * l.length ∧ i = .int .i64 k ∧ o = .int .i64 (N.fill l S c 0 k) ∧ Box (Blk wr w.heap.size 42 #[.bool st, .slice ao l.length cap]) ∧ Box (Below w.heap.size w wr)) (fun _ i _ => 2 * l.length - (intOf i).toNat)
  case atStart => exact ⟨0, by omega, rfl, rfl, HB0, HW0⟩
  case round =>
    obtain ⟨k, hk, rfl, rfl, hbk, hb⟩ := hrel
    have c0 : wr.cell? ⟨w.heap.size, 0, none⟩ = some (.bool st) := (hbk.out.cell 0).trans rfl
    have c1 : wr.cell? ⟨w.heap.size, 1, none⟩ = some (.slice ao l.length cap) := (hbk.out.cell 1).trans rfl
    have l0 := hbk.out.lt
    have HF := Box.mk (fill_bound l S c k hk)
    by_cases hlt : k < 2 * l.length
    · obtain ⟨x, hx⟩ : ∃ x, l[k / 2]? = some x := ⟨_, List.getElem?_eq_getElem (by omega)⟩
      obtain ⟨g, off, cap2, hg1, hg2, hg3, hg4, hg5⟩ := (HV.out.below hb.out).get (by rintro rfl; simp at hlt)
      obtain ⟨rfl, rfl⟩ : ao = some ⟨g, off, none⟩ ∧ cap = cap2 := by injection hg1 with h1 h2 h3; exact ⟨h1, h3⟩
      obtain ⟨hc1, hc2⟩ := hg5 _ x hx
      obtain ⟨hw0, hw1⟩ := right_item HRT.out hx
      have HH := Box.mk (show N.howAt l (k / 2) = x.2 ∧ N.setAt l (k / 2) = x.1 by unfold N.howAt N.setAt; simp [List.getD, hx])
      unfold maxLen at hg3
      have hlt2 : k / 2 < l.length := by omega
      have HFS := Box.mk (N.fill_succ l S c 0 k)
      obtain ⟨set, how⟩ := x
      have HBA := Box.mk (show Below w.heap.size w (wr.alloc (.cells #[.int .i64 set, .int .i64 how] 52)) from hb.out.alloc hb.out.size _)
      have HBKA := Box.mk (hbk.out.alloc (.cells #[.int .i64 set, .int .i64 how] 52))
      have HA := Box.mk (fun n hn => radd_any st (.slice (some ⟨g, off, none⟩) l.length cap) l (by omega) _ n (N.fill l S c 0 k) (wr.alloc (.cells #[.int .i64 set, .int .i64 how] 52)) (Nat.le_refl _) hn HF.out (HV.out.below HBA.out))
      have HGL := Box.mk (N.goto_le l k hlt)
      clear hx hg1 hg5
      cases hbit : S.testBit k with
      | false =>
        have HBT := Box.mk hbit
        have HG := Box.mk (show N.fill l S c 0 (k + 1) = N.fill l S c 0 k by rw [HFS.out, if_neg]; unfold N.goes; rw [hbit]; simp)
        clear hbit
        go_wp2_with fail
        refine (has_any S k _ (by omega) hS).mono ?_; rintro e w1 ⟨rfl, rfl⟩; rw [HBT.out]
        go_wp2_with fail
        go_roundw
        case rel => exact ⟨k + 1, hlt, by go_num, by rw [HG.out], HBKA, HBA⟩
        case measure => simp [intOf]; omega
      | true =>
        have HBT := Box.mk hbit
        cases hhas : N.hasC set c with
        | false =>
          have HHAS := Box.mk hhas
          have HG := Box.mk (show N.fill l S c 0 (k + 1) = N.fill l S c 0 k by rw [HFS.out, if_neg]; unfold N.goes; rw [hbit, HH.out.2, hhas]; simp)
          clear hbit hhas
          go_wp2_with fail
          refine (has_any S k _ (by omega) hS).mono ?_; rintro e w1 ⟨rfl, rfl⟩; rw [HBT.out]
          go_wp2_with fail
          refine (rchas_any set c _).mono ?_; rintro e w1 ⟨rfl, rfl⟩; rw [HHAS.out]
          go_wp2_with fail
          go_roundw
          case rel => exact ⟨k + 1, hlt, by go_num, by rw [HG.out], HBKA, HBA⟩
          case measure => simp [intOf]; omega
        | true =>
          have HHAS := Box.mk hhas
          have HG := Box.mk (show N.fill l S c 0 (k + 1) = N.fill l S c 0 k ||| N.clo l (N.goto l k) by rw [HFS.out, if_pos]; unfold N.goes; rw [hbit, HH.out.2, hhas]; rfl)
          clear hbit hhas
          by_cases hodd : k % 2 = 1
          · have t1 : ((k : Int) % 2 == 1) = true := by rw [beq_iff_eq]; omega
            have HGO := Box.mk (show N.goto l k = k - 1 by unfold N.goto; rw [if_pos hodd])
            have HN := Box.mk (show ((k : Int) - 1) = ((k - 1 : Nat) : Int) by omega)
            have k1 : 1 ≤ k := by omega
            clear hodd
            go_wp2_with fail
            refine (has_any S k _ (by omega) hS).mono ?_; rintro e w1 ⟨rfl, rfl⟩; rw [HBT.out]
            go_wp2_with fail
            refine (rchas_any set c _).mono ?_; rintro e w1 ⟨rfl, rfl⟩; rw [HHAS.out]
            go_wp2_with fail
            rw [HN.out]
            refine (HA.out (k - 1) (by omega)).mono ?_; rintro e w1 ⟨rfl, hb1⟩
            have HB1 := Box.mk (HBA.out.trans (hb1.mono HBA.out.size))
            have HBK1 := Box.mk (HBKA.out.below hb1 HBKA.out.lt)
            clear hb1
            go_wp2_with fail
            go_roundw
            case rel => exact ⟨k + 1, hlt, by go_num, by rw [HG.out, HGO.out], HBK1, HB1⟩
            case measure => simp [intOf]; omega
          have t1 : ((k : Int) % 2 == 1) = false := by rw [beq_eq_false_iff_ne]; omega
          rcases (show how = 0 ∨ how = 1 ∨ how = 2 by omega) with rfl | rfl | rfl
          · have HGO := Box.mk (show N.goto l k = k + 2 by unfold N.goto; rw [if_neg hodd, if_pos HH.out.1])
            have hev : k % 2 = 0 := by omega
            have HN := Box.mk (show ((k : Int) + 2) = ((k + 2 : Nat) : Int) by omega)
            clear hodd
            go_wp2_with fail
            refine (has_any S k _ (by omega) hS).mono ?_; rintro e w1 ⟨rfl, rfl⟩; rw [HBT.out]
            go_wp2_with fail
            refine (rchas_any set c _).mono ?_; rintro e w1 ⟨rfl, rfl⟩; rw [HHAS.out]
            go_wp2_with fail
            rw [HN.out]
            refine (HA.out (k + 2) (by omega)).mono ?_; rintro e w1 ⟨rfl, hb1⟩
            have HB1 := Box.mk (HBA.out.trans (hb1.mono HBA.out.size))
            have HBK1 := Box.mk (HBKA.out.below hb1 HBKA.out.lt)
            clear hb1
            go_wp2_with fail
            go_roundw
            case rel => exact ⟨k + 1, hlt, by go_num, by rw [HG.out, HGO.out], HBK1, HB1⟩
            case measure => simp [intOf]; omega
          · have HGO := Box.mk (show N.goto l k = k by unfold N.goto; rw [if_neg hodd, if_neg (by rw [HH.out.1]; simp), if_pos HH.out.1])
            have hev : k % 2 = 0 := by omega
            clear hodd
            go_wp2_with fail
            refine (has_any S k _ (by omega) hS).mono ?_; rintro e w1 ⟨rfl, rfl⟩; rw [HBT.out]
            go_wp2_with fail
            refine (rchas_any set c _).mono ?_; rintro e w1 ⟨rfl, rfl⟩; rw [HHAS.out]
            go_wp2_with fail
            refine (HA.out (k) (by omega)).mono ?_; rintro e w1 ⟨rfl, hb1⟩
            have HB1 := Box.mk (HBA.out.trans (hb1.mono HBA.out.size))
            have HBK1 := Box.mk (HBKA.out.below hb1 HBKA.out.lt)
            clear hb1
            go_wp2_with fail
            go_roundw
            case rel => exact ⟨k + 1, hlt, by go_num, by rw [HG.out, HGO.out], HBK1, HB1⟩
            case measure => simp [intOf]; omega
          · have HGO := Box.mk (show N.goto l k = k + 1 by unfold N.goto; rw [if_neg hodd, if_neg (by rw [HH.out.1]; simp), if_neg (by rw [HH.out.1]; simp)])
            have hev : k % 2 = 0 := by omega
            have HN := Box.mk (show ((k : Int) + 1) = ((k + 1 : Nat) : Int) by omega)
            clear hodd
            go_wp2_with fail
            refine (has_any S k _ (by omega) hS).mono ?_; rintro e w1 ⟨rfl, rfl⟩; rw [HBT.out]
            go_wp2_with fail
            refine (rchas_any set c _).mono ?_; rintro e w1 ⟨rfl, rfl⟩; rw [HHAS.out]
            go_wp2_with fail
            rw [HN.out]
            refine (HA.out (k + 1) (by omega)).mono ?_; rintro e w1 ⟨rfl, hb1⟩
            have HB1 := Box.mk (HBA.out.trans (hb1.mono HBA.out.size))
            have HBK1 := Box.mk (HBKA.out.below hb1 HBKA.out.lt)
            clear hb1
            go_wp2_with fail
            go_roundw
            case rel => exact ⟨k + 1, hlt, by go_num, by rw [HG.out, HGO.out], HBK1, HB1⟩
            case measure => simp [intOf]; omega
    · obtain rfl : k = 2 * l.length := by omega
      have hbw := hb.out
      have HA := Box.mk (radd_any st (.slice ao l.length cap) l (by omega) _ 0 (N.fill l S c 0 (2 * l.length)) wr (Nat.le_refl _) (by omega) HF.out (HV.out.below hbw))
      clear hbw
      cases st with
      | true =>
        go_wp2_with fail
        go_ret
        exact ⟨by rfl, hb.out⟩
      | false =>
        have HFL := Box.mk (N.fill_last l S c (N.clo l 0) (2 * l.length))
        go_wp2_with fail
        refine HA.out.mono ?_; rintro e w1 ⟨rfl, hb1⟩
        have HB1 := Box.mk (hb.out.trans (hb1.mono hb.out.size))
        clear hb1
        go_wp2_with fail
        go_ret
        exact ⟨by rw [HFL.out]; rfl, HB1.out⟩
end Go.Proofs.YtbpcipobdokcfaaGreatDoor

/- THE DOCUMENT's ANSWERS OF LAYER 10: Most, First, Step, Done, Run, Fits. -/
namespace Go.Proofs.YtbpcipobdokcfaaGreatDoor
open Go.RowKit

theorem most_pow (l : List N.Item) : (2 : Int) * ((2 ^ (2 * l.length) : Nat) : Int) - 1 = (N.most l : Int) := by
  unfold N.most
  have h : 2 ^ (2 * l.length + 1) = 2 * 2 ^ (2 * l.length) := by rw [Nat.pow_succ]; omega
  have : 0 < 2 ^ (2 * l.length) := Nat.two_pow_pos _
  rw [h]
  omega

set_option maxHeartbeats 1000000 in
theorem rmost_any (st : Bool) (v : Value) (l : List N.Item) (w : World) (hv : ItemsAt w v l) (hz : l.length ≤ 16777216) :
    Calls Tryz.prog 105 #[.agg #[.bool st, v]] w fun e w' => e = .returned (.int .i64 (mostV l)) ∧ Below w.heap.size w w' := by
  have hb0 := alloc_below w (.cells #[.bool st, v] 42)
  have HP := Box.mk (rpright_any st v l _ (hv.below hb0) hz)
  have HB0 := Box.mk hb0
  have HBK := Box.mk (Blk.new w 42 #[.bool st, v])
  unfold mostV
  obtain ⟨ao, cap, rfl⟩ := hv.slice
  clear hb0 hv
  cases hr : rightB l with
  | true =>
    have HRT := Box.mk hr
    have hl := right_len hr
    obtain ⟨q, hq⟩ : ∃ q, 2 ^ (2 * l.length) = q := ⟨_, rfl⟩
    have hq1 : q ≤ 1099511627776 := by rw [← hq]; exact Nat.pow_le_pow_right (n := 2) (by omega) (show 2 * l.length ≤ 40 by omega)
    have HQ := Box.mk hq
    have HM := Box.mk (most_pow l)
    clear hr hq
    go_enter Tryz.func105, Tryz.ntmps105
    go_wp2_with fail
    refine HP.out.mono ?_; rintro e w1 ⟨rfl, hb1⟩; rw [HRT.out]
    have HBK1 := HBK.out.below hb1 HBK.out.lt
    have c1 : w1.cell? ⟨w.heap.size, 1, none⟩ = some (.slice ao l.length cap) := (HBK1.cell 1).trans rfl
    have HB1 := Box.mk hb1
    clear hb1 HBK1
    go_wp2_with fail
    have HN := Box.mk (show (2 * (l.length : Int)) = ((2 * l.length : Nat) : Int) by omega)
    rw [HN.out]
    refine (bit_any (2 * l.length) _ (by omega)).mono ?_; rintro e w2 ⟨rfl, rfl⟩; rw [HQ.out]
    go_wp2_with fail
    go_ret
    exact ⟨ret_int (by rw [← HM.out, HQ.out]), HB0.out.trans (HB1.out.mono HB0.out.size)⟩
  | false =>
    have HRT := Box.mk hr
    clear hr
    go_enter Tryz.func105, Tryz.ntmps105
    go_wp2_with fail
    refine HP.out.mono ?_; rintro e w1 ⟨rfl, hb1⟩; rw [HRT.out]
    have HB1 := Box.mk hb1
    clear hb1
    go_wp2_with fail
    go_ret
    exact ⟨rfl, HB0.out.trans (HB1.out.mono HB0.out.size)⟩

set_option maxHeartbeats 1000000 in
theorem rfirst_any (st : Bool) (v : Value) (l : List N.Item) (w : World) (hv : ItemsAt w v l) (hz : l.length ≤ 16777216) :
    Calls Tryz.prog 49 #[.agg #[.bool st, v]] w fun e w' => e = .returned (firstV l) ∧ Below w.heap.size w w' := by
  have hb0 := alloc_below w (.cells #[.bool st, v] 42)
  have HP := Box.mk (rpright_any st v l _ (hv.below hb0) hz)
  have HB0 := Box.mk hb0
  have HV := Box.mk hv
  have HBK := Box.mk (Blk.new w 42 #[.bool st, v])
  unfold firstV
  cases hr : rightB l with
  | true =>
    have HRT := Box.mk hr
    have hl := right_len hr
    clear hr hb0 hv
    go_enter Tryz.func49, Tryz.ntmps49
    go_wp2_with fail
    refine HP.out.mono ?_; rintro e w1 ⟨rfl, hb1⟩; rw [HRT.out]
    have HBK1 := HBK.out.below hb1 HBK.out.lt
    have c0 : w1.cell? ⟨w.heap.size, 0, none⟩ = some (.bool st) := (HBK1.cell 0).trans rfl
    have c1 : w1.cell? ⟨w.heap.size, 1, none⟩ = some v := (HBK1.cell 1).trans rfl
    have HB1 := Box.mk (HB0.out.trans (hb1.mono HB0.out.size))
    have HA := Box.mk (radd_any st v l (by omega) _ 0 0 w1 (Nat.le_refl _) (by omega) (Nat.two_pow_pos _) (HV.out.below HB1.out))
    have HZ := Box.mk (Nat.zero_or (N.clo l 0))
    clear hb1 HBK1
    go_wp2_with fail
    refine HA.out.mono ?_; rintro e w2 ⟨rfl, hb2⟩; rw [HZ.out]
    have HB2 := Box.mk (HB1.out.trans (hb2.mono HB1.out.size))
    clear hb2
    go_wp2_with fail
    go_ret2
    exact ⟨rfl, HB2.out⟩
  | false =>
    have HRT := Box.mk hr
    clear hr hb0 hv
    go_enter Tryz.func49, Tryz.ntmps49
    go_wp2_with fail
    refine HP.out.mono ?_; rintro e w1 ⟨rfl, hb1⟩; rw [HRT.out]
    have HB1 := Box.mk (HB0.out.trans (hb1.mono HB0.out.size))
    clear hb1
    go_wp2_with fail
    go_ret2
    exact ⟨rfl, HB1.out⟩

/-- a set that may not be, by the document's three tests -/
theorem setOk_no {l : List N.Item} {x : Int} (hr : rightB l = true) (h : setOk l x = false) : x < 0 ∨ (0 ≤ x ∧ (N.most l : Int) < x) := by
  unfold setOk at h
  rw [hr] at h
  simp at h
  omega
theorem setOk_yes {l : List N.Item} {x : Int} (h : setOk l x = true) : rightB l = true ∧ 0 ≤ x ∧ x ≤ N.most l := by
  unfold setOk at h
  simp only [Bool.and_eq_true, decide_eq_true_eq] at h
  exact ⟨h.1.1, h.1.2, h.2⟩

set_option maxHeartbeats 2000000 in
theorem rpstep_any (st : Bool) (v : Value) (l : List N.Item) (x c : Int) (w : World) (hv : ItemsAt w v l) (hz : l.length ≤ 16777216) :
    Calls Tryz.prog 77 #[.agg #[.bool st, v], .int .i64 x, .int .i64 c] w fun e w' => e = .returned (stepV l st x c) ∧ Below w.heap.size w w' := by
  have hb0 := alloc_below w (.cells #[.bool st, v] 42)
  have HP := Box.mk (rpright_any st v l _ (hv.below hb0) hz)
  have HB0 := Box.mk hb0
  have HV := Box.mk hv
  have HBK := Box.mk (Blk.new w 42 #[.bool st, v])
  unfold stepV
  cases hr : rightB l with
  | false =>
    have HRT := Box.mk hr
    rw [show setOk l x = false by unfold setOk; rw [hr]; rfl]
    clear hr hb0 hv
    go_enter Tryz.func77, Tryz.ntmps77
    go_wp2_with fail
    refine HP.out.mono ?_; rintro e w1 ⟨rfl, hb1⟩; rw [HRT.out]
    have HB1 := Box.mk (HB0.out.trans (hb1.mono HB0.out.size))
    clear hb1
    go_wp2_with fail
    go_ret2
    exact ⟨rfl, HB1.out⟩
  | true =>
    have HRT := Box.mk hr
    have hl := right_len hr
    have hm := most_small l hl
    have HMV := Box.mk (show mostV l = (N.most l : Int) by unfold mostV; rw [hr]; rfl)
    cases hok : setOk l x with
    | true =>
      obtain ⟨-, h0, h1⟩ := setOk_yes hok
      obtain ⟨S, rfl⟩ := Int.eq_ofNat_of_zero_le h0
      have h1' : ¬ ((N.most l : Int) < (S : Int)) := by omega
      clear hr hb0 hv hok
      go_enter Tryz.func77, Tryz.ntmps77
      go_wp2_with fail
      refine HP.out.mono ?_; rintro e w1 ⟨rfl, hb1⟩; rw [HRT.out]
      have HBK1 := HBK.out.below hb1 HBK.out.lt
      have c0 : w1.cell? ⟨w.heap.size, 0, none⟩ = some (.bool st) := (HBK1.cell 0).trans rfl
      have c1 : w1.cell? ⟨w.heap.size, 1, none⟩ = some v := (HBK1.cell 1).trans rfl
      have HB1 := Box.mk (HB0.out.trans (hb1.mono HB0.out.size))
      have HBK1 := Box.mk HBK1
      clear hb1
      go_wp2_with fail
      refine (rmost_any st v l _ (HV.out.below HB1.out) hz).mono ?_; rintro e w2 ⟨rfl, hb2⟩; rw [HMV.out]
      have HBK2 := HBK1.out.below hb2 HBK1.out.lt
      have d0 : w2.cell? ⟨w.heap.size, 0, none⟩ = some (.bool st) := (HBK2.cell 0).trans rfl
      have d1 : w2.cell? ⟨w.heap.size, 1, none⟩ = some v := (HBK2.cell 1).trans rfl
      have HB2 := Box.mk (HB1.out.trans (hb2.mono HB1.out.size))
      clear hb2 HBK2 c0 c1
      go_wp2_with fail
      refine (rstep_any st v l HRT.out S (by omega) c _ (HV.out.below HB2.out)).mono ?_; rintro e w3 ⟨rfl, hb3⟩
      have HB3 := Box.mk (HB2.out.trans (hb3.mono HB2.out.size))
      clear hb3
      go_wp2_with fail
      go_ret2
      exact ⟨by simp, HB3.out⟩
    | false =>
      have h := setOk_no hr hok
      clear hr hb0 hv hok
      go_enter Tryz.func77, Tryz.ntmps77
      go_wp2_with fail
      refine HP.out.mono ?_; rintro e w1 ⟨rfl, hb1⟩; rw [HRT.out]
      have HBK1 := HBK.out.below hb1 HBK.out.lt
      have c0 : w1.cell? ⟨w.heap.size, 0, none⟩ = some (.bool st) := (HBK1.cell 0).trans rfl
      have c1 : w1.cell? ⟨w.heap.size, 1, none⟩ = some v := (HBK1.cell 1).trans rfl
      have HB1 := Box.mk (HB0.out.trans (hb1.mono HB0.out.size))
      clear hb1 HBK1
      rcases h with h | ⟨h, h'⟩
      · go_wp2_with fail
        go_ret2
        exact ⟨rfl, HB1.out⟩
      · go_wp2_with fail
        refine (rmost_any st v l _ (HV.out.below HB1.out) hz).mono ?_; rintro e w2 ⟨rfl, hb2⟩; rw [HMV.out]
        have HB2 := Box.mk (HB1.out.trans (hb2.mono HB1.out.size))
        clear hb2
        go_wp2_with fail
        go_ret2
        exact ⟨rfl, HB2.out⟩

set_option maxHeartbeats 2000000 in
theorem rpdone_any (st : Bool) (v : Value) (l : List N.Item) (x : Int) (w : World) (hv : ItemsAt w v l) (hz : l.length ≤ 16777216) :
    Calls Tryz.prog 79 #[.agg #[.bool st, v], .int .i64 x] w fun e w' => e = .returned (.bool (doneV l x)) ∧ Below w.heap.size w w' := by
  have hb0 := alloc_below w (.cells #[.bool st, v] 42)
  have HP := Box.mk (rpright_any st v l _ (hv.below hb0) hz)
  have HB0 := Box.mk hb0
  have HV := Box.mk hv
  have HBK := Box.mk (Blk.new w 42 #[.bool st, v])
  unfold doneV
  cases hr : rightB l with
  | false =>
    have HRT := Box.mk hr
    have HOK := Box.mk (show setOk l x = false by unfold setOk; rw [hr]; rfl)
    clear hr hb0 hv
    go_enter Tryz.func79, Tryz.ntmps79
    go_wp2_with fail
    refine HP.out.mono ?_; rintro e w1 ⟨rfl, hb1⟩; rw [HRT.out]
    have HB1 := Box.mk (HB0.out.trans (hb1.mono HB0.out.size))
    clear hb1
    go_wp2_with fail
    go_ret
    exact ⟨by rw [HOK.out]; rfl, HB1.out⟩
  | true =>
    have HRT := Box.mk hr
    have hl := right_len hr
    have hm := most_small l hl
    have HMV := Box.mk (show mostV l = (N.most l : Int) by unfold mostV; rw [hr]; rfl)
    cases hok : setOk l x with
    | true =>
      obtain ⟨-, h0, h1⟩ := setOk_yes hok
      obtain ⟨S, rfl⟩ := Int.eq_ofNat_of_zero_le h0
      obtain ⟨ao, cap, rfl⟩ := hv.slice
      have HN := Box.mk (show (2 * (l.length : Int)) = ((2 * l.length : Nat) : Int) by omega)
      clear hr hb0 hv hok
      go_enter Tryz.func79, Tryz.ntmps79
      go_wp2_with fail
      refine HP.out.mono ?_; rintro e w1 ⟨rfl, hb1⟩; rw [HRT.out]
      have HBK1 := HBK.out.below hb1 HBK.out.lt
      have c0 : w1.cell? ⟨w.heap.size, 0, none⟩ = some (.bool st) := (HBK1.cell 0).trans rfl
      have c1 : w1.cell? ⟨w.heap.size, 1, none⟩ = some (.slice ao l.length cap) := (HBK1.cell 1).trans rfl
      have HB1 := Box.mk (HB0.out.trans (hb1.mono HB0.out.size))
      have HBK1 := Box.mk HBK1
      clear hb1
      go_wp2_with fail
      refine (rmost_any st (.slice ao l.length cap) l _ (HV.out.below HB1.out) hz).mono ?_; rintro e w2 ⟨rfl, hb2⟩; rw [HMV.out]
      have HBK2 := HBK1.out.below hb2 HBK1.out.lt
      have d1 : w2.cell? ⟨w.heap.size, 1, none⟩ = some (.slice ao l.length cap) := (HBK2.cell 1).trans rfl
      have HB2 := Box.mk (HB1.out.trans (hb2.mono HB1.out.size))
      clear hb2 HBK2 c0 c1
      go_wp2_with fail
      rw [HN.out]
      refine (has_any S (2 * l.length) _ (by omega) (by omega)).mono ?_; rintro e w3 ⟨rfl, rfl⟩
      go_wp2_with fail
      go_ret
      exact ⟨by simp [N.doneB], HB2.out⟩
    | false =>
      have h := setOk_no hr hok
      clear hr hb0 hv hok
      go_enter Tryz.func79, Tryz.ntmps79
      go_wp2_with fail
      refine HP.out.mono ?_; rintro e w1 ⟨rfl, hb1⟩; rw [HRT.out]
      have HBK1 := HBK.out.below hb1 HBK.out.lt
      have c0 : w1.cell? ⟨w.heap.size, 0, none⟩ = some (.bool st) := (HBK1.cell 0).trans rfl
      have c1 : w1.cell? ⟨w.heap.size, 1, none⟩ = some v := (HBK1.cell 1).trans rfl
      have HB1 := Box.mk (HB0.out.trans (hb1.mono HB0.out.size))
      clear hb1 HBK1
      rcases h with h | ⟨h, h'⟩
      · go_wp2_with fail
        go_ret
        exact ⟨rfl, HB1.out⟩
      · go_wp2_with fail
        refine (rmost_any st v l _ (HV.out.below HB1.out) hz).mono ?_; rintro e w2 ⟨rfl, hb2⟩; rw [HMV.out]
        have HB2 := Box.mk (HB1.out.trans (hb2.mono HB1.out.size))
        clear hb2
        go_wp2_with fail
        go_ret
        exact ⟨rfl, HB2.out⟩

end Go.Proofs.YtbpcipobdokcfaaGreatDoor

/- THE DOCUMENT's Fits OF LAYER 10; the lists that the laws compare. -/
namespace Go.Proofs.YtbpcipobdokcfaaGreatDoor
open Go.RowKit

end Go.Proofs.YtbpcipobdokcfaaGreatDoor

/- THE LAWS OF LAYER 10, WALKED: lists compared, the first forty numbers, what is shown. -/
namespace Go.Proofs.YtbpcipobdokcfaaGreatDoor
open Go.RowKit

theorem drew_below (w : World) (n : Nat) : Below w.heap.size w (w.drewN n) := below_drewN (Below.refl _ _) n

theorem row_at (xs : List Value) (w : World) (T : TypeId) (i : Nat) (x : Value) (hx : xs[i]? = some x) : (w.alloc (.cells xs.toArray T)).cell? ⟨w.heap.size, i, none⟩ = some x := by
  have := World.cell?_alloc_mark w xs.toArray T (0, 0) i
  rw [this]
  simpa using hx
theorem IntsAt.lit (w : World) (T : TypeId) (xs : List Int) (hz : xs.length ≤ 1000) : IntsAt (w.alloc (.cells (xs.map (Value.int .i64)).toArray T)) (.slice (some ⟨w.heap.size, 0, none⟩) xs.length xs.length) xs :=
  .inr ⟨w.heap.size, 0, none, xs.length, rfl, Nat.le_refl _, by unfold maxLen; omega, fun _ => ⟨rfl, by simp, fun i x hx => by
    rw [Nat.zero_add]; exact row_at _ w T i _ (by rw [List.getElem?_map, hx]; rfl)⟩⟩
theorem BoolsAt.lit (w : World) (T : TypeId) (xs : List Bool) (hz : xs.length ≤ 1000) : BoolsAt (w.alloc (.cells (xs.map Value.bool).toArray T)) (.slice (some ⟨w.heap.size, 0, none⟩) xs.length xs.length) xs :=
  .inr ⟨w.heap.size, 0, none, xs.length, rfl, Nat.le_refl _, by unfold maxLen; omega, fun _ => ⟨rfl, by simp, fun i x hx => by
    rw [Nat.zero_add]; exact row_at _ w T i _ (by rw [List.getElem?_map, hx]; rfl)⟩⟩

/-- the pattern that is shown -/
def shownL : List N.Item := [(1, 0), (2, 1)]
theorem shown_items (w : World) (T : TypeId) : ItemsAt (w.alloc (.cells #[.int .i64 1, .int .i64 0, .int .i64 2, .int .i64 1] T)) (.slice (some ⟨w.heap.size, 0, none⟩) 2 2) shownL := by
  refine .inr ⟨w.heap.size, 0, none, 2, rfl, by decide, by decide, fun _ => ⟨rfl, by simp, fun i x hx => ?_⟩⟩
  have hr := row_at [.int .i64 1, .int .i64 0, .int .i64 2, .int .i64 1] w T
  match i, hx with
  | 0, hx => cases hx; exact ⟨hr 0 _ rfl, hr 1 _ rfl⟩
  | 1, hx => cases hx; exact ⟨hr 2 _ rfl, hr 3 _ rfl⟩
theorem shown_right : rightB shownL = true := by decide +kernel
theorem shown_sets : setsOf shownL false [0, 1] = [1, 21, 21] := by decide +kernel
theorem shown_fits : fitsOf shownL false [0, 1, 0, 5] = [false, true, true, true, false] := by decide +kernel
theorem shown_step : stepV shownL false 32 0 = .tuple #[.int .i64 0, .int .i64 80] := by
  unfold stepV; rw [show setOk shownL 32 = false by decide +kernel]; rfl
theorem shown_most : mostV shownL = 31 := by decide +kernel

/-- where a walk stands: the errors lie where they lay, what was there when it began is as it was -/
structure St (A : Nat → Addr) (B : Nat) (W0 w : World) : Prop where
  e : E A B w
  b : Below W0.heap.size W0 w
  hB : B ≤ W0.heap.size
section
variable {A : Nat → Addr} {B : Nat} {W0 w w' : World}
theorem St.step (h : St A B W0 w) (hb : Below w.heap.size w w') : St A B W0 w' := ⟨h.e.below (hb.mono (Nat.le_trans h.hB h.b.size)), h.b.trans (hb.mono h.b.size), h.hB⟩
theorem St.le (h : St A B W0 w) : B ≤ w.heap.size := Nat.le_trans h.hB h.b.size
theorem St.start (h : E A B w) (hB : B ≤ w.heap.size) : St A B w w := ⟨h, Below.refl _ _, hB⟩
theorem St.alloc (h : St A B W0 w) (o : Obj) : St A B W0 (w.alloc o) := h.step (alloc_below w o)
theorem St.agree (h : St A B W0 w) : Agree W0 w := .of_below h.b
end

end Go.Proofs.YtbpcipobdokcfaaGreatDoor

/- THE LAWS OF LAYER 10, WALKED. -/
namespace Go.Proofs.YtbpcipobdokcfaaGreatDoor
open Go.RowKit

theorem first_pair (l : List N.Item) : ∃ a e, firstV l = .tuple #[.int .i64 a, .int .i64 e] := by
  unfold firstV
  split
  · exact ⟨_, _, rfl⟩
  · exact ⟨_, _, rfl⟩
theorem step_pair (l : List N.Item) (st : Bool) (x c : Int) : ∃ a e, stepV l st x c = .tuple #[.int .i64 a, .int .i64 e] := by
  unfold stepV
  split
  · exact ⟨_, _, rfl⟩
  · exact ⟨_, _, rfl⟩

def codeOf (l : List N.Item) : Int := if rightB l = true then 0 else 80
def setsR (l : List N.Item) (st : Bool) (cs : List Int) : List Int := if rightB l = true then setsOf l st cs else []
def fitsR (l : List N.Item) (st : Bool) (cs : List Int) : List Bool := if rightB l = true then fitsOf l st cs else []
theorem runPost.all {l : List N.Item} {st : Bool} {cs : List Int} {w w' : World} {e : Ending} (h : runPost l st cs w e w') : Below w.heap.size w w' ∧ ∃ v, e = .returned (.tuple #[v, .int .i64 (codeOf l)]) ∧ IntsAt w' v (setsR l st cs) := by
  obtain ⟨hb, hy, hn⟩ := h
  unfold codeOf setsR
  cases hr : rightB l with
  | true => exact ⟨hb, hy hr⟩
  | false => exact ⟨hb, _, hn hr, .nil⟩
theorem fitsPost.all {l : List N.Item} {st : Bool} {cs : List Int} {w w' : World} {e : Ending} (h : fitsPost l st cs w e w') : Below w.heap.size w w' ∧ ∃ v, e = .returned (.tuple #[v, .int .i64 (codeOf l)]) ∧ BoolsAt w' v (fitsR l st cs) := by
  obtain ⟨hb, hy, hn⟩ := h
  unfold codeOf fitsR
  cases hr : rightB l with
  | true => exact ⟨hb, hy hr⟩
  | false => exact ⟨hb, _, hn hr, .inl ⟨rfl, rfl⟩⟩

end Go.Proofs.YtbpcipobdokcfaaGreatDoor

/- THE LAWS OF LAYER 10, WALKED: unions, and where a pattern with Start has fitted. -/
namespace Go.Proofs.YtbpcipobdokcfaaGreatDoor
open Go.RowKit

theorem wf_range {n : Int} (h : (Lit.int .i64 n).wf = true) : -9223372036854775808 ≤ n ∧ n ≤ 9223372036854775807 := by
  simp only [Lit.wf, Bool.and_eq_true, decide_eq_true_eq] at h
  exact h
theorem ofInt_neg (a : Int) (h0 : -9223372036854775808 ≤ a) (h1 : a < 0) : 9223372036854775808 ≤ (BitVec.ofInt 64 a).toNat := by
  rw [BitVec.toNat_ofInt]
  omega
theorem or_nonneg (a b : Int) (ha : -9223372036854775808 ≤ a) (hb : -9223372036854775808 ≤ b) (h : 0 ≤ bits .or .i64 a b) : 0 ≤ a ∧ 0 ≤ b := by
  have key : (BitVec.ofInt 64 a ||| BitVec.ofInt 64 b).toNat < 9223372036854775808 := by
    rcases Nat.lt_or_ge (BitVec.ofInt 64 a ||| BitVec.ofInt 64 b).toNat 9223372036854775808 with h' | h'
    · exact h'
    · exfalso
      have hlt := (BitVec.ofInt 64 a ||| BitVec.ofInt 64 b).isLt
      have h2 : 0 ≤ IntKind.i64.wrap ((BitVec.ofInt 64 a ||| BitVec.ofInt 64 b).toNat : Int) := h
      rw [IntKind.wrap_i64] at h2
      generalize (BitVec.ofInt 64 a ||| BitVec.ofInt 64 b).toNat = z at *
      omega
  rw [BitVec.toNat_or] at key
  constructor
  · rcases Int.lt_or_le a 0 with h' | h'
    · have h1 := ofInt_neg a ha h'
      have h2 : (BitVec.ofInt 64 a).toNat ≤ (BitVec.ofInt 64 a).toNat ||| (BitVec.ofInt 64 b).toNat := Nat.left_le_or
      omega
    · exact h'
  · rcases Int.lt_or_le b 0 with h' | h'
    · have h1 := ofInt_neg b hb h'
      have h2 : (BitVec.ofInt 64 b).toNat ≤ (BitVec.ofInt 64 a).toNat ||| (BitVec.ofInt 64 b).toNat := Nat.right_le_or
      omega
    · exact h'
theorem stepV_no {l : List N.Item} {st : Bool} {x c : Int} (h : setOk l x = false) : stepV l st x c = .tuple #[.int .i64 0, .int .i64 80] := by unfold stepV; rw [h]; rfl
theorem stepV_yes {l : List N.Item} {st : Bool} {x c : Int} (h : setOk l x = true) : stepV l st x c = .tuple #[.int .i64 (N.step l st x.toNat c), .int .i64 0] := by unfold stepV; rw [h]; rfl
theorem setOk_lt {l : List N.Item} {S : Nat} (h : setOk l (S : Int) = true) : S < 2 ^ (2 * l.length + 1) := by
  have h1 := (setOk_yes h).2.2
  unfold N.most at h1
  have : 0 < 2 ^ (2 * l.length + 1) := Nat.two_pow_pos _
  omega
theorem setOk_of_lt {l : List N.Item} {S : Nat} (hr : rightB l = true) (h : S < 2 ^ (2 * l.length + 1)) : setOk l (S : Int) = true := by
  unfold setOk N.most
  rw [hr]
  simp only [Bool.true_and, Bool.and_eq_true, decide_eq_true_eq]
  omega
theorem setOk_or {l : List N.Item} {S T : Nat} (hs : setOk l (S : Int) = true) (ht : setOk l (T : Int) = true) : setOk l ((S ||| T : Nat) : Int) = true :=
  setOk_of_lt (setOk_yes hs).1 (Nat.or_lt_two_pow (setOk_lt hs) (setOk_lt ht))
theorem or_cast {l : List N.Item} (hl : l.length ≤ 10) {S T : Nat} (hs : S < 2 ^ (2 * l.length + 1)) (ht : T < 2 ^ (2 * l.length + 1)) : bits .or .i64 (S : Int) (T : Int) = ((S ||| T : Nat) : Int) := by
  have h1 := lt_62 l hl S hs
  have h2 := lt_62 l hl T ht
  exact i64_or_nat S T (by omega) (by omega)

end Go.Proofs.YtbpcipobdokcfaaGreatDoor

/- THE BUILDER's CLOSURES: a rule's first states, a rule's step; all of them. -/
namespace Go.Proofs.YtbpcipobdokcfaaGreatDoor
open Go.RowKit Go.Shelf
attribute [local go_sem] Oper.semAt_some

set_option maxHeartbeats 1000000 in
theorem first1_any (A : Nat → Addr) (B : Nat) (i : Int) (x : D.Rule) (vl vr : Value) (w : World) (hr : rightB x.1.2 = true) (hl : ItemsAt w vl x.1.2) (hrr : ItemsAt w vr x.2.1.2) (hE : E A B w) (hB : B ≤ w.heap.size) :
    Calls Tryz.prog 71 #[.int .i64 i, ruleV x vl vr] w fun e w' => e = .returned (.int .i64 (N.clo x.1.2 0)) ∧ Below w.heap.size w w' := by
  obtain ⟨⟨stl, il⟩, ⟨str, ir⟩, br⟩ := x
  simp only at hr hl hrr
  unfold ruleV
  have hlen := right_len hr
  have hb0 := alloc_below w (.cells #[.bool stl, vl, .bool str, vr, .bool br] 44)
  have HP := Box.mk (first_any A B stl vl il _ (hl.below hb0) (by omega) (hE.below (hb0.mono hB)) (Nat.le_trans hB hb0.size))
  have HB0 := Box.mk hb0
  have HF := Box.mk (show firstV il = .tuple #[.int .i64 (N.clo il 0), .int .i64 0] by unfold firstV; rw [hr]; rfl)
  clear hb0 hl hrr hE
  go_enter Tryz.func71, Tryz.ntmps71
  go_wp2_with fail
  refine HP.out.mono ?_; rintro e w1 ⟨rfl, hb1⟩; rw [HF.out]
  have HB1 := Box.mk (HB0.out.trans (hb1.mono HB0.out.size))
  clear hb1
  go_wp2_with fail
  go_ret
  exact ⟨rfl, HB1.out⟩

set_option maxHeartbeats 1000000 in
theorem step1_any (A : Nat → Addr) (B : Nat) (i : Nat) (x : D.Rule) (vl vr : Value) (Bl Bn : Nat) (S : D.Sets) (s : Nat) (c : Int) (w : World) (hr : rightB x.1.2 = true) (hl : ItemsAt w vl x.1.2) (hrr : ItemsAt w vr x.2.1.2) (hE : E A B w) (hB : B ≤ w.heap.size)
    (hS : S[i]? = some s) (hs : s < 2 ^ (2 * x.1.2.length + 1)) (hi : i < 40) (hbl : Blk w Bl 115 (keyC S)) (hbn : Blk w Bn 3 #[.int .i64 c]) :
    Calls Tryz.prog 97 #[.int .i64 i, ruleV x vl vr, .pointer (some ⟨Bl, 0, none⟩), .pointer (some ⟨Bn, 0, none⟩)] w fun e w' => e = .returned (.int .i64 (N.step x.1.2 x.1.1 s c)) ∧ Below w.heap.size w w' := by
  obtain ⟨⟨stl, il⟩, ⟨str, ir⟩, br⟩ := x
  simp only at hr hl hrr hs
  unfold ruleV
  have hlen := right_len hr
  have hb0 := alloc_below w (.cells #[.bool stl, vl, .bool str, vr, .bool br] 44)
  have HV := Box.mk (show stepV il stl s c = .tuple #[.int .i64 (N.step il stl s c), .int .i64 0] by rw [stepV_yes (setOk_of_lt hr hs), Int.toNat_natCast])
  have HST := Box.mk (fun W (h : Below w.heap.size w W) => pstep_any A B stl vl il s c W (hl.below h) (by omega) (hE.below (h.mono hB)) (Nat.le_trans hB h.size))
  have HB0 := Box.mk hb0
  have c1 : w.cell? ⟨Bl, i, none⟩ = some (.int .i64 s) := (hbl.cell i).trans (keyC_get S i s hS)
  have c2 : w.cell? ⟨Bn, 0, none⟩ = some (.int .i64 c) := (hbn.cell 0).trans rfl
  have l1 := hbl.lt
  have l2 := hbn.lt
  clear hb0 hl hrr hE hS hs hbl hbn hr
  go_enter Tryz.func97, Tryz.ntmps97
  go_wp2_with fail
  go_region_with ((go_at_call 98; refine (HST.out _ ?_).mono ?_; exact below_drewN HB0.out _; rintro e w3 ⟨rfl, hb3⟩; rw [HV.out]; have HB3 := Box.mk (HB0.out.trans (show Below w.heap.size (w.alloc (.cells #[.bool stl, vl, .bool str, vr, .bool br] 44)) w3 from (Below.mono ⟨hb3.os, hb3.tape, hb3.output, hb3.size, hb3.block⟩ (by simp)))); clear hb3))
  all_goals
    go_wp2_with fail
    go_ret
    exact ⟨rfl, HB3.out⟩
end Go.Proofs.YtbpcipobdokcfaaGreatDoor

/- A RANGE OVER A FUNCTION (XRange2), where the iterator reads blocks between the rounds that the rounds may turn: of them the caller's invariant says enough (G). -/
namespace Go.Proofs.YtbpcipobdokcfaaGreatDoor
open Go.RowKit

section
variable {F : Fence} {nF : Nat} {P : Program} {ops : Array Oper} {rest : List Oper} {o : Oper} {a : Act} {w : World} {Q : Exit → Act → World → Prop}
theorem wpListIn_load_row (hgd : o.guard = none) (ty : TypeId) (x : Operand) (ho : o.op = .load ty x)
    (g : Nat) (hx : a.eval x = .pointer (some ⟨g, 0, none⟩)) (t : TypeId) (cs : Array Value) (fr : Nat × Nat) (d : TypeDesc) (hg : w.heap[g]? = some (.cells cs t fr))
    (hu : P.underlying ty = some d) (hd : (match d with | .struct _ | .array _ _ => true | _ => false) = true) (hi : (P.info? ty).map (·.size) = some cs.size)
    (h : wpListIn F nF P ops Q rest (a.put o.dst (.agg cs)) w) : wpListIn F nF P ops Q (o :: rest) a w := by
  refine wpListIn_plain hgd fun K hK => ?_
  unfold Oper.wpIn
  refine ⟨by simp [Oper.about, ho], ?_⟩
  rw [Oper.semAt_plain F _ _ (by rw [ho]; intro c hc'; cases hc')]
  simp only [execOp, ho, hx, Instr.loadAt, Instr.sureAddr, Sem.run_bind, Sem.run_pure, Result.andThen_ok, run_loadVar_row w g t ty cs fr d hg hu hd hi]
  exact hK _ _ h
theorem wpListIn_store_row (hgd : o.guard = none) (ty : TypeId) (x y : Operand) (ho : o.op = .store ty x y)
    (g : Nat) (cells : Array Value) (hx : a.eval x = .pointer (some ⟨g, 0, none⟩)) (hy : a.eval y = .agg cells)
    (t : TypeId) (old : Array Value) (hg : w.heap[g]? = some (.cells old t (0, 0))) (hi : (P.info? ty).map (·.size) = some cells.size)
    (hold : old.size = cells.size) (h1 : cells.all (·.oneCell') = true)
    (h : wpListIn F nF P ops Q rest (a.put o.dst undef) (w.setRow g cells)) : wpListIn F nF P ops Q (o :: rest) a w := by
  refine wpListIn_plain hgd fun K hK => ?_
  unfold Oper.wpIn
  refine ⟨by simp [Oper.about, ho], ?_⟩
  rw [Oper.semAt_plain F _ _ (by rw [ho]; intro c hc'; cases hc')]
  simp only [execOp, ho, hx, hy, Instr.storeAt, Instr.sureAddr, Sem.run_bind, Sem.run_pure, Result.andThen_ok, run_storeVar_row w g t ty old cells hg hi hold h1]
  exact hK _ _ h
end

/-- WHAT AN ITERATOR's CLOSURE PROMISES, the record's number being l: whatever the caller keeps (J) that abides its turns, each round at what comes next: all have come (S), or a round has said that no more is wanted. -/
def IterC3 {α : Type} (n : Nat) (P : Program) (gf : Nat) (lb : Array Value) (encs : α → Array Value) (own keep : Nat → Prop) (ok : List α → α → Prop) (S : List α → World → Prop) (G : World → Prop) (l : Nat) (W1 : World) : Prop :=
  ∀ (J Jx : List α → World → Prop), (∀ pre W, J pre W → G W) → (∀ pre W W', J pre W → Turns own W W' → J pre W') → (∀ pre W W', Jx pre W → Turns own W W' → Jx pre W') →
    (∀ pre x W0 W, J pre W0 → Turns own W0 W → ok pre x → YieldAt Fence.wide (n - 1) P l (encs x) W fun e W' => (e = .returned (.bool true) ∧ J (pre ++ [x]) W' ∧ Holds (fun k => keep k ∨ (W0.heap.size ≤ k ∧ k < W.heap.size)) W W') ∨ (e = .returned (.bool false) ∧ Jx (pre ++ [x]) W')) →
    J [] W1 → CallsIn Fence.wide n P gf (#[.func (.yield l) #[] #[]] ++ lb) W1 fun e W' => (∃ v, e = .returned v) ∧ ((∃ xs, S xs W' ∧ J xs W') ∨ (∃ pre, Jx pre W'))

/-- **THE STATEMENT** -/
theorem range_law3 {α : Type} {P : Program} {n : Nat} {g : Operand} {ps : Array Tmp} {assign body : Code} {Q : Exit → Act → World → Prop} {a : Act} {w : World}
    {gf : Nat} {lb : Array Value} (hg : a.eval g = .func (.func gf) #[] lb) (eg : ∀ args w, (callFunc gf args).run P w = .ok (.enter gf args) w)
    {encs : α → Array Value} {own keep : Nat → Prop} {ok : List α → α → Prop} {S : List α → World → Prop} {G : World → Prop} (hown : ∀ k, own k ∨ keep k → k < w.heap.size)
    (hit : ∀ W1, Turns (fun _ => False) w W1 → IterC3 (n - 1) P gf lb encs own keep ok S G (w.heap.size + 1) W1)
    (hps : ∀ x, (encs x).size = ps.size)
    (I : List α → World → Prop) (Ix : Code → List α → World → Prop)
    (hI : ∀ pre W W', I pre W → Turns (fun k => own k ∨ k = w.heap.size + 1) W W' → I pre W')
    (hIx : ∀ c pre W W', Ix c pre W → Turns (fun k => own k ∨ k = w.heap.size + 1) W W' → Ix c pre W')
    (hG : ∀ pre W, I pre W → G W) (h0 : I [] w) (Ax : α → Act → World → Prop) (hAx : ∀ x a1 W W', Ax x a1 W → Turns (fun k => k = w.heap.size + 1) W W' → Ax x a1 W')
    (hassign : ∀ (x : α) (W : World) (K : Act → World → Prop), w.heap.size + 2 ≤ W.heap.size → (∀ a1 W1, Turns (fun _ => False) W W1 → Ax x a1 W1 → K a1 W1) →
      assign.wpIn (Fence.wide.inRound (w.heap.size + 1)) (n - 1 - 1) P (Exit.then K (fun _ _ _ => False)) { tmps := (ps.zip (encs x)).foldl (fun t (p, v) => t.setIfInBounds p v) a.tmps, defers := [] } W)
    (hbody : ∀ (pre : List α) (x : α) (a1 : Act) (W0 W : World) (N : Nat), w.heap.size + 2 ≤ W0.heap.size → I pre W0 → Turns (fun k => own k ∨ k = w.heap.size + 1) W0 W → N ≤ W.heap.size → ok pre x → Ax x a1 W →
      body.wpIn (Fence.wide.inRound (w.heap.size + 1)) (n - 1 - 1) P (roundP (fun k => keep k ∨ (W0.heap.size ≤ k ∧ k < N)) I Ix (w.heap.size + 1) w.heap.size (pre ++ [x]) W) a1 W)
    (hdone : ∀ (xs : List α) (W : World), w.heap.size + 2 ≤ W.heap.size → S xs W → I xs W → W.heap[w.heap.size]? = some (.deferred (some [])) → Q .normal { a with defers := { target := .collected w.heap.size, args := #[] } :: a.defers } W)
    (hstop : ∀ (c : Code) (pre : List α) (W : World), w.heap.size + 2 ≤ W.heap.size → Ix c pre W → W.heap[w.heap.size]? = some (.deferred (some [])) → c.wpIn Fence.wide n P Q { a with defers := { target := .collected w.heap.size, args := #[] } :: a.defers } W)
    (hS : ∀ xs W W', S xs W → Turns (fun k => k = w.heap.size + 1) W W' → S xs W') :
    (Code.rangeFunc g ps assign body).wpIn Fence.wide n P Q a w := by
  refine wpIn_rangeFunc ?_
  intro fn hfn
  obtain ⟨rec, hrec⟩ : ∃ rec : LoopState → Option Code → Loop, rec = fun st pe => { state := st, pending := pe, fn, tmps := a.tmps, params := ps, assign, body, defers := w.heap.size } := ⟨_, rfl⟩
  obtain ⟨W1, hW1⟩ : ∃ W1, (w.alloc (.deferred (some []))).alloc (.loop (rec .ready none)) = W1 := ⟨_, rfl⟩
  have hL1 : W1.heap[w.heap.size + 1]? = some (.loop (rec .ready none)) := by
    rw [← hW1]; have := World.alloc_heap_new (w.alloc (.deferred (some []))) (.loop (rec .ready none)); rwa [World.size_alloc] at this
  have hK1 : W1.heap[w.heap.size]? = some (.deferred (some [])) := by
    rw [← hW1]; exact (Below.heap_alloc _ _ _ (by simp)).trans (World.alloc_heap_new w _)
  have hT1 : ∀ o, Turns o w W1 := fun o => by rw [← hW1]; exact (Turns.alloc w _).trans (Turns.alloc _ _)
  have hI1 : I [] W1 := hI _ _ _ h0 (hT1 _)
  refine ⟨w.heap.size + 1, [{ target := .collected w.heap.size, args := #[] }], W1, { target := .fn (.func gf) lb, args := #[.func (.yield (w.heap.size + 1)) #[] #[]] }, W1, gf,
    #[.func (.yield (w.heap.size + 1)) #[] #[]] ++ lb, W1, ?_, ?_, ?_, ?_, fun h => by simp [Fence.wide] at h, ?_⟩
  · rw [← hW1, hrec]; exact run_enterLoop_outer _ _ _ _ _
  · simp only [resolve, hg]
    simp [go_sem]
  · intro f' _; trivial
  · simp [invoke, go_sem, eg]
  · have hnl : ¬ own (w.heap.size + 1) := fun h => by have := hown _ (.inl h); omega
    have hnd : ¬ own w.heap.size := fun h => by have := hown _ (.inl h); omega
    refine (hit W1 (hT1 _)
      (fun pre W => I pre W ∧ W.heap[w.heap.size + 1]? = some (.loop (rec .ready none)) ∧ W.heap[w.heap.size]? = some (.deferred (some [])))
      (fun pre W => ∃ c, Ix c pre W ∧ W.heap[w.heap.size + 1]? = some (.loop (rec .done (some c))) ∧ W.heap[w.heap.size]? = some (.deferred (some [])))
      (fun pre W h => hG pre W h.1) ?_ ?_ ?_ ⟨hI1, hL1, hK1⟩).mono ?_
    · rintro pre W W' ⟨hi, hl, hk⟩ ht
      exact ⟨hI _ _ _ hi (ht.mono fun k => .inl), (ht.block _ (Array.getElem?_eq_some_iff.1 hl).1 hnl).trans hl, (ht.block _ (Array.getElem?_eq_some_iff.1 hk).1 hnd).trans hk⟩
    · rintro pre W W' ⟨c, hi, hl, hk⟩ ht
      exact ⟨c, hIx _ _ _ _ hi (ht.mono fun k => .inl), (ht.block _ (Array.getElem?_eq_some_iff.1 hl).1 hnl).trans hl, (ht.block _ (Array.getElem?_eq_some_iff.1 hk).1 hnd).trans hk⟩
    · -- one round
      rintro pre x W0 W ⟨hi, hl0, hk0⟩ ht hok
      have hlt0 : w.heap.size + 1 < W0.heap.size := (Array.getElem?_eq_some_iff.1 hl0).1
      have hl := (ht.block _ hlt0 hnl).trans hl0
      have hk := (ht.block _ (by omega) hnd).trans hk0
      have hlt : w.heap.size + 1 < W.heap.size := (Array.getElem?_eq_some_iff.1 hl).1
      have hy := run_yield (P := P) (args := encs x) hl (by rw [hrec]; exact hps x)
      rw [hrec] at hy
      refine ⟨fn, _, assign, body, hy, roundIn_of_wpIn hfn (hassign x W _ (by omega) fun a1 Wa ha hax => ?_)⟩
      have hla : Wa.heap[w.heap.size + 1]? = some (.loop (rec .ready none)) := (ha.block _ hlt (fun h => h)).trans hl
      have hka : Wa.heap[w.heap.size]? = some (.deferred (some [])) := (ha.block _ (by omega) (fun h => h)).trans hk
      have hlta : w.heap.size + 1 < Wa.heap.size := (Array.getElem?_eq_some_iff.1 hla).1
      refine ⟨_, run_beginRound hla (by rw [hrec]), ?_⟩
      obtain ⟨Wb, hWb⟩ : ∃ Wb, Wa.putObj (w.heap.size + 1) (.loop { rec .ready none with state := .busy }) = Wb := ⟨_, rfl⟩
      rw [hWb]
      have htb : ∀ o : Nat → Prop, o (w.heap.size + 1) → Turns o Wa Wb := fun o ho => by rw [← hWb]; exact Turns.putObj _ ho _
      have hlb : Wb.heap[w.heap.size + 1]? = some (.loop { rec .ready none with state := .busy }) := by rw [← hWb]; exact World.putObj_heap_same hlta
      have hkb : Wb.heap[w.heap.size]? = some (.deferred (some [])) := by rw [← hWb]; exact (World.putObj_heap_other (by omega)).trans hka
      have hsb : Wb.heap.size = Wa.heap.size := by rw [← hWb]; simp
      refine wpIn_mono (hbody pre x a1 W0 Wb W.heap.size (by omega) hi ((ht.mono fun _ h => .inl h).trans ((ha.mono fun _ h => h.elim).trans (htb _ (.inr rfl)))) (by have := ha.size; omega) hok (hAx _ _ _ _ hax (htb _ rfl))) ?_
      have fin : ∀ (jump : Option Code) (W3 : World), Holds (fun k => k = w.heap.size + 1 ∨ k = w.heap.size) Wb W3 →
          (Instr.endRound (w.heap.size + 1) jump).run P W3 = .ok (.bool jump.isNone) (W3.putObj (w.heap.size + 1) (.loop (rec (if jump.isNone then .ready else .done) jump))) ∧
          (W3.putObj (w.heap.size + 1) (.loop (rec (if jump.isNone then .ready else .done) jump))).heap[w.heap.size + 1]? = some (.loop (rec (if jump.isNone then .ready else .done) jump)) ∧
          (W3.putObj (w.heap.size + 1) (.loop (rec (if jump.isNone then .ready else .done) jump))).heap[w.heap.size]? = some (.deferred (some [])) := fun jump W3 hk3 => by
        have hl3 := (hk3.block _ (.inl rfl)).trans hlb
        have := run_endRound (P := P) jump hl3
        rw [hrec] at this ⊢
        exact ⟨this, World.putObj_heap_same (Array.getElem?_eq_some_iff.1 hl3).1, (World.putObj_heap_other (by omega)).trans ((hk3.block _ (.inr rfl)).trans hkb)⟩
      rintro e a3 W3 hp
      cases e with
      | normal =>
        obtain ⟨hh, hi3⟩ := hp
        obtain ⟨hr, hl4, hk4⟩ := fin none W3 (hh.mono fun _ h => .inr h)
        refine ⟨_, _, hr, .inl ⟨rfl, ⟨hI _ _ _ hi3 (Turns.putObj _ (.inr rfl) _), hl4, hk4⟩, ?_⟩⟩
        refine ⟨?_, fun k ho => ?_⟩
        · have := ha.size; have := hh.size; simp; omega
        · have hkw : k ≠ w.heap.size + 1 ∧ k < W.heap.size := by
            rcases ho with h | h
            · have := hown k (.inr h); omega
            · omega
          rw [World.putObj_heap_other (fun e => hkw.1 e), hh.block k (.inl ho), ← hWb, World.putObj_heap_other (fun e => hkw.1 e)]
          exact ha.block k hkw.2 (fun h => h)
      | ret =>
        obtain ⟨hh, hi3⟩ := hp
        obtain ⟨hr, hl4, hk4⟩ := fin (some .ret) W3 hh
        exact ⟨_, _, hr, .inr ⟨rfl, .ret, hIx _ _ _ _ hi3 (Turns.putObj _ (.inr rfl) _), hl4, hk4⟩⟩
      | exit id =>
        obtain ⟨hh, hi3⟩ := hp
        obtain ⟨hr, hl4, hk4⟩ := fin (some (.exit id)) W3 hh
        exact ⟨_, _, hr, .inr ⟨rfl, .exit id, hIx _ _ _ _ hi3 (Turns.putObj _ (.inr rfl) _), hl4, hk4⟩⟩
      | goto t =>
        obtain ⟨hh, hi3⟩ := hp
        obtain ⟨hr, hl4, hk4⟩ := fin (some (.goto t)) W3 hh
        exact ⟨_, _, hr, .inr ⟨rfl, .goto t, hIx _ _ _ _ hi3 (Turns.putObj _ (.inr rfl) _), hl4, hk4⟩⟩
      | panic ch => exact hp.elim
      | outgrown => exact hp.elim
    · -- behind the iterator
      rintro e W2 ⟨⟨v, rfl⟩, (⟨xs, hSx, hi, hl, hk⟩ | ⟨pre, c, hi, hl, hk⟩)⟩
      · have hlt := (Array.getElem?_eq_some_iff.1 hl).1
        exact ⟨none, _, by have := run_endLoop (P := P) hl (by rw [hrec]; simp); rw [hrec] at this; exact this,
          hdone xs _ (by simp; omega) (hS _ _ _ hSx (Turns.putObj (own := fun k => k = w.heap.size + 1) _ rfl _)) (hI _ _ _ hi (Turns.putObj _ (.inr rfl) _)) ((World.putObj_heap_other (by omega)).trans hk)⟩
      · have hlt := (Array.getElem?_eq_some_iff.1 hl).1
        exact ⟨some c, _, by have := run_endLoop (P := P) hl (by rw [hrec]; simp); rw [hrec] at this; exact this,
          hstop c pre _ (by simp; omega) (hIx _ _ _ _ hi (Turns.putObj _ (.inr rfl) _)) ((World.putObj_heap_other (by omega)).trans hk)⟩
end Go.Proofs.YtbpcipobdokcfaaGreatDoor

/- THE BUILDER's STEPS: an iterator over the classes, each with what it makes of some sets. -/
namespace Go.Proofs.YtbpcipobdokcfaaGreatDoor
open Go.RowKit Go.Shelf
attribute [local go_sem] Oper.semAt_some

def lefts (rs : List D.Rule) : List D.Side := rs.map (·.1)
theorem lefts_len (rs : List D.Rule) : (lefts rs).length = rs.length := by simp [lefts]
theorem lefts_at {rs : List D.Rule} {i : Nat} {x : D.Rule} (h : rs[i]? = some x) : D.sideAt (lefts rs) i = x.1 := D.sideAt_get (by unfold lefts; rw [List.getElem?_map, h]; rfl)

theorem stepsM_any (b : Nat) (S : D.Sets) (w : World) :
    Calls Tryz.prog 73 #[.pointer (some ⟨b, 0, none⟩), .agg (keyC S)] w fun e w' => e = .returned (.func (.func 96) #[] #[.pointer (some ⟨w.heap.size, 0, none⟩), .pointer (some ⟨w.heap.size + 1, 0, none⟩)]) ∧
      (w.alloc (.cells #[.pointer (some ⟨b, 0, none⟩)] 75)).alloc (.cells (keyC S) 115) = w' := by
  go_enter Tryz.func73, Tryz.ntmps73
  go_wp2
  go_ret
  exact ⟨rfl, rfl⟩

theorem setRow_new (w : World) (old cs : Array Value) (t : TypeId) : (w.alloc (.cells old t)).setRow w.heap.size cs = w.alloc (.cells cs t) := by
  unfold World.setRow World.alloc
  congr 1
  apply Array.ext
  · simp
  · intro i h1 h2
    rw [Array.getElem_modify]
    simp only [Array.getElem_push]
    by_cases e : i = w.heap.size
    · subst e; simp
    · have : i < w.heap.size := by simp at h2; omega
      simp [this, Ne.symm e]
/-- what the iterator reads of what the rounds may turn -/
def Gb (A : Nat → Addr) (B b n m : Nat) (rv : Value) (rs : List D.Rule) (W : World) : Prop := (∃ nv fv tv, Bb W b nv fv rv n m tv) ∧ RulesAt W rv rs ∧ E A B W ∧ B ≤ W.heap.size
theorem Gb.below {A : Nat → Addr} {B b n m : Nat} {rv : Value} {rs : List D.Rule} {W W' : World} (h : Gb A B b n m rv rs W) (hb : Below W.heap.size W W') : Gb A B b n m rv rs W' := by
  obtain ⟨⟨nv, fv, tv, h1⟩, h2, h3, h4⟩ := h
  exact ⟨⟨nv, fv, tv, h1.below hb h1.lt⟩, h2.below hb, h3.below (hb.mono h4), Nat.le_trans h4 hb.size⟩
theorem below_of_turns {W W' : World} (h : Turns (fun _ => False) W W') : Below W.heap.size W W' := h.below (Nat.le_refl _) (fun _ h => h.elim)

def stEnc (rs : List D.Rule) (n : Nat) (S : D.Sets) (k : Nat) : Array Value := #[.int .i64 (k : Int), .agg (keyC (D.stepAll (lefts rs) S (D.cls n k)))]

theorem step_all {A : Nat → Addr} {B b n m : Nat} {rv : Value} {rs : List D.Rule} {S : D.Sets} {Bl Bn : Nat} {c : Int} {W : World} (hG : Gb A B b n m rv rs W) (hr : ∀ x ∈ rs, rightB x.1.2 = true) (hl : rs.length ≤ 40) (hS : D.Good (lefts rs) S)
    (hbl : Blk W Bl 115 (keyC S)) (hbn : Blk W Bn 3 #[.int .i64 c]) :
    Calls Tryz.prog 70 #[.pointer (some ⟨b, 0, none⟩), .func (.func 97) #[] #[.pointer (some ⟨Bl, 0, none⟩), .pointer (some ⟨Bn, 0, none⟩)]] W fun e w' => e = .returned (.agg (keyC (D.stepAll (lefts rs) S c))) ∧ Below W.heap.size W w' := by
  obtain ⟨⟨nv, fv, tv, h1⟩, h2, h3, h4⟩ := hG
  have := each_any b nv fv rv n m tv rs 97 #[.pointer (some ⟨Bl, 0, none⟩), .pointer (some ⟨Bn, 0, none⟩)] (D.stepAt (lefts rs) S c) W h1 h2 hl (enters_of Tryz.func97 (by kernel_rfl) rfl) (fun i x vl vr W' hx hb hil hir => by
    have hi : i < rs.length := (List.getElem?_eq_some_iff.1 hx).1
    have hgood := hS.2 i (by rw [lefts_len]; exact hi)
    rw [lefts_at hx] at hgood
    have hSi : S[i]? = some (S.getD i 0) := by
      have : i < S.length := by rw [hS.1, lefts_len]; exact hi
      rw [List.getD, List.getElem?_eq_getElem this]; rfl
    have := step1_any A B i x vl vr Bl Bn S (S.getD i 0) c W' (hr x (List.mem_of_getElem? hx)) hil hir (h3.below (hb.mono h4)) (Nat.le_trans h4 hb.size) hSi hgood (by omega) (hbl.below hb hbl.lt) (hbn.below hb hbn.lt)
    unfold D.stepAt
    rw [lefts_at hx]
    exact this)
  rw [← lefts_len] at this
  exact this
set_option maxHeartbeats 4000000 in
theorem steps1_iter (n' : Nat) (A : Nat → Addr) (B b n m : Nat) (rv : Value) (rs : List D.Rule) (S : D.Sets) (Bx Bl l : Nat) (W1 : World) (hn : n ≤ 32) (hr : ∀ x ∈ rs, rightB x.1.2 = true) (hl : rs.length ≤ 40) (hS : D.Good (lefts rs) S)
    (hx : Blk W1 Bx 75 #[.pointer (some ⟨b, 0, none⟩)]) (hbl : Blk W1 Bl 115 (keyC S)) :
    IterC3 (n' + 1) Tryz.prog 96 #[.pointer (some ⟨Bx, 0, none⟩), .pointer (some ⟨Bl, 0, none⟩)] (stEnc rs n S) (fun _ => False) (fun k => k = Bx ∨ k = Bl) (fun pre x => x = pre.length ∧ x ≤ n)
      (fun xs _ => xs = List.range (n + 1)) (Gb A B b n m rv rs) l W1 := by
  intro J Jx hJG hJ hJx hY h0
  have HY := Box.mk hY
  have HJ := Box.mk hJ
  have HJG := Box.mk hJG
  have HSA := Box.mk (fun (W : World) (Bn : Nat) (c : Int) (hG : Gb A B b n m rv rs W) (hbl : Blk W Bl 115 (keyC S)) (hbn : Blk W Bn 3 #[.int .i64 c]) => (callsIn_wide (n := n')).2 (step_all (m := m) hG hr hl hS hbl hbn))
  have HK := Box.mk (fun c => show (D.stepAll (lefts rs) S c).length ≤ 40 by rw [D.stepAll_len, lefts_len]; exact hl)
  clear hY hJ hJG hr hS
  obtain ⟨⟨nv0, fv0, tv0, g1⟩, -, -, -⟩ := HJG.out _ _ h0
  have c1 : W1.cell? ⟨Bx, 0, none⟩ = some (.pointer (some ⟨b, 0, none⟩)) := (hx.cell 0).trans rfl
  have c2 : W1.cell? ⟨b, 3, none⟩ = some (.int .i64 n) := (g1.cell 3).trans rfl
  clear g1
  refine callsIn_of_wp Tryz.func96 rfl trivial ?_
  simp only [Tryz.ntmps96, List.size_toArray, List.length_cons, List.length_nil, Nat.reduceAdd, Nat.reduceSub, Array.replicate_succ, Array.replicate_zero, List.push_toArray, List.append_toArray, List.nil_append, List.cons_append]
  gi_wp2
  refine wpIn_wide.2 (wp_scope_straight ((wpIn_wide (n := n' + 1)).1 ?_))
  gi_wp2
  refine wpIn_label ?_
  gi_wp2
  clear c1 c2
  gi_loopw [12] (fun i wr => ∃ k : Nat, k ≤ n + 1 ∧ i = .int .i64 k ∧ Box (Blk wr Bx 75 #[.pointer (some ⟨b, 0, none⟩)]) ∧ Box (Blk wr Bl 115 (keyC S)) ∧ Box (J (List.range k) wr))
    (fun i _ => n + 1 - (intOf i).toNat)
  case atStart => exact ⟨0, by omega, rfl, ⟨hx⟩, ⟨hbl⟩, ⟨h0⟩⟩
  case round =>
    obtain ⟨k, hk, rfl, hbx, hbS, hj⟩ := hrel
    clear hx hbl h0
    by_cases hlt : k < n + 1
    · have HGr := Box.mk (HJG.out _ _ hj.out)
      obtain ⟨⟨nv0, fv0, tv0, g1⟩, -, -, -⟩ := HGr.out
      have c1 : wr.cell? ⟨Bx, 0, none⟩ = some (.pointer (some ⟨b, 0, none⟩)) := (hbx.out.cell 0).trans rfl
      have c2 : wr.cell? ⟨b, 3, none⟩ = some (.int .i64 n) := (g1.cell 3).trans rfl
      have l1 := hbx.out.lt
      have l2 := g1.lt
      have HTA := Box.mk (fun (c : Int) => show Below wr.heap.size wr (wr.alloc (.cells #[.int .i64 c] 3)) from (Below.refl _ _).alloc (Nat.le_refl _) _)
      have HCA := Box.mk (fun (c : Int) => HSA.out (wr.alloc (.cells #[.int .i64 c] 3)) wr.heap.size c (HGr.out.below (HTA.out c)) (hbS.out.alloc _) (Blk.new _ _ _))
      have HRND := Box.mk (fun W2 (hb : Below wr.heap.size wr W2) => HY.out (List.range k) k wr W2 hj.out (Turns.of_below hb) ⟨by simp, by omega⟩)
      have HEND := Box.mk (show ∀ W2 W3, Below wr.heap.size wr W2 → J (List.range k ++ [k]) W3 → Holds (fun q => (q = Bx ∨ q = Bl) ∨ (wr.heap.size ≤ q ∧ q < W2.heap.size)) W2 W3 → ∃ k' : Nat, k' ≤ n + 1 ∧ Value.int .i64 ((k : Int) + 1) = .int .i64 k' ∧ Box (Blk W3 Bx 75 #[.pointer (some ⟨b, 0, none⟩)]) ∧ Box (Blk W3 Bl 115 (keyC S)) ∧ Box (J (List.range k') W3) from fun W2 W3 hb hj3 hh =>
        ⟨k + 1, hlt, by go_num, ⟨(hh.block _ (.inl (.inl rfl))).trans (hbx.out.below hb hbx.out.lt)⟩, ⟨(hh.block _ (.inl (.inr rfl))).trans (hbS.out.below hb hbS.out.lt)⟩, ⟨by rw [List.range_succ]; exact hj3⟩⟩)
      clear g1 hj
      by_cases he : k = n
      · have HCL := Box.mk (show D.cls n k = -1 by unfold D.cls; rw [if_pos he])
        subst he
        gi_wp2
        refine ⟨trivial, (HCA.out (-1)).mono ?_⟩; rintro e w1 ⟨rfl, hb1⟩
        have HB1 := Box.mk (show Below wr.heap.size wr w1 from (HTA.out (-1)).trans (hb1.mono (by simp)))
        have HIF := Box.mk (show (Tryz.prog.info? 115).map (·.size) = some (keyC (D.stepAll (lefts rs) S (-1))).size by rw [keyInfo, keyC_size _ (HK.out (-1))])
        have HSZ := Box.mk (show (keyC []).size = (keyC (D.stepAll (lefts rs) S (-1))).size by rw [keyC_size _ (HK.out (-1))]; rfl)
        have HB2 := Box.mk (show Below wr.heap.size wr (w1.alloc (.cells (keyC (D.stepAll (lefts rs) S (-1))) 115)) from HB1.out.alloc HB1.out.size _)
        have hy0 := HRND.out _ HB2.out
        unfold stEnc at hy0
        rw [HCL.out] at hy0
        obtain ⟨fn, tmps, assign, body, hy, hRd⟩ := hy0
        have HRD := Box.mk hRd
        clear hb1 hRd
        gi_wp2_with (first
          | (refine wpListIn_store_row rfl 115 _ _ rfl w1.heap.size (keyC (D.stepAll (lefts rs) S (-1))) rfl rfl 115 (keyC []) (Blk.new w1 _ (keyC [])) HIF.out HSZ.out (keyC_one _) ?_; rw [setRow_new])
          | (refine wpListIn_load_row rfl 115 _ rfl w1.heap.size rfl 115 (keyC (D.stepAll (lefts rs) S (-1))) (0, 0) _ (Blk.new w1 _ _) Tryz.underlying115 rfl HIF.out ?_))
        refine HRD.out.mono ?_
        rintro e W3 (⟨rfl, hj3, hk3⟩ | ⟨rfl, hx3⟩)
        · have HR3 := Box.mk (HEND.out _ _ HB2.out hj3 hk3)
          clear hj3 hk3
          gi_wp2
          go_roundw
          case rel => exact HR3.out
          case measure => simp [intOf] <;> omega
        · gi_wp2
          rw [Exit.noGoto_normal]
          go_end0
          exact ⟨⟨_, rfl⟩, .inr ⟨_, hx3⟩⟩
      · have HCL := Box.mk (show D.cls n k = (k : Int) by unfold D.cls; rw [if_neg he])
        have hkn : ((k : Int) == n) = false := by rw [beq_eq_false_iff_ne]; omega
        gi_wp2
        refine ⟨trivial, (HCA.out ((k : Int))).mono ?_⟩; rintro e w1 ⟨rfl, hb1⟩
        have HB1 := Box.mk (show Below wr.heap.size wr w1 from (HTA.out ((k : Int))).trans (hb1.mono (by simp)))
        have HIF := Box.mk (show (Tryz.prog.info? 115).map (·.size) = some (keyC (D.stepAll (lefts rs) S ((k : Int)))).size by rw [keyInfo, keyC_size _ (HK.out ((k : Int)))])
        have HSZ := Box.mk (show (keyC []).size = (keyC (D.stepAll (lefts rs) S ((k : Int)))).size by rw [keyC_size _ (HK.out ((k : Int)))]; rfl)
        have HB2 := Box.mk (show Below wr.heap.size wr (w1.alloc (.cells (keyC (D.stepAll (lefts rs) S ((k : Int)))) 115)) from HB1.out.alloc HB1.out.size _)
        have hy0 := HRND.out _ HB2.out
        unfold stEnc at hy0
        rw [HCL.out] at hy0
        obtain ⟨fn, tmps, assign, body, hy, hRd⟩ := hy0
        have HRD := Box.mk hRd
        clear hb1 hRd
        gi_wp2_with (first
          | (refine wpListIn_store_row rfl 115 _ _ rfl w1.heap.size (keyC (D.stepAll (lefts rs) S ((k : Int)))) rfl rfl 115 (keyC []) (Blk.new w1 _ (keyC [])) HIF.out HSZ.out (keyC_one _) ?_; rw [setRow_new])
          | (refine wpListIn_load_row rfl 115 _ rfl w1.heap.size rfl 115 (keyC (D.stepAll (lefts rs) S ((k : Int)))) (0, 0) _ (Blk.new w1 _ _) Tryz.underlying115 rfl HIF.out ?_))
        refine HRD.out.mono ?_
        rintro e W3 (⟨rfl, hj3, hk3⟩ | ⟨rfl, hx3⟩)
        · have HR3 := Box.mk (HEND.out _ _ HB2.out hj3 hk3)
          clear hj3 hk3
          gi_wp2
          go_roundw
          case rel => exact HR3.out
          case measure => simp [intOf] <;> omega
        · gi_wp2
          rw [Exit.noGoto_normal]
          go_end0
          exact ⟨⟨_, rfl⟩, .inr ⟨_, hx3⟩⟩
    · obtain rfl : k = n + 1 := by omega
      gi_wp2
      rw [Exit.noGoto_normal]
      go_end0
      exact ⟨⟨_, rfl⟩, .inl ⟨_, rfl, hj.out⟩⟩
end Go.Proofs.YtbpcipobdokcfaaGreatDoor
