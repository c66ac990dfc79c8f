/-
  THE WALKS OF package scalar: a text's scalars, by the reader's iterator; Valid.
-/
import Derived.Test.YtbagecjkfcoapaaDoorRange
import Derived.Test.YtbagecjkfcoapaaDoorScEnc
import Derived.Lib.Strings
import Derived.Lib.IndexBytes
import Derived.Maps.AppendAt
import Derived.Shelf.Abstract
import Derived.Shelf.RegionOpen
namespace Go.Proofs.YtbagecjkfcoapaaDoor
open Go.RowKit Go.Shelf
attribute [local go_sem] Oper.semAt_some

/-- a text's scalars, as far as they go -/
def runS (s : ByteArray) (A : Nat → Addr) (b : Nat) (xs : List Int) (W : World) : Prop :=
  (U.scalars s.data.toList = some xs ∧ ∃ s', Blk W b 75 #[.string s', .nilIface]) ∨ (U.scalars s.data.toList = none ∧ ∃ s', Blk W b 75 #[.string s', errV A 2])

theorem textOf_len (l : List Int) : l.length ≤ (U.textOf l).length := by
  induction l with
  | nil => simp
  | cons r l ih =>
    have := U.enc_len r
    show l.length + 1 ≤ (U.enc r ++ U.textOf l).length
    rw [List.length_append]; omega
theorem E.holds {A : Nat → Addr} {B : Nat} {w w' : World} (h : E A B w) {own : Nat → Prop} (hh : Holds own w w') (hB : ∀ k, k < B → own k) : E A B w' where
  var g hg := (World.cell?_of_block (hh.block g (hB _ (h.lt g hg).1))).trans (h.var g hg)
  row g hg := by
    obtain ⟨c, t, hr⟩ := h.row g hg
    exact ⟨c, t, (hh.block _ (hB _ (h.lt g hg).2)).trans hr⟩
  lt := h.lt
  ne := h.ne
theorem Holds.blk {own : Nat → Prop} {A B : World} (h : Holds own A B) {g : Nat} {t : TypeId} {cs : Array Value} (hb : Blk A g t cs) (hg : own g) : Blk B g t cs := (h.block g hg).trans hb
theorem E.only {A : Nat → Addr} {B : Nat} {w w' : World} {b : Nat} (h : E A B w) (hg : w.grownBy w' (some b)) (hB : B ≤ b) (hB2 : B ≤ w.heap.size) : E A B w' := h.below (only_below hg hB hB2)

set_option maxHeartbeats 1000000 in
theorem scalars1_iter (n : Nat) (A : Nat → Addr) (B b Bn : Nat) (s : ByteArray) (hs : s.size ≤ maxLen) (l : Nat) (W1 : World)
    (hE : E A B W1) (hB : B ≤ b) (hB2 : B ≤ Bn) (hne : b ≠ Bn) (hb : Blk W1 b 75 #[.string s, .nilIface]) (hBn : Blk W1 Bn 71 #[.pointer (some ⟨b, 0, none⟩)]) :
    IterC (n + 1) Tryd.prog 46 #[.pointer (some ⟨Bn, 0, none⟩)] (fun x : Int => #[.int .i64 x]) (fun k => k = b) (fun k => k = b ∨ k = Bn ∨ k < B) (fun pre _ => pre.length < s.size) (runS s A b) l W1 := by
  intro J Jx hJ hJx hY h0
  have HY := Box.mk hY
  have HJ := Box.mk hJ
  clear hY hJ
  refine callsIn_of_wp Tryd.func46 rfl trivial ?_
  simp only [Tryd.ntmps46, List.size_toArray, List.length_cons, List.length_nil, Nat.reduceAdd, Nat.reduceSub, Array.replicate_succ, Array.replicate_zero, List.push_toArray, List.append_toArray, List.nil_append, List.cons_append]
  gi_wp2
  refine wpIn_wide.2 (wp_scope_straight ((wpIn_wide (n := n + 1)).1 ?_))
  gi_wp2
  refine wpIn_label ?_
  gi_wp2
  gi_loopw [3] (fun v wr => ∃ (pre : List Int) (rest : ByteArray), rest.size ≤ s.size ∧ Box (U.textOf pre ++ rest.data.toList = s.data.toList ∧ ∀ r ∈ pre, U.right r = true) ∧ E A B wr ∧ Blk wr b 75 #[.string rest, .nilIface] ∧ Blk wr Bn 71 #[.pointer (some ⟨b, 0, none⟩)] ∧ J pre wr)
    (fun _ wr => match wr.cell? ⟨b, 0, none⟩ with | some (.string r) => r.size | _ => 0)
  case atStart => exact ⟨[], s, Nat.le_refl _, ⟨⟨rfl, fun r hr => by cases hr⟩⟩, hE, hb, hBn, h0⟩
  case round =>
    obtain ⟨pre, rest, hrs, hp, hEr, hbr, hBnr, hj⟩ := hrel
    have c0 : wr.cell? ⟨b, 0, none⟩ = some (.string rest) := (hbr.cell 0).trans rfl
    have c1 : wr.cell? ⟨Bn, 0, none⟩ = some (.pointer (some ⟨b, 0, none⟩)) := (hBnr.cell 0).trans rfl
    cases hl : rest.data.toList with
    | nil =>
      have hz := isEmpty_nil hl
      have HS := Box.mk (show runS s A b pre wr from .inl ⟨(U.scalars_iff _ _).2 ⟨by rw [← hp.out.1, hl, List.append_nil], hp.out.2⟩, rest, hbr⟩)
      clear hl
      gi_wp2
      rw [Exit.noGoto_normal]
      go_end0
      exact ⟨⟨_, rfl⟩, .inl ⟨pre, HS.out, hj⟩⟩
    | cons c t =>
      have hz := isEmpty_cons hl
      have HN := Box.mk ((callsIn_wide (n := n)).2 (next_any A B b .nilIface rest wr (by omega) hEr hB hbr))
      have hsz : B ≤ wr.heap.size := by have := hbr.lt; omega
      have HEr := Box.mk hEr
      have HBn := Box.mk hBnr
      have HJr := Box.mk hj
      have HL := Box.mk hl
      clear hEr hbr hBnr hj hl
      gi_wp2
      refine ⟨trivial, HN.out.mono ?_⟩
      intro e w2 hN
      unfold nextPost at hN
      cases hd : U.dec rest.data.toList with
      | none =>
        rw [hd] at hN
        obtain ⟨rfl, hb2, hg2⟩ := hN
        have HS := Box.mk (show runS s A b pre w2 from .inr ⟨by
          rw [← hp.out.1, U.scalars_textOf _ hp.out.2, U.scalars_none (by rw [HL.out]; simp) hd]; rfl, rest, hb2⟩)
        have HJ2 := Box.mk (HJ.out _ _ _ HJr.out (Turns.of_only hg2 rfl))
        clear hd hb2 hg2
        gi_wp2
        refine ⟨fun _ h => (by cases h), ?_⟩
        gi_wp2
        rw [Exit.noGoto_normal]
        go_end0
        exact ⟨⟨_, rfl⟩, .inl ⟨pre, HS.out, HJ2.out⟩⟩
      | some p =>
        obtain ⟨r, m⟩ := p
        rw [hd] at hN
        obtain ⟨rfl, hb2, hg2⟩ := hN
        obtain ⟨hr, he, hm1, _, hm⟩ := U.dec_some hd
        have hj2 := HJ.out _ _ _ HJr.out (Turns.of_only hg2 rfl)
        have hE2 := HEr.out.only hg2 hB hsz
        have hBn2 : Blk w2 Bn 71 #[.pointer (some ⟨b, 0, none⟩)] := HBn.out.grown hg2 (by intro e; cases e; exact hne rfl)
        have HB2 := Box.mk hb2
        have HE2 := Box.mk hE2
        have HBn2 := Box.mk hBn2
        have hsr : rest.size = rest.data.toList.length := size_eq rest
        have HP := Box.mk (show (rest.extract m rest.size).size ≤ s.size ∧ (rest.extract m rest.size).size < rest.size ∧ U.textOf (pre ++ [r]) ++ (rest.extract m rest.size).data.toList = s.data.toList ∧ ∀ x ∈ pre ++ [r], U.right x = true by
          have hx : (rest.extract m rest.size).data.toList = rest.data.toList.drop m := Lib.extract_to_end rest m
          have hx2 : (rest.extract m rest.size).size = rest.size - m := by rw [size_eq, hx, List.length_drop, ← hsr]
          refine ⟨by omega, by omega, ?_, ?_⟩
          · rw [U.textOf_append, hx, List.append_assoc, ← hp.out.1]
            congr 1
            show U.enc r ++ [] ++ _ = _
            rw [he, List.append_nil, List.take_append_drop]
          · intro x hx
            rcases List.mem_append.1 hx with hx | hx
            · exact hp.out.2 x hx
            · simp at hx; rw [hx]; exact hr)
        have HLEN := Box.mk (show pre.length < s.size by
          have h1 := congrArg List.length hp.out.1
          have h2 := textOf_len pre
          rw [List.length_append, ← size_eq, ← size_eq] at h1
          omega)
        obtain ⟨fn, tmps, assign, body, hy, hR⟩ := HY.out pre r w2 hj2 HLEN.out
        have HR := Box.mk hR
        have hm0 : ((m : Int) == 0) = false := by rw [beq_eq_false_iff_ne]; omega
        clear hd hb2 hg2 hE2 hBn2 hj2 hR he hr hsr
        gi_wp2
        refine HR.out.mono ?_
        rintro e W3 (⟨rfl, hj3, hk3⟩ | ⟨rfl, hx3⟩)
        · have hb3 := hk3.blk HB2.out (.inl rfl)
          have HR3 := Box.mk (show ∃ (pre : List Int) (rest : ByteArray), rest.size ≤ s.size ∧ Box (U.textOf pre ++ rest.data.toList = s.data.toList ∧ ∀ r ∈ pre, U.right r = true) ∧ E A B W3 ∧ Blk W3 b 75 #[.string rest, .nilIface] ∧ Blk W3 Bn 71 #[.pointer (some ⟨b, 0, none⟩)] ∧ J pre W3 from
            ⟨pre ++ [r], _, HP.out.1, ⟨HP.out.2.2⟩, HE2.out.holds hk3 (fun k hk => .inr (.inr hk)), hb3, hk3.blk HBn2.out (.inr (.inl rfl)), hj3⟩)
          have c3 : W3.cell? ⟨b, 0, none⟩ = some (.string (rest.extract m rest.size)) := (hb3.cell 0).trans rfl
          have HC3 := Box.mk c3
          have HC0 := Box.mk c0
          clear hb3 hj3 hk3 c3 c0 c1
          gi_wp2
          go_roundw
          case rel => exact HR3.out
          case measure => rw [HC3.out, HC0.out]; exact HP.out.2.1
        · gi_wp2
          rw [Exit.noGoto_normal]
          go_end0
          exact ⟨⟨_, rfl⟩, .inr ⟨_, hx3⟩⟩
set_option maxHeartbeats 400000 in
theorem scalarsM_any (p : Option Addr) (w : World) :
    Calls Tryd.prog 37 #[.pointer p] w fun e w' => e = .returned (.func (.func 46) #[] #[.pointer (some ⟨w.heap.size, 0, none⟩)]) ∧ w.alloc (.cells #[.pointer p] 71) = w' := by
  go_enter Tryd.func37, Tryd.ntmps37
  go_wp2
  go_ret
  exact ⟨rfl, rfl⟩

theorem Turns.of_grown {own : Nat → Prop} {A B : World} {row : Option Nat} (h : A.grownBy B row) (hr : ∀ k, row = some k → own k) : Turns own A B :=
  ⟨h.os, h.tape, h.output, h.size, fun i hi ho => h.block i hi (fun e => ho (hr i e.symm))⟩

theorem row_lower {w : World} {base base' : Nat} {e : TypeId} {size : Nat} {v : Value} {n : Nat} {xs : List Value} (h : w.ownsRow base e size v n xs) (hb : base' ≤ base) : w.ownsRow base' e size v n xs := by
  refine ⟨h.1, ?_⟩
  rcases h.2 with h | ⟨g, cap, cur, h1, h2, h3⟩
  · exact .inl h
  · exact .inr ⟨g, cap, cur, h1, by omega, h3⟩

def scPost (s : ByteArray) (w : World) (e : Ending) (w' : World) : Prop :=
  Below w.heap.size w w' ∧ match U.scalars s.data.toList with
  | none => e = .returned (.tuple #[.slice none 0 0, .int .i64 11])
  | some xs => ∃ v, e = .returned (.tuple #[v, .int .i64 0]) ∧ w'.ownsRow w.heap.size 3 1 v xs.length (xs.map (Value.int .i64))

theorem int_info : (Tryd.prog.info? 3).map (fun i => (i.zero, i.size, i.bytes)) = some (some (.int .i64 0), 1, 8) := by kernel_rfl

set_option maxHeartbeats 1000000 in
theorem scal_any (A : Nat → Addr) (B : Nat) (s : ByteArray) (w : World) (hs : s.size ≤ 16777216) (hE : E A B w) (hB : B ≤ w.heap.size) :
    Calls Tryd.prog 26 #[.string s] w (scPost s w) := by
  have HE := Box.mk hE
  have hEv := Box.mk hE
  clear hE
  refine (callsIn_wide (n := 9)).1 (callsIn_of_wp_marks Tryd.func26 rfl trivial (wpIn_wide.2 ?_))
  simp only [Tryd.ntmps26, List.size_toArray, List.length_cons, List.length_nil, Nat.reduceAdd, Nat.reduceSub, Array.replicate_succ, Array.replicate_zero, List.push_toArray, List.append_toArray, List.nil_append, List.cons_append]
  go_wp2_with (go_at_call 37; refine (scalarsM_any _ _).mono ?_; rintro e w' ⟨rfl, rfl⟩)
  have hb : Blk (((w.alloc (.cells #[.string s, .nilIface] 75)).alloc (.cells #[.slice none 0 0] 31)).alloc (.cells #[.pointer (some ⟨w.heap.size, 0, none⟩)] 71)) w.heap.size 75 #[.string s, .nilIface] := ((Blk.new w _ _).alloc _).alloc _
  have ho : Blk (((w.alloc (.cells #[.string s, .nilIface] 75)).alloc (.cells #[.slice none 0 0] 31)).alloc (.cells #[.pointer (some ⟨w.heap.size, 0, none⟩)] 71)) (w.heap.size + 1) 31 #[.slice none 0 0] := by
    have := (Blk.new (w.alloc (.cells #[.string s, .nilIface] 75)) 31 #[.slice none 0 0]).alloc (.cells #[.pointer (some ⟨w.heap.size, 0, none⟩)] 71)
    simpa using this
  have hn : Blk (((w.alloc (.cells #[.string s, .nilIface] 75)).alloc (.cells #[.slice none 0 0] 31)).alloc (.cells #[.pointer (some ⟨w.heap.size, 0, none⟩)] 71)) (w.heap.size + 1 + 1) 71 #[.pointer (some ⟨w.heap.size, 0, none⟩)] := by
    have := Blk.new ((w.alloc (.cells #[.string s, .nilIface] 75)).alloc (.cells #[.slice none 0 0] 31)) 71 #[.pointer (some ⟨w.heap.size, 0, none⟩)]
    simpa using this
  have hbw : Below w.heap.size w (((w.alloc (.cells #[.string s, .nilIface] 75)).alloc (.cells #[.slice none 0 0] 31)).alloc (.cells #[.pointer (some ⟨w.heap.size, 0, none⟩)] 71)) :=
    (((Below.refl _ _).alloc (Nat.le_refl _) _).alloc (by simp) _).alloc (by simp; omega) _
  have hsz : (((w.alloc (.cells #[.string s, .nilIface] 75)).alloc (.cells #[.slice none 0 0] 31)).alloc (.cells #[.pointer (some ⟨w.heap.size, 0, none⟩)] 71)).heap.size = w.heap.size + 3 := by simp
  generalize ((w.alloc (.cells #[.string s, .nilIface] 75)).alloc (.cells #[.slice none 0 0] 31)).alloc (.cells #[.pointer (some ⟨w.heap.size, 0, none⟩)] 71) = wL at hb ho hn hbw hsz ⊢
  have hEL : E A B wL := HE.out.below (hbw.mono hB)
  refine (wpIn_wide (n := 9)).1 (range_law (α := Int) (gf := 46) (lb := #[.pointer (some ⟨w.heap.size + 1 + 1, 0, none⟩)]) rfl (enters_of Tryd.func46 (by kernel_rfl) rfl)
    (encs := fun x => #[.int .i64 x]) (own := fun k => k = w.heap.size) (keep := fun k => k = w.heap.size ∨ k = w.heap.size + 1 + 1 ∨ k < B) (ok := fun pre _ => pre.length < s.size) (S := runS s A w.heap.size)
    (fun k hk => by omega)
    (fun W1 ht => scalars1_iter 7 A B w.heap.size (w.heap.size + 1 + 1) s (by unfold maxLen; omega) _ W1 (hEL.below (ht.below (by omega) (fun _ h => h.elim))) hB (by omega) (by omega) (ht.blk hb (fun h => h)) (ht.blk hn (fun h => h)))
    (fun _ => rfl)
    (fun pre W => (∃ v, Blk W (w.heap.size + 1) 31 #[v] ∧ W.ownsRow (wL.heap.size + 2) 3 1 v pre.length (pre.map (Value.int .i64))) ∧ Below w.heap.size w W)
    (fun _ _ _ => False) ?hI (fun _ _ _ _ h _ => h) ⟨⟨_, ho, World.ownsRow_nil _ _ _ _⟩, hbw⟩
    (fun x a1 _ => a1 = { tmps := #[.string s, undef, .slice none 0 0, .int .i64 0, .pointer (some ⟨w.heap.size, 0, none⟩), .pointer (some ⟨w.heap.size + 1, 0, none⟩), .int .i64 x, .string s, .agg #[.string s], .agg #[.string s, .nilIface], .pointer (some ⟨w.heap.size, 0, none⟩), .pointer (some ⟨w.heap.size, 0, none⟩), .func (.func 46) #[] #[.pointer (some ⟨w.heap.size + 1 + 1, 0, none⟩)], .int .i64 x, undef, undef, undef, undef, undef, undef, undef, undef, undef, undef, undef, undef, undef, undef, undef], defers := [] })
    (fun _ _ _ _ h _ => h) ?assign ?body ?done (fun _ _ _ _ h _ => h.elim) ?hS)
  case hI =>
    rintro pre W W' ⟨⟨v, hv, hr⟩, hB'⟩ ht
    refine ⟨⟨v, ht.blk hv (by omega), ht.row hr (fun k hk => by have := (hr.lt k hk).1; omega)⟩, hB'.trans (ht.below hB'.size (fun k hk => by omega))⟩
  case assign =>
    intro x W K _ hK
    gi_wp2
    exact hK _ _ (Turns.refl _ _) rfl
  case hS =>
    rintro xs W W' (⟨h1, s', h2⟩ | ⟨h1, s', h2⟩) ht
    · exact .inl ⟨h1, s', ht.blk h2 (by omega)⟩
    · exact .inr ⟨h1, s', ht.blk h2 (by omega)⟩
  case body =>
    rintro pre x a1 W hW ⟨⟨v, hv, hr⟩, hB'⟩ hlen rfl
    obtain ⟨i0, hi, hz0, hz1, hz2⟩ := info_parts int_info
    have hc : W.cell? ⟨w.heap.size + 1, 0, none⟩ = some v := (hv.cell 0).trans rfl
    have hf := hv.frozen 0
    have HV := Box.mk hv
    have hlt := hv.lt
    have hsz' := hB'.size
    clear hv
    have hnb : v.ownBlock ≠ some (w.heap.size + 1) := fun e => by have := (hr.lt _ e).1; omega
    have HNB := Box.mk hnb
    have HSZ := Box.mk hsz
    clear hnb hsz hEL hbw hb ho hn
    gi_wp2_with (gi_at_builtin; refine wpListIn_append_own _ rfl _ _ 31 rfl (wL.heap.size + 2) 3 i0 (.int .i64 0) 1 8 Tryd.underlying31 hi hz0 hz1 hz2 rfl (by decide) _ _ _ rfl (hr.alloc _) ⟨W.heap.size, 0, none⟩ 1 1 [.int .i64 x] rfl rfl (cell_one_new _ _ _) (by simp [Value.oneCell']) (by unfold maxLen; omega) (by omega) (by simp; omega) ?_; intro v' w1 hown' hgrow _; obtain ⟨g', cap', rfl⟩ := ownsRow_succ hown'; have hv1 := (HV.out.alloc _).grown hgrow (Ne.symm HNB.out); have hc1 := hv1.cell 0; have hf1 := hv1.frozen 0; simp at hc1)
    have hlt' := fun k (hk : v.ownBlock = some k) => hr.lt k hk
    have hT : Turns (fun k => v.ownBlock = some k ∨ k = w.heap.size + 1) W (w1.setCell ⟨w.heap.size + 1, 0, none⟩ (.slice (some ⟨g', 0, none⟩) (pre.length + 1) cap')) :=
      ((Turns.alloc W _).trans (Turns.of_grown hgrow (fun k hk => .inl hk))).trans (Turns.setCell _ (.inr rfl) _)
    have hz := HSZ.out
    have hg' := (hown'.lt g' rfl).1
    have hn1 := HNB.out
    refine ⟨Holds.of_turns hT (fun k hk => by omega) (fun k hk h => ?_), ⟨_, hv1.set_ 0 _, ?_⟩, hB'.trans (hT.below hB'.size (fun k hk => ?_))⟩
    · rcases h with h | h
      · have := (hlt' k h).1; omega
      · omega
    · have := (Turns.setCell (own := fun k => k = w.heap.size + 1) w1 (p := ⟨w.heap.size + 1, 0, none⟩) rfl (.slice (some ⟨g', 0, none⟩) (pre.length + 1) cap')).row hown' (fun k hk => by simp [Value.ownBlock] at hk; omega)
      simpa using this
    · rcases hk with hk | hk
      · have := (hlt' k hk).1; omega
      · omega
  case done =>
    intro xs W hW hS ⟨⟨v, hv, hr⟩, hB'⟩ hD
    have HV := Box.mk hv
    have hc : W.cell? ⟨w.heap.size + 1, 0, none⟩ = some v := (hv.cell 0).trans rfl
    have HR := Box.mk hr
    have HD := Box.mk hD
    have HSZ := Box.mk hsz
    clear hr hD hsz hv hEL hbw hb ho hn
    rcases hS with ⟨h1, s', h2⟩ | ⟨h1, s', h2⟩
    · have e1 : W.cell? ⟨w.heap.size, 1, none⟩ = some .nilIface := (h2.cell 1).trans rfl
      have HS := Box.mk h1
      clear h1 h2
      go_wp2_with fail
      refine ⟨by simp, .inl ⟨_, _, rfl, run_takeDeferred HD.out, ?_⟩⟩
      refine ⟨_, results_tmp2 rfl _ _ _, ?_⟩
      have hz := HSZ.out
      unfold scPost
      rw [HS.out]
      refine ⟨hB'.trans ((Turns.putObj (own := fun k => k = wL.heap.size) W rfl _).below hB'.size (fun k hk => by omega)), v, rfl, ?_⟩
      have hr := (Turns.putObj (own := fun k => k = wL.heap.size) W rfl (.deferred none)).row HR.out (fun k hk => by have := (HR.out.lt k hk).1; omega)
      exact row_lower hr (by omega)
    · have e1 : W.cell? ⟨w.heap.size, 1, none⟩ = some (errV A 2) := (h2.cell 1).trans rfl
      unfold errV at e1
      have HS := Box.mk h1
      have HT := Box.mk (told_utf A B W (HE.out.below (hB'.mono hB)))
      clear h1 h2
      go_wp2_with (go_at_call 38; refine HT.out.mono ?_; rintro e w' ⟨rfl, rfl⟩)
      refine ⟨by simp, .inl ⟨_, _, rfl, run_takeDeferred HD.out, ?_⟩⟩
      refine ⟨_, results_tmp2 rfl _ _ _, ?_⟩
      have hz := HSZ.out
      unfold scPost
      rw [HS.out]
      exact ⟨hB'.trans ((Turns.putObj (own := fun k => k = wL.heap.size) W rfl _).below hB'.size (fun k hk => by omega)), rfl⟩

set_option maxHeartbeats 1000000 in
theorem valid_any (A : Nat → Addr) (B : Nat) (s : ByteArray) (w : World) (hs : s.size ≤ 16777216) (hE : E A B w) (hB : B ≤ w.heap.size) :
    Calls Tryd.prog 25 #[.string s] w fun e w' => e = .returned (.bool (U.valid s.data.toList)) ∧ Below w.heap.size w w' := by
  have HS := Box.mk (scal_any A B s w hs hE hB)
  clear hE
  go_enter Tryd.func25, Tryd.ntmps25
  go_wp2_with fail
  refine HS.out.mono ?_
  rintro e w' ⟨hb, hp⟩
  cases hd : U.scalars s.data.toList with
  | none =>
    rw [hd] at hp
    obtain rfl := hp
    have HV := Box.mk (show U.valid s.data.toList = false by unfold U.valid; rw [hd]; rfl)
    clear hd
    go_wp2_with fail
    go_ret
    exact ⟨by rw [HV.out]; rfl, hb⟩
  | some xs =>
    rw [hd] at hp
    obtain ⟨v, rfl, _⟩ := hp
    have HV := Box.mk (show U.valid s.data.toList = true by unfold U.valid; rw [hd]; rfl)
    clear hd
    go_wp2_with fail
    go_ret
    exact ⟨by rw [HV.out]; rfl, hb⟩
end Go.Proofs.YtbagecjkfcoapaaDoor
