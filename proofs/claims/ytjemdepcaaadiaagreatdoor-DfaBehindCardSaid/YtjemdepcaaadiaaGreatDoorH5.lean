/-
  Texts of this claim, one behind the other: DfO, DfQ, DfR, Eqs, DfX, DfS, DfT, DfU, DfV.
-/
import Derived.Test.YtjemdepcaaadiaaGreatDoorH4
import Derived.Carry
import Derived.Test.YtjemdepcaaadiaaGreatDoorH1
import Derived.RegionTactic
import Derived.Test.YtjemdepcaaadiaaGreatDoorH2

/- ONE ROUND OF THE BUILDER's OUTER LOOP: a state. -/
namespace Go.Proofs.YtjemdepcaaadiaaGreatDoor
open Go.RowKit Go.Shelf
attribute [local go_sem] Oper.semAt_some

section
variable {P : Program} {ops : Array Oper} {w : World}
theorem wpStill_mid {Q : Act → Prop} {a : Act} {o : Oper} {rest : List Oper} (hgd : o.guard = none) (ty : TypeId) (x : Operand) (ho : o.op = .load ty x)
    (b off : Nat) (hx : a.eval x = .pointer (some ⟨b, off, none⟩)) (cs : List Value) (d : TypeDesc) (hc : w.rangeAt b off cs)
    (hu : P.underlying ty = some d) (hd : d.isRow = true) (hi : (P.info? ty).map (·.size) = some cs.length)
    (h : wpStill P ops w Q rest (a.put o.dst (.agg cs.toArray))) : wpStill P ops w Q (o :: rest) a := by
  refine wpStill_step fun K hK => ?_
  rw [if_pos (by simp [Region.wanted, hgd])]
  unfold Oper.still execOp
  simp only [ho, hx, Instr.loadAt, Instr.sureAddr, Sem.run_bind, Sem.run_pure, Result.andThen_ok, run_loadVar_mid w b off ty cs d hc hu hd hi, Oper.stillUpon_value]
  exact hK _ h
end
/-- sets that stand in a row of such -/
theorem flat_range {w : World} {base g K : Nat} {n c : Nat} {t : List D.Sets} {S : D.Sets} (h : w.ownsRow base 92 40 (.slice (some ⟨g, 0, none⟩) n c) n (t.flatMap keyL)) (hl : ∀ s ∈ t, s.length ≤ 40) (hS : t[K]? = some S) : w.rangeAt g (K * 40) (keyL S) := by
  intro j v hv
  have key : ∀ (t : List D.Sets) (K : Nat), (∀ s ∈ t, s.length ≤ 40) → t[K]? = some S → (t.flatMap keyL)[K * 40 + j]? = some v := by
    intro t
    induction t with
    | nil => intro K _ h; simp at h
    | cons s t ih =>
      intro K hl hK
      have h40 := keyL_len s (hl s (List.mem_cons_self ..))
      rw [List.flatMap_cons]
      cases K with
      | zero =>
        simp only [List.getElem?_cons_zero, Option.some.injEq] at hK
        subst hK
        rw [Nat.zero_mul, Nat.zero_add, List.getElem?_append_left (List.getElem?_eq_some_iff.1 hv).1]
        exact hv
      | succ K =>
        rw [List.getElem?_cons_succ] at hK
        rw [List.getElem?_append_right (by rw [h40, Nat.succ_mul]; omega), h40, show (K + 1) * 40 + j - 40 = K * 40 + j by rw [Nat.succ_mul]; omega]
        exact ih K (fun s hs => hl s (List.mem_cons_of_mem _ hs)) hK
  have := h.cells (g := g) rfl (K * 40 + j) v (key t K hl hS)
  rw [Addr.add_mid, Nat.zero_add] at this
  exact this

theorem cell_other (w : World) (b i j : Nat) (v : Value) (h : i ≠ j) : (w.setCell ⟨b, i, none⟩ v).cell? ⟨b, j, none⟩ = w.cell? ⟨b, j, none⟩ := World.cell?_setCell_other w _ _ v (by intro e; injection e with _ e2; exact h e2)
theorem sliInfo : (Tryz.prog.info? 26).map (fun i => (i.zero, i.size, i.bytes)) = some (some (.slice none 0 0), 1, 24) := by kernel_rfl
theorem own_below' {w w' : World} {B : Nat} {T s : Nat} {v : Value} {n : Nat} {bs : List Value} (h : w.ownsRow B T s v n bs) (hb : Below w.heap.size w w') : w'.ownsRow B T s v n bs := (Turns.of_below (own := fun _ => False) hb).row h (fun _ _ h => h)
noncomputable def bldLoop : Code := (Tryz.f36.body.bind firstLoop).getD .skip

/-- how things stand at the head of the builder's loop -/
def LS (w0 : World) (b m n : Nat) (rv : Value) (sd : List D.Side) (k : Nat) (Ds : List Nat) (w : World) : Prop :=
  (D.build sd n k).next.length = k ∧ (D.build sd n k).todo.length ≤ 300 ∧ (∃ nv fv tv vs, BS w0 b m n sd.length rv (D.build sd n k).todo (D.build sd n k).next (D.build sd n k).fits nv fv tv vs w) ∧
    Blk w w0.heap.size 64 #[.pointer (some ⟨b, 0, none⟩)] ∧ Blk w (w0.heap.size + 1) 57 #[.nilIface] ∧ Marks w0 Ds w
def WI (w0 : World) (b m n : Nat) (rv : Value) (sd : List D.Side) (a : Act) (w : World) : Prop :=
  ∃ (K : Nat) (Ds : List Nat) (s4 s5 s6 s7 s8 s9 s10 s11 s12 s13 s14 s15 s16 s17 s18 s19 s20 s21 s22 s23 s24 s25 s26 s27 s28 s29 s30 s31 s32 s33 s34 s35 s36 s37 s38 s39 s40 s41 s42 s43 s44 s45 s46 s47 s48 s49 s50 s51 s52 s53 s54 s55 s56 s57 s58 s59 s60 s61 s62 s63 s64 s65 s66 s67 s68 s69 s70 s71 s72 s73 s74 s75 s76 s77 : Value), LS w0 b m n rv sd K Ds w ∧ a = { tmps := (Value.pointer (some ⟨b, 0, none⟩) :: Value.pointer (some ⟨w0.heap.size, 0, none⟩) :: Value.pointer (some ⟨w0.heap.size + 1, 0, none⟩) :: Value.int .i64 (K : Int) :: s4 :: s5 :: s6 :: s7 :: s8 :: s9 :: s10 :: s11 :: s12 :: s13 :: s14 :: s15 :: s16 :: s17 :: s18 :: s19 :: s20 :: s21 :: s22 :: s23 :: s24 :: s25 :: s26 :: s27 :: s28 :: s29 :: s30 :: s31 :: s32 :: s33 :: s34 :: s35 :: s36 :: s37 :: s38 :: s39 :: s40 :: s41 :: s42 :: s43 :: s44 :: s45 :: s46 :: s47 :: s48 :: s49 :: s50 :: s51 :: s52 :: s53 :: s54 :: s55 :: s56 :: s57 :: s58 :: s59 :: s60 :: s61 :: s62 :: s63 :: s64 :: s65 :: s66 :: s67 :: s68 :: s69 :: s70 :: s71 :: s72 :: s73 :: s74 :: s75 :: s76 :: s77 :: []).toArray, defers := Ds.map MarkOf }
def Wmu (a : Act) (_ : World) : Nat := 301 - (intOf (a.tmps.getD 3 undef)).toNat

set_option maxRecDepth 100000 in
set_option maxHeartbeats 4000000 in
theorem round_any (A : Nat → Addr) (B : Nat) (Se : List Nat) (hSe : 0 ∈ Se) (b m n K : Nat) (rv : Value) (rs : List D.Rule) (Ds : List Nat) (wE w0 wr : World) (Q0 : Exit → Act → World → Prop)
    (hO : Old A B Se rv rs b m wE w0) (hLS : LS w0 b m n rv (lefts rs) K Ds wr) (hK : K < (D.build (lefts rs) n K).todo.length) (hl : rs.length ≤ 40) (hr : sideOk rs) (hn : n ≤ 32)
    (hret : ∀ (a : Act) (Ds : List Nat) (W : World), a.defers = Ds.map MarkOf → a.tmps.getD 2 undef = .pointer (some ⟨w0.heap.size + 1, 0, none⟩) → InX w0 A b m (lefts rs) n Ds W → Q0 .ret a W) (s4 s5 s6 s7 s8 s9 s10 s11 s12 s13 s14 s15 s16 s17 s18 s19 s20 s21 s22 s23 s24 s25 s26 s27 s28 s29 s30 s31 s32 s33 s34 s35 s36 s37 s38 s39 s40 s41 s42 s43 s44 s45 s46 s47 s48 s49 s50 s51 s52 s53 s54 s55 s56 s57 s58 s59 s60 s61 s62 s63 s64 s65 s66 s67 s68 s69 s70 s71 s72 s73 s74 s75 s76 s77 : Value) :
    bldLoop.wp Tryz.prog (Exit.then (fun a' w' => WI w0 b m n rv (lefts rs) a' w' ∧ Wmu a' w' < Wmu { tmps := (Value.pointer (some ⟨b, 0, none⟩) :: Value.pointer (some ⟨w0.heap.size, 0, none⟩) :: Value.pointer (some ⟨w0.heap.size + 1, 0, none⟩) :: Value.int .i64 (K : Int) :: s4 :: s5 :: s6 :: s7 :: s8 :: s9 :: s10 :: s11 :: s12 :: s13 :: s14 :: s15 :: s16 :: s17 :: s18 :: s19 :: s20 :: s21 :: s22 :: s23 :: s24 :: s25 :: s26 :: s27 :: s28 :: s29 :: s30 :: s31 :: s32 :: s33 :: s34 :: s35 :: s36 :: s37 :: s38 :: s39 :: s40 :: s41 :: s42 :: s43 :: s44 :: s45 :: s46 :: s47 :: s48 :: s49 :: s50 :: s51 :: s52 :: s53 :: s54 :: s55 :: s56 :: s57 :: s58 :: s59 :: s60 :: s61 :: s62 :: s63 :: s64 :: s65 :: s66 :: s67 :: s68 :: s69 :: s70 :: s71 :: s72 :: s73 :: s74 :: s75 :: s76 :: s77 :: []).toArray, defers := Ds.map MarkOf } wr) Q0) { tmps := (Value.pointer (some ⟨b, 0, none⟩) :: Value.pointer (some ⟨w0.heap.size, 0, none⟩) :: Value.pointer (some ⟨w0.heap.size + 1, 0, none⟩) :: Value.int .i64 (K : Int) :: s4 :: s5 :: s6 :: s7 :: s8 :: s9 :: s10 :: s11 :: s12 :: s13 :: s14 :: s15 :: s16 :: s17 :: s18 :: s19 :: s20 :: s21 :: s22 :: s23 :: s24 :: s25 :: s26 :: s27 :: s28 :: s29 :: s30 :: s31 :: s32 :: s33 :: s34 :: s35 :: s36 :: s37 :: s38 :: s39 :: s40 :: s41 :: s42 :: s43 :: s44 :: s45 :: s46 :: s47 :: s48 :: s49 :: s50 :: s51 :: s52 :: s53 :: s54 :: s55 :: s56 :: s57 :: s58 :: s59 :: s60 :: s61 :: s62 :: s63 :: s64 :: s65 :: s66 :: s67 :: s68 :: s69 :: s70 :: s71 :: s72 :: s73 :: s74 :: s75 :: s76 :: s77 :: []).toArray, defers := Ds.map MarkOf } wr := by
  obtain ⟨hk1, hk2, ⟨nv, fv, tv, vs, hBS⟩, hp, he, hM⟩ := hLS
  obtain ⟨S, hS⟩ : ∃ S, (D.build (lefts rs) n K).todo[K]? = some S := ⟨_, List.getElem?_eq_getElem hK⟩
  have HS := Box.mk hS
  obtain ⟨t, ht⟩ : ∃ t, (D.build (lefts rs) n K).todo = t := ⟨_, rfl⟩
  rw [ht] at hBS hS hK hk2
  have hgood : D.Good (lefts rs) S := D.good_build (lefts rs) n K S (by rw [ht]; exact List.mem_of_getElem? hS)
  have hSl : S.length ≤ 40 := by have := hgood.1; rw [lefts_len] at this; omega
  obtain ⟨tk, hlen⟩ : ∃ q, t.length = q + 1 := ⟨t.length - 1, by omega⟩
  have hrow := hBS.mets.row
  rw [hlen] at hrow
  obtain ⟨g, tc, rfl⟩ := ownsRow_succ hrow
  rw [← hlen] at hrow hBS
  have HBS := Box.mk hBS
  have HP := Box.mk hp
  have HE := Box.mk he
  have HM := Box.mk hM
  have HKX := Box.mk hk1
  have HT := Box.mk ht
  have c1 : wr.cell? ⟨w0.heap.size, 0, none⟩ = some (.pointer (some ⟨b, 0, none⟩)) := (hp.cell 0).trans rfl
  have c5 : wr.cell? ⟨b, 5, none⟩ = some (.slice (some ⟨g, 0, none⟩) t.length tc) := (hBS.mets.blk.cell 5).trans rfl
  have l1 := hp.lt
  have l5 := hBS.mets.blk.lt
  have hK300 : K < 300 := by omega
  clear hk1 hBS hp he hM hrow hlen ht hgood
  unfold WI Wmu
  conv => arg 2; whnf
  go_upto_region 6 with (fail)
  obtain ⟨wB, hwB⟩ : ∃ wB, wB = (wr.alloc (.cells #[.slice none 0 0] 26)).drew := ⟨_, rfl⟩
  have hbB : Below wr.heap.size wr wB := by rw [hwB]; exact below_drewN ((Below.refl _ _).alloc (Nat.le_refl _) _) 1
  have HBB := Box.mk hbB
  have hcur : Blk wB wr.heap.size 26 #[.slice none 0 0] := by rw [hwB]; exact Blk.new wr _ _
  have HCUR := Box.mk hcur
  have hszB : wB.heap.size = wr.heap.size + 1 := by rw [hwB]; simp [World.drew]
  have HSZB := Box.mk hszB
  have HBSB := Box.mk (HBS.out.below hbB)
  have HRG := Box.mk (flat_range HBSB.out.mets.row (fun s hs => by have := HBSB.out.mets.fine.len s hs; rw [lefts_len] at this; omega) hS)
  have HIK := Box.mk (show (Tryz.prog.info? 92).map (·.size) = some (keyL S).length by rw [keyInfo, keyL_len S hSl])
  have b1 : wB.cell? ⟨w0.heap.size, 0, none⟩ = some (.pointer (some ⟨b, 0, none⟩)) := (hbB.cell (p := ⟨w0.heap.size, 0, none⟩) l1).trans c1
  have b5 : wB.cell? ⟨b, 5, none⟩ = some (.slice (some ⟨g, 0, none⟩) t.length tc) := (hbB.cell (p := ⟨b, 5, none⟩) l5).trans c5
  refine wp_region_still_tail 8 (by kernel_rfl) (by kernel_rfl) ?_
  simp only [List.take_succ_cons, List.take_zero, List.drop_succ_cons, List.drop_zero]
  change wpStill _ _ (World.drew _) (fun a' => wpList _ _ _ _ a' (World.drew _)) _ _
  rw [← hwB]
  clear hwB hbB hcur hszB c1 c5 hS
  still_step
  still_step
  still_step
  still_step
  still_step
  still_step
  still_step
  refine wpStill_mid rfl 92 _ rfl g (K * 40) rfl (keyL S) _ HRG.out Tryz.underlying92 rfl HIK.out ?_
  refine wpStill_nil ?_
  change wpList _ _ _ _ (Act.put _ _ (.agg (keyC S))) _
  go_wp2_with (go_at_call 52; refine (stepsM_any _ _ _).mono ?_; rintro e w' ⟨rfl, rfl⟩)
  clear b1 b5 l1 l5
  obtain ⟨wL, hwL⟩ : ∃ wL, wL = (wB.alloc (.cells #[.pointer (some ⟨b, 0, none⟩)] 64)).alloc (.cells (keyC S) 92) := ⟨_, rfl⟩
  have hbL : Below wB.heap.size wB wL := by rw [hwL]; exact ((Below.refl _ _).alloc (Nat.le_refl _) _).alloc (by simp) _
  have hbx : Blk wL wB.heap.size 64 #[.pointer (some ⟨b, 0, none⟩)] := by rw [hwL]; exact (Blk.new wB _ _).alloc _
  have hbl : Blk wL (wB.heap.size + 1) 92 (keyC S) := by
    rw [hwL]
    have := Blk.new (wB.alloc (.cells #[.pointer (some ⟨b, 0, none⟩)] 64)) 92 (keyC S)
    simpa using this
  have hszL : wL.heap.size = wr.heap.size + 3 := by have := HSZB.out; rw [hwL]; simp; omega
  have hszB := HSZB.out
  have hlr := HP.out.lt
  have hler := HE.out.lt
  have hbLr : Below wr.heap.size wr wL := HBB.out.trans (hbL.mono HBB.out.size)
  have hIN0 : InI w0 wr.heap.size (wL.heap.size + 1) b m n rv (lefts rs) K S nv fv vs Ds [] wL := by
    unfold InI
    have hrow0 : D.row (lefts rs) n S (D.build (lefts rs) n K).todo ([] : List Nat).length = ([], t) := by rw [HT.out]; rfl
    rw [hrow0]
    exact ⟨hk2, _, .slice none 0 0, ⟨HBSB.out.below hbL, HCUR.out.below hbL HCUR.out.lt, World.ownsRow_nil _ _ _ _, HP.out.below hbLr HP.out.lt, HE.out.below hbLr HE.out.lt,
      HM.out.turns (own := fun _ => False) (Turns.of_below hbLr) (fun _ _ h => h), fun q hq => (HBS.out.nrow.lt q hq).2, fun q hq => (HBS.out.frow.lt q hq).2,
      fun v hv q hq => by obtain ⟨r, hrw⟩ := HBS.out.rows_of v hv; exact (hrw.lt q hq).2, fun q hq => .inl (HBS.out.mets.row.lt q hq).2, fun q hq => by simp [Value.ownBlock] at hq,
      fun q hq => (Array.getElem?_eq_some_iff.1 (HM.out.at' q hq).2).1, hler, by omega⟩⟩
  have hdlt : ∀ q ∈ Ds, q < wr.heap.size := fun q hq => (Array.getElem?_eq_some_iff.1 (HM.out.at' q hq).2).1
  have hgood : D.Good (lefts rs) S := D.good_build (lefts rs) n K S (List.mem_of_getElem? HS.out)
  have HHO := Box.mk hO
  have HHR := Box.mk hr
  have HKT := Box.mk (show (D.build (lefts rs) n K).todo.length ≤ 300 by rw [HT.out]; exact hk2)
  rw [← hwL]
  clear hwL
  refine (wpIn_wide (n := 9)).1 (range_law3 (α := Nat) (gf := 79) (lb := #[.pointer (some ⟨wB.heap.size, 0, none⟩), .pointer (some ⟨wB.heap.size + 1, 0, none⟩)]) rfl (enters_of Tryz.func79 (by kernel_rfl) rfl)
    (encs := stEnc rs n S) (own := fun _ => False) (keep := fun k => k = wB.heap.size ∨ k = wB.heap.size + 1) (ok := fun pre x => x = pre.length ∧ x ≤ n) (S := fun xs _ => xs = List.range (n + 1)) (G := Gb A B b n m rv rs)
    (fun k hk => by rcases hk with h | h; exact h.elim; omega)
    (fun W1 ht => steps1_iter 7 A B b n m rv rs S _ _ _ W1 hn hr hl hgood (ht.blk hbx (fun h => h)) (ht.blk hbl (fun h => h)))
    (fun _ => rfl)
    (InI w0 wr.heap.size (wL.heap.size + 1) b m n rv (lefts rs) K S nv fv vs Ds)
    (fun c _ W => c = .ret ∧ InX w0 A b m (lefts rs) n Ds W) ?hI ?hIx ?hG hIN0
    (fun x a1 W => ∃ ub, wL.heap.size + 2 ≤ ub ∧ Blk W ub 92 (keyC (D.stepAll (lefts rs) S (D.cls n x))) ∧ a1 = { tmps := (Value.pointer (some ⟨b, 0, none⟩) :: Value.pointer (some ⟨w0.heap.size, 0, none⟩) :: Value.pointer (some ⟨w0.heap.size + 1, 0, none⟩) :: Value.int .i64 (K : Int) :: Value.pointer (some ⟨wr.heap.size, 0, none⟩) :: s5 :: Value.pointer (some ⟨ub, 0, none⟩) :: s7 :: s8 :: s9 :: s10 :: s11 :: s12 :: Value.int .i64 (K : Int) :: Value.pointer (some ⟨b, 0, none⟩) :: Value.pointer (some ⟨b, 0, none⟩) :: Value.pointer (some ⟨b, 5, none⟩) :: Value.slice (some ⟨g, 0, none⟩) t.length tc :: Value.int .i64 (t.length : Int) :: Value.bool true :: s20 :: s21 :: Value.pointer (some ⟨b, 0, none⟩) :: Value.pointer (some ⟨b, 0, none⟩) :: Value.pointer (some ⟨b, 0, none⟩) :: Value.pointer (some ⟨b, 5, none⟩) :: Value.slice (some ⟨g, 0, none⟩) t.length tc :: Value.int .i64 (K : Int) :: Value.pointer (some ⟨g, K * 40, none⟩) :: Value.agg (keyC S) :: Value.func (.func 79) #[] #[.pointer (some ⟨wB.heap.size, 0, none⟩), .pointer (some ⟨wB.heap.size + 1, 0, none⟩)] :: Value.int .i64 (x : Int) :: Value.agg (keyC (D.stepAll (lefts rs) S (D.cls n x))) :: s33 :: s34 :: s35 :: s36 :: s37 :: s38 :: s39 :: s40 :: s41 :: s42 :: s43 :: s44 :: s45 :: s46 :: s47 :: s48 :: s49 :: s50 :: s51 :: s52 :: s53 :: s54 :: s55 :: s56 :: s57 :: s58 :: s59 :: s60 :: s61 :: s62 :: s63 :: s64 :: s65 :: s66 :: s67 :: s68 :: s69 :: s70 :: s71 :: s72 :: s73 :: s74 :: s75 :: s76 :: s77 :: []).toArray, defers := [] })
    ?hAx ?assign ?body ?done ?stop (fun _ _ _ h _ => h))
  case hI =>
    rintro pre W W' ⟨h1, tv2, cv2, h2⟩ ht
    exact ⟨h1, tv2, cv2, h2.turns ht (fun q hq => by rcases hq with h | h; exact h.elim; exact h)⟩
  case hIx =>
    rintro c pre W W' ⟨h1, h2, h3, h4, h5⟩ ht
    refine ⟨h1, h2, turns_old h3 ht (fun q hq e => by rcases e with e | e; exact e.elim; omega), ht.blk h4 (by rintro (e | e); exact e; omega), h5.turns ht (fun q hq e => ?_)⟩
    have := hdlt q hq
    rcases e with e | e
    · exact e
    · omega
  case hG =>
    rintro pre W ⟨h1, tv2, cv2, h2⟩
    have hb := HHO.out.now h2.bs.turns
    exact ⟨⟨_, _, _, h2.bs.mets.blk⟩, HHO.out.rules.below hb, HHO.out.e.below (hb.mono HHO.out.hB), Nat.le_trans HHO.out.hB hb.size⟩
  case hAx =>
    rintro x a1 W W' ⟨ub, h1, h2, h3⟩ ht
    exact ⟨ub, h1, ht.blk h2 (by omega), h3⟩
  case assign =>
    intro x W Kc hW hKc
    have hkl : (D.stepAll (lefts rs) S (D.cls n x)).length ≤ 40 := by rw [D.stepAll_len, lefts_len]; exact hl
    have HIF := Box.mk (show (Tryz.prog.info? 92).map (·.size) = some (keyC (D.stepAll (lefts rs) S (D.cls n x))).size by rw [keyInfo, keyC_size _ hkl])
    have HSZ := Box.mk (show (keyC []).size = (keyC (D.stepAll (lefts rs) S (D.cls n x))).size by rw [keyC_size _ hkl]; rfl)
    clear hkl hszB hszL
    unfold stEnc
    gi_wp2_with (refine wpListIn_store_row rfl 92 _ _ rfl W.heap.size (keyC (D.stepAll (lefts rs) S (D.cls n x))) rfl rfl 92 (keyC []) (Blk.new W _ (keyC [])) HIF.out HSZ.out (keyC_one _) ?_; rw [setRow_new])
    exact hKc _ _ (Turns.alloc _ _) ⟨W.heap.size, hW, Blk.new _ _ _, rfl⟩
  case body =>
    rintro pre x a1 W0 W N hW0 hI0 ht hN ⟨rfl, hx⟩ ⟨ub, hub, hbu, rfl⟩
    exact inner_any A B Se hSe _ (wL.heap.size + 1) wL.heap.size wr.heap.size b m n K rv rs S nv fv vs Ds _ wE w0 W0 W pre ub HHO.out hI0 (ht.mono (fun q hq => by rcases hq with h | h; exact h.elim; exact h)) (by omega)
      (fun q hq => by
        rcases hq with (h | h) | h | h
        · left; omega
        · right; omega
        · left; omega
        · left; omega) HKX.out HS.out HKT.out hx hn hl hr hbu _ _ _ _ _ _ _ _ _ _ _ _ _ _ _ _ _ _ _ _ _ _ _ _ _ _ _ _ _ _ _ _ _ _ _ _ _ _ _ _ _ _ _ _ _ _ _ _ _ _ _ _ _ _ _ _ _ _ _ _ _ _ _ _ _ _ _ _ _ _ _ _ _
  case stop =>
    rintro c pre W hW ⟨rfl, hX⟩ hD
    have HX := Box.mk (show InX w0 A b m (lefts rs) n (wL.heap.size :: Ds) W from ⟨hX.1, hX.2.1, hX.2.2.1, hX.2.2.2.cons (by omega) hD (fun h => by have := hdlt _ h; omega)⟩)
    have HRET := Box.mk (fun a h1 h2 => hret a (wL.heap.size :: Ds) W h1 h2 HX.out)
    clear hX hD hszB hszL hret
    refine wpIn_wide.2 ?_
    go_wp2_with fail
    exact HRET.out _ rfl rfl
  case done =>
    rintro xs W hW hxs ⟨h1, tv2, cv2, h2⟩ hD
    have hxl : xs.length = n + 1 := by rw [hxs]; simp
    rw [hxl] at h1 h2
    have HGO := Box.mk (show D.build (lefts rs) n (K + 1) = _ from D.go_some (lefts rs) n (b := D.build (lefts rs) n K) (by rw [HKX.out]; exact HS.out))
    have HIN := Box.mk h2
    have hrl : (D.row (lefts rs) n S (D.build (lefts rs) n K).todo (n + 1)).1.length = n + 1 := D.row_len _ _ _ _ _
    obtain ⟨t', ht'⟩ : ∃ t', (D.row (lefts rs) n S (D.build (lefts rs) n K).todo (n + 1)).2 = t' := ⟨_, rfl⟩
    obtain ⟨r', hr'⟩ : ∃ r', (D.row (lefts rs) n S (D.build (lefts rs) n K).todo (n + 1)).1 = r' := ⟨_, rfl⟩
    obtain ⟨nx, hnx⟩ : ∃ nx, (D.build (lefts rs) n K).next = nx := ⟨_, rfl⟩
    obtain ⟨fx, hfx⟩ : ∃ fx, (D.build (lefts rs) n K).fits = fx := ⟨_, rfl⟩
    have HXX := Box.mk (And.intro ht' (And.intro hr' (And.intro hnx hfx)))
    rw [ht', hr', hnx, hfx] at h2
    rw [ht'] at h1
    rw [hr'] at hrl
    have hcr := h2.crow
    rw [hrl] at hcr
    obtain ⟨ca, cc, rfl⟩ := ownsRow_shape hcr
    have hnl : nx.length = K := by rw [← hnx]; exact HKX.out
    have hnr := h2.bs.nrow
    rw [hnl] at hnr
    obtain ⟨na, nc, rfl⟩ := ownsRow_shape hnr
    have hDn : wL.heap.size ∉ Ds := fun h => by have := hdlt _ h; omega
    have HFS := Box.mk (show FS w0 b m n (lefts rs).length rv t' nx fx (.slice na K nc) fv tv2 vs (wL.heap.size :: Ds) W from ⟨h2.bs, h2.hp, h2.he, h2.marks.cons (by omega) hD hDn⟩)
    have HCUR2 := Box.mk h2.cur
    have HCR2 := Box.mk h2.crow
    have HNLT := Box.mk h2.nlt
    have HRL := Box.mk hrl
    have HNL := Box.mk hnl
    have HT1 := Box.mk h1
    have hW0 : w0.heap.size < W.heap.size := h2.hp.lt
    have hWN : wr.heap.size < W.heap.size := h2.cur.lt
    have hWb : b < w0.heap.size := h2.bs.lb
    have HNRW := Box.mk hnr
    have HGS := Box.mk hgood
    clear hIN0 h2 hcr hnr hnx hfx ht' hr' hnl hrl hD hDn hxs hxl hszB hszL hret hbx hbl hbL hbLr hO hgood
    go_upto_region 12 with (fail)
    go_cut [] from 46 to 57 (fun wx => Box (∃ nv', FS w0 b m n (lefts rs).length rv t' (nx ++ [r']) fx nv' fv tv2 (vs ++ [.slice ca (n + 1) cc]) (wL.heap.size :: Ds) wx))
    case first =>
      obtain ⟨WR, hWR⟩ : ∃ WR, WR = W.drew := ⟨_, rfl⟩
      have hbR : Below W.heap.size W WR := by rw [hWR]; exact below_drewN (Below.refl _ _) 1
      have hszR : WR.heap.size = W.heap.size := by rw [hWR]; rfl
      have HSR := Box.mk (show WR.cell? ⟨w0.heap.size, 0, none⟩ = some (.pointer (some ⟨b, 0, none⟩)) ∧ WR.cell? ⟨wr.heap.size, 0, none⟩ = some (.slice ca (n + 1) cc) from ⟨(HFS.out.hp.below hbR HFS.out.hp.lt).cell 0, (HCUR2.out.below hbR HCUR2.out.lt).cell 0⟩)
      have HFR := Box.mk (HFS.out.below hbR)
      have HNR := Box.mk (show WR.ownsRow w0.heap.size 26 1 (.slice na K nc) K vs by have := HFR.out.bs.nrow; rwa [HNL.out] at this)
      have HNB := Box.mk (show some b ≠ (Value.slice na K nc).ownBlock from fun e => by have := (HFR.out.bs.nrow.lt b e.symm).1; omega)
      have HPN := Box.mk (fun w1 v' (hown : w1.ownsRow w0.heap.size 26 1 v' (K + 1) (vs ++ [.slice ca (n + 1) cc])) (hgrow : (WR.alloc (.cells #[.slice ca (n + 1) cc] 26)).grownBy w1 (Value.slice na K nc).ownBlock) => HFR.out.push_next (own_below' HCR2.out hbR) (by rw [HNL.out]; exact hown) hgrow)
      have HSG := Box.mk (fun w1 (hgrow : (WR.alloc (.cells #[.slice ca (n + 1) cc] 26)).grownBy w1 (Value.slice na K nc).ownBlock) => show w1.cell? ⟨w0.heap.size, 0, none⟩ = some (.pointer (some ⟨b, 0, none⟩)) ∧ w1.cell? ⟨wr.heap.size, 0, none⟩ = some (.slice ca (n + 1) cc) from
        ⟨((HFR.out.hp.alloc _).grown hgrow (fun e => own_blk HFR.out.bs.nrow HFR.out.hp (by decide) e.symm)).cell 0, (((HCUR2.out.below hbR HCUR2.out.lt).alloc _).grown hgrow (fun e => by have := HNLT.out _ e.symm; omega)).cell 0⟩)
      have HSC := Box.mk (fun (w1 : World) (h : w1.cell? ⟨w0.heap.size, 0, none⟩ = some (.pointer (some ⟨b, 0, none⟩)) ∧ w1.cell? ⟨wr.heap.size, 0, none⟩ = some (.slice ca (n + 1) cc)) (v : Value) => show (w1.setCell ⟨b, 0, none⟩ v).cell? ⟨w0.heap.size, 0, none⟩ = some (.pointer (some ⟨b, 0, none⟩)) ∧ (w1.setCell ⟨b, 0, none⟩ v).cell? ⟨wr.heap.size, 0, none⟩ = some (.slice ca (n + 1) cc) from
        ⟨(World.cell?_of_block (w := w1) (Below.heap_setCell w1 ⟨b, 0, none⟩ v w0.heap.size (by simp; omega))).trans h.1, (World.cell?_of_block (w := w1) (Below.heap_setCell w1 ⟨b, 0, none⟩ v wr.heap.size (by simp; omega))).trans h.2⟩)
      have HSA := Box.mk (show ∀ o, (WR.alloc o).cell? ⟨w0.heap.size, 0, none⟩ = some (.pointer (some ⟨b, 0, none⟩)) ∧ (WR.alloc o).cell? ⟨wr.heap.size, 0, none⟩ = some (.slice ca (n + 1) cc) from fun o =>
        ⟨(HFR.out.hp.alloc o).cell 0, ((HCUR2.out.below hbR HCUR2.out.lt).alloc o).cell 0⟩)
      obtain ⟨j0, hj, hj0, hj1, hj2⟩ := info_parts sliInfo
      have cb0 : WR.cell? ⟨b, 0, none⟩ = some (.slice na K nc) := (HFR.out.bs.mets.blk.cell 0).trans rfl
      have lbR : b < WR.heap.size := HFR.out.bs.mets.blk.lt
      have lw0 : w0.heap.size ≤ WR.heap.size := Nat.le_of_lt HFR.out.hp.lt
      clear hszR
      refine wp_region_noPanic ?_
      refine wp_region_held_drew (S := fun W' => W'.cell? ⟨w0.heap.size, 0, none⟩ = some (.pointer (some ⟨b, 0, none⟩)) ∧ W'.cell? ⟨wr.heap.size, 0, none⟩ = some (.slice ca (n + 1) cc)) (by kernel_rfl) (by rw [← hWR]; exact HSR.out) (fun _ => ?_)
      rw [← hWR]
      clear hWR hbR
      refine wpAnyH_take (i := 0) (v := ?_) rfl (by kernel_rfl) (by kernel_rfl) (by kernel_rfl) (fun _ _ _ h => h) (Or.inl ⟨by kernel_rfl, ?_⟩) HSR.out ?_
      rotate_left
      · (intro w hw; obtain ⟨q1, q2⟩ := hw; go_simp; with_reducible rfl)
      refine wpAnyH_take (i := 1) (v := ?_) rfl (by kernel_rfl) (by kernel_rfl) (by kernel_rfl) (fun _ _ _ h => h) (Or.inl ⟨by kernel_rfl, ?_⟩) HSR.out ?_
      rotate_left
      · (intro w hw; obtain ⟨q1, q2⟩ := hw; go_simp; with_reducible rfl)
      refine wpAnyH_take (i := 2) (v := ?_) rfl (by kernel_rfl) (by kernel_rfl) (by kernel_rfl) (fun _ _ _ h => h) (Or.inl ⟨by kernel_rfl, ?_⟩) HSR.out ?_
      rotate_left
      · first | (intro w _; go_simp; done) | (intro w _; go_simp; with_reducible rfl)
      refine wpAnyH_take (i := 3) (v := ?_) rfl (by kernel_rfl) (by kernel_rfl) (by kernel_rfl) (fun _ _ _ h => h) (Or.inl ⟨by kernel_rfl, ?_⟩) HSR.out ?_
      rotate_left
      · first | (intro w _; go_simp; done) | (intro w _; go_simp; with_reducible rfl)
      refine wpAnyH_take (i := 4) (v := ?_) rfl (by kernel_rfl) (by kernel_rfl) (by kernel_rfl) (fun _ _ _ h => h) (Or.inl ⟨by kernel_rfl, ?_⟩) HSR.out ?_
      rotate_left
      · first | (intro w _; go_simp; done) | (intro w _; go_simp; with_reducible rfl)
      refine wpAnyH_take (i := 6) (v := ?_) rfl (by kernel_rfl) (by kernel_rfl) (by kernel_rfl) (fun _ _ _ h => h) (Or.inl ⟨by kernel_rfl, ?_⟩) HSR.out ?_
      rotate_left
      · (intro w hw; obtain ⟨q1, q2⟩ := hw; go_simp; with_reducible rfl)
      refine wpAnyH_ready (rs := [5, 7]) (by kernel_rfl) (by simp) (AllReadyH.cons rfl (fun KK hKK => ?_) (AllReadyH.cons rfl (fun KK hKK => ?_) AllReadyH.nil))
      · go_simp
        refine hKK.out _ _ HSR.out (fun _ => ?_)
        clear hKK KK
        refine wpAnyH_ready (rs := [7]) (by kernel_rfl) (by simp) (AllReadyH.cons rfl (fun KK hKK => ?_) AllReadyH.nil)
        go_simp
        refine hKK.out _ _ (HSA.out _) (fun _ => ?_)
        clear hKK KK
        refine wpAnyH_ready (rs := [8]) (by kernel_rfl) (by simp) (AllReadyH.cons rfl (fun KK hKK => ?_) AllReadyH.nil)
        refine step_append rfl _ _ 22 rfl w0.heap.size 26 j0 (.slice none 0 0) 1 24 Tryz.underlying22 hj hj0 hj1 hj2 rfl (by decide) (.slice na K nc) _ _ (by kernel_rfl) (HNR.out.alloc _) ⟨WR.heap.size, 0, none⟩ 1 1 [.slice ca (n + 1) cc] (by kernel_rfl) rfl (cell_one_new _ _ _) (by simp [Value.oneCell']) (by unfold maxLen; omega) (by omega) (by simp; omega) ?_
        intro v' w1 hown' hgrow _ hat
        obtain ⟨g', cap', rfl⟩ := ownsRow_succ hown'
        have HF1 := Box.mk (HPN.out w1 _ hown' hgrow)
        have hv1 := (HFR.out.bs.mets.blk.alloc (.cells #[.slice ca (n + 1) cc] 26)).grown hgrow HNB.out
        have c0' := (hv1.cell 0).trans (show _ = some (Value.slice na K nc) from rfl)
        have f0' := hv1.frozen 0
        have HS1 := Box.mk (HSG.out w1 hgrow)
        have lb1 := hv1.lt
        clear hown' hgrow hat hv1
        refine hKK.out _ _ HS1.out (fun _ => ?_)
        clear hKK KK
        refine wpAnyH_take (i := 9) (v := ?_) rfl (by kernel_rfl) (by kernel_rfl) (by kernel_rfl) (fun _ _ _ h => h) (Or.inl ⟨by kernel_rfl, ?_⟩) HS1.out ?_
        rotate_left
        · first | (intro w _; go_simp; done) | (intro w _; go_simp; with_reducible rfl)
        refine wpAnyH_take (i := 10) (v := ?_) rfl (by kernel_rfl) (by kernel_rfl) (by kernel_rfl) (fun _ _ _ h => h) (Or.inl ⟨by kernel_rfl, ?_⟩) HS1.out ?_
        rotate_left
        · first | (intro w _; go_simp; done) | (intro w _; go_simp; with_reducible rfl)
        refine wpAnyH_take (i := 11) (v := ?_) rfl (by kernel_rfl) (by kernel_rfl) (by kernel_rfl) (fun _ _ _ h => h) (Or.inl ⟨by kernel_rfl, ?_⟩) HS1.out ?_
        rotate_left
        · first | (intro w _; go_simp; done) | (intro w _; go_simp; with_reducible rfl)
        refine wpAnyH_ready (rs := [12]) (by kernel_rfl) (by simp) (AllReadyH.cons rfl (fun KK hKK => ?_) AllReadyH.nil)
        go_simp
        refine hKK.out _ _ (HSC.out _ HS1.out _) (fun _ => ?_)
        clear hKK KK
        refine wpAnyH_done (by kernel_rfl) ?_ _
        refine NoPanic.normal ?_
        go_wp2_with fail
        go_meet
        exact ⟨⟨_, HF1.out⟩⟩
      · go_simp
        refine hKK.out _ _ (HSA.out _) (fun _ => ?_)
        clear hKK KK
        refine wpAnyH_ready (rs := [5]) (by kernel_rfl) (by simp) (AllReadyH.cons rfl (fun KK hKK => ?_) AllReadyH.nil)
        go_simp
        refine hKK.out _ _ (HSA.out _) (fun _ => ?_)
        clear hKK KK
        refine wpAnyH_ready (rs := [8]) (by kernel_rfl) (by simp) (AllReadyH.cons rfl (fun KK hKK => ?_) AllReadyH.nil)
        refine step_append rfl _ _ 22 rfl w0.heap.size 26 j0 (.slice none 0 0) 1 24 Tryz.underlying22 hj hj0 hj1 hj2 rfl (by decide) (.slice na K nc) _ _ (by kernel_rfl) (HNR.out.alloc _) ⟨WR.heap.size, 0, none⟩ 1 1 [.slice ca (n + 1) cc] (by kernel_rfl) rfl (cell_one_new _ _ _) (by simp [Value.oneCell']) (by unfold maxLen; omega) (by omega) (by simp; omega) ?_
        intro v' w1 hown' hgrow _ hat
        obtain ⟨g', cap', rfl⟩ := ownsRow_succ hown'
        have HF1 := Box.mk (HPN.out w1 _ hown' hgrow)
        have hv1 := (HFR.out.bs.mets.blk.alloc (.cells #[.slice ca (n + 1) cc] 26)).grown hgrow HNB.out
        have c0' := (hv1.cell 0).trans (show _ = some (Value.slice na K nc) from rfl)
        have f0' := hv1.frozen 0
        have HS1 := Box.mk (HSG.out w1 hgrow)
        have lb1 := hv1.lt
        clear hown' hgrow hat hv1
        refine hKK.out _ _ HS1.out (fun _ => ?_)
        clear hKK KK
        refine wpAnyH_take (i := 9) (v := ?_) rfl (by kernel_rfl) (by kernel_rfl) (by kernel_rfl) (fun _ _ _ h => h) (Or.inl ⟨by kernel_rfl, ?_⟩) HS1.out ?_
        rotate_left
        · first | (intro w _; go_simp; done) | (intro w _; go_simp; with_reducible rfl)
        refine wpAnyH_take (i := 10) (v := ?_) rfl (by kernel_rfl) (by kernel_rfl) (by kernel_rfl) (fun _ _ _ h => h) (Or.inl ⟨by kernel_rfl, ?_⟩) HS1.out ?_
        rotate_left
        · first | (intro w _; go_simp; done) | (intro w _; go_simp; with_reducible rfl)
        refine wpAnyH_take (i := 11) (v := ?_) rfl (by kernel_rfl) (by kernel_rfl) (by kernel_rfl) (fun _ _ _ h => h) (Or.inl ⟨by kernel_rfl, ?_⟩) HS1.out ?_
        rotate_left
        · first | (intro w _; go_simp; done) | (intro w _; go_simp; with_reducible rfl)
        refine wpAnyH_ready (rs := [12]) (by kernel_rfl) (by simp) (AllReadyH.cons rfl (fun KK hKK => ?_) AllReadyH.nil)
        go_simp
        refine hKK.out _ _ (HSC.out _ HS1.out _) (fun _ => ?_)
        clear hKK KK
        refine wpAnyH_done (by kernel_rfl) ?_ _
        refine NoPanic.normal ?_
        go_wp2_with fail
        go_meet
        exact ⟨⟨_, HF1.out⟩⟩
    case rest =>
      obtain ⟨nv', hfs⟩ := hcut.out
      clear hcut
      have hS' : t'[K]? = some S := by
        rw [← HXX.out.1]
        exact D.pre_get (D.row_pre (lefts rs) n S (D.build (lefts rs) n K).todo (n + 1)) HS.out
      have HS' := Box.mk hS'
      have hKt : K < t'.length := (List.getElem?_eq_some_iff.1 hS').1
      have hfw := hfs.bs.frow
      obtain ⟨fa, fc, rfl⟩ := ownsRow_shape hfw
      have hfl : fx.length ≤ 300 := by
        have h9 := D.build_len (lefts rs) n K
        rw [HXX.out.2.2.1, HXX.out.2.2.2, HNL.out] at h9
        omega
      have htw := hfs.bs.mets.row
      obtain ⟨tk2, htk2⟩ : ∃ q, t'.length = q + 1 := ⟨t'.length - 1, by omega⟩
      rw [htk2] at htw
      obtain ⟨g2, tc2, rfl⟩ := ownsRow_succ htw
      rw [← htk2] at hfs htw
      have HFC := Box.mk hfs
      clear hfs hfw htw htk2 hS'
      go_upto_region 13 with (fail)
      have HEND := Box.mk (fun fv' W' (h : FS w0 b m n (lefts rs).length rv t' (nx ++ [r']) (fx ++ [D.doneTo (lefts rs) S rs.length]) nv' fv' (.slice (some ⟨g2, 0, none⟩) t'.length tc2) (vs ++ [.slice ca (n + 1) cc]) (wL.heap.size :: Ds) W') => show LS w0 b m n rv (lefts rs) (K + 1) (wL.heap.size :: Ds) W' by
        have e := HGO.out
        rw [HXX.out.1, HXX.out.2.1, HXX.out.2.2.1, HXX.out.2.2.2, lefts_len] at e
        unfold LS
        rw [e]
        exact ⟨by simp only [List.length_append, List.length_cons, List.length_nil]; rw [HNL.out], HT1.out, ⟨_, _, _, _, h.bs⟩, h.hp, h.he, h.marks⟩)
      obtain ⟨WR, hWR⟩ : ∃ WR, WR = wc.drew := ⟨_, rfl⟩
      have hbR : Below wc.heap.size wc WR := by rw [hWR]; exact below_drewN (Below.refl _ _) 1
      have HFR := Box.mk (HFC.out.below hbR)
      have HFW := Box.mk HFR.out.bs.frow
      have HIK2 := Box.mk (show (Tryz.prog.info? 92).map (·.size) = some (keyL S).length by rw [keyInfo, keyL_len S hSl])
      have lbR : b < WR.heap.size := HFR.out.bs.mets.blk.lt
      have lw0 : w0.heap.size < WR.heap.size := HFR.out.hp.lt
      have cb1 : WR.cell? ⟨b, 1, none⟩ = some (.slice fa fx.length fc) := (HFR.out.bs.mets.blk.cell 1).trans rfl
      have HSB := Box.mk (fun W' (h : Below WR.heap.size WR W') => show W'.cell? ⟨w0.heap.size, 0, none⟩ = some (.pointer (some ⟨b, 0, none⟩)) ∧ W'.cell? ⟨b, 5, none⟩ = some (.slice (some ⟨g2, 0, none⟩) t'.length tc2) ∧ W'.rangeAt g2 (K * 40) (keyL S) from
        ⟨(HFR.out.hp.below h lw0).cell 0, (HFR.out.bs.mets.blk.below h lbR).cell 5, flat_range (own_below' HFR.out.bs.mets.row h) (fun s hs => by have := HFR.out.bs.mets.fine.len s hs; rw [lefts_len] at this; omega) HS'.out⟩)
      have HSR := Box.mk (HSB.out WR (Below.refl _ _))
      have HNB := Box.mk (show some b ≠ (Value.slice fa fx.length fc).ownBlock from fun e => by have := (HFW.out.lt b e.symm).1; omega)
      have HSG := Box.mk (fun (w5 : World) (h : Below WR.heap.size WR w5) (w1 : World) (hgrow : (w5.alloc (.cells #[.int .i64 (D.doneTo (lefts rs) S rs.length : Nat)] 2)).grownBy w1 (Value.slice fa fx.length fc).ownBlock) => show w1.cell? ⟨w0.heap.size, 0, none⟩ = some (.pointer (some ⟨b, 0, none⟩)) ∧ w1.cell? ⟨b, 5, none⟩ = some (.slice (some ⟨g2, 0, none⟩) t'.length tc2) ∧ w1.rangeAt g2 (K * 40) (keyL S) from
        ⟨(((HFR.out.hp.below h lw0).alloc _).grown hgrow (fun e => own_blk HFW.out HFR.out.hp (by decide) e.symm)).cell 0, (((HFR.out.bs.mets.blk.below h lbR).alloc _).grown hgrow HNB.out).cell 5,
          flat_range (((own_below' HFR.out.bs.mets.row h).alloc _).kept hgrow (.inr (fun e => own_ne HFR.out.bs.mets.row HFW.out (by decide) (g := g2) rfl (e.symm.trans rfl)))) (fun s hs => by have := HFR.out.bs.mets.fine.len s hs; rw [lefts_len] at this; omega) HS'.out⟩)
      have HSC := Box.mk (fun (w1 : World) (h : w1.cell? ⟨w0.heap.size, 0, none⟩ = some (.pointer (some ⟨b, 0, none⟩)) ∧ w1.cell? ⟨b, 5, none⟩ = some (.slice (some ⟨g2, 0, none⟩) t'.length tc2) ∧ w1.rangeAt g2 (K * 40) (keyL S)) (v : Value) => show (w1.setCell ⟨b, 1, none⟩ v).cell? ⟨w0.heap.size, 0, none⟩ = some (.pointer (some ⟨b, 0, none⟩)) ∧ (w1.setCell ⟨b, 1, none⟩ v).cell? ⟨b, 5, none⟩ = some (.slice (some ⟨g2, 0, none⟩) t'.length tc2) ∧ (w1.setCell ⟨b, 1, none⟩ v).rangeAt g2 (K * 40) (keyL S) from
        ⟨(World.cell?_of_block (w := w1) (Below.heap_setCell w1 ⟨b, 1, none⟩ v w0.heap.size (by simp; omega))).trans h.1, by rw [cell_other w1 b 1 5 v (by omega)]; exact h.2.1,
          fun j u hu => (World.cell?_of_block (w := w1) (Below.heap_setCell w1 ⟨b, 1, none⟩ v g2 (by have := (HFR.out.bs.mets.row.lt g2 rfl).1; simp; omega))).trans (h.2.2 j u hu)⟩)
      have HPF := Box.mk (fun (w5 : World) (h : Below WR.heap.size WR w5) w1 v' (hown : w1.ownsRow w0.heap.size 2 1 v' (fx.length + 1) (fx.map natV ++ [natV (D.doneTo (lefts rs) S rs.length)])) (hgrow : (w5.alloc (.cells #[.int .i64 (D.doneTo (lefts rs) S rs.length : Nat)] 2)).grownBy w1 (Value.slice fa fx.length fc).ownBlock) => (HFR.out.below h).push_fits hown hgrow)
      have HDN := Box.mk (fun W' (h : Below WR.heap.size WR W') => by
        have hb := HHO.out.now (HFR.out.below h).bs.turns
        exact bdone_any A B b _ _ rv n m _ rs S W' (HFR.out.below h).bs.mets.blk (HHO.out.rules.below hb) hl hr (HGS.out) (HHO.out.e.below (hb.mono HHO.out.hB)) (Nat.le_trans HHO.out.hB hb.size))
      obtain ⟨i0, hi, hi0, hi1, hi2⟩ := info_parts i64_info
      refine wp_region_noPanic ?_
      refine wp_region_held_drew (S := fun W' => W'.cell? ⟨w0.heap.size, 0, none⟩ = some (.pointer (some ⟨b, 0, none⟩)) ∧ W'.cell? ⟨b, 5, none⟩ = some (.slice (some ⟨g2, 0, none⟩) t'.length tc2) ∧ W'.rangeAt g2 (K * 40) (keyL S)) (by kernel_rfl) (by rw [← hWR]; exact HSR.out) (fun _ => ?_)
      rw [← hWR]
      clear hWR hbR
      refine wpAnyH_take (i := 0) (v := ?_) rfl (by kernel_rfl) (by kernel_rfl) (by kernel_rfl) (fun _ _ _ h => h) (Or.inl ⟨by kernel_rfl, ?_⟩) HSR.out ?_
      rotate_left
      · (intro w hw; obtain ⟨q1, q2, q3⟩ := hw; go_simp; with_reducible rfl)
      refine wpAnyH_take (i := 1) (v := ?_) rfl (by kernel_rfl) (by kernel_rfl) (by kernel_rfl) (fun _ _ _ h => h) (Or.inl ⟨by kernel_rfl, ?_⟩) HSR.out ?_
      rotate_left
      · (intro w hw; obtain ⟨q1, q2, q3⟩ := hw; go_simp; with_reducible rfl)
      refine wpAnyH_take (i := 2) (v := ?_) rfl (by kernel_rfl) (by kernel_rfl) (by kernel_rfl) (fun _ _ _ h => h) (Or.inl ⟨by kernel_rfl, ?_⟩) HSR.out ?_
      rotate_left
      · first | (intro w _; go_simp; done) | (intro w _; go_simp; with_reducible rfl)
      refine wpAnyH_take (i := 3) (v := ?_) rfl (by kernel_rfl) (by kernel_rfl) (by kernel_rfl) (fun _ _ _ h => h) (Or.inl ⟨by kernel_rfl, ?_⟩) HSR.out ?_
      rotate_left
      · first | (intro w _; go_simp; done) | (intro w _; go_simp; with_reducible rfl)
      refine wpAnyH_take (i := 4) (v := ?_) rfl (by kernel_rfl) (by kernel_rfl) (by kernel_rfl) (fun _ _ _ h => h) (Or.inl ⟨by kernel_rfl, ?_⟩) HSR.out ?_
      rotate_left
      · first | (intro w _; go_simp; done) | (intro w _; go_simp; with_reducible rfl)
      refine wpAnyH_take (i := 6) (v := ?_) rfl (by kernel_rfl) (by kernel_rfl) (by kernel_rfl) (fun _ _ _ h => h) (Or.inl ⟨by kernel_rfl, ?_⟩) HSR.out ?_
      rotate_left
      · (intro w hw; obtain ⟨q1, q2, q3⟩ := hw; go_simp; with_reducible rfl)
      refine wpAnyH_take (i := 7) (v := ?_) rfl (by kernel_rfl) (by kernel_rfl) (by kernel_rfl) (fun _ _ _ h => h) (Or.inl ⟨by kernel_rfl, ?_⟩) HSR.out ?_
      rotate_left
      · (intro w hw; obtain ⟨q1, q2, q3⟩ := hw; go_simp; with_reducible rfl)
      refine wpAnyH_take (i := 8) (v := ?_) rfl (by kernel_rfl) (by kernel_rfl) (by kernel_rfl) (fun _ _ _ h => h) (Or.inl ⟨by kernel_rfl, ?_⟩) HSR.out ?_
      rotate_left
      · first | (intro w _; go_simp; done) | (intro w _; go_simp; with_reducible rfl)
      refine wpAnyH_take (i := 9) (v := ?_) rfl (by kernel_rfl) (by kernel_rfl) (by kernel_rfl) (fun _ _ _ h => h) (Or.inl ⟨by kernel_rfl, ?_⟩) HSR.out ?_
      rotate_left
      · first | (intro w _; go_simp; done) | (intro w _; go_simp; with_reducible rfl)
      refine wpAnyH_take (i := 10) (v := ?_) rfl (by kernel_rfl) (by kernel_rfl) (by kernel_rfl) (fun _ _ _ h => h) (Or.inl ⟨by kernel_rfl, ?_⟩) HSR.out ?_
      rotate_left
      · (intro w hw; obtain ⟨q1, q2, q3⟩ := hw; go_simp; with_reducible rfl)
      refine wpAnyH_take (i := 11) (v := ?_) rfl (by kernel_rfl) (by kernel_rfl) (by kernel_rfl) (fun _ _ _ h => h) (Or.inl ⟨by kernel_rfl, ?_⟩) HSR.out ?_
      rotate_left
      · first | (intro w _; go_simp; done) | (intro w _; go_simp; with_reducible rfl)
      refine wpAnyH_take (i := 12) (v := ?_) rfl (by kernel_rfl) (by kernel_rfl) (by kernel_rfl) (fun _ _ _ h => h) (Or.inl ⟨by kernel_rfl, ?_⟩) HSR.out ?_
      rotate_left
      · first | (intro w _; go_simp; done) | (intro w _; go_simp; with_reducible rfl)
      refine wpAnyH_take (i := 13) (v := .agg (keyC S)) rfl (by kernel_rfl) (by kernel_rfl) (by kernel_rfl) (fun _ _ _ h => h) (yieldsIf_load_mid (by kernel_rfl) 92 _ rfl g2 (K * 40) (by kernel_rfl) (keyL S) _ (fun w hw => hw.2.2) Tryz.underlying92 rfl HIK2.out) HSR.out ?_
      refine wpAnyH_ready (rs := [5, 14]) (by kernel_rfl) (by simp) (AllReadyH.cons rfl (fun KK hKK => ?_) (AllReadyH.cons rfl (fun KK hKK => ?_) AllReadyH.nil))
      · go_simp
        refine hKK.out _ _ HSR.out (fun _ => ?_)
        clear hKK KK
        refine wpAnyH_ready (rs := [14]) (by kernel_rfl) (by simp) (AllReadyH.cons rfl (fun KK hKK => ?_) AllReadyH.nil)
        go_simp
        go_wp2_with (go_at_call 53; refine (HDN.out _ (Below.refl _ _)).mono ?_; rintro e w5 ⟨rfl, hb5⟩)
        have HB5 := Box.mk (show Below WR.heap.size WR w5 from hb5)
        clear hb5
        have hb5s := HB5.out.size
        have cb1' : w5.cell? ⟨b, 1, none⟩ = some (.slice fa fx.length fc) := (HB5.out.cell (p := ⟨b, 1, none⟩) lbR).trans cb1
        have lb5 : b < w5.heap.size := Nat.lt_of_lt_of_le lbR hb5s
        refine hKK.out _ _ (HSB.out _ HB5.out) (fun _ => ?_)
        clear hKK KK
        refine wpAnyH_ready (rs := [15]) (by kernel_rfl) (by simp) (AllReadyH.cons rfl (fun KK hKK => ?_) AllReadyH.nil)
        go_simp
        refine hKK.out _ _ (HSB.out _ (HB5.out.alloc HB5.out.size _)) (fun _ => ?_)
        clear hKK KK
        refine wpAnyH_ready (rs := [16]) (by kernel_rfl) (by simp) (AllReadyH.cons rfl (fun KK hKK => ?_) AllReadyH.nil)
        refine step_append rfl _ _ 23 rfl w0.heap.size 2 i0 (.int .i64 0) 1 8 Tryz.underlying23 hi hi0 hi1 hi2 rfl (by decide) (.slice fa fx.length fc) _ _ (by kernel_rfl) ((own_below' HFW.out HB5.out).alloc _) ⟨w5.heap.size, 0, none⟩ 1 1 [.int .i64 (D.doneTo (lefts rs) S rs.length : Nat)] (by kernel_rfl) rfl (cell_one_new _ _ _) (by simp [Value.oneCell']) (by unfold maxLen; omega) (by omega) (by simp; omega) ?_
        intro v' w1 hown' hgrow _ hat
        obtain ⟨g', cap', rfl⟩ := ownsRow_succ hown'
        have HF1 := Box.mk (HPF.out w5 HB5.out w1 _ hown' hgrow)
        have hv1 := ((HFR.out.bs.mets.blk.below HB5.out lbR).alloc (.cells #[.int .i64 (D.doneTo (lefts rs) S rs.length : Nat)] 2)).grown hgrow HNB.out
        have c0' := (hv1.cell 1).trans (show _ = some (Value.slice fa fx.length fc) from rfl)
        have f0' := hv1.frozen 1
        have HS1 := Box.mk (HSG.out w5 HB5.out w1 hgrow)
        have lb1 := hv1.lt
        clear hown' hgrow hat hv1
        refine hKK.out _ _ HS1.out (fun _ => ?_)
        clear hKK KK
        refine wpAnyH_take (i := 17) (v := ?_) rfl (by kernel_rfl) (by kernel_rfl) (by kernel_rfl) (fun _ _ _ h => h) (Or.inl ⟨by kernel_rfl, ?_⟩) HS1.out ?_
        rotate_left
        · first | (intro w _; go_simp; done) | (intro w _; go_simp; with_reducible rfl)
        refine wpAnyH_take (i := 18) (v := ?_) rfl (by kernel_rfl) (by kernel_rfl) (by kernel_rfl) (fun _ _ _ h => h) (Or.inl ⟨by kernel_rfl, ?_⟩) HS1.out ?_
        rotate_left
        · first | (intro w _; go_simp; done) | (intro w _; go_simp; with_reducible rfl)
        refine wpAnyH_take (i := 19) (v := ?_) rfl (by kernel_rfl) (by kernel_rfl) (by kernel_rfl) (fun _ _ _ h => h) (Or.inl ⟨by kernel_rfl, ?_⟩) HS1.out ?_
        rotate_left
        · first | (intro w _; go_simp; done) | (intro w _; go_simp; with_reducible rfl)
        refine wpAnyH_ready (rs := [20]) (by kernel_rfl) (by simp) (AllReadyH.cons rfl (fun KK hKK => ?_) AllReadyH.nil)
        go_simp
        refine hKK.out _ _ (HSC.out _ HS1.out _) (fun _ => ?_)
        clear hKK KK
        refine wpAnyH_done (by kernel_rfl) ?_ _
        refine NoPanic.normal ?_
        have HLS := Box.mk (HEND.out _ _ HF1.out)
        go_wp2_with fail
        refine ⟨⟨K + 1, wL.heap.size :: Ds, _, _, _, _, _, _, _, _, _, _, _, _, _, _, _, _, _, _, _, _, _, _, _, _, _, _, _, _, _, _, _, _, _, _, _, _, _, _, _, _, _, _, _, _, _, _, _, _, _, _, _, _, _, _, _, _, _, _, _, _, _, _, _, _, _, _, _, _, _, _, _, _, _, _, HLS.out, rfl⟩, ?_⟩
        simp [intOf]
        omega
      · go_simp
        go_wp2_with (go_at_call 53; refine (HDN.out _ (Below.refl _ _)).mono ?_; rintro e w5 ⟨rfl, hb5⟩)
        have HB5 := Box.mk (show Below WR.heap.size WR w5 from hb5)
        clear hb5
        have hb5s := HB5.out.size
        have cb1' : w5.cell? ⟨b, 1, none⟩ = some (.slice fa fx.length fc) := (HB5.out.cell (p := ⟨b, 1, none⟩) lbR).trans cb1
        have lb5 : b < w5.heap.size := Nat.lt_of_lt_of_le lbR hb5s
        refine hKK.out _ _ (HSB.out _ HB5.out) (fun _ => ?_)
        clear hKK KK
        refine wpAnyH_ready (rs := [5, 15]) (by kernel_rfl) (by simp) (AllReadyH.cons rfl (fun KK hKK => ?_) (AllReadyH.cons rfl (fun KK hKK => ?_) AllReadyH.nil))
        · go_simp
          refine hKK.out _ _ (HSB.out _ HB5.out) (fun _ => ?_)
          clear hKK KK
          refine wpAnyH_ready (rs := [15]) (by kernel_rfl) (by simp) (AllReadyH.cons rfl (fun KK hKK => ?_) AllReadyH.nil)
          go_simp
          refine hKK.out _ _ (HSB.out _ (HB5.out.alloc HB5.out.size _)) (fun _ => ?_)
          clear hKK KK
          refine wpAnyH_ready (rs := [16]) (by kernel_rfl) (by simp) (AllReadyH.cons rfl (fun KK hKK => ?_) AllReadyH.nil)
          refine step_append rfl _ _ 23 rfl w0.heap.size 2 i0 (.int .i64 0) 1 8 Tryz.underlying23 hi hi0 hi1 hi2 rfl (by decide) (.slice fa fx.length fc) _ _ (by kernel_rfl) ((own_below' HFW.out HB5.out).alloc _) ⟨w5.heap.size, 0, none⟩ 1 1 [.int .i64 (D.doneTo (lefts rs) S rs.length : Nat)] (by kernel_rfl) rfl (cell_one_new _ _ _) (by simp [Value.oneCell']) (by unfold maxLen; omega) (by omega) (by simp; omega) ?_
          intro v' w1 hown' hgrow _ hat
          obtain ⟨g', cap', rfl⟩ := ownsRow_succ hown'
          have HF1 := Box.mk (HPF.out w5 HB5.out w1 _ hown' hgrow)
          have hv1 := ((HFR.out.bs.mets.blk.below HB5.out lbR).alloc (.cells #[.int .i64 (D.doneTo (lefts rs) S rs.length : Nat)] 2)).grown hgrow HNB.out
          have c0' := (hv1.cell 1).trans (show _ = some (Value.slice fa fx.length fc) from rfl)
          have f0' := hv1.frozen 1
          have HS1 := Box.mk (HSG.out w5 HB5.out w1 hgrow)
          have lb1 := hv1.lt
          clear hown' hgrow hat hv1
          refine hKK.out _ _ HS1.out (fun _ => ?_)
          clear hKK KK
          refine wpAnyH_take (i := 17) (v := ?_) rfl (by kernel_rfl) (by kernel_rfl) (by kernel_rfl) (fun _ _ _ h => h) (Or.inl ⟨by kernel_rfl, ?_⟩) HS1.out ?_
          rotate_left
          · first | (intro w _; go_simp; done) | (intro w _; go_simp; with_reducible rfl)
          refine wpAnyH_take (i := 18) (v := ?_) rfl (by kernel_rfl) (by kernel_rfl) (by kernel_rfl) (fun _ _ _ h => h) (Or.inl ⟨by kernel_rfl, ?_⟩) HS1.out ?_
          rotate_left
          · first | (intro w _; go_simp; done) | (intro w _; go_simp; with_reducible rfl)
          refine wpAnyH_take (i := 19) (v := ?_) rfl (by kernel_rfl) (by kernel_rfl) (by kernel_rfl) (fun _ _ _ h => h) (Or.inl ⟨by kernel_rfl, ?_⟩) HS1.out ?_
          rotate_left
          · first | (intro w _; go_simp; done) | (intro w _; go_simp; with_reducible rfl)
          refine wpAnyH_ready (rs := [20]) (by kernel_rfl) (by simp) (AllReadyH.cons rfl (fun KK hKK => ?_) AllReadyH.nil)
          go_simp
          refine hKK.out _ _ (HSC.out _ HS1.out _) (fun _ => ?_)
          clear hKK KK
          refine wpAnyH_done (by kernel_rfl) ?_ _
          refine NoPanic.normal ?_
          have HLS := Box.mk (HEND.out _ _ HF1.out)
          go_wp2_with fail
          refine ⟨⟨K + 1, wL.heap.size :: Ds, _, _, _, _, _, _, _, _, _, _, _, _, _, _, _, _, _, _, _, _, _, _, _, _, _, _, _, _, _, _, _, _, _, _, _, _, _, _, _, _, _, _, _, _, _, _, _, _, _, _, _, _, _, _, _, _, _, _, _, _, _, _, _, _, _, _, _, _, _, _, _, _, _, _, HLS.out, rfl⟩, ?_⟩
          simp [intOf]
          omega
        · go_simp
          refine hKK.out _ _ (HSB.out _ (HB5.out.alloc HB5.out.size _)) (fun _ => ?_)
          clear hKK KK
          refine wpAnyH_ready (rs := [5]) (by kernel_rfl) (by simp) (AllReadyH.cons rfl (fun KK hKK => ?_) AllReadyH.nil)
          go_simp
          refine hKK.out _ _ (HSB.out _ (HB5.out.alloc HB5.out.size _)) (fun _ => ?_)
          clear hKK KK
          refine wpAnyH_ready (rs := [16]) (by kernel_rfl) (by simp) (AllReadyH.cons rfl (fun KK hKK => ?_) AllReadyH.nil)
          refine step_append rfl _ _ 23 rfl w0.heap.size 2 i0 (.int .i64 0) 1 8 Tryz.underlying23 hi hi0 hi1 hi2 rfl (by decide) (.slice fa fx.length fc) _ _ (by kernel_rfl) ((own_below' HFW.out HB5.out).alloc _) ⟨w5.heap.size, 0, none⟩ 1 1 [.int .i64 (D.doneTo (lefts rs) S rs.length : Nat)] (by kernel_rfl) rfl (cell_one_new _ _ _) (by simp [Value.oneCell']) (by unfold maxLen; omega) (by omega) (by simp; omega) ?_
          intro v' w1 hown' hgrow _ hat
          obtain ⟨g', cap', rfl⟩ := ownsRow_succ hown'
          have HF1 := Box.mk (HPF.out w5 HB5.out w1 _ hown' hgrow)
          have hv1 := ((HFR.out.bs.mets.blk.below HB5.out lbR).alloc (.cells #[.int .i64 (D.doneTo (lefts rs) S rs.length : Nat)] 2)).grown hgrow HNB.out
          have c0' := (hv1.cell 1).trans (show _ = some (Value.slice fa fx.length fc) from rfl)
          have f0' := hv1.frozen 1
          have HS1 := Box.mk (HSG.out w5 HB5.out w1 hgrow)
          have lb1 := hv1.lt
          clear hown' hgrow hat hv1
          refine hKK.out _ _ HS1.out (fun _ => ?_)
          clear hKK KK
          refine wpAnyH_take (i := 17) (v := ?_) rfl (by kernel_rfl) (by kernel_rfl) (by kernel_rfl) (fun _ _ _ h => h) (Or.inl ⟨by kernel_rfl, ?_⟩) HS1.out ?_
          rotate_left
          · first | (intro w _; go_simp; done) | (intro w _; go_simp; with_reducible rfl)
          refine wpAnyH_take (i := 18) (v := ?_) rfl (by kernel_rfl) (by kernel_rfl) (by kernel_rfl) (fun _ _ _ h => h) (Or.inl ⟨by kernel_rfl, ?_⟩) HS1.out ?_
          rotate_left
          · first | (intro w _; go_simp; done) | (intro w _; go_simp; with_reducible rfl)
          refine wpAnyH_take (i := 19) (v := ?_) rfl (by kernel_rfl) (by kernel_rfl) (by kernel_rfl) (fun _ _ _ h => h) (Or.inl ⟨by kernel_rfl, ?_⟩) HS1.out ?_
          rotate_left
          · first | (intro w _; go_simp; done) | (intro w _; go_simp; with_reducible rfl)
          refine wpAnyH_ready (rs := [20]) (by kernel_rfl) (by simp) (AllReadyH.cons rfl (fun KK hKK => ?_) AllReadyH.nil)
          go_simp
          refine hKK.out _ _ (HSC.out _ HS1.out _) (fun _ => ?_)
          clear hKK KK
          refine wpAnyH_done (by kernel_rfl) ?_ _
          refine NoPanic.normal ?_
          have HLS := Box.mk (HEND.out _ _ HF1.out)
          go_wp2_with fail
          refine ⟨⟨K + 1, wL.heap.size :: Ds, _, _, _, _, _, _, _, _, _, _, _, _, _, _, _, _, _, _, _, _, _, _, _, _, _, _, _, _, _, _, _, _, _, _, _, _, _, _, _, _, _, _, _, _, _, _, _, _, _, _, _, _, _, _, _, _, _, _, _, _, _, _, _, _, _, _, _, _, _, _, _, _, _, _, HLS.out, rfl⟩, ?_⟩
          simp [intOf]
          omega
end Go.Proofs.YtjemdepcaaadiaaGreatDoor

/- THE BUILDER's WORK, WALKED. -/
namespace Go.Proofs.YtjemdepcaaadiaaGreatDoor
open Go.RowKit Go.Shelf
attribute [local go_sem] Oper.semAt_some

set_option maxRecDepth 100000 in
set_option maxHeartbeats 4000000 in
theorem loop_any (A : Nat → Addr) (B : Nat) (Se : List Nat) (hSe : 0 ∈ Se) (b m n : Nat) (rv : Value) (rs : List D.Rule) (wE w0 wr : World) (Q0 : Exit → Act → World → Prop)
    (hO : Old A B Se rv rs b m wE w0) (hLS : LS w0 b m n rv (lefts rs) 0 [] wr) (hl : rs.length ≤ 40) (hr : sideOk rs) (hn : n ≤ 32)
    (hret : ∀ (a : Act) (Ds : List Nat) (W : World), a.defers = Ds.map MarkOf → a.tmps.getD 2 undef = .pointer (some ⟨w0.heap.size + 1, 0, none⟩) → InX w0 A b m (lefts rs) n Ds W → Q0 .ret a W)
    (hexit : ∀ (K : Nat) (Ds : List Nat) (W : World) (s4 s5 s6 s7 s8 s9 s10 s11 s12 s13 s14 s15 s16 s17 s18 s19 s20 s21 s22 s23 s24 s25 s26 s27 s28 s29 s30 s31 s32 s33 s34 s35 s36 s37 s38 s39 s40 s41 s42 s43 s44 s45 s46 s47 s48 s49 s50 s51 s52 s53 s54 s55 s56 s57 s58 s59 s60 s61 s62 s63 s64 s65 s66 s67 s68 s69 s70 s71 s72 s73 s74 s75 s76 s77 : Value), LS w0 b m n rv (lefts rs) K Ds W → (D.build (lefts rs) n K).todo.length ≤ K → Q0 (.exit 0) { tmps := (Value.pointer (some ⟨b, 0, none⟩) :: Value.pointer (some ⟨w0.heap.size, 0, none⟩) :: Value.pointer (some ⟨w0.heap.size + 1, 0, none⟩) :: Value.int .i64 (K : Int) :: s4 :: s5 :: s6 :: s7 :: s8 :: s9 :: s10 :: s11 :: s12 :: s13 :: s14 :: s15 :: s16 :: s17 :: s18 :: s19 :: s20 :: s21 :: s22 :: s23 :: s24 :: s25 :: s26 :: s27 :: s28 :: s29 :: s30 :: s31 :: s32 :: s33 :: s34 :: s35 :: s36 :: s37 :: s38 :: s39 :: s40 :: s41 :: s42 :: s43 :: s44 :: s45 :: s46 :: s47 :: s48 :: s49 :: s50 :: s51 :: s52 :: s53 :: s54 :: s55 :: s56 :: s57 :: s58 :: s59 :: s60 :: s61 :: s62 :: s63 :: s64 :: s65 :: s66 :: s67 :: s68 :: s69 :: s70 :: s71 :: s72 :: s73 :: s74 :: s75 :: s76 :: s77 :: []).toArray, defers := Ds.map MarkOf } W) (s4 s5 s6 s7 s8 s9 s10 s11 s12 s13 s14 s15 s16 s17 s18 s19 s20 s21 s22 s23 s24 s25 s26 s27 s28 s29 s30 s31 s32 s33 s34 s35 s36 s37 s38 s39 s40 s41 s42 s43 s44 s45 s46 s47 s48 s49 s50 s51 s52 s53 s54 s55 s56 s57 s58 s59 s60 s61 s62 s63 s64 s65 s66 s67 s68 s69 s70 s71 s72 s73 s74 s75 s76 s77 : Value) :
    (Code.loop bldLoop).wp Tryz.prog Q0 { tmps := (Value.pointer (some ⟨b, 0, none⟩) :: Value.pointer (some ⟨w0.heap.size, 0, none⟩) :: Value.pointer (some ⟨w0.heap.size + 1, 0, none⟩) :: Value.int .i64 0 :: s4 :: s5 :: s6 :: s7 :: s8 :: s9 :: s10 :: s11 :: s12 :: s13 :: s14 :: s15 :: s16 :: s17 :: s18 :: s19 :: s20 :: s21 :: s22 :: s23 :: s24 :: s25 :: s26 :: s27 :: s28 :: s29 :: s30 :: s31 :: s32 :: s33 :: s34 :: s35 :: s36 :: s37 :: s38 :: s39 :: s40 :: s41 :: s42 :: s43 :: s44 :: s45 :: s46 :: s47 :: s48 :: s49 :: s50 :: s51 :: s52 :: s53 :: s54 :: s55 :: s56 :: s57 :: s58 :: s59 :: s60 :: s61 :: s62 :: s63 :: s64 :: s65 :: s66 :: s67 :: s68 :: s69 :: s70 :: s71 :: s72 :: s73 :: s74 :: s75 :: s76 :: s77 :: []).toArray, defers := [] } wr := by
  refine wp_loop (WI w0 b m n rv (lefts rs)) Wmu ?_ (fun a w hI => ?_)
  · exact ⟨0, [], s4, s5, s6, s7, s8, s9, s10, s11, s12, s13, s14, s15, s16, s17, s18, s19, s20, s21, s22, s23, s24, s25, s26, s27, s28, s29, s30, s31, s32, s33, s34, s35, s36, s37, s38, s39, s40, s41, s42, s43, s44, s45, s46, s47, s48, s49, s50, s51, s52, s53, s54, s55, s56, s57, s58, s59, s60, s61, s62, s63, s64, s65, s66, s67, s68, s69, s70, s71, s72, s73, s74, s75, s76, s77, hLS, rfl⟩
  · obtain ⟨K, hI⟩ := hI
    obtain ⟨Ds, hI⟩ := hI
    obtain ⟨s4, hI⟩ := hI
    obtain ⟨s5, hI⟩ := hI
    obtain ⟨s6, hI⟩ := hI
    obtain ⟨s7, hI⟩ := hI
    obtain ⟨s8, hI⟩ := hI
    obtain ⟨s9, hI⟩ := hI
    obtain ⟨s10, hI⟩ := hI
    obtain ⟨s11, hI⟩ := hI
    obtain ⟨s12, hI⟩ := hI
    obtain ⟨s13, hI⟩ := hI
    obtain ⟨s14, hI⟩ := hI
    obtain ⟨s15, hI⟩ := hI
    obtain ⟨s16, hI⟩ := hI
    obtain ⟨s17, hI⟩ := hI
    obtain ⟨s18, hI⟩ := hI
    obtain ⟨s19, hI⟩ := hI
    obtain ⟨s20, hI⟩ := hI
    obtain ⟨s21, hI⟩ := hI
    obtain ⟨s22, hI⟩ := hI
    obtain ⟨s23, hI⟩ := hI
    obtain ⟨s24, hI⟩ := hI
    obtain ⟨s25, hI⟩ := hI
    obtain ⟨s26, hI⟩ := hI
    obtain ⟨s27, hI⟩ := hI
    obtain ⟨s28, hI⟩ := hI
    obtain ⟨s29, hI⟩ := hI
    obtain ⟨s30, hI⟩ := hI
    obtain ⟨s31, hI⟩ := hI
    obtain ⟨s32, hI⟩ := hI
    obtain ⟨s33, hI⟩ := hI
    obtain ⟨s34, hI⟩ := hI
    obtain ⟨s35, hI⟩ := hI
    obtain ⟨s36, hI⟩ := hI
    obtain ⟨s37, hI⟩ := hI
    obtain ⟨s38, hI⟩ := hI
    obtain ⟨s39, hI⟩ := hI
    obtain ⟨s40, hI⟩ := hI
    obtain ⟨s41, hI⟩ := hI
    obtain ⟨s42, hI⟩ := hI
    obtain ⟨s43, hI⟩ := hI
    obtain ⟨s44, hI⟩ := hI
    obtain ⟨s45, hI⟩ := hI
    obtain ⟨s46, hI⟩ := hI
    obtain ⟨s47, hI⟩ := hI
    obtain ⟨s48, hI⟩ := hI
    obtain ⟨s49, hI⟩ := hI
    obtain ⟨s50, hI⟩ := hI
    obtain ⟨s51, hI⟩ := hI
    obtain ⟨s52, hI⟩ := hI
    obtain ⟨s53, hI⟩ := hI
    obtain ⟨s54, hI⟩ := hI
    obtain ⟨s55, hI⟩ := hI
    obtain ⟨s56, hI⟩ := hI
    obtain ⟨s57, hI⟩ := hI
    obtain ⟨s58, hI⟩ := hI
    obtain ⟨s59, hI⟩ := hI
    obtain ⟨s60, hI⟩ := hI
    obtain ⟨s61, hI⟩ := hI
    obtain ⟨s62, hI⟩ := hI
    obtain ⟨s63, hI⟩ := hI
    obtain ⟨s64, hI⟩ := hI
    obtain ⟨s65, hI⟩ := hI
    obtain ⟨s66, hI⟩ := hI
    obtain ⟨s67, hI⟩ := hI
    obtain ⟨s68, hI⟩ := hI
    obtain ⟨s69, hI⟩ := hI
    obtain ⟨s70, hI⟩ := hI
    obtain ⟨s71, hI⟩ := hI
    obtain ⟨s72, hI⟩ := hI
    obtain ⟨s73, hI⟩ := hI
    obtain ⟨s74, hI⟩ := hI
    obtain ⟨s75, hI⟩ := hI
    obtain ⟨s76, hI⟩ := hI
    obtain ⟨s77, hI⟩ := hI
    obtain ⟨hLS, rfl⟩ := hI
    by_cases hK : K < (D.build (lefts rs) n K).todo.length
    · exact round_any A B Se hSe b m n K rv rs Ds wE w0 w Q0 hO hLS hK hl hr hn hret s4 s5 s6 s7 s8 s9 s10 s11 s12 s13 s14 s15 s16 s17 s18 s19 s20 s21 s22 s23 s24 s25 s26 s27 s28 s29 s30 s31 s32 s33 s34 s35 s36 s37 s38 s39 s40 s41 s42 s43 s44 s45 s46 s47 s48 s49 s50 s51 s52 s53 s54 s55 s56 s57 s58 s59 s60 s61 s62 s63 s64 s65 s66 s67 s68 s69 s70 s71 s72 s73 s74 s75 s76 s77
    · have hX := Box.mk (hexit K Ds w)
      have HLS := Box.mk hLS
      obtain ⟨hk1, hk2, ⟨nv, fv, tv, vs, hBS⟩, hp, he, hM⟩ := hLS
      have h1 := D.build_one (lefts rs) n K
      have c1 : w.cell? ⟨w0.heap.size, 0, none⟩ = some (.pointer (some ⟨b, 0, none⟩)) := (hp.cell 0).trans rfl
      have l1 := hp.lt
      have l5 := hBS.mets.blk.lt
      have HE := Box.mk (show (D.build (lefts rs) n K).todo.length ≤ K by omega)
      obtain ⟨t, ht⟩ : ∃ t, (D.build (lefts rs) n K).todo = t := ⟨_, rfl⟩
      rw [ht] at hBS hK hk2 h1
      obtain ⟨ta, tc, rfl⟩ := ownsRow_shape hBS.mets.row
      have c5 : w.cell? ⟨b, 5, none⟩ = some (.slice ta t.length tc) := (hBS.mets.blk.cell 5).trans rfl
      have hlk : decide (K < t.length) = false := decide_eq_false hK
      clear hk1 hBS hp he hM ht hexit hret hO hK
      unfold WI Wmu
      conv => arg 2; whnf
      go_wp2_with fail
      exact hX.out _ _ _ _ _ _ _ _ _ _ _ _ _ _ _ _ _ _ _ _ _ _ _ _ _ _ _ _ _ _ _ _ _ _ _ _ _ _ _ _ _ _ _ _ _ _ _ _ _ _ _ _ _ _ _ _ _ _ _ _ _ _ _ _ _ _ _ _ _ _ _ _ _ _ HLS.out HE.out

theorem results_cell1 {P : Program} {fn : Func} {p : Tmp} {ty : TypeId} (h : fn.results = #[.cell p ty]) (tmps : Array Value) (w : World) (g : Nat) (v : Value) (hp : tmps.getD p undef = .pointer (some ⟨g, 0, none⟩)) (hc : w.cell? ⟨g, 0, none⟩ = some v)
    (ha : (isAgg ty).run P w = .ok false w) : (results fn tmps).run P w = .ok v w := by
  have hp' : tmps[p]?.getD undef = .pointer (some ⟨g, 0, none⟩) := by simpa using hp
  simp [results, h, hp', asAddr, loadVar, ha, hc]

/-- what the builder has made, or which error -/
def buildPost (A : Nat → Addr) (b m n : Nat) (rv : Value) (sd : List D.Side) (wE : World) (e : Ending) (w' : World) : Prop :=
  Below wE.heap.size wE w' ∧ ((D.isFew sd n = true ∧ e = .returned .nilIface ∧ ∃ nv fv tv, (∀ g, nv.ownBlock = some g → wE.heap.size ≤ g) ∧ Bb w' b nv fv rv n m tv ∧ RowsAt w' nv ((D.build sd n 300).next.map fun r => r.map fun x : Nat => (x : Int)) ∧ IntsAt w' fv ((D.build sd n 300).fits.map fun x : Nat => (x : Int))) ∨
    (D.isFew sd n = false ∧ e = .returned (errV A 0)))

set_option maxRecDepth 100000 in
set_option maxHeartbeats 4000000 in
theorem build_any (A : Nat → Addr) (B : Nat) (S : List Nat) (hS : 0 ∈ S) (b m n : Nat) (rv : Value) (rs : List D.Rule) (wE w0 : World) (hO : Old A B S rv rs b m wE w0)
    (hb : Bb w0 b (.slice none 0 0) (.slice none 0 0) rv n m (.slice none 0 0)) (hm : w0.heap[m]? = some (.map #[] 0)) (hbm : b ≠ m) (hl : rs.length ≤ 40) (hr : sideOk rs) (hn : n ≤ 32) :
    Calls Tryz.prog 36 #[.pointer (some ⟨b, 0, none⟩)] w0 (buildPost A b m n rv (lefts rs) wE) := by
  have HO := Box.mk hO
  have HR := Box.mk hr
  obtain ⟨w2, hw2⟩ : ∃ w2, w2 = (w0.alloc (.cells #[.pointer (some ⟨b, 0, none⟩)] 64)).alloc (.cells #[.nilIface] 57) := ⟨_, rfl⟩
  have hbw : Below w0.heap.size w0 w2 := by rw [hw2]; exact ((Below.refl _ _).alloc (Nat.le_refl _) _).alloc (by simp) _
  have hp : Blk w2 w0.heap.size 64 #[.pointer (some ⟨b, 0, none⟩)] := by rw [hw2]; exact (Blk.new w0 _ _).alloc _
  have he : Blk w2 (w0.heap.size + 1) 57 #[.nilIface] := by
    rw [hw2]
    have := Blk.new (w0.alloc (.cells #[.pointer (some ⟨b, 0, none⟩)] 64)) 57 #[.nilIface]
    simpa using this
  have hs2 : w2.heap.size = w0.heap.size + 2 := by rw [hw2]; simp
  have hb2 : Bb w2 b (.slice none 0 0) (.slice none 0 0) rv n m (.slice none 0 0) := hb.below hbw hb.lt
  have hm2 : w2.heap[m]? = some (.map #[] 0) := (hbw.block m (Array.getElem?_eq_some_iff.1 hm).1).trans hm
  have HBS0 := Box.mk (fun W (h : Below w2.heap.size w2 W) => bs_zero (w0 := w0) (k := rs.length) hl (hb2.below h hb2.lt) ((h.block m (Array.getElem?_eq_some_iff.1 hm2).1).trans hm2) hbm (hbw.trans (h.mono hbw.size)) hb.lt (Array.getElem?_eq_some_iff.1 hm).1)
  have HOW := Box.mk (fun W (h : Turns (fun q => q = b ∨ q = m) w0 W) => hO.now h)
  have HEACH := Box.mk (fun W (h : Below w2.heap.size w2 W) => first_all (m := m) ((HBS0.out W h).mets.blk) (hO.rules.below (hO.now (HBS0.out W h).turns)) (hO.e.below ((hO.now (HBS0.out W h).turns).mono hO.hB)) (Nat.le_trans hO.hB (hO.now (HBS0.out W h).turns).size) hr hl)
  have HNUM := Box.mk (fun W (h : Below w2.heap.size w2 W) => number_any w0.heap.size b m _ _ rv n rs.length _ [] (D.firstAll (lefts rs)) W (HBS0.out W h).mets (by rw [D.firstAll_len, lefts_len]) (small_of_good hr (D.good_first _)) (by simp) (Nat.le_trans hbw.size h.size))
  have HP2 := Box.mk hp
  have HE2 := Box.mk he
  have HBW2 := Box.mk hbw
  have HW2 := Box.mk hw2
  have HS2 := Box.mk hs2
  have c1 : w2.cell? ⟨w0.heap.size, 0, none⟩ = some (.pointer (some ⟨b, 0, none⟩)) := (hp.cell 0).trans rfl
  have l1 : w0.heap.size < w2.heap.size := hp.lt
  clear hO hr hbw hp he hb2 hm2 hb hm hw2 hbm hs2
  refine (callsIn_wide (n := 9)).1 (callsIn_of_wp_marks Tryz.func36 rfl trivial (wpIn_wide.2 ?_))
  simp only [Tryz.ntmps36, List.size_toArray, List.length_cons, List.length_nil, Nat.reduceAdd, Nat.reduceSub, Array.replicate_succ, Array.replicate_zero, List.push_toArray, List.append_toArray, List.nil_append, List.cons_append]
  go_upto_region 1 with (fail)
  rw [← HW2.out]
  go_cut [] from 9 to 12 (fun wx => Box (∃ tv, BS w0 b m n rs.length rv (D.build (lefts rs) n 0).todo [] [] (.slice none 0 0) (.slice none 0 0) tv [] wx) ∧ Box (Blk wx w0.heap.size 64 #[.pointer (some ⟨b, 0, none⟩)]) ∧ Box (Blk wx (w0.heap.size + 1) 57 #[.nilIface]))
  case first =>
    go_region_with ((first
      | (go_at_call 49; refine (HEACH.out _ (below_drewN (Below.refl _ _) _)).mono ?_; rintro e w3 ⟨rfl, hb3⟩; have HB3 := Box.mk (show Below w2.heap.size w2 w3 from Below.mono ⟨hb3.os, hb3.tape, hb3.output, hb3.size, hb3.block⟩ (Nat.le_refl _)); have c3 : w3.cell? ⟨w0.heap.size, 0, none⟩ = some (.pointer (some ⟨b, 0, none⟩)) := (HB3.out.cell (p := ⟨w0.heap.size, 0, none⟩) l1).trans c1; clear hb3)
      | (go_at_call 48; refine (HNUM.out _ HB3.out).mono ?_; rintro e w4 hp4; have HN4 := Box.mk hp4; obtain ⟨rfl, -, -⟩ := hp4)))
    all_goals
      have ht3 := HN4.out.2.1
      obtain ⟨tv', hbs⟩ := (HBS0.out w3 HB3.out).number HN4.out
      go_wp2_with fail
      go_meet
      refine ⟨⟨tv', hbs⟩, ⟨ht3.blk (HP2.out.below HB3.out l1) ?_⟩, ⟨ht3.blk (HE2.out.below HB3.out (by have := HS2.out; omega)) ?_⟩⟩
      · have h1 := hbs.lb; have h2 := hbs.lm
        rintro (e | e | e)
        · omega
        · omega
        · simp [Value.ownBlock] at e
      · have h1 := hbs.lb; have h2 := hbs.lm
        rintro (e | e | e)
        · omega
        · omega
        · simp [Value.ownBlock] at e
  case rest =>
    obtain ⟨⟨tv0, hbs0⟩, hp0, he0⟩ := hcut
    have HLS0 := Box.mk (show LS w0 b m n rv (lefts rs) 0 [] wc from ⟨rfl, by simp [D.build], ⟨_, _, _, _, by rw [lefts_len]; exact hbs0⟩, hp0.out, he0.out, Marks.nil _ _⟩)
    clear hbs0 hp0 he0
    clear HBS0 HEACH HNUM HP2 HE2 HBW2 HW2 HS2 c1 l1
    go_wp2_with fail
    refine loop_any A B S hS b m n rv rs wE w0 wc _ HO.out HLS0.out hl HR.out hn (fun a Ds W hd hp hX => ?_) (fun K Ds W _ _ _ _ _ _ _ _ _ _ _ _ _ _ _ _ _ _ _ _ _ _ _ _ _ _ _ _ _ _ _ _ _ _ _ _ _ _ _ _ _ _ _ _ _ _ _ _ _ _ _ _ _ _ _ _ _ _ _ _ _ _ _ _ _ _ _ _ _ _ _ _ _ _ hL hK => ?_) _ _ _ _ _ _ _ _ _ _ _ _ _ _ _ _ _ _ _ _ _ _ _ _ _ _ _ _ _ _ _ _ _ _ _ _ _ _ _ _ _ _ _ _ _ _ _ _ _ _ _ _ _ _ _ _ _ _ _ _ _ _ _ _ _ _ _ _ _ _ _ _ _ _
    · -- there were too many
      show LeavesInM _ _ _ _ a.tmps _ a.defers .returning W
      rw [hd]
      refine leaves_marks Ds W hX.2.2.2 (fun w' ht => ?_)
      have hbe : Blk w' (w0.heap.size + 1) 57 #[errV A 0] := ht.blk hX.2.2.1 (fun h => by
        have h4 := (hX.2.2.2.at' _ h).2
        rw [show W.heap[w0.heap.size + 1]? = _ from hX.2.2.1] at h4
        cases h4)
      refine ⟨_, results_cell1 Tryz.results36 _ w' (w0.heap.size + 1) _ hp ((hbe.cell 0).trans rfl) (Tryz.isAgg57 w'), ?_, .inr ⟨hX.1, rfl⟩⟩
      have h0 := HO.out.now hX.2.1
      exact h0.trans (ht.below h0.size (fun q hq => Nat.le_trans HO.out.bel.size (hX.2.2.2.at' q hq).1))
    · -- these are all
      have HL := Box.mk hL
      obtain ⟨hk1, hk2, ⟨nv, fv, tv, vs, hBS⟩, hp, he, hM⟩ := hL
      have cbe : W.cell? ⟨w0.heap.size + 1, 0, none⟩ = some .nilIface := (he.cell 0).trans rfl
      have fbe := he.frozen 0
      have lbe := he.lt
      have h9 := (D.build_len (lefts rs) n K).2.1
      have HFEW := Box.mk (D.few_end (lefts rs) n (k := K) (by omega) (by omega) hk2)
      have HEND := Box.mk (D.build_end (lefts rs) n (k := K) (by omega) (by omega))
      clear hk1 hk2 hBS hp he hM hK
      clear h9
      go_wp2_with fail
      obtain ⟨hk1, hk2, ⟨nv, fv, tv, vs, hBS⟩, hp, he, hM⟩ := HL.out
      have hTS : Turns (fun q => q = w0.heap.size + 1) W (W.setCell ⟨w0.heap.size + 1, 0, none⟩ .nilIface) := Turns.setCell (own := fun q => q = w0.heap.size + 1) W (p := ⟨w0.heap.size + 1, 0, none⟩) rfl _
      have hM1 := hM.turns hTS (fun q hq e => by
        have h4 := (hM.at' q hq).2
        subst e
        rw [show W.heap[w0.heap.size + 1]? = _ from he] at h4
        cases h4)
      have hb := hBS.lb
      have hm := hBS.lm
      have hBS1 := hBS.keep hTS (by omega) (by omega) (fun g hg e => own_blk hBS.nrow (e ▸ he) (by decide) hg) (fun g hg e => own_blk hBS.frow (e ▸ he) (by decide) hg) (fun g hg e => own_blk hBS.mets.row (e ▸ he) (by decide) hg)
        (fun v hv g hg e => by obtain ⟨r, hr⟩ := hBS.rows_of v hv; exact own_blk hr (e ▸ he) (by decide) hg) (fun q hq e => by omega)
      show LeavesInM _ _ _ _ _ _ (Ds.map MarkOf) .returning _
      refine leaves_marks Ds _ hM1 (fun w' ht => ?_)
      have hbe : Blk w' (w0.heap.size + 1) 57 #[.nilIface] := ht.blk (he.set_ 0 .nilIface) (fun h => by
        have h4 := (hM.at' _ h).2
        rw [show W.heap[w0.heap.size + 1]? = _ from he] at h4
        cases h4)
      have hBS2 := hBS1.keep ht (fun h => by have := (hM.at' _ h).1; omega) (fun h => by have := (hM.at' _ h).1; omega) (fun g hg h => own_mark hBS1.nrow (hM1.at' g h).2 hg) (fun g hg h => own_mark hBS1.frow (hM1.at' g h).2 hg) (fun g hg h => own_mark hBS1.mets.row (hM1.at' g h).2 hg)
        (fun v hv g hg h => by obtain ⟨r, hr⟩ := hBS1.rows_of v hv; exact own_mark hr (hM1.at' g h).2 hg) (fun q hq h => by have := (hM.at' _ h).1; omega)
      refine ⟨_, results_cell1 Tryz.results36 _ w' (w0.heap.size + 1) _ rfl ((hbe.cell 0).trans rfl) (Tryz.isAgg57 w'), HO.out.now hBS2.turns, .inl ⟨HFEW.out, rfl, nv, fv, tv, fun g hg => Nat.le_trans HO.out.bel.size (hBS2.nrow.lt g hg).1, hBS2.mets.blk, ?_⟩⟩
      rw [HEND.out]
      exact hBS2.mach
end Go.Proofs.YtjemdepcaaadiaaGreatDoor

/- RULES' MACHINE, BY THE PROGRAM: Compile; which error is told. -/
namespace Go.Proofs.YtjemdepcaaadiaaGreatDoor
open Go.RowKit Go.Shelf
attribute [local go_sem] Oper.semAt_some

def sentsD : List Nat := [1, 0]
def Ed (A : Nat → Addr) (B : Nat) (w : World) : Prop := Env sentsD 166 A B w
theorem Ed.below {A : Nat → Addr} {B : Nat} {w w' : World} (h : Ed A B w) (hb : Below B w w') : Ed A B w' := Env.below h hb
def dCode (g : Nat) : Int := if g = 1 then 90 else 100

set_option maxHeartbeats 1000000 in
theorem dtold_any (A : Nat → Addr) (B : Nat) (g : Nat) (hg : g ∈ sentsD) (w : World) (hE : Ed A B w) :
    Calls Tryz.prog 26 #[errV A g] w fun e w' => e = .returned (.int .i64 (dCode g)) ∧ w = w' := by
  have h0 := hE.var 1 (by decide)
  have h1 := hE.var 0 (by decide)
  have HI := Box.mk (fun k (hk : k ∈ sentsD) => is_env hE g k hg hk)
  clear hE
  unfold errV
  rcases List.mem_cons.1 hg with rfl | hg
  · go_enter Tryz.func26, Tryz.ntmps26
    go_wp2_with fail
    refine (HI.out 1 (by decide)).mono ?_; rintro e w1 ⟨rfl, rfl⟩
    go_wp2_with fail
    go_ret
    exact ⟨rfl, rfl⟩
  · obtain rfl : g = 0 := by simpa using hg
    go_enter Tryz.func26, Tryz.ntmps26
    go_wp2_with fail
    refine (HI.out 1 (by decide)).mono ?_; rintro e w1 ⟨rfl, rfl⟩
    go_wp2_with fail
    refine (HI.out 0 (by decide)).mono ?_; rintro e w1 ⟨rfl, rfl⟩
    go_wp2_with fail
    go_ret
    exact ⟨rfl, rfl⟩

theorem results_row_tmp {P : Program} {fn : Func} {p u : Tmp} {ty : TypeId} (h : fn.results = #[.cell p ty, .tmp u]) (tmps : Array Value) (w : World) (g : Nat) (t : TypeId) (cs : Array Value) (fr : Nat × Nat) (d : TypeDesc)
    (hp : tmps.getD p undef = .pointer (some ⟨g, 0, none⟩)) (hg : w.heap[g]? = some (.cells cs t fr)) (hu : P.underlying ty = some d) (hd : (match d with | .struct _ | .array _ _ => true | _ => false) = true) (hi : (P.info? ty).map (·.size) = some cs.size) :
    (results fn tmps).run P w = .ok (.tuple #[.agg cs, tmps.getD u undef]) w := by
  rw [results_cell_tmp h, hp]
  simp [asAddr, run_loadVar_row w g t ty cs fr d hg hu hd hi, Result.andThen]
theorem machInfo : (Tryz.prog.info? 25).map (·.size) = some 2 := by kernel_rfl
theorem ints_turn {w w' : World} {v : Value} {xs : List Int} {own : Nat → Prop} (h : IntsAt w v xs) (ht : Turns own w w') (ho : ∀ q, own q → ∀ j x, w.cell? ⟨q, j, none⟩ ≠ some (.int .i64 x)) : IntsAt w' v xs := by
  rcases h with h | ⟨b, off, sp, cap, h1, h2, h3, h4⟩
  · exact .inl h
  · refine .inr ⟨b, off, sp, cap, h1, h2, h3, fun hn => ?_⟩
    obtain ⟨h5, h6, h7⟩ := h4 hn
    obtain ⟨x0, hx0⟩ : ∃ x, xs[0]? = some x := by
      cases xs with
      | nil => exact absurd rfl hn
      | cons x t => exact ⟨x, rfl⟩
    have hb : ¬ own b := fun e => ho b e _ _ (h7 0 x0 hx0)
    exact ⟨h5, Nat.lt_of_lt_of_le h6 ht.size, fun i x hx => ht.cell (h7 i x hx) hb⟩
theorem rows_turn {w w' : World} {v : Value} {rows : List (List Int)} {own : Nat → Prop} (h : RowsAt w v rows) (ht : Turns own w w') (ho : ∀ q, own q → ∀ j x, w.cell? ⟨q, j, none⟩ ≠ some (.int .i64 x)) (hv : ∀ g, v.ownBlock = some g → ¬ own g) : RowsAt w' v rows := by
  rcases h with h | ⟨b, off, sp, cap, h1, h2, h3, h4⟩
  · exact .inl h
  · refine .inr ⟨b, off, sp, cap, h1, h2, h3, fun hn => ?_⟩
    obtain ⟨h5, h6, h7⟩ := h4 hn
    refine ⟨h5, Nat.lt_of_lt_of_le h6 ht.size, fun i r hr => ?_⟩
    obtain ⟨x, hx, hi⟩ := h7 i r hr
    exact ⟨x, ht.cell hx (hv b (by rw [h1]; rfl)), ints_turn hi ht ho⟩
def machB (b : D.Bld) : D.Mach := (b.next.map fun r => r.map fun x : Nat => (x : Int), b.fits.map fun x : Nat => (x : Int))
def machOf (sd : List D.Side) (n : Nat) : D.Mach := machB (D.build sd n 300)
theorem machB_at {w : World} {nv fv : Value} {b : D.Bld} (h1 : RowsAt w nv (b.next.map fun r => r.map fun x : Nat => (x : Int))) (h2 : IntsAt w fv (b.fits.map fun x : Nat => (x : Int))) : MachAt w (.agg #[nv, fv]) (machB b) := ⟨nv, fv, rfl, h1, h2⟩
def compCode (rs : List D.Rule) (n : Int) : Int := if rulesB n rs = true then (if D.isFew (lefts rs) n.toNat = true then 0 else 100) else 90
def compM (rs : List D.Rule) (n : Int) : D.Mach := if (rulesB n rs && D.isFew (lefts rs) n.toNat) = true then machOf (lefts rs) n.toNat else ([], [])
def compPost (rs : List D.Rule) (n : Int) (w : World) (e : Ending) (w' : World) : Prop := Below w.heap.size w w' ∧ ∃ mv, e = .returned (.tuple #[mv, .int .i64 (compCode rs n)]) ∧ MachAt w' mv (compM rs n)
theorem mach_zero (w : World) : MachAt w (.agg #[.slice none 0 0, .slice none 0 0]) ([], []) := ⟨_, _, rfl, RowsAt.nil, IntsAt.nil⟩
theorem rulesB_parts {n : Int} {rs : List D.Rule} (h : rulesB n rs = true) : 1 ≤ n ∧ n ≤ 32 ∧ rs.length ≤ 40 ∧ sideOk rs := by
  unfold rulesB at h
  simp only [Bool.and_eq_true, decide_eq_true_eq] at h
  exact ⟨h.1.1.1, h.1.1.2, h.1.2, fun x hx => rightN_B (ruleB_left (List.all_eq_true.1 h.2 x hx))⟩

theorem comp_build (A : Nat → Addr) (B : Nat) (ao : Option Addr) (rs : List D.Rule) (w1 : World) (nn cap : Nat) (hv : RulesAt w1 (.slice ao rs.length cap) rs) (hE : E A B w1) (hD : Ed A B w1) (hB : B ≤ w1.heap.size) (hl : rs.length ≤ 40) (hr : sideOk rs) (hn : nn ≤ 32) :
    Calls Tryz.prog 36 #[.pointer (some ⟨w1.heap.size + 1, 0, none⟩)] ((w1.alloc (.map #[] 0)).alloc (.cells #[.slice none 0 0, .slice none 0 0, .slice ao rs.length rs.length, .int .i64 nn, .map (some w1.heap.size), .slice none 0 0] 68))
      (buildPost A (w1.heap.size + 1) w1.heap.size nn (.slice ao rs.length rs.length) (lefts rs) w1) := by
  have hb : Below w1.heap.size w1 ((w1.alloc (.map #[] 0)).alloc (.cells #[.slice none 0 0, .slice none 0 0, .slice ao rs.length rs.length, .int .i64 nn, .map (some w1.heap.size), .slice none 0 0] 68)) := ((Below.refl _ _).alloc (Nat.le_refl _) _).alloc (by simp) _
  have hbb := Blk.new (w1.alloc (.map #[] 0)) 68 #[.slice none 0 0, .slice none 0 0, .slice ao rs.length rs.length, .int .i64 nn, .map (some w1.heap.size), .slice none 0 0]
  rw [show (w1.alloc (.map #[] 0)).heap.size = w1.heap.size + 1 by simp] at hbb
  have hm : ((w1.alloc (.map #[] 0)).alloc (.cells #[.slice none 0 0, .slice none 0 0, .slice ao rs.length rs.length, .int .i64 nn, .map (some w1.heap.size), .slice none 0 0] 68)).heap[w1.heap.size]? = some (.map #[] 0) :=
    (Below.heap_alloc _ _ _ (by simp)).trans (heap_alloc_new w1 _)
  have hcl := hv.cap_le
  have ht := hv.take rs.length (cap' := rs.length) (by simp) hcl.1
  rw [List.take_length] at ht
  exact build_any A B sentsD (by decide) (w1.heap.size + 1) w1.heap.size nn _ rs w1 _ ⟨hE, hD, ht, hB, hb, ⟨by omega, by simp⟩, ⟨by omega, by simp; omega⟩⟩ hbb hm (by omega) hl hr hn

set_option maxRecDepth 100000 in
set_option maxHeartbeats 4000000 in
theorem compile_any (A : Nat → Addr) (B : Nat) (v : Value) (rs : List D.Rule) (n : Int) (w : World) (hf : ∀ x ∈ rs, ruleFit x) (hv : RulesAt w v rs) (hz : rs.length ≤ 16777216) (hE : E A B w) (hD : Ed A B w) (hB : B ≤ w.heap.size) :
    Calls Tryz.prog 21 #[v, .int .i64 n] w (compPost rs n w) := by
  have hb0 := alloc_below w (.cells #[.slice none 0 0, .slice none 0 0] 25)
  have HP := Box.mk (rulesRight_any v rs n _ hf (hv.below hb0) hz)
  have HB0 := Box.mk hb0
  have HR := Box.mk (Blk.new w 25 #[.slice none 0 0, .slice none 0 0])
  have HV := Box.mk hv
  have HE := Box.mk hE
  have HD := Box.mk hD
  obtain ⟨ao, cap, rfl⟩ := hv.slice
  obtain ⟨hc1, hc2⟩ := hv.cap_le
  clear hv hE hD hb0
  cases hr : rulesB n rs with
  | false =>
    have HRT := Box.mk hr
    have HC := Box.mk (show compCode rs n = 90 by unfold compCode; rw [hr]; rfl)
    have HM := Box.mk (show compM rs n = ([], []) by unfold compM; rw [hr]; rfl)
    clear hr
    go_enter Tryz.func21, Tryz.ntmps21
    go_wp2_with fail
    refine HP.out.mono ?_; rintro e w1 ⟨rfl, hb1⟩; rw [HRT.out]
    have HB1 := Box.mk (HB0.out.trans (hb1.mono HB0.out.size))
    have HR1 := Box.mk (HR.out.below hb1 HR.out.lt)
    have HD1 := Box.mk (HD.out.below (HB1.out.mono hB))
    have hg := HD1.out.var 1 (by decide)
    have r0 := (HR1.out.cell 0).trans (show _ = some (Value.slice none 0 0) from rfl)
    have r1 := (HR1.out.cell 1).trans (show _ = some (Value.slice none 0 0) from rfl)
    have f0 := HR1.out.frozen 0
    have f1 := HR1.out.frozen 1
    have lr := HR1.out.lt
    have HT := Box.mk (dtold_any A B 1 (by decide) w1 HD1.out)
    unfold errV at HT
    clear hb1
    go_wp2_with fail
    refine HT.out.mono ?_; rintro e w2 ⟨rfl, rfl⟩
    go_wp2_with fail
    exact bodyPost_ret (v := .tuple #[.agg #[.slice none 0 0, .slice none 0 0], .int .i64 90]) (results_row_tmp Tryz.results21 _ _ w.heap.size 25 #[.slice none 0 0, .slice none 0 0] (0, 0) _ rfl ((HR1.out.set_ 0 (.slice none 0 0)).set_ 1 (.slice none 0 0)) Tryz.underlying25 rfl machInfo) rfl
      ⟨(HB1.out.setCell (Nat.le_refl _) _).setCell (Nat.le_refl _) _, _, by rw [HC.out], by rw [HM.out]; exact mach_zero _⟩
  | true =>
    have HRT := Box.mk hr
    obtain ⟨hn1, hn2, hl40, hso⟩ := rulesB_parts hr
    obtain ⟨nn, rfl⟩ := Int.eq_ofNat_of_zero_le (show 0 ≤ n by omega)
    have HSO := Box.mk hso
    clear hr hso
    go_enter Tryz.func21, Tryz.ntmps21
    go_wp2_with fail
    refine HP.out.mono ?_; rintro e w1 ⟨rfl, hb1⟩; rw [HRT.out]
    have HB1 := Box.mk (HB0.out.trans (hb1.mono HB0.out.size))
    have HR1 := Box.mk (HR.out.below hb1 HR.out.lt)
    have hmm := @run_makeMap Tryz.prog
    clear hb1
    go_wp2_with fail
    have HBD := Box.mk (comp_build A B ao rs w1 nn cap (HV.out.below HB1.out) (HE.out.below (HB1.out.mono hB)) (HD.out.below (HB1.out.mono hB)) (Nat.le_trans hB HB1.out.size) hl40 HSO.out (by omega))
    have r0 := (HR1.out.cell 0).trans (show _ = some (Value.slice none 0 0) from rfl)
    refine HBD.out.mono ?_
    rintro e w2 ⟨hb2, (⟨hfew, rfl, nv, fv, tv, hnb, hbb, hra, hia⟩ | ⟨hfew, rfl⟩)⟩
    · have HC := Box.mk (show compCode rs nn = 0 by unfold compCode; rw [HRT.out, Int.toNat_natCast, hfew]; rfl)
      have HM := Box.mk (show compM rs nn = machB (D.build (lefts rs) nn 300) by unfold compM; rw [HRT.out, Int.toNat_natCast, hfew]; rfl)
      generalize D.build (lefts rs) nn 300 = BB at *
      obtain ⟨na, nc, rfl⟩ := hra.slice
      obtain ⟨fa, fc, rfl⟩ := hia.slice
      simp only [List.length_map] at hbb hra hia hnb
      have HR2 := Box.mk (HR1.out.below hb2 HR1.out.lt)
      have HB2 := Box.mk (HB1.out.trans (hb2.mono HB1.out.size))
      have HRA := Box.mk hra
      have HIA := Box.mk hia
      have b0 := (hbb.cell 0).trans (show _ = some (Value.slice na _ nc) from rfl)
      have b1 := (hbb.cell 1).trans (show _ = some (Value.slice fa _ fc) from rfl)
      have lb := hbb.lt
      have q0 := (HR2.out.cell 0).trans (show _ = some (Value.slice none 0 0) from rfl)
      have q1 := (HR2.out.cell 1).trans (show _ = some (Value.slice none 0 0) from rfl)
      have f0 := HR2.out.frozen 0
      have f1 := HR2.out.frozen 1
      have lr := HR2.out.lt
      clear hb2 hbb hra hia hfew r0
      generalize BB.next.length = nl at *
      generalize BB.fits.length = fl at *
      have HNB := Box.mk (show ∀ g, (Value.slice na nl nc).ownBlock = some g → w.heap.size < g from fun g hg => by have h1 := hnb g hg; have h2 := HR1.out.lt; omega)
      clear hnb
      go_wp2_with fail
      have hT := (Turns.setCell (own := fun q => q = w.heap.size) w2 (p := ⟨w.heap.size, 0, none⟩) rfl (.slice na nl nc)).trans (Turns.setCell (own := fun q => q = w.heap.size) _ (p := ⟨w.heap.size, 1, none⟩) rfl (.slice fa fl fc))
      have hno : ∀ q, q = w.heap.size → ∀ j x, w2.cell? ⟨q, j, none⟩ ≠ some (.int .i64 x) := by
        rintro q rfl j x h
        rw [HR2.out.cell j] at h
        match j, h with
        | 0, h => cases h
        | 1, h => cases h
        | j + 2, h => simp at h
      exact bodyPost_ret (v := .tuple #[.agg #[.slice na nl nc, .slice fa fl fc], .int .i64 0]) (results_row_tmp Tryz.results21 _ _ w.heap.size 25 #[.slice na nl nc, .slice fa fl fc] (0, 0) _ rfl ((HR2.out.set_ 0 (.slice na nl nc)).set_ 1 (.slice fa fl fc)) Tryz.underlying25 rfl machInfo) rfl
        ⟨(HB2.out.setCell (Nat.le_refl _) _).setCell (Nat.le_refl _) _, _, by rw [HC.out], by rw [HM.out]; exact machB_at (rows_turn HRA.out hT hno (fun g hg e => by have := HNB.out g hg; omega)) (ints_turn HIA.out hT hno)⟩
    · have HC := Box.mk (show compCode rs nn = 100 by unfold compCode; rw [HRT.out, Int.toNat_natCast, hfew]; rfl)
      have HM := Box.mk (show compM rs nn = ([], []) by unfold compM; rw [HRT.out, Int.toNat_natCast, hfew]; rfl)
      have HR2 := Box.mk (HR1.out.below hb2 HR1.out.lt)
      have HB2 := Box.mk (HB1.out.trans (hb2.mono HB1.out.size))
      have HD2 := Box.mk (HD.out.below (HB2.out.mono hB))
      have q0 := (HR2.out.cell 0).trans (show _ = some (Value.slice none 0 0) from rfl)
      have q1 := (HR2.out.cell 1).trans (show _ = some (Value.slice none 0 0) from rfl)
      have f0 := HR2.out.frozen 0
      have f1 := HR2.out.frozen 1
      have lr := HR2.out.lt
      have HT := Box.mk (dtold_any A B 0 (by decide) w2 HD2.out)
      unfold errV at HT
      unfold errV
      clear hb2 hfew r0
      go_wp2_with fail
      refine HT.out.mono ?_; rintro e w3 ⟨rfl, rfl⟩
      go_wp2_with fail
      exact bodyPost_ret (v := .tuple #[.agg #[.slice none 0 0, .slice none 0 0], .int .i64 100]) (results_row_tmp Tryz.results21 _ _ w.heap.size 25 #[.slice none 0 0, .slice none 0 0] (0, 0) _ rfl ((HR2.out.set_ 0 (.slice none 0 0)).set_ 1 (.slice none 0 0)) Tryz.underlying25 rfl machInfo) rfl
        ⟨(HB2.out.setCell (Nat.le_refl _) _).setCell (Nat.le_refl _) _, _, by rw [HC.out], by rw [HM.out]; exact mach_zero _⟩
end Go.Proofs.YtjemdepcaaadiaaGreatDoor

/- TWO LISTS OF NUMBERS COMPARED: the same or not, by each function that does so. -/
namespace Go.Proofs.YtjemdepcaaadiaaGreatDoor
open Go.RowKit

theorem below_drewN0 (w : World) (n : Nat) : Below w.heap.size w (w.drewN n) := ⟨rfl, rfl, rfl, Nat.le_refl _, fun _ _ => rfl⟩
theorem take_eq_step {xs ys : List Int} {k : Nat} {x : Int} (h : xs.take k = ys.take k) (hx : xs[k]? = some x) (hy : ys[k]? = some x) : xs.take (k + 1) = ys.take (k + 1) := by
  rw [List.take_add_one, List.take_add_one, h, hx, hy]
theorem take_ne_step {xs ys : List Int} {k : Nat} {x y : Int} (hx : xs[k]? = some x) (hy : ys[k]? = some y) (h : x ≠ y) : decide (xs = ys) = false := by
  rw [decide_eq_false_iff_not]
  rintro rfl
  rw [hx] at hy
  exact h (by simpa using hy)
theorem ne_of_len {xs ys : List Int} (h : xs.length ≠ ys.length) : decide (xs = ys) = false := by
  rw [decide_eq_false_iff_not]
  rintro rfl
  exact h rfl

set_option maxHeartbeats 1000000 in
theorem ints_eq (a b : Value) (xs ys : List Int) (w : World) (ha : IntsAt w a xs) (hb : IntsAt w b ys) (hz : xs.length ≤ 16777216) (_hz' : ys.length ≤ 16777216) :
    Calls Tryz.prog 16 #[a, b] w fun e w' => e = .returned (.bool (decide (xs = ys))) ∧ Below w.heap.size w w' := by
  by_cases hlen : xs.length = ys.length
  · have HXA := Box.mk ha
    have HYB := Box.mk hb
    obtain ⟨ao, ca, rfl⟩ := ha.slice
    obtain ⟨bo, cb, hv⟩ := hb.slice
    rw [← hlen] at hv
    subst hv
    have HLEN := Box.mk hlen
    clear ha hb hlen _hz'
    go_enter Tryz.func16, Tryz.ntmps16
    go_wp2
    go_loopw [5] (fun i wr => ∃ k n : Nat, k ≤ xs.length ∧ i = .int .i64 k ∧ wr = w.drewN n ∧ Box (xs.take k = ys.take k)) (fun i _ => xs.length - (intOf i).toNat)
    case atStart => exact ⟨0, 0, by omega, rfl, rfl, ⟨rfl⟩⟩
    case round =>
      obtain ⟨k, n, hk, rfl, rfl, hE⟩ := hrel
      by_cases hlt : k < xs.length
      · obtain ⟨x, hx⟩ : ∃ x, xs[k]? = some x := ⟨_, List.getElem?_eq_getElem hlt⟩
        obtain ⟨y, hy⟩ : ∃ y, ys[k]? = some y := ⟨_, List.getElem?_eq_getElem (by rw [← HLEN.out]; exact hlt)⟩
        obtain ⟨ba, oa, ca', ha0, ha1, ha2, ha3, ha4⟩ := HXA.out.get (by rintro rfl; simp at hlt)
        obtain ⟨rfl, rfl⟩ : ao = some ⟨ba, oa, none⟩ ∧ ca = ca' := by injection ha0 with h1 h2 h3; exact ⟨h1, h3⟩
        obtain ⟨bb, ob, cb', hb0, hb1, hb2, hb3, hb4⟩ := HYB.out.get (by rintro rfl; simp at hy)
        obtain ⟨rfl, rfl⟩ : bo = some ⟨bb, ob, none⟩ ∧ cb = cb' := by injection hb0 with h1 h2 h3; exact ⟨h1, h3⟩
        have c1 := ha4 k x hx
        have c2 := hb4 k y hy
        have HX := Box.mk hx
        have HY := Box.mk hy
        rw [← HLEN.out] at hb1
        unfold maxLen at ha2 hb2
        clear ha0 ha4 hb0 hb4 hx hy
        by_cases hxy : x = y
        · subst hxy
          go_wp2
          go_region
          go_wp2
          go_roundw
          case rel => exact ⟨k + 1, n + 1, hlt, by go_num, rfl, ⟨take_eq_step hE.out HX.out HY.out⟩⟩
          case measure => simp [intOf]; omega
        · have HF := Box.mk (take_ne_step HX.out HY.out hxy)
          have hq : (x == y) = false := beq_eq_false_iff_ne.2 hxy
          go_wp2
          go_region
          go_wp2
          all_goals go_ret
          all_goals exact ⟨ret_bool (by rw [HF.out]), below_drewN0 w (n + 1)⟩
      · obtain rfl : k = xs.length := by omega
        have HT := Box.mk (show decide (xs = ys) = true by rw [decide_eq_true_iff]; have := hE.out; rwa [List.take_length, HLEN.out, List.take_length] at this)
        go_wp2
        go_ret
        exact ⟨ret_bool (by rw [HT.out]), below_drewN0 w n⟩
  · have HF := Box.mk (ne_of_len hlen)
    obtain ⟨ao, ca, rfl⟩ := ha.slice
    obtain ⟨bo, cb, rfl⟩ := hb.slice
    have hq : ((xs.length : Int) == (ys.length : Int)) = false := beq_eq_false_iff_ne.2 (by omega)
    clear ha hb
    go_enter Tryz.func16, Tryz.ntmps16
    go_wp2
    all_goals go_ret
    all_goals exact ⟨ret_bool (by rw [HF.out]), below_drewN0 w 0⟩

set_option maxHeartbeats 1000000 in
theorem sets12_eq (a b : Value) (xs ys : List Int) (w : World) (ha : IntsAt w a xs) (hb : IntsAt w b ys) (hz : xs.length ≤ 16777216) (_hz' : ys.length ≤ 16777216) :
    Calls Tryz.prog 34 #[a, b] w fun e w' => e = .returned (.bool (decide (xs = ys))) ∧ Below w.heap.size w w' := by
  by_cases hlen : xs.length = ys.length
  · have HXA := Box.mk ha
    have HYB := Box.mk hb
    obtain ⟨ao, ca, rfl⟩ := ha.slice
    obtain ⟨bo, cb, hv⟩ := hb.slice
    rw [← hlen] at hv
    subst hv
    have HLEN := Box.mk hlen
    clear ha hb hlen _hz'
    go_enter Tryz.func34, Tryz.ntmps34
    go_wp2
    go_loopw [5] (fun i wr => ∃ k n : Nat, k ≤ xs.length ∧ i = .int .i64 k ∧ wr = w.drewN n ∧ Box (xs.take k = ys.take k)) (fun i _ => xs.length - (intOf i).toNat)
    case atStart => exact ⟨0, 0, by omega, rfl, rfl, ⟨rfl⟩⟩
    case round =>
      obtain ⟨k, n, hk, rfl, rfl, hE⟩ := hrel
      by_cases hlt : k < xs.length
      · obtain ⟨x, hx⟩ : ∃ x, xs[k]? = some x := ⟨_, List.getElem?_eq_getElem hlt⟩
        obtain ⟨y, hy⟩ : ∃ y, ys[k]? = some y := ⟨_, List.getElem?_eq_getElem (by rw [← HLEN.out]; exact hlt)⟩
        obtain ⟨ba, oa, ca', ha0, ha1, ha2, ha3, ha4⟩ := HXA.out.get (by rintro rfl; simp at hlt)
        obtain ⟨rfl, rfl⟩ : ao = some ⟨ba, oa, none⟩ ∧ ca = ca' := by injection ha0 with h1 h2 h3; exact ⟨h1, h3⟩
        obtain ⟨bb, ob, cb', hb0, hb1, hb2, hb3, hb4⟩ := HYB.out.get (by rintro rfl; simp at hy)
        obtain ⟨rfl, rfl⟩ : bo = some ⟨bb, ob, none⟩ ∧ cb = cb' := by injection hb0 with h1 h2 h3; exact ⟨h1, h3⟩
        have c1 := ha4 k x hx
        have c2 := hb4 k y hy
        have HX := Box.mk hx
        have HY := Box.mk hy
        rw [← HLEN.out] at hb1
        unfold maxLen at ha2 hb2
        clear ha0 ha4 hb0 hb4 hx hy
        by_cases hxy : x = y
        · subst hxy
          go_wp2
          go_region
          go_wp2
          go_roundw
          case rel => exact ⟨k + 1, n + 1, hlt, by go_num, rfl, ⟨take_eq_step hE.out HX.out HY.out⟩⟩
          case measure => simp [intOf]; omega
        · have HF := Box.mk (take_ne_step HX.out HY.out hxy)
          have hq : (x == y) = false := beq_eq_false_iff_ne.2 hxy
          go_wp2
          go_region
          go_wp2
          all_goals go_ret
          all_goals exact ⟨ret_bool (by rw [HF.out]), below_drewN0 w (n + 1)⟩
      · obtain rfl : k = xs.length := by omega
        have HT := Box.mk (show decide (xs = ys) = true by rw [decide_eq_true_iff]; have := hE.out; rwa [List.take_length, HLEN.out, List.take_length] at this)
        go_wp2
        go_ret
        exact ⟨ret_bool (by rw [HT.out]), below_drewN0 w n⟩
  · have HF := Box.mk (ne_of_len hlen)
    obtain ⟨ao, ca, rfl⟩ := ha.slice
    obtain ⟨bo, cb, rfl⟩ := hb.slice
    have hq : ((xs.length : Int) == (ys.length : Int)) = false := beq_eq_false_iff_ne.2 (by omega)
    clear ha hb
    go_enter Tryz.func34, Tryz.ntmps34
    go_wp2
    all_goals go_ret
    all_goals exact ⟨ret_bool (by rw [HF.out]), below_drewN0 w 0⟩

set_option maxHeartbeats 1000000 in
theorem lsets12_eq (a b : Value) (xs ys : List Int) (w : World) (ha : IntsAt w a xs) (hb : IntsAt w b ys) (hz : xs.length ≤ 16777216) (_hz' : ys.length ≤ 16777216) :
    Calls Tryz.prog 17 #[a, b] w fun e w' => e = .returned (.bool (decide (xs = ys))) ∧ Below w.heap.size w w' := by
  by_cases hlen : xs.length = ys.length
  · have HXA := Box.mk ha
    have HYB := Box.mk hb
    obtain ⟨ao, ca, rfl⟩ := ha.slice
    obtain ⟨bo, cb, hv⟩ := hb.slice
    rw [← hlen] at hv
    subst hv
    have HLEN := Box.mk hlen
    clear ha hb hlen _hz'
    go_enter Tryz.func17, Tryz.ntmps17
    go_wp2
    go_loopw [5] (fun i wr => ∃ k n : Nat, k ≤ xs.length ∧ i = .int .i64 k ∧ wr = w.drewN n ∧ Box (xs.take k = ys.take k)) (fun i _ => xs.length - (intOf i).toNat)
    case atStart => exact ⟨0, 0, by omega, rfl, rfl, ⟨rfl⟩⟩
    case round =>
      obtain ⟨k, n, hk, rfl, rfl, hE⟩ := hrel
      by_cases hlt : k < xs.length
      · obtain ⟨x, hx⟩ : ∃ x, xs[k]? = some x := ⟨_, List.getElem?_eq_getElem hlt⟩
        obtain ⟨y, hy⟩ : ∃ y, ys[k]? = some y := ⟨_, List.getElem?_eq_getElem (by rw [← HLEN.out]; exact hlt)⟩
        obtain ⟨ba, oa, ca', ha0, ha1, ha2, ha3, ha4⟩ := HXA.out.get (by rintro rfl; simp at hlt)
        obtain ⟨rfl, rfl⟩ : ao = some ⟨ba, oa, none⟩ ∧ ca = ca' := by injection ha0 with h1 h2 h3; exact ⟨h1, h3⟩
        obtain ⟨bb, ob, cb', hb0, hb1, hb2, hb3, hb4⟩ := HYB.out.get (by rintro rfl; simp at hy)
        obtain ⟨rfl, rfl⟩ : bo = some ⟨bb, ob, none⟩ ∧ cb = cb' := by injection hb0 with h1 h2 h3; exact ⟨h1, h3⟩
        have c1 := ha4 k x hx
        have c2 := hb4 k y hy
        have HX := Box.mk hx
        have HY := Box.mk hy
        rw [← HLEN.out] at hb1
        unfold maxLen at ha2 hb2
        clear ha0 ha4 hb0 hb4 hx hy
        by_cases hxy : x = y
        · subst hxy
          go_wp2
          go_region
          go_wp2
          go_roundw
          case rel => exact ⟨k + 1, n + 1, hlt, by go_num, rfl, ⟨take_eq_step hE.out HX.out HY.out⟩⟩
          case measure => simp [intOf]; omega
        · have HF := Box.mk (take_ne_step HX.out HY.out hxy)
          have hq : (x == y) = false := beq_eq_false_iff_ne.2 hxy
          go_wp2
          go_region
          go_wp2
          all_goals go_ret
          all_goals exact ⟨ret_bool (by rw [HF.out]), below_drewN0 w (n + 1)⟩
      · obtain rfl : k = xs.length := by omega
        have HT := Box.mk (show decide (xs = ys) = true by rw [decide_eq_true_iff]; have := hE.out; rwa [List.take_length, HLEN.out, List.take_length] at this)
        go_wp2
        go_ret
        exact ⟨ret_bool (by rw [HT.out]), below_drewN0 w n⟩
  · have HF := Box.mk (ne_of_len hlen)
    obtain ⟨ao, ca, rfl⟩ := ha.slice
    obtain ⟨bo, cb, rfl⟩ := hb.slice
    have hq : ((xs.length : Int) == (ys.length : Int)) = false := beq_eq_false_iff_ne.2 (by omega)
    clear ha hb
    go_enter Tryz.func17, Tryz.ntmps17
    go_wp2
    all_goals go_ret
    all_goals exact ⟨ret_bool (by rw [HF.out]), below_drewN0 w 0⟩

set_option maxHeartbeats 1000000 in
theorem sleq64 (a b : Value) (xs ys : List Int) (w : World) (ha : IntsAt w a xs) (hb : IntsAt w b ys) (hz : xs.length ≤ 16777216) (_hz' : ys.length ≤ 16777216) :
    Calls Tryz.prog 31 #[a, b] w fun e w' => e = .returned (.bool (decide (xs = ys))) ∧ Below w.heap.size w w' := by
  by_cases hlen : xs.length = ys.length
  · have HXA := Box.mk ha
    have HYB := Box.mk hb
    obtain ⟨ao, ca, rfl⟩ := ha.slice
    obtain ⟨bo, cb, hv⟩ := hb.slice
    rw [← hlen] at hv
    subst hv
    have HLEN := Box.mk hlen
    clear ha hb hlen _hz'
    go_enter Tryz.func31, Tryz.ntmps31
    go_wp2
    go_loopw [13] (fun i wr => ∃ k n : Nat, k ≤ xs.length ∧ i = .int .i64 k ∧ wr = w.drewN n ∧ Box (xs.take k = ys.take k)) (fun i _ => xs.length - (intOf i).toNat)
    case atStart => exact ⟨0, 0, by omega, rfl, rfl, ⟨rfl⟩⟩
    case round =>
      obtain ⟨k, n, hk, rfl, rfl, hE⟩ := hrel
      by_cases hlt : k < xs.length
      · obtain ⟨x, hx⟩ : ∃ x, xs[k]? = some x := ⟨_, List.getElem?_eq_getElem hlt⟩
        obtain ⟨y, hy⟩ : ∃ y, ys[k]? = some y := ⟨_, List.getElem?_eq_getElem (by rw [← HLEN.out]; exact hlt)⟩
        obtain ⟨ba, oa, ca', ha0, ha1, ha2, ha3, ha4⟩ := HXA.out.get (by rintro rfl; simp at hlt)
        obtain ⟨rfl, rfl⟩ : ao = some ⟨ba, oa, none⟩ ∧ ca = ca' := by injection ha0 with h1 h2 h3; exact ⟨h1, h3⟩
        obtain ⟨bb, ob, cb', hb0, hb1, hb2, hb3, hb4⟩ := HYB.out.get (by rintro rfl; simp at hy)
        obtain ⟨rfl, rfl⟩ : bo = some ⟨bb, ob, none⟩ ∧ cb = cb' := by injection hb0 with h1 h2 h3; exact ⟨h1, h3⟩
        have c1 := ha4 k x hx
        have c2 := hb4 k y hy
        have HX := Box.mk hx
        have HY := Box.mk hy
        rw [← HLEN.out] at hb1
        unfold maxLen at ha2 hb2
        clear ha0 ha4 hb0 hb4 hx hy
        by_cases hxy : x = y
        · subst hxy
          go_wp2
          go_region
          go_wp2
          go_roundw
          case rel => exact ⟨k + 1, n + 1, hlt, by go_num, rfl, ⟨take_eq_step hE.out HX.out HY.out⟩⟩
          case measure => simp [intOf]; omega
        · have HF := Box.mk (take_ne_step HX.out HY.out hxy)
          have hq : (x == y) = false := beq_eq_false_iff_ne.2 hxy
          go_wp2
          go_region
          go_wp2
          all_goals go_ret
          all_goals exact ⟨ret_bool (by rw [HF.out]), below_drewN0 w (n + 1)⟩
      · obtain rfl : k = xs.length := by omega
        have HT := Box.mk (show decide (xs = ys) = true by rw [decide_eq_true_iff]; have := hE.out; rwa [List.take_length, HLEN.out, List.take_length] at this)
        go_wp2
        go_ret
        exact ⟨ret_bool (by rw [HT.out]), below_drewN0 w n⟩
  · have HF := Box.mk (ne_of_len hlen)
    obtain ⟨ao, ca, rfl⟩ := ha.slice
    obtain ⟨bo, cb, rfl⟩ := hb.slice
    have hq : ((xs.length : Int) == (ys.length : Int)) = false := beq_eq_false_iff_ne.2 (by omega)
    clear ha hb
    go_enter Tryz.func31, Tryz.ntmps31
    go_wp2
    all_goals go_ret
    all_goals exact ⟨ret_bool (by rw [HF.out]), below_drewN0 w 0⟩

set_option maxHeartbeats 1000000 in
theorem sleqint (a b : Value) (xs ys : List Int) (w : World) (ha : IntsAt w a xs) (hb : IntsAt w b ys) (hz : xs.length ≤ 16777216) (_hz' : ys.length ≤ 16777216) :
    Calls Tryz.prog 33 #[a, b] w fun e w' => e = .returned (.bool (decide (xs = ys))) ∧ Below w.heap.size w w' := by
  by_cases hlen : xs.length = ys.length
  · have HXA := Box.mk ha
    have HYB := Box.mk hb
    obtain ⟨ao, ca, rfl⟩ := ha.slice
    obtain ⟨bo, cb, hv⟩ := hb.slice
    rw [← hlen] at hv
    subst hv
    have HLEN := Box.mk hlen
    clear ha hb hlen _hz'
    go_enter Tryz.func33, Tryz.ntmps33
    go_wp2
    go_loopw [13] (fun i wr => ∃ k n : Nat, k ≤ xs.length ∧ i = .int .i64 k ∧ wr = w.drewN n ∧ Box (xs.take k = ys.take k)) (fun i _ => xs.length - (intOf i).toNat)
    case atStart => exact ⟨0, 0, by omega, rfl, rfl, ⟨rfl⟩⟩
    case round =>
      obtain ⟨k, n, hk, rfl, rfl, hE⟩ := hrel
      by_cases hlt : k < xs.length
      · obtain ⟨x, hx⟩ : ∃ x, xs[k]? = some x := ⟨_, List.getElem?_eq_getElem hlt⟩
        obtain ⟨y, hy⟩ : ∃ y, ys[k]? = some y := ⟨_, List.getElem?_eq_getElem (by rw [← HLEN.out]; exact hlt)⟩
        obtain ⟨ba, oa, ca', ha0, ha1, ha2, ha3, ha4⟩ := HXA.out.get (by rintro rfl; simp at hlt)
        obtain ⟨rfl, rfl⟩ : ao = some ⟨ba, oa, none⟩ ∧ ca = ca' := by injection ha0 with h1 h2 h3; exact ⟨h1, h3⟩
        obtain ⟨bb, ob, cb', hb0, hb1, hb2, hb3, hb4⟩ := HYB.out.get (by rintro rfl; simp at hy)
        obtain ⟨rfl, rfl⟩ : bo = some ⟨bb, ob, none⟩ ∧ cb = cb' := by injection hb0 with h1 h2 h3; exact ⟨h1, h3⟩
        have c1 := ha4 k x hx
        have c2 := hb4 k y hy
        have HX := Box.mk hx
        have HY := Box.mk hy
        rw [← HLEN.out] at hb1
        unfold maxLen at ha2 hb2
        clear ha0 ha4 hb0 hb4 hx hy
        by_cases hxy : x = y
        · subst hxy
          go_wp2
          go_region
          go_wp2
          go_roundw
          case rel => exact ⟨k + 1, n + 1, hlt, by go_num, rfl, ⟨take_eq_step hE.out HX.out HY.out⟩⟩
          case measure => simp [intOf]; omega
        · have HF := Box.mk (take_ne_step HX.out HY.out hxy)
          have hq : (x == y) = false := beq_eq_false_iff_ne.2 hxy
          go_wp2
          go_region
          go_wp2
          all_goals go_ret
          all_goals exact ⟨ret_bool (by rw [HF.out]), below_drewN0 w (n + 1)⟩
      · obtain rfl : k = xs.length := by omega
        have HT := Box.mk (show decide (xs = ys) = true by rw [decide_eq_true_iff]; have := hE.out; rwa [List.take_length, HLEN.out, List.take_length] at this)
        go_wp2
        go_ret
        exact ⟨ret_bool (by rw [HT.out]), below_drewN0 w n⟩
  · have HF := Box.mk (ne_of_len hlen)
    obtain ⟨ao, ca, rfl⟩ := ha.slice
    obtain ⟨bo, cb, rfl⟩ := hb.slice
    have hq : ((xs.length : Int) == (ys.length : Int)) = false := beq_eq_false_iff_ne.2 (by omega)
    clear ha hb
    go_enter Tryz.func33, Tryz.ntmps33
    go_wp2
    all_goals go_ret
    all_goals exact ⟨ret_bool (by rw [HF.out]), below_drewN0 w 0⟩
end Go.Proofs.YtjemdepcaaadiaaGreatDoor

/- A NUMBER AS A CLASS OF SO MANY; which machines are right. -/
namespace Go.Proofs.YtjemdepcaaadiaaGreatDoor
open Go.RowKit Go.Shelf
attribute [local go_sem] Oper.semAt_some

/-- a number as a column, of n + 1 -/
def colOf (n : Nat) (c : Int) : Nat := if 0 ≤ c ∧ c < n then c.toNat else n
theorem colOf_le (n : Nat) (c : Int) : colOf n c ≤ n := by unfold colOf; split <;> omega
theorem i64_xor_zero (b : Nat) (hb : b < 9223372036854775808) : bits .xor .i64 0 (b : Int) = (b : Int) := by
  show IntKind.i64.wrap ((BitVec.ofInt 64 (0 : Int) ^^^ BitVec.ofInt 64 (b : Int)).toNat : Int) = _
  rw [BitVec.toNat_xor, ofInt_i64 b hb, show (BitVec.ofInt 64 0).toNat = 0 from rfl, Nat.zero_xor, IntKind.wrap_i64]
  omega
theorem has_all (n : Nat) (c : Int) (h : n ≤ 32) : N.hasC ((2 ^ n - 1 : Nat) : Int) c = decide (0 ≤ c ∧ c < n) := by
  unfold N.hasC
  have h1 : 2 ^ n ≤ 2 ^ 32 := Nat.pow_le_pow_right (by omega) h
  have h2 : 0 < 2 ^ n := Nat.two_pow_pos n
  rw [Bool.eq_iff_iff]
  simp only [Bool.and_eq_true, decide_eq_true_eq, Int.toNat_natCast, Nat.testBit_two_pow_sub_one]
  constructor
  · rintro ⟨⟨⟨⟨-, -⟩, h3⟩, -⟩, h4⟩
    exact ⟨h3, by omega⟩
  · rintro ⟨h3, h4⟩
    exact ⟨⟨⟨⟨by omega, by omega⟩, h3⟩, by omega⟩, by omega⟩

set_option maxHeartbeats 1000000 in
theorem cnot_any (n : Nat) (w : World) (h1 : 1 ≤ n) (h2 : n ≤ 32) :
    Calls Tryz.prog 40 #[.int .i64 0, .int .i64 n] w fun e w' => e = .returned (.int .i64 ((2 ^ n - 1 : Nat) : Int)) ∧ w = w' := by
  have hb : 2 ^ n ≤ 2 ^ 32 := Nat.pow_le_pow_right (by omega) h2
  have hp : 0 < 2 ^ n := Nat.two_pow_pos n
  have HS := Box.mk (show setN (n : Int) 0 = true by rw [show (0 : Int) = ((0 : Nat) : Int) from rfl, setN_nat n 0 h1 h2]; exact decide_eq_true hp)
  have HW := Box.mk (show wrap64 ((2 : Int) ^ n) = (2 : Int) ^ n by rw [pow_cast]; generalize 2 ^ n = z at hb hp ⊢; exact IntWalk.wrap64_in _ (by omega))
  have HW2 := Box.mk (show wrap64 ((2 : Int) ^ n - 1) = ((2 ^ n - 1 : Nat) : Int) by rw [pow_cast]; generalize 2 ^ n = z at hb hp ⊢; rw [show ((z : Int) - 1) = ((z - 1 : Nat) : Int) by omega]; exact IntWalk.wrap64_in _ (by omega))
  have HX := Box.mk (i64_xor_zero (2 ^ n - 1) (by omega))
  clear hb hp
  go_enter Tryz.func40, Tryz.ntmps40
  go_wp2_with (go_at_call 57; refine (crightn_any _ _ _).mono ?_; rintro e w1 ⟨rfl, rfl⟩; rw [HS.out])
  go_ret
  refine ⟨ret_int ?_, rfl⟩
  rw [HW.out, HW2.out, HX.out]

theorem in_any (c : Int) (n : Nat) (w : World) (h1 : 1 ≤ n) (h2 : n ≤ 32) :
    Calls Tryz.prog 25 #[.int .i64 c, .int .i64 n] w fun e w' => e = .returned (.int .i64 (colOf n c)) ∧ w = w' := by
  have HN := Box.mk (cnot_any n w h1 h2)
  have hh := has_all n c h2
  by_cases hc : 0 ≤ c ∧ c < n
  · have HH := Box.mk (hh.trans (decide_eq_true hc))
    have HC := Box.mk (show c = (colOf n c : Int) by unfold colOf; rw [if_pos hc]; omega)
    clear hh hc
    go_enter Tryz.func25, Tryz.ntmps25
    go_wp2_with fail
    refine HN.out.mono ?_; rintro e w1 ⟨rfl, rfl⟩
    go_wp2_with (go_at_call 41; refine (chas_any _ _ _).mono ?_; rintro e w1 ⟨rfl, rfl⟩; rw [HH.out])
    go_ret
    exact ⟨ret_int HC.out, rfl⟩
  · have HH := Box.mk (hh.trans (decide_eq_false hc))
    have HC := Box.mk (show (n : Int) = (colOf n c : Int) by unfold colOf; rw [if_neg hc])
    clear hh hc
    go_enter Tryz.func25, Tryz.ntmps25
    go_wp2_with fail
    refine HN.out.mono ?_; rintro e w1 ⟨rfl, rfl⟩
    go_wp2_with (go_at_call 41; refine (chas_any _ _ _).mono ?_; rintro e w1 ⟨rfl, rfl⟩; rw [HH.out])
    go_ret
    exact ⟨ret_int HC.out, rfl⟩
end Go.Proofs.YtjemdepcaaadiaaGreatDoor

/- THE DOCUMENT's LEAVES OF LAYER 12: the set of one rule, which rules are done, a step, a list's place among lists. -/
namespace Go.Proofs.YtjemdepcaaadiaaGreatDoor
open Go.RowKit Go.Shelf
attribute [local go_sem] Oper.semAt_some

def zs (S : List Nat) : List Int := S.map fun x : Nat => (x : Int)
theorem zs_len (S : List Nat) : (zs S).length = S.length := by simp [zs]
theorem zs_get {S : List Nat} {i x : Nat} (h : S[i]? = some x) : (zs S)[i]? = some (x : Int) := by unfold zs; rw [List.getElem?_map, h]; rfl
theorem zs_inj {S T : List Nat} (h : zs S = zs T) : S = T := by
  unfold zs at h
  exact List.map_inj_right (fun a b h => by omega) |>.1 h
theorem doneTo_le (rs : List D.Side) (S : D.Sets) (k : Nat) (h : k ≤ 40) : D.doneTo rs S k ≤ 1099511627776 := by
  have := D.doneTo_lt rs S k
  have h2 : 2 ^ k ≤ 2 ^ 40 := Nat.pow_le_pow_right (by omega) h
  omega

end Go.Proofs.YtjemdepcaaadiaaGreatDoor

/- THE DOCUMENT's LEAVES OF LAYERS 11 AND 12: a step of a list of sets, a list's place among lists, which rules are right. -/
namespace Go.Proofs.YtjemdepcaaadiaaGreatDoor
open Go.RowKit Go.Shelf
attribute [local go_sem] Oper.semAt_some

theorem pushI64 : Pushes Tryz.prog 23 2 8 := .mk' (z := .int .i64 0) Tryz.underlying23 (by kernel_rfl) rfl
theorem pushInt : Pushes Tryz.prog 26 3 8 := .mk' (z := .int .i64 0) Tryz.underlying26 (by kernel_rfl) rfl

theorem row_ints {w : World} {base n : Nat} {T : TypeId} {v : Value} {S : List Nat} (h : w.ownsRow base T 1 v n (S.map natV)) (hn : n = S.length) : IntsAt w v (zs S) := ints_own h hn
theorem stepAll_take {rs : List D.Side} {S : D.Sets} {c : Int} {k : Nat} (h : k < rs.length) : (D.stepAll rs S c).take (k + 1) = (D.stepAll rs S c).take k ++ [D.stepAt rs S c k] := take_snoc' _ _ _ (D.stepAll_get rs S c k h)

theorem rowsAt_take_place {t : List D.Sets} {s : D.Sets} {k : Nat} (h : s ∉ t.take k) (hk : t[k]? = some s) : D.place t s = k := by
  unfold D.place
  have hlt := (List.getElem?_eq_some_iff.1 hk).1
  have h1 : List.idxOf s t ≤ k := by
    rcases Nat.lt_or_ge k (List.idxOf s t) with h3 | h3
    · exfalso
      unfold List.idxOf at h3
      have h4 := List.not_of_lt_findIdx h3
      rw [(List.getElem?_eq_some_iff.1 hk).2] at h4
      simp at h4
    · exact h3
  rcases Nat.lt_or_ge (List.idxOf s t) k with h2 | h2
  · exfalso
    apply h
    have hm : s ∈ t := List.mem_of_getElem? hk
    have := List.getElem_idxOf (List.idxOf_lt_length_of_mem hm)
    rw [← this]
    rw [List.mem_take_iff_getElem]
    exact ⟨List.idxOf s t, by have := List.idxOf_lt_length_of_mem hm; omega, rfl⟩
  · omega

end Go.Proofs.YtjemdepcaaadiaaGreatDoor

/- WHICH RULES ARE RIGHT: the document's answer. -/
namespace Go.Proofs.YtjemdepcaaadiaaGreatDoor
open Go.RowKit Go.Shelf

theorem rulesB_no {n : Int} {l : List D.Rule} {k : Nat} {x : D.Rule} (h : l[k]? = some x) (hx : ruleB n x = false) : rulesB n l = false := by
  unfold rulesB
  rw [allr_no n l k x h hx]
  simp
end Go.Proofs.YtjemdepcaaadiaaGreatDoor

/- RULES' MACHINE, BY THE DOCUMENT. -/
namespace Go.Proofs.YtjemdepcaaadiaaGreatDoor
open Go.RowKit Go.Shelf
attribute [local go_sem] Oper.semAt_some

theorem pushRowsInt : Pushes Tryz.prog 22 26 24 := .mk' (z := .slice none 0 0) Tryz.underlying22 (by kernel_rfl) rfl
def nvs (L : List (List Nat)) : List (List Value) := L.map fun r => r.map natV
theorem nvs_len (L : List (List Nat)) : (nvs L).length = L.length := by simp [nvs]
theorem nvs_snoc (L : List (List Nat)) (r : List Nat) : nvs (L ++ [r]) = nvs L ++ [r.map natV] := by simp [nvs]
theorem rows_at {W : World} {base : Nat} {E e : TypeId} {v : Value} {vs : List Value} {L : List (List Nat)} (h : (Pc.rows base E e v vs (nvs L)).ok W) : RowsAt W v (L.map zs) := by
  obtain ⟨h0, h1, h2⟩ := h
  have hl : vs.length = L.length := by rw [nvs_len] at h0; simpa using h0
  rcases h1.2 with ⟨h3, h4⟩ | ⟨g, cap, cur, h3, h4, h5, h6, h7, h8, h9⟩
  · refine .inl ⟨h3, ?_⟩
    rw [List.eq_nil_of_length_eq_zero (show L.length = 0 by omega)]; rfl
  · refine .inr ⟨g, 0, none, cap, by rw [h3, List.length_map, hl], by rw [List.length_map]; omega, h7, fun hn => ⟨rfl, (Array.getElem?_eq_some_iff.1 h5).1, fun i r hr => ?_⟩⟩
    rw [List.getElem?_map] at hr
    obtain ⟨r0, h10, rfl⟩ := Option.map_eq_some_iff.1 hr
    obtain ⟨x, hx, hxr, -⟩ := h2 i (r0.map natV) (by unfold nvs; rw [List.getElem?_map, h10]; rfl)
    refine ⟨x, ?_, row_ints hxr (by simp)⟩
    have := h1.cells (g := g) (by rw [h3]; rfl) i x hx
    rw [show (⟨g, 0 + i, none⟩ : Addr) = (⟨g, 0, none⟩ : Addr).add i by unfold Addr.add; by_cases h0 : i = 0 <;> simp [h0]]
    exact this
theorem RowsAt.cap_le {w : World} {ao : Option Addr} {cap n : Nat} {l : List (List Int)} (h : RowsAt w (.slice ao n cap) l) : l.length ≤ cap ∧ cap ≤ 9223372036854775807 := by
  rcases h with ⟨h1, h2⟩ | ⟨b, off, sp, cap', h1, h2, h3, h4⟩
  · injection h1 with _ _ h3; subst h2; subst h3; simp
  · injection h1 with _ _ h5; subst h5; unfold maxLen at h3; omega

theorem firstAll_take {rs : List D.Side} {k : Nat} (h : k < rs.length) : (D.firstAll rs).take (k + 1) = (D.firstAll rs).take k ++ [D.firstAt rs k] := take_snoc' _ _ _ (by unfold D.firstAll; rw [List.getElem?_map, List.getElem?_range h]; rfl)
theorem place_eq_len {t : List D.Sets} {s : D.Sets} (h : D.place t s = t.length) : s ∉ t := fun hm => by have := D.place_lt hm; omega
theorem add_new {t : List D.Sets} {s : D.Sets} (h : s ∉ t) : D.add t s = t ++ [s] := by unfold D.add; rw [if_neg h]
theorem add_old {t : List D.Sets} {s : D.Sets} (h : s ∈ t) : D.add t s = t := by unfold D.add; rw [if_pos h]

theorem no_few {sd : List D.Side} {n K j : Nat} {T : List D.Sets} {NX : List (List Nat)} {FX : List Nat} {S : D.Sets} (hb : D.build sd n K = ⟨T, NX, FX⟩) (hk : NX.length = K) (hK : K + 1 ≤ 300) (hS : T[K]? = some S) (hj : j + 1 ≤ n + 1) (hl : 300 < (D.row sd n S T (j + 1)).2.length) : D.isFew sd n = false := by
  refine D.few_no _ _ (k := K + 1) hK ?_
  have e : D.build sd n (K + 1) = (D.build sd n K).go sd n := rfl
  rw [e, hb, D.go_some _ _ (b := ⟨T, NX, FX⟩) (S := S) (by show T[NX.length]? = some S; rw [hk]; exact hS)]
  exact Nat.lt_of_lt_of_le hl (D.row_le (rs := sd) (n := n) (S := S) (t := T) hj)
theorem build_next {sd : List D.Side} {n K : Nat} {T t' : List D.Sets} {NX : List (List Nat)} {FX r : List Nat} {S : D.Sets} (hb : D.build sd n K = ⟨T, NX, FX⟩) (hk : NX.length = K) (hS : T[K]? = some S) (hr : D.row sd n S T (n + 1) = (r, t')) :
    D.build sd n (K + 1) = ⟨t', NX ++ [r], FX ++ [D.doneTo sd S sd.length]⟩ := by
  have e : D.build sd n (K + 1) = (D.build sd n K).go sd n := rfl
  rw [e, hb, D.go_some _ _ (b := ⟨T, NX, FX⟩) (S := S) (by show T[NX.length]? = some S; rw [hk]; exact hS)]
  simp only
  rw [hr]
/-- the pieces between two states -/
def COut (w : World) (rs : List D.Rule) (n K g : Nat) (allv : Value) (wr : World) : Prop :=
  ∃ nv fv us us2, Sep [Pc.rows w.heap.size 23 2 allv us (nvs (D.build (lefts rs) n K).todo), Pc.blk g 25 #[nv, fv], Pc.rows w.heap.size 26 3 nv us2 (nvs (D.build (lefts rs) n K).next),
    Pc.row w.heap.size 2 1 fv K ((D.build (lefts rs) n K).fits.map natV), Pc.blk w.heap.size 25 #[.slice none 0 0, .slice none 0 0], Pc.old w.heap.size w] wr
/-- the pieces within a state's row -/
def CInn (w : World) (t : List D.Sets) (r : List Nat) (next : List (List Nat)) (fits : List Nat) (K g j : Nat) (nv fv : Value) (us2 : List Value) (allv cv : Value) (wr : World) : Prop :=
  ∃ us, Sep [Pc.row w.heap.size 3 1 cv j (r.map natV), Pc.rows w.heap.size 23 2 allv us (nvs t), Pc.blk g 25 #[nv, fv], Pc.rows w.heap.size 26 3 nv us2 (nvs next),
    Pc.row w.heap.size 2 1 fv K (fits.map natV), Pc.blk w.heap.size 25 #[.slice none 0 0, .slice none 0 0], Pc.old w.heap.size w] wr

end Go.Proofs.YtjemdepcaaadiaaGreatDoor
