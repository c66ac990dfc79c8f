/-
  Texts of this claim, one behind the other: NfaF, NfaG, NfaH, Df2, NfaI, DfE, DfG, DfH, NfaJ.
-/
import Derived.Test.YtjemdepcaaadiaaGreatDoorH2
import Derived.Stop.RegionWithIn
import Derived.Shelf.Abstract
import Derived.Shelf.RegionOpen
import Derived.Test.YtjemdepcaaadiaaGreatDoorH1
import Derived.WideKeyArr
import Derived.StillTailTactics
import Derived.Deep.RegionHeld3
import Derived.Maps.AppendAt
import Derived.Great.BuildSlice
import Derived.Deep.MidRow

/- THE STATES THAT A CLASS STEPS FROM, AND WHERE TO: the runner's iterator. -/
namespace Go.Proofs.YtjemdepcaaadiaaGreatDoor
open Go.RowKit

/-- all that lay in one world lies in another as it lay -/
structure Agree (W0 w : World) : Prop where
  size : W0.heap.size ≤ w.heap.size
  block : ∀ k, k < W0.heap.size → w.heap[k]? = W0.heap[k]?
theorem Agree.refl (w : World) : Agree w w := ⟨Nat.le_refl _, fun _ _ => rfl⟩
theorem Agree.of_below {W0 w : World} (h : Below W0.heap.size W0 w) : Agree W0 w := ⟨h.size, h.block⟩
theorem Agree.trans {A B C : World} (h : Agree A B) (k : Agree B C) : Agree A C := ⟨Nat.le_trans h.size k.size, fun i hi => (k.block i (Nat.lt_of_lt_of_le hi h.size)).trans (h.block i hi)⟩
theorem Agree.alloc {A B : World} (h : Agree A B) (o : Obj) : Agree A (B.alloc o) := h.trans (.of_below ((Below.refl _ _).alloc (Nat.le_refl _) o))
theorem Agree.turns {A B C : World} {own : Nat → Prop} (h : Agree A B) (k : Turns own B C) (ho : ∀ i, own i → A.heap.size ≤ i) : Agree A C :=
  ⟨Nat.le_trans h.size k.size, fun i hi => (k.block i (Nat.lt_of_lt_of_le hi h.size) (fun e => by have := ho i e; omega)).trans (h.block i hi)⟩
theorem Agree.holds {A B C : World} {own : Nat → Prop} (h : Agree A B) (k : Holds own B C) (ho : ∀ i, i < A.heap.size → own i) : Agree A C :=
  ⟨Nat.le_trans h.size k.size, fun i hi => (k.block i (ho i hi)).trans (h.block i hi)⟩
theorem ItemsAt.agree {w w' : World} {v : Value} {l : List N.Item} (h : ItemsAt w v l) (hb : Agree w w') : ItemsAt w' v l := by
  rcases h with h | ⟨b, off, sp, cap, h1, h2, h3, h4⟩
  · exact .inl h
  · exact .inr ⟨b, off, sp, cap, h1, h2, h3, fun hn => ⟨(h4 hn).1, Nat.lt_of_lt_of_le (h4 hn).2.1 hb.size, fun i x hx =>
      ⟨(World.cell?_of_block (hb.block b (h4 hn).2.1)).trans ((h4 hn).2.2 i x hx).1, (World.cell?_of_block (hb.block b (h4 hn).2.1)).trans ((h4 hn).2.2 i x hx).2⟩⟩⟩
theorem Rn.agree {w w' : World} {r m : Nat} {st : Bool} {v : Value} {l : List N.Item} (h : Rn w r m st v l) (hb : Agree w w') : Rn w' r m st v l :=
  ⟨(hb.block r h.blk.lt).trans h.blk, (hb.block m (Array.getElem?_eq_some_iff.1 h.how).1).trans h.how, h.items.agree hb, h.right⟩

theorem map_look1 {P : Program} {T K E : TypeId} {q : IntKind} (hm : P.underlying T = some (.map K E)) (hk : P.underlying K = some (.int q)) (W : World) (es : Array MapEntry) (clk : Nat) (k : Int) (n : Nat) (hg : W.heap[n]? = some (.map es clk))
    (i : Nat) (v : Value) (hf : Instr.findNow (.int q) (.int q k) es.toList 0 = some (some (i, v))) :
    (Instr.lookup T (.map (some n)) (.int q k) false).run P W = .ok v W := by
  have h1 : (Instr.checkKey es.isEmpty 10000 K (.int q k)).run P W = .ok () W := MapKept.run_checkKey hk (by simp [MapKept.IsKey]) _ 9999
  have h2 := MapKept.run_findKey (P := P) (w := W) hk hf
  unfold Instr.lookup
  simp only [Sem.run_bind, run_underlying hm, Result.andThen, MapKept.run_getObj_map hg, h1, h2, Sem.run_pure, Bool.false_eq_true, if_false]

theorem how1_any (n : Nat) (w : World) (hn : n ≤ 1000) : Calls Tryz.prog 94 #[.int .i64 n] w fun e w' => e = .returned (.int .i64 (n + 2)) ∧ w = w' := by
  go_enter Tryz.func94, Tryz.ntmps94
  go_wp2
  go_ret
  exact ⟨rfl, rfl⟩
theorem how2_any (n : Nat) (w : World) : Calls Tryz.prog 95 #[.int .i64 n] w fun e w' => e = .returned (.int .i64 n) ∧ w = w' := by
  go_enter Tryz.func95, Tryz.ntmps95
  go_wp2
  go_ret
  exact ⟨rfl, rfl⟩
theorem how3_any (n : Nat) (w : World) (hn : n ≤ 1000) : Calls Tryz.prog 96 #[.int .i64 n] w fun e w' => e = .returned (.int .i64 (n + 1)) ∧ w = w' := by
  go_enter Tryz.func96, Tryz.ntmps96
  go_wp2
  go_ret
  exact ⟨rfl, rfl⟩

theorem test_bit0 (S n : Nat) (h : S < 9223372036854775808) : (bits .and .i64 ((S : Int) / 2 ^ n) 1 == 0) = !S.testBit n := by
  have hd : (S : Int) / 2 ^ n = ((S / 2 ^ n : Nat) : Int) := by simp
  have hle : S / 2 ^ n ≤ S := Nat.div_le_self _ _
  rw [hd, Nat.testBit_eq_decide_div_mod_eq]
  generalize S / 2 ^ n = z at hle
  rw [and_1 _ (by omega) (by omega), Bool.eq_iff_iff]
  simp only [beq_iff_eq, Bool.not_eq_true', decide_eq_false_iff_not]
  omega

/-- the states that a class steps from, of the first k -/
def stepsOf (l : List N.Item) (S : Nat) (c : Int) (k : Nat) : List Nat := (List.range k).filter (N.goes l S c)
theorem stepsOf_yes {l : List N.Item} {S : Nat} {c : Int} {k : Nat} (h : N.goes l S c k = true) : stepsOf l S c (k + 1) = stepsOf l S c k ++ [k] := by
  unfold stepsOf; rw [List.range_succ, List.filter_append]; simp [h]
theorem stepsOf_no {l : List N.Item} {S : Nat} {c : Int} {k : Nat} (h : N.goes l S c k = false) : stepsOf l S c (k + 1) = stepsOf l S c k := by
  unfold stepsOf; rw [List.range_succ, List.filter_append]; simp [h]
theorem fill_steps (l : List N.Item) (S : Nat) (c : Int) (a : Nat) : ∀ k, N.fill l S c a k = (stepsOf l S c k).foldl (fun out n => out ||| N.clo l (N.goto l n)) a
  | 0 => rfl
  | k + 1 => by
    rw [N.fill_succ, fill_steps l S c a k]
    cases h : N.goes l S c k with
    | true => rw [if_pos rfl, stepsOf_yes h, List.foldl_append]; rfl
    | false => rw [if_neg (by simp), stepsOf_no h]

theorem quiet_left {P : Program} {f : FuncId} {args : Array Value} {w : World} {n : Nat} {v : Value}
    (h : Calls P f args (w.drewN n) fun e w' => e = .returned v ∧ w.drewN n = w') : Calls P f args (w.drewN n) fun e w'' => e = .returned v ∧ ∃ m, w'' = w.drewN m :=
  h.mono fun _ _ ⟨he, hm⟩ => ⟨he, n, hm.symm⟩
theorem right_item {l : List N.Item} (h : rightB l = true) {i : Nat} {x : N.Item} (hx : l[i]? = some x) : 0 ≤ x.2 ∧ x.2 ≤ 2 := by
  unfold rightB at h
  rw [Bool.and_eq_true, List.all_eq_true] at h
  have := h.2 x (List.mem_of_getElem? hx)
  unfold itemB at this
  simp only [Bool.and_eq_true, decide_eq_true_eq] at this
  exact ⟨this.1.2, this.2⟩

def keepOf (W0 : World) (Br Bs Bc : Nat) (k : Nat) : Prop := k < W0.heap.size ∨ k = Br ∨ k = Bs ∨ k = Bc

set_option maxHeartbeats 4000000 in
theorem states1_iter (n : Nat) (W0 : World) (r m : Nat) (st : Bool) (v : Value) (li : List N.Item) (hR : Rn W0 r m st v li) (S : Nat) (hS : S < 4611686018427387904) (c : Int) (Br Bs Bc : Nat) (l : Nat) (W1 : World)
    (hA : Agree W0 W1) (hr : Blk W1 Br 124 #[.pointer (some ⟨r, 0, none⟩)]) (hs : Blk W1 Bs 2 #[.int .i64 S]) (hc : Blk W1 Bc 3 #[.int .i64 c]) :
    IterC (n + 1) Tryz.prog 103 #[.pointer (some ⟨Br, 0, none⟩), .pointer (some ⟨Bs, 0, none⟩), .pointer (some ⟨Bc, 0, none⟩)] (fun x : Nat => #[.int .i64 x, .int .i64 (N.goto li x)]) (fun _ => False) (keepOf W0 Br Bs Bc) (fun _ x => x < 2 * li.length)
      (fun xs _ => xs = stepsOf li S c (2 * li.length)) l W1 := by
  intro J Jx hJ hJx hY h0
  have HY := Box.mk hY
  have HJ := Box.mk hJ
  clear hY hJ
  have HR := Box.mk hR
  have hlen := hR.len
  obtain ⟨ao, cap, rfl⟩ := hR.items.slice
  clear hR
  have c1 : W1.cell? ⟨Br, 0, none⟩ = some (.pointer (some ⟨r, 0, none⟩)) := (hr.cell 0).trans rfl
  have c2 : W1.cell? ⟨r, 1, none⟩ = some (.slice ao li.length cap) := ((HR.out.agree hA).blk.cell 1).trans rfl
  refine callsIn_of_wp Tryz.func103 rfl trivial ?_
  simp only [Tryz.ntmps103, List.size_toArray, List.length_cons, List.length_nil, Nat.reduceAdd, Nat.reduceSub, Array.replicate_succ, Array.replicate_zero, List.push_toArray, List.append_toArray, List.nil_append, List.cons_append]
  gi_wp2
  refine wpIn_wide.2 (wp_scope_straight ((wpIn_wide (n := n + 1)).1 ?_))
  gi_wp2
  refine wpIn_label ?_
  gi_wp2
  clear c1 c2
  gi_loopw [15] (fun i wr => ∃ k : Nat, k ≤ 2 * li.length ∧ i = .int .i64 k ∧ Box (Agree W0 wr) ∧ Box (Blk wr Br 124 #[.pointer (some ⟨r, 0, none⟩)]) ∧ Box (Blk wr Bs 2 #[.int .i64 S]) ∧ Box (Blk wr Bc 3 #[.int .i64 c]) ∧ J (stepsOf li S c k) wr)
    (fun i _ => 2 * li.length - (intOf i).toNat)
  case atStart => exact ⟨0, by omega, rfl, ⟨hA⟩, ⟨hr⟩, ⟨hs⟩, ⟨hc⟩, h0⟩
  case round =>
    obtain ⟨k, hk, rfl, ha, hbr, hbs, hbc, hj⟩ := hrel
    have HJr := Box.mk hj
    clear hj hA hr hs hc h0
    by_cases hlt : k < 2 * li.length
    · obtain ⟨x, hx⟩ : ∃ x, li[k / 2]? = some x := ⟨_, List.getElem?_eq_getElem (by omega)⟩
      have HRr := Box.mk (HR.out.agree ha.out)
      have c1 : wr.cell? ⟨Br, 0, none⟩ = some (.pointer (some ⟨r, 0, none⟩)) := (hbr.out.cell 0).trans rfl
      have c2 : wr.cell? ⟨r, 1, none⟩ = some (.slice ao li.length cap) := (HRr.out.blk.cell 1).trans rfl
      have c3 : wr.cell? ⟨Bs, 0, none⟩ = some (.int .i64 S) := (hbs.out.cell 0).trans rfl
      have c4 : wr.cell? ⟨Bc, 0, none⟩ = some (.int .i64 c) := (hbc.out.cell 0).trans rfl
      have c5 : wr.cell? ⟨r, 2, none⟩ = some (.map (some m)) := (HRr.out.blk.cell 2).trans rfl
      have l1 := hbr.out.lt
      have l2 := hbs.out.lt
      have l3 := hbc.out.lt
      have l4 := HRr.out.blk.lt
      obtain ⟨g, off, cap2, hg1, hg2, hg3, hg4, hg5⟩ := HRr.out.items.get (by rintro rfl; simp at hlt)
      obtain ⟨rfl, rfl⟩ : ao = some ⟨g, off, none⟩ ∧ cap = cap2 := by injection hg1 with h1 h2 h3; exact ⟨h1, h3⟩
      obtain ⟨hc1, hc2⟩ := hg5 _ x hx
      obtain ⟨hw0, hw1⟩ := right_item HRr.out.right hx
      have HH := Box.mk (show N.howAt li (k / 2) = x.2 ∧ N.setAt li (k / 2) = x.1 by unfold N.howAt N.setAt; simp [List.getD, hx])
      unfold maxLen at hg3
      have hlt2 : k / 2 < li.length := by omega
      have HN := Box.mk (show ∀ W2, Turns (fun _ => False) wr W2 → N.goes li S c k = false → ∃ k' : Nat, k' ≤ 2 * li.length ∧ Value.int .i64 ((k : Int) + 1) = .int .i64 k' ∧ Box (Agree W0 W2) ∧ Box (Blk W2 Br 124 #[.pointer (some ⟨r, 0, none⟩)]) ∧ Box (Blk W2 Bs 2 #[.int .i64 S]) ∧ Box (Blk W2 Bc 3 #[.int .i64 c]) ∧ J (stepsOf li S c k') W2 from fun W2 ht hg =>
        ⟨k + 1, hlt, by go_num, ⟨ha.out.turns ht (fun _ h => h.elim)⟩, ⟨ht.blk hbr.out (fun h => h)⟩, ⟨ht.blk hbs.out (fun h => h)⟩, ⟨ht.blk hbc.out (fun h => h)⟩, by rw [stepsOf_no hg]; exact HJ.out _ _ _ HJr.out ht⟩)
      have HTA := Box.mk (fun o => Turns.alloc (own := fun _ => False) wr o)
      obtain ⟨set, how⟩ := x
      clear hx hg1 hg5
      have hb0 := test_bit0 S k (by omega)
      cases hbit : S.testBit k with
      | false =>
        have HG := Box.mk (show N.goes li S c k = false by unfold N.goes; rw [hbit]; rfl)
        rw [hbit] at hb0
        simp only [Bool.not_false] at hb0
        clear hbit
        gi_wp2
        refine ⟨trivial, ?_⟩
        gi_wp2
        go_roundw
        case rel => exact HN.out _ (HTA.out _) HG.out
        case measure => simp [intOf]; omega
      | true =>
        rw [hbit] at hb0
        simp only [Bool.not_true] at hb0
        cases hhas : N.hasC set c with
        | false =>
          have HG := Box.mk (show N.goes li S c k = false by unfold N.goes; rw [hbit, HH.out.2, hhas]; rfl)
          have HHAS := Box.mk hhas
          clear hbit hhas
          gi_wp2
          refine ⟨trivial, ((callsIn_wide (n := n)).2 (chas_any set c _)).mono ?_⟩; rintro e w1 ⟨rfl, rfl⟩; rw [HHAS.out]
          gi_wp2
          go_roundw
          case rel => exact HN.out _ (HTA.out _) HG.out
          case measure => simp [intOf]; omega
        | true =>
          have HG := Box.mk (show N.goes li S c k = true by unfold N.goes; rw [hbit, HH.out.2, hhas]; rfl)
          have HHAS := Box.mk hhas
          clear hbit hhas HN
          have HYW := Box.mk (fun W2 (ht : Turns (fun _ => False) wr W2) => HY.out (stepsOf li S c k) k W2 (HJ.out _ _ _ HJr.out ht) hlt)
          have HEND := Box.mk (show ∀ W2 W3, Turns (fun _ => False) wr W2 → J (stepsOf li S c k ++ [k]) W3 → Holds (keepOf W0 Br Bs Bc) W2 W3 → ∃ k' : Nat, k' ≤ 2 * li.length ∧ Value.int .i64 ((k : Int) + 1) = .int .i64 k' ∧ Box (Agree W0 W3) ∧ Box (Blk W3 Br 124 #[.pointer (some ⟨r, 0, none⟩)]) ∧ Box (Blk W3 Bs 2 #[.int .i64 S]) ∧ Box (Blk W3 Bc 3 #[.int .i64 c]) ∧ J (stepsOf li S c k') W3 from fun W2 W3 ht hj hh =>
            ⟨k + 1, hlt, by go_num, ⟨(ha.out.turns ht (fun _ h => h.elim)).holds hh (fun _ h => .inl h)⟩, ⟨(hh.block _ (.inr (.inl rfl))).trans (ht.blk hbr.out (fun h => h))⟩, ⟨(hh.block _ (.inr (.inr (.inl rfl)))).trans (ht.blk hbs.out (fun h => h))⟩, ⟨(hh.block _ (.inr (.inr (.inr rfl)))).trans (ht.blk hbc.out (fun h => h))⟩, by rw [stepsOf_yes HG.out]; exact hj⟩)
          by_cases hodd : k % 2 = 1
          · have t1 : ((k : Int) % 2 == 0) = false := by rw [beq_eq_false_iff_ne]; omega
            have HGO := Box.mk (show ((N.goto li k : Nat) : Int) = (k : Int) - 1 by unfold N.goto; rw [if_pos hodd]; omega)
            have hy0 := HYW.out _ (HTA.out (.cells #[.int .i64 set, .int .i64 how] 79))
            simp only [HGO.out] at hy0
            obtain ⟨fn, tmps, assign, body, hy, hRd⟩ := hy0
            have HRD := Box.mk hRd
            have k1 : 1 ≤ k := by omega
            clear hRd hodd
            gi_wp2
            refine ⟨trivial, ((callsIn_wide (n := n)).2 (chas_any set c _)).mono ?_⟩; rintro e w1 ⟨rfl, rfl⟩; rw [HHAS.out]
            gi_wp2
            have HTD := Box.mk (fun (_ : Unit) => HTA.out (.cells #[.int .i64 set, .int .i64 how] 79))
            refine HRD.out.mono ?_
            rintro e W3 (⟨rfl, hj3, hk3⟩ | ⟨rfl, hx3⟩)
            · have HR3 := Box.mk (HEND.out _ _ (HTD.out ()) hj3 hk3)
              clear hj3 hk3
              gi_wp2
              go_roundw
              case rel => exact HR3.out
              case measure => simp [intOf]; omega
            · gi_wp2
              rw [Exit.noGoto_normal]
              go_end0
              exact ⟨⟨_, rfl⟩, .inr ⟨_, hx3⟩⟩
          · have t1 : ((k : Int) % 2 == 0) = true := by rw [beq_iff_eq]; omega
            have HM := Box.mk (show ∀ o nd, ((wr.alloc o).drewN nd).heap[m]? = some (.map #[how1, how2, how3] 3) from fun o nd => (Below.heap_alloc _ _ _ (Array.getElem?_eq_some_iff.1 HRr.out.how).1).trans HRr.out.how)
            have hk1000 : k ≤ 1000 := by omega
            rcases (show how = 0 ∨ how = 1 ∨ how = 2 by omega) with rfl | rfl | rfl
            · have hlk := fun nd => map_look1 (P := Tryz.prog) Tryz.underlying154 Tryz.underlying3 ((wr.alloc (.cells #[.int .i64 set, .int .i64 0] 79)).drewN nd) #[how1, how2, how3] 3 0 m (HM.out _ nd) 0 how1.val rfl
              simp only [how1] at hlk
              have HGO := Box.mk (show ((N.goto li k : Nat) : Int) = (k : Int) + 2 by unfold N.goto; rw [if_neg hodd, if_pos HH.out.1]; simp)
              clear hodd
              gi_wp2
              refine ⟨trivial, ((callsIn_wide (n := n)).2 (chas_any set c _)).mono ?_⟩; rintro e w1 ⟨rfl, rfl⟩; rw [HHAS.out]
              gi_wp2
              refine wpIn_wide.2 ?_
              go_quiet ((go_at_call 94; exact quiet_left (how1_any _ _ hk1000)))
              have hy0 := HYW.out ((wr.alloc (.cells #[.int .i64 set, .int .i64 0] 79)).drewN nq) ((HTA.out _).trans (Turns.of_below (below_drewN (Below.refl _ _) nq)))
              simp only [HGO.out] at hy0
              obtain ⟨fn, tmps, assign, body, hy, hRd⟩ := hy0
              have HRD := Box.mk hRd
              clear hRd
              gi_wp2
              refine HRD.out.mono ?_
              rintro e W3 (⟨rfl, hj3, hk3⟩ | ⟨rfl, hx3⟩)
              · have HR3 := Box.mk (HEND.out _ _ ((HTA.out _).trans (Turns.of_below (below_drewN (Below.refl _ _) nq))) hj3 hk3)
                clear hj3 hk3
                gi_wp2
                go_roundw
                case rel => exact HR3.out
                case measure => simp [intOf]; omega
              · gi_wp2
                rw [Exit.noGoto_normal]
                go_end0
                exact ⟨⟨_, rfl⟩, .inr ⟨_, hx3⟩⟩
            · have hlk := fun nd => map_look1 (P := Tryz.prog) Tryz.underlying154 Tryz.underlying3 ((wr.alloc (.cells #[.int .i64 set, .int .i64 1] 79)).drewN nd) #[how1, how2, how3] 3 1 m (HM.out _ nd) 1 how2.val rfl
              simp only [how2] at hlk
              have HGO := Box.mk (show ((N.goto li k : Nat) : Int) = (k : Int) by unfold N.goto; rw [if_neg hodd, if_neg (by rw [HH.out.1]; simp), if_pos HH.out.1])
              clear hodd
              gi_wp2
              refine ⟨trivial, ((callsIn_wide (n := n)).2 (chas_any set c _)).mono ?_⟩; rintro e w1 ⟨rfl, rfl⟩; rw [HHAS.out]
              gi_wp2
              refine wpIn_wide.2 ?_
              go_quiet ((go_at_call 95; exact quiet_left (how2_any _ _)))
              have hy0 := HYW.out ((wr.alloc (.cells #[.int .i64 set, .int .i64 1] 79)).drewN nq) ((HTA.out _).trans (Turns.of_below (below_drewN (Below.refl _ _) nq)))
              simp only [HGO.out] at hy0
              obtain ⟨fn, tmps, assign, body, hy, hRd⟩ := hy0
              have HRD := Box.mk hRd
              clear hRd
              gi_wp2
              refine HRD.out.mono ?_
              rintro e W3 (⟨rfl, hj3, hk3⟩ | ⟨rfl, hx3⟩)
              · have HR3 := Box.mk (HEND.out _ _ ((HTA.out _).trans (Turns.of_below (below_drewN (Below.refl _ _) nq))) hj3 hk3)
                clear hj3 hk3
                gi_wp2
                go_roundw
                case rel => exact HR3.out
                case measure => simp [intOf]; omega
              · gi_wp2
                rw [Exit.noGoto_normal]
                go_end0
                exact ⟨⟨_, rfl⟩, .inr ⟨_, hx3⟩⟩
            · have hlk := fun nd => map_look1 (P := Tryz.prog) Tryz.underlying154 Tryz.underlying3 ((wr.alloc (.cells #[.int .i64 set, .int .i64 2] 79)).drewN nd) #[how1, how2, how3] 3 2 m (HM.out _ nd) 2 how3.val rfl
              simp only [how3] at hlk
              have HGO := Box.mk (show ((N.goto li k : Nat) : Int) = (k : Int) + 1 by unfold N.goto; rw [if_neg hodd, if_neg (by rw [HH.out.1]; simp), if_neg (by rw [HH.out.1]; simp)]; simp)
              clear hodd
              gi_wp2
              refine ⟨trivial, ((callsIn_wide (n := n)).2 (chas_any set c _)).mono ?_⟩; rintro e w1 ⟨rfl, rfl⟩; rw [HHAS.out]
              gi_wp2
              refine wpIn_wide.2 ?_
              go_quiet ((go_at_call 96; exact quiet_left (how3_any _ _ hk1000)))
              have hy0 := HYW.out ((wr.alloc (.cells #[.int .i64 set, .int .i64 2] 79)).drewN nq) ((HTA.out _).trans (Turns.of_below (below_drewN (Below.refl _ _) nq)))
              simp only [HGO.out] at hy0
              obtain ⟨fn, tmps, assign, body, hy, hRd⟩ := hy0
              have HRD := Box.mk hRd
              clear hRd
              gi_wp2
              refine HRD.out.mono ?_
              rintro e W3 (⟨rfl, hj3, hk3⟩ | ⟨rfl, hx3⟩)
              · have HR3 := Box.mk (HEND.out _ _ ((HTA.out _).trans (Turns.of_below (below_drewN (Below.refl _ _) nq))) hj3 hk3)
                clear hj3 hk3
                gi_wp2
                go_roundw
                case rel => exact HR3.out
                case measure => simp [intOf]; omega
              · gi_wp2
                rw [Exit.noGoto_normal]
                go_end0
                exact ⟨⟨_, rfl⟩, .inr ⟨_, hx3⟩⟩
    · obtain rfl : k = 2 * li.length := by omega
      gi_wp2
      rw [Exit.noGoto_normal]
      go_end0
      exact ⟨⟨_, rfl⟩, .inl ⟨_, rfl, HJr.out⟩⟩
end Go.Proofs.YtjemdepcaaadiaaGreatDoor

/- ONE STEP OF THE RUNNER; whether all has fitted. -/
namespace Go.Proofs.YtjemdepcaaadiaaGreatDoor
open Go.RowKit Go.Shelf
attribute [local go_sem] Oper.semAt_some

theorem statesM_any (p : Option Addr) (S c : Int) (w : World) :
    Calls Tryz.prog 102 #[.pointer p, .int .i64 S, .int .i64 c] w fun e w' => e = .returned (.func (.func 103) #[] #[.pointer (some ⟨w.heap.size, 0, none⟩), .pointer (some ⟨w.heap.size + 1, 0, none⟩), .pointer (some ⟨w.heap.size + 1 + 1, 0, none⟩)]) ∧
      ((w.alloc (.cells #[.pointer p] 124)).alloc (.cells #[.int .i64 S] 2)).alloc (.cells #[.int .i64 c] 3) = w' := by
  go_enter Tryz.func102, Tryz.ntmps102
  go_wp2
  go_ret
  exact ⟨rfl, rfl⟩

theorem sum_lt (l : List N.Item) (xs : List Nat) (h : ∀ x ∈ xs, x < 2 * l.length) (a : Nat) (ha : a < 2 ^ (2 * l.length + 1)) : xs.foldl (fun out n => out ||| N.clo l (N.goto l n)) a < 2 ^ (2 * l.length + 1) := by
  induction xs generalizing a with
  | nil => exact ha
  | cons x t ih =>
    exact ih (fun y hy => h y (List.mem_cons_of_mem _ hy)) _ (Nat.or_lt_two_pow ha (N.clo_lt l _ (N.goto_le l x (h x (List.mem_cons_self ..)))))
def outOf (l : List N.Item) (a : Nat) (xs : List Nat) : Nat := xs.foldl (fun out n => out ||| N.clo l (N.goto l n)) a
theorem outOf_snoc (l : List N.Item) (a : Nat) (xs : List Nat) (x : Nat) : outOf l a (xs ++ [x]) = outOf l a xs ||| N.clo l (N.goto l x) := by unfold outOf; rw [List.foldl_append]; rfl

set_option maxHeartbeats 4000000 in
theorem step_any (r m : Nat) (st : Bool) (v : Value) (l : List N.Item) (w : World) (h : Rn w r m st v l) (S : Nat) (hS : S < 4611686018427387904) (c : Int) :
    Calls Tryz.prog 98 #[.pointer (some ⟨r, 0, none⟩), .int .i64 S, .int .i64 c] w fun e w' => e = .returned (.int .i64 (N.step l st S c)) ∧ Below w.heap.size w w' := by
  have hl := h.len
  have HR := Box.mk h
  have c0 : w.cell? ⟨r, 0, none⟩ = some (.bool st) := (h.blk.cell 0).trans rfl
  have l0 := h.blk.lt
  obtain ⟨w2, hw2⟩ : ∃ w2, w2 = (w.alloc (.cells #[.pointer (some ⟨r, 0, none⟩)] 124)).alloc (.cells #[.int .i64 0] 2) := ⟨_, rfl⟩
  have hbw : Below w.heap.size w w2 := by rw [hw2]; exact ((Below.refl _ _).alloc (Nat.le_refl _) _).alloc (by simp) _
  have hb0 : Blk w2 w.heap.size 124 #[.pointer (some ⟨r, 0, none⟩)] := by rw [hw2]; exact (Blk.new w _ _).alloc _
  have hb1 : Blk w2 (w.heap.size + 1) 2 #[.int .i64 0] := by
    rw [hw2]
    have := Blk.new (w.alloc (.cells #[.pointer (some ⟨r, 0, none⟩)] 124)) 2 #[.int .i64 0]
    simpa using this
  have HB0 := Box.mk hb0
  have HB1 := Box.mk hb1
  have HBW := Box.mk hbw
  have HW2 := Box.mk hw2
  clear h hb0 hb1 hbw hw2
  refine (callsIn_wide (n := 9)).1 (callsIn_of_wp_marks Tryz.func98 rfl trivial (wpIn_wide.2 ?_))
  simp only [Tryz.ntmps98, List.size_toArray, List.length_cons, List.length_nil, Nat.reduceAdd, Nat.reduceSub, Array.replicate_succ, Array.replicate_zero, List.push_toArray, List.append_toArray, List.nil_append, List.cons_append]
  go_upto_if 15 with (fail)
  go_cut [] from 16 to 18 (fun wx => Box (Below w.heap.size w wx) ∧ Box (Blk wx w.heap.size 124 #[.pointer (some ⟨r, 0, none⟩)]) ∧ Box (Blk wx (w.heap.size + 1) 2 #[.int .i64 (N.init l st)]))
  case first =>
    rw [← HW2.out]
    clear l0 c0
    cases st with
    | true =>
      go_wp2_with fail
      go_meet
      exact ⟨HBW, HB0, ⟨by rw [show N.init l true = 0 from rfl]; exact HB1.out⟩⟩
    | false =>
      have e0 : w2.cell? ⟨w.heap.size, 0, none⟩ = some (.pointer (some ⟨r, 0, none⟩)) := (HB0.out.cell 0).trans rfl
      have HC := Box.mk (closed_any r m false v l (w2.alloc (.cells #[.int .i64 0] 3)) ((HR.out.below HBW.out).below ((Below.refl _ _).alloc (Nat.le_refl _) _)) w2.heap.size 0 (by simp) (by omega))
      go_wp2_with fail
      refine HC.out.mono ?_; rintro e w3 ⟨rfl, hb3⟩
      have hb13 := (HB1.out.alloc (.cells #[.int .i64 0] 3)).below hb3 (by have := HB1.out.lt; simp; omega)
      have HB13 := Box.mk hb13
      have HB03 := Box.mk ((HB0.out.alloc (.cells #[.int .i64 0] 3)).below hb3 (by have := HB0.out.lt; simp; omega))
      have HBW3 := Box.mk (show Below w.heap.size w w3 from (HBW.out.alloc HBW.out.size _).trans (hb3.mono (by have := HBW.out.size; simp; omega)))
      have e1 : w3.cell? ⟨w.heap.size + 1, 0, none⟩ = some (.int .i64 0) := (hb13.cell 0).trans rfl
      have f1 := hb13.frozen 0
      clear hb3 hb13
      go_wp2_with fail
      go_meet
      exact ⟨⟨HBW3.out.setCell (by simp) _⟩, ⟨HB03.out.far (by simp) _⟩, ⟨HB13.out.set_ 0 _⟩⟩
  case rest =>
    obtain ⟨hbw, hb0, hb1⟩ := hcut
    have e0 : wc.cell? ⟨w.heap.size, 0, none⟩ = some (.pointer (some ⟨r, 0, none⟩)) := (hb0.out.cell 0).trans rfl
    go_wp2_with (go_at_call 102; refine (statesM_any _ _ _ _).mono ?_; rintro e w' ⟨rfl, rfl⟩)
    clear e0
    have hbr : Blk (((wc.alloc (.cells #[.pointer (some ⟨r, 0, none⟩)] 124)).alloc (.cells #[.int .i64 S] 2)).alloc (.cells #[.int .i64 c] 3)) wc.heap.size 124 #[.pointer (some ⟨r, 0, none⟩)] := ((Blk.new wc _ _).alloc _).alloc _
    have hbs : Blk (((wc.alloc (.cells #[.pointer (some ⟨r, 0, none⟩)] 124)).alloc (.cells #[.int .i64 S] 2)).alloc (.cells #[.int .i64 c] 3)) (wc.heap.size + 1) 2 #[.int .i64 S] := by
      have := (Blk.new (wc.alloc (.cells #[.pointer (some ⟨r, 0, none⟩)] 124)) 2 #[.int .i64 S]).alloc (.cells #[.int .i64 c] 3)
      simpa using this
    have hbc : Blk (((wc.alloc (.cells #[.pointer (some ⟨r, 0, none⟩)] 124)).alloc (.cells #[.int .i64 S] 2)).alloc (.cells #[.int .i64 c] 3)) (wc.heap.size + 1 + 1) 3 #[.int .i64 c] := by
      have := Blk.new ((wc.alloc (.cells #[.pointer (some ⟨r, 0, none⟩)] 124)).alloc (.cells #[.int .i64 S] 2)) 3 #[.int .i64 c]
      simpa using this
    have hbL : Below wc.heap.size wc (((wc.alloc (.cells #[.pointer (some ⟨r, 0, none⟩)] 124)).alloc (.cells #[.int .i64 S] 2)).alloc (.cells #[.int .i64 c] 3)) := (((Below.refl _ _).alloc (Nat.le_refl _) _).alloc (by simp) _).alloc (by simp; omega) _
    have hsz : (((wc.alloc (.cells #[.pointer (some ⟨r, 0, none⟩)] 124)).alloc (.cells #[.int .i64 S] 2)).alloc (.cells #[.int .i64 c] 3)).heap.size = wc.heap.size + 3 := by simp
    generalize ((wc.alloc (.cells #[.pointer (some ⟨r, 0, none⟩)] 124)).alloc (.cells #[.int .i64 S] 2)).alloc (.cells #[.int .i64 c] 3) = wL at hbr hbs hbc hbL hsz ⊢
    have hcs := hbw.out.size
    have hb1' := hb1.out.lt
    have hbwL : Below w.heap.size w wL := hbw.out.trans (hbL.mono hcs)
    have hAL : Agree w wL := .of_below hbwL
    refine (wpIn_wide (n := 9)).1 (range_law (α := Nat) (gf := 103) (lb := #[.pointer (some ⟨wc.heap.size, 0, none⟩), .pointer (some ⟨wc.heap.size + 1, 0, none⟩), .pointer (some ⟨wc.heap.size + 1 + 1, 0, none⟩)]) rfl (enters_of Tryz.func103 (by kernel_rfl) rfl)
      (encs := fun x => #[.int .i64 x, .int .i64 (N.goto l x)]) (own := fun _ => False) (keep := keepOf w wc.heap.size (wc.heap.size + 1) (wc.heap.size + 1 + 1)) (ok := fun _ x => x < 2 * l.length) (S := fun xs _ => xs = stepsOf l S c (2 * l.length))
      (fun k hk => by rcases hk with h | h; exact h.elim; unfold keepOf at h; omega)
      (fun W1 ht => states1_iter 7 w r m st v l HR.out S hS c wc.heap.size (wc.heap.size + 1) (wc.heap.size + 1 + 1) _ W1 (hAL.turns ht (fun _ h => h.elim)) (ht.blk hbr (fun h => h)) (ht.blk hbs (fun h => h)) (ht.blk hbc (fun h => h)))
      (fun _ => rfl)
      (fun pre W => Blk W w.heap.size 124 #[.pointer (some ⟨r, 0, none⟩)] ∧ Blk W (w.heap.size + 1) 2 #[.int .i64 (outOf l (N.init l st) pre)] ∧ outOf l (N.init l st) pre < 2 ^ (2 * l.length + 1) ∧ Below w.heap.size w W)
      (fun _ _ _ => False) ?hI (fun _ _ _ _ h _ => h) ⟨(hb0.out.below hbL (by omega)), (hb1.out.below hbL hb1'), N.init_lt l st, hbwL⟩
      (fun x a1 _ => a1 = { tmps := #[.pointer (some ⟨r, 0, none⟩), .int .i64 S, .int .i64 c, .pointer (some ⟨w.heap.size, 0, none⟩), undef, undef, .int .i64 0, .pointer (some ⟨w.heap.size + 1, 0, none⟩), undef, .int .i64 (N.goto l x), .pointer (some ⟨r, 0, none⟩), .pointer (some ⟨r, 0, none⟩), .pointer (some ⟨r, 0, none⟩), .pointer (some ⟨r, 0, none⟩), .bool st, .bool !st, u16, u17, u18, .pointer (some ⟨r, 0, none⟩), .int .i64 S, .int .i64 c, .func (.func 103) #[] #[.pointer (some ⟨wc.heap.size, 0, none⟩), .pointer (some ⟨wc.heap.size + 1, 0, none⟩), .pointer (some ⟨wc.heap.size + 1 + 1, 0, none⟩)], .int .i64 x, .int .i64 (N.goto l x), undef, undef, undef, undef, undef, undef, undef], defers := [] })
      (fun _ _ _ _ h _ => h) ?assign ?body ?done (fun _ _ _ _ h _ => h.elim) (fun _ _ _ h _ => h))
    case hI =>
      rintro pre W W' ⟨h1, h2, h3, h4⟩ ht
      exact ⟨ht.blk h1 (by rintro (h | h); exact h; omega), ht.blk h2 (by rintro (h | h); exact h; omega), h3, h4.trans (ht.below h4.size (fun k hk => by rcases hk with h | h; exact h.elim; omega))⟩
    case assign =>
      intro x W K _ hK
      gi_wp2
      exact hK _ _ (Turns.refl _ _) rfl
    case body =>
      rintro pre x a1 W hW ⟨h1, h2, h3, h4⟩ hx rfl
      have hx' : N.goto l x ≤ 2 * l.length := N.goto_le l x hx
      have HAW := Box.mk (show Agree w W from .of_below h4)
      have HN := Box.mk (show ∀ W3, Turns (fun k => k = w.heap.size + 1) W W3 → Blk W3 (w.heap.size + 1) 2 #[.int .i64 (outOf l (N.init l st) (pre ++ [x]))] → Holds (fun k => keepOf w wc.heap.size (wc.heap.size + 1) (wc.heap.size + 1 + 1) k ∨ k = wL.heap.size + 1 ∨ k = wL.heap.size) W W3 ∧ (Blk W3 w.heap.size 124 #[.pointer (some ⟨r, 0, none⟩)] ∧ Blk W3 (w.heap.size + 1) 2 #[.int .i64 (outOf l (N.init l st) (pre ++ [x]))] ∧ outOf l (N.init l st) (pre ++ [x]) < 2 ^ (2 * l.length + 1) ∧ Below w.heap.size w W3) from fun W3 ht hb =>
        ⟨Holds.of_turns ht (fun k hk => by unfold keepOf at hk; omega) (fun k hk => by unfold keepOf at hk; omega), ht.blk h1 (by omega), hb, by rw [outOf_snoc]; exact Nat.or_lt_two_pow h3 (N.clo_lt l _ hx'), h4.trans (ht.below h4.size (fun k hk => by omega))⟩)
      have HCL := Box.mk (fun (W1 : World) (sb : Nat) (ha : Agree w W1) (hs : W1.cell? ⟨sb, 0, none⟩ = some (.int .i64 (N.goto l x))) => (callsIn_wide (n := 9 - 1 - 1 - 1)).2 (closed_any r m st v l W1 (HR.out.agree ha) sb (N.goto l x) hs hx'))
      have e0 : W.cell? ⟨w.heap.size, 0, none⟩ = some (.pointer (some ⟨r, 0, none⟩)) := (h1.cell 0).trans rfl
      have e1 : W.cell? ⟨w.heap.size + 1, 0, none⟩ = some (.int .i64 (outOf l (N.init l st) pre)) := (h2.cell 0).trans rfl
      have l1 := h1.lt
      have l2 := h2.lt
      have H2 := Box.mk h2
      have H3 := Box.mk h3
      have HOR := Box.mk (show bits .or .i64 (outOf l (N.init l st) pre : Int) (N.clo l (N.goto l x) : Int) = (outOf l (N.init l st) (pre ++ [x]) : Int) by
        have a1 := lt_40 _ _ h3 (by omega)
        have a2 := lt_40 _ _ (N.clo_lt l _ hx') (by omega)
        rw [i64_or_nat _ _ (by omega) (by omega), outOf_snoc])
      clear h1 h2 h3 h4 hbr hbs hbc hbL hsz hbwL hAL l0 c0 hx
      gi_wp2
      gi_region_with ((refine And.intro trivial ?_; gi_at_call 78; refine (HCL.out _ _ ?_ ?_).mono ?_; exact ⟨(HAW.out.alloc _).size, (HAW.out.alloc _).block⟩; simp; rintro e w3 ⟨rfl, hb3⟩; have hT3 : Turns (fun k => k = w.heap.size + 1) W w3 := (Turns.alloc W _).trans (Turns.of_below ⟨hb3.os, hb3.tape, hb3.output, hb3.size, hb3.block⟩); have hB3 : Blk w3 (w.heap.size + 1) 2 #[.int .i64 (outOf l (N.init l st) pre)] := (hb3.block _ (by simp; omega)).trans (H2.out.alloc _); have HT3 := Box.mk hT3; have HB3 := Box.mk hB3; have e3 := (hB3.cell 0).trans (show _ = some (Value.int .i64 (outOf l (N.init l st) pre)) from rfl); have f3 := hB3.frozen 0; clear hb3 hT3 hB3))
      all_goals exact HN.out _ (HT3.out.trans (Turns.setCell (own := fun k => k = w.heap.size + 1) _ (p := ⟨w.heap.size + 1, 0, none⟩) rfl _)) (by rw [HOR.out]; exact HB3.out.set_ 0 _)
    case done =>
      intro xs W hW hS' ⟨h1, h2, h3, h4⟩ hD
      have HV := Box.mk (show outOf l (N.init l st) xs = N.step l st S c by rw [hS']; unfold N.step; rw [fill_steps]; rfl)
      have e1 : W.cell? ⟨w.heap.size + 1, 0, none⟩ = some (.int .i64 (outOf l (N.init l st) xs)) := (h2.cell 0).trans rfl
      have H4 := Box.mk h4
      have HD := Box.mk hD
      have hwl := hbwL.size
      clear h1 h2 h3 h4 hD hbr hbs hbc hbL hsz hbwL hAL l0 c0 hS'
      go_wp2_with fail
      refine ⟨by simp, .inl ⟨_, _, rfl, run_takeDeferred HD.out, ?_⟩⟩
      refine ⟨_, results_tmp rfl _ _ _, ?_⟩
      exact ⟨by rw [← HV.out]; rfl, H4.out.trans ((Turns.putObj (own := fun k => k = wL.heap.size) W rfl _).below H4.out.size (fun k hk => by omega))⟩
end Go.Proofs.YtjemdepcaaadiaaGreatDoor

/- WHAT PACKAGE nfa GIVES: Most, First, Step, Done. -/
namespace Go.Proofs.YtjemdepcaaadiaaGreatDoor
open Go.RowKit

def mostV (l : List N.Item) : Int := if rightB l = true then (N.most l : Int) else 0
def firstV (l : List N.Item) : Value := if rightB l = true then .tuple #[.int .i64 (N.clo l 0), .int .i64 0] else .tuple #[.int .i64 0, .int .i64 80]
def setOk (l : List N.Item) (x : Int) : Bool := rightB l && decide (0 ≤ x) && decide (x ≤ N.most l)
def stepV (l : List N.Item) (st : Bool) (x c : Int) : Value := if setOk l x = true then .tuple #[.int .i64 (N.step l st x.toNat c), .int .i64 0] else .tuple #[.int .i64 0, .int .i64 80]
def doneV (l : List N.Item) (x : Int) : Bool := setOk l x && N.doneB l x.toNat

theorem isDone_any (r m : Nat) (st : Bool) (v : Value) (l : List N.Item) (w : World) (h : Rn w r m st v l) (S : Nat) (hS : S < 4611686018427387904) :
    Calls Tryz.prog 99 #[.pointer (some ⟨r, 0, none⟩), .int .i64 S] w fun e w' => e = .returned (.bool (N.doneB l S)) ∧ w = w' := by
  have hl := h.len
  obtain ⟨ao, cap, rfl⟩ := h.items.slice
  have c1 : w.cell? ⟨r, 1, none⟩ = some (.slice ao l.length cap) := (h.blk.cell 1).trans rfl
  have HB := Box.mk (test_bit S (2 * l.length) (by omega))
  clear h
  go_enter Tryz.func99, Tryz.ntmps99
  go_wp2
  go_ret
  exact ⟨ret_bool HB.out, rfl⟩

theorem alloc_below (w : World) (o : Obj) : Below w.heap.size w (w.alloc o) := (Below.refl _ _).alloc (Nat.le_refl _) o

set_option maxHeartbeats 1000000 in
theorem first_any (A : Nat → Addr) (B : Nat) (st : Bool) (v : Value) (l : List N.Item) (w : World) (hv : ItemsAt w v l) (hz : l.length ≤ 16777216) (hE : E A B w) (hB : B ≤ w.heap.size) :
    Calls Tryz.prog 51 #[.agg #[.bool st, v]] w fun e w' => e = .returned (firstV l) ∧ Below w.heap.size w w' := by
  have hb0 := alloc_below w (.cells #[.bool st, v] 49)
  unfold firstV
  cases hr : rightB l with
  | true =>
    have HO := Box.mk (open_ok A B st v l _ (hv.below hb0) hz (hE.below (hb0.mono hB)) (Nat.le_trans hB hb0.size) ⟨hr⟩)
    have HB0 := Box.mk hb0
    clear hb0 hE hv hr
    go_enter Tryz.func51, Tryz.ntmps51
    go_wp2_with fail
    refine HO.out.mono ?_; rintro e w1 ⟨hb1, r, m, rfl, hrn⟩
    have HB1 := Box.mk hb1
    have HC := Box.mk (closed_any r m st v l (w1.alloc (.cells #[.int .i64 0] 3)) (hrn.below (alloc_below _ _)) w1.heap.size 0 (by simp) (by omega))
    clear hb1 hrn
    go_wp2_with fail
    refine HC.out.mono ?_; rintro e w2 ⟨rfl, hb2⟩
    have HB2 := Box.mk ((alloc_below w1 _).trans (hb2.mono (alloc_below w1 _).size))
    clear hb2
    go_wp2_with fail
    go_ret2
    exact ⟨rfl, HB0.out.trans ((HB1.out.trans (HB2.out.mono HB1.out.size)).mono HB0.out.size)⟩
  | false =>
    have HO := Box.mk (open_bad A B st v l _ (hv.below hb0) hz (hE.below (hb0.mono hB)) (Nat.le_trans hB hb0.size) ⟨hr⟩ (.slice none 0 0))
    have HB0 := Box.mk hb0
    have HE := Box.mk hE
    clear hb0 hE hv hr
    go_enter Tryz.func51, Tryz.ntmps51
    go_wp2_with fail
    refine HO.out.mono ?_; rintro e w1 ⟨hb1, rfl⟩
    have HT := Box.mk (told_any A B w1 ((HE.out.below (HB0.out.mono hB)).below (hb1.mono (Nat.le_trans hB HB0.out.size))))
    have HB1 := Box.mk hb1
    unfold errV at HT ⊢
    clear hb1
    go_wp2_with fail
    refine HT.out.mono ?_; rintro e w2 ⟨rfl, rfl⟩
    go_wp2_with fail
    go_ret2
    exact ⟨rfl, HB0.out.trans (HB1.out.mono HB0.out.size)⟩

theorem most_small (l : List N.Item) (h : l.length ≤ 10) : N.most l < 4611686018427387904 := by
  have : 2 ^ (2 * l.length + 1) ≤ 2 ^ 21 := Nat.pow_le_pow_right (by omega) (by omega)
  unfold N.most
  omega
theorem right_len {l : List N.Item} (h : rightB l = true) : l.length ≤ 10 := by
  unfold rightB at h
  rw [Bool.and_eq_true] at h
  exact of_decide_eq_true h.1
theorem cell_two (w : World) (o : Obj) (x : Value) (T : TypeId) : ((w.alloc o).alloc (.cells #[x] T)).cell? ⟨w.heap.size + 1, 0, none⟩ = some x := by
  simp

set_option maxHeartbeats 1000000 in
theorem pstep_any (A : Nat → Addr) (B : Nat) (st : Bool) (v : Value) (l : List N.Item) (x c : Int) (w : World) (hv : ItemsAt w v l) (hz : l.length ≤ 16777216) (hE : E A B w) (hB : B ≤ w.heap.size) :
    Calls Tryz.prog 81 #[.agg #[.bool st, v], .int .i64 x, .int .i64 c] w fun e w' => e = .returned (stepV l st x c) ∧ Below w.heap.size w w' := by
  have hb0 := ((Below.refl w.heap.size w).alloc (Nat.le_refl _) (.cells #[.bool st, v] 49)).alloc (by simp) (.cells #[.int .i64 x] 2)
  have hcx := cell_two w (.cells #[.bool st, v] 49) (.int .i64 x) 2
  unfold stepV
  have HB0 := Box.mk hb0
  have HE := Box.mk hE
  have hE' := hE.below (hb0.mono hB)
  have hB' := Nat.le_trans hB hb0.size
  cases hok : setOk l x with
  | true =>
    have hok' := hok
    unfold setOk at hok
    simp only [Bool.and_eq_true, decide_eq_true_eq] at hok
    obtain ⟨⟨hr, h0⟩, h1⟩ := hok
    have hm := most_small l (right_len hr)
    obtain ⟨S, rfl⟩ := Int.eq_ofNat_of_zero_le h0
    have HO := Box.mk (open_set_ok A B st v l _ (hv.below hb0) hz hE' hB' ⟨hr⟩ (w.heap.size + 1) S hcx h0 h1)
    clear hb0 hE hv hr hE' hB' hok' hcx
    go_enter Tryz.func81, Tryz.ntmps81
    go_wp2_with fail
    refine HO.out.mono ?_; rintro e w1 ⟨hb1, r, m, rfl, hrn⟩
    have HB1 := Box.mk hb1
    have HR := Box.mk hrn
    clear hb1 hrn
    go_wp2_with fail
    refine (step_any r m st v l _ HR.out S (by omega) c).mono ?_; rintro e w2 ⟨rfl, hb2⟩
    have HB2 := Box.mk hb2
    clear hb2
    go_wp2_with fail
    go_ret2
    exact ⟨by simp, HB0.out.trans ((HB1.out.trans (HB2.out.mono HB1.out.size)).mono HB0.out.size)⟩
  | false =>
    have HO := Box.mk (show Calls Tryz.prog 76 #[.agg #[.bool st, v], .slice (some ⟨w.heap.size + 1, 0, none⟩) 1 1] _ (openNo _ A) from by
      cases hr : rightB l with
      | false => exact open_bad A B st v l _ (hv.below hb0) hz hE' hB' ⟨hr⟩ _
      | true =>
        refine open_set_bad A B st v l _ (hv.below hb0) hz hE' hB' ⟨hr⟩ (w.heap.size + 1) x hcx ?_
        unfold setOk at hok
        rw [hr] at hok
        simp at hok
        omega)
    clear hb0 hE hv hE' hB' hok hcx
    go_enter Tryz.func81, Tryz.ntmps81
    go_wp2_with fail
    refine HO.out.mono ?_; rintro e w1 ⟨hb1, rfl⟩
    have HT := Box.mk (told_any A B w1 ((HE.out.below (HB0.out.mono hB)).below (hb1.mono (Nat.le_trans hB HB0.out.size))))
    have HB1 := Box.mk hb1
    unfold errV at HT ⊢
    clear hb1
    go_wp2_with fail
    refine HT.out.mono ?_; rintro e w2 ⟨rfl, rfl⟩
    go_wp2_with fail
    go_ret2
    exact ⟨rfl, HB0.out.trans (HB1.out.mono HB0.out.size)⟩

set_option maxHeartbeats 1000000 in
theorem pdone_any (A : Nat → Addr) (B : Nat) (st : Bool) (v : Value) (l : List N.Item) (x : Int) (w : World) (hv : ItemsAt w v l) (hz : l.length ≤ 16777216) (hE : E A B w) (hB : B ≤ w.heap.size) :
    Calls Tryz.prog 82 #[.agg #[.bool st, v], .int .i64 x] w fun e w' => e = .returned (.bool (doneV l x)) ∧ Below w.heap.size w w' := by
  have hb0 := ((Below.refl w.heap.size w).alloc (Nat.le_refl _) (.cells #[.bool st, v] 49)).alloc (by simp) (.cells #[.int .i64 x] 2)
  have hcx := cell_two w (.cells #[.bool st, v] 49) (.int .i64 x) 2
  unfold doneV
  have HB0 := Box.mk hb0
  have hE' := hE.below (hb0.mono hB)
  have hB' := Nat.le_trans hB hb0.size
  cases hok : setOk l x with
  | true =>
    have hok' := hok
    unfold setOk at hok
    simp only [Bool.and_eq_true, decide_eq_true_eq] at hok
    obtain ⟨⟨hr, h0⟩, h1⟩ := hok
    have hm := most_small l (right_len hr)
    obtain ⟨S, rfl⟩ := Int.eq_ofNat_of_zero_le h0
    have HO := Box.mk (open_set_ok A B st v l _ (hv.below hb0) hz hE' hB' ⟨hr⟩ (w.heap.size + 1) S hcx h0 h1)
    clear hb0 hE hv hr hE' hB' hok' hcx
    go_enter Tryz.func82, Tryz.ntmps82
    go_wp2_with fail
    refine HO.out.mono ?_; rintro e w1 ⟨hb1, r, m, rfl, hrn⟩
    have HB1 := Box.mk hb1
    have HR := Box.mk hrn
    clear hb1 hrn
    go_wp2_with fail
    refine (isDone_any r m st v l _ HR.out S (by omega)).mono ?_; rintro e w2 ⟨rfl, rfl⟩
    go_wp2_with fail
    go_ret
    exact ⟨by simp, HB0.out.trans (HB1.out.mono HB0.out.size)⟩
  | false =>
    have HO := Box.mk (show Calls Tryz.prog 76 #[.agg #[.bool st, v], .slice (some ⟨w.heap.size + 1, 0, none⟩) 1 1] _ (openNo _ A) from by
      cases hr : rightB l with
      | false => exact open_bad A B st v l _ (hv.below hb0) hz hE' hB' ⟨hr⟩ _
      | true =>
        refine open_set_bad A B st v l _ (hv.below hb0) hz hE' hB' ⟨hr⟩ (w.heap.size + 1) x hcx ?_
        unfold setOk at hok
        rw [hr] at hok
        simp at hok
        omega)
    clear hb0 hE hv hE' hB' hok hcx
    go_enter Tryz.func82, Tryz.ntmps82
    go_wp2_with fail
    refine HO.out.mono ?_; rintro e w1 ⟨hb1, rfl⟩
    have HB1 := Box.mk hb1
    unfold errV
    clear hb1
    go_wp2_with fail
    go_ret
    exact ⟨rfl, HB0.out.trans (HB1.out.mono HB0.out.size)⟩
end Go.Proofs.YtjemdepcaaadiaaGreatDoor

/- RULES CUT: the laws' Few (layer 11) and few (layer 12). -/
namespace Go.Proofs.YtjemdepcaaadiaaGreatDoor
open Go.RowKit Go.Shelf
attribute [local go_sem] Oper.semAt_some

def cutR (x : D.Rule) : D.Rule := ((x.1.1, x.1.2.take 12), (x.2.1.1, x.2.1.2.take 12), x.2.2)
def few11 (l : List D.Rule) : List D.Rule := (l.take 42).map cutR
def few12 (l : List D.Rule) : List D.Rule := (few11 l).take 6
theorem take_snoc'' {α : Type} (xs : List α) (k : Nat) (x : α) (h : xs[k]? = some x) : xs.take (k + 1) = xs.take k ++ [x] := by rw [List.take_add_one, h]; rfl
/-- a rule's cells -/
def ruleC (y : D.Rule × Value × Value) : List Value := [.bool y.1.1.1, y.2.1, .bool y.1.2.1.1, y.2.2, .bool y.1.2.2]
theorem pushRule : PushesN Tryz.prog 41 51 5 72 := .mk' (z := .agg #[.bool false, .slice none 0 0, .bool false, .slice none 0 0, .bool false]) Tryz.underlying41 (by kernel_rfl) rfl
/-- rules with the values of their sides, that can be read -/
def RulesV (W : World) (L : List (D.Rule × Value × Value)) : Prop := ∀ y ∈ L, ItemsAt W y.2.1 y.1.1.2 ∧ ItemsAt W y.2.2 y.1.2.1.2
theorem rules_own {W : World} {base n : Nat} {v : Value} {L : List (D.Rule × Value × Value)} (h : W.ownsRow base 51 5 v n (L.flatMap ruleC)) (hn : n = L.length) (hV : RulesV W L) : RulesAt W v (L.map (·.1)) := by
  subst hn
  rcases h.2 with ⟨h1, h2⟩ | ⟨g, cap, cur, h1, h2, h3, h4, h5, h6, h7⟩
  · rw [List.eq_nil_of_length_eq_zero h2]; exact .inl ⟨h1, rfl⟩
  · refine .inr ⟨g, 0, none, cap, by rw [h1, List.length_map], by rw [List.length_map]; exact h4, h5, fun hn => ⟨rfl, (Array.getElem?_eq_some_iff.1 h3).1, fun i x hx => ?_⟩⟩
    rw [List.getElem?_map] at hx
    obtain ⟨y, hy, rfl⟩ := Option.map_eq_some_iff.1 hx
    have hc : ∀ (j : Nat) (u : Value), j < 5 → (ruleC y)[j]? = some u → W.cell? ⟨g, 0 + i * 5 + j, none⟩ = some u := by
      intro j u hj hu
      have h8 := h.cells (g := g) (by rw [h1]; rfl) (i * 5 + j) u (by rw [flat_get ruleC 5 L i j y (fun z _ => rfl) hy hj]; exact hu)
      rw [show (⟨g, 0, none⟩ : Addr).add (i * 5 + j) = ⟨g, 0 + i * 5 + j, none⟩ by unfold Addr.add; split <;> simp_all] at h8
      exact h8
    obtain ⟨k1, k2⟩ := hV y (List.mem_of_getElem? hy)
    exact ⟨y.2.1, y.2.2, hc 0 _ (by omega) rfl, hc 1 _ (by omega) rfl, hc 2 _ (by omega) rfl, hc 3 _ (by omega) rfl, hc 4 _ (by omega) rfl, k1, k2⟩

set_option maxRecDepth 100000 in
set_option maxHeartbeats 8000000 in
theorem few11_any (v : Value) (l : List D.Rule) (w : World) (hv : RulesAt w v l) :
    Calls Tryz.prog 35 #[v] w fun e w' => Below w.heap.size w w' ∧ ∃ v', e = .returned v' ∧ ∃ L : List (D.Rule × Value × Value), L.map (·.1) = few11 l ∧ RulesV w L ∧ w'.ownsRow w.heap.size 51 5 v' L.length (L.flatMap ruleC) := by
  have HR := Box.mk hv
  obtain ⟨ao, cap, rfl⟩ := hv.slice
  obtain ⟨m, hm⟩ : ∃ m, m = min l.length 42 := ⟨_, rfl⟩
  have HM := Box.mk hm
  have hm1 : m ≤ l.length := by omega
  have hm2 : m ≤ 42 := by omega
  have HS0 := Box.mk (show ∃ L : List (D.Rule × Value × Value), L.length = 0 ∧ L.map (·.1) = (l.take 0).map cutR ∧ RulesV w L ∧ Sep [Pc.row w.heap.size 51 5 (.slice none 0 0) 0 (L.flatMap ruleC), Pc.old w.heap.size w] w from
    ⟨[], rfl, rfl, fun y hy => absurd hy List.not_mem_nil, (Sep.start w).nil_row _ _ _⟩)
  clear hv hm
  go_enter Tryz.func35, Tryz.ntmps35
  go_wp2_with fail
  go_loopw [3, 4] (fun o i wr => ∃ k : Nat, k ≤ m ∧ i = .int .i64 k ∧ Box (∃ L : List (D.Rule × Value × Value), L.length = k ∧ L.map (·.1) = (l.take k).map cutR ∧ RulesV w L ∧ Sep [Pc.row w.heap.size 51 5 o k (L.flatMap ruleC), Pc.old w.heap.size w] wr)) (fun _ i _ => m - (intOf i).toNat)
  case atStart => exact ⟨0, by omega, rfl, HS0⟩
  case round =>
    obtain ⟨k, hk, rfl, hbox⟩ := hrel
    obtain ⟨L, hL1, hL2, hL3, hsep⟩ := hbox.out
    have HBR := Box.mk (show Below w.heap.size w wr from hsep.bel (by simp))
    have HL1 := Box.mk hL1
    have HL2 := Box.mk hL2
    have HL3 := Box.mk hL3
    have HSEP := Box.mk hsep
    obtain ⟨oo, oc, rfl, ho1, ho2⟩ := own_shape (hsep.row 0 rfl)
    clear hbox hL1 hL2 hL3 hsep
    by_cases hlt : k < m
    · obtain ⟨x, hx⟩ : ∃ x, l[k]? = some x := ⟨_, List.getElem?_eq_getElem (by omega)⟩
      obtain ⟨bg, off, cap2, hg1, hg2, hg3, hg4, hg5⟩ := (HR.out.below HBR.out).get (by rintro rfl; simp at hm1; omega)
      obtain ⟨rfl, rfl⟩ : ao = some ⟨bg, off, none⟩ ∧ cap = cap2 := by injection hg1 with h1 h2 h3; exact ⟨h1, h3⟩
      obtain ⟨vl, vr, hc0, hc1, hc2, hc3, hc4, hil, hir⟩ := hg5 k x hx
      obtain ⟨bg', off', cap2', kg1, kg2, kg3, kg4, kg5⟩ := HR.out.get (by rintro rfl; simp at hm1; omega)
      obtain ⟨rfl, rfl⟩ : bg = bg' ∧ off = off' := by injection kg1 with h1 h2 h3; injection h1 with h1; injection h1 with h1 h2; exact ⟨h1, h2⟩
      obtain ⟨vl', vr', kc0, kc1, kc2, kc3, kc4, kil, kir⟩ := kg5 k x hx
      obtain rfl : vl = vl' := by
        have := (HBR.out.cell (p := ⟨bg, off + k * 5 + 1, none⟩) kg4).trans kc1
        rw [hc1] at this; simpa using this
      obtain rfl : vr = vr' := by
        have := (HBR.out.cell (p := ⟨bg, off + k * 5 + 3, none⟩) kg4).trans kc3
        rw [hc3] at this; simpa using this
      have HCL := Box.mk (fun W (h : Below w.heap.size w W) => cut_any x.1.1 vl x.1.2 W (kil.below h))
      have HCR := Box.mk (fun W (h : Below w.heap.size w W) => cut_any x.2.1.1 vr x.2.1.2 W (kir.below h))
      have HKL := Box.mk kil
      have HKR := Box.mk kir
      have HTK := Box.mk (take_snoc'' l k x hx)
      have hk42 : k < 42 := by omega
      have hkl : k < l.length := by omega
      have hkc : k < cap := by omega
      unfold maxLen at hg3
      obtain ⟨al, cl, rfl⟩ := kil.slice
      obtain ⟨ar, cr, rfl⟩ := kir.slice
      obtain ⟨⟨stl, il⟩, ⟨str, ir⟩, br⟩ := x
      simp only at hc0 hc1 hc2 hc3 hc4 HCL HCR HKL HKR
      have HFF := Box.mk (show ∀ W, Below wr.heap.size wr W → W.cell? ⟨bg, off + k * 5, none⟩ = some (.bool stl) ∧ W.cell? ⟨bg, off + k * 5 + 1, none⟩ = some (.slice al il.length cl) ∧ W.cell? ⟨bg, off + k * 5 + 2, none⟩ = some (.bool str) ∧ W.cell? ⟨bg, off + k * 5 + 3, none⟩ = some (.slice ar ir.length cr) ∧ W.cell? ⟨bg, off + k * 5 + 4, none⟩ = some (.bool br) from fun W h =>
        ⟨(h.cell (p := ⟨bg, off + k * 5, none⟩) hg4).trans hc0, (h.cell (p := ⟨bg, off + k * 5 + 1, none⟩) hg4).trans hc1, (h.cell (p := ⟨bg, off + k * 5 + 2, none⟩) hg4).trans hc2, (h.cell (p := ⟨bg, off + k * 5 + 3, none⟩) hg4).trans hc3, (h.cell (p := ⟨bg, off + k * 5 + 4, none⟩) hg4).trans hc4⟩)
      have HBD := Box.mk (show Below wr.heap.size wr wr.drew from ⟨rfl, rfl, rfl, Nat.le_refl _, fun _ _ => rfl⟩)
      clear hg1 hg5 kg1 kg5 hil hir kil kir kc0 kc1 kc2 kc3 kc4 hc0 hc1 hc2 hc3 hc4 hx kg2 kg3
      go_wp2_with fail
      refine wp_region_K 20 (fun W => W.cell? ⟨bg, off + k * 5, none⟩ = some (.bool stl) ∧ W.cell? ⟨bg, off + k * 5 + 1, none⟩ = some (.slice al il.length cl) ∧ W.cell? ⟨bg, off + k * 5 + 2, none⟩ = some (.bool str) ∧ W.cell? ⟨bg, off + k * 5 + 3, none⟩ = some (.slice ar ir.length cr) ∧ W.cell? ⟨bg, off + k * 5 + 4, none⟩ = some (.bool br)) (by kernel_rfl) ?_
      have HF0 := Box.mk (HFF.out _ HBD.out)
      refine wpAnyK_take (i := 0) (v := ?_) rfl (by kernel_rfl) (fun _ _ _ h => h) (Or.inl ⟨by kernel_rfl, ?_⟩) HF0.out ?_
      rotate_left
      · first | (intro w hw; obtain ⟨q1, q2, q3, q4, q5⟩ := hw; go_simp; done) | (intro w hw; obtain ⟨q1, q2, q3, q4, q5⟩ := hw; go_simp; with_reducible rfl)
      refine wpAnyK_take (i := 1) (v := ?_) rfl (by kernel_rfl) (fun _ _ _ h => h) (Or.inl ⟨by kernel_rfl, ?_⟩) HF0.out ?_
      rotate_left
      · first | (intro w hw; obtain ⟨q1, q2, q3, q4, q5⟩ := hw; go_simp; done) | (intro w hw; obtain ⟨q1, q2, q3, q4, q5⟩ := hw; go_simp; with_reducible rfl)
      refine wpAnyK_take (i := 2) (v := ?_) rfl (by kernel_rfl) (fun _ _ _ h => h) (Or.inl ⟨by kernel_rfl, ?_⟩) HF0.out ?_
      rotate_left
      · first | (intro w hw; obtain ⟨q1, q2, q3, q4, q5⟩ := hw; go_simp; done) | (intro w hw; obtain ⟨q1, q2, q3, q4, q5⟩ := hw; go_simp; with_reducible rfl)
      refine wpAnyK_take (i := 3) (v := ?_) rfl (by kernel_rfl) (fun _ _ _ h => h) (Or.inl ⟨by kernel_rfl, ?_⟩) HF0.out ?_
      rotate_left
      · first | (intro w hw; obtain ⟨q1, q2, q3, q4, q5⟩ := hw; go_simp; done) | (intro w hw; obtain ⟨q1, q2, q3, q4, q5⟩ := hw; go_simp; with_reducible rfl)
      refine wpAnyK_take (i := 4) (v := ?_) rfl (by kernel_rfl) (fun _ _ _ h => h) (Or.inl ⟨by kernel_rfl, ?_⟩) HF0.out ?_
      rotate_left
      · first | (intro w hw; obtain ⟨q1, q2, q3, q4, q5⟩ := hw; go_simp; done) | (intro w hw; obtain ⟨q1, q2, q3, q4, q5⟩ := hw; go_simp; with_reducible rfl)
      refine wpAnyK_take (i := 5) (v := ?_) rfl (by kernel_rfl) (fun _ _ _ h => h) (Or.inl ⟨by kernel_rfl, ?_⟩) HF0.out ?_
      rotate_left
      · first | (intro w hw; obtain ⟨q1, q2, q3, q4, q5⟩ := hw; go_simp; done) | (intro w hw; obtain ⟨q1, q2, q3, q4, q5⟩ := hw; go_simp; with_reducible rfl)
      refine wpAnyK_take (i := 7) (v := ?_) rfl (by kernel_rfl) (fun _ _ _ h => h) (Or.inl ⟨by kernel_rfl, ?_⟩) HF0.out ?_
      rotate_left
      · first | (intro w hw; obtain ⟨q1, q2, q3, q4, q5⟩ := hw; go_simp; done) | (intro w hw; obtain ⟨q1, q2, q3, q4, q5⟩ := hw; go_simp; with_reducible rfl)
      refine wpAnyK_take (i := 8) (v := ?_) rfl (by kernel_rfl) (fun _ _ _ h => h) (Or.inl ⟨by kernel_rfl, ?_⟩) HF0.out ?_
      rotate_left
      · first | (intro w hw; obtain ⟨q1, q2, q3, q4, q5⟩ := hw; go_simp; done) | (intro w hw; obtain ⟨q1, q2, q3, q4, q5⟩ := hw; go_simp; with_reducible rfl)
      refine wpAnyK_take (i := 9) (v := ?_) rfl (by kernel_rfl) (fun _ _ _ h => h) (Or.inl ⟨by kernel_rfl, ?_⟩) HF0.out ?_
      rotate_left
      · first | (intro w hw; obtain ⟨q1, q2, q3, q4, q5⟩ := hw; go_simp; done) | (intro w hw; obtain ⟨q1, q2, q3, q4, q5⟩ := hw; go_simp; with_reducible rfl)
      refine wpAnyK_take (i := 10) (v := ?_) rfl (by kernel_rfl) (fun _ _ _ h => h) (Or.inl ⟨by kernel_rfl, ?_⟩) HF0.out ?_
      rotate_left
      · first | (intro w hw; obtain ⟨q1, q2, q3, q4, q5⟩ := hw; go_simp; done) | (intro w hw; obtain ⟨q1, q2, q3, q4, q5⟩ := hw; go_simp; with_reducible rfl)
      refine wpAnyK_take (i := 11) (v := ?_) rfl (by kernel_rfl) (fun _ _ _ h => h) (Or.inl ⟨by kernel_rfl, ?_⟩) HF0.out ?_
      rotate_left
      · first | (intro w hw; obtain ⟨q1, q2, q3, q4, q5⟩ := hw; go_simp; done) | (intro w hw; obtain ⟨q1, q2, q3, q4, q5⟩ := hw; go_simp; with_reducible rfl)
      refine wpAnyK_take (i := 13) (v := ?_) rfl (by kernel_rfl) (fun _ _ _ h => h) (Or.inl ⟨by kernel_rfl, ?_⟩) HF0.out ?_
      rotate_left
      · first | (intro w hw; obtain ⟨q1, q2, q3, q4, q5⟩ := hw; go_simp; done) | (intro w hw; obtain ⟨q1, q2, q3, q4, q5⟩ := hw; go_simp; with_reducible rfl)
      refine wpAnyK_take (i := 14) (v := ?_) rfl (by kernel_rfl) (fun _ _ _ h => h) (Or.inl ⟨by kernel_rfl, ?_⟩) HF0.out ?_
      rotate_left
      · first | (intro w hw; obtain ⟨q1, q2, q3, q4, q5⟩ := hw; go_simp; done) | (intro w hw; obtain ⟨q1, q2, q3, q4, q5⟩ := hw; go_simp; with_reducible rfl)
      refine wpAnyK_take (i := 15) (v := ?_) rfl (by kernel_rfl) (fun _ _ _ h => h) (Or.inl ⟨by kernel_rfl, ?_⟩) HF0.out ?_
      rotate_left
      · first | (intro w hw; obtain ⟨q1, q2, q3, q4, q5⟩ := hw; go_simp; done) | (intro w hw; obtain ⟨q1, q2, q3, q4, q5⟩ := hw; go_simp; with_reducible rfl)
      refine wpAnyK_take (i := 16) (v := ?_) rfl (by kernel_rfl) (fun _ _ _ h => h) (Or.inl ⟨by kernel_rfl, ?_⟩) HF0.out ?_
      rotate_left
      · first | (intro w hw; obtain ⟨q1, q2, q3, q4, q5⟩ := hw; go_simp; done) | (intro w hw; obtain ⟨q1, q2, q3, q4, q5⟩ := hw; go_simp; with_reducible rfl)
      refine wpAnyK_take (i := 17) (v := ?_) rfl (by kernel_rfl) (fun _ _ _ h => h) (Or.inl ⟨by kernel_rfl, ?_⟩) HF0.out ?_
      rotate_left
      · first | (intro w hw; obtain ⟨q1, q2, q3, q4, q5⟩ := hw; go_simp; done) | (intro w hw; obtain ⟨q1, q2, q3, q4, q5⟩ := hw; go_simp; with_reducible rfl)
      refine wpAnyK_one (i := 6) (by kernel_rfl) rfl (fun KK hKK => ?_)
      go_simp
      go_wp2_with (go_at_call 47; refine (HCL.out _ (HBR.out.trans (HBD.out.mono HBR.out.size))).mono ?_; rintro e w7 ⟨⟨vl2, rfl, hvl⟩, hb7⟩)
      have HB7 := Box.mk (show Below wr.heap.size wr w7 from HBD.out.trans (hb7.mono (Nat.le_refl _)))
      have HVL := Box.mk (hvl w HKL.out)
      clear hb7 hvl
      refine hKK.out _ _ (fun _ => HFF.out _ HB7.out) ?_
      clear hKK KK
      refine wpAnyK_one (i := 12) (by kernel_rfl) rfl (fun KK hKK => ?_)
      go_simp
      go_wp2_with (go_at_call 47; refine (HCR.out _ (HBR.out.trans (HB7.out.mono HBR.out.size))).mono ?_; rintro e w8 ⟨⟨vr2, rfl, hvr⟩, hb8⟩)
      have HB8 := Box.mk (show Below wr.heap.size wr w8 from HB7.out.trans (hb8.mono HB7.out.size))
      have HVR := Box.mk (hvr w HKR.out)
      clear hb8 hvr
      refine hKK.out _ _ (fun _ => HFF.out _ HB8.out) ?_
      clear hKK KK
      obtain ⟨al2, cl2, hv2⟩ := HVL.out.slice
      obtain ⟨ar2, cr2, hv3⟩ := HVR.out.slice
      generalize (il.take 12).length = nl at hv2
      generalize (ir.take 12).length = nr at hv3
      subst hv2
      subst hv3
      refine wpAnyK_one (i := 18) (by kernel_rfl) rfl (fun KK hKK => ?_)
      go_simp
      refine hKK.out _ _ (fun _ => HFF.out _ HB8.out) ?_
      clear hKK KK
      refine wpAnyK_one (i := 19) (by kernel_rfl) rfl (fun KK hKK => ?_)
      go_simp
      refine hKK.out _ _ (fun _ => HFF.out _ (HB8.out.alloc HB8.out.size _)) ?_
      clear hKK KK
      have HS8 := Box.mk (HSEP.out.below HB8.out)
      have hbs8 : w.heap.size ≤ w8.heap.size := Nat.le_trans HBR.out.size HB8.out.size
      refine wpAnyK_one (i := 20) (by kernel_rfl) rfl (fun KK hKK => ?_)
      refine step_pushN (cs := ruleC (cutR ((stl, il), (str, ir), br), .slice al2 nl cl2, .slice ar2 nr cr2)) rfl _ _ 41 rfl pushRule (by decide) HS8.out 0 rfl (by kernel_rfl) (by kernel_rfl) rfl (by intro u hu; simp only [ruleC, List.mem_cons, List.not_mem_nil, or_false] at hu; rcases hu with rfl | rfl | rfl | rfl | rfl <;> rfl) (by omega) (by omega) hbs8 ?_
      rintro v' w9 hS9 -
      refine hKK.out _ _ (fun h => by cases h) ?_
      clear hKK KK
      refine wpAnyK_one (i := 21) (by kernel_rfl) rfl (fun KK hKK => ?_)
      go_simp
      refine hKK.out _ _ (fun h => by cases h) ?_
      clear hKK KK
      refine wpAnyK_done (by kernel_rfl) ?_ _
      refine NoPanic.normal ?_
      have HN := Box.mk (show ∃ L : List (D.Rule × Value × Value), L.length = k + 1 ∧ L.map (·.1) = (l.take (k + 1)).map cutR ∧ RulesV w L ∧ Sep [Pc.row w.heap.size 51 5 v' (k + 1) (L.flatMap ruleC), Pc.old w.heap.size w] w9 by
        refine ⟨L ++ [(cutR ((stl, il), (str, ir), br), .slice al2 nl cl2, .slice ar2 nr cr2)], ?_, ?_, ?_, ?_⟩
        · rw [List.length_append, HL1.out]; rfl
        · rw [List.map_append, HL2.out, HTK.out, List.map_append]; rfl
        · intro y hy
          rcases List.mem_append.1 hy with h | h
          · exact HL3.out y h
          · rw [List.mem_singleton.1 h]; exact ⟨HVL.out, HVR.out⟩
        · rw [List.flatMap_append, List.flatMap_singleton]; exact hS9)
      clear hS9
      go_wp2_with fail
      go_roundw
      case rel => exact ⟨k + 1, hlt, by go_num, HN⟩
      case measure => simp [intOf]; omega
    · have hkm : k = m := by omega
      have HKM := Box.mk hkm
      have hd : l.length ≤ k ∨ (k < l.length ∧ 42 ≤ k) := by have := HM.out; omega
      clear hkm
      rcases hd with hd | ⟨hd, hd2⟩
      all_goals
        go_wp2_with fail
        go_ret
        refine ⟨HBR.out, _, rfl, L, ?_, HL3.out, by rw [HL1.out]; exact HSEP.out.row 0 rfl⟩
        rw [HL2.out]
        unfold few11
        rw [HKM.out, HM.out]
        rcases Nat.le_total l.length 42 with h | h
        · rw [Nat.min_eq_left h, List.take_of_length_le h, List.take_length]
        · rw [Nat.min_eq_right h]
end Go.Proofs.YtjemdepcaaadiaaGreatDoor

/- WHAT PACKAGE nfa GIVES: Run, Fits. -/
namespace Go.Proofs.YtjemdepcaaadiaaGreatDoor
open Go.RowKit

theorem own_below {w w' : World} {B : Nat} {T : TypeId} {v : Value} {n : Nat} {bs : List Value} (h : w.ownsRow B T 1 v n bs) (hb : Below w.heap.size w w') : w'.ownsRow B T 1 v n bs := by
  have hl := h.lt
  refine ⟨h.1, ?_⟩
  rcases h.2 with h2 | ⟨g, cap, cur, h2, h3, h4, h5⟩
  · exact .inl h2
  · exact .inr ⟨g, cap, cur, h2, h3, (hb.block g (hl g (by rw [h2]; rfl)).2).trans h4, h5⟩
def natV (n : Nat) : Value := .int .i64 n
theorem i64_info : (Tryz.prog.info? 2).map (fun i => (i.zero, i.size, i.bytes)) = some (some (.int .i64 0), 1, 8) := by kernel_rfl
theorem bool_info : (Tryz.prog.info? 4).map (fun i => (i.zero, i.size, i.bytes)) = some (some (.bool false), 1, 1) := by kernel_rfl

/-- the sets behind none, one, two .. numbers, as numbers -/
def setsOf (l : List N.Item) (st : Bool) (cs : List Int) : List Int := (N.runs l st (N.clo l 0) cs cs.length).map fun n : Nat => (n : Int)
def runPost (l : List N.Item) (st : Bool) (cs : List Int) (w : World) (e : Ending) (w' : World) : Prop :=
  Below w.heap.size w w' ∧ (rightB l = true → ∃ v, e = .returned (.tuple #[v, .int .i64 0]) ∧ IntsAt w' v (setsOf l st cs)) ∧ (rightB l = false → e = .returned (.tuple #[.slice none 0 0, .int .i64 80]))

theorem lt_62 (l : List N.Item) (hl : l.length ≤ 10) (S : Nat) (hS : S < 2 ^ (2 * l.length + 1)) : S < 4611686018427387904 := by
  have : 2 ^ (2 * l.length + 1) ≤ 2 ^ 21 := Nat.pow_le_pow_right (by omega) (by omega)
  omega

/-- a value that reads as these answers -/
def BoolsAt (w : World) (v : Value) (xs : List Bool) : Prop :=
  (v = .slice none 0 0 ∧ xs = []) ∨ ∃ b off sp cap, v = .slice (some ⟨b, off, sp⟩) xs.length cap ∧ xs.length ≤ cap ∧ cap ≤ maxLen ∧ (xs ≠ [] → sp = none ∧ b < w.heap.size ∧ ∀ i x, xs[i]? = some x → w.cell? ⟨b, off + i, none⟩ = some (.bool x))
theorem BoolsAt.below {w w' : World} {v : Value} {xs : List Bool} (h : BoolsAt w v xs) (hb : Below w.heap.size w w') : BoolsAt w' v xs := by
  rcases h with h | ⟨b, off, sp, cap, h1, h2, h3, h4⟩
  · exact .inl h
  · exact .inr ⟨b, off, sp, cap, h1, h2, h3, fun hn => ⟨(h4 hn).1, Nat.lt_of_lt_of_le (h4 hn).2.1 hb.size, fun i x hx => (hb.cell (p := ⟨b, off + i, none⟩) (h4 hn).2.1).trans ((h4 hn).2.2 i x hx)⟩⟩
theorem BoolsAt.get {w : World} {v : Value} {xs : List Bool} (h : BoolsAt w v xs) (hn : xs ≠ []) :
    ∃ b off cap, v = .slice (some ⟨b, off, none⟩) xs.length cap ∧ xs.length ≤ cap ∧ cap ≤ maxLen ∧ b < w.heap.size ∧ ∀ i x, xs[i]? = some x → w.cell? ⟨b, off + i, none⟩ = some (.bool x) := by
  rcases h with ⟨_, h⟩ | ⟨b, off, sp, cap, h1, h2, h3, h4⟩
  · exact absurd h hn
  · obtain ⟨rfl, h5, h6⟩ := h4 hn
    exact ⟨b, off, cap, h1, h2, h3, h5, h6⟩
theorem BoolsAt.of_own {w : World} {base n : Nat} {T : TypeId} {v : Value} {xs : List Bool} (h : w.ownsRow base T 1 v n (xs.map Value.bool)) (hn : n = xs.length) : BoolsAt w v xs := by
  subst hn
  have hl := h.lt
  rcases h.2 with ⟨h1, h2⟩ | ⟨g, cap, cur, rfl, h2, h3, h4, h5, h6, h7⟩
  · exact .inl ⟨h1, List.eq_nil_of_length_eq_zero h2⟩
  · refine .inr ⟨g, 0, none, cap, rfl, h4, h5, fun _ => ⟨rfl, (hl g rfl).2, fun i x hx => ?_⟩⟩
    have := h.cells (g := g) rfl i (.bool x) (by rw [List.getElem?_map, hx]; rfl)
    rw [show (⟨g, 0 + i, none⟩ : Addr) = (⟨g, 0, none⟩ : Addr).add i by unfold Addr.add; by_cases h0 : i = 0 <;> simp [h0]]
    exact this
theorem BoolsAt.slice {w : World} {v : Value} {xs : List Bool} (h : BoolsAt w v xs) : ∃ a cap, v = .slice a xs.length cap := by
  rcases h with ⟨rfl, rfl⟩ | ⟨b, off, sp, cap, rfl, _⟩
  · exact ⟨_, _, rfl⟩
  · exact ⟨_, _, rfl⟩
theorem ownsRow_shape {w : World} {base : Nat} {e : TypeId} {size : Nat} {v : Value} {n : Nat} {xs : List Value} (h : w.ownsRow base e size v n xs) : ∃ a c, v = .slice a n c := by
  rcases h.2 with ⟨rfl, rfl⟩ | ⟨g, cap, cur, rfl, _⟩
  · exact ⟨_, _, rfl⟩
  · exact ⟨_, _, rfl⟩

def fitsOf (l : List N.Item) (st : Bool) (cs : List Int) : List Bool := (setsOf l st cs).map (doneV l)
def fitsPost (l : List N.Item) (st : Bool) (cs : List Int) (w : World) (e : Ending) (w' : World) : Prop :=
  Below w.heap.size w w' ∧ (rightB l = true → ∃ v, e = .returned (.tuple #[v, .int .i64 0]) ∧ BoolsAt w' v (fitsOf l st cs)) ∧ (rightB l = false → e = .returned (.tuple #[.slice none 0 0, .int .i64 80]))
theorem setsOf_len (l : List N.Item) (st : Bool) (cs : List Int) : (setsOf l st cs).length = cs.length + 1 := by simp [setsOf, N.runs_len]
theorem map_snoc {α β : Type} (f : α → β) (xs : List α) (k : Nat) (x : α) (h : xs[k]? = some x) : (xs.take (k + 1)).map f = (xs.take k).map f ++ [f x] := by
  rw [List.take_add_one, h, List.map_append]; rfl

end Go.Proofs.YtjemdepcaaadiaaGreatDoor

/- SETS OF STATES SIDE BY SIDE, AS ARRAYS; the builder that lies in memory; something of each rule. -/
namespace Go.Proofs.YtjemdepcaaadiaaGreatDoor
open Go.RowKit

def keyL (s : D.Sets) : List Value := (s ++ List.replicate (40 - s.length) 0).map natV
/-- sets, one of each rule, as an array: zeros behind them -/
def keyC (s : D.Sets) : Array Value := (keyL s).toArray
theorem keyL_len (s : D.Sets) (h : s.length ≤ 40) : (keyL s).length = 40 := by unfold keyL; rw [List.length_map, List.length_append, List.length_replicate]; omega
theorem keyC_size (s : D.Sets) (h : s.length ≤ 40) : (keyC s).size = 40 := by unfold keyC; rw [List.size_toArray, keyL_len s h]
theorem keyC_get (s : D.Sets) (i x : Nat) (h : s[i]? = some x) : (keyC s)[i]? = some (.int .i64 x) := by
  unfold keyC keyL
  have hi := (List.getElem?_eq_some_iff.1 h).1
  rw [List.getElem?_toArray, List.getElem?_map, List.getElem?_append_left hi, h]
  rfl
theorem keyC_set (s : D.Sets) (x : Nat) (h : s.length < 40) : (keyC s).setIfInBounds s.length (.int .i64 x) = keyC (s ++ [x]) := by
  unfold keyC keyL
  rw [List.setIfInBounds_toArray]
  congr 1
  obtain ⟨d, hd⟩ : ∃ d, 40 - s.length = d + 1 := ⟨40 - s.length - 1, by omega⟩
  have hd2 : 40 - (s ++ [x]).length = d := by simp; omega
  rw [hd, hd2, List.map_append, List.map_append, List.map_append, List.replicate_succ, List.map_cons, List.append_assoc, List.set_append, if_neg (by simp), List.length_map, Nat.sub_self]
  rfl
theorem keyC_one (s : D.Sets) : (keyC s).all (·.oneCell') = true := by
  rw [Array.all_eq_true_iff_forall_mem]
  intro v hv
  unfold keyC keyL at hv
  rw [List.mem_toArray] at hv
  obtain ⟨x, -, rfl⟩ := List.mem_map.1 hv
  rfl
theorem keyInfo : (Tryz.prog.info? 92).map (·.size) = some 40 := by kernel_rfl
theorem load_key {W : World} {b : Nat} {s : D.Sets} (hs : s.length ≤ 40) (h : Blk W b 92 (keyC s)) : (loadVar 92 ⟨b, 0, none⟩).run Tryz.prog W = .ok (.agg (keyC s)) W :=
  run_loadVar_row W b _ _ (keyC s) (0, 0) _ h Tryz.underlying92 rfl (by rw [keyInfo, keyC_size s hs])
theorem store_key {W : World} {b : Nat} {s s' : D.Sets} (hs : s.length ≤ 40) (hs' : s'.length ≤ 40) (h : Blk W b 92 (keyC s)) : (storeVar 92 ⟨b, 0, none⟩ (.agg (keyC s'))).run Tryz.prog W = .ok () (W.setRow b (keyC s')) :=
  run_storeVar_row W b _ _ (keyC s) (keyC s') h (by rw [keyInfo, keyC_size s' hs']) (by rw [keyC_size s hs, keyC_size s' hs']) (keyC_one s')

theorem zero40 : (#[.int .i64 0, .int .i64 0, .int .i64 0, .int .i64 0, .int .i64 0, .int .i64 0, .int .i64 0, .int .i64 0, .int .i64 0, .int .i64 0, .int .i64 0, .int .i64 0, .int .i64 0, .int .i64 0, .int .i64 0, .int .i64 0, .int .i64 0, .int .i64 0, .int .i64 0, .int .i64 0, .int .i64 0, .int .i64 0, .int .i64 0, .int .i64 0, .int .i64 0, .int .i64 0, .int .i64 0, .int .i64 0, .int .i64 0, .int .i64 0, .int .i64 0, .int .i64 0, .int .i64 0, .int .i64 0, .int .i64 0, .int .i64 0, .int .i64 0, .int .i64 0, .int .i64 0, .int .i64 0] : Array Value) = keyC [] := rfl
theorem below_setRow {B : Nat} {a w : World} (h : Below B a w) {g : Nat} (hg : B ≤ g) (cs : Array Value) : Below B a (w.setRow g cs) :=
  ⟨h.os, h.tape, h.output, by simpa [World.setRow] using h.size, fun i hi => (setRow_other w g i cs (by omega)).trans (h.block i hi)⟩
theorem Blk.setRow {w : World} {g : Nat} {t : TypeId} {cs : Array Value} (h : Blk w g t cs) (cs' : Array Value) : Blk (w.setRow g cs') g t cs' := setRow_heap w g cs cs' t (0, 0) h
theorem Blk.setRow_far {w : World} {g k : Nat} {t : TypeId} {cs : Array Value} (h : Blk w g t cs) (hk : g ≠ k) (cs' : Array Value) : Blk (w.setRow k cs') g t cs := (setRow_other w k g cs' hk).trans h
/-- the builder's block -/
def Bb (w : World) (b : Nat) (nv fv rv : Value) (n m : Nat) (tv : Value) : Prop := Blk w b 68 #[nv, fv, rv, .int .i64 n, .map (some m), tv]

set_option maxHeartbeats 4000000 in
theorem each_any (b : Nat) (nv fv rv : Value) (n m : Nat) (tv : Value) (rs : List D.Rule) (g : Nat) (lb : Array Value) (f : Nat → Nat) (w : World) (hb : Bb w b nv fv rv n m tv) (hr : RulesAt w rv rs) (hl : rs.length ≤ 40)
    (eg : ∀ args w, (callFunc g args).run Tryz.prog w = .ok (.enter g args) w)
    (hc : ∀ (i : Nat) (x : D.Rule) (vl vr : Value) (W : World), rs[i]? = some x → Below w.heap.size w W → ItemsAt W vl x.1.2 → ItemsAt W vr x.2.1.2 → Calls Tryz.prog g (#[.int .i64 (i : Int), ruleV x vl vr] ++ lb) W fun e W' => e = .returned (.int .i64 (f i)) ∧ Below W.heap.size W W') :
    Calls Tryz.prog 49 #[.pointer (some ⟨b, 0, none⟩), .func (.func g) #[] lb] w fun e w' => e = .returned (.agg (keyC ((List.range rs.length).map f))) ∧ Below w.heap.size w w' := by
  have HC := Box.mk hc
  clear hc
  have HR := Box.mk hr
  have HB := Box.mk hb
  obtain ⟨ao, cap, rfl⟩ := hr.slice
  have c1 : w.cell? ⟨b, 2, none⟩ = some (.slice ao rs.length cap) := (hb.cell 2).trans rfl
  have l0 := hb.lt
  clear hr hb
  go_enter Tryz.func49, Tryz.ntmps49
  go_wp2
  rw [zero40]
  have HO0 := Box.mk (show Blk ((w.alloc (.cells (keyC []) 92)).alloc (.cells (keyC []) 92)) w.heap.size 92 (keyC []) from (Blk.new w _ _).alloc _)
  have HO1 := Box.mk (show Blk ((w.alloc (.cells (keyC []) 92)).alloc (.cells (keyC []) 92)) (w.heap.size + 1) 92 (keyC []) by
    have := Blk.new (w.alloc (.cells (keyC []) 92)) 92 (keyC [])
    simpa using this)
  have HW0 := Box.mk (show Below w.heap.size w ((w.alloc (.cells (keyC []) 92)).alloc (.cells (keyC []) 92)) from ((Below.refl _ _).alloc (Nat.le_refl _) _).alloc (by simp) _)
  clear c1
  go_loopw [13] (fun i wr => ∃ k : Nat, k ≤ rs.length ∧ i = .int .i64 k ∧ Box (Blk wr w.heap.size 92 (keyC [])) ∧ Box (Blk wr (w.heap.size + 1) 92 (keyC ((List.range k).map f))) ∧ Box (Below w.heap.size w wr)) (fun i _ => rs.length - (intOf i).toNat)
  case atStart => exact ⟨0, by omega, rfl, HO0, HO1, HW0⟩
  case round =>
    obtain ⟨k, hk, rfl, ho0, ho1, hb⟩ := hrel
    clear HO0 HO1 HW0
    by_cases hlt : k < rs.length
    · obtain ⟨x, hx⟩ : ∃ x, rs[k]? = some x := ⟨_, List.getElem?_eq_getElem hlt⟩
      have HX := Box.mk hx
      obtain ⟨bg, off, cap2, hg1, hg2, hg3, hg4, hg5⟩ := (HR.out.below hb.out).get (by rintro rfl; simp at hlt)
      obtain ⟨rfl, rfl⟩ : ao = some ⟨bg, off, none⟩ ∧ cap = cap2 := by injection hg1 with h1 h2 h3; exact ⟨h1, h3⟩
      obtain ⟨vl, vr, hc0, hc1, hc2, hc3, hc4, hil, hir⟩ := hg5 k x hx
      have HCC := Box.mk (fun W (h : Below wr.heap.size wr W) => HC.out k x vl vr W HX.out (hb.out.trans (h.mono hb.out.size)) (hil.below h) (hir.below h))
      unfold maxLen at hg3
      obtain ⟨al, cl, rfl⟩ := hil.slice
      obtain ⟨ar, cr, rfl⟩ := hir.slice
      clear hx hg1 hg5 hil hir
      unfold ruleV at HCC
      obtain ⟨⟨stl, il⟩, ⟨str, ir⟩, br⟩ := x
      simp only at HCC hc0 hc1 hc2 hc3 hc4
      have hb40 : k < 40 := by omega
      have HNX := Box.mk (show ∀ w1 : World, Below (wr.heap.size + 1) (wr.alloc (.cells #[.bool stl, .slice al il.length cl, .bool str, .slice ar ir.length cr, .bool br] 51)) w1 → Box (Blk w1 w.heap.size 92 (keyC [])) ∧ Box (Blk w1 (w.heap.size + 1) 92 (keyC ((List.range k).map f))) ∧ Box (Below w.heap.size w w1) from fun w1 h => by
        have h' : Below wr.heap.size wr w1 := ((Below.refl _ _).alloc (Nat.le_refl _) _).trans (h.mono (by omega))
        exact ⟨⟨ho0.out.below h' ho0.out.lt⟩, ⟨ho1.out.below h' ho1.out.lt⟩, ⟨hb.out.trans (h'.mono hb.out.size)⟩⟩)
      have HST := Box.mk (show ∀ w1 : World, Blk w1 (w.heap.size + 1) 92 (keyC ((List.range k).map f)) → Blk (w1.setCell ⟨w.heap.size + 1, k, none⟩ (.int .i64 (f k))) (w.heap.size + 1) 92 (keyC ((List.range (k + 1)).map f)) from fun w1 h => by
        have := h.set_ k (.int .i64 (f k))
        have e := keyC_set ((List.range k).map f) (f k) (by simp; omega)
        rw [show ((List.range k).map f).length = k by simp] at e
        rw [e] at this
        rw [List.range_succ, List.map_append]
        exact this)
      have hb40 : k < 40 := by omega
      go_wp2_with fail
      refine (HCC.out _ ((Below.refl _ _).alloc (Nat.le_refl _) _)).mono ?_; rintro e w1 ⟨rfl, hb1⟩
      obtain ⟨h0, h1, hbw⟩ := HNX.out w1 (by simpa using hb1)
      have hc1' : ∃ v, w1.cell? ⟨w.heap.size + 1, k, none⟩ = some v := by
        have := h1.out.cell k
        rw [Array.getElem?_eq_getElem (by rw [keyC_size _ (by simp; omega)]; omega)] at this
        exact ⟨_, this⟩
      obtain ⟨vv, hvv⟩ := hc1'
      have hff := h1.out.frozen k
      have hHB := Box.mk hb1
      clear hb1
      go_wp2_with fail
      go_roundw
      case rel => exact ⟨k + 1, hlt, by go_num, ⟨h0.out.far (by simp) _⟩, ⟨HST.out _ h1.out⟩, ⟨hbw.out.setCell (by simp) _⟩⟩
      case measure => simp [intOf]; omega
    · obtain rfl : k = rs.length := by omega
      have hs40 : ((List.range rs.length).map f).length ≤ 40 := by simp; omega
      have HI := Box.mk (show (Tryz.prog.info? 92).map (·.size) = some (keyC ((List.range rs.length).map f)).size by rw [keyInfo, keyC_size _ hs40])
      have HSZ := Box.mk (show (keyC []).size = (keyC ((List.range rs.length).map f)).size by rw [keyC_size _ hs40]; rfl)
      clear hs40
      go_wp2_with (first
        | (refine wpList_load_row rfl 92 _ rfl (w.heap.size + 1) rfl 92 (keyC ((List.range rs.length).map f)) (0, 0) _ ho1.out Tryz.underlying92 rfl HI.out ?_)
        | (refine wpList_store_row rfl 92 _ _ rfl w.heap.size (keyC ((List.range rs.length).map f)) rfl rfl 92 (keyC []) ho0.out HI.out HSZ.out (keyC_one _) ?_))
      exact bodyPost_ret (v := .agg (keyC ((List.range rs.length).map f))) (results_cell_row Tryz.results49 _ _ w.heap.size 92 _ (0, 0) _ rfl (ho0.out.setRow _) Tryz.underlying92 rfl HI.out) rfl ⟨rfl, below_setRow hb.out (Nat.le_refl _) _⟩
end Go.Proofs.YtjemdepcaaadiaaGreatDoor

/- THE SETS THAT WERE MET, AS A MAP WHOSE KEYS ARE ARRAYS. -/
namespace Go.Proofs.YtjemdepcaaadiaaGreatDoor
open Go.RowKit Go.WideMaps

theorem keyArr : ArrKey Tryz.prog 92 2 40 := ⟨Tryz.underlying92, by kernel_rfl, by kernel_rfl, by kernel_rfl⟩
theorem keyLaw : KeyLaw Tryz.prog 92 := keyArr.law
theorem keyType1 : Tryz.prog.keyType 92 = true := by kernel_rfl
theorem typesSize : ∃ m, Tryz.prog.types.size = m + 1 := ⟨303 - 101, by kernel_rfl⟩
theorem mapM_all {α β : Type} (f : α → Option β) : ∀ (l : List α), (∀ x ∈ l, ∃ y, f x = some y) → ∃ ys, l.mapM f = some ys
  | [], _ => ⟨[], rfl⟩
  | x :: t, h => by
    obtain ⟨y, hy⟩ := h x (List.mem_cons_self ..)
    obtain ⟨ys, hys⟩ := mapM_all f t (fun z hz => h z (List.mem_cons_of_mem _ hz))
    exact ⟨y :: ys, by rw [List.mapM_cons, hy, hys]; rfl⟩
/-- numbers that an integer holds -/
def Small (s : D.Sets) : Prop := ∀ x ∈ s, x < 4611686018427387904
theorem keyL_get (s : D.Sets) (h : s.length ≤ 40) (hx : Small s) (i : Nat) (hi : i < 40) : ∃ x : Nat, (keyL s)[i]? = some (.int .i64 x) ∧ x < 4611686018427387904 := by
  unfold keyL
  rw [List.getElem?_map]
  rcases Nat.lt_or_ge i s.length with h1 | h1
  · rw [List.getElem?_append_left h1, List.getElem?_eq_getElem h1]
    exact ⟨_, rfl, hx _ (List.getElem_mem h1)⟩
  · rw [List.getElem?_append_right h1, List.getElem?_replicate, if_pos (by omega)]
    exact ⟨0, rfl, by decide⟩
theorem key_of (s : D.Sets) (h : s.length ≤ 40) (hx : Small s) : ∃ l, keyOf Tryz.prog 92 (.agg (keyC s)) = some l := by
  have hsz := keyC_size s h
  obtain ⟨m, hm⟩ := typesSize
  unfold keyOf
  simp only [keyArr.hu]
  rw [if_pos (by simp [keyType1, Value.formed, keyArr.hu, keyArr.size, hsz]), hm]
  unfold Program.keyLits
  simp only [keyArr.hu, Value.cells]
  rw [if_pos (by rw [keyArr.size]; simpa using hsz)]
  obtain ⟨ys, hys⟩ := mapM_all (fun i => Tryz.prog.keyLits (m + 1) 2 (((keyC s).toList.drop (i * Tryz.prog.cellsOf 2)).take (Tryz.prog.cellsOf 2))) (List.range 40) (fun i hi => by
    rw [List.mem_range] at hi
    obtain ⟨x, h1, h2⟩ := keyL_get s h hx i hi
    refine ⟨[.int .i64 x], ?_⟩
    have hl : ((keyC s).toList.drop (i * Tryz.prog.cellsOf 2)).take (Tryz.prog.cellsOf 2) = [.int .i64 (x : Int)] := by
      rw [keyArr.one, Nat.mul_one]
      show ((keyL s).drop i).take 1 = _
      have hlt := (List.getElem?_eq_some_iff.1 h1).1
      rw [List.drop_eq_getElem_cons hlt, (List.getElem?_eq_some_iff.1 h1).2]
      rfl
    rw [hl]
    unfold Program.keyLits
    rw [Tryz.underlying2]
    have hwf : (Lit.int .i64 (x : Int)).wf = true := by
      simp only [Lit.wf, Bool.and_eq_true, decide_eq_true_eq]
      show (-9223372036854775808 : Int) ≤ x ∧ (x : Int) ≤ 9223372036854775807
      omega
    simp [hwf])
  rw [hys]
  exact ⟨_, rfl⟩
theorem keyC_inj {s s' : D.Sets} (h : s.length = s'.length) (e : keyC s = keyC s') : s = s' := by
  apply List.ext_getElem? 
  intro i
  rcases Nat.lt_or_ge i s.length with h1 | h1
  · have h2 : i < s'.length := by omega
    have e1 := keyC_get s i _ (List.getElem?_eq_getElem h1)
    have e2 := keyC_get s' i _ (List.getElem?_eq_getElem h2)
    rw [e, e2] at e1
    rw [List.getElem?_eq_getElem h1, List.getElem?_eq_getElem h2]
    simp only [Option.some.injEq, Value.int.injEq, true_and] at e1 ⊢
    omega
  · rw [List.getElem?_eq_none h1, List.getElem?_eq_none (by omega)]

/-- the map's entries: what was met, in its order -/
def ents (t : List D.Sets) : Array MapEntry := (t.mapIdx fun i s => (⟨.agg (keyC s), .int .i64 (i : Int), i⟩ : MapEntry)).toArray
theorem ents_snoc (t : List D.Sets) (s : D.Sets) : ents (t ++ [s]) = (ents t).push ⟨.agg (keyC s), .int .i64 (t.length : Int), t.length⟩ := by
  unfold ents
  rw [List.mapIdx_concat, List.push_toArray]
theorem ents_get (t : List D.Sets) (i : Nat) : (ents t).toList[i]? = (t[i]?).map fun s => (⟨.agg (keyC s), .int .i64 (i : Int), i⟩ : MapEntry) := by
  unfold ents
  simp
/-- what was met: sets of so many rules, each once -/
structure Fine (n : Nat) (t : List D.Sets) : Prop where
  n40 : n ≤ 40
  len : ∀ s ∈ t, s.length = n
  small : ∀ s ∈ t, Small s
  once : t.Nodup
theorem find_met {n : Nat} {t : List D.Sets} (F : Fine n t) {s : D.Sets} (hl : s.length = n) (hs : Small s) (W : World) :
    (s ∉ t ∧ (Instr.findKey 92 (.agg (keyC s)) (ents t).toList).run Tryz.prog W = .ok none W) ∨
    (s ∈ t ∧ (Instr.findKey 92 (.agg (keyC s)) (ents t).toList).run Tryz.prog W = .ok (some (D.place t s, .int .i64 (D.place t s : Int))) W) := by
  obtain ⟨lx, hlx⟩ := key_of s (by rw [hl]; exact F.n40) hs
  have hmem : ∀ e ∈ (ents t).toList, ∃ (i : Nat) (s' : D.Sets), t[i]? = some s' ∧ e = ⟨.agg (keyC s'), .int .i64 (i : Int), i⟩ := by
    intro e he
    obtain ⟨i, hi⟩ := List.mem_iff_getElem?.1 he
    rw [ents_get] at hi
    obtain ⟨s', h1, h2⟩ := Option.map_eq_some_iff.1 hi
    exact ⟨i, s', h1, h2.symm⟩
  rcases keyLaw.find W hlx (ents t).toList (fun e he => by
    obtain ⟨i, s', h1, rfl⟩ := hmem e he
    exact key_of s' (by rw [F.len s' (List.mem_of_getElem? h1)]; exact F.n40) (F.small s' (List.mem_of_getElem? h1))) with ⟨h1, h2⟩ | ⟨j, e, h1, h2, h3⟩
  · left
    refine ⟨fun hm => ?_, h1⟩
    obtain ⟨i, hi⟩ := List.mem_iff_getElem?.1 hm
    exact h2 _ (List.mem_of_getElem? (by rw [ents_get, hi]; rfl)) rfl
  · right
    rw [ents_get] at h2
    obtain ⟨s', h4, rfl⟩ := Option.map_eq_some_iff.1 h2
    simp only [Value.agg.injEq] at h3
    obtain rfl := keyC_inj (by rw [F.len s' (List.mem_of_getElem? h4), hl]) h3
    have hm := List.mem_of_getElem? h4
    have hj : j = D.place t s' := by
      obtain ⟨h7, h8⟩ := List.getElem?_eq_some_iff.1 h4
      have h9 := List.Nodup.idxOf_getElem F.once j h7
      rw [h8] at h9
      exact h9.symm
    subst hj
    exact ⟨hm, h1⟩
theorem look_met {n : Nat} {t : List D.Sets} (F : Fine n t) {s : D.Sets} (hl : s.length = n) (hs : Small s) (W : World) (m : Nat) (hg : W.heap[m]? = some (.map (ents t) t.length)) :
    (s ∉ t ∧ (Instr.lookup 65 (.map (some m)) (.agg (keyC s)) true).run Tryz.prog W = .ok (.tuple #[.int .i64 0, .bool false]) W) ∨
    (s ∈ t ∧ (Instr.lookup 65 (.map (some m)) (.agg (keyC s)) true).run Tryz.prog W = .ok (.tuple #[.int .i64 (D.place t s : Int), .bool true]) W) := by
  obtain ⟨lx, hlx⟩ := key_of s (by rw [hl]; exact F.n40) hs
  have hck := keyLaw.check W (ents t).isEmpty hlx
  have hz : (zeroValue 3).run Tryz.prog W = .ok (.int .i64 0) W := by kernel_rfl
  rcases find_met F hl hs W with ⟨h1, h2⟩ | ⟨h1, h2⟩
  · left
    refine ⟨h1, ?_⟩
    unfold Instr.lookup
    simp only [Sem.run_bind, run_underlying Tryz.underlying65, Result.andThen, MapKept.run_getObj_map hg, hck, h2, hz, Sem.run_pure, if_true]
  · right
    refine ⟨h1, ?_⟩
    unfold Instr.lookup
    simp only [Sem.run_bind, run_underlying Tryz.underlying65, Result.andThen, MapKept.run_getObj_map hg, hck, h2, Sem.run_pure, if_true]
theorem put_met {n : Nat} {t : List D.Sets} (F : Fine n t) {s : D.Sets} (hl : s.length = n) (hs : Small s) (hn : s ∉ t) (W : World) (m : Nat) (hg : W.heap[m]? = some (.map (ents t) t.length)) :
    (Instr.mapUpdate 65 (.map (some m)) (.agg (keyC s)) (.int .i64 (t.length : Int))).run Tryz.prog W = .ok () (W.putObj m (.map (ents (t ++ [s])) (t ++ [s]).length)) := by
  obtain ⟨lx, hlx⟩ := key_of s (by rw [hl]; exact F.n40) hs
  have hck := keyLaw.check W false hlx
  rcases find_met F hl hs W with ⟨h1, h2⟩ | ⟨h1, h2⟩
  · rw [ents_snoc, List.length_append]
    unfold Instr.mapUpdate
    simp only [Sem.run_bind, run_underlying Tryz.underlying65, Result.andThen, MapKept.run_getObj_map hg, hck, h2, MapKept.run_setObj_map _ hg]
    rfl
  · exact absurd h1 hn
theorem add_fine {n : Nat} {t : List D.Sets} (F : Fine n t) {s : D.Sets} (hl : s.length = n) (hs : Small s) : Fine n (D.add t s) :=
  ⟨F.n40, D.add_all F.len hl, D.add_all F.small hs, D.add_nodup F.once⟩
end Go.Proofs.YtjemdepcaaadiaaGreatDoor

/- THE NUMBER OF SOME SETS: the builder's look at what it met. -/
namespace Go.Proofs.YtjemdepcaaadiaaGreatDoor
open Go.RowKit

section
variable {P : Program} {ops : Array Oper} {w : World}
theorem wpStill_row {Q : Act → Prop} {a : Act} {o : Oper} {rest : List Oper} (hgd : o.guard = none) (ty : TypeId) (x : Operand) (ho : o.op = .load ty x)
    (g : Nat) (hx : a.eval x = .pointer (some ⟨g, 0, none⟩)) (t : TypeId) (cs : Array Value) (fr : Nat × Nat) (d : TypeDesc) (hg : w.heap[g]? = some (.cells cs t fr))
    (hu : P.underlying ty = some d) (hd : (match d with | .struct _ | .array _ _ => true | _ => false) = true) (hi : (P.info? ty).map (·.size) = some cs.size)
    (h : wpStill P ops w Q rest (a.put o.dst (.agg cs))) : wpStill P ops w Q (o :: rest) a := by
  refine wpStill_step fun K hK => ?_
  rw [if_pos (by simp [Region.wanted, hgd])]
  unfold Oper.still execOp
  simp only [ho, hx, Instr.loadAt, Instr.sureAddr, Sem.run_bind, Sem.run_pure, Result.andThen_ok, run_loadVar_row w g t ty cs fr d hg hu hd hi, Oper.stillUpon_value]
  exact hK _ h
end

section
variable {P : Program} {ops : Array Oper} {o : Oper} {a : Act} {w : World} {K : Act → World → Prop} {Q : Exit → Act → World → Prop} {E' : Prop}
theorem step_row (hgd : o.guard = none) (ty : TypeId) (x : Operand) (ho : o.op = .load ty x)
    (g : Nat) (hx : a.eval x = .pointer (some ⟨g, 0, none⟩)) (t : TypeId) (cs : Array Value) (fr : Nat × Nat) (d : TypeDesc) (hg : w.heap[g]? = some (.cells cs t fr))
    (hu : P.underlying ty = some d) (hd : (match d with | .struct _ | .array _ _ => true | _ => false) = true) (hi : (P.info? ty).map (·.size) = some cs.size)
    (h : K (a.put o.dst (.agg cs)) w) : if Region.wanted o (yielded ops a.tmps) = true then Oper.wp P o a w K Q else E' := by
  rw [if_pos (by simp [Region.wanted, hgd])]
  exact wp_load_row ty x ho g hx t cs fr d hg hu hd hi h
theorem step_append (hgd : o.guard = none) (s x : Operand) (t : TypeId)
    (ho : o.op = .call { callee := .builtin .append, args := #[s, x], argTypes := #[t, t] })
    (base : Nat) (e : TypeId) (i : TypeInfo) (z : Value) (size bytes : Nat) (ht : P.underlying t = some (.slice e)) (hi : P.info? e = some i) (hz : i.zero = some z)
    (hsize : i.size = size) (hby : i.bytes = bytes) (hzs : z.cells.size = size) (hsz : 0 < size)
    (v : Value) (n : Nat) (xs : List Value) (hs : a.eval s = v) (hown : w.ownsRow base e size v n xs)
    (ad : Addr) (m c : Nat) (news : List Value) (hx : a.eval x = .slice (some ad) m c) (hl : news.length = m * size) (hnews : ∀ j u, news[j]? = some u → w.cell? (ad.add j) = some u) (h1 : ∀ u ∈ news, u.oneCell' = true)
    (h63 : n + m ≤ maxLen) (hbytes : (n + m) * bytes ≤ 140737488355328) (hbase : base ≤ w.heap.size)
    (h : ∀ v' w', w'.ownsRow base e size v' (n + m) (xs ++ news) → w.grownBy w' v.ownBlock → (v' = .slice none 0 0 ↔ v = .slice none 0 0 ∧ m = 0) → (v'.ownBlock = v.ownBlock ∨ v'.ownBlock = some w.heap.size) → K (a.put o.dst v') w') :
    if Region.wanted o (yielded ops a.tmps) = true then Oper.wp P o a w K Q else E' := by
  rw [if_pos (by simp [Region.wanted, hgd])]
  obtain ⟨v', w', hr, h2, h3, h4, h5⟩ := run_append_own_at (P := P) w base t o.type e i z size bytes ht hi hz hsize hby hzs hsz v n xs hown ad m c news hl hnews h1 h63 hbytes hbase
  unfold Oper.wp execOp
  simp only [ho, resolve, invoke, builtin, Sem.run_bind, Sem.run_pure, Result.andThen_ok, List.map_toArray, List.map_cons, List.map_nil, hs, hx, hr]
  exact h v' w' h2 h3 h4 h5
end

theorem liInfo : (Tryz.prog.info? 92).map (fun i => (i.zero, i.size, i.bytes)) = some (some (.agg (keyC [])), 40, 320) := by kernel_rfl
theorem keyL_one (s : D.Sets) : ∀ u ∈ keyL s, u.oneCell' = true := by
  intro u hu
  unfold keyL at hu
  obtain ⟨x, -, rfl⟩ := List.mem_map.1 hu
  rfl
theorem news_key (s : D.Sets) (W : World) : ∀ j u, (keyL s)[j]? = some u → (W.alloc (.cells (keyC s) 92)).cell? ((⟨W.heap.size, 0, none⟩ : Addr).add j) = some u := by
  intro j u hu
  rw [Addr.add_mid, Nat.zero_add, (Blk.new W _ (keyC s)).cell j]
  unfold keyC
  simpa using hu
/-- a builder that lies in memory: what it met, and what is to do -/
structure Mets (w : World) (base b m : Nat) (nv fv rv : Value) (n k : Nat) (tv : Value) (t : List D.Sets) : Prop where
  blk : Bb w b nv fv rv n m tv
  met : w.heap[m]? = some (.map (ents t) t.length)
  row : w.ownsRow base 92 40 tv t.length (t.flatMap keyL)
  fine : Fine k t
  apart : ∀ g, tv.ownBlock = some g → g ≠ b ∧ g ≠ m
  bm : b ≠ m


theorem fold_set : ∀ (l : List Value) (k : Nat) (A : Array Value), A.size = k + l.length → (l.zipIdx k).foldl (fun (A : Array Value) (x : Value × Nat) => A.setIfInBounds x.2 x.1) A = (A.toList.take k ++ l).toArray
  | [], k, A, h => by
    have : A.toList.take k = A.toList := List.take_of_length_le (by simp at h ⊢; omega)
    rw [List.zipIdx_nil, List.foldl_nil, this]; simp
  | v :: r, k, A, h => by
    rw [List.zipIdx_cons, List.foldl_cons, fold_set r (k + 1) (A.setIfInBounds k v) (by simp at h ⊢; omega)]
    have hk : k < A.toList.length := by simp at h ⊢; omega
    congr 1
    rw [Array.toList_setIfInBounds, List.take_add_one, List.take_set, List.set_eq_of_length_le (by rw [List.length_take]; exact Nat.min_le_left _ _), List.getElem?_set_self (by simpa using hk)]
    simp
theorem fill_key (s : D.Sets) (hs : s.length ≤ 40) (z : Array Value) (hz : z.size = 40) : Instr.fill (fun i => some (i * 40, 40)) z [(0, .agg (keyC s))] = some (keyC s) := by
  have h40 := keyC_size s hs
  unfold Instr.fill
  simp only [Value.cells, h40, hz]
  have hf := fold_set (keyL s) 0 z (by rw [hz, keyL_len s hs])
  have : (keyC s).zipIdx.foldl (fun (cs : Array Value) (x : Value × Nat) => cs.setIfInBounds (0 * 40 + x.2) x.1) z = keyC s := by
    have e : (keyC s).zipIdx.foldl (fun (cs : Array Value) (x : Value × Nat) => cs.setIfInBounds (0 * 40 + x.2) x.1) z = ((keyL s).zipIdx 0).foldl (fun (A : Array Value) (x : Value × Nat) => A.setIfInBounds x.2 x.1) z := by
      rw [← Array.foldl_toList, Array.toList_zipIdx]
      simp [keyC]
    rw [e, hf]
    rfl
  simpa [Instr.fill] using this
theorem step_build {ops : Array Oper} {o : Oper} {a : Act} {w : World} {K : Act → World → Prop} {Q : Exit → Act → World → Prop} {E' : Prop} (hgd : o.guard = none) (x : Operand) (ho : o.op = .buildSlice 66 1 #[(0, x)]) (s : D.Sets) (hs : s.length ≤ 40) (hx : a.eval x = .agg (keyC s))
    (h : K (a.put o.dst (.slice (some ⟨w.heap.size, 0, none⟩) 1 1)) (w.alloc (.cells (keyC s) 92))) : if Region.wanted o (yielded ops a.tmps) = true then Oper.wp Tryz.prog o a w K Q else E' := by
  rw [if_pos (by simp [Region.wanted, hgd])]
  obtain ⟨i0, hi, hz0, hz1, hz2⟩ := info_parts liInfo
  refine wp_buildSlice 66 92 1 #[(0, x)] ho (keyC s) i0 _ Tryz.underlying66 hi hz0 (by rw [hz1]; decide) (by rw [hz1]; decide) ?_ h
  rw [hz1]
  have := fill_key s hs ((Array.range (1 * 40)).map ((Value.agg (keyC [])).cells[· % (Value.agg (keyC [])).cells.size]!)) (by simp)
  simpa [hx] using this

theorem putObj_size (w : World) (n : Nat) (o : Obj) : (w.putObj n o).heap.size = w.heap.size := by simp
theorem hW1_size {w W1 : World} {o : Obj} (h : W1 = w.alloc o) : W1.drew.heap.size = w.heap.size + 1 := by rw [h]; simp [World.drew]

theorem turns_grown {own : Nat → Prop} {A B : World} {row : Option Nat} (h : A.grownBy B row) (hr : ∀ k, row = some k → own k) : Turns own A B :=
  ⟨h.os, h.tape, h.output, h.size, fun k hk ho => h.block k hk (fun e => ho (hr k e.symm))⟩
def numPost (base b m : Nat) (nv fv rv : Value) (n k : Nat) (tv : Value) (t : List D.Sets) (s : D.Sets) (w : World) (e : Ending) (w' : World) : Prop :=
  e = .returned (.tuple #[.int .i64 (D.place t s : Int), .bool (decide (D.place t s < 300))]) ∧
    Turns (fun q => q = b ∨ q = m ∨ tv.ownBlock = some q) w w' ∧ ∃ tv', Mets w' base b m nv fv rv n k tv' (D.add t s) ∧ (tv'.ownBlock = tv.ownBlock ∨ ∃ g, tv'.ownBlock = some g ∧ w.heap.size ≤ g)
theorem number_end {base b m : Nat} {nv fv rv : Value} {n k : Nat} {ta : Option Addr} {tc : Nat} {t : List D.Sets} {s : D.Sets} {w W4 : World} (hM : Mets w base b m nv fv rv n k (.slice ta t.length tc) t) (hl : s.length = k) (hs : Small s) (hn : s ∉ t)
    (hT : Turns (fun q => q = m) w W4) (hB : Blk W4 b 68 #[nv, fv, rv, .int .i64 n, .map (some m), .slice ta t.length tc]) (hm : W4.heap[m]? = some (.map (ents (t ++ [s])) (t.length + 1))) (w1 : World) (g' cap' : Nat)
    (hown : w1.ownsRow base 92 40 (.slice (some ⟨g', 0, none⟩) (t.length + 1) cap') (t.length + 1) ((t ++ [s]).flatMap keyL)) (hgrow : (W4.alloc (.cells (keyC s) 92)).grownBy w1 (Value.slice ta t.length tc).ownBlock)
    (hat : (Value.slice (some ⟨g', 0, none⟩) (t.length + 1) cap').ownBlock = (Value.slice ta t.length tc).ownBlock ∨ (Value.slice (some ⟨g', 0, none⟩) (t.length + 1) cap').ownBlock = some (W4.alloc (.cells (keyC s) 92)).heap.size) :
    numPost base b m nv fv rv n k (.slice ta t.length tc) t s w (.returned (.tuple #[.int .i64 (t.length : Int), .bool (decide ((t.length : Int) < 300))])) (w1.setCell ⟨b, 5, none⟩ (.slice (some ⟨g', 0, none⟩) (t.length + 1) cap')) := by
  have hap := hM.apart
  have hbm := hM.bm
  have hlt := hM.row.lt
  have hmlt : m < w.heap.size := (Array.getElem?_eq_some_iff.1 hM.met).1
  have hblt : b < w.heap.size := hM.blk.lt
  have hsz := hT.size
  have hg' : (Value.slice ta t.length tc).ownBlock = some g' ∨ w.heap.size ≤ g' := by
    rcases hat with h | h
    · left; rw [← h]; rfl
    · right
      have : g' = (W4.alloc (.cells (keyC s) 92)).heap.size := by simpa [Value.ownBlock] using h
      rw [this]; simp; omega
  have hgb : g' ≠ b ∧ g' ≠ m := by
    rcases hg' with h | h
    · exact hap g' h
    · exact ⟨by omega, by omega⟩
  have hT1 : Turns (fun q => q = m ∨ (Value.slice ta t.length tc).ownBlock = some q) w w1 := ((hT.mono fun k h => .inl h).trans (Turns.alloc W4 _)).trans (turns_grown hgrow (fun k h => .inr h))
  have hT2 := (hT1.mono (own' := fun q => q = b ∨ q = m ∨ (Value.slice ta t.length tc).ownBlock = some q) fun k h => .inr h).trans (Turns.setCell w1 (p := ⟨b, 5, none⟩) (.inl rfl) (.slice (some ⟨g', 0, none⟩) (t.length + 1) cap'))
  have hadd : D.add t s = t ++ [s] := by unfold D.add; rw [if_neg hn]
  have hTb : Turns (fun q => q = b) w1 (w1.setCell ⟨b, 5, none⟩ (.slice (some ⟨g', 0, none⟩) (t.length + 1) cap')) := Turns.setCell (own := fun q => q = b) w1 (p := ⟨b, 5, none⟩) rfl _
  have hB1 := (hB.alloc (.cells (keyC s) 92)).grown hgrow (fun e => (hap b e.symm).1 rfl)
  have hm1 : w1.heap[m]? = some (.map (ents (t ++ [s])) (t.length + 1)) := (hgrow.block m (by simp; omega) (fun e => (hap m e.symm).2 rfl)).trans ((Below.heap_alloc _ _ _ (by omega)).trans hm)
  unfold numPost
  rw [D.place_new hn, hadd]
  refine ⟨ret2 rfl (vbool (by rw [Bool.eq_iff_iff]; simp only [decide_eq_true_eq]; omega)), hT2, .slice (some ⟨g', 0, none⟩) (t.length + 1) cap', ⟨hB1.set_ 5 _, ?_, ?_, ?_, ?_, hbm⟩, ?_⟩
  · rw [List.length_append]
    exact (hTb.block m (by have := (Array.getElem?_eq_some_iff.1 hm1).1; omega) (Ne.symm hbm)).trans hm1
  · rw [List.length_append]
    exact hTb.row hown (fun k h => by have : k = g' := by simpa [Value.ownBlock] using h.symm
                                      subst this; exact hgb.1)
  · have := add_fine hM.fine hl hs
    rwa [hadd] at this
  · intro g hg
    have : g = g' := by simpa [Value.ownBlock] using hg.symm
    subst this; exact hgb
  · rcases hg' with h | h
    · left; rw [h]; rfl
    · right; exact ⟨g', rfl, h⟩

theorem number_met {base b m : Nat} {nv fv rv : Value} {n k : Nat} {tv : Value} {t : List D.Sets} {s : D.Sets} {w W : World} (hM : Mets w base b m nv fv rv n k tv t) (hn : s ∈ t)
    (hw : Below w.heap.size w W) (hB : Blk W b 68 #[nv, fv, rv, .int .i64 n, .map (some m), tv]) (hm : W.heap[m]? = some (.map (ents t) t.length)) :
    numPost base b m nv fv rv n k tv t s w (.returned (.tuple #[.int .i64 (D.place t s : Int), .bool (decide ((D.place t s : Int) < 300))])) W := by
  unfold numPost
  have hadd : D.add t s = t := by unfold D.add; rw [if_pos hn]
  rw [hadd]
  have hT : Turns (fun _ => False) w W := Turns.of_below hw
  exact ⟨ret2 rfl (vbool (by rw [Bool.eq_iff_iff]; simp only [decide_eq_true_eq]; omega)), hT.mono (fun _ h => h.elim), tv, ⟨hB, hm, hT.row hM.row (fun _ _ h => h), hM.fine, hM.apart, hM.bm⟩, .inl rfl⟩

set_option maxRecDepth 100000 in
set_option maxHeartbeats 4000000 in
theorem number_any (base b m : Nat) (nv fv rv : Value) (n k : Nat) (tv : Value) (t : List D.Sets) (s : D.Sets) (w : World) (hM : Mets w base b m nv fv rv n k tv t) (hl : s.length = k) (hs : Small s) (ht : t.length ≤ 300) (hb : base ≤ w.heap.size) :
    Calls Tryz.prog 48 #[.pointer (some ⟨b, 0, none⟩), .agg (keyC s)] w (numPost base b m nv fv rv n k tv t s w) := by
  have hk := hM.fine.n40
  have HM := Box.mk hM
  have HSZ := Box.mk (keyC_size s (by omega))
  have HI := Box.mk (show (Tryz.prog.info? 92).map (·.size) = some (keyC s).size by rw [keyInfo, HSZ.out])
  obtain ⟨W1, hW1⟩ : ∃ W1, W1 = w.alloc (.cells (keyC s) 92) := ⟨_, rfl⟩
  have hb1 : Below w.heap.size w W1 := by rw [hW1]; exact (Below.refl _ _).alloc (Nat.le_refl _) _
  have HX := Box.mk (show Blk W1 w.heap.size 92 (keyC s) by rw [hW1]; exact Blk.new _ _ _)
  have HB1 := Box.mk (show Blk W1 b 68 #[nv, fv, rv, .int .i64 n, .map (some m), tv] from hM.blk.below hb1 hM.blk.lt)
  have HMET := Box.mk (show W1.heap[m]? = some (.map (ents t) t.length) from (hb1.block m (Array.getElem?_eq_some_iff.1 hM.met).1).trans hM.met)
  have HW1 := Box.mk hW1
  have HBW := Box.mk hb1
  have lb : b < W1.heap.size := HB1.out.lt
  have lx : w.heap.size < W1.heap.size := HX.out.lt
  clear hM hb1
  go_enter Tryz.func48, Tryz.ntmps48
  go_upto_region 1 with (fail)
  rw [← HW1.out]
  clear hW1
  refine wp_region_still_lit (by kernel_rfl) (by kernel_rfl) ?_
  change wpStill _ _ W1.drew (fun a' => Exit.then _ _ Exit.normal a' W1.drew) _ _
  obtain ⟨W2, hW2⟩ : ∃ W2, W2 = W1.drew := ⟨_, rfl⟩
  have HX2 := Box.mk (show Blk W2 w.heap.size 92 (keyC s) by rw [hW2]; exact HX.out)
  have HB2 := Box.mk (show Blk W2 b 68 #[nv, fv, rv, .int .i64 n, .map (some m), tv] by rw [hW2]; exact HB1.out)
  have HMET2 := Box.mk (show W2.heap[m]? = some (.map (ents t) t.length) by rw [hW2]; exact HMET.out)
  have HBW2 := Box.mk (show Below w.heap.size w W2 by rw [hW2]; exact below_drewN HBW.out 1)
  have HSZ2 := Box.mk (show W2.heap.size = w.heap.size + 1 by rw [hW2, hW1_size HW1.out])
  rw [← hW2]
  clear hW2 HX HB1 HMET HBW HW1 lb lx
  have c4 : W2.cell? ⟨b, 4, none⟩ = some (.map (some m)) := (HB2.out.cell 4).trans rfl
  rcases look_met HM.out.fine hl hs W2 m HMET2.out with ⟨hin, hlk⟩ | ⟨hin, hlk⟩
  · have HIN := Box.mk hin
    have hsm := Box.mk hs
    have hs40 := Box.mk (show s.length ≤ 40 by omega)
    have hzz := Box.mk (show (Value.agg (keyC [])).cells.size = 40 from rfl)
    obtain ⟨i0, hi, hz0, hz1, hz2⟩ := info_parts liInfo
    clear hin hs
    still_step
    still_step
    still_step
    still_step
    refine wpStill_row rfl 92 _ rfl w.heap.size rfl 92 (keyC s) (0, 0) _ HX2.out Tryz.underlying92 rfl HI.out ?_
    still_step
    still_step
    still_step
    still_step
    still_step
    still_step
    refine wpStill_nil ?_
    clear c4 hlk
    obtain ⟨ta, tc, rfl⟩ := ownsRow_shape HM.out.row
    have c5 : W2.cell? ⟨b, 5, none⟩ = some (.slice ta t.length tc) := (HB2.out.cell 5).trans rfl
    go_upto_region 4 with (fail)
    clear c5
    refine wp_region_still_tail 6 (by kernel_rfl) (by kernel_rfl) ?_
    simp only [List.take_succ_cons, List.take_zero, List.drop_succ_cons, List.drop_zero]
    change wpStill _ _ W2.drew (fun a' => wpList _ _ _ _ a' W2.drew) _ _
    obtain ⟨W3, hW3⟩ : ∃ W3, W3 = W2.drew := ⟨_, rfl⟩
    have HX3 := Box.mk (show Blk W3 w.heap.size 92 (keyC s) by rw [hW3]; exact HX2.out)
    have HB3 := Box.mk (show Blk W3 b 68 #[nv, fv, rv, .int .i64 n, .map (some m), .slice ta t.length tc] by rw [hW3]; exact HB2.out)
    have HMET3 := Box.mk (show W3.heap[m]? = some (.map (ents t) t.length) by rw [hW3]; exact HMET2.out)
    have HBW3 := Box.mk (show Below w.heap.size w W3 by rw [hW3]; exact below_drewN HBW2.out 1)
    have HSZ3 := Box.mk (show W3.heap.size = w.heap.size + 1 by rw [hW3]; exact HSZ2.out)
    rw [← hW3]
    clear hW3 HX2 HB2 HMET2 HBW2 HSZ2
    have c4 : W3.cell? ⟨b, 4, none⟩ = some (.map (some m)) := (HB3.out.cell 4).trans rfl
    have hput := put_met HM.out.fine hl hsm.out HIN.out W3 m HMET3.out
    still_step
    still_step
    still_step
    still_step
    refine wpStill_row rfl 92 _ rfl w.heap.size rfl 92 (keyC s) (0, 0) _ HX3.out Tryz.underlying92 rfl HI.out ?_
    still_step
    refine wpStill_nil ?_
    clear c4
    go_upto_region 5 with (fail)
    obtain ⟨W4, hW4⟩ : ∃ W4, W4 = (W3.putObj m (Obj.map (ents (t ++ [s])) (t.length + 1))).drew := ⟨_, rfl⟩
    have hmlt : m < w.heap.size := (Array.getElem?_eq_some_iff.1 HM.out.met).1
    have hblt : b < w.heap.size := HM.out.blk.lt
    have HT4 := Box.mk (show Turns (fun q => q = m) w W4 by rw [hW4]; exact ((Turns.of_below HBW3.out).trans (Turns.putObj (own := fun q => q = m) W3 rfl _)).trans (Turns.drew _))
    have HX4 := Box.mk (show Blk W4 w.heap.size 92 (keyC s) by rw [hW4]; exact (World.putObj_heap_other (by omega)).trans HX3.out)
    have HB4 := Box.mk (show Blk W4 b 68 #[nv, fv, rv, .int .i64 n, .map (some m), .slice ta t.length tc] by rw [hW4]; exact (World.putObj_heap_other HM.out.bm).trans HB3.out)
    have HMET4 := Box.mk (show W4.heap[m]? = some (.map (ents (t ++ [s])) (t.length + 1)) by rw [hW4]; exact World.putObj_heap_same (by have := HSZ3.out; omega))
    have HSZ4 := Box.mk (show W4.heap.size = w.heap.size + 1 by rw [hW4]; exact (putObj_size W3 m _).trans HSZ3.out)
    refine wp_region_any (by kernel_rfl) ?_
    change wpAny _ _ _ _ _ _ _ (World.drew _)
    rw [← hW4]
    clear hW4 HX3 HB3 HMET3 HBW3 HSZ3 hput
    have HR4 := Box.mk (HT4.out.row HM.out.row (fun g hg => (HM.out.apart g hg).2))
    have c5 : W4.cell? ⟨b, 5, none⟩ = some (.slice ta t.length tc) := (HB4.out.cell 5).trans rfl
    have HNB := Box.mk (show some b ≠ (Value.slice ta t.length tc).ownBlock from fun e => (HM.out.apart b e.symm).1 rfl)
    have HFIN := Box.mk (fun w1 g' cap' hown hgrow hat => number_end HM.out hl hsm.out HIN.out HT4.out HB4.out HMET4.out w1 g' cap' hown hgrow hat)
    refine wpAny_take (i := 0) (v := ?_) rfl (by kernel_rfl) (by kernel_rfl) (by kernel_rfl) (fun _ _ _ h => h) (Or.inl ⟨by kernel_rfl, ?_⟩) ?_
    rotate_left
    · first | (intro w; go_simp; done) | (intro w; go_simp; with_reducible rfl)
    refine wpAny_take (i := 1) (v := ?_) rfl (by kernel_rfl) (by kernel_rfl) (by kernel_rfl) (fun _ _ _ h => h) (Or.inl ⟨by kernel_rfl, ?_⟩) ?_
    rotate_left
    · first | (intro w; go_simp; done) | (intro w; go_simp; with_reducible rfl)
    refine wpAny_take (i := 2) (v := ?_) rfl (by kernel_rfl) (by kernel_rfl) (by kernel_rfl) (fun _ _ _ h => h) (Or.inl ⟨by kernel_rfl, ?_⟩) ?_
    rotate_left
    · first | (intro w; go_simp; done) | (intro w; go_simp; with_reducible rfl)
    refine wpAny_take (i := 3) (v := ?_) rfl (by kernel_rfl) (by kernel_rfl) (by kernel_rfl) (fun _ _ _ h => h) (Or.inl ⟨by kernel_rfl, ?_⟩) ?_
    rotate_left
    · first | (intro w; go_simp; done) | (intro w; go_simp; with_reducible rfl)
    have hbl4 : b < W4.heap.size := HB4.out.lt
    refine wpAny_ready (rs := [4, 5]) (by kernel_rfl) (by simp) ?_
    refine AllReady.cons rfl (fun K hK => ?_) (AllReady.cons rfl (fun K hK => ?_) AllReady.nil)
    · go_simp
      refine hK _ _ ?_
      clear hK K
      refine wpAny_ready (rs := [5]) (by kernel_rfl) (by simp) ?_
      refine AllReady.cons rfl (fun K hK => ?_) AllReady.nil
      refine step_row rfl 92 _ rfl w.heap.size (by kernel_rfl) 92 (keyC s) (0, 0) _ HX4.out Tryz.underlying92 rfl HI.out ?_
      refine hK _ _ ?_
      clear hK K
      refine wpAny_ready (rs := [6]) (by kernel_rfl) (by simp) ?_
      refine AllReady.cons rfl (fun K hK => ?_) AllReady.nil
      refine step_build rfl _ rfl s hs40.out (by kernel_rfl) ?_
      refine hK _ _ ?_
      clear hK K
      refine wpAny_ready (rs := [7]) (by kernel_rfl) (by simp) ?_
      refine AllReady.cons rfl (fun K hK => ?_) AllReady.nil
      refine step_append rfl _ _ 66 rfl base 92 i0 (.agg (keyC [])) 40 320 Tryz.underlying66 hi hz0 hz1 hz2 hzz.out (by decide) (.slice ta t.length tc) _ _ (by kernel_rfl) (HR4.out.alloc _) ⟨W4.heap.size, 0, none⟩ 1 1 (keyL s) (by kernel_rfl) (keyL_len s hs40.out) (news_key s W4) (keyL_one s) (by unfold maxLen; omega) (by omega) (by simp; have := HSZ4.out; omega) ?_
      intro v' w1 hown' hgrow _ hat
      obtain ⟨g', cap', rfl⟩ := ownsRow_succ hown'
      have HV1 := Box.mk ((HB4.out.alloc _).grown hgrow HNB.out)
      have HFIN1 := Box.mk (HFIN.out w1 g' cap' (by rw [List.flatMap_append]; simpa using hown') hgrow hat)
      have c5' := (HV1.out.cell 5).trans (show _ = some (Value.slice ta t.length tc) from rfl)
      have f5' := HV1.out.frozen 5
      clear hown' hgrow hat
      refine hK _ _ ?_
      clear hK K
      refine wpAny_take (i := 8) (v := ?_) rfl (by kernel_rfl) (by kernel_rfl) (by kernel_rfl) (fun _ _ _ h => h) (Or.inl ⟨by kernel_rfl, ?_⟩) ?_
      rotate_left
      · first | (intro w; go_simp; done) | (intro w; go_simp; with_reducible rfl)
      refine wpAny_take (i := 9) (v := ?_) rfl (by kernel_rfl) (by kernel_rfl) (by kernel_rfl) (fun _ _ _ h => h) (Or.inl ⟨by kernel_rfl, ?_⟩) ?_
      rotate_left
      · first | (intro w; go_simp; done) | (intro w; go_simp; with_reducible rfl)
      refine wpAny_ready (rs := [10]) (by kernel_rfl) (by simp) ?_
      refine AllReady.cons rfl (fun K hK => ?_) AllReady.nil
      go_simp
      refine hK _ _ ?_
      clear hK K
      refine wpAny_done (by kernel_rfl) ?_ _
      go_wp2_with fail
      go_ret2
      exact HFIN1.out
    · refine step_row rfl 92 _ rfl w.heap.size (by kernel_rfl) 92 (keyC s) (0, 0) _ HX4.out Tryz.underlying92 rfl HI.out ?_
      refine hK _ _ ?_
      clear hK K
      refine wpAny_ready (rs := [4, 6]) (by kernel_rfl) (by simp) ?_
      refine AllReady.cons rfl (fun K hK => ?_) (AllReady.cons rfl (fun K hK => ?_) AllReady.nil)
      · go_simp
        refine hK _ _ ?_
        clear hK K
        refine wpAny_ready (rs := [6]) (by kernel_rfl) (by simp) ?_
        refine AllReady.cons rfl (fun K hK => ?_) AllReady.nil
        refine step_build rfl _ rfl s hs40.out (by kernel_rfl) ?_
        refine hK _ _ ?_
        clear hK K
        refine wpAny_ready (rs := [7]) (by kernel_rfl) (by simp) ?_
        refine AllReady.cons rfl (fun K hK => ?_) AllReady.nil
        refine step_append rfl _ _ 66 rfl base 92 i0 (.agg (keyC [])) 40 320 Tryz.underlying66 hi hz0 hz1 hz2 hzz.out (by decide) (.slice ta t.length tc) _ _ (by kernel_rfl) (HR4.out.alloc _) ⟨W4.heap.size, 0, none⟩ 1 1 (keyL s) (by kernel_rfl) (keyL_len s hs40.out) (news_key s W4) (keyL_one s) (by unfold maxLen; omega) (by omega) (by simp; have := HSZ4.out; omega) ?_
        intro v' w1 hown' hgrow _ hat
        obtain ⟨g', cap', rfl⟩ := ownsRow_succ hown'
        have HV1 := Box.mk ((HB4.out.alloc _).grown hgrow HNB.out)
        have HFIN1 := Box.mk (HFIN.out w1 g' cap' (by rw [List.flatMap_append]; simpa using hown') hgrow hat)
        have c5' := (HV1.out.cell 5).trans (show _ = some (Value.slice ta t.length tc) from rfl)
        have f5' := HV1.out.frozen 5
        clear hown' hgrow hat
        refine hK _ _ ?_
        clear hK K
        refine wpAny_take (i := 8) (v := ?_) rfl (by kernel_rfl) (by kernel_rfl) (by kernel_rfl) (fun _ _ _ h => h) (Or.inl ⟨by kernel_rfl, ?_⟩) ?_
        rotate_left
        · first | (intro w; go_simp; done) | (intro w; go_simp; with_reducible rfl)
        refine wpAny_take (i := 9) (v := ?_) rfl (by kernel_rfl) (by kernel_rfl) (by kernel_rfl) (fun _ _ _ h => h) (Or.inl ⟨by kernel_rfl, ?_⟩) ?_
        rotate_left
        · first | (intro w; go_simp; done) | (intro w; go_simp; with_reducible rfl)
        refine wpAny_ready (rs := [10]) (by kernel_rfl) (by simp) ?_
        refine AllReady.cons rfl (fun K hK => ?_) AllReady.nil
        go_simp
        refine hK _ _ ?_
        clear hK K
        refine wpAny_done (by kernel_rfl) ?_ _
        go_wp2_with fail
        go_ret2
        exact HFIN1.out
      · refine step_build rfl _ rfl s hs40.out (by kernel_rfl) ?_
        refine hK _ _ ?_
        clear hK K
        refine wpAny_ready (rs := [4]) (by kernel_rfl) (by simp) ?_
        refine AllReady.cons rfl (fun K hK => ?_) AllReady.nil
        go_simp
        refine hK _ _ ?_
        clear hK K
        refine wpAny_ready (rs := [7]) (by kernel_rfl) (by simp) ?_
        refine AllReady.cons rfl (fun K hK => ?_) AllReady.nil
        refine step_append rfl _ _ 66 rfl base 92 i0 (.agg (keyC [])) 40 320 Tryz.underlying66 hi hz0 hz1 hz2 hzz.out (by decide) (.slice ta t.length tc) _ _ (by kernel_rfl) (HR4.out.alloc _) ⟨W4.heap.size, 0, none⟩ 1 1 (keyL s) (by kernel_rfl) (keyL_len s hs40.out) (news_key s W4) (keyL_one s) (by unfold maxLen; omega) (by omega) (by simp; have := HSZ4.out; omega) ?_
        intro v' w1 hown' hgrow _ hat
        obtain ⟨g', cap', rfl⟩ := ownsRow_succ hown'
        have HV1 := Box.mk ((HB4.out.alloc _).grown hgrow HNB.out)
        have HFIN1 := Box.mk (HFIN.out w1 g' cap' (by rw [List.flatMap_append]; simpa using hown') hgrow hat)
        have c5' := (HV1.out.cell 5).trans (show _ = some (Value.slice ta t.length tc) from rfl)
        have f5' := HV1.out.frozen 5
        clear hown' hgrow hat
        refine hK _ _ ?_
        clear hK K
        refine wpAny_take (i := 8) (v := ?_) rfl (by kernel_rfl) (by kernel_rfl) (by kernel_rfl) (fun _ _ _ h => h) (Or.inl ⟨by kernel_rfl, ?_⟩) ?_
        rotate_left
        · first | (intro w; go_simp; done) | (intro w; go_simp; with_reducible rfl)
        refine wpAny_take (i := 9) (v := ?_) rfl (by kernel_rfl) (by kernel_rfl) (by kernel_rfl) (fun _ _ _ h => h) (Or.inl ⟨by kernel_rfl, ?_⟩) ?_
        rotate_left
        · first | (intro w; go_simp; done) | (intro w; go_simp; with_reducible rfl)
        refine wpAny_ready (rs := [10]) (by kernel_rfl) (by simp) ?_
        refine AllReady.cons rfl (fun K hK => ?_) AllReady.nil
        go_simp
        refine hK _ _ ?_
        clear hK K
        refine wpAny_done (by kernel_rfl) ?_ _
        go_wp2_with fail
        go_ret2
        exact HFIN1.out
  · have HIN := Box.mk (D.place_lt hin)
    have HFIN := Box.mk (number_met HM.out hin HBW2.out HB2.out HMET2.out)
    clear hin hs
    still_step
    still_step
    still_step
    still_step
    refine wpStill_row rfl 92 _ rfl w.heap.size rfl 92 (keyC s) (0, 0) _ HX2.out Tryz.underlying92 rfl HI.out ?_
    still_step
    still_step
    still_step
    still_step
    still_step
    still_step
    refine wpStill_nil ?_
    clear c4 hlk
    go_wp2_with fail
    go_ret2
    exact HFIN.out
end Go.Proofs.YtjemdepcaaadiaaGreatDoor

/- THE DOCUMENT's ANSWERS OF LAYER 10: add, step, Most, First, Step, Done. -/
namespace Go.Proofs.YtjemdepcaaadiaaGreatDoor
open Go.RowKit

theorem add_or (S n : Nat) (h : S.testBit n = false) : S + 2 ^ n = S ||| 2 ^ n := by
  have hp : 2 ^ (n + 1) = 2 * 2 ^ n := by rw [Nat.pow_succ]; omega
  have hpos : 0 < 2 ^ n := Nat.two_pow_pos n
  rw [Nat.testBit_eq_decide_div_mod_eq, decide_eq_false_iff_not] at h
  have hb : S % 2 ^ (n + 1) < 2 ^ n := by
    rw [hp, Nat.mul_comm, Nat.mod_mul]
    have : S / 2 ^ n % 2 = 0 := by omega
    rw [this]
    have := Nat.mod_lt S hpos
    omega
  have hS : 2 ^ (n + 1) * (S / 2 ^ (n + 1)) + S % 2 ^ (n + 1) = S := Nat.div_add_mod _ _
  generalize S / 2 ^ (n + 1) = a at hS
  generalize S % 2 ^ (n + 1) = b at hS hb
  have h1 : 2 ^ (n + 1) * a + b = 2 ^ (n + 1) * a ||| b := Nat.two_pow_add_eq_or_of_lt (by omega) a
  have h2 : 2 ^ n * 1 + b = 2 ^ n * 1 ||| b := Nat.two_pow_add_eq_or_of_lt hb 1
  have h3 : 2 ^ (n + 1) * a + (2 ^ n * 1 + b) = 2 ^ (n + 1) * a ||| (2 ^ n * 1 + b) := Nat.two_pow_add_eq_or_of_lt (by omega) a
  rw [Nat.mul_one] at h2 h3
  rw [← hS, show 2 ^ (n + 1) * a + b + 2 ^ n = 2 ^ (n + 1) * a + (2 ^ n + b) by omega, h3, h2, h1, Nat.or_assoc, Nat.or_comm b]
theorem or_has (S n : Nat) (h : S.testBit n = true) : S ||| 2 ^ n = S := by
  apply Nat.eq_of_testBit_eq
  intro i
  rw [Nat.testBit_or, Nat.testBit_two_pow]
  by_cases e : n = i
  · subst e; rw [h]; rfl
  · simp [e]

theorem fill_bound (l : List N.Item) (S : Nat) (c : Int) (k : Nat) (hk : k ≤ 2 * l.length) : N.fill l S c 0 k < 2 ^ (2 * l.length + 1) := N.fill_lt l S c 0 (Nat.two_pow_pos _) k hk

end Go.Proofs.YtjemdepcaaadiaaGreatDoor
