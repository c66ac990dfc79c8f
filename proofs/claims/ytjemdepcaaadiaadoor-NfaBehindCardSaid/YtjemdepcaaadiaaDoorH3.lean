/-
  Texts of this claim, one behind the other: NfaF, NfaG, Held, Held2, Held3, NfaH, NfaI, NfaJ, NfaK, NfaL.
-/
import Derived.Test.YtjemdepcaaadiaaDoorH2
import Derived.Stop.RegionWithIn
import Derived.Shelf.Abstract
import Derived.Shelf.RegionOpen
import Derived.Deep.RegionHeld3
import Derived.Laws.AppendOwnNone
import Derived.Deep.AppendLies
import Derived.Deep.RegionLaw

/- THE STATES THAT A CLASS STEPS FROM, AND WHERE TO: the runner's iterator. -/
namespace Go.Proofs.YtjemdepcaaadiaaDoor
open Go.RowKit

/-- all that lay in one world lies in another as it lay -/
structure Agree (W0 w : World) : Prop where
  size : W0.heap.size ≤ w.heap.size
  block : ∀ k, k < W0.heap.size → w.heap[k]? = W0.heap[k]?
theorem Agree.refl (w : World) : Agree w w := ⟨Nat.le_refl _, fun _ _ => rfl⟩
theorem Agree.of_below {W0 w : World} (h : Below W0.heap.size W0 w) : Agree W0 w := ⟨h.size, h.block⟩
theorem Agree.trans {A B C : World} (h : Agree A B) (k : Agree B C) : Agree A C := ⟨Nat.le_trans h.size k.size, fun i hi => (k.block i (Nat.lt_of_lt_of_le hi h.size)).trans (h.block i hi)⟩
theorem Agree.alloc {A B : World} (h : Agree A B) (o : Obj) : Agree A (B.alloc o) := h.trans (.of_below ((Below.refl _ _).alloc (Nat.le_refl _) o))
theorem Agree.turns {A B C : World} {own : Nat → Prop} (h : Agree A B) (k : Turns own B C) (ho : ∀ i, own i → A.heap.size ≤ i) : Agree A C :=
  ⟨Nat.le_trans h.size k.size, fun i hi => (k.block i (Nat.lt_of_lt_of_le hi h.size) (fun e => by have := ho i e; omega)).trans (h.block i hi)⟩
theorem Agree.holds {A B C : World} {own : Nat → Prop} (h : Agree A B) (k : Holds own B C) (ho : ∀ i, i < A.heap.size → own i) : Agree A C :=
  ⟨Nat.le_trans h.size k.size, fun i hi => (k.block i (ho i hi)).trans (h.block i hi)⟩
theorem ItemsAt.agree {w w' : World} {v : Value} {l : List N.Item} (h : ItemsAt w v l) (hb : Agree w w') : ItemsAt w' v l := by
  rcases h with h | ⟨b, off, sp, cap, h1, h2, h3, h4⟩
  · exact .inl h
  · exact .inr ⟨b, off, sp, cap, h1, h2, h3, fun hn => ⟨(h4 hn).1, Nat.lt_of_lt_of_le (h4 hn).2.1 hb.size, fun i x hx =>
      ⟨(World.cell?_of_block (hb.block b (h4 hn).2.1)).trans ((h4 hn).2.2 i x hx).1, (World.cell?_of_block (hb.block b (h4 hn).2.1)).trans ((h4 hn).2.2 i x hx).2⟩⟩⟩
theorem Rn.agree {w w' : World} {r m : Nat} {st : Bool} {v : Value} {l : List N.Item} (h : Rn w r m st v l) (hb : Agree w w') : Rn w' r m st v l :=
  ⟨(hb.block r h.blk.lt).trans h.blk, (hb.block m (Array.getElem?_eq_some_iff.1 h.how).1).trans h.how, h.items.agree hb, h.right⟩

theorem map_look1 {P : Program} {T K E : TypeId} {q : IntKind} (hm : P.underlying T = some (.map K E)) (hk : P.underlying K = some (.int q)) (W : World) (es : Array MapEntry) (clk : Nat) (k : Int) (n : Nat) (hg : W.heap[n]? = some (.map es clk))
    (i : Nat) (v : Value) (hf : Instr.findNow (.int q) (.int q k) es.toList 0 = some (some (i, v))) :
    (Instr.lookup T (.map (some n)) (.int q k) false).run P W = .ok v W := by
  have h1 : (Instr.checkKey es.isEmpty 10000 K (.int q k)).run P W = .ok () W := MapKept.run_checkKey hk (by simp [MapKept.IsKey]) _ 9999
  have h2 := MapKept.run_findKey (P := P) (w := W) hk hf
  unfold Instr.lookup
  simp only [Sem.run_bind, run_underlying hm, Result.andThen, MapKept.run_getObj_map hg, h1, h2, Sem.run_pure, Bool.false_eq_true, if_false]

theorem how1_any (n : Nat) (w : World) (hn : n ≤ 1000) : Calls Tryd.prog 100 #[.int .i64 n] w fun e w' => e = .returned (.int .i64 (n + 2)) ∧ w = w' := by
  go_enter Tryd.func100, Tryd.ntmps100
  go_wp2
  go_ret
  exact ⟨rfl, rfl⟩
theorem how2_any (n : Nat) (w : World) : Calls Tryd.prog 101 #[.int .i64 n] w fun e w' => e = .returned (.int .i64 n) ∧ w = w' := by
  go_enter Tryd.func101, Tryd.ntmps101
  go_wp2
  go_ret
  exact ⟨rfl, rfl⟩
theorem how3_any (n : Nat) (w : World) (hn : n ≤ 1000) : Calls Tryd.prog 102 #[.int .i64 n] w fun e w' => e = .returned (.int .i64 (n + 1)) ∧ w = w' := by
  go_enter Tryd.func102, Tryd.ntmps102
  go_wp2
  go_ret
  exact ⟨rfl, rfl⟩

theorem test_bit0 (S n : Nat) (h : S < 9223372036854775808) : (bits .and .i64 ((S : Int) / 2 ^ n) 1 == 0) = !S.testBit n := by
  have hd : (S : Int) / 2 ^ n = ((S / 2 ^ n : Nat) : Int) := by simp
  have hle : S / 2 ^ n ≤ S := Nat.div_le_self _ _
  rw [hd, Nat.testBit_eq_decide_div_mod_eq]
  generalize S / 2 ^ n = z at hle
  rw [and_1 _ (by omega) (by omega), Bool.eq_iff_iff]
  simp only [beq_iff_eq, Bool.not_eq_true', decide_eq_false_iff_not]
  omega

/-- the states that a class steps from, of the first k -/
def stepsOf (l : List N.Item) (S : Nat) (c : Int) (k : Nat) : List Nat := (List.range k).filter (N.goes l S c)
theorem stepsOf_yes {l : List N.Item} {S : Nat} {c : Int} {k : Nat} (h : N.goes l S c k = true) : stepsOf l S c (k + 1) = stepsOf l S c k ++ [k] := by
  unfold stepsOf; rw [List.range_succ, List.filter_append]; simp [h]
theorem stepsOf_no {l : List N.Item} {S : Nat} {c : Int} {k : Nat} (h : N.goes l S c k = false) : stepsOf l S c (k + 1) = stepsOf l S c k := by
  unfold stepsOf; rw [List.range_succ, List.filter_append]; simp [h]
theorem fill_steps (l : List N.Item) (S : Nat) (c : Int) (a : Nat) : ∀ k, N.fill l S c a k = (stepsOf l S c k).foldl (fun out n => out ||| N.clo l (N.goto l n)) a
  | 0 => rfl
  | k + 1 => by
    rw [N.fill_succ, fill_steps l S c a k]
    cases h : N.goes l S c k with
    | true => rw [if_pos rfl, stepsOf_yes h, List.foldl_append]; rfl
    | false => rw [if_neg (by simp), stepsOf_no h]

theorem quiet_left {P : Program} {f : FuncId} {args : Array Value} {w : World} {n : Nat} {v : Value}
    (h : Calls P f args (w.drewN n) fun e w' => e = .returned v ∧ w.drewN n = w') : Calls P f args (w.drewN n) fun e w'' => e = .returned v ∧ ∃ m, w'' = w.drewN m :=
  h.mono fun _ _ ⟨he, hm⟩ => ⟨he, n, hm.symm⟩
theorem right_item {l : List N.Item} (h : rightB l = true) {i : Nat} {x : N.Item} (hx : l[i]? = some x) : 0 ≤ x.2 ∧ x.2 ≤ 2 := by
  unfold rightB at h
  rw [Bool.and_eq_true, List.all_eq_true] at h
  have := h.2 x (List.mem_of_getElem? hx)
  unfold itemB at this
  simp only [Bool.and_eq_true, decide_eq_true_eq] at this
  exact ⟨this.1.2, this.2⟩

def keepOf (W0 : World) (Br Bs Bc : Nat) (k : Nat) : Prop := k < W0.heap.size ∨ k = Br ∨ k = Bs ∨ k = Bc

set_option maxHeartbeats 4000000 in
theorem states1_iter (n : Nat) (W0 : World) (r m : Nat) (st : Bool) (v : Value) (li : List N.Item) (hR : Rn W0 r m st v li) (S : Nat) (hS : S < 4611686018427387904) (c : Int) (Br Bs Bc : Nat) (l : Nat) (W1 : World)
    (hA : Agree W0 W1) (hr : Blk W1 Br 112 #[.pointer (some ⟨r, 0, none⟩)]) (hs : Blk W1 Bs 2 #[.int .i64 S]) (hc : Blk W1 Bc 3 #[.int .i64 c]) :
    IterC (n + 1) Tryd.prog 120 #[.pointer (some ⟨Br, 0, none⟩), .pointer (some ⟨Bs, 0, none⟩), .pointer (some ⟨Bc, 0, none⟩)] (fun x : Nat => #[.int .i64 x, .int .i64 (N.goto li x)]) (fun _ => False) (keepOf W0 Br Bs Bc) (fun _ x => x < 2 * li.length)
      (fun xs _ => xs = stepsOf li S c (2 * li.length)) l W1 := by
  intro J Jx hJ hJx hY h0
  have HY := Box.mk hY
  have HJ := Box.mk hJ
  clear hY hJ
  have HR := Box.mk hR
  have hlen := hR.len
  obtain ⟨ao, cap, rfl⟩ := hR.items.slice
  clear hR
  have c1 : W1.cell? ⟨Br, 0, none⟩ = some (.pointer (some ⟨r, 0, none⟩)) := (hr.cell 0).trans rfl
  have c2 : W1.cell? ⟨r, 1, none⟩ = some (.slice ao li.length cap) := ((HR.out.agree hA).blk.cell 1).trans rfl
  refine callsIn_of_wp Tryd.func120 rfl trivial ?_
  simp only [Tryd.ntmps120, List.size_toArray, List.length_cons, List.length_nil, Nat.reduceAdd, Nat.reduceSub, Array.replicate_succ, Array.replicate_zero, List.push_toArray, List.append_toArray, List.nil_append, List.cons_append]
  gi_wp2
  refine wpIn_wide.2 (wp_scope_straight ((wpIn_wide (n := n + 1)).1 ?_))
  gi_wp2
  refine wpIn_label ?_
  gi_wp2
  clear c1 c2
  gi_loopw [15] (fun i wr => ∃ k : Nat, k ≤ 2 * li.length ∧ i = .int .i64 k ∧ Box (Agree W0 wr) ∧ Box (Blk wr Br 112 #[.pointer (some ⟨r, 0, none⟩)]) ∧ Box (Blk wr Bs 2 #[.int .i64 S]) ∧ Box (Blk wr Bc 3 #[.int .i64 c]) ∧ J (stepsOf li S c k) wr)
    (fun i _ => 2 * li.length - (intOf i).toNat)
  case atStart => exact ⟨0, by omega, rfl, ⟨hA⟩, ⟨hr⟩, ⟨hs⟩, ⟨hc⟩, h0⟩
  case round =>
    obtain ⟨k, hk, rfl, ha, hbr, hbs, hbc, hj⟩ := hrel
    have HJr := Box.mk hj
    clear hj hA hr hs hc h0
    by_cases hlt : k < 2 * li.length
    · obtain ⟨x, hx⟩ : ∃ x, li[k / 2]? = some x := ⟨_, List.getElem?_eq_getElem (by omega)⟩
      have HRr := Box.mk (HR.out.agree ha.out)
      have c1 : wr.cell? ⟨Br, 0, none⟩ = some (.pointer (some ⟨r, 0, none⟩)) := (hbr.out.cell 0).trans rfl
      have c2 : wr.cell? ⟨r, 1, none⟩ = some (.slice ao li.length cap) := (HRr.out.blk.cell 1).trans rfl
      have c3 : wr.cell? ⟨Bs, 0, none⟩ = some (.int .i64 S) := (hbs.out.cell 0).trans rfl
      have c4 : wr.cell? ⟨Bc, 0, none⟩ = some (.int .i64 c) := (hbc.out.cell 0).trans rfl
      have c5 : wr.cell? ⟨r, 2, none⟩ = some (.map (some m)) := (HRr.out.blk.cell 2).trans rfl
      have l1 := hbr.out.lt
      have l2 := hbs.out.lt
      have l3 := hbc.out.lt
      have l4 := HRr.out.blk.lt
      obtain ⟨g, off, cap2, hg1, hg2, hg3, hg4, hg5⟩ := HRr.out.items.get (by rintro rfl; simp at hlt)
      obtain ⟨rfl, rfl⟩ : ao = some ⟨g, off, none⟩ ∧ cap = cap2 := by injection hg1 with h1 h2 h3; exact ⟨h1, h3⟩
      obtain ⟨hc1, hc2⟩ := hg5 _ x hx
      obtain ⟨hw0, hw1⟩ := right_item HRr.out.right hx
      have HH := Box.mk (show N.howAt li (k / 2) = x.2 ∧ N.setAt li (k / 2) = x.1 by unfold N.howAt N.setAt; simp [List.getD, hx])
      unfold maxLen at hg3
      have hlt2 : k / 2 < li.length := by omega
      have HN := Box.mk (show ∀ W2, Turns (fun _ => False) wr W2 → N.goes li S c k = false → ∃ k' : Nat, k' ≤ 2 * li.length ∧ Value.int .i64 ((k : Int) + 1) = .int .i64 k' ∧ Box (Agree W0 W2) ∧ Box (Blk W2 Br 112 #[.pointer (some ⟨r, 0, none⟩)]) ∧ Box (Blk W2 Bs 2 #[.int .i64 S]) ∧ Box (Blk W2 Bc 3 #[.int .i64 c]) ∧ J (stepsOf li S c k') W2 from fun W2 ht hg =>
        ⟨k + 1, hlt, by go_num, ⟨ha.out.turns ht (fun _ h => h.elim)⟩, ⟨ht.blk hbr.out (fun h => h)⟩, ⟨ht.blk hbs.out (fun h => h)⟩, ⟨ht.blk hbc.out (fun h => h)⟩, by rw [stepsOf_no hg]; exact HJ.out _ _ _ HJr.out ht⟩)
      have HTA := Box.mk (fun o => Turns.alloc (own := fun _ => False) wr o)
      obtain ⟨set, how⟩ := x
      clear hx hg1 hg5
      have hb0 := test_bit0 S k (by omega)
      cases hbit : S.testBit k with
      | false =>
        have HG := Box.mk (show N.goes li S c k = false by unfold N.goes; rw [hbit]; rfl)
        rw [hbit] at hb0
        simp only [Bool.not_false] at hb0
        clear hbit
        gi_wp2
        refine ⟨trivial, ?_⟩
        gi_wp2
        go_roundw
        case rel => exact HN.out _ (HTA.out _) HG.out
        case measure => simp [intOf]; omega
      | true =>
        rw [hbit] at hb0
        simp only [Bool.not_true] at hb0
        cases hhas : N.hasC set c with
        | false =>
          have HG := Box.mk (show N.goes li S c k = false by unfold N.goes; rw [hbit, HH.out.2, hhas]; rfl)
          have HHAS := Box.mk hhas
          clear hbit hhas
          gi_wp2
          refine ⟨trivial, ((callsIn_wide (n := n)).2 (chas_any set c _)).mono ?_⟩; rintro e w1 ⟨rfl, rfl⟩; rw [HHAS.out]
          gi_wp2
          go_roundw
          case rel => exact HN.out _ (HTA.out _) HG.out
          case measure => simp [intOf]; omega
        | true =>
          have HG := Box.mk (show N.goes li S c k = true by unfold N.goes; rw [hbit, HH.out.2, hhas]; rfl)
          have HHAS := Box.mk hhas
          clear hbit hhas HN
          have HYW := Box.mk (fun W2 (ht : Turns (fun _ => False) wr W2) => HY.out (stepsOf li S c k) k W2 (HJ.out _ _ _ HJr.out ht) hlt)
          have HEND := Box.mk (show ∀ W2 W3, Turns (fun _ => False) wr W2 → J (stepsOf li S c k ++ [k]) W3 → Holds (keepOf W0 Br Bs Bc) W2 W3 → ∃ k' : Nat, k' ≤ 2 * li.length ∧ Value.int .i64 ((k : Int) + 1) = .int .i64 k' ∧ Box (Agree W0 W3) ∧ Box (Blk W3 Br 112 #[.pointer (some ⟨r, 0, none⟩)]) ∧ Box (Blk W3 Bs 2 #[.int .i64 S]) ∧ Box (Blk W3 Bc 3 #[.int .i64 c]) ∧ J (stepsOf li S c k') W3 from fun W2 W3 ht hj hh =>
            ⟨k + 1, hlt, by go_num, ⟨(ha.out.turns ht (fun _ h => h.elim)).holds hh (fun _ h => .inl h)⟩, ⟨(hh.block _ (.inr (.inl rfl))).trans (ht.blk hbr.out (fun h => h))⟩, ⟨(hh.block _ (.inr (.inr (.inl rfl)))).trans (ht.blk hbs.out (fun h => h))⟩, ⟨(hh.block _ (.inr (.inr (.inr rfl)))).trans (ht.blk hbc.out (fun h => h))⟩, by rw [stepsOf_yes HG.out]; exact hj⟩)
          by_cases hodd : k % 2 = 1
          · have t1 : ((k : Int) % 2 == 0) = false := by rw [beq_eq_false_iff_ne]; omega
            have HGO := Box.mk (show ((N.goto li k : Nat) : Int) = (k : Int) - 1 by unfold N.goto; rw [if_pos hodd]; omega)
            have hy0 := HYW.out _ (HTA.out (.cells #[.int .i64 set, .int .i64 how] 79))
            simp only [HGO.out] at hy0
            obtain ⟨fn, tmps, assign, body, hy, hRd⟩ := hy0
            have HRD := Box.mk hRd
            have k1 : 1 ≤ k := by omega
            clear hRd hodd
            gi_wp2
            refine ⟨trivial, ((callsIn_wide (n := n)).2 (chas_any set c _)).mono ?_⟩; rintro e w1 ⟨rfl, rfl⟩; rw [HHAS.out]
            gi_wp2
            have HTD := Box.mk (fun (_ : Unit) => HTA.out (.cells #[.int .i64 set, .int .i64 how] 79))
            refine HRD.out.mono ?_
            rintro e W3 (⟨rfl, hj3, hk3⟩ | ⟨rfl, hx3⟩)
            · have HR3 := Box.mk (HEND.out _ _ (HTD.out ()) hj3 hk3)
              clear hj3 hk3
              gi_wp2
              go_roundw
              case rel => exact HR3.out
              case measure => simp [intOf]; omega
            · gi_wp2
              rw [Exit.noGoto_normal]
              go_end0
              exact ⟨⟨_, rfl⟩, .inr ⟨_, hx3⟩⟩
          · have t1 : ((k : Int) % 2 == 0) = true := by rw [beq_iff_eq]; omega
            have HM := Box.mk (show ∀ o nd, ((wr.alloc o).drewN nd).heap[m]? = some (.map #[how1, how2, how3] 3) from fun o nd => (Below.heap_alloc _ _ _ (Array.getElem?_eq_some_iff.1 HRr.out.how).1).trans HRr.out.how)
            have hk1000 : k ≤ 1000 := by omega
            rcases (show how = 0 ∨ how = 1 ∨ how = 2 by omega) with rfl | rfl | rfl
            · have hlk := fun nd => map_look1 (P := Tryd.prog) Tryd.underlying135 Tryd.underlying3 ((wr.alloc (.cells #[.int .i64 set, .int .i64 0] 79)).drewN nd) #[how1, how2, how3] 3 0 m (HM.out _ nd) 0 how1.val rfl
              simp only [how1] at hlk
              have HGO := Box.mk (show ((N.goto li k : Nat) : Int) = (k : Int) + 2 by unfold N.goto; rw [if_neg hodd, if_pos HH.out.1]; simp)
              clear hodd
              gi_wp2
              refine ⟨trivial, ((callsIn_wide (n := n)).2 (chas_any set c _)).mono ?_⟩; rintro e w1 ⟨rfl, rfl⟩; rw [HHAS.out]
              gi_wp2
              refine wpIn_wide.2 ?_
              go_quiet ((go_at_call 100; exact quiet_left (how1_any _ _ hk1000)))
              have hy0 := HYW.out ((wr.alloc (.cells #[.int .i64 set, .int .i64 0] 79)).drewN nq) ((HTA.out _).trans (Turns.of_below (below_drewN (Below.refl _ _) nq)))
              simp only [HGO.out] at hy0
              obtain ⟨fn, tmps, assign, body, hy, hRd⟩ := hy0
              have HRD := Box.mk hRd
              clear hRd
              gi_wp2
              refine HRD.out.mono ?_
              rintro e W3 (⟨rfl, hj3, hk3⟩ | ⟨rfl, hx3⟩)
              · have HR3 := Box.mk (HEND.out _ _ ((HTA.out _).trans (Turns.of_below (below_drewN (Below.refl _ _) nq))) hj3 hk3)
                clear hj3 hk3
                gi_wp2
                go_roundw
                case rel => exact HR3.out
                case measure => simp [intOf]; omega
              · gi_wp2
                rw [Exit.noGoto_normal]
                go_end0
                exact ⟨⟨_, rfl⟩, .inr ⟨_, hx3⟩⟩
            · have hlk := fun nd => map_look1 (P := Tryd.prog) Tryd.underlying135 Tryd.underlying3 ((wr.alloc (.cells #[.int .i64 set, .int .i64 1] 79)).drewN nd) #[how1, how2, how3] 3 1 m (HM.out _ nd) 1 how2.val rfl
              simp only [how2] at hlk
              have HGO := Box.mk (show ((N.goto li k : Nat) : Int) = (k : Int) by unfold N.goto; rw [if_neg hodd, if_neg (by rw [HH.out.1]; simp), if_pos HH.out.1])
              clear hodd
              gi_wp2
              refine ⟨trivial, ((callsIn_wide (n := n)).2 (chas_any set c _)).mono ?_⟩; rintro e w1 ⟨rfl, rfl⟩; rw [HHAS.out]
              gi_wp2
              refine wpIn_wide.2 ?_
              go_quiet ((go_at_call 101; exact quiet_left (how2_any _ _)))
              have hy0 := HYW.out ((wr.alloc (.cells #[.int .i64 set, .int .i64 1] 79)).drewN nq) ((HTA.out _).trans (Turns.of_below (below_drewN (Below.refl _ _) nq)))
              simp only [HGO.out] at hy0
              obtain ⟨fn, tmps, assign, body, hy, hRd⟩ := hy0
              have HRD := Box.mk hRd
              clear hRd
              gi_wp2
              refine HRD.out.mono ?_
              rintro e W3 (⟨rfl, hj3, hk3⟩ | ⟨rfl, hx3⟩)
              · have HR3 := Box.mk (HEND.out _ _ ((HTA.out _).trans (Turns.of_below (below_drewN (Below.refl _ _) nq))) hj3 hk3)
                clear hj3 hk3
                gi_wp2
                go_roundw
                case rel => exact HR3.out
                case measure => simp [intOf]; omega
              · gi_wp2
                rw [Exit.noGoto_normal]
                go_end0
                exact ⟨⟨_, rfl⟩, .inr ⟨_, hx3⟩⟩
            · have hlk := fun nd => map_look1 (P := Tryd.prog) Tryd.underlying135 Tryd.underlying3 ((wr.alloc (.cells #[.int .i64 set, .int .i64 2] 79)).drewN nd) #[how1, how2, how3] 3 2 m (HM.out _ nd) 2 how3.val rfl
              simp only [how3] at hlk
              have HGO := Box.mk (show ((N.goto li k : Nat) : Int) = (k : Int) + 1 by unfold N.goto; rw [if_neg hodd, if_neg (by rw [HH.out.1]; simp), if_neg (by rw [HH.out.1]; simp)]; simp)
              clear hodd
              gi_wp2
              refine ⟨trivial, ((callsIn_wide (n := n)).2 (chas_any set c _)).mono ?_⟩; rintro e w1 ⟨rfl, rfl⟩; rw [HHAS.out]
              gi_wp2
              refine wpIn_wide.2 ?_
              go_quiet ((go_at_call 102; exact quiet_left (how3_any _ _ hk1000)))
              have hy0 := HYW.out ((wr.alloc (.cells #[.int .i64 set, .int .i64 2] 79)).drewN nq) ((HTA.out _).trans (Turns.of_below (below_drewN (Below.refl _ _) nq)))
              simp only [HGO.out] at hy0
              obtain ⟨fn, tmps, assign, body, hy, hRd⟩ := hy0
              have HRD := Box.mk hRd
              clear hRd
              gi_wp2
              refine HRD.out.mono ?_
              rintro e W3 (⟨rfl, hj3, hk3⟩ | ⟨rfl, hx3⟩)
              · have HR3 := Box.mk (HEND.out _ _ ((HTA.out _).trans (Turns.of_below (below_drewN (Below.refl _ _) nq))) hj3 hk3)
                clear hj3 hk3
                gi_wp2
                go_roundw
                case rel => exact HR3.out
                case measure => simp [intOf]; omega
              · gi_wp2
                rw [Exit.noGoto_normal]
                go_end0
                exact ⟨⟨_, rfl⟩, .inr ⟨_, hx3⟩⟩
    · obtain rfl : k = 2 * li.length := by omega
      gi_wp2
      rw [Exit.noGoto_normal]
      go_end0
      exact ⟨⟨_, rfl⟩, .inl ⟨_, rfl, HJr.out⟩⟩
end Go.Proofs.YtjemdepcaaadiaaDoor

/- ONE STEP OF THE RUNNER; whether all has fitted. -/
namespace Go.Proofs.YtjemdepcaaadiaaDoor
open Go.RowKit Go.Shelf
attribute [local go_sem] Oper.semAt_some

theorem statesM_any (p : Option Addr) (S c : Int) (w : World) :
    Calls Tryd.prog 103 #[.pointer p, .int .i64 S, .int .i64 c] w fun e w' => e = .returned (.func (.func 120) #[] #[.pointer (some ⟨w.heap.size, 0, none⟩), .pointer (some ⟨w.heap.size + 1, 0, none⟩), .pointer (some ⟨w.heap.size + 1 + 1, 0, none⟩)]) ∧
      ((w.alloc (.cells #[.pointer p] 112)).alloc (.cells #[.int .i64 S] 2)).alloc (.cells #[.int .i64 c] 3) = w' := by
  go_enter Tryd.func103, Tryd.ntmps103
  go_wp2
  go_ret
  exact ⟨rfl, rfl⟩

theorem sum_lt (l : List N.Item) (xs : List Nat) (h : ∀ x ∈ xs, x < 2 * l.length) (a : Nat) (ha : a < 2 ^ (2 * l.length + 1)) : xs.foldl (fun out n => out ||| N.clo l (N.goto l n)) a < 2 ^ (2 * l.length + 1) := by
  induction xs generalizing a with
  | nil => exact ha
  | cons x t ih =>
    exact ih (fun y hy => h y (List.mem_cons_of_mem _ hy)) _ (Nat.or_lt_two_pow ha (N.clo_lt l _ (N.goto_le l x (h x (List.mem_cons_self ..)))))
def outOf (l : List N.Item) (a : Nat) (xs : List Nat) : Nat := xs.foldl (fun out n => out ||| N.clo l (N.goto l n)) a
theorem outOf_snoc (l : List N.Item) (a : Nat) (xs : List Nat) (x : Nat) : outOf l a (xs ++ [x]) = outOf l a xs ||| N.clo l (N.goto l x) := by unfold outOf; rw [List.foldl_append]; rfl

set_option maxHeartbeats 4000000 in
theorem step_any (r m : Nat) (st : Bool) (v : Value) (l : List N.Item) (w : World) (h : Rn w r m st v l) (S : Nat) (hS : S < 4611686018427387904) (c : Int) :
    Calls Tryd.prog 77 #[.pointer (some ⟨r, 0, none⟩), .int .i64 S, .int .i64 c] w fun e w' => e = .returned (.int .i64 (N.step l st S c)) ∧ Below w.heap.size w w' := by
  have hl := h.len
  have HR := Box.mk h
  have c0 : w.cell? ⟨r, 0, none⟩ = some (.bool st) := (h.blk.cell 0).trans rfl
  have l0 := h.blk.lt
  obtain ⟨w2, hw2⟩ : ∃ w2, w2 = (w.alloc (.cells #[.pointer (some ⟨r, 0, none⟩)] 112)).alloc (.cells #[.int .i64 0] 2) := ⟨_, rfl⟩
  have hbw : Below w.heap.size w w2 := by rw [hw2]; exact ((Below.refl _ _).alloc (Nat.le_refl _) _).alloc (by simp) _
  have hb0 : Blk w2 w.heap.size 112 #[.pointer (some ⟨r, 0, none⟩)] := by rw [hw2]; exact (Blk.new w _ _).alloc _
  have hb1 : Blk w2 (w.heap.size + 1) 2 #[.int .i64 0] := by
    rw [hw2]
    have := Blk.new (w.alloc (.cells #[.pointer (some ⟨r, 0, none⟩)] 112)) 2 #[.int .i64 0]
    simpa using this
  have HB0 := Box.mk hb0
  have HB1 := Box.mk hb1
  have HBW := Box.mk hbw
  have HW2 := Box.mk hw2
  clear h hb0 hb1 hbw hw2
  refine (callsIn_wide (n := 9)).1 (callsIn_of_wp_marks Tryd.func77 rfl trivial (wpIn_wide.2 ?_))
  simp only [Tryd.ntmps77, List.size_toArray, List.length_cons, List.length_nil, Nat.reduceAdd, Nat.reduceSub, Array.replicate_succ, Array.replicate_zero, List.push_toArray, List.append_toArray, List.nil_append, List.cons_append]
  go_upto_if 15 with (fail)
  go_cut [] from 16 to 18 (fun wx => Box (Below w.heap.size w wx) ∧ Box (Blk wx w.heap.size 112 #[.pointer (some ⟨r, 0, none⟩)]) ∧ Box (Blk wx (w.heap.size + 1) 2 #[.int .i64 (N.init l st)]))
  case first =>
    rw [← HW2.out]
    clear l0 c0
    cases st with
    | true =>
      go_wp2_with fail
      go_meet
      exact ⟨HBW, HB0, ⟨by rw [show N.init l true = 0 from rfl]; exact HB1.out⟩⟩
    | false =>
      have e0 : w2.cell? ⟨w.heap.size, 0, none⟩ = some (.pointer (some ⟨r, 0, none⟩)) := (HB0.out.cell 0).trans rfl
      have HC := Box.mk (closed_any r m false v l (w2.alloc (.cells #[.int .i64 0] 3)) ((HR.out.below HBW.out).below ((Below.refl _ _).alloc (Nat.le_refl _) _)) w2.heap.size 0 (by simp) (by omega))
      go_wp2_with fail
      refine HC.out.mono ?_; rintro e w3 ⟨rfl, hb3⟩
      have hb13 := (HB1.out.alloc (.cells #[.int .i64 0] 3)).below hb3 (by have := HB1.out.lt; simp; omega)
      have HB13 := Box.mk hb13
      have HB03 := Box.mk ((HB0.out.alloc (.cells #[.int .i64 0] 3)).below hb3 (by have := HB0.out.lt; simp; omega))
      have HBW3 := Box.mk (show Below w.heap.size w w3 from (HBW.out.alloc HBW.out.size _).trans (hb3.mono (by have := HBW.out.size; simp; omega)))
      have e1 : w3.cell? ⟨w.heap.size + 1, 0, none⟩ = some (.int .i64 0) := (hb13.cell 0).trans rfl
      have f1 := hb13.frozen 0
      clear hb3 hb13
      go_wp2_with fail
      go_meet
      exact ⟨⟨HBW3.out.setCell (by simp) _⟩, ⟨HB03.out.far (by simp) _⟩, ⟨HB13.out.set_ 0 _⟩⟩
  case rest =>
    obtain ⟨hbw, hb0, hb1⟩ := hcut
    have e0 : wc.cell? ⟨w.heap.size, 0, none⟩ = some (.pointer (some ⟨r, 0, none⟩)) := (hb0.out.cell 0).trans rfl
    go_wp2_with (go_at_call 103; refine (statesM_any _ _ _ _).mono ?_; rintro e w' ⟨rfl, rfl⟩)
    clear e0
    have hbr : Blk (((wc.alloc (.cells #[.pointer (some ⟨r, 0, none⟩)] 112)).alloc (.cells #[.int .i64 S] 2)).alloc (.cells #[.int .i64 c] 3)) wc.heap.size 112 #[.pointer (some ⟨r, 0, none⟩)] := ((Blk.new wc _ _).alloc _).alloc _
    have hbs : Blk (((wc.alloc (.cells #[.pointer (some ⟨r, 0, none⟩)] 112)).alloc (.cells #[.int .i64 S] 2)).alloc (.cells #[.int .i64 c] 3)) (wc.heap.size + 1) 2 #[.int .i64 S] := by
      have := (Blk.new (wc.alloc (.cells #[.pointer (some ⟨r, 0, none⟩)] 112)) 2 #[.int .i64 S]).alloc (.cells #[.int .i64 c] 3)
      simpa using this
    have hbc : Blk (((wc.alloc (.cells #[.pointer (some ⟨r, 0, none⟩)] 112)).alloc (.cells #[.int .i64 S] 2)).alloc (.cells #[.int .i64 c] 3)) (wc.heap.size + 1 + 1) 3 #[.int .i64 c] := by
      have := Blk.new ((wc.alloc (.cells #[.pointer (some ⟨r, 0, none⟩)] 112)).alloc (.cells #[.int .i64 S] 2)) 3 #[.int .i64 c]
      simpa using this
    have hbL : Below wc.heap.size wc (((wc.alloc (.cells #[.pointer (some ⟨r, 0, none⟩)] 112)).alloc (.cells #[.int .i64 S] 2)).alloc (.cells #[.int .i64 c] 3)) := (((Below.refl _ _).alloc (Nat.le_refl _) _).alloc (by simp) _).alloc (by simp; omega) _
    have hsz : (((wc.alloc (.cells #[.pointer (some ⟨r, 0, none⟩)] 112)).alloc (.cells #[.int .i64 S] 2)).alloc (.cells #[.int .i64 c] 3)).heap.size = wc.heap.size + 3 := by simp
    generalize ((wc.alloc (.cells #[.pointer (some ⟨r, 0, none⟩)] 112)).alloc (.cells #[.int .i64 S] 2)).alloc (.cells #[.int .i64 c] 3) = wL at hbr hbs hbc hbL hsz ⊢
    have hcs := hbw.out.size
    have hb1' := hb1.out.lt
    have hbwL : Below w.heap.size w wL := hbw.out.trans (hbL.mono hcs)
    have hAL : Agree w wL := .of_below hbwL
    refine (wpIn_wide (n := 9)).1 (range_law (α := Nat) (gf := 120) (lb := #[.pointer (some ⟨wc.heap.size, 0, none⟩), .pointer (some ⟨wc.heap.size + 1, 0, none⟩), .pointer (some ⟨wc.heap.size + 1 + 1, 0, none⟩)]) rfl (enters_of Tryd.func120 (by kernel_rfl) rfl)
      (encs := fun x => #[.int .i64 x, .int .i64 (N.goto l x)]) (own := fun _ => False) (keep := keepOf w wc.heap.size (wc.heap.size + 1) (wc.heap.size + 1 + 1)) (ok := fun _ x => x < 2 * l.length) (S := fun xs _ => xs = stepsOf l S c (2 * l.length))
      (fun k hk => by rcases hk with h | h; exact h.elim; unfold keepOf at h; omega)
      (fun W1 ht => states1_iter 7 w r m st v l HR.out S hS c wc.heap.size (wc.heap.size + 1) (wc.heap.size + 1 + 1) _ W1 (hAL.turns ht (fun _ h => h.elim)) (ht.blk hbr (fun h => h)) (ht.blk hbs (fun h => h)) (ht.blk hbc (fun h => h)))
      (fun _ => rfl)
      (fun pre W => Blk W w.heap.size 112 #[.pointer (some ⟨r, 0, none⟩)] ∧ Blk W (w.heap.size + 1) 2 #[.int .i64 (outOf l (N.init l st) pre)] ∧ outOf l (N.init l st) pre < 2 ^ (2 * l.length + 1) ∧ Below w.heap.size w W)
      (fun _ _ _ => False) ?hI (fun _ _ _ _ h _ => h) ⟨(hb0.out.below hbL (by omega)), (hb1.out.below hbL hb1'), N.init_lt l st, hbwL⟩
      (fun x a1 _ => a1 = { tmps := #[.pointer (some ⟨r, 0, none⟩), .int .i64 S, .int .i64 c, .pointer (some ⟨w.heap.size, 0, none⟩), undef, undef, .int .i64 0, .pointer (some ⟨w.heap.size + 1, 0, none⟩), undef, .int .i64 (N.goto l x), .pointer (some ⟨r, 0, none⟩), .pointer (some ⟨r, 0, none⟩), .pointer (some ⟨r, 0, none⟩), .pointer (some ⟨r, 0, none⟩), .bool st, .bool !st, u16, u17, u18, .pointer (some ⟨r, 0, none⟩), .int .i64 S, .int .i64 c, .func (.func 120) #[] #[.pointer (some ⟨wc.heap.size, 0, none⟩), .pointer (some ⟨wc.heap.size + 1, 0, none⟩), .pointer (some ⟨wc.heap.size + 1 + 1, 0, none⟩)], .int .i64 x, .int .i64 (N.goto l x), undef, undef, undef, undef, undef, undef, undef], defers := [] })
      (fun _ _ _ _ h _ => h) ?assign ?body ?done (fun _ _ _ _ h _ => h.elim) (fun _ _ _ h _ => h))
    case hI =>
      rintro pre W W' ⟨h1, h2, h3, h4⟩ ht
      exact ⟨ht.blk h1 (by rintro (h | h); exact h; omega), ht.blk h2 (by rintro (h | h); exact h; omega), h3, h4.trans (ht.below h4.size (fun k hk => by rcases hk with h | h; exact h.elim; omega))⟩
    case assign =>
      intro x W K _ hK
      gi_wp2
      exact hK _ _ (Turns.refl _ _) rfl
    case body =>
      rintro pre x a1 W hW ⟨h1, h2, h3, h4⟩ hx rfl
      have hx' : N.goto l x ≤ 2 * l.length := N.goto_le l x hx
      have HAW := Box.mk (show Agree w W from .of_below h4)
      have HN := Box.mk (show ∀ W3, Turns (fun k => k = w.heap.size + 1) W W3 → Blk W3 (w.heap.size + 1) 2 #[.int .i64 (outOf l (N.init l st) (pre ++ [x]))] → Holds (fun k => keepOf w wc.heap.size (wc.heap.size + 1) (wc.heap.size + 1 + 1) k ∨ k = wL.heap.size + 1 ∨ k = wL.heap.size) W W3 ∧ (Blk W3 w.heap.size 112 #[.pointer (some ⟨r, 0, none⟩)] ∧ Blk W3 (w.heap.size + 1) 2 #[.int .i64 (outOf l (N.init l st) (pre ++ [x]))] ∧ outOf l (N.init l st) (pre ++ [x]) < 2 ^ (2 * l.length + 1) ∧ Below w.heap.size w W3) from fun W3 ht hb =>
        ⟨Holds.of_turns ht (fun k hk => by unfold keepOf at hk; omega) (fun k hk => by unfold keepOf at hk; omega), ht.blk h1 (by omega), hb, by rw [outOf_snoc]; exact Nat.or_lt_two_pow h3 (N.clo_lt l _ hx'), h4.trans (ht.below h4.size (fun k hk => by omega))⟩)
      have HCL := Box.mk (fun (W1 : World) (sb : Nat) (ha : Agree w W1) (hs : W1.cell? ⟨sb, 0, none⟩ = some (.int .i64 (N.goto l x))) => (callsIn_wide (n := 9 - 1 - 1 - 1)).2 (closed_any r m st v l W1 (HR.out.agree ha) sb (N.goto l x) hs hx'))
      have e0 : W.cell? ⟨w.heap.size, 0, none⟩ = some (.pointer (some ⟨r, 0, none⟩)) := (h1.cell 0).trans rfl
      have e1 : W.cell? ⟨w.heap.size + 1, 0, none⟩ = some (.int .i64 (outOf l (N.init l st) pre)) := (h2.cell 0).trans rfl
      have l1 := h1.lt
      have l2 := h2.lt
      have H2 := Box.mk h2
      have H3 := Box.mk h3
      have HOR := Box.mk (show bits .or .i64 (outOf l (N.init l st) pre : Int) (N.clo l (N.goto l x) : Int) = (outOf l (N.init l st) (pre ++ [x]) : Int) by
        have a1 := lt_40 _ _ h3 (by omega)
        have a2 := lt_40 _ _ (N.clo_lt l _ hx') (by omega)
        rw [i64_or_nat _ _ (by omega) (by omega), outOf_snoc])
      clear h1 h2 h3 h4 hbr hbs hbc hbL hsz hbwL hAL l0 c0 hx
      gi_wp2
      gi_region_with ((refine And.intro trivial ?_; gi_at_call 76; refine (HCL.out _ _ ?_ ?_).mono ?_; exact ⟨(HAW.out.alloc _).size, (HAW.out.alloc _).block⟩; simp; rintro e w3 ⟨rfl, hb3⟩; have hT3 : Turns (fun k => k = w.heap.size + 1) W w3 := (Turns.alloc W _).trans (Turns.of_below ⟨hb3.os, hb3.tape, hb3.output, hb3.size, hb3.block⟩); have hB3 : Blk w3 (w.heap.size + 1) 2 #[.int .i64 (outOf l (N.init l st) pre)] := (hb3.block _ (by simp; omega)).trans (H2.out.alloc _); have HT3 := Box.mk hT3; have HB3 := Box.mk hB3; have e3 := (hB3.cell 0).trans (show _ = some (Value.int .i64 (outOf l (N.init l st) pre)) from rfl); have f3 := hB3.frozen 0; clear hb3 hT3 hB3))
      all_goals exact HN.out _ (HT3.out.trans (Turns.setCell (own := fun k => k = w.heap.size + 1) _ (p := ⟨w.heap.size + 1, 0, none⟩) rfl _)) (by rw [HOR.out]; exact HB3.out.set_ 0 _)
    case done =>
      intro xs W hW hS' ⟨h1, h2, h3, h4⟩ hD
      have HV := Box.mk (show outOf l (N.init l st) xs = N.step l st S c by rw [hS']; unfold N.step; rw [fill_steps]; rfl)
      have e1 : W.cell? ⟨w.heap.size + 1, 0, none⟩ = some (.int .i64 (outOf l (N.init l st) xs)) := (h2.cell 0).trans rfl
      have H4 := Box.mk h4
      have HD := Box.mk hD
      have hwl := hbwL.size
      clear h1 h2 h3 h4 hD hbr hbs hbc hbL hsz hbwL hAL l0 c0 hS'
      go_wp2_with fail
      refine ⟨by simp, .inl ⟨_, _, rfl, run_takeDeferred HD.out, ?_⟩⟩
      refine ⟨_, results_tmp rfl _ _ _, ?_⟩
      exact ⟨by rw [← HV.out]; rfl, H4.out.trans ((Turns.putObj (own := fun k => k = wL.heap.size) W rfl _).below H4.out.size (fun k hk => by omega))⟩
end Go.Proofs.YtjemdepcaaadiaaDoor

/- A REGION THAT DRAWS ITS ORDER: what a load yields need hold only till one operation, that waits for it, has come up. Nothing of any program. -/
namespace Go.Proofs.YtjemdepcaaadiaaDoor
open Go.RowKit

section
variable {P : Program} {ops : Array Oper} {Q : Exit → Act → World → Prop} {md : Region.Mode} {k : Nat} {F : World → Prop}

/-- what has come up is closed: with each operation all that it waits for -/
def Closed (md : Region.Mode) (ops : Array Oper) (l : Array Bool) : Prop :=
  ∀ j oj, ops[j]? = some oj → l.getD j true = true → ∀ e ∈ oj.after, Region.binds md e = true → l.getD e.on true = true
def closedB (md : Region.Mode) (ops : Array Oper) (l : Array Bool) : Bool :=
  (List.range ops.size).all fun j => !l.getD j true || match ops[j]? with
    | some oj => oj.after.all fun e => !Region.binds md e || l.getD e.on true
    | none => true
theorem closed_of {l : Array Bool} (h : closedB md ops l = true) : Closed md ops l := by
  intro j oj hj hl e he hb
  unfold closedB at h
  rw [List.all_eq_true] at h
  have h1 := h j (List.mem_range.2 (Array.getElem?_eq_some_iff.1 hj).1)
  rw [hl, hj] at h1
  simp only [Bool.not_true, Bool.false_or] at h1
  have h2 := Array.all_eq_true'.1 h1 e he
  rw [hb] at h2
  simpa using h2
theorem closed_ready {l : Array Bool} {i : Nat} (h : Closed md ops l) (hr : i ∈ Region.ready md ops l) : Closed md ops (l.setIfInBounds i true) := by
  obtain ⟨hun, oi, hoi, hall⟩ := mem_ready.1 hr
  have up : ∀ j, l.getD j true = true → (l.setIfInBounds i true).getD j true = true := by
    intro j hj
    by_cases e : i = j
    · subst e
      rw [Array.getD_eq_getD_getElem?, Array.getElem?_setIfInBounds]
      simp
      split <;> rfl
    · rw [getD_set_ne true e]; exact hj
  intro j oj hj hl e he hb
  by_cases hij : i = j
  · subst hij
    rw [hoi] at hj
    cases hj
    exact up _ (by
      have h1 := hall e he hb
      rcases Nat.lt_or_ge e.on l.size with h' | h'
      · simp [h'] at h1 ⊢; exact h1
      · simp [Array.getElem?_eq_none h'])
  · rw [getD_set_ne true hij] at hl
    exact up _ (h j oj hj hl e he hb)
/-- number k waits for number i, through others -/
def waitsB (md : Region.Mode) (ops : Array Oper) (i : Nat) : Nat → Nat → Bool
  | 0, _ => false
  | f + 1, k => match ops[k]? with
    | some ok => ok.after.any fun e => Region.binds md e && (e.on == i || waitsB md ops i f e.on)
    | none => false
theorem waits_un {l : Array Bool} {i : Nat} (hc : Closed md ops l) (hi : l.getD i true = false) : ∀ (f k : Nat), waitsB md ops i f k = true → l.getD k true = false
  | 0, _, h => by simp [waitsB] at h
  | f + 1, k, h => by
    unfold waitsB at h
    cases hk : ops[k]? with
    | none => rw [hk] at h; cases h
    | some ok =>
      rw [hk] at h
      obtain ⟨e, he, hb⟩ := Array.any_eq_true'.1 h
      simp only [Bool.and_eq_true, Bool.or_eq_true, beq_iff_eq] at hb
      cases hl : l.getD k true with
      | false => rfl
      | true =>
        have h1 := hc k ok hk hl e he hb.1
        rcases hb.2 with e1 | e1
        · rw [e1, hi] at h1; cases h1
        · rw [waits_un hc hi f e.on e1] at h1; cases h1

/-- whatever order is picked from here on; F holds behind every operation, till number k has come up -/
def wpAnyK (P : Program) (md : Region.Mode) (ops : Array Oper) (Q : Exit → Act → World → Prop) (k : Nat) (F : World → Prop) : Nat → Array Bool → Act → World → Prop
  | 0, listed, a, w => Region.ready md ops listed = [] ∧ Q .normal a w
  | fuel + 1, listed, a, w =>
    (Region.ready md ops listed = [] → Q .normal a w) ∧
    ∀ i ∈ Region.ready md ops listed, wpOp P ops Q i (fun a' w' => ((listed.setIfInBounds i true).getD k true = false → F w') ∧ wpAnyK P md ops Q k F fuel (listed.setIfInBounds i true) a' w') a w
theorem wpAny_of_K : ∀ (fuel : Nat) (listed : Array Bool) (a : Act) (w : World), wpAnyK P md ops Q k F fuel listed a w → wpAny P md ops Q fuel listed a w
  | 0, _, _, _, h => h
  | fuel + 1, _, _, _, h => ⟨h.1, fun i hi => wpOp_mono (fun a' w' h' => wpAny_of_K fuel _ a' w' h'.2) (h.2 i hi)⟩

theorem wpAnyK_first {i f : Nat} {oi : Oper} {v : Value} (hi : ops[i]? = some oi) (hsel : ∀ (j : Nat) (o : Oper) cs b, ops[j]? = some o → o.op ≠ .select cs b)
    (hQ : ∀ c a w, Q (.panic c) (a.put oi.dst v) w → Q (.panic c) a w) (hik : i ≠ k) (hwt : waitsB md ops i f k = true) :
    ∀ (fuel : Nat) (listed : Array Bool) (a : Act) (w : World),
      (∀ j oj, ops[j]? = some oj → j ≠ i → listed.getD j true = false → (∀ e ∈ oj.after, Region.binds md e = true → e.on ≠ i) → oi.apart ops oj = true) →
      i ∈ Region.ready md ops listed → Closed md ops listed → YieldsIf P ops F oi v a → (listed.getD k true = false → F w) →
      wpAnyK P md ops Q k F fuel (listed.setIfInBounds i true) (a.put oi.dst v) w → wpAnyK P md ops Q k F (fuel + 1) listed a w := by
  intro fuel
  induction fuel with
  | zero =>
    intro listed a w _ hr hc hy hS H
    refine ⟨fun h => (by rw [h] at hr; cases hr), fun j hj => ?_⟩
    have hF : F w := hS (waits_un hc (mem_ready.1 hr).1 f k hwt)
    by_cases hji : j = i
    · subst hji
      exact YieldsIf.wpOp hi hy hF ⟨fun _ => hF, H⟩
    · have := ready_mono hj hji
      rw [H.1] at this
      cases this
  | succ fuel ih =>
    intro listed a w hfree hr hc hy hS H
    have hF : F w := hS (waits_un hc (mem_ready.1 hr).1 f k hwt)
    refine ⟨fun h => (by rw [h] at hr; cases hr), fun j hj => ?_⟩
    by_cases hji : j = i
    · subst hji
      exact YieldsIf.wpOp hi hy hF ⟨fun _ => hF, H⟩
    · have h1 := H.2 j (ready_mono hj hji)
      obtain ⟨hjun, oj, hoj, hall⟩ := mem_ready.1 hj
      have hnot : ∀ e ∈ oj.after, Region.binds md e = true → e.on ≠ i := fun e he hb heq => by
        have h1 := hall e he hb
        have h0 := (mem_ready.1 hr).1
        rw [heq] at h1
        rcases Nat.lt_or_ge i listed.size with h' | h'
        · simp [h'] at h0 h1; rw [h0] at h1; cases h1
        · simp [Array.getElem?_eq_none h'] at h1
      have h2 := wpOp_putIf hoj (hfree j oj hoj hji hjun hnot) (fun cs b => hsel i oi cs b hi) (fun cs b => hsel j oj cs b hoj) hQ hy h1
      have hfree' : ∀ k ok, ops[k]? = some ok → k ≠ i → (listed.setIfInBounds j true).getD k true = false →
          (∀ e ∈ ok.after, Region.binds md e = true → e.on ≠ i) → oi.apart ops ok = true := fun k ok hk hki hun hno => by
        refine hfree k ok hk hki ?_ hno
        by_cases hjk : j = k
        · subst hjk; exact hjun
        · rw [getD_set_ne true hjk] at hun; exact hun
      refine wpOp_mono (fun a' w' h3 => ?_) h2
      have hS' : (listed.setIfInBounds j true).getD k true = false → F w' := fun h => h3.2.1 (by
        rw [Array.setIfInBounds_comm _ _ (Ne.symm hji), getD_set_ne true hik]; exact h)
      refine ⟨hS', ih (listed.setIfInBounds j true) a' w' hfree' (ready_mono hr (Ne.symm hji)) (closed_ready hc hj) h3.1 hS' ?_⟩
      rw [Array.setIfInBounds_comm _ _ hji]
      exact h3.2.2

/-- take number i first: a load, whose value F tells; number k waits for it -/
theorem wpAnyK_take {i : Nat} {oi : Oper} {v : Value} {fuel : Nat} {listed : Array Bool} {a : Act} {w : World} (hi : ops[i]? = some oi)
    (hs : (Region.noSelect ops && Region.free md ops listed i && (Region.ready md ops listed).contains i && closedB md ops listed && waitsB md ops i ops.size k && !(i == k)) = true)
    (hQ : ∀ c a w, Q (.panic c) (a.put oi.dst v) w → Q (.panic c) a w) (hy : YieldsIf P ops F oi v a) (hS : F w)
    (h : wpAnyK P md ops Q k F fuel (listed.setIfInBounds i true) (a.put oi.dst v) w) : wpAnyK P md ops Q k F (fuel + 1) listed a w := by
  simp only [Bool.and_eq_true, Bool.not_eq_true', beq_eq_false_iff_ne] at hs
  obtain ⟨⟨⟨⟨⟨h1, h2⟩, h3⟩, h4⟩, h5⟩, h6⟩ := hs
  exact wpAnyK_first hi (Region.noSelect_spec h1) hQ h6 h5 fuel listed a w (Region.free_spec hi h2) (by simpa using h3) (closed_of h4) hy (fun _ => hS) h

def AllReadyK (P : Program) (md : Region.Mode) (ops : Array Oper) (Q : Exit → Act → World → Prop) (k : Nat) (F : World → Prop) (fuel : Nat) (listed : Array Bool) (a : Act) (w : World) (rs : List Nat) : Prop :=
  ∀ i ∈ rs, wpOp P ops Q i (fun a' w' => ((listed.setIfInBounds i true).getD k true = false → F w') ∧ wpAnyK P md ops Q k F fuel (listed.setIfInBounds i true) a' w') a w
theorem AllReadyK.nil {fuel : Nat} {listed : Array Bool} {a : Act} {w : World} : AllReadyK P md ops Q k F fuel listed a w [] := fun _ h => by cases h
theorem AllReadyK.cons {fuel : Nat} {listed : Array Bool} {a : Act} {w : World} {i : Nat} {o : Oper} {rs : List Nat} (ho : ops[i]? = some o)
    (h : ∀ K' : Act → World → Prop, Shut (∀ a w, ((listed.setIfInBounds i true).getD k true = false → F w) → wpAnyK P md ops Q k F fuel (listed.setIfInBounds i true) a w → K' a w) → if Region.wanted o (yielded ops a.tmps) = true then Oper.wp P o a w K' Q else K' (a.put o.dst undef) w)
    (hs : AllReadyK P md ops Q k F fuel listed a w rs) : AllReadyK P md ops Q k F fuel listed a w (i :: rs) := fun j hj => by
  rcases List.mem_cons.1 hj with rfl | hj
  · exact wpOp_step ho (fun K' hK => h K' (fun a w hS hW => hK a w ⟨hS, hW⟩))
  · exact hs j hj
theorem wpAnyK_ready {rs : List Nat} {fuel : Nat} {listed : Array Bool} {a : Act} {w : World} (hr : Region.ready md ops listed = rs) (hne : rs ≠ [])
    (h : AllReadyK P md ops Q k F fuel listed a w rs) : wpAnyK P md ops Q k F (fuel + 1) listed a w := ⟨fun h0 => absurd (hr ▸ h0) hne, hr ▸ h⟩
/-- one operation alone may come up -/
theorem wpAnyK_one {i : Nat} {o : Oper} {fuel : Nat} {listed : Array Bool} {a : Act} {w : World} (hr : Region.ready md ops listed = [i]) (ho : ops[i]? = some o)
    (h : ∀ K' : Act → World → Prop, Shut (∀ a w, ((listed.setIfInBounds i true).getD k true = false → F w) → wpAnyK P md ops Q k F fuel (listed.setIfInBounds i true) a w → K' a w) → if Region.wanted o (yielded ops a.tmps) = true then Oper.wp P o a w K' Q else K' (a.put o.dst undef) w) :
    wpAnyK P md ops Q k F (fuel + 1) listed a w := wpAnyK_ready hr (by simp) (AllReadyK.cons ho h AllReadyK.nil)
theorem wpAnyK_done {listed : Array Bool} {a : Act} {w : World} (hr : Region.ready md ops listed = []) (h : Q .normal a w) :
    ∀ fuel, wpAnyK P md ops Q k F fuel listed a w
  | 0 => ⟨hr, h⟩
  | _ + 1 => ⟨fun _ => h, by rw [hr]; simp⟩
theorem wp_region_K {id : Nat} {a : Act} {w : World} (k : Nat) (F : World → Prop) (hm : P.follows .mixedOrders = true)
    (h : wpAnyK P .any ops (NoPanic Q) k F ops.size (Array.replicate ops.size false) a w.drew) : (Code.region id ops true).wp P Q a w :=
  wp_region_noPanic (wp_region_any hm (wpAny_of_K _ _ _ _ h))
end

section
variable {P : Program} {w0 : World} {o : Oper} {a : Act} {K : Act → World → Prop} {Q : Exit → Act → World → Prop} {E' : Prop} {ops : Array Oper}
/-- append of one, as the next operation of a region -/
theorem step_push (hgd : o.guard = none) (s x : Operand) (t : TypeId)
    (ho : o.op = .call { callee := .builtin .append, args := #[s, x], argTypes := #[t, t] }) {base : Nat} {e te : TypeId} {bytes : Nat} (hP : Pushes P t e bytes) {ps : List Pc} (hS : Sep ps w0) (k : Nat) {v u : Value} {n : Nat} {xs : List Value}
    (hk : ps[k]? = some (Pc.row base e 1 v n xs)) (hs : a.eval s = v) (hx : a.eval x = .slice (some ⟨w0.heap.size, 0, none⟩) 1 1) (h1 : u.oneCell' = true) (hn : n ≤ 1000000000) (hby : bytes ≤ 1000) (hbase : base ≤ w0.heap.size)
    (h : ∀ v' w', Sep (ps.set k (Pc.row base e 1 v' (n + 1) (xs ++ [u]))) w' → (∃ g c, v' = .slice (some ⟨g, 0, none⟩) (n + 1) c ∧ n + 1 ≤ c ∧ c ≤ 9223372036854775807) → K (a.put o.dst v') w') :
    if Region.wanted o (yielded ops a.tmps) = true then Oper.wp P o a (w0.alloc (.cells #[u] te)) K Q else E' := by
  obtain ⟨i, z, ht, hi, hz0, hz1, hz2, hz3⟩ := hP.out
  have hb : (n + 1) * bytes ≤ 1000000001 * 1000 := Nat.mul_le_mul (by omega) hby
  rw [if_pos (by simp [Region.wanted, hgd])]
  obtain ⟨v', w', hr, hown, hgrow, -, hat⟩ := run_append_own_at (P := P) (w0.alloc (.cells #[u] te)) base t o.type e i z 1 bytes ht hi hz0 hz1 hz2 hz3 (by decide) v n xs ((hS.row k hk).alloc _) ⟨w0.heap.size, 0, none⟩ 1 1 [u] rfl (cell_one_new _ _ _) (by simpa using h1) (by unfold maxLen; omega) (by omega) (by simp; omega)
  unfold Oper.wp execOp
  simp only [ho, resolve, invoke, builtin, Sem.run_bind, Sem.run_pure, Result.andThen_ok, List.map_toArray, List.map_cons, List.map_nil, hs, hx, hr]
  have hS' := (hS.alloc (.cells #[u] te)).grow k hk hgrow hown (by
    rcases hat with e1 | e1
    · exact .inl e1
    · exact .inr (fun q hq => by rw [e1] at hq; simp only [Option.some.injEq] at hq; omega))
  refine h v' w' hS' ?_
  rcases hown.2 with ⟨_, h2⟩ | ⟨g, cap, cur, h2, _, _, h3, h4, _⟩
  · omega
  · exact ⟨g, cap, h2, h3, by unfold maxLen at h4; omega⟩
end
end Go.Proofs.YtjemdepcaaadiaaDoor

/- APPEND OF ONE ELEMENT OF MANY CELLS, among other pieces. Nothing of any program. -/
namespace Go.Proofs.YtjemdepcaaadiaaDoor
open Go.RowKit

/-- what an append needs to know of a row's type, whose elements have s cells -/
structure PushesN (P : Program) (t e : TypeId) (s bytes : Nat) : Prop where
  out : ∃ (i : TypeInfo) (z : Value), P.underlying t = some (.slice e) ∧ P.info? e = some i ∧ i.zero = some z ∧ i.size = s ∧ i.bytes = bytes ∧ z.cells.size = s
theorem PushesN.mk' {P : Program} {t e : TypeId} {s bytes : Nat} {z : Value} (ht : P.underlying t = some (.slice e)) (h : (P.info? e).map (fun i => (i.zero, i.size, i.bytes)) = some (some z, s, bytes)) (hz : z.cells.size = s) : PushesN P t e s bytes := by
  cases hi : P.info? e with
  | none => rw [hi] at h; cases h
  | some i =>
    rw [hi] at h
    simp only [Option.map_some, Option.some.injEq, Prod.mk.injEq] at h
    exact ⟨i, z, ht, hi, h.1, h.2.1, h.2.2, hz⟩
theorem cells_new (w : World) (cs : List Value) (t : TypeId) : ∀ j u, cs[j]? = some u → (w.alloc (.cells cs.toArray t)).cell? ((⟨w.heap.size, 0, none⟩ : Addr).add j) = some u := by
  intro j u hj
  rw [show (⟨w.heap.size, 0, none⟩ : Addr).add j = ⟨w.heap.size, j, none⟩ by unfold Addr.add; by_cases h0 : j = 0 <;> simp [h0]]
  rw [cell_of_row _ _ _ _ _ _ (heap_alloc_new w _)]
  simpa using hj
section
variable {P : Program} {w0 : World} {o : Oper} {a : Act} {K : Act → World → Prop} {Q : Exit → Act → World → Prop} {E' : Prop} {ops : Array Oper}
theorem run_pushN {t : TypeId} {base : Nat} {e te : TypeId} {sz bytes : Nat} (hP : PushesN P t e sz bytes) (hsz : 0 < sz) {ps : List Pc} (hS : Sep ps w0) (k : Nat) {v : Value} {cs : List Value} {n : Nat} {xs : List Value}
    (hk : ps[k]? = some (Pc.row base e sz v n xs)) (hc : cs.length = sz) (h1 : ∀ u ∈ cs, u.oneCell' = true) (hn : n ≤ 1000000000) (hby : bytes ≤ 10000) (hbase : base ≤ w0.heap.size) (ty : TypeId) :
    ∃ v' w', (Builtin.append_ #[t, t] ty #[v, .slice (some ⟨w0.heap.size, 0, none⟩) 1 1]).run P (w0.alloc (.cells cs.toArray te)) = .ok v' w' ∧ Sep (ps.set k (Pc.row base e sz v' (n + 1) (xs ++ cs))) w' ∧ (∃ g c, v' = .slice (some ⟨g, 0, none⟩) (n + 1) c ∧ n + 1 ≤ c ∧ c ≤ 9223372036854775807) := by
  obtain ⟨i, z, ht, hi, hz0, hz1, hz2, hz3⟩ := hP.out
  have hb : (n + 1) * bytes ≤ 1000000001 * 10000 := Nat.mul_le_mul (by omega) hby
  obtain ⟨v', w', hr, hown, hgrow, -, hat⟩ := run_append_own_at (P := P) (w0.alloc (.cells cs.toArray te)) base t ty e i z sz bytes ht hi hz0 hz1 hz2 hz3 hsz v n xs ((hS.row k hk).alloc _) ⟨w0.heap.size, 0, none⟩ 1 1 cs (by omega) (cells_new _ _ _) h1 (by unfold maxLen; omega) (by omega) (by simp; omega)
  refine ⟨v', w', hr, (hS.alloc (.cells cs.toArray te)).grow k hk hgrow hown (by
    rcases hat with e1 | e1
    · exact .inl e1
    · exact .inr (fun q hq => by rw [e1] at hq; simp only [Option.some.injEq] at hq; omega)), ?_⟩
  rcases hown.2 with ⟨_, h2⟩ | ⟨g, cap, cur, h2, _, _, h3, h4, _⟩
  · omega
  · exact ⟨g, cap, h2, h3, by unfold maxLen at h4; omega⟩
theorem step_pushN (hgd : o.guard = none) (s x : Operand) (t : TypeId)
    (ho : o.op = .call { callee := .builtin .append, args := #[s, x], argTypes := #[t, t] }) {base : Nat} {e te : TypeId} {sz bytes : Nat} (hP : PushesN P t e sz bytes) (hsz : 0 < sz) {ps : List Pc} (hS : Sep ps w0) (k : Nat) {v : Value} {cs : List Value} {n : Nat} {xs : List Value}
    (hk : ps[k]? = some (Pc.row base e sz v n xs)) (hs : a.eval s = v) (hx : a.eval x = .slice (some ⟨w0.heap.size, 0, none⟩) 1 1) (hc : cs.length = sz) (h1 : ∀ u ∈ cs, u.oneCell' = true) (hn : n ≤ 1000000000) (hby : bytes ≤ 10000) (hbase : base ≤ w0.heap.size)
    (h : ∀ v' w', Sep (ps.set k (Pc.row base e sz v' (n + 1) (xs ++ cs))) w' → (∃ g c, v' = .slice (some ⟨g, 0, none⟩) (n + 1) c ∧ n + 1 ≤ c ∧ c ≤ 9223372036854775807) → K (a.put o.dst v') w') :
    if Region.wanted o (yielded ops a.tmps) = true then Oper.wp P o a (w0.alloc (.cells cs.toArray te)) K Q else E' := by
  rw [if_pos (by simp [Region.wanted, hgd])]
  obtain ⟨v', w', hr, h2, h3⟩ := run_pushN (P := P) hP hsz hS k hk hc h1 hn hby hbase o.type (te := te)
  unfold Oper.wp execOp
  simp only [ho, resolve, invoke, builtin, Sem.run_bind, Sem.run_pure, Result.andThen_ok, List.map_toArray, List.map_cons, List.map_nil, hs, hx, hr]
  exact h v' w' h2 h3
theorem wpList_pushN {rest : List Oper} (hgd : o.guard = none) (s x : Operand) (t : TypeId)
    (ho : o.op = .call { callee := .builtin .append, args := #[s, x], argTypes := #[t, t] }) {base : Nat} {e te : TypeId} {sz bytes : Nat} (hP : PushesN P t e sz bytes) (hsz : 0 < sz) {ps : List Pc} (hS : Sep ps w0) (k : Nat) {v : Value} {cs : List Value} {n : Nat} {xs : List Value}
    (hk : ps[k]? = some (Pc.row base e sz v n xs)) (hs : a.eval s = v) (hx : a.eval x = .slice (some ⟨w0.heap.size, 0, none⟩) 1 1) (hc : cs.length = sz) (h1 : ∀ u ∈ cs, u.oneCell' = true) (hn : n ≤ 1000000000) (hby : bytes ≤ 10000) (hbase : base ≤ w0.heap.size)
    (h : ∀ v' w', Sep (ps.set k (Pc.row base e sz v' (n + 1) (xs ++ cs))) w' → (∃ g c, v' = .slice (some ⟨g, 0, none⟩) (n + 1) c ∧ n + 1 ≤ c ∧ c ≤ 9223372036854775807) → wpList P ops Q rest (a.put o.dst v') w') :
    wpList P ops Q (o :: rest) a (w0.alloc (.cells cs.toArray te)) := by
  refine wpList_plain hgd fun K hK => ?_
  obtain ⟨v', w', hr, h2, h3⟩ := run_pushN (P := P) hP hsz hS k hk hc h1 hn hby hbase o.type (te := te)
  unfold Oper.wp execOp
  simp only [ho, resolve, invoke, builtin, Sem.run_bind, Sem.run_pure, Result.andThen_ok, List.map_toArray, List.map_cons, List.map_nil, hs, hx, hr]
  exact hK _ _ (h v' w' h2 h3)
end
/-- the j-th cell of the i-th of elements that have s cells each -/
theorem flat_get {α β : Type} (f : α → List β) (s : Nat) : ∀ (L : List α) (i j : Nat) (x : α), (∀ y ∈ L, (f y).length = s) → L[i]? = some x → j < s → (L.flatMap f)[i * s + j]? = (f x)[j]?
  | [], i, _, _, _, h, _ => by simp at h
  | y :: L, 0, j, x, hl, h, hj => by
    simp only [List.getElem?_cons_zero, Option.some.injEq] at h
    subst h
    rw [List.flatMap_cons, Nat.zero_mul, Nat.zero_add, List.getElem?_append_left (by rw [hl y (List.mem_cons_self ..)]; exact hj)]
  | y :: L, i + 1, j, x, hl, h, hj => by
    rw [List.getElem?_cons_succ] at h
    have hy := hl y (List.mem_cons_self ..)
    rw [List.flatMap_cons, List.getElem?_append_right (by rw [hy, Nat.succ_mul]; omega), hy, show (i + 1) * s + j - s = i * s + j by rw [Nat.succ_mul]; omega]
    exact flat_get f s L i j x (fun z hz => hl z (List.mem_cons_of_mem _ hz)) h hj
end Go.Proofs.YtjemdepcaaadiaaDoor

/- APPEND OF ALL OF A SLICE, among other pieces. Nothing of any program. -/
namespace Go.Proofs.YtjemdepcaaadiaaDoor
open Go.RowKit

/-- a slice whose m elements have these cells -/
def CellsOf (W : World) (v : Value) (m : Nat) (cs : List Value) : Prop :=
  (v = .slice none 0 0 ∧ m = 0 ∧ cs = []) ∨ ∃ ad c, v = .slice (some ad) m c ∧ ∀ j u, cs[j]? = some u → W.cell? (ad.add j) = some u
theorem wpList_spread {P : Program} {w0 : World} {ops : Array Oper} {rest : List Oper} {o : Oper} {a : Act} {Q : Exit → Act → World → Prop} (hgd : o.guard = none) (s x : Operand) (t : TypeId)
    (ho : o.op = .call { callee := .builtin .append, args := #[s, x], argTypes := #[t, t] }) {base : Nat} {e : TypeId} {sz bytes : Nat} (hP : PushesN P t e sz bytes) (hsz : 0 < sz) {ps : List Pc} (hS : Sep ps w0) (k : Nat) {v xv : Value} {cs : List Value} {n m : Nat} {xs : List Value}
    (hk : ps[k]? = some (Pc.row base e sz v n xs)) (hs : a.eval s = v) (hx : a.eval x = xv) (hX : CellsOf w0 xv m cs) (hc : cs.length = m * sz) (h1 : ∀ u ∈ cs, u.oneCell' = true) (hn : n + m ≤ 1000000000) (hby : bytes ≤ 10000) (hbase : base ≤ w0.heap.size)
    (h : ∀ v' w', Sep (ps.set k (Pc.row base e sz v' (n + m) (xs ++ cs))) w' → wpList P ops Q rest (a.put o.dst v') w') : wpList P ops Q (o :: rest) a w0 := by
  obtain ⟨i, z, ht, hi, hz0, hz1, hz2, hz3⟩ := hP.out
  rcases hX with ⟨rfl, rfl, rfl⟩ | ⟨ad, c, rfl, hcl⟩
  · refine wpList_append_own_none hgd s x t ho base e i sz ht hi v n xs hs (hS.row k hk) hx ?_
    have := h v w0
    rw [Nat.add_zero, List.append_nil, show ps.set k (Pc.row base e sz v n xs) = ps by
      obtain ⟨h2, h3⟩ := List.getElem?_eq_some_iff.1 hk
      rw [← h3, List.set_getElem_self]] at this
    exact this hS
  · have hb : (n + m) * bytes ≤ 1000000000 * 10000 := Nat.mul_le_mul hn hby
    refine wpList_append_own_at _ hgd s x t ho base e i z sz bytes ht hi hz0 hz1 hz2 hz3 hsz v n xs hs (hS.row k hk) ad m c cs hx hc hcl h1 (by unfold maxLen; omega) (by omega) hbase ?_
    intro v' w' hown hgrow _ hat
    exact h v' w' (hS.grow k hk hgrow hown (by
      rcases hat with e1 | e1
      · exact .inl e1
      · exact .inr (fun q hq => by rw [e1] at hq; simp only [Option.some.injEq] at hq; omega)))
end Go.Proofs.YtjemdepcaaadiaaDoor

/- WHAT PACKAGE nfa GIVES: Most, First, Step, Done. -/
namespace Go.Proofs.YtjemdepcaaadiaaDoor
open Go.RowKit

def mostV (l : List N.Item) : Int := if rightB l = true then (N.most l : Int) else 0
def firstV (l : List N.Item) : Value := if rightB l = true then .tuple #[.int .i64 (N.clo l 0), .int .i64 0] else .tuple #[.int .i64 0, .int .i64 80]
def setOk (l : List N.Item) (x : Int) : Bool := rightB l && decide (0 ≤ x) && decide (x ≤ N.most l)
def stepV (l : List N.Item) (st : Bool) (x c : Int) : Value := if setOk l x = true then .tuple #[.int .i64 (N.step l st x.toNat c), .int .i64 0] else .tuple #[.int .i64 0, .int .i64 80]
def doneV (l : List N.Item) (x : Int) : Bool := setOk l x && N.doneB l x.toNat

theorem isDone_any (r m : Nat) (st : Bool) (v : Value) (l : List N.Item) (w : World) (h : Rn w r m st v l) (S : Nat) (hS : S < 4611686018427387904) :
    Calls Tryd.prog 79 #[.pointer (some ⟨r, 0, none⟩), .int .i64 S] w fun e w' => e = .returned (.bool (N.doneB l S)) ∧ w = w' := by
  have hl := h.len
  obtain ⟨ao, cap, rfl⟩ := h.items.slice
  have c1 : w.cell? ⟨r, 1, none⟩ = some (.slice ao l.length cap) := (h.blk.cell 1).trans rfl
  have HB := Box.mk (test_bit S (2 * l.length) (by omega))
  clear h
  go_enter Tryd.func79, Tryd.ntmps79
  go_wp2
  go_ret
  exact ⟨ret_bool HB.out, rfl⟩

theorem alloc_below (w : World) (o : Obj) : Below w.heap.size w (w.alloc o) := (Below.refl _ _).alloc (Nat.le_refl _) o

set_option maxHeartbeats 1000000 in
theorem most_any (A : Nat → Addr) (B : Nat) (st : Bool) (v : Value) (l : List N.Item) (w : World) (hv : ItemsAt w v l) (hz : l.length ≤ 16777216) (hE : E A B w) (hB : B ≤ w.heap.size) :
    Calls Tryd.prog 50 #[.agg #[.bool st, v]] w fun e w' => e = .returned (.int .i64 (mostV l)) ∧ Below w.heap.size w w' := by
  have hb0 := alloc_below w (.cells #[.bool st, v] 44)
  unfold mostV
  cases hr : rightB l with
  | true =>
    have HO := Box.mk (open_ok A B st v l _ (hv.below hb0) hz (hE.below (hb0.mono hB)) (Nat.le_trans hB hb0.size) ⟨hr⟩)
    have HB0 := Box.mk hb0
    clear hb0 hE hv hr
    go_enter Tryd.func50, Tryd.ntmps50
    go_wp2_with fail
    refine HO.out.mono ?_; rintro e w1 ⟨hb1, r, m, rfl, hrn⟩
    have HB1 := Box.mk hb1
    have HR := Box.mk hrn
    clear hb1 hrn
    go_wp2_with fail
    refine (all_any _ _ _ _ _ _ HR.out).mono ?_; rintro e w2 ⟨rfl, rfl⟩
    go_wp2_with fail
    go_ret
    exact ⟨rfl, HB0.out.trans (HB1.out.mono HB0.out.size)⟩
  | false =>
    have HO := Box.mk (open_bad A B st v l _ (hv.below hb0) hz (hE.below (hb0.mono hB)) (Nat.le_trans hB hb0.size) ⟨hr⟩ (.slice none 0 0))
    have HB0 := Box.mk hb0
    clear hb0 hE hv hr
    go_enter Tryd.func50, Tryd.ntmps50
    go_wp2_with fail
    refine HO.out.mono ?_; rintro e w1 ⟨hb1, rfl⟩
    unfold errV
    have HB1 := Box.mk hb1
    clear hb1
    go_wp2_with fail
    go_ret
    exact ⟨rfl, HB0.out.trans (HB1.out.mono HB0.out.size)⟩

set_option maxHeartbeats 1000000 in
theorem first_any (A : Nat → Addr) (B : Nat) (st : Bool) (v : Value) (l : List N.Item) (w : World) (hv : ItemsAt w v l) (hz : l.length ≤ 16777216) (hE : E A B w) (hB : B ≤ w.heap.size) :
    Calls Tryd.prog 63 #[.agg #[.bool st, v]] w fun e w' => e = .returned (firstV l) ∧ Below w.heap.size w w' := by
  have hb0 := alloc_below w (.cells #[.bool st, v] 44)
  unfold firstV
  cases hr : rightB l with
  | true =>
    have HO := Box.mk (open_ok A B st v l _ (hv.below hb0) hz (hE.below (hb0.mono hB)) (Nat.le_trans hB hb0.size) ⟨hr⟩)
    have HB0 := Box.mk hb0
    clear hb0 hE hv hr
    go_enter Tryd.func63, Tryd.ntmps63
    go_wp2_with fail
    refine HO.out.mono ?_; rintro e w1 ⟨hb1, r, m, rfl, hrn⟩
    have HB1 := Box.mk hb1
    have HC := Box.mk (closed_any r m st v l (w1.alloc (.cells #[.int .i64 0] 3)) (hrn.below (alloc_below _ _)) w1.heap.size 0 (by simp) (by omega))
    clear hb1 hrn
    go_wp2_with fail
    refine HC.out.mono ?_; rintro e w2 ⟨rfl, hb2⟩
    have HB2 := Box.mk ((alloc_below w1 _).trans (hb2.mono (alloc_below w1 _).size))
    clear hb2
    go_wp2_with fail
    go_ret2
    exact ⟨rfl, HB0.out.trans ((HB1.out.trans (HB2.out.mono HB1.out.size)).mono HB0.out.size)⟩
  | false =>
    have HO := Box.mk (open_bad A B st v l _ (hv.below hb0) hz (hE.below (hb0.mono hB)) (Nat.le_trans hB hb0.size) ⟨hr⟩ (.slice none 0 0))
    have HB0 := Box.mk hb0
    have HE := Box.mk hE
    clear hb0 hE hv hr
    go_enter Tryd.func63, Tryd.ntmps63
    go_wp2_with fail
    refine HO.out.mono ?_; rintro e w1 ⟨hb1, rfl⟩
    have HT := Box.mk (told_any A B w1 ((HE.out.below (HB0.out.mono hB)).below (hb1.mono (Nat.le_trans hB HB0.out.size))))
    have HB1 := Box.mk hb1
    unfold errV at HT ⊢
    clear hb1
    go_wp2_with fail
    refine HT.out.mono ?_; rintro e w2 ⟨rfl, rfl⟩
    go_wp2_with fail
    go_ret2
    exact ⟨rfl, HB0.out.trans (HB1.out.mono HB0.out.size)⟩

theorem most_small (l : List N.Item) (h : l.length ≤ 10) : N.most l < 4611686018427387904 := by
  have : 2 ^ (2 * l.length + 1) ≤ 2 ^ 21 := Nat.pow_le_pow_right (by omega) (by omega)
  unfold N.most
  omega
theorem right_len {l : List N.Item} (h : rightB l = true) : l.length ≤ 10 := by
  unfold rightB at h
  rw [Bool.and_eq_true] at h
  exact of_decide_eq_true h.1
theorem cell_two (w : World) (o : Obj) (x : Value) (T : TypeId) : ((w.alloc o).alloc (.cells #[x] T)).cell? ⟨w.heap.size + 1, 0, none⟩ = some x := by
  simp

set_option maxHeartbeats 1000000 in
theorem pstep_any (A : Nat → Addr) (B : Nat) (st : Bool) (v : Value) (l : List N.Item) (x c : Int) (w : World) (hv : ItemsAt w v l) (hz : l.length ≤ 16777216) (hE : E A B w) (hB : B ≤ w.heap.size) :
    Calls Tryd.prog 47 #[.agg #[.bool st, v], .int .i64 x, .int .i64 c] w fun e w' => e = .returned (stepV l st x c) ∧ Below w.heap.size w w' := by
  have hb0 := ((Below.refl w.heap.size w).alloc (Nat.le_refl _) (.cells #[.bool st, v] 44)).alloc (by simp) (.cells #[.int .i64 x] 2)
  have hcx := cell_two w (.cells #[.bool st, v] 44) (.int .i64 x) 2
  unfold stepV
  have HB0 := Box.mk hb0
  have HE := Box.mk hE
  have hE' := hE.below (hb0.mono hB)
  have hB' := Nat.le_trans hB hb0.size
  cases hok : setOk l x with
  | true =>
    have hok' := hok
    unfold setOk at hok
    simp only [Bool.and_eq_true, decide_eq_true_eq] at hok
    obtain ⟨⟨hr, h0⟩, h1⟩ := hok
    have hm := most_small l (right_len hr)
    obtain ⟨S, rfl⟩ := Int.eq_ofNat_of_zero_le h0
    have HO := Box.mk (open_set_ok A B st v l _ (hv.below hb0) hz hE' hB' ⟨hr⟩ (w.heap.size + 1) S hcx h0 h1)
    clear hb0 hE hv hr hE' hB' hok' hcx
    go_enter Tryd.func47, Tryd.ntmps47
    go_wp2_with fail
    refine HO.out.mono ?_; rintro e w1 ⟨hb1, r, m, rfl, hrn⟩
    have HB1 := Box.mk hb1
    have HR := Box.mk hrn
    clear hb1 hrn
    go_wp2_with fail
    refine (step_any r m st v l _ HR.out S (by omega) c).mono ?_; rintro e w2 ⟨rfl, hb2⟩
    have HB2 := Box.mk hb2
    clear hb2
    go_wp2_with fail
    go_ret2
    exact ⟨by simp, HB0.out.trans ((HB1.out.trans (HB2.out.mono HB1.out.size)).mono HB0.out.size)⟩
  | false =>
    have HO := Box.mk (show Calls Tryd.prog 74 #[.agg #[.bool st, v], .slice (some ⟨w.heap.size + 1, 0, none⟩) 1 1] _ (openNo _ A) from by
      cases hr : rightB l with
      | false => exact open_bad A B st v l _ (hv.below hb0) hz hE' hB' ⟨hr⟩ _
      | true =>
        refine open_set_bad A B st v l _ (hv.below hb0) hz hE' hB' ⟨hr⟩ (w.heap.size + 1) x hcx ?_
        unfold setOk at hok
        rw [hr] at hok
        simp at hok
        omega)
    clear hb0 hE hv hE' hB' hok hcx
    go_enter Tryd.func47, Tryd.ntmps47
    go_wp2_with fail
    refine HO.out.mono ?_; rintro e w1 ⟨hb1, rfl⟩
    have HT := Box.mk (told_any A B w1 ((HE.out.below (HB0.out.mono hB)).below (hb1.mono (Nat.le_trans hB HB0.out.size))))
    have HB1 := Box.mk hb1
    unfold errV at HT ⊢
    clear hb1
    go_wp2_with fail
    refine HT.out.mono ?_; rintro e w2 ⟨rfl, rfl⟩
    go_wp2_with fail
    go_ret2
    exact ⟨rfl, HB0.out.trans (HB1.out.mono HB0.out.size)⟩

set_option maxHeartbeats 1000000 in
theorem pdone_any (A : Nat → Addr) (B : Nat) (st : Bool) (v : Value) (l : List N.Item) (x : Int) (w : World) (hv : ItemsAt w v l) (hz : l.length ≤ 16777216) (hE : E A B w) (hB : B ≤ w.heap.size) :
    Calls Tryd.prog 51 #[.agg #[.bool st, v], .int .i64 x] w fun e w' => e = .returned (.bool (doneV l x)) ∧ Below w.heap.size w w' := by
  have hb0 := ((Below.refl w.heap.size w).alloc (Nat.le_refl _) (.cells #[.bool st, v] 44)).alloc (by simp) (.cells #[.int .i64 x] 2)
  have hcx := cell_two w (.cells #[.bool st, v] 44) (.int .i64 x) 2
  unfold doneV
  have HB0 := Box.mk hb0
  have hE' := hE.below (hb0.mono hB)
  have hB' := Nat.le_trans hB hb0.size
  cases hok : setOk l x with
  | true =>
    have hok' := hok
    unfold setOk at hok
    simp only [Bool.and_eq_true, decide_eq_true_eq] at hok
    obtain ⟨⟨hr, h0⟩, h1⟩ := hok
    have hm := most_small l (right_len hr)
    obtain ⟨S, rfl⟩ := Int.eq_ofNat_of_zero_le h0
    have HO := Box.mk (open_set_ok A B st v l _ (hv.below hb0) hz hE' hB' ⟨hr⟩ (w.heap.size + 1) S hcx h0 h1)
    clear hb0 hE hv hr hE' hB' hok' hcx
    go_enter Tryd.func51, Tryd.ntmps51
    go_wp2_with fail
    refine HO.out.mono ?_; rintro e w1 ⟨hb1, r, m, rfl, hrn⟩
    have HB1 := Box.mk hb1
    have HR := Box.mk hrn
    clear hb1 hrn
    go_wp2_with fail
    refine (isDone_any r m st v l _ HR.out S (by omega)).mono ?_; rintro e w2 ⟨rfl, rfl⟩
    go_wp2_with fail
    go_ret
    exact ⟨by simp, HB0.out.trans (HB1.out.mono HB0.out.size)⟩
  | false =>
    have HO := Box.mk (show Calls Tryd.prog 74 #[.agg #[.bool st, v], .slice (some ⟨w.heap.size + 1, 0, none⟩) 1 1] _ (openNo _ A) from by
      cases hr : rightB l with
      | false => exact open_bad A B st v l _ (hv.below hb0) hz hE' hB' ⟨hr⟩ _
      | true =>
        refine open_set_bad A B st v l _ (hv.below hb0) hz hE' hB' ⟨hr⟩ (w.heap.size + 1) x hcx ?_
        unfold setOk at hok
        rw [hr] at hok
        simp at hok
        omega)
    clear hb0 hE hv hE' hB' hok hcx
    go_enter Tryd.func51, Tryd.ntmps51
    go_wp2_with fail
    refine HO.out.mono ?_; rintro e w1 ⟨hb1, rfl⟩
    have HB1 := Box.mk hb1
    unfold errV
    clear hb1
    go_wp2_with fail
    go_ret
    exact ⟨rfl, HB0.out.trans (HB1.out.mono HB0.out.size)⟩
end Go.Proofs.YtjemdepcaaadiaaDoor

/- WHAT PACKAGE nfa GIVES: Run, Fits. -/
namespace Go.Proofs.YtjemdepcaaadiaaDoor
open Go.RowKit

theorem own_below {w w' : World} {B : Nat} {T : TypeId} {v : Value} {n : Nat} {bs : List Value} (h : w.ownsRow B T 1 v n bs) (hb : Below w.heap.size w w') : w'.ownsRow B T 1 v n bs := by
  have hl := h.lt
  refine ⟨h.1, ?_⟩
  rcases h.2 with h2 | ⟨g, cap, cur, h2, h3, h4, h5⟩
  · exact .inl h2
  · exact .inr ⟨g, cap, cur, h2, h3, (hb.block g (hl g (by rw [h2]; rfl)).2).trans h4, h5⟩
def natV (n : Nat) : Value := .int .i64 n
theorem i64_info : (Tryd.prog.info? 2).map (fun i => (i.zero, i.size, i.bytes)) = some (some (.int .i64 0), 1, 8) := by kernel_rfl
theorem bool_info : (Tryd.prog.info? 4).map (fun i => (i.zero, i.size, i.bytes)) = some (some (.bool false), 1, 1) := by kernel_rfl

/-- the sets behind none, one, two .. numbers, as numbers -/
def setsOf (l : List N.Item) (st : Bool) (cs : List Int) : List Int := (N.runs l st (N.clo l 0) cs cs.length).map fun n : Nat => (n : Int)
def runPost (l : List N.Item) (st : Bool) (cs : List Int) (w : World) (e : Ending) (w' : World) : Prop :=
  Below w.heap.size w w' ∧ (rightB l = true → ∃ v, e = .returned (.tuple #[v, .int .i64 0]) ∧ IntsAt w' v (setsOf l st cs)) ∧ (rightB l = false → e = .returned (.tuple #[.slice none 0 0, .int .i64 80]))

theorem lt_62 (l : List N.Item) (hl : l.length ≤ 10) (S : Nat) (hS : S < 2 ^ (2 * l.length + 1)) : S < 4611686018427387904 := by
  have : 2 ^ (2 * l.length + 1) ≤ 2 ^ 21 := Nat.pow_le_pow_right (by omega) (by omega)
  omega

set_option maxHeartbeats 4000000 in
theorem run_any (A : Nat → Addr) (B : Nat) (st : Bool) (v : Value) (l : List N.Item) (cv : Value) (cs : List Int) (w : World) (hv : ItemsAt w v l) (hz : l.length ≤ 16777216) (hc : IntsAt w cv cs) (hcz : cs.length ≤ 1000) (hE : E A B w) (hB : B ≤ w.heap.size) :
    Calls Tryd.prog 46 #[.agg #[.bool st, v], cv] w (runPost l st cs w) := by
  have hb0 := alloc_below w (.cells #[.bool st, v] 44)
  have HC := Box.mk hc
  obtain ⟨ca, ccap, rfl⟩ := hc.slice
  clear hc
  cases hr : rightB l with
  | true =>
    have HO := Box.mk (open_ok A B st v l _ (hv.below hb0) hz (hE.below (hb0.mono hB)) (Nat.le_trans hB hb0.size) ⟨hr⟩)
    have HB0 := Box.mk hb0
    have hl := right_len hr
    have HRT := Box.mk hr
    obtain ⟨i0, hi, hz0, hz1, hz2⟩ := info_parts i64_info
    clear hb0 hE hv hr
    go_enter Tryd.func46, Tryd.ntmps46
    go_wp2_with fail
    refine HO.out.mono ?_; rintro e w1 ⟨hb1, r, m, rfl, hrn⟩
    have HB1 := Box.mk (HB0.out.trans (hb1.mono HB0.out.size))
    have HR1 := Box.mk hrn
    have HCL := Box.mk (closed_any r m st v l (w1.alloc (.cells #[.int .i64 0] 3)) (hrn.below (alloc_below _ _)) w1.heap.size 0 (by simp) (by omega))
    clear hb1 hrn
    go_wp2_with fail
    refine HCL.out.mono ?_; rintro e w2 ⟨rfl, hb2⟩
    have HR2 := Box.mk ((HR1.out.below (alloc_below _ _)).below hb2)
    have HB2 := Box.mk (show Below w.heap.size w w2 from HB1.out.trans (((alloc_below w1 _).trans (hb2.mono (alloc_below w1 _).size)).mono HB1.out.size))
    clear hb2
    go_wp2_with fail
    go_loopw [8, 9, 28] (fun s o i wr => ∃ k : Nat, k ≤ cs.length ∧ i = .int .i64 k ∧ s = .int .i64 (N.at' l st (N.clo l 0) cs k) ∧ Box (wr.ownsRow w2.heap.size 2 1 o (k + 1) ((N.runs l st (N.clo l 0) cs k).map natV)) ∧ Box (Below w2.heap.size w2 wr))
      (fun _ _ i _ => cs.length - (intOf i).toNat)
    case atStart =>
      refine ⟨0, by omega, rfl, by rw [N.at_zero], ⟨?_⟩, ⟨alloc_below _ _⟩⟩
      rw [N.runs_zero]
      have := World.ownsRow_lit (base := w2.heap.size) (e := 2) (size := 1) w2 #[.int .i64 (N.clo l 0)] 1 (Nat.le_refl _) (by unfold maxLen; omega) rfl
      simpa [natV] using this
    case round =>
      obtain ⟨k, hk, rfl, rfl, ho, hb⟩ := hrel
      have hrn := Box.mk (HR2.out.below hb.out)
      by_cases hlt : k < cs.length
      · obtain ⟨x, hx⟩ : ∃ x, cs[k]? = some x := ⟨_, List.getElem?_eq_getElem hlt⟩
        obtain ⟨g, off, cap2, hg1, hg2, hg3, hg4, hg5⟩ := (HC.out.below (HB2.out.trans (hb.out.mono HB2.out.size))).get (by rintro rfl; simp at hlt)
        obtain ⟨rfl, rfl⟩ : ca = some ⟨g, off, none⟩ ∧ ccap = cap2 := by injection hg1 with h1 h2 h3; exact ⟨h1, h3⟩
        have hcx := hg5 k x hx
        have HSU := Box.mk (N.at_succ l st (N.clo l 0) cs k x hx)
        have HSL := Box.mk (lt_62 l hl _ (N.at_lt l st (N.clo l 0) cs (N.clo_lt l 0 (by omega)) k hk))
        have HST := Box.mk (step_any r m st v l wr hrn.out _ HSL.out x)
        have HRS := Box.mk (N.runs_succ l st (N.clo l 0) cs k)
        unfold maxLen at hg3
        clear hx hg1 hg5
        obtain ⟨og, oc, rfl⟩ := ownsRow_succ ho.out
        go_wp2_with fail
        refine HST.out.mono ?_; rintro e w3 ⟨rfl, hb3⟩; rw [← HSU.out]
        have HO3 := Box.mk (own_below ho.out hb3)
        have HB3 := Box.mk (show Below w2.heap.size w2 w3 from hb.out.trans (hb3.mono hb.out.size))
        clear hb3
        go_wp2_with (at_builtin; refine wpList_append_own _ rfl _ _ 26 rfl w2.heap.size 2 i0 (.int .i64 0) 1 8 Tryd.underlying26 hi hz0 hz1 hz2 rfl (by decide) _ _ _ rfl (HO3.out.alloc _) ⟨w3.heap.size, 0, none⟩ 1 1 [.int .i64 (N.at' l st (N.clo l 0) cs (k + 1))] rfl rfl (cell_one_new _ _ _) (by simp [Value.oneCell']) (by unfold maxLen; omega) (by omega) (by have := HB3.out.size; simp; omega) ?_; intro v' w4 hown' hgrow _; obtain ⟨g', cap', rfl⟩ := ownsRow_succ hown')
        have HOW := Box.mk (show w4.ownsRow w2.heap.size 2 1 (.slice (some ⟨g', 0, none⟩) (k + 1 + 1) cap') (k + 1 + 1) ((N.runs l st (N.clo l 0) cs (k + 1)).map natV) by rw [HRS.out, List.map_append]; exact hown')
        have HB4 := Box.mk (show Below w2.heap.size w2 w4 from (HB3.out.alloc HB3.out.size _).grown hgrow (by have := HB3.out.size; simp; omega) (fun q hq => (HO3.out.lt q hq).1))
        clear hown' hgrow
        go_wp2_with fail
        go_roundw
        case rel => exact ⟨k + 1, hlt, by go_num, rfl, HOW, HB4⟩
        case measure => simp [intOf]; omega
      · obtain rfl : k = cs.length := by omega
        obtain ⟨og, oc, rfl⟩ := ownsRow_succ ho.out
        go_wp2_with fail
        go_ret2
        refine ⟨HB2.out.trans (hb.out.mono HB2.out.size), fun _ => ⟨_, rfl, ?_⟩, fun h => ?_⟩
        · refine IntsAt.of_own (n := cs.length + 1) (T := 2) (base := w2.heap.size) ?_ (by simp [setsOf, N.runs_len])
          unfold setsOf
          rw [List.map_map]
          exact ho.out
        · rw [HRT.out] at h; cases h
  | false =>
    have HO := Box.mk (open_bad A B st v l _ (hv.below hb0) hz (hE.below (hb0.mono hB)) (Nat.le_trans hB hb0.size) ⟨hr⟩ (.slice none 0 0))
    have HB0 := Box.mk hb0
    have HE := Box.mk hE
    have HRT := Box.mk hr
    clear hb0 hE hv hr
    go_enter Tryd.func46, Tryd.ntmps46
    go_wp2_with fail
    refine HO.out.mono ?_; rintro e w1 ⟨hb1, rfl⟩
    have HT := Box.mk (told_any A B w1 ((HE.out.below (HB0.out.mono hB)).below (hb1.mono (Nat.le_trans hB HB0.out.size))))
    have HB1 := Box.mk hb1
    unfold errV at HT ⊢
    clear hb1
    go_wp2_with fail
    refine HT.out.mono ?_; rintro e w2 ⟨rfl, rfl⟩
    go_wp2_with fail
    go_ret2
    exact ⟨HB0.out.trans (HB1.out.mono HB0.out.size), fun h => (by rw [HRT.out] at h; cases h), fun _ => rfl⟩

/-- a value that reads as these answers -/
def BoolsAt (w : World) (v : Value) (xs : List Bool) : Prop :=
  (v = .slice none 0 0 ∧ xs = []) ∨ ∃ b off sp cap, v = .slice (some ⟨b, off, sp⟩) xs.length cap ∧ xs.length ≤ cap ∧ cap ≤ maxLen ∧ (xs ≠ [] → sp = none ∧ b < w.heap.size ∧ ∀ i x, xs[i]? = some x → w.cell? ⟨b, off + i, none⟩ = some (.bool x))
theorem BoolsAt.below {w w' : World} {v : Value} {xs : List Bool} (h : BoolsAt w v xs) (hb : Below w.heap.size w w') : BoolsAt w' v xs := by
  rcases h with h | ⟨b, off, sp, cap, h1, h2, h3, h4⟩
  · exact .inl h
  · exact .inr ⟨b, off, sp, cap, h1, h2, h3, fun hn => ⟨(h4 hn).1, Nat.lt_of_lt_of_le (h4 hn).2.1 hb.size, fun i x hx => (hb.cell (p := ⟨b, off + i, none⟩) (h4 hn).2.1).trans ((h4 hn).2.2 i x hx)⟩⟩
theorem BoolsAt.get {w : World} {v : Value} {xs : List Bool} (h : BoolsAt w v xs) (hn : xs ≠ []) :
    ∃ b off cap, v = .slice (some ⟨b, off, none⟩) xs.length cap ∧ xs.length ≤ cap ∧ cap ≤ maxLen ∧ b < w.heap.size ∧ ∀ i x, xs[i]? = some x → w.cell? ⟨b, off + i, none⟩ = some (.bool x) := by
  rcases h with ⟨_, h⟩ | ⟨b, off, sp, cap, h1, h2, h3, h4⟩
  · exact absurd h hn
  · obtain ⟨rfl, h5, h6⟩ := h4 hn
    exact ⟨b, off, cap, h1, h2, h3, h5, h6⟩
theorem BoolsAt.of_own {w : World} {base n : Nat} {T : TypeId} {v : Value} {xs : List Bool} (h : w.ownsRow base T 1 v n (xs.map Value.bool)) (hn : n = xs.length) : BoolsAt w v xs := by
  subst hn
  have hl := h.lt
  rcases h.2 with ⟨h1, h2⟩ | ⟨g, cap, cur, rfl, h2, h3, h4, h5, h6, h7⟩
  · exact .inl ⟨h1, List.eq_nil_of_length_eq_zero h2⟩
  · refine .inr ⟨g, 0, none, cap, rfl, h4, h5, fun _ => ⟨rfl, (hl g rfl).2, fun i x hx => ?_⟩⟩
    have := h.cells (g := g) rfl i (.bool x) (by rw [List.getElem?_map, hx]; rfl)
    rw [show (⟨g, 0 + i, none⟩ : Addr) = (⟨g, 0, none⟩ : Addr).add i by unfold Addr.add; by_cases h0 : i = 0 <;> simp [h0]]
    exact this
theorem BoolsAt.slice {w : World} {v : Value} {xs : List Bool} (h : BoolsAt w v xs) : ∃ a cap, v = .slice a xs.length cap := by
  rcases h with ⟨rfl, rfl⟩ | ⟨b, off, sp, cap, rfl, _⟩
  · exact ⟨_, _, rfl⟩
  · exact ⟨_, _, rfl⟩
theorem ownsRow_shape {w : World} {base : Nat} {e : TypeId} {size : Nat} {v : Value} {n : Nat} {xs : List Value} (h : w.ownsRow base e size v n xs) : ∃ a c, v = .slice a n c := by
  rcases h.2 with ⟨rfl, rfl⟩ | ⟨g, cap, cur, rfl, _⟩
  · exact ⟨_, _, rfl⟩
  · exact ⟨_, _, rfl⟩

def fitsOf (l : List N.Item) (st : Bool) (cs : List Int) : List Bool := (setsOf l st cs).map (doneV l)
def fitsPost (l : List N.Item) (st : Bool) (cs : List Int) (w : World) (e : Ending) (w' : World) : Prop :=
  Below w.heap.size w w' ∧ (rightB l = true → ∃ v, e = .returned (.tuple #[v, .int .i64 0]) ∧ BoolsAt w' v (fitsOf l st cs)) ∧ (rightB l = false → e = .returned (.tuple #[.slice none 0 0, .int .i64 80]))
theorem setsOf_len (l : List N.Item) (st : Bool) (cs : List Int) : (setsOf l st cs).length = cs.length + 1 := by simp [setsOf, N.runs_len]
theorem map_snoc {α β : Type} (f : α → β) (xs : List α) (k : Nat) (x : α) (h : xs[k]? = some x) : (xs.take (k + 1)).map f = (xs.take k).map f ++ [f x] := by
  rw [List.take_add_one, h, List.map_append]; rfl

set_option maxHeartbeats 4000000 in
theorem fits_any (A : Nat → Addr) (B : Nat) (st : Bool) (v : Value) (l : List N.Item) (cv : Value) (cs : List Int) (w : World) (hv : ItemsAt w v l) (hz : l.length ≤ 16777216) (hc : IntsAt w cv cs) (hcz : cs.length ≤ 1000) (hE : E A B w) (hB : B ≤ w.heap.size) :
    Calls Tryd.prog 23 #[.agg #[.bool st, v], cv] w (fitsPost l st cs w) := by
  have hb0 := alloc_below w (.cells #[.bool st, v] 44)
  have HRUN := Box.mk (run_any A B st v l cv cs _ (hv.below hb0) hz (hc.below hb0) hcz (hE.below (hb0.mono hB)) (Nat.le_trans hB hb0.size))
  have HBK := Box.mk (Blk.new w 44 #[.bool st, v])
  have HB0 := Box.mk hb0
  have HE := Box.mk hE
  have HV := Box.mk hv
  obtain ⟨ca, ccap, rfl⟩ := hc.slice
  obtain ⟨i0, hi, hz0, hz1, hz2⟩ := info_parts bool_info
  clear hc hb0 hE hv
  cases hr : rightB l with
  | true =>
    have HRT := Box.mk hr
    clear hr
    go_enter Tryd.func23, Tryd.ntmps23
    go_wp2_with fail
    refine HRUN.out.mono ?_; rintro e w1 ⟨hb1, hyes, -⟩
    obtain ⟨rv, rfl, hri⟩ := hyes HRT.out
    have hzl := setsOf_len l st cs
    obtain ⟨xs, hxs⟩ : ∃ xs, xs = setsOf l st cs := ⟨_, rfl⟩
    rw [← hxs] at hri hzl
    have HX := Box.mk hxs
    have HB1 := Box.mk (HB0.out.trans (hb1.mono HB0.out.size))
    have HBK1 := Box.mk (HBK.out.below hb1 HBK.out.lt)
    have HI := Box.mk hri
    have hxz : xs.length ≤ 1001 := by omega
    have HZL := Box.mk hzl
    obtain ⟨ra, rcap, rfl⟩ := hri.slice
    clear hb1 hyes hri hxs hzl
    go_wp2_with fail
    go_loopw [8, 22] (fun o i wr => ∃ k : Nat, k ≤ xs.length ∧ i = .int .i64 k ∧ Box (wr.ownsRow w1.heap.size 4 1 o k ((xs.take k).map fun x => Value.bool (doneV l x))) ∧ Box (Below w1.heap.size w1 wr))
      (fun _ i _ => xs.length - (intOf i).toNat)
    case atStart => exact ⟨0, by omega, rfl, ⟨World.ownsRow_nil _ _ _ _⟩, ⟨Below.refl _ _⟩⟩
    case round =>
      obtain ⟨k, hk, rfl, ho, hb⟩ := hrel
      have hbk := HBK1.out.below hb.out HBK1.out.lt
      have c0 : wr.cell? ⟨w.heap.size, 0, none⟩ = some (.bool st) := (hbk.cell 0).trans rfl
      have c1 : wr.cell? ⟨w.heap.size, 1, none⟩ = some v := (hbk.cell 1).trans rfl
      clear hbk
      by_cases hlt : k < xs.length
      · obtain ⟨x, hx⟩ : ∃ x, xs[k]? = some x := ⟨_, List.getElem?_eq_getElem hlt⟩
        obtain ⟨g, off, cap2, hg1, hg2, hg3, hg4, hg5⟩ := (HI.out.below hb.out).get (by rintro rfl; simp at hlt)
        obtain ⟨rfl, rfl⟩ : ra = some ⟨g, off, none⟩ ∧ rcap = cap2 := by injection hg1 with h1 h2 h3; exact ⟨h1, h3⟩
        have hcx := hg5 k x hx
        have HSN := Box.mk (map_snoc (fun x => Value.bool (doneV l x)) xs k x hx)
        have hbw := HB1.out.trans (hb.out.mono HB1.out.size)
        have HD := Box.mk (pdone_any A B st v l x wr (HV.out.below hbw) hz (HE.out.below (hbw.mono hB)) (Nat.le_trans hB hbw.size))
        unfold maxLen at hg3
        clear hx hg1 hg5 hbw
        obtain ⟨oa, oc, rfl⟩ := ownsRow_shape ho.out
        go_wp2_with fail
        refine HD.out.mono ?_; rintro e w3 ⟨rfl, hb3⟩
        have HO3 := Box.mk (own_below ho.out hb3)
        have HB3 := Box.mk (show Below w1.heap.size w1 w3 from hb.out.trans (hb3.mono hb.out.size))
        clear hb3
        go_wp2_with (at_builtin; refine wpList_append_own _ rfl _ _ 48 rfl w1.heap.size 4 i0 (.bool false) 1 1 Tryd.underlying48 hi hz0 hz1 hz2 rfl (by decide) _ _ _ rfl (HO3.out.alloc _) ⟨w3.heap.size, 0, none⟩ 1 1 [.bool (doneV l x)] rfl rfl (cell_one_new _ _ _) (by simp [Value.oneCell']) (by unfold maxLen; omega) (by omega) (by have := HB3.out.size; simp; omega) ?_; intro v' w4 hown' hgrow _; obtain ⟨g', cap', rfl⟩ := ownsRow_succ hown')
        have HOW := Box.mk (show w4.ownsRow w1.heap.size 4 1 (.slice (some ⟨g', 0, none⟩) (k + 1) cap') (k + 1) ((xs.take (k + 1)).map fun x => Value.bool (doneV l x)) by rw [HSN.out]; exact hown')
        have HB4 := Box.mk (show Below w1.heap.size w1 w4 from (HB3.out.alloc HB3.out.size _).grown hgrow (by have := HB3.out.size; simp; omega) (fun q hq => (HO3.out.lt q hq).1))
        clear hown' hgrow
        go_wp2_with fail
        go_roundw
        case rel => exact ⟨k + 1, hlt, by go_num, HOW, HB4⟩
        case measure => simp [intOf]; omega
      · obtain rfl : k = xs.length := by omega
        obtain ⟨oa, oc, rfl⟩ := ownsRow_shape ho.out
        go_wp2_with fail
        go_ret2
        refine ⟨HB1.out.trans (hb.out.mono HB1.out.size), fun _ => ⟨_, rfl, ?_⟩, fun h => ?_⟩
        · refine BoolsAt.of_own (n := xs.length) (T := 4) (base := w1.heap.size) ?_ (by rw [HX.out]; simp [fitsOf])
          have := ho.out
          rw [List.take_length] at this
          unfold fitsOf
          rw [← HX.out, List.map_map]
          exact this
        · rw [HRT.out] at h; cases h
  | false =>
    have HRT := Box.mk hr
    clear hr
    go_enter Tryd.func23, Tryd.ntmps23
    go_wp2_with fail
    refine HRUN.out.mono ?_; rintro e w1 ⟨hb1, -, hno⟩
    obtain rfl := hno HRT.out
    have HB1 := Box.mk (HB0.out.trans (hb1.mono HB0.out.size))
    clear hb1 hno
    go_wp2_with fail
    go_ret2
    exact ⟨HB1.out, fun h => (by rw [HRT.out] at h; cases h), fun _ => rfl⟩
end Go.Proofs.YtjemdepcaaadiaaDoor

/- THE DOCUMENT's ANSWERS OF LAYER 10: add, step, Most, First, Step, Done. -/
namespace Go.Proofs.YtjemdepcaaadiaaDoor
open Go.RowKit

theorem add_or (S n : Nat) (h : S.testBit n = false) : S + 2 ^ n = S ||| 2 ^ n := by
  have hp : 2 ^ (n + 1) = 2 * 2 ^ n := by rw [Nat.pow_succ]; omega
  have hpos : 0 < 2 ^ n := Nat.two_pow_pos n
  rw [Nat.testBit_eq_decide_div_mod_eq, decide_eq_false_iff_not] at h
  have hb : S % 2 ^ (n + 1) < 2 ^ n := by
    rw [hp, Nat.mul_comm, Nat.mod_mul]
    have : S / 2 ^ n % 2 = 0 := by omega
    rw [this]
    have := Nat.mod_lt S hpos
    omega
  have hS : 2 ^ (n + 1) * (S / 2 ^ (n + 1)) + S % 2 ^ (n + 1) = S := Nat.div_add_mod _ _
  generalize S / 2 ^ (n + 1) = a at hS
  generalize S % 2 ^ (n + 1) = b at hS hb
  have h1 : 2 ^ (n + 1) * a + b = 2 ^ (n + 1) * a ||| b := Nat.two_pow_add_eq_or_of_lt (by omega) a
  have h2 : 2 ^ n * 1 + b = 2 ^ n * 1 ||| b := Nat.two_pow_add_eq_or_of_lt hb 1
  have h3 : 2 ^ (n + 1) * a + (2 ^ n * 1 + b) = 2 ^ (n + 1) * a ||| (2 ^ n * 1 + b) := Nat.two_pow_add_eq_or_of_lt (by omega) a
  rw [Nat.mul_one] at h2 h3
  rw [← hS, show 2 ^ (n + 1) * a + b + 2 ^ n = 2 ^ (n + 1) * a + (2 ^ n + b) by omega, h3, h2, h1, Nat.or_assoc, Nat.or_comm b]
theorem or_has (S n : Nat) (h : S.testBit n = true) : S ||| 2 ^ n = S := by
  apply Nat.eq_of_testBit_eq
  intro i
  rw [Nat.testBit_or, Nat.testBit_two_pow]
  by_cases e : n = i
  · subst e; rw [h]; rfl
  · simp [e]

set_option maxHeartbeats 4000000 in
theorem radd_any (st : Bool) (v : Value) (l : List N.Item) (hl : l.length ≤ 12) : ∀ (d n S : Nat) (w : World), 2 * l.length + 2 - n ≤ d → n ≤ 2 * l.length → S < 2 ^ (2 * l.length + 1) → ItemsAt w v l →
    Calls Tryd.prog 67 #[.agg #[.bool st, v], .int .i64 S, .int .i64 n] w fun e w' => e = .returned (.int .i64 ((S ||| N.clo l n : Nat) : Int)) ∧ Below w.heap.size w w' := by
  intro d
  induction d with
  | zero => intro n S w hd hn hS hv; omega
  | succ d ih =>
    intro n S w hd hn hS hv
    have IH := Box.mk ih
    have HV := Box.mk hv
    have HB0 := Box.mk (Blk.new w 44 #[.bool st, v])
    have HW0 := Box.mk (alloc_below w (.cells #[.bool st, v] 44))
    have HS := Box.mk hS
    have hS2 : S < 1099511627776 := lt_40 _ _ hS (by omega)
    obtain ⟨ao, cap, rfl⟩ := hv.slice
    obtain ⟨q, hq⟩ : ∃ q, 2 ^ n = q := ⟨_, rfl⟩
    have hq1 : q ≤ 1099511627776 := by rw [← hq]; exact Nat.pow_le_pow_right (n := 2) (by omega) (show n ≤ 40 by omega)
    have HQ := Box.mk hq
    have HD := Box.mk hd
    clear hv ih hS hq hd
    go_enter Tryd.func67, Tryd.ntmps67
    go_wp2_with fail
    refine (has_any S n _ (by omega) (by omega)).mono ?_; rintro e w1 ⟨rfl, rfl⟩
    go_upto_if 10 with (fail)
    go_cut [1] from 9 to 14 (fun s wx => s = .int .i64 ((S ||| 2 ^ n : Nat) : Int) ∧ Box (Below w.heap.size w wx) ∧ Box (Blk wx w.heap.size 44 #[.bool st, .slice ao l.length cap]))
    case first =>
      cases hb : S.testBit n with
      | true =>
        have HO := Box.mk (or_has S n hb)
        clear hb
        go_wp2_with fail
        go_meet
        exact ⟨by rw [HO.out], HW0, HB0⟩
      | false =>
        have HO := Box.mk (add_or S n hb)
        clear hb
        go_wp2_with fail
        refine (bit_any n _ (by omega)).mono ?_; rintro e w1 ⟨rfl, rfl⟩; rw [HQ.out]
        go_wp2_with fail
        go_meet
        exact ⟨vint (by rw [← HO.out, HQ.out]; simp), HW0, HB0⟩
    case rest =>
      obtain ⟨rfl, hb, hbk⟩ := hcut
      have c0 : wc.cell? ⟨w.heap.size, 0, none⟩ = some (.bool st) := (hbk.out.cell 0).trans rfl
      have c1 : wc.cell? ⟨w.heap.size, 1, none⟩ = some (.slice ao l.length cap) := (hbk.out.cell 1).trans rfl
      by_cases hodd : n % 2 = 1
      · have HC := Box.mk (N.clo_odd l n hodd)
        have t1 : ((n : Int) % 2 == 0) = false := by rw [beq_eq_false_iff_ne]; omega
        clear hodd
        go_wp2_with fail
        go_ret
        exact ⟨by rw [HC.out]; rfl, hb.out⟩
      have t1 : ((n : Int) % 2 == 0) = true := by rw [beq_iff_eq]; omega
      by_cases hend : l.length ≤ n / 2
      · have HC := Box.mk (N.clo_end l n hend)
        have t2 : decide ((n : Int) / 2 < (l.length : Int)) = false := by rw [decide_eq_false_iff_not]; omega
        clear hodd
        go_wp2_with fail
        go_ret
        exact ⟨by rw [HC.out]; rfl, hb.out⟩
      have t2 : decide ((n : Int) / 2 < (l.length : Int)) = true := by rw [decide_eq_true_eq]; omega
      obtain ⟨x, hx⟩ : ∃ x, l[n / 2]? = some x := ⟨_, List.getElem?_eq_getElem (by omega)⟩
      obtain ⟨g, off, cap2, hg1, hg2, hg3, hg4, hg5⟩ := (HV.out.below hb.out).get (by rintro rfl; simp at hend)
      obtain ⟨rfl, rfl⟩ : ao = some ⟨g, off, none⟩ ∧ cap = cap2 := by injection hg1 with h1 h2 h3; exact ⟨h1, h3⟩
      obtain ⟨hc1, hc2⟩ := hg5 _ x hx
      have HH := Box.mk (show N.howAt l (n / 2) = x.2 by unfold N.howAt; simp [List.getD, hx])
      unfold maxLen at hg3
      have hlt : n / 2 < l.length := by omega
      obtain ⟨set, how⟩ := x
      by_cases h0 : how = 0
      · have HC := Box.mk (N.clo_once l n (HH.out.trans h0))
        subst h0
        clear hx hg1 hg5 hodd hend
        go_wp2_with fail
        go_ret
        exact ⟨by rw [HC.out]; rfl, hb.out⟩
      · have HC := Box.mk (N.clo_next l n (by omega) hlt (by rw [HH.out]; exact h0))
        have t3 : (how == 0) = false := by rw [beq_eq_false_iff_ne]; exact h0
        have HI := Box.mk (IH.out (n + 2) (S ||| 2 ^ n) wc (by have := HD.out; omega) (by omega) (or_small S n _ HS.out (by omega)) (HV.out.below hb.out))
        have HN := Box.mk (show ((n : Int) + 2) = ((n + 2 : Nat) : Int) by omega)
        clear hx hg1 hg5 hodd hend
        go_wp2_with fail
        rw [HN.out]
        refine HI.out.mono ?_; rintro e w2 ⟨rfl, hb2⟩
        have HB2 := Box.mk (hb.out.trans (hb2.mono hb.out.size))
        clear hb2
        go_wp2_with fail
        go_ret
        exact ⟨by rw [HC.out, ← Nat.or_assoc]; rfl, HB2.out⟩

theorem fill_bound (l : List N.Item) (S : Nat) (c : Int) (k : Nat) (hk : k ≤ 2 * l.length) : N.fill l S c 0 k < 2 ^ (2 * l.length + 1) := N.fill_lt l S c 0 (Nat.two_pow_pos _) k hk

set_option maxHeartbeats 4000000 in
theorem rstep_any (st : Bool) (v : Value) (l : List N.Item) (hr : rightB l = true) (S : Nat) (hS : S < 4611686018427387904) (c : Int) (w : World) (hv : ItemsAt w v l) :
    Calls Tryd.prog 99 #[.agg #[.bool st, v], .int .i64 S, .int .i64 c] w fun e w' => e = .returned (.int .i64 (N.step l st S c)) ∧ Below w.heap.size w w' := by
  have hl := right_len hr
  have HRT := Box.mk hr
  have HV := Box.mk hv
  have HB0 := Box.mk (Blk.new w 44 #[.bool st, v])
  have HW0 := Box.mk (alloc_below w (.cells #[.bool st, v] 44))
  obtain ⟨ao, cap, rfl⟩ := hv.slice
  clear hv hr
  go_enter Tryd.func99, Tryd.ntmps99
  go_wp2_with fail
  go_loopw [7, 8] (fun o i wr => ∃ k : Nat, k ≤ 2 * l.length ∧ i = .int .i64 k ∧ o = .int .i64 (N.fill l S c 0 k) ∧ Box (Blk wr w.heap.size 44 #[.bool st, .slice ao l.length cap]) ∧ Box (Below w.heap.size w wr)) (fun _ i _ => 2 * l.length - (intOf i).toNat)
  case atStart => exact ⟨0, by omega, rfl, rfl, HB0, HW0⟩
  case round =>
    obtain ⟨k, hk, rfl, rfl, hbk, hb⟩ := hrel
    have c0 : wr.cell? ⟨w.heap.size, 0, none⟩ = some (.bool st) := (hbk.out.cell 0).trans rfl
    have c1 : wr.cell? ⟨w.heap.size, 1, none⟩ = some (.slice ao l.length cap) := (hbk.out.cell 1).trans rfl
    have l0 := hbk.out.lt
    have HF := Box.mk (fill_bound l S c k hk)
    by_cases hlt : k < 2 * l.length
    · obtain ⟨x, hx⟩ : ∃ x, l[k / 2]? = some x := ⟨_, List.getElem?_eq_getElem (by omega)⟩
      obtain ⟨g, off, cap2, hg1, hg2, hg3, hg4, hg5⟩ := (HV.out.below hb.out).get (by rintro rfl; simp at hlt)
      obtain ⟨rfl, rfl⟩ : ao = some ⟨g, off, none⟩ ∧ cap = cap2 := by injection hg1 with h1 h2 h3; exact ⟨h1, h3⟩
      obtain ⟨hc1, hc2⟩ := hg5 _ x hx
      obtain ⟨hw0, hw1⟩ := right_item HRT.out hx
      have HH := Box.mk (show N.howAt l (k / 2) = x.2 ∧ N.setAt l (k / 2) = x.1 by unfold N.howAt N.setAt; simp [List.getD, hx])
      unfold maxLen at hg3
      have hlt2 : k / 2 < l.length := by omega
      have HFS := Box.mk (N.fill_succ l S c 0 k)
      obtain ⟨set, how⟩ := x
      have HBA := Box.mk (show Below w.heap.size w (wr.alloc (.cells #[.int .i64 set, .int .i64 how] 79)) from hb.out.alloc hb.out.size _)
      have HBKA := Box.mk (hbk.out.alloc (.cells #[.int .i64 set, .int .i64 how] 79))
      have HA := Box.mk (fun n hn => radd_any st (.slice (some ⟨g, off, none⟩) l.length cap) l (by omega) _ n (N.fill l S c 0 k) (wr.alloc (.cells #[.int .i64 set, .int .i64 how] 79)) (Nat.le_refl _) hn HF.out (HV.out.below HBA.out))
      have HGL := Box.mk (N.goto_le l k hlt)
      clear hx hg1 hg5
      cases hbit : S.testBit k with
      | false =>
        have HBT := Box.mk hbit
        have HG := Box.mk (show N.fill l S c 0 (k + 1) = N.fill l S c 0 k by rw [HFS.out, if_neg]; unfold N.goes; rw [hbit]; simp)
        clear hbit
        go_wp2_with fail
        refine (has_any S k _ (by omega) hS).mono ?_; rintro e w1 ⟨rfl, rfl⟩; rw [HBT.out]
        go_wp2_with fail
        go_roundw
        case rel => exact ⟨k + 1, hlt, by go_num, by rw [HG.out], HBKA, HBA⟩
        case measure => simp [intOf]; omega
      | true =>
        have HBT := Box.mk hbit
        cases hhas : N.hasC set c with
        | false =>
          have HHAS := Box.mk hhas
          have HG := Box.mk (show N.fill l S c 0 (k + 1) = N.fill l S c 0 k by rw [HFS.out, if_neg]; unfold N.goes; rw [hbit, HH.out.2, hhas]; simp)
          clear hbit hhas
          go_wp2_with fail
          refine (has_any S k _ (by omega) hS).mono ?_; rintro e w1 ⟨rfl, rfl⟩; rw [HBT.out]
          go_wp2_with fail
          refine (rchas_any set c _).mono ?_; rintro e w1 ⟨rfl, rfl⟩; rw [HHAS.out]
          go_wp2_with fail
          go_roundw
          case rel => exact ⟨k + 1, hlt, by go_num, by rw [HG.out], HBKA, HBA⟩
          case measure => simp [intOf]; omega
        | true =>
          have HHAS := Box.mk hhas
          have HG := Box.mk (show N.fill l S c 0 (k + 1) = N.fill l S c 0 k ||| N.clo l (N.goto l k) by rw [HFS.out, if_pos]; unfold N.goes; rw [hbit, HH.out.2, hhas]; rfl)
          clear hbit hhas
          by_cases hodd : k % 2 = 1
          · have t1 : ((k : Int) % 2 == 1) = true := by rw [beq_iff_eq]; omega
            have HGO := Box.mk (show N.goto l k = k - 1 by unfold N.goto; rw [if_pos hodd])
            have HN := Box.mk (show ((k : Int) - 1) = ((k - 1 : Nat) : Int) by omega)
            have k1 : 1 ≤ k := by omega
            clear hodd
            go_wp2_with fail
            refine (has_any S k _ (by omega) hS).mono ?_; rintro e w1 ⟨rfl, rfl⟩; rw [HBT.out]
            go_wp2_with fail
            refine (rchas_any set c _).mono ?_; rintro e w1 ⟨rfl, rfl⟩; rw [HHAS.out]
            go_wp2_with fail
            rw [HN.out]
            refine (HA.out (k - 1) (by omega)).mono ?_; rintro e w1 ⟨rfl, hb1⟩
            have HB1 := Box.mk (HBA.out.trans (hb1.mono HBA.out.size))
            have HBK1 := Box.mk (HBKA.out.below hb1 HBKA.out.lt)
            clear hb1
            go_wp2_with fail
            go_roundw
            case rel => exact ⟨k + 1, hlt, by go_num, by rw [HG.out, HGO.out], HBK1, HB1⟩
            case measure => simp [intOf]; omega
          have t1 : ((k : Int) % 2 == 1) = false := by rw [beq_eq_false_iff_ne]; omega
          rcases (show how = 0 ∨ how = 1 ∨ how = 2 by omega) with rfl | rfl | rfl
          · have HGO := Box.mk (show N.goto l k = k + 2 by unfold N.goto; rw [if_neg hodd, if_pos HH.out.1])
            have hev : k % 2 = 0 := by omega
            have HN := Box.mk (show ((k : Int) + 2) = ((k + 2 : Nat) : Int) by omega)
            clear hodd
            go_wp2_with fail
            refine (has_any S k _ (by omega) hS).mono ?_; rintro e w1 ⟨rfl, rfl⟩; rw [HBT.out]
            go_wp2_with fail
            refine (rchas_any set c _).mono ?_; rintro e w1 ⟨rfl, rfl⟩; rw [HHAS.out]
            go_wp2_with fail
            rw [HN.out]
            refine (HA.out (k + 2) (by omega)).mono ?_; rintro e w1 ⟨rfl, hb1⟩
            have HB1 := Box.mk (HBA.out.trans (hb1.mono HBA.out.size))
            have HBK1 := Box.mk (HBKA.out.below hb1 HBKA.out.lt)
            clear hb1
            go_wp2_with fail
            go_roundw
            case rel => exact ⟨k + 1, hlt, by go_num, by rw [HG.out, HGO.out], HBK1, HB1⟩
            case measure => simp [intOf]; omega
          · have HGO := Box.mk (show N.goto l k = k by unfold N.goto; rw [if_neg hodd, if_neg (by rw [HH.out.1]; simp), if_pos HH.out.1])
            have hev : k % 2 = 0 := by omega
            clear hodd
            go_wp2_with fail
            refine (has_any S k _ (by omega) hS).mono ?_; rintro e w1 ⟨rfl, rfl⟩; rw [HBT.out]
            go_wp2_with fail
            refine (rchas_any set c _).mono ?_; rintro e w1 ⟨rfl, rfl⟩; rw [HHAS.out]
            go_wp2_with fail
            refine (HA.out (k) (by omega)).mono ?_; rintro e w1 ⟨rfl, hb1⟩
            have HB1 := Box.mk (HBA.out.trans (hb1.mono HBA.out.size))
            have HBK1 := Box.mk (HBKA.out.below hb1 HBKA.out.lt)
            clear hb1
            go_wp2_with fail
            go_roundw
            case rel => exact ⟨k + 1, hlt, by go_num, by rw [HG.out, HGO.out], HBK1, HB1⟩
            case measure => simp [intOf]; omega
          · have HGO := Box.mk (show N.goto l k = k + 1 by unfold N.goto; rw [if_neg hodd, if_neg (by rw [HH.out.1]; simp), if_neg (by rw [HH.out.1]; simp)])
            have hev : k % 2 = 0 := by omega
            have HN := Box.mk (show ((k : Int) + 1) = ((k + 1 : Nat) : Int) by omega)
            clear hodd
            go_wp2_with fail
            refine (has_any S k _ (by omega) hS).mono ?_; rintro e w1 ⟨rfl, rfl⟩; rw [HBT.out]
            go_wp2_with fail
            refine (rchas_any set c _).mono ?_; rintro e w1 ⟨rfl, rfl⟩; rw [HHAS.out]
            go_wp2_with fail
            rw [HN.out]
            refine (HA.out (k + 1) (by omega)).mono ?_; rintro e w1 ⟨rfl, hb1⟩
            have HB1 := Box.mk (HBA.out.trans (hb1.mono HBA.out.size))
            have HBK1 := Box.mk (HBKA.out.below hb1 HBKA.out.lt)
            clear hb1
            go_wp2_with fail
            go_roundw
            case rel => exact ⟨k + 1, hlt, by go_num, by rw [HG.out, HGO.out], HBK1, HB1⟩
            case measure => simp [intOf]; omega
    · obtain rfl : k = 2 * l.length := by omega
      have hbw := hb.out
      have HA := Box.mk (radd_any st (.slice ao l.length cap) l (by omega) _ 0 (N.fill l S c 0 (2 * l.length)) wr (Nat.le_refl _) (by omega) HF.out (HV.out.below hbw))
      clear hbw
      cases st with
      | true =>
        go_wp2_with fail
        go_ret
        exact ⟨by rfl, hb.out⟩
      | false =>
        have HFL := Box.mk (N.fill_last l S c (N.clo l 0) (2 * l.length))
        go_wp2_with fail
        refine HA.out.mono ?_; rintro e w1 ⟨rfl, hb1⟩
        have HB1 := Box.mk (hb.out.trans (hb1.mono hb.out.size))
        clear hb1
        go_wp2_with fail
        go_ret
        exact ⟨by rw [HFL.out]; rfl, HB1.out⟩
end Go.Proofs.YtjemdepcaaadiaaDoor

/- THE DOCUMENT's ANSWERS OF LAYER 10: Most, First, Step, Done, Run, Fits. -/
namespace Go.Proofs.YtjemdepcaaadiaaDoor
open Go.RowKit

theorem most_pow (l : List N.Item) : (2 : Int) * ((2 ^ (2 * l.length) : Nat) : Int) - 1 = (N.most l : Int) := by
  unfold N.most
  have h : 2 ^ (2 * l.length + 1) = 2 * 2 ^ (2 * l.length) := by rw [Nat.pow_succ]; omega
  have : 0 < 2 ^ (2 * l.length) := Nat.two_pow_pos _
  rw [h]
  omega

set_option maxHeartbeats 1000000 in
theorem rmost_any (st : Bool) (v : Value) (l : List N.Item) (w : World) (hv : ItemsAt w v l) (hz : l.length ≤ 16777216) :
    Calls Tryd.prog 98 #[.agg #[.bool st, v]] w fun e w' => e = .returned (.int .i64 (mostV l)) ∧ Below w.heap.size w w' := by
  have hb0 := alloc_below w (.cells #[.bool st, v] 44)
  have HP := Box.mk (rpright_any st v l _ (hv.below hb0) hz)
  have HB0 := Box.mk hb0
  have HBK := Box.mk (Blk.new w 44 #[.bool st, v])
  unfold mostV
  obtain ⟨ao, cap, rfl⟩ := hv.slice
  clear hb0 hv
  cases hr : rightB l with
  | true =>
    have HRT := Box.mk hr
    have hl := right_len hr
    obtain ⟨q, hq⟩ : ∃ q, 2 ^ (2 * l.length) = q := ⟨_, rfl⟩
    have hq1 : q ≤ 1099511627776 := by rw [← hq]; exact Nat.pow_le_pow_right (n := 2) (by omega) (show 2 * l.length ≤ 40 by omega)
    have HQ := Box.mk hq
    have HM := Box.mk (most_pow l)
    clear hr hq
    go_enter Tryd.func98, Tryd.ntmps98
    go_wp2_with fail
    refine HP.out.mono ?_; rintro e w1 ⟨rfl, hb1⟩; rw [HRT.out]
    have HBK1 := HBK.out.below hb1 HBK.out.lt
    have c1 : w1.cell? ⟨w.heap.size, 1, none⟩ = some (.slice ao l.length cap) := (HBK1.cell 1).trans rfl
    have HB1 := Box.mk hb1
    clear hb1 HBK1
    go_wp2_with fail
    have HN := Box.mk (show (2 * (l.length : Int)) = ((2 * l.length : Nat) : Int) by omega)
    rw [HN.out]
    refine (bit_any (2 * l.length) _ (by omega)).mono ?_; rintro e w2 ⟨rfl, rfl⟩; rw [HQ.out]
    go_wp2_with fail
    go_ret
    exact ⟨ret_int (by rw [← HM.out, HQ.out]), HB0.out.trans (HB1.out.mono HB0.out.size)⟩
  | false =>
    have HRT := Box.mk hr
    clear hr
    go_enter Tryd.func98, Tryd.ntmps98
    go_wp2_with fail
    refine HP.out.mono ?_; rintro e w1 ⟨rfl, hb1⟩; rw [HRT.out]
    have HB1 := Box.mk hb1
    clear hb1
    go_wp2_with fail
    go_ret
    exact ⟨rfl, HB0.out.trans (HB1.out.mono HB0.out.size)⟩

set_option maxHeartbeats 1000000 in
theorem rfirst_any (st : Bool) (v : Value) (l : List N.Item) (w : World) (hv : ItemsAt w v l) (hz : l.length ≤ 16777216) :
    Calls Tryd.prog 35 #[.agg #[.bool st, v]] w fun e w' => e = .returned (firstV l) ∧ Below w.heap.size w w' := by
  have hb0 := alloc_below w (.cells #[.bool st, v] 44)
  have HP := Box.mk (rpright_any st v l _ (hv.below hb0) hz)
  have HB0 := Box.mk hb0
  have HV := Box.mk hv
  have HBK := Box.mk (Blk.new w 44 #[.bool st, v])
  unfold firstV
  cases hr : rightB l with
  | true =>
    have HRT := Box.mk hr
    have hl := right_len hr
    clear hr hb0 hv
    go_enter Tryd.func35, Tryd.ntmps35
    go_wp2_with fail
    refine HP.out.mono ?_; rintro e w1 ⟨rfl, hb1⟩; rw [HRT.out]
    have HBK1 := HBK.out.below hb1 HBK.out.lt
    have c0 : w1.cell? ⟨w.heap.size, 0, none⟩ = some (.bool st) := (HBK1.cell 0).trans rfl
    have c1 : w1.cell? ⟨w.heap.size, 1, none⟩ = some v := (HBK1.cell 1).trans rfl
    have HB1 := Box.mk (HB0.out.trans (hb1.mono HB0.out.size))
    have HA := Box.mk (radd_any st v l (by omega) _ 0 0 w1 (Nat.le_refl _) (by omega) (Nat.two_pow_pos _) (HV.out.below HB1.out))
    have HZ := Box.mk (Nat.zero_or (N.clo l 0))
    clear hb1 HBK1
    go_wp2_with fail
    refine HA.out.mono ?_; rintro e w2 ⟨rfl, hb2⟩; rw [HZ.out]
    have HB2 := Box.mk (HB1.out.trans (hb2.mono HB1.out.size))
    clear hb2
    go_wp2_with fail
    go_ret2
    exact ⟨rfl, HB2.out⟩
  | false =>
    have HRT := Box.mk hr
    clear hr hb0 hv
    go_enter Tryd.func35, Tryd.ntmps35
    go_wp2_with fail
    refine HP.out.mono ?_; rintro e w1 ⟨rfl, hb1⟩; rw [HRT.out]
    have HB1 := Box.mk (HB0.out.trans (hb1.mono HB0.out.size))
    clear hb1
    go_wp2_with fail
    go_ret2
    exact ⟨rfl, HB1.out⟩

/-- a set that may not be, by the document's three tests -/
theorem setOk_no {l : List N.Item} {x : Int} (hr : rightB l = true) (h : setOk l x = false) : x < 0 ∨ (0 ≤ x ∧ (N.most l : Int) < x) := by
  unfold setOk at h
  rw [hr] at h
  simp at h
  omega
theorem setOk_yes {l : List N.Item} {x : Int} (h : setOk l x = true) : rightB l = true ∧ 0 ≤ x ∧ x ≤ N.most l := by
  unfold setOk at h
  simp only [Bool.and_eq_true, decide_eq_true_eq] at h
  exact ⟨h.1.1, h.1.2, h.2⟩

set_option maxHeartbeats 2000000 in
theorem rpstep_any (st : Bool) (v : Value) (l : List N.Item) (x c : Int) (w : World) (hv : ItemsAt w v l) (hz : l.length ≤ 16777216) :
    Calls Tryd.prog 68 #[.agg #[.bool st, v], .int .i64 x, .int .i64 c] w fun e w' => e = .returned (stepV l st x c) ∧ Below w.heap.size w w' := by
  have hb0 := alloc_below w (.cells #[.bool st, v] 44)
  have HP := Box.mk (rpright_any st v l _ (hv.below hb0) hz)
  have HB0 := Box.mk hb0
  have HV := Box.mk hv
  have HBK := Box.mk (Blk.new w 44 #[.bool st, v])
  unfold stepV
  cases hr : rightB l with
  | false =>
    have HRT := Box.mk hr
    rw [show setOk l x = false by unfold setOk; rw [hr]; rfl]
    clear hr hb0 hv
    go_enter Tryd.func68, Tryd.ntmps68
    go_wp2_with fail
    refine HP.out.mono ?_; rintro e w1 ⟨rfl, hb1⟩; rw [HRT.out]
    have HB1 := Box.mk (HB0.out.trans (hb1.mono HB0.out.size))
    clear hb1
    go_wp2_with fail
    go_ret2
    exact ⟨rfl, HB1.out⟩
  | true =>
    have HRT := Box.mk hr
    have hl := right_len hr
    have hm := most_small l hl
    have HMV := Box.mk (show mostV l = (N.most l : Int) by unfold mostV; rw [hr]; rfl)
    cases hok : setOk l x with
    | true =>
      obtain ⟨-, h0, h1⟩ := setOk_yes hok
      obtain ⟨S, rfl⟩ := Int.eq_ofNat_of_zero_le h0
      have h1' : ¬ ((N.most l : Int) < (S : Int)) := by omega
      clear hr hb0 hv hok
      go_enter Tryd.func68, Tryd.ntmps68
      go_wp2_with fail
      refine HP.out.mono ?_; rintro e w1 ⟨rfl, hb1⟩; rw [HRT.out]
      have HBK1 := HBK.out.below hb1 HBK.out.lt
      have c0 : w1.cell? ⟨w.heap.size, 0, none⟩ = some (.bool st) := (HBK1.cell 0).trans rfl
      have c1 : w1.cell? ⟨w.heap.size, 1, none⟩ = some v := (HBK1.cell 1).trans rfl
      have HB1 := Box.mk (HB0.out.trans (hb1.mono HB0.out.size))
      have HBK1 := Box.mk HBK1
      clear hb1
      go_wp2_with fail
      refine (rmost_any st v l _ (HV.out.below HB1.out) hz).mono ?_; rintro e w2 ⟨rfl, hb2⟩; rw [HMV.out]
      have HBK2 := HBK1.out.below hb2 HBK1.out.lt
      have d0 : w2.cell? ⟨w.heap.size, 0, none⟩ = some (.bool st) := (HBK2.cell 0).trans rfl
      have d1 : w2.cell? ⟨w.heap.size, 1, none⟩ = some v := (HBK2.cell 1).trans rfl
      have HB2 := Box.mk (HB1.out.trans (hb2.mono HB1.out.size))
      clear hb2 HBK2 c0 c1
      go_wp2_with fail
      refine (rstep_any st v l HRT.out S (by omega) c _ (HV.out.below HB2.out)).mono ?_; rintro e w3 ⟨rfl, hb3⟩
      have HB3 := Box.mk (HB2.out.trans (hb3.mono HB2.out.size))
      clear hb3
      go_wp2_with fail
      go_ret2
      exact ⟨by simp, HB3.out⟩
    | false =>
      have h := setOk_no hr hok
      clear hr hb0 hv hok
      go_enter Tryd.func68, Tryd.ntmps68
      go_wp2_with fail
      refine HP.out.mono ?_; rintro e w1 ⟨rfl, hb1⟩; rw [HRT.out]
      have HBK1 := HBK.out.below hb1 HBK.out.lt
      have c0 : w1.cell? ⟨w.heap.size, 0, none⟩ = some (.bool st) := (HBK1.cell 0).trans rfl
      have c1 : w1.cell? ⟨w.heap.size, 1, none⟩ = some v := (HBK1.cell 1).trans rfl
      have HB1 := Box.mk (HB0.out.trans (hb1.mono HB0.out.size))
      clear hb1 HBK1
      rcases h with h | ⟨h, h'⟩
      · go_wp2_with fail
        go_ret2
        exact ⟨rfl, HB1.out⟩
      · go_wp2_with fail
        refine (rmost_any st v l _ (HV.out.below HB1.out) hz).mono ?_; rintro e w2 ⟨rfl, hb2⟩; rw [HMV.out]
        have HB2 := Box.mk (HB1.out.trans (hb2.mono HB1.out.size))
        clear hb2
        go_wp2_with fail
        go_ret2
        exact ⟨rfl, HB2.out⟩

set_option maxHeartbeats 2000000 in
theorem rpdone_any (st : Bool) (v : Value) (l : List N.Item) (x : Int) (w : World) (hv : ItemsAt w v l) (hz : l.length ≤ 16777216) :
    Calls Tryd.prog 69 #[.agg #[.bool st, v], .int .i64 x] w fun e w' => e = .returned (.bool (doneV l x)) ∧ Below w.heap.size w w' := by
  have hb0 := alloc_below w (.cells #[.bool st, v] 44)
  have HP := Box.mk (rpright_any st v l _ (hv.below hb0) hz)
  have HB0 := Box.mk hb0
  have HV := Box.mk hv
  have HBK := Box.mk (Blk.new w 44 #[.bool st, v])
  unfold doneV
  cases hr : rightB l with
  | false =>
    have HRT := Box.mk hr
    have HOK := Box.mk (show setOk l x = false by unfold setOk; rw [hr]; rfl)
    clear hr hb0 hv
    go_enter Tryd.func69, Tryd.ntmps69
    go_wp2_with fail
    refine HP.out.mono ?_; rintro e w1 ⟨rfl, hb1⟩; rw [HRT.out]
    have HB1 := Box.mk (HB0.out.trans (hb1.mono HB0.out.size))
    clear hb1
    go_wp2_with fail
    go_ret
    exact ⟨by rw [HOK.out]; rfl, HB1.out⟩
  | true =>
    have HRT := Box.mk hr
    have hl := right_len hr
    have hm := most_small l hl
    have HMV := Box.mk (show mostV l = (N.most l : Int) by unfold mostV; rw [hr]; rfl)
    cases hok : setOk l x with
    | true =>
      obtain ⟨-, h0, h1⟩ := setOk_yes hok
      obtain ⟨S, rfl⟩ := Int.eq_ofNat_of_zero_le h0
      obtain ⟨ao, cap, rfl⟩ := hv.slice
      have HN := Box.mk (show (2 * (l.length : Int)) = ((2 * l.length : Nat) : Int) by omega)
      clear hr hb0 hv hok
      go_enter Tryd.func69, Tryd.ntmps69
      go_wp2_with fail
      refine HP.out.mono ?_; rintro e w1 ⟨rfl, hb1⟩; rw [HRT.out]
      have HBK1 := HBK.out.below hb1 HBK.out.lt
      have c0 : w1.cell? ⟨w.heap.size, 0, none⟩ = some (.bool st) := (HBK1.cell 0).trans rfl
      have c1 : w1.cell? ⟨w.heap.size, 1, none⟩ = some (.slice ao l.length cap) := (HBK1.cell 1).trans rfl
      have HB1 := Box.mk (HB0.out.trans (hb1.mono HB0.out.size))
      have HBK1 := Box.mk HBK1
      clear hb1
      go_wp2_with fail
      refine (rmost_any st (.slice ao l.length cap) l _ (HV.out.below HB1.out) hz).mono ?_; rintro e w2 ⟨rfl, hb2⟩; rw [HMV.out]
      have HBK2 := HBK1.out.below hb2 HBK1.out.lt
      have d1 : w2.cell? ⟨w.heap.size, 1, none⟩ = some (.slice ao l.length cap) := (HBK2.cell 1).trans rfl
      have HB2 := Box.mk (HB1.out.trans (hb2.mono HB1.out.size))
      clear hb2 HBK2 c0 c1
      go_wp2_with fail
      rw [HN.out]
      refine (has_any S (2 * l.length) _ (by omega) (by omega)).mono ?_; rintro e w3 ⟨rfl, rfl⟩
      go_wp2_with fail
      go_ret
      exact ⟨by simp [N.doneB], HB2.out⟩
    | false =>
      have h := setOk_no hr hok
      clear hr hb0 hv hok
      go_enter Tryd.func69, Tryd.ntmps69
      go_wp2_with fail
      refine HP.out.mono ?_; rintro e w1 ⟨rfl, hb1⟩; rw [HRT.out]
      have HBK1 := HBK.out.below hb1 HBK.out.lt
      have c0 : w1.cell? ⟨w.heap.size, 0, none⟩ = some (.bool st) := (HBK1.cell 0).trans rfl
      have c1 : w1.cell? ⟨w.heap.size, 1, none⟩ = some v := (HBK1.cell 1).trans rfl
      have HB1 := Box.mk (HB0.out.trans (hb1.mono HB0.out.size))
      clear hb1 HBK1
      rcases h with h | ⟨h, h'⟩
      · go_wp2_with fail
        go_ret
        exact ⟨rfl, HB1.out⟩
      · go_wp2_with fail
        refine (rmost_any st v l _ (HV.out.below HB1.out) hz).mono ?_; rintro e w2 ⟨rfl, hb2⟩; rw [HMV.out]
        have HB2 := Box.mk (HB1.out.trans (hb2.mono HB1.out.size))
        clear hb2
        go_wp2_with fail
        go_ret
        exact ⟨rfl, HB2.out⟩

end Go.Proofs.YtjemdepcaaadiaaDoor

/- THE DOCUMENT's Fits OF LAYER 10; the lists that the laws compare. -/
namespace Go.Proofs.YtjemdepcaaadiaaDoor
open Go.RowKit

end Go.Proofs.YtjemdepcaaadiaaDoor
