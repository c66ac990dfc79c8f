/-
  THE STATES THAT A CLASS STEPS FROM, AND WHERE TO: the runner's iterator.
-/
import Derived.Test.YtonpgokgbaemfaaDoorNfaE
import Derived.Test.YtonpgokgbaemfaaDoorRange
namespace Go.Proofs.YtonpgokgbaemfaaDoor
open Go.RowKit

/-- all that lay in one world lies in another as it lay -/
structure Agree (W0 w : World) : Prop where
  size : W0.heap.size ≤ w.heap.size
  block : ∀ k, k < W0.heap.size → w.heap[k]? = W0.heap[k]?
theorem Agree.refl (w : World) : Agree w w := ⟨Nat.le_refl _, fun _ _ => rfl⟩
theorem Agree.of_below {W0 w : World} (h : Below W0.heap.size W0 w) : Agree W0 w := ⟨h.size, h.block⟩
theorem Agree.trans {A B C : World} (h : Agree A B) (k : Agree B C) : Agree A C := ⟨Nat.le_trans h.size k.size, fun i hi => (k.block i (Nat.lt_of_lt_of_le hi h.size)).trans (h.block i hi)⟩
theorem Agree.alloc {A B : World} (h : Agree A B) (o : Obj) : Agree A (B.alloc o) := h.trans (.of_below ((Below.refl _ _).alloc (Nat.le_refl _) o))
theorem Agree.turns {A B C : World} {own : Nat → Prop} (h : Agree A B) (k : Turns own B C) (ho : ∀ i, own i → A.heap.size ≤ i) : Agree A C :=
  ⟨Nat.le_trans h.size k.size, fun i hi => (k.block i (Nat.lt_of_lt_of_le hi h.size) (fun e => by have := ho i e; omega)).trans (h.block i hi)⟩
theorem Agree.holds {A B C : World} {own : Nat → Prop} (h : Agree A B) (k : Holds own B C) (ho : ∀ i, i < A.heap.size → own i) : Agree A C :=
  ⟨Nat.le_trans h.size k.size, fun i hi => (k.block i (ho i hi)).trans (h.block i hi)⟩
theorem ItemsAt.agree {w w' : World} {v : Value} {l : List N.Item} (h : ItemsAt w v l) (hb : Agree w w') : ItemsAt w' v l := by
  rcases h with h | ⟨b, off, sp, cap, h1, h2, h3, h4⟩
  · exact .inl h
  · exact .inr ⟨b, off, sp, cap, h1, h2, h3, fun hn => ⟨(h4 hn).1, Nat.lt_of_lt_of_le (h4 hn).2.1 hb.size, fun i x hx =>
      ⟨(World.cell?_of_block (hb.block b (h4 hn).2.1)).trans ((h4 hn).2.2 i x hx).1, (World.cell?_of_block (hb.block b (h4 hn).2.1)).trans ((h4 hn).2.2 i x hx).2⟩⟩⟩
theorem Rn.agree {w w' : World} {r m : Nat} {st : Bool} {v : Value} {l : List N.Item} (h : Rn w r m st v l) (hb : Agree w w') : Rn w' r m st v l :=
  ⟨(hb.block r h.blk.lt).trans h.blk, (hb.block m (Array.getElem?_eq_some_iff.1 h.how).1).trans h.how, h.items.agree hb, h.right⟩

theorem map_look1 {P : Program} {T K E : TypeId} {q : IntKind} (hm : P.underlying T = some (.map K E)) (hk : P.underlying K = some (.int q)) (W : World) (es : Array MapEntry) (clk : Nat) (k : Int) (n : Nat) (hg : W.heap[n]? = some (.map es clk))
    (i : Nat) (v : Value) (hf : Instr.findNow (.int q) (.int q k) es.toList 0 = some (some (i, v))) :
    (Instr.lookup T (.map (some n)) (.int q k) false).run P W = .ok v W := by
  have h1 : (Instr.checkKey es.isEmpty 10000 K (.int q k)).run P W = .ok () W := MapKept.run_checkKey hk (by simp [MapKept.IsKey]) _ 9999
  have h2 := MapKept.run_findKey (P := P) (w := W) hk hf
  unfold Instr.lookup
  simp only [Sem.run_bind, run_underlying hm, Result.andThen, MapKept.run_getObj_map hg, h1, h2, Sem.run_pure, Bool.false_eq_true, if_false]

theorem how1_any (n : Nat) (w : World) (hn : n ≤ 1000) : Calls Tryd.prog 37 #[.int .i64 n] w fun e w' => e = .returned (.int .i64 (n + 2)) ∧ w = w' := by
  go_enter Tryd.func37, Tryd.ntmps37
  go_wp2
  go_ret
  exact ⟨rfl, rfl⟩
theorem how2_any (n : Nat) (w : World) : Calls Tryd.prog 38 #[.int .i64 n] w fun e w' => e = .returned (.int .i64 n) ∧ w = w' := by
  go_enter Tryd.func38, Tryd.ntmps38
  go_wp2
  go_ret
  exact ⟨rfl, rfl⟩
theorem how3_any (n : Nat) (w : World) (hn : n ≤ 1000) : Calls Tryd.prog 39 #[.int .i64 n] w fun e w' => e = .returned (.int .i64 (n + 1)) ∧ w = w' := by
  go_enter Tryd.func39, Tryd.ntmps39
  go_wp2
  go_ret
  exact ⟨rfl, rfl⟩

theorem test_bit0 (S n : Nat) (h : S < 9223372036854775808) : (bits .and .i64 ((S : Int) / 2 ^ n) 1 == 0) = !S.testBit n := by
  have hd : (S : Int) / 2 ^ n = ((S / 2 ^ n : Nat) : Int) := by simp
  have hle : S / 2 ^ n ≤ S := Nat.div_le_self _ _
  rw [hd, Nat.testBit_eq_decide_div_mod_eq]
  generalize S / 2 ^ n = z at hle
  rw [and_1 _ (by omega) (by omega), Bool.eq_iff_iff]
  simp only [beq_iff_eq, Bool.not_eq_true', decide_eq_false_iff_not]
  omega

/-- the states that a class steps from, of the first k -/
def stepsOf (l : List N.Item) (S : Nat) (c : Int) (k : Nat) : List Nat := (List.range k).filter (N.goes l S c)
theorem stepsOf_yes {l : List N.Item} {S : Nat} {c : Int} {k : Nat} (h : N.goes l S c k = true) : stepsOf l S c (k + 1) = stepsOf l S c k ++ [k] := by
  unfold stepsOf; rw [List.range_succ, List.filter_append]; simp [h]
theorem stepsOf_no {l : List N.Item} {S : Nat} {c : Int} {k : Nat} (h : N.goes l S c k = false) : stepsOf l S c (k + 1) = stepsOf l S c k := by
  unfold stepsOf; rw [List.range_succ, List.filter_append]; simp [h]
theorem fill_steps (l : List N.Item) (S : Nat) (c : Int) (a : Nat) : ∀ k, N.fill l S c a k = (stepsOf l S c k).foldl (fun out n => out ||| N.clo l (N.goto l n)) a
  | 0 => rfl
  | k + 1 => by
    rw [N.fill_succ, fill_steps l S c a k]
    cases h : N.goes l S c k with
    | true => rw [if_pos rfl, stepsOf_yes h, List.foldl_append]; rfl
    | false => rw [if_neg (by simp), stepsOf_no h]

theorem quiet_left {P : Program} {f : FuncId} {args : Array Value} {w : World} {n : Nat} {v : Value}
    (h : Calls P f args (w.drewN n) fun e w' => e = .returned v ∧ w.drewN n = w') : Calls P f args (w.drewN n) fun e w'' => e = .returned v ∧ ∃ m, w'' = w.drewN m :=
  h.mono fun _ _ ⟨he, hm⟩ => ⟨he, n, hm.symm⟩
theorem right_item {l : List N.Item} (h : rightB l = true) {i : Nat} {x : N.Item} (hx : l[i]? = some x) : 0 ≤ x.2 ∧ x.2 ≤ 2 := by
  unfold rightB at h
  rw [Bool.and_eq_true, List.all_eq_true] at h
  have := h.2 x (List.mem_of_getElem? hx)
  unfold itemB at this
  simp only [Bool.and_eq_true, decide_eq_true_eq] at this
  exact ⟨this.1.2, this.2⟩

def keepOf (W0 : World) (Br Bs Bc : Nat) (k : Nat) : Prop := k < W0.heap.size ∨ k = Br ∨ k = Bs ∨ k = Bc

set_option maxHeartbeats 4000000 in
theorem states1_iter (n : Nat) (W0 : World) (r m : Nat) (st : Bool) (v : Value) (li : List N.Item) (hR : Rn W0 r m st v li) (S : Nat) (hS : S < 4611686018427387904) (c : Int) (Br Bs Bc : Nat) (l : Nat) (W1 : World)
    (hA : Agree W0 W1) (hr : Blk W1 Br 49 #[.pointer (some ⟨r, 0, none⟩)]) (hs : Blk W1 Bs 2 #[.int .i64 S]) (hc : Blk W1 Bc 3 #[.int .i64 c]) :
    IterC (n + 1) Tryd.prog 50 #[.pointer (some ⟨Br, 0, none⟩), .pointer (some ⟨Bs, 0, none⟩), .pointer (some ⟨Bc, 0, none⟩)] (fun x : Nat => #[.int .i64 x, .int .i64 (N.goto li x)]) (fun _ => False) (keepOf W0 Br Bs Bc) (fun _ x => x < 2 * li.length)
      (fun xs _ => xs = stepsOf li S c (2 * li.length)) l W1 := by
  intro J Jx hJ hJx hY h0
  have HY := Box.mk hY
  have HJ := Box.mk hJ
  clear hY hJ
  have HR := Box.mk hR
  have hlen := hR.len
  obtain ⟨ao, cap, rfl⟩ := hR.items.slice
  clear hR
  have c1 : W1.cell? ⟨Br, 0, none⟩ = some (.pointer (some ⟨r, 0, none⟩)) := (hr.cell 0).trans rfl
  have c2 : W1.cell? ⟨r, 1, none⟩ = some (.slice ao li.length cap) := ((HR.out.agree hA).blk.cell 1).trans rfl
  refine callsIn_of_wp Tryd.func50 rfl trivial ?_
  simp only [Tryd.ntmps50, List.size_toArray, List.length_cons, List.length_nil, Nat.reduceAdd, Nat.reduceSub, Array.replicate_succ, Array.replicate_zero, List.push_toArray, List.append_toArray, List.nil_append, List.cons_append]
  gi_wp2
  refine wpIn_wide.2 (wp_scope_straight ((wpIn_wide (n := n + 1)).1 ?_))
  gi_wp2
  refine wpIn_label ?_
  gi_wp2
  clear c1 c2
  gi_loopw [15] (fun i wr => ∃ k : Nat, k ≤ 2 * li.length ∧ i = .int .i64 k ∧ Box (Agree W0 wr) ∧ Box (Blk wr Br 49 #[.pointer (some ⟨r, 0, none⟩)]) ∧ Box (Blk wr Bs 2 #[.int .i64 S]) ∧ Box (Blk wr Bc 3 #[.int .i64 c]) ∧ J (stepsOf li S c k) wr)
    (fun i _ => 2 * li.length - (intOf i).toNat)
  case atStart => exact ⟨0, by omega, rfl, ⟨hA⟩, ⟨hr⟩, ⟨hs⟩, ⟨hc⟩, h0⟩
  case round =>
    obtain ⟨k, hk, rfl, ha, hbr, hbs, hbc, hj⟩ := hrel
    have HJr := Box.mk hj
    clear hj hA hr hs hc h0
    by_cases hlt : k < 2 * li.length
    · obtain ⟨x, hx⟩ : ∃ x, li[k / 2]? = some x := ⟨_, List.getElem?_eq_getElem (by omega)⟩
      have HRr := Box.mk (HR.out.agree ha.out)
      have c1 : wr.cell? ⟨Br, 0, none⟩ = some (.pointer (some ⟨r, 0, none⟩)) := (hbr.out.cell 0).trans rfl
      have c2 : wr.cell? ⟨r, 1, none⟩ = some (.slice ao li.length cap) := (HRr.out.blk.cell 1).trans rfl
      have c3 : wr.cell? ⟨Bs, 0, none⟩ = some (.int .i64 S) := (hbs.out.cell 0).trans rfl
      have c4 : wr.cell? ⟨Bc, 0, none⟩ = some (.int .i64 c) := (hbc.out.cell 0).trans rfl
      have c5 : wr.cell? ⟨r, 2, none⟩ = some (.map (some m)) := (HRr.out.blk.cell 2).trans rfl
      have l1 := hbr.out.lt
      have l2 := hbs.out.lt
      have l3 := hbc.out.lt
      have l4 := HRr.out.blk.lt
      obtain ⟨g, off, cap2, hg1, hg2, hg3, hg4, hg5⟩ := HRr.out.items.get (by rintro rfl; simp at hlt)
      obtain ⟨rfl, rfl⟩ : ao = some ⟨g, off, none⟩ ∧ cap = cap2 := by injection hg1 with h1 h2 h3; exact ⟨h1, h3⟩
      obtain ⟨hc1, hc2⟩ := hg5 _ x hx
      obtain ⟨hw0, hw1⟩ := right_item HRr.out.right hx
      have HH := Box.mk (show N.howAt li (k / 2) = x.2 ∧ N.setAt li (k / 2) = x.1 by unfold N.howAt N.setAt; simp [List.getD, hx])
      unfold maxLen at hg3
      have hlt2 : k / 2 < li.length := by omega
      have HN := Box.mk (show ∀ W2, Turns (fun _ => False) wr W2 → N.goes li S c k = false → ∃ k' : Nat, k' ≤ 2 * li.length ∧ Value.int .i64 ((k : Int) + 1) = .int .i64 k' ∧ Box (Agree W0 W2) ∧ Box (Blk W2 Br 49 #[.pointer (some ⟨r, 0, none⟩)]) ∧ Box (Blk W2 Bs 2 #[.int .i64 S]) ∧ Box (Blk W2 Bc 3 #[.int .i64 c]) ∧ J (stepsOf li S c k') W2 from fun W2 ht hg =>
        ⟨k + 1, hlt, by go_num, ⟨ha.out.turns ht (fun _ h => h.elim)⟩, ⟨ht.blk hbr.out (fun h => h)⟩, ⟨ht.blk hbs.out (fun h => h)⟩, ⟨ht.blk hbc.out (fun h => h)⟩, by rw [stepsOf_no hg]; exact HJ.out _ _ _ HJr.out ht⟩)
      have HTA := Box.mk (fun o => Turns.alloc (own := fun _ => False) wr o)
      obtain ⟨set, how⟩ := x
      clear hx hg1 hg5
      have hb0 := test_bit0 S k (by omega)
      cases hbit : S.testBit k with
      | false =>
        have HG := Box.mk (show N.goes li S c k = false by unfold N.goes; rw [hbit]; rfl)
        rw [hbit] at hb0
        simp only [Bool.not_false] at hb0
        clear hbit
        gi_wp2
        refine ⟨trivial, ?_⟩
        gi_wp2
        go_roundw
        case rel => exact HN.out _ (HTA.out _) HG.out
        case measure => simp [intOf]; omega
      | true =>
        rw [hbit] at hb0
        simp only [Bool.not_true] at hb0
        cases hhas : N.hasC set c with
        | false =>
          have HG := Box.mk (show N.goes li S c k = false by unfold N.goes; rw [hbit, HH.out.2, hhas]; rfl)
          have HHAS := Box.mk hhas
          clear hbit hhas
          gi_wp2
          refine ⟨trivial, ((callsIn_wide (n := n)).2 (chas_any set c _)).mono ?_⟩; rintro e w1 ⟨rfl, rfl⟩; rw [HHAS.out]
          gi_wp2
          go_roundw
          case rel => exact HN.out _ (HTA.out _) HG.out
          case measure => simp [intOf]; omega
        | true =>
          have HG := Box.mk (show N.goes li S c k = true by unfold N.goes; rw [hbit, HH.out.2, hhas]; rfl)
          have HHAS := Box.mk hhas
          clear hbit hhas HN
          have HYW := Box.mk (fun W2 (ht : Turns (fun _ => False) wr W2) => HY.out (stepsOf li S c k) k W2 (HJ.out _ _ _ HJr.out ht) hlt)
          have HEND := Box.mk (show ∀ W2 W3, Turns (fun _ => False) wr W2 → J (stepsOf li S c k ++ [k]) W3 → Holds (keepOf W0 Br Bs Bc) W2 W3 → ∃ k' : Nat, k' ≤ 2 * li.length ∧ Value.int .i64 ((k : Int) + 1) = .int .i64 k' ∧ Box (Agree W0 W3) ∧ Box (Blk W3 Br 49 #[.pointer (some ⟨r, 0, none⟩)]) ∧ Box (Blk W3 Bs 2 #[.int .i64 S]) ∧ Box (Blk W3 Bc 3 #[.int .i64 c]) ∧ J (stepsOf li S c k') W3 from fun W2 W3 ht hj hh =>
            ⟨k + 1, hlt, by go_num, ⟨(ha.out.turns ht (fun _ h => h.elim)).holds hh (fun _ h => .inl h)⟩, ⟨(hh.block _ (.inr (.inl rfl))).trans (ht.blk hbr.out (fun h => h))⟩, ⟨(hh.block _ (.inr (.inr (.inl rfl)))).trans (ht.blk hbs.out (fun h => h))⟩, ⟨(hh.block _ (.inr (.inr (.inr rfl)))).trans (ht.blk hbc.out (fun h => h))⟩, by rw [stepsOf_yes HG.out]; exact hj⟩)
          by_cases hodd : k % 2 = 1
          · have t1 : ((k : Int) % 2 == 0) = false := by rw [beq_eq_false_iff_ne]; omega
            have HGO := Box.mk (show ((N.goto li k : Nat) : Int) = (k : Int) - 1 by unfold N.goto; rw [if_pos hodd]; omega)
            have hy0 := HYW.out _ (HTA.out (.cells #[.int .i64 set, .int .i64 how] 48))
            simp only [HGO.out] at hy0
            obtain ⟨fn, tmps, assign, body, hy, hRd⟩ := hy0
            have HRD := Box.mk hRd
            have k1 : 1 ≤ k := by omega
            clear hRd hodd
            gi_wp2
            refine ⟨trivial, ((callsIn_wide (n := n)).2 (chas_any set c _)).mono ?_⟩; rintro e w1 ⟨rfl, rfl⟩; rw [HHAS.out]
            gi_wp2
            have HTD := Box.mk (fun (_ : Unit) => HTA.out (.cells #[.int .i64 set, .int .i64 how] 48))
            refine HRD.out.mono ?_
            rintro e W3 (⟨rfl, hj3, hk3⟩ | ⟨rfl, hx3⟩)
            · have HR3 := Box.mk (HEND.out _ _ (HTD.out ()) hj3 hk3)
              clear hj3 hk3
              gi_wp2
              go_roundw
              case rel => exact HR3.out
              case measure => simp [intOf]; omega
            · gi_wp2
              rw [Exit.noGoto_normal]
              go_end0
              exact ⟨⟨_, rfl⟩, .inr ⟨_, hx3⟩⟩
          · have t1 : ((k : Int) % 2 == 0) = true := by rw [beq_iff_eq]; omega
            have HM := Box.mk (show ∀ o nd, ((wr.alloc o).drewN nd).heap[m]? = some (.map #[how1, how2, how3] 3) from fun o nd => (Below.heap_alloc _ _ _ (Array.getElem?_eq_some_iff.1 HRr.out.how).1).trans HRr.out.how)
            have hk1000 : k ≤ 1000 := by omega
            rcases (show how = 0 ∨ how = 1 ∨ how = 2 by omega) with rfl | rfl | rfl
            · have hlk := fun nd => map_look1 (P := Tryd.prog) Tryd.underlying64 Tryd.underlying3 ((wr.alloc (.cells #[.int .i64 set, .int .i64 0] 48)).drewN nd) #[how1, how2, how3] 3 0 m (HM.out _ nd) 0 how1.val rfl
              simp only [how1] at hlk
              have HGO := Box.mk (show ((N.goto li k : Nat) : Int) = (k : Int) + 2 by unfold N.goto; rw [if_neg hodd, if_pos HH.out.1]; simp)
              clear hodd
              gi_wp2
              refine ⟨trivial, ((callsIn_wide (n := n)).2 (chas_any set c _)).mono ?_⟩; rintro e w1 ⟨rfl, rfl⟩; rw [HHAS.out]
              gi_wp2
              refine wpIn_wide.2 ?_
              go_quiet ((go_at_call 37; exact quiet_left (how1_any _ _ hk1000)))
              have hy0 := HYW.out ((wr.alloc (.cells #[.int .i64 set, .int .i64 0] 48)).drewN nq) ((HTA.out _).trans (Turns.of_below (below_drewN (Below.refl _ _) nq)))
              simp only [HGO.out] at hy0
              obtain ⟨fn, tmps, assign, body, hy, hRd⟩ := hy0
              have HRD := Box.mk hRd
              clear hRd
              gi_wp2
              refine HRD.out.mono ?_
              rintro e W3 (⟨rfl, hj3, hk3⟩ | ⟨rfl, hx3⟩)
              · have HR3 := Box.mk (HEND.out _ _ ((HTA.out _).trans (Turns.of_below (below_drewN (Below.refl _ _) nq))) hj3 hk3)
                clear hj3 hk3
                gi_wp2
                go_roundw
                case rel => exact HR3.out
                case measure => simp [intOf]; omega
              · gi_wp2
                rw [Exit.noGoto_normal]
                go_end0
                exact ⟨⟨_, rfl⟩, .inr ⟨_, hx3⟩⟩
            · have hlk := fun nd => map_look1 (P := Tryd.prog) Tryd.underlying64 Tryd.underlying3 ((wr.alloc (.cells #[.int .i64 set, .int .i64 1] 48)).drewN nd) #[how1, how2, how3] 3 1 m (HM.out _ nd) 1 how2.val rfl
              simp only [how2] at hlk
              have HGO := Box.mk (show ((N.goto li k : Nat) : Int) = (k : Int) by unfold N.goto; rw [if_neg hodd, if_neg (by rw [HH.out.1]; simp), if_pos HH.out.1])
              clear hodd
              gi_wp2
              refine ⟨trivial, ((callsIn_wide (n := n)).2 (chas_any set c _)).mono ?_⟩; rintro e w1 ⟨rfl, rfl⟩; rw [HHAS.out]
              gi_wp2
              refine wpIn_wide.2 ?_
              go_quiet ((go_at_call 38; exact quiet_left (how2_any _ _)))
              have hy0 := HYW.out ((wr.alloc (.cells #[.int .i64 set, .int .i64 1] 48)).drewN nq) ((HTA.out _).trans (Turns.of_below (below_drewN (Below.refl _ _) nq)))
              simp only [HGO.out] at hy0
              obtain ⟨fn, tmps, assign, body, hy, hRd⟩ := hy0
              have HRD := Box.mk hRd
              clear hRd
              gi_wp2
              refine HRD.out.mono ?_
              rintro e W3 (⟨rfl, hj3, hk3⟩ | ⟨rfl, hx3⟩)
              · have HR3 := Box.mk (HEND.out _ _ ((HTA.out _).trans (Turns.of_below (below_drewN (Below.refl _ _) nq))) hj3 hk3)
                clear hj3 hk3
                gi_wp2
                go_roundw
                case rel => exact HR3.out
                case measure => simp [intOf]; omega
              · gi_wp2
                rw [Exit.noGoto_normal]
                go_end0
                exact ⟨⟨_, rfl⟩, .inr ⟨_, hx3⟩⟩
            · have hlk := fun nd => map_look1 (P := Tryd.prog) Tryd.underlying64 Tryd.underlying3 ((wr.alloc (.cells #[.int .i64 set, .int .i64 2] 48)).drewN nd) #[how1, how2, how3] 3 2 m (HM.out _ nd) 2 how3.val rfl
              simp only [how3] at hlk
              have HGO := Box.mk (show ((N.goto li k : Nat) : Int) = (k : Int) + 1 by unfold N.goto; rw [if_neg hodd, if_neg (by rw [HH.out.1]; simp), if_neg (by rw [HH.out.1]; simp)]; simp)
              clear hodd
              gi_wp2
              refine ⟨trivial, ((callsIn_wide (n := n)).2 (chas_any set c _)).mono ?_⟩; rintro e w1 ⟨rfl, rfl⟩; rw [HHAS.out]
              gi_wp2
              refine wpIn_wide.2 ?_
              go_quiet ((go_at_call 39; exact quiet_left (how3_any _ _ hk1000)))
              have hy0 := HYW.out ((wr.alloc (.cells #[.int .i64 set, .int .i64 2] 48)).drewN nq) ((HTA.out _).trans (Turns.of_below (below_drewN (Below.refl _ _) nq)))
              simp only [HGO.out] at hy0
              obtain ⟨fn, tmps, assign, body, hy, hRd⟩ := hy0
              have HRD := Box.mk hRd
              clear hRd
              gi_wp2
              refine HRD.out.mono ?_
              rintro e W3 (⟨rfl, hj3, hk3⟩ | ⟨rfl, hx3⟩)
              · have HR3 := Box.mk (HEND.out _ _ ((HTA.out _).trans (Turns.of_below (below_drewN (Below.refl _ _) nq))) hj3 hk3)
                clear hj3 hk3
                gi_wp2
                go_roundw
                case rel => exact HR3.out
                case measure => simp [intOf]; omega
              · gi_wp2
                rw [Exit.noGoto_normal]
                go_end0
                exact ⟨⟨_, rfl⟩, .inr ⟨_, hx3⟩⟩
    · obtain rfl : k = 2 * li.length := by omega
      gi_wp2
      rw [Exit.noGoto_normal]
      go_end0
      exact ⟨⟨_, rfl⟩, .inl ⟨_, rfl, HJr.out⟩⟩
end Go.Proofs.YtonpgokgbaemfaaDoor
