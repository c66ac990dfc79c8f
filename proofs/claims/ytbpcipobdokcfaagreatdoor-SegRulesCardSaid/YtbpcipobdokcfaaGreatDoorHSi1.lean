/-
  THE WALKS OF package rule: whether a rule applies at a place; those that do, one by one.
-/
import Derived.Test.YtbpcipobdokcfaaGreatDoorH9
import Derived.Test.YtbpcipobdokcfaaGreatDoorH7
namespace Go.Proofs.YtbpcipobdokcfaaGreatDoor
open Go.RowKit Go.Shelf
attribute [local go_sem] Oper.semAt_some

/-- both sides fit at a place -/
def appB (x : D.Rule) (cs : List Int) (p : Int) : Bool := behindB x.1.1 x.1.2 cs p && aheadB x.2.1.1 x.2.1.2 cs p

set_option maxHeartbeats 4000000 in
theorem applies_any (x : D.Rule) (vl vr cv : Value) (cs : List Int) (p : Int) (w : World) (hf : ruleFit x) (hl : ItemsAt w vl x.1.2) (hr : ItemsAt w vr x.2.1.2) (hc : IntsAt w cv cs) (hcz : cs.length ≤ 900) (hx : ruleB 32 x = true) (hp0 : 0 < p) (hp1 : p < cs.length) :
    Calls Tryz.prog 102 #[ruleV x vl vr, cv, .int .i64 p] w fun e w' => e = .returned (.bool (appB x cs p)) ∧ Below w.heap.size w w' := by
  obtain ⟨⟨stl, il⟩, ⟨str, ir⟩, br⟩ := x
  unfold ruleV appB
  obtain ⟨al, acl, rfl⟩ := hl.slice
  obtain ⟨ar, acr, rfl⟩ := hr.slice
  obtain ⟨co, cc, rfl⟩ := hc.slice
  have hf1 := hf
  obtain ⟨hz1, hz2⟩ := hf1
  obtain ⟨V0, hV0⟩ : ∃ V0, V0 = w.alloc (.cells #[.bool stl, .slice al il.length acl, .bool str, .slice ar ir.length acr, .bool br] 44) := ⟨_, rfl⟩
  have b0 : Below w.heap.size w V0 := by rw [hV0]; exact alloc_below' _ _
  have hbk : Blk V0 w.heap.size 44 #[.bool stl, .slice al il.length acl, .bool str, .slice ar ir.length acr, .bool br] := by rw [hV0]; exact Blk.new _ _ _
  obtain ⟨V1, hV1⟩ : ∃ V1, V1 = V0.alloc (.cells #[.bool stl, .slice al il.length acl, .bool str, .slice ar ir.length acr, .bool br] 44) := ⟨_, rfl⟩
  have b1 : Below V0.heap.size V0 V1 := by rw [hV1]; exact alloc_below' _ _
  have s0 : V0.heap.size = w.heap.size + 1 := by rw [hV0]; simp
  have HR1 := Box.mk (show RulesAt V1 (.slice (some ⟨w.heap.size + 1, 0, none⟩) 1 1) [((stl, il), (str, ir), br)] by
    have h := rules_one (x := ((stl, il), (str, ir), br)) (hl.below b0) (hr.below b0) 44
    rw [← hV1, s0] at h
    exact h)
  have HYES := Box.mk (show rulesB 32 [((stl, il), (str, ir), br)] = true by unfold rulesB; simp [hx])
  have HAR := Box.mk (areRight_any _ [((stl, il), (str, ir), br)] 32 V1 (by intro y hy; rw [List.mem_singleton.1 hy]; exact hf) HR1.out (by simp))
  rw [HYES.out] at HAR
  have HB1 := Box.mk (b0.trans (b1.mono b0.size))
  have HBK1 := Box.mk (hbk.below b1 hbk.lt)
  have HL1 := Box.mk (hl.below HB1.out)
  have HRI := Box.mk (hr.below HB1.out)
  have HC1 := Box.mk (hc.below HB1.out)
  have c0 : V0.cell? ⟨w.heap.size, 0, none⟩ = some (.bool stl) := (hbk.cell 0).trans rfl
  have c1 : V0.cell? ⟨w.heap.size, 1, none⟩ = some (.slice al il.length acl) := (hbk.cell 1).trans rfl
  have c2 : V0.cell? ⟨w.heap.size, 2, none⟩ = some (.bool str) := (hbk.cell 2).trans rfl
  have c3 : V0.cell? ⟨w.heap.size, 3, none⟩ = some (.slice ar ir.length acr) := (hbk.cell 3).trans rfl
  have c4 : V0.cell? ⟨w.heap.size, 4, none⟩ = some (.bool br) := (hbk.cell 4).trans rfl
  have cl := hbk.lt
  have HV0 := Box.mk hV0
  have HV1 := Box.mk hV1
  have HS0 := Box.mk s0
  clear hl hr hc hx hf hV0 hV1 b0 b1 s0 hbk HR1 HYES
  go_enter Tryz.func102, Tryz.ntmps102
  go_upto_region 1 with (fail)
  rw [← HV0.out]
  go_wp2_with fail
  rw [← HV1.out, HS0.out]
  refine HAR.out.mono ?_; rintro e w1 ⟨rfl, hb1⟩
  have hk1 := HBK1.out.below hb1 HBK1.out.lt
  have HK1 := Box.mk hk1
  have HB2 := Box.mk (HB1.out.trans (hb1.mono HB1.out.size))
  have d0 : w1.cell? ⟨w.heap.size, 0, none⟩ = some (.bool stl) := (hk1.cell 0).trans rfl
  have d1 : w1.cell? ⟨w.heap.size, 1, none⟩ = some (.slice al il.length acl) := (hk1.cell 1).trans rfl
  have dl := hk1.lt
  have HBH := Box.mk (behind_any stl _ il _ cs p w1 (HL1.out.below hb1) hz1 (HC1.out.below hb1) hcz)
  have HRI2 := Box.mk (HRI.out.below hb1)
  have HC2 := Box.mk (HC1.out.below hb1)
  clear hb1 hk1 c0 c1 c2 c3 c4 cl
  rcases Bool.eq_false_or_eq_true (behindB stl il cs p) with hbh | hbh
  rotate_left
  · rw [hbh] at HBH
    have HN := Box.mk hbh
    clear hbh
    go_wp2_with fail
    refine HBH.out.mono ?_; rintro e w2 ⟨rfl, hb2⟩
    have HB3 := Box.mk (HB2.out.trans (hb2.mono HB2.out.size))
    clear hb2 d0 d1 dl
    go_wp2_with fail
    go_ret
    exact ⟨ret_bool (by rw [HN.out]; rfl), HB3.out⟩
  · rw [hbh] at HBH
    have HN := Box.mk hbh
    clear hbh
    go_wp2_with fail
    refine HBH.out.mono ?_; rintro e w2 ⟨rfl, hb2⟩
    have HB3 := Box.mk (HB2.out.trans (hb2.mono HB2.out.size))
    have hk2 := HK1.out.below hb2 HK1.out.lt
    have e0 : w2.cell? ⟨w.heap.size, 2, none⟩ = some (.bool str) := (hk2.cell 2).trans rfl
    have e1 : w2.cell? ⟨w.heap.size, 3, none⟩ = some (.slice ar ir.length acr) := (hk2.cell 3).trans rfl
    have el := hk2.lt
    have HAH := Box.mk (ahead_any str _ ir _ cs p w2 (HRI2.out.below hb2) hz2 (HC2.out.below hb2) hcz)
    clear hb2 hk2 d0 d1 dl
    go_wp2_with fail
    refine HAH.out.mono ?_; rintro e w3 ⟨rfl, hb3⟩
    have HB4 := Box.mk (HB3.out.trans (hb3.mono HB3.out.size))
    clear hb3 e0 e1 el
    go_wp2_with fail
    go_ret
    exact ⟨ret_bool (by rw [HN.out]; rfl), HB4.out⟩

theorem rat_any (ro lo : Option Addr) (n rc m lc : Nat) (p : Int) (w : World) :
    Calls Tryz.prog 75 #[.agg #[.slice ro n rc], .slice lo m lc, .int .i64 p] w fun e w' => e = .returned (.func (.func 101) #[] #[.pointer (some ⟨w.heap.size, 0, none⟩), .pointer (some ⟨w.heap.size + 1, 0, none⟩), .pointer (some ⟨w.heap.size + 1 + 1, 0, none⟩)]) ∧
      ((w.alloc (.cells #[.slice ro n rc] 83)).alloc (.cells #[.slice lo m lc] 27)).alloc (.cells #[.int .i64 p] 3) = w' := by
  go_enter Tryz.func75, Tryz.ntmps75
  go_wp2
  go_ret
  exact ⟨rfl, rfl⟩

theorem IntsAt.agree {W0 W : World} {v : Value} {l : List Int} (h : IntsAt W0 v l) (ha : Agree W0 W) : IntsAt W v l :=
  IntsAt.below (w := { W with heap := W0.heap }) h ⟨rfl, rfl, rfl, ha.size, ha.block⟩
theorem RulesAt.agree {W0 W : World} {v : Value} {l : List D.Rule} (h : RulesAt W0 v l) (ha : Agree W0 W) : RulesAt W v l :=
  RulesAt.below (w := { W with heap := W0.heap }) h ⟨rfl, rfl, rfl, ha.size, ha.block⟩

/-- what comes: a rule's place, the rule, and where its sides lie -/
abbrev RuleX := Nat × D.Rule × (Option Addr × Nat) × (Option Addr × Nat)
def rEnc (x : RuleX) : Array Value := #[.int .i64 x.1, .agg #[.bool x.2.1.1.1, .slice x.2.2.1.1 x.2.1.1.2.length x.2.2.1.2, .bool x.2.1.2.1.1, .slice x.2.2.2.1 x.2.1.2.1.2.length x.2.2.2.2, .bool x.2.1.2.2]]
def rOk (R : List D.Rule) (cs : List Int) (p : Int) (pre : List RuleX) (x : RuleX) : Prop :=
  R[x.1]? = some x.2.1 ∧ appB x.2.1 cs p = true ∧ (pre = [] → ∀ (j : Nat) (y : D.Rule), j < x.1 → R[j]? = some y → appB y cs p = false)

set_option maxRecDepth 10000 in
set_option maxHeartbeats 4000000 in
theorem rat1_iter (n : Nat) (W0 : World) (R : List D.Rule) (rv cv : Value) (cs : List Int) (hR : RulesAt W0 rv R) (hf : ∀ x ∈ R, ruleFit x) (hRz : R.length ≤ 40) (hall : ∀ x ∈ R, ruleB 32 x = true) (hC : IntsAt W0 cv cs) (hz : cs.length ≤ 900) (p : Int) (hp0 : 0 < p) (hp1 : p < cs.length) (b1 b2 b3 : Nat)
    (l : Nat) (W1 : World) (hA : Agree W0 W1) (h1 : Blk W1 b1 83 #[rv]) (h2 : Blk W1 b2 27 #[cv]) (h3 : Blk W1 b3 3 #[.int .i64 p]) :
    IterC (n + 1) Tryz.prog 101 #[.pointer (some ⟨b1, 0, none⟩), .pointer (some ⟨b2, 0, none⟩), .pointer (some ⟨b3, 0, none⟩)] rEnc (fun _ => False) (fun k => k < W0.heap.size ∨ k = b1 ∨ k = b2 ∨ k = b3) (rOk R cs p)
      (fun xs _ => xs = [] → ∀ (j : Nat) (y : D.Rule), R[j]? = some y → appB y cs p = false) l W1 := by
  intro J Jx hJ hJx hY h0
  have HY := Box.mk hY
  have HJ := Box.mk hJ
  have HR := Box.mk hR
  have HC := Box.mk hC
  have HF := Box.mk hf
  have HALL := Box.mk hall
  obtain ⟨ro, rc, rfl⟩ := hR.slice
  have d1 : W1.cell? ⟨b1, 0, none⟩ = some (.slice ro R.length rc) := (h1.cell 0).trans rfl
  have l1 := h1.lt
  clear hY hJ hR hC hf hall
  refine callsIn_of_wp Tryz.func101 rfl trivial ?_
  simp only [Tryz.ntmps101, List.size_toArray, List.length_cons, List.length_nil, Nat.reduceAdd, Nat.reduceSub, Array.replicate_succ, Array.replicate_zero, List.push_toArray, List.append_toArray, List.nil_append, List.cons_append]
  gi_wp2
  refine wpIn_wide.2 (wp_scope_straight ((wpIn_wide (n := n + 1)).1 ?_))
  gi_wp2
  refine wpIn_label ?_
  gi_wp2
  clear d1 l1
  gi_loopw [10] (fun i wr => ∃ (k : Nat) (pre : List RuleX), k ≤ R.length ∧ i = .int .i64 k ∧ Box (pre = [] → ∀ (j : Nat) (y : D.Rule), j < k → R[j]? = some y → appB y cs p = false) ∧ Box (Agree W0 wr) ∧ Box (Blk wr b1 83 #[.slice ro R.length rc]) ∧ Box (Blk wr b2 27 #[cv]) ∧ Box (Blk wr b3 3 #[.int .i64 p]) ∧ Box (J pre wr))
    (fun i _ => R.length - (intOf i).toNat)
  case atStart => exact ⟨0, [], Nat.zero_le _, rfl, ⟨fun _ j y hj => by omega⟩, ⟨hA⟩, ⟨h1⟩, ⟨h2⟩, ⟨h3⟩, ⟨h0⟩⟩
  case round =>
    obtain ⟨k, pre, hk, rfl, hno, ha, hb1, hb2, hb3, hj⟩ := hrel
    clear h0 h1 h2 h3 hA
    by_cases hlt : k < R.length
    · obtain ⟨x, hx⟩ : ∃ x, R[k]? = some x := ⟨_, List.getElem?_eq_getElem hlt⟩
      obtain ⟨g, off, cap, k1, k2, k3, k4, k5⟩ := (HR.out.agree ha.out).get (by rintro rfl; simp at hlt)
      obtain ⟨rfl, rfl⟩ : ro = some ⟨g, off, none⟩ ∧ rc = cap := by injection k1 with h1 h2 h3; exact ⟨h1, h3⟩
      obtain ⟨vl, vr, r0, r1, r2, r3, r4, hil, hir⟩ := k5 k x hx
      obtain ⟨al, acl, rfl⟩ := hil.slice
      obtain ⟨ar, acr, rfl⟩ := hir.slice
      have HX := Box.mk hx
      obtain ⟨V, hV⟩ : ∃ V, V = wr.alloc (.cells #[.bool x.1.1, .slice al x.1.2.length acl, .bool x.2.1.1, .slice ar x.2.1.2.length acr, .bool x.2.2] 44) := ⟨_, rfl⟩
      have hbV : Below wr.heap.size wr V := by rw [hV]; exact alloc_below' _ _
      have hbk : Blk V wr.heap.size 44 #[.bool x.1.1, .slice al x.1.2.length acl, .bool x.2.1.1, .slice ar x.2.1.2.length acr, .bool x.2.2] := by rw [hV]; exact Blk.new _ _ _
      have HA := Box.mk ((callsIn_wide (n := n)).2 (applies_any x (.slice al x.1.2.length acl) (.slice ar x.2.1.2.length acr) cv cs p V (HF.out x (List.mem_of_getElem? hx)) (hil.below hbV) (hir.below hbV) ((HC.out.agree ha.out).below hbV) hz (HALL.out x (List.mem_of_getElem? hx)) hp0 hp1))
      have c2 : V.cell? ⟨b2, 0, none⟩ = some cv := ((hb2.out.below hbV hb2.out.lt).cell 0).trans rfl
      have c3 : V.cell? ⟨b3, 0, none⟩ = some (.int .i64 p) := ((hb3.out.below hbV hb3.out.lt).cell 0).trans rfl
      have f0 : V.cell? ⟨wr.heap.size, 0, none⟩ = some (.bool x.1.1) := (hbk.cell 0).trans rfl
      have f1 : V.cell? ⟨wr.heap.size, 1, none⟩ = some (.slice al x.1.2.length acl) := (hbk.cell 1).trans rfl
      have f2 : V.cell? ⟨wr.heap.size, 2, none⟩ = some (.bool x.2.1.1) := (hbk.cell 2).trans rfl
      have f3 : V.cell? ⟨wr.heap.size, 3, none⟩ = some (.slice ar x.2.1.2.length acr) := (hbk.cell 3).trans rfl
      have f4 : V.cell? ⟨wr.heap.size, 4, none⟩ = some (.bool x.2.2) := (hbk.cell 4).trans rfl
      have HBV := Box.mk hbV
      have HBK := Box.mk hbk
      have HV := Box.mk hV
      have l2 := (hb2.out.below hbV hb2.out.lt).lt
      have l3 := (hb3.out.below hbV hb3.out.lt).lt
      have l4 := hbk.lt
      unfold maxLen at k3
      clear k1 k5 hx hil hir hV hbV hbk
      have HNO := Box.mk (show appB x cs p = false → pre = [] → ∀ (j : Nat) (y : D.Rule), j < k + 1 → R[j]? = some y → appB y cs p = false from fun h hp j y hj hy => by
        rcases Nat.lt_or_ge j k with h1 | h1
        · exact hno.out hp j y h1 hy
        · obtain rfl : j = k := by omega
          rw [HX.out] at hy
          cases hy
          exact h)
      rcases Bool.eq_false_or_eq_true (appB x cs p) with hap | hap
      rotate_left
      · have HN := Box.mk (HNO.out hap)
        rw [hap] at HA
        clear hap
        gi_upto_region 3 with (fail)
        rw [← HV.out]
        gi_wp2
        refine ⟨trivial, HA.out.mono ?_⟩; rintro e w1 ⟨rfl, hb1⟩
        have hB := HBV.out.trans (hb1.mono HBV.out.size)
        have hT : Turns (fun _ => False) wr w1 := Turns.of_below hB
        have HT := Box.mk hT
        have HB := Box.mk hB
        clear hb1 hB hT c2 c3 f0 f1 f2 f3 f4 l2 l3 l4
        gi_wp2
        refine ⟨fun f h => (by cases h), ?_⟩
        gi_wp2
        go_roundw
        case rel => exact ⟨k + 1, pre, hlt, by go_num, HN, ⟨ha.out.trans (Agree.of_below HB.out)⟩, ⟨HT.out.blk hb1.out (fun h => h)⟩, ⟨HT.out.blk hb2.out (fun h => h)⟩, ⟨HT.out.blk hb3.out (fun h => h)⟩, ⟨HJ.out _ _ _ hj.out HT.out⟩⟩
        case measure => simp [intOf]; omega
      · rw [hap] at HA
        have HOK := Box.mk (show rOk R cs p pre (k, x, (al, acl), (ar, acr)) from ⟨HX.out, hap, hno.out⟩)
        clear hap
        gi_upto_region 3 with (fail)
        rw [← HV.out]
        gi_wp2
        refine ⟨trivial, HA.out.mono ?_⟩; rintro e w1 ⟨rfl, hb1⟩
        have hB := HBV.out.trans (hb1.mono HBV.out.size)
        have hT : Turns (fun _ => False) wr w1 := Turns.of_below hB
        have HT := Box.mk hT
        have HB := Box.mk hB
        have hk1 := HBK.out.below hb1 HBK.out.lt
        have e0 : w1.cell? ⟨wr.heap.size, 0, none⟩ = some (.bool x.1.1) := (hk1.cell 0).trans rfl
        have e1 : w1.cell? ⟨wr.heap.size, 1, none⟩ = some (.slice al x.1.2.length acl) := (hk1.cell 1).trans rfl
        have e2 : w1.cell? ⟨wr.heap.size, 2, none⟩ = some (.bool x.2.1.1) := (hk1.cell 2).trans rfl
        have e3 : w1.cell? ⟨wr.heap.size, 3, none⟩ = some (.slice ar x.2.1.2.length acr) := (hk1.cell 3).trans rfl
        have e4 : w1.cell? ⟨wr.heap.size, 4, none⟩ = some (.bool x.2.2) := (hk1.cell 4).trans rfl
        have l5 := hk1.lt
        have hy := HY.out pre _ w1 (HJ.out _ _ _ hj.out hT) HOK.out
        unfold rEnc at hy
        simp only at hy
        obtain ⟨fn, tmps, assign, body, hy, hRd⟩ := hy
        have HRD := Box.mk hRd
        clear hb1 hB hT hk1 hRd c2 c3 f0 f1 f2 f3 f4 l2 l3 l4
        gi_wp2
        refine HRD.out.mono ?_
        rintro e W3 (⟨rfl, hj3, hk3⟩ | ⟨rfl, hx3⟩)
        · have hag : Agree W0 W3 := ⟨Nat.le_trans (Nat.le_trans ha.out.size HT.out.size) hk3.size, fun q hq => (hk3.block q (.inl hq)).trans ((HT.out.block q (Nat.lt_of_lt_of_le hq ha.out.size) (fun h => h)).trans (ha.out.block q hq))⟩
          have HR3 := Box.mk (show Box (Agree W0 W3) ∧ Box (Blk W3 b1 83 #[.slice (some ⟨g, off, none⟩) R.length rc]) ∧ Box (Blk W3 b2 27 #[cv]) ∧ Box (Blk W3 b3 3 #[.int .i64 p]) ∧ Box (J (pre ++ [_]) W3) from
            ⟨⟨hag⟩, ⟨(hk3.block _ (.inr (.inl rfl))).trans (HT.out.blk hb1.out (fun h => h))⟩, ⟨(hk3.block _ (.inr (.inr (.inl rfl)))).trans (HT.out.blk hb2.out (fun h => h))⟩, ⟨(hk3.block _ (.inr (.inr (.inr rfl)))).trans (HT.out.blk hb3.out (fun h => h))⟩, ⟨hj3⟩⟩)
          clear hj3 hk3 hag e0 e1 e2 e3 e4 l5
          gi_wp2
          go_roundw
          case rel => exact ⟨k + 1, pre ++ [_], hlt, by go_num, ⟨fun h => by simp at h⟩, HR3.out.1, HR3.out.2.1, HR3.out.2.2.1, HR3.out.2.2.2.1, HR3.out.2.2.2.2⟩
          case measure => simp [intOf]; omega
        · gi_wp2
          rw [Exit.noGoto_normal]
          go_end0
          exact ⟨⟨_, rfl⟩, .inr ⟨_, hx3⟩⟩
    · obtain rfl : k = R.length := by omega
      gi_wp2
      rw [Exit.noGoto_normal]
      go_end0
      exact ⟨⟨_, rfl⟩, .inl ⟨pre, fun hp j y hy => hno.out hp j y (List.getElem?_eq_some_iff.1 hy).1 hy, hj.out⟩⟩
end Go.Proofs.YtbpcipobdokcfaaGreatDoor
