/-
  THE DOCUMENT's ANSWERS OF LAYER 9, WALKED: the places that items may end at.
-/
import Derived.Test.YtbpcipobdokcfaaGreatDoorHSh4
import Derived.Test.YtbpcipobdokcfaaGreatDoorHSh3
namespace Go.Proofs.YtbpcipobdokcfaaGreatDoor
open Go.RowKit Go.Shelf
attribute [local go_sem] Oper.semAt_some

set_option maxRecDepth 100000 in
set_option maxHeartbeats 8000000 in
theorem reach_step (cs : List Int) (hcz : cs.length ≤ 299) (x : N.Item) (t : List N.Item) (hx2 : x.2 = 0 ∨ x.2 = 1 ∨ x.2 = 2) (htz : t.length + 1 ≤ 16777216) (ih : ∀ (v cv fv : Value) (F : List Bool) (w : World), ItemsAt w v t → IntsAt w cv cs → BoolsAt w fv F → F.length = cs.length + 1 →
    Calls Tryz.prog 92 #[v, cv, fv] w fun e w' => (∃ v', e = .returned v' ∧ BoolsAt w' v' (N.reachR cs t F)) ∧ Below w.heap.size w w')
    (v cv fv : Value) (F : List Bool) (w : World) (hv : ItemsAt w v (x :: t)) (hc : IntsAt w cv cs) (hF : BoolsAt w fv F) (hFl : F.length = cs.length + 1) :
    Calls Tryz.prog 92 #[v, cv, fv] w fun e w' => (∃ v', e = .returned v' ∧ BoolsAt w' v' (N.reachR cs (x :: t) F)) ∧ Below w.heap.size w w' := by
  have HC := Box.mk hc
  have HFV := Box.mk hF
  have HIH := Box.mk ih
  obtain ⟨co, cc, rfl⟩ := hc.slice
  obtain ⟨fo, fc, rfl⟩ := hF.slice
  have HFL := Box.mk hFl
  have HFS := Box.mk (show BoolsAt w (.slice fo (cs.length + 1) fc) F by rw [← HFL.out]; exact HFV.out)
  obtain ⟨fg, foff, fcap, f1, f2, f3, f4, f5⟩ := HFV.out.get (by intro e; rw [e] at hFl; simp at hFl)
  obtain ⟨rfl, rfl⟩ : fo = some ⟨fg, foff, none⟩ ∧ fc = fcap := by injection f1 with h1 h2 h3; exact ⟨h1, h3⟩
  rw [hFl] at f2 ⊢
  have HFG := Box.mk f4
  have HF5 := Box.mk f5
  unfold maxLen at f3
  clear f1 f4 f5
  obtain ⟨b, off, cap, rfl, hb1, hb2, hb3, hb4⟩ := hv.get (by simp)
  obtain ⟨hx0, hx1⟩ := hb4 0 x rfl
  have HT := Box.mk (show ∀ i y, t[i]? = some y → w.cell? ⟨b, off + 2 + i * 2, none⟩ = some (.int .i64 y.1) ∧ w.cell? ⟨b, off + 2 + i * 2 + 1, none⟩ = some (.int .i64 y.2) from fun i y hy => by
    have := hb4 (i + 1) y hy
    rw [show off + (i + 1) * 2 = off + 2 + i * 2 by omega] at this
    exact this)
  rw [Nat.zero_mul, Nat.add_zero] at hx0 hx1
  obtain ⟨set, how⟩ := x
  simp only at hx0 hx1 hx2
  rw [List.length_cons] at hb1 ⊢
  unfold maxLen at hb2
  obtain ⟨V1, hV1⟩ : ∃ V1, V1 = w.alloc (.cells #[.int .i64 set, .int .i64 how] 52) := ⟨_, rfl⟩
  have HV1 := Box.mk hV1
  have s1 : V1.heap.size = w.heap.size + 1 := by rw [hV1]; simp
  have hS1 : Sep [Pc.blk w.heap.size 52 #[.int .i64 set, .int .i64 how], Pc.old w.heap.size w] V1 := by rw [hV1]; exact (Sep.start w).alloc_blk _ _
  have hm1 := make_bools' cs.length hcz V1
  obtain ⟨V2, hV2⟩ : ∃ V2, V2 = V1.alloc (.cells (boolsA (cs.length + 1) fun _ => false) 4) := ⟨_, rfl⟩
  have s2 : V2.heap.size = w.heap.size + 1 + 1 := by rw [hV2]; simp [s1]
  have hS2 := hS1.alloc_blk 4 (boolsA (cs.length + 1) fun _ => false)
  rw [← hV2, s1] at hS2
  rw [← hV2, s1] at hm1
  have hm2 := make_bools' cs.length hcz V2
  obtain ⟨V3, hV3⟩ : ∃ V3, V3 = V2.alloc (.cells (boolsA (cs.length + 1) fun _ => false) 4) := ⟨_, rfl⟩
  have hS3 := hS2.alloc_blk 4 (boolsA (cs.length + 1) fun _ => false)
  rw [← hV3, s2] at hS3
  rw [← hV3, s2] at hm2
  have HS0 := Box.mk (show Sep [Pc.blk (w.heap.size + 1 + 1) 4 (halfA (set, how) cs F 0), Pc.blk (w.heap.size + 1) 4 (outA (set, how) cs F 0), Pc.blk w.heap.size 52 #[.int .i64 set, .int .i64 how], Pc.old w.heap.size w] V3 by
    rw [halfA_zero, outA_zero]; exact hS3)
  have HM1 := Box.mk hm1
  have HM2 := Box.mk hm2
  clear hV1 hV2 hV3 hS1 hS2 hS3 hm1 hm2 s1 s2 hc hF ih hv hb4 hFl HFV
  go_enter Tryz.func92, Tryz.ntmps92
  go_upto_region 4 with (fail)
  rw [← HV1.out]
  have hm1 := HM1.out
  go_upto_region 5 with (fail)
  clear hm1
  have hm2 := HM2.out
  go_upto_region 6 with (fail)
  clear hm2 HM1 HM2 HV1 hx0 hx1
  go_wp2_with fail
  generalize ((t.length : Int) + 1 == 0) = z13
  go_loopw [10] (fun i wr => ∃ k : Nat, k ≤ cs.length + 1 ∧ i = .int .i64 k ∧ Box (Sep [Pc.blk (w.heap.size + 1 + 1) 4 (halfA (set, how) cs F k), Pc.blk (w.heap.size + 1) 4 (outA (set, how) cs F k), Pc.blk w.heap.size 52 #[.int .i64 set, .int .i64 how], Pc.old w.heap.size w] wr)) (fun i _ => cs.length + 1 - (intOf i).toNat)
  case atStart => exact ⟨0, by omega, rfl, HS0⟩
  case round =>
    obtain ⟨k, hk, rfl, hsep⟩ := hrel
    have HBR := Box.mk (show Below w.heap.size w wr from hsep.out.bel (by simp))
    have hbi := hsep.out.blk 2 rfl
    by_cases hlt : k < cs.length + 1
    · obtain ⟨f, hf⟩ : ∃ f, F[k]? = some f := ⟨_, List.getElem?_eq_getElem (by rw [HFL.out]; exact hlt)⟩
      have HCF := Box.mk (HF5.out k f hf)
      have hcf := (HBR.out.cell (p := ⟨fg, foff + k, none⟩) HFG.out).trans HCF.out
      have HFD := Box.mk (show F.getD k false = f by rw [List.getD_eq_getElem?_getD, hf]; rfl)
      have hbo := hsep.out.blk 1 rfl
      have hbh := hsep.out.blk 0 rfl
      have hco := (hbo.cell k).trans (outA_get (by omega))
      have hlo := hbo.lt
      have hfo := hbo.frozen k
      have hci := (hbi.cell 1).trans (show _ = some (Value.int .i64 how) from rfl)
      obtain ⟨o, ho⟩ : ∃ o, (N.goR (set, how) cs F k).1 = o := ⟨_, rfl⟩
      have HFO := Box.mk (show N.foR (set, how) cs F k = (o || (f && decide (how ≠ 0))) by unfold N.foR; rw [ho, HFD.out])
      rw [ho] at hco
      have hfc : k < fc := by omega
      have HSS := Box.mk (show ∀ fv, N.foR (set, how) cs F k = fv → Sep [Pc.blk (w.heap.size + 1 + 1) 4 (halfA (set, how) cs F k), Pc.blk (w.heap.size + 1) 4 (outB (set, how) cs F k), Pc.blk w.heap.size 52 #[.int .i64 set, .int .i64 how], Pc.old w.heap.size w] (wr.setCell ⟨w.heap.size + 1, k, none⟩ (.bool fv)) from fun fv h => by
        have h2 := hsep.out.set 1 rfl k (.bool fv)
        rw [← h, outA_set] at h2
        rw [← h]
        exact h2)
      clear hbo hbh hf ho hbi
      obtain ⟨fv, hfv⟩ : ∃ fv, (o || (f && decide (how ≠ 0))) = fv := ⟨_, rfl⟩
      rcases (show (o = true ∧ fv = true) ∨ (o = false ∧ f = false ∧ fv = false) ∨ (o = false ∧ f = true ∧ how ≠ 0 ∧ fv = true) ∨ (o = false ∧ f = true ∧ how = 0 ∧ fv = false) by
        rw [← hfv]
        cases o <;> cases f <;> by_cases h : how = 0 <;> simp [h]) with ⟨rfl, rfl⟩ | ⟨rfl, rfl, rfl⟩ | ⟨rfl, rfl, hh, rfl⟩ | ⟨rfl, rfl, hh, rfl⟩
      all_goals
        have HFV1 := Box.mk (HFO.out.trans hfv)
        have HS1 := Box.mk (HSS.out _ (HFO.out.trans hfv))
        clear hfv HSS hsep
        first | have hne : (how != 0) = true := by rw [bne_iff_ne]; exact hh
              | have hne : (how != 0) = false := by rw [hh]; rfl
              | skip
        first | (have HHB := Box.mk hh; clear hh) | skip
        go_upto_region 10 with (fail)
        first | clear hne | skip
        clear hco hfo hlo hci hcf
        first | (have hchk : N.foR (set, how) cs F k = true := HFV1.out; clear hchk; generalize wr.setCell ⟨w.heap.size + 1, k, none⟩ (.bool true) = W1 at HS1 ⊢) | generalize wr.setCell ⟨w.heap.size + 1, k, none⟩ (.bool false) = W1 at HS1 ⊢
        have HBR1 := Box.mk (show Below w.heap.size w W1 from HS1.out.bel (by simp))
        have hbi := HS1.out.blk 2 rfl
        have hi0 := (hbi.cell 0).trans (show _ = some (Value.int .i64 set) from rfl)
        have hi1 := (hbi.cell 1).trans (show _ = some (Value.int .i64 how) from rfl)
        have hil := hbi.lt
        clear hbi
        rcases Nat.lt_or_ge k cs.length with hkl | hkl
        rotate_left
        · have HN := Box.mk (fun m => show Sep [Pc.blk (w.heap.size + 1 + 1) 4 (halfA (set, how) cs F (k + 1)), Pc.blk (w.heap.size + 1) 4 (outA (set, how) cs F (k + 1)), Pc.blk w.heap.size 52 #[.int .i64 set, .int .i64 how], Pc.old w.heap.size w] (W1.drewN m) by
            have h := HS1.out.drewN m
            rw [outB_same (.inl hkl), halfA_same (.inl hkl)] at h
            exact h)
          have hke : ((k : Int) == (cs.length : Int)) = true := by rw [beq_iff_eq]; omega
          go_wp2_with fail
          go_quiet (fail)
          go_wp2_with fail
          go_roundw
          case rel => exact ⟨k + 1, hlt, by go_num, ⟨HN.out _⟩⟩
          case measure => simp [intOf]; omega
        obtain ⟨c, hck⟩ : ∃ c, cs[k]? = some c := ⟨_, List.getElem?_eq_getElem hkl⟩
        obtain ⟨cg, coff, ccap, c1, c2, c3, c4, c5⟩ := (HC.out.below HBR1.out).get (by rintro rfl; simp at hkl)
        obtain ⟨rfl, rfl⟩ : co = some ⟨cg, coff, none⟩ ∧ cc = ccap := by injection c1 with h1 h2 h3; exact ⟨h1, h3⟩
        have hcc := c5 k c hck
        have HGN := Box.mk (goR_next (x := (set, how)) (F := F) hck)
        have HHAS := Box.mk (fun W => rchas_any set c W)
        have hke : ((k : Int) == (cs.length : Int)) = false := by rw [beq_eq_false_iff_ne]; omega
        have hkc2 : k < cc := by omega
        unfold maxLen at c3
        clear c1 c5 hck
        cases hhas : N.hasC set c with
        | false =>
          have HGV := Box.mk (show N.goR (set, how) cs F (k + 1) = (false, false) by rw [HGN.out]; simp only; rw [hhas]; rfl)
          have HN := Box.mk (fun m => show Sep [Pc.blk (w.heap.size + 1 + 1) 4 (halfA (set, how) cs F (k + 1)), Pc.blk (w.heap.size + 1) 4 (outA (set, how) cs F (k + 1)), Pc.blk w.heap.size 52 #[.int .i64 set, .int .i64 how], Pc.old w.heap.size w] (W1.drewN m) by
            have h := HS1.out.drewN m
            rw [outB_same (.inr (by rw [HGV.out])), halfA_same (.inr (by rw [HGV.out]))] at h
            exact h)
          rw [hhas] at HHAS
          clear hhas
          go_wp2_with fail
          go_quiet ((go_at_call 116; exact quiet_left (HHAS.out _)))
          go_wp2_with fail
          go_roundw
          case rel => exact ⟨k + 1, hlt, by go_num, ⟨HN.out _⟩⟩
          case measure => simp [intOf]; omega
        | true =>
          rw [hhas] at HHAS
          have hbo := HS1.out.blk 1 rfl
          have hbh := HS1.out.blk 0 rfl
          have hco := (hbo.cell k).trans (outB_get (by omega))
          rw [HFV1.out] at hco
          have hch := (hbh.cell k).trans (halfA_get (by omega))
          have hco1 := (hbo.cell (k + 1)).trans (outB_next hkl)
          have hch1 := (hbh.cell (k + 1)).trans (halfA_next hkl)
          have hlo := hbo.lt
          have hlh := hbh.lt
          have hfo := hbo.frozen (k + 1)
          have hfh := hbh.frozen (k + 1)
          have hcf := (HBR1.out.cell (p := ⟨fg, foff + k, none⟩) HFG.out).trans HCF.out
          clear hbo hbh
          rcases hx2 with hw | hw | hw
          · subst hw
            have HGV := Box.mk (show N.goR (set, 0) cs F (k + 1) = (F.getD k false, false) by rw [HGN.out]; simp only; rw [hhas]; rfl)
            have HN := Box.mk (fun m => show Sep [Pc.blk (w.heap.size + 1 + 1) 4 (halfA (set, 0) cs F (k + 1)), Pc.blk (w.heap.size + 1) 4 (outA (set, 0) cs F (k + 1)), Pc.blk w.heap.size 52 #[.int .i64 set, .int .i64 0], Pc.old w.heap.size w] ((W1.drewN m).setCell ⟨w.heap.size + 1, k + 1, none⟩ (.bool (F.getD k false))) by
              have h := (HS1.out.drewN m).set 1 rfl (k + 1) (.bool (N.goR (set, 0) cs F (k + 1)).1)
              rw [outB_set] at h
              rw [halfA_same (.inr (by rw [HGV.out]))] at h
              rw [HGV.out] at h
              exact h)
            rw [HFD.out] at HN
            clear hhas
            go_wp2_with fail
            go_quiet ((go_at_call 116; exact quiet_left (HHAS.out _)))
            go_wp2_with fail
            go_roundw
            case rel => exact ⟨k + 1, hlt, by go_num, ⟨HN.out _⟩⟩
            case measure => simp [intOf]; omega
          · subst hw
            have HGV := Box.mk (show N.goR (set, 1) cs F (k + 1) = (N.foR (set, 1) cs F k, false) by rw [HGN.out]; simp only; rw [hhas]; rfl)
            have HN := Box.mk (fun m => show Sep [Pc.blk (w.heap.size + 1 + 1) 4 (halfA (set, 1) cs F (k + 1)), Pc.blk (w.heap.size + 1) 4 (outA (set, 1) cs F (k + 1)), Pc.blk w.heap.size 52 #[.int .i64 set, .int .i64 1], Pc.old w.heap.size w] ((W1.drewN m).setCell ⟨w.heap.size + 1, k + 1, none⟩ (.bool (N.foR (set, 1) cs F k))) by
              have h := (HS1.out.drewN m).set 1 rfl (k + 1) (.bool (N.goR (set, 1) cs F (k + 1)).1)
              rw [outB_set] at h
              rw [halfA_same (.inr (by rw [HGV.out]))] at h
              rw [HGV.out] at h
              exact h)
            rw [HFV1.out] at HN
            clear hhas
            go_wp2_with fail
            go_quiet ((go_at_call 116; exact quiet_left (HHAS.out _)))
            go_wp2_with fail
            go_roundw
            case rel => exact ⟨k + 1, hlt, by go_num, ⟨HN.out _⟩⟩
            case measure => simp [intOf]; omega
          · subst hw
            obtain ⟨hq, hhq⟩ : ∃ hq, (N.goR (set, 2) cs F k).2 = hq := ⟨_, rfl⟩
            have HGV := Box.mk (show N.goR (set, 2) cs F (k + 1) = ((N.goR (set, 2) cs F k).2, N.foR (set, 2) cs F k) by rw [HGN.out]; simp only; rw [hhas]; rfl)
            have HN := Box.mk (fun m => show Sep [Pc.blk (w.heap.size + 1 + 1) 4 (halfA (set, 2) cs F (k + 1)), Pc.blk (w.heap.size + 1) 4 (outA (set, 2) cs F (k + 1)), Pc.blk w.heap.size 52 #[.int .i64 set, .int .i64 2], Pc.old w.heap.size w] (((W1.drewN m).setCell ⟨w.heap.size + 1 + 1, k + 1, none⟩ (.bool (N.foR (set, 2) cs F k))).setCell ⟨w.heap.size + 1, k + 1, none⟩ (.bool (N.goR (set, 2) cs F k).2)) by
              have h := ((HS1.out.drewN m).set 0 rfl (k + 1) (.bool (N.goR (set, 2) cs F (k + 1)).2)).set 1 rfl (k + 1) (.bool (N.goR (set, 2) cs F (k + 1)).1)
              rw [outB_set, halfA_set] at h
              rw [HGV.out] at h
              exact h)
            rw [HFV1.out, hhq] at HN
            rw [hhq] at hch
            clear hhq
            clear hhas
            go_wp2_with fail
            go_quiet ((go_at_call 116; exact quiet_left (HHAS.out _)))
            go_wp2_with fail
            go_roundw
            case rel => exact ⟨k + 1, hlt, by go_num, ⟨HN.out _⟩⟩
            case measure => simp [intOf]; omega
    · obtain rfl : k = cs.length + 1 := by omega
      have hbo := hsep.out.blk 1 rfl
      rw [outA_end] at hbo
      have HBL := Box.mk (show BoolsAt wr (.slice (some ⟨w.heap.size + 1, 0, none⟩) (cs.length + 1) (cs.length + 1)) (N.outR (set, how) cs F) by
        have h := bools_blk hbo (by rw [N.outR_len]; omega)
        rw [N.outR_len] at h
        exact h)
      clear hbo hbi
      have HIT := Box.mk (show ∀ o c, (t = [] ∨ o = off + 2) → t.length ≤ c → c ≤ cap → ItemsAt w (.slice (some ⟨b, o, none⟩) t.length c) t from fun o c ho h1 h2 =>
        .inr ⟨b, o, none, c, rfl, h1, by unfold maxLen; omega, fun hn => ⟨rfl, hb3, fun i y hy => by
          rcases ho with ho | ho
          · exact absurd ho hn
          · rw [ho]; exact HT.out i y hy⟩⟩)
      have HGO := Box.mk (show ∀ o c, (t = [] ∨ o = off + 2) → t.length ≤ c → c ≤ cap → _ from fun o c ho h1 h2 => HIH.out (.slice (some ⟨b, o, none⟩) t.length c) (.slice co cs.length cc) (.slice (some ⟨w.heap.size + 1, 0, none⟩) (cs.length + 1) (cs.length + 1)) (N.outR (set, how) cs F) wr ((HIT.out o c ho h1 h2).below HBR.out) (HC.out.below HBR.out) HBL.out (N.outR_len _ _ _))
      rcases Nat.eq_zero_or_pos t.length with ht0 | ht0
      · have ht : t = [] := List.eq_nil_of_length_eq_zero ht0
        subst ht
        rcases Nat.eq_or_lt_of_le (show 1 ≤ cap from hb1) with hcap | hcap
        · subst hcap
          go_wp2_with fail
          refine (HGO.out off 0 (.inl (by simp)) (Nat.le_refl _) (by omega)).mono ?_; rintro e w5 ⟨⟨v5, rfl, h5⟩, hb5⟩
          have H5 := Box.mk h5
          have HB5 := Box.mk (below_tr HBR.out hb5)
          clear h5 hb5
          go_wp2_with fail
          go_ret
          exact ⟨⟨_, rfl, H5.out⟩, HB5.out⟩
        · go_wp2_with fail
          refine (HGO.out (off + 2) (cap - 1) (.inl (by simp)) (by simp) (by omega)).mono ?_; rintro e w5 ⟨⟨v5, rfl, h5⟩, hb5⟩
          have H5 := Box.mk h5
          have HB5 := Box.mk (below_tr HBR.out hb5)
          clear h5 hb5
          go_wp2_with fail
          go_ret
          exact ⟨⟨_, rfl, H5.out⟩, HB5.out⟩
      · go_wp2_with fail
        refine (HGO.out (off + 2) (cap - 1) (.inr rfl) (by omega) (by omega)).mono ?_; rintro e w5 ⟨⟨v5, rfl, h5⟩, hb5⟩
        have H5 := Box.mk h5
        have HB5 := Box.mk (below_tr HBR.out hb5)
        clear h5 hb5
        go_wp2_with fail
        go_ret
        exact ⟨⟨_, rfl, H5.out⟩, HB5.out⟩

theorem reach_any (cs : List Int) (hcz : cs.length ≤ 299) : ∀ (t : List N.Item), (∀ x ∈ t, x.2 = 0 ∨ x.2 = 1 ∨ x.2 = 2) → t.length ≤ 16777216 → ∀ (v cv fv : Value) (F : List Bool) (w : World), ItemsAt w v t → IntsAt w cv cs → BoolsAt w fv F → F.length = cs.length + 1 →
    Calls Tryz.prog 92 #[v, cv, fv] w fun e w' => (∃ v', e = .returned v' ∧ BoolsAt w' v' (N.reachR cs t F)) ∧ Below w.heap.size w w'
  | [], _, _, v, cv, fv, F, w, hv, hc, hF, hFl => by
    have HF := Box.mk hF
    obtain ⟨a, c, rfl⟩ := hv.slice
    clear hv hc hF hFl
    rw [List.length_nil]
    go_enter Tryz.func92, Tryz.ntmps92
    go_wp2_with fail
    go_ret
    exact ⟨⟨_, rfl, HF.out⟩, Below.refl _ _⟩
  | x :: t, hx, hz, v, cv, fv, F, w, hv, hc, hF, hFl =>
    reach_step cs hcz x t (hx x (List.mem_cons_self ..)) hz (fun v cv fv F w => reach_any cs hcz t (fun y hy => hx y (List.mem_cons_of_mem _ hy)) (by rw [List.length_cons] at hz; omega) v cv fv F w) v cv fv F w hv hc hF hFl
end Go.Proofs.YtbpcipobdokcfaaGreatDoor
