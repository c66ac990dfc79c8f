/-
  HOW A MACHINE GOES, WHAT FITS: the document's answers.
-/
import Derived.Test.YtbpcipobdokcfaaGreatDoorHDg1
import Derived.Test.YtbpcipobdokcfaaGreatDoorH7
namespace Go.Proofs.YtbpcipobdokcfaaGreatDoor
open Go.RowKit Go.Shelf
attribute [local go_sem] Oper.semAt_some

set_option maxRecDepth 100000 in
set_option maxHeartbeats 8000000 in
theorem rgo12_any (v lv : Value) (M : D.Mach) (n : Int) (l : List Int) (w : World) (hv : MachAt w v M) (hM : MachFit M) (hl : IntsAt w lv l) (hz : l.length ≤ 16777216) :
    Calls Tryz.prog 64 #[v, .int .i64 n, lv] w (goPost n M l w) := by
  have HRT := Box.mk (fun W (h : Below w.heap.size w W) => rright12_any v M n W (hv.below h) hM)
  have HL := Box.mk hl
  obtain ⟨na, fa, rfl, hra, -⟩ := hv
  obtain ⟨aa, ca, rfl⟩ := hra.slice
  obtain ⟨lo, lc, rfl⟩ := hl.slice
  have HRA := Box.mk hra
  obtain ⟨w2, hw2⟩ : ∃ w2, w2 = w.alloc (.cells #[.slice aa M.1.length ca, fa] 26) := ⟨_, rfl⟩
  have HW2 := Box.mk hw2
  have HS2 := Box.mk (show Sep [Pc.blk w.heap.size 26 #[.slice aa M.1.length ca, fa], Pc.old w.heap.size w] w2 by rw [hw2]; exact (Sep.start w).alloc_blk _ _)
  have hb2 : Below w.heap.size w w2 := HS2.out.bel (by simp)
  have HB2 := Box.mk hb2
  have hba := HS2.out.blk 0 rfl
  have c0 : w2.cell? ⟨w.heap.size, 0, none⟩ = some (.slice aa M.1.length ca) := (hba.cell 0).trans rfl
  have c1 : w2.cell? ⟨w.heap.size, 1, none⟩ = some fa := (hba.cell 1).trans rfl
  have l0 := hba.lt
  clear hra hl hM hw2 hb2 hba
  cases hr : machR n M with
  | false =>
    have HR := Box.mk hr
    have HC := Box.mk (show goCode n M = 100 by unfold goCode; rw [hr]; rfl)
    clear hr
    go_enter Tryz.func64, Tryz.ntmps64
    go_upto_region 1 with (fail)
    rw [← HW2.out]
    go_wp2_with fail
    refine (HRT.out _ HB2.out).mono ?_; rintro e w3 ⟨rfl, hb3⟩; rw [HR.out]
    have HB3 := Box.mk (HB2.out.trans (hb3.mono HB2.out.size))
    clear hb3
    go_wp2_with fail
    go_ret2
    refine ⟨HB3.out, _, by rw [HC.out]; rfl, ?_⟩
    rw [HR.out]
    exact World.ownsRow_nil _ _ _ _
  | true =>
    have HR := Box.mk hr
    obtain ⟨h1, h2, h3, h4, h5⟩ := machR_parts hr
    obtain ⟨nn, rfl⟩ := Int.eq_ofNat_of_zero_le (show 0 ≤ n by omega)
    have HC := Box.mk (show goCode nn M = 0 by unfold goCode; rw [hr]; rfl)
    have HLT := Box.mk (fun i => stM_lt hr l i)
    have HROW := Box.mk (fun {a : Nat} (ha : a < M.1.length) => machR_row hr ha)
    have HG1 := Box.mk (show (goM nn M l).take 1 = [0] by unfold goM; rw [List.range_succ_eq_map]; rfl)
    clear hr h5
    go_enter Tryz.func64, Tryz.ntmps64
    go_upto_region 1 with (fail)
    rw [← HW2.out]
    go_wp2_with fail
    refine (HRT.out _ HB2.out).mono ?_; rintro e w3 ⟨rfl, hb3⟩; rw [HR.out]
    have HS3 := Box.mk (show Sep [Pc.row w.heap.size 3 1 (.slice (some ⟨w3.heap.size, 0, none⟩) 1 1) (0 + 1) (((goM nn M l).take (0 + 1)).map natV), Pc.blk w.heap.size 26 #[.slice aa M.1.length ca, fa], Pc.old w.heap.size w] (w3.alloc (.cells #[.int .i64 0] 3)) by
      rw [HG1.out]; exact (HS2.out.below hb3).lit (base := w.heap.size) (e := 3) (cs := #[.int .i64 0]) (n := 1) (Nat.le_trans HB2.out.size hb3.size) rfl (by omega))
    clear hb3 c0 c1 l0
    go_wp2_with fail
    go_loopw [8, 9, 10] (fun o at' i wr => ∃ k : Nat, k ≤ l.length ∧ i = .int .i64 k ∧ at' = .int .i64 (stM nn M l k) ∧ Box (Sep [Pc.row w.heap.size 3 1 o (k + 1) (((goM nn M l).take (k + 1)).map natV), Pc.blk w.heap.size 26 #[.slice aa M.1.length ca, fa], Pc.old w.heap.size w] wr)) (fun _ _ i _ => l.length - (intOf i).toNat)
    case atStart => exact ⟨0, by omega, rfl, rfl, HS3⟩
    case round =>
      obtain ⟨k, hk, rfl, rfl, hsep⟩ := hrel
      have HBR := Box.mk (show Below w.heap.size w wr from hsep.out.bel (by simp))
      by_cases hlt : k < l.length
      · obtain ⟨c, hc⟩ : ∃ c, l[k]? = some c := ⟨_, List.getElem?_eq_getElem hlt⟩
        obtain ⟨lb, loff, lcap, k1, k2, k3, k4, k5⟩ := (HL.out.below HBR.out).get (by rintro rfl; simp at hlt)
        obtain ⟨rfl, rfl⟩ : lo = some ⟨lb, loff, none⟩ ∧ lc = lcap := by injection k1 with h1 h2 h3; exact ⟨h1, h3⟩
        have hlc := k5 k c hc
        have hat := HLT.out k
        have HAN := Box.mk (HLT.out (k + 1))
        obtain ⟨r, hr1, hr2, hr3, -⟩ := HROW.out hat
        obtain ⟨x, hx1, hx2, hx3⟩ := hr3 (colOf nn c) (colOf_le nn c)
        have HST := Box.mk (show stM nn M l (k + 1) = x.toNat by
          rw [stM_succ hc]; unfold stepM; rw [show M.1.getD (stM nn M l k) [] = r by rw [List.getD, hr1]; rfl, show r.getD (colOf nn c) 0 = x by rw [List.getD, hx1]; rfl])
        have HTK := Box.mk (goM_take (n := nn) (M := M) hlt)
        have hcl := colOf_le nn c
        obtain ⟨pa, oa, ca', ha0, ha1, ha2, ha3, ha4⟩ := (HRA.out.below HBR.out).get (by intro e; rw [e] at hr1; simp at hr1)
        obtain ⟨rfl, rfl⟩ : aa = some ⟨pa, oa, none⟩ ∧ ca = ca' := by injection ha0 with h1 h2 h3; exact ⟨h1, h3⟩
        obtain ⟨xv, hxc, hxi⟩ := ha4 _ r hr1
        obtain ⟨rb, roff, rcap, r1, r2, r3, r4, r5⟩ := hxi.get (by rintro rfl; simp at hr2)
        rw [hr2] at r1 r2
        subst r1
        have hxx := r5 _ x hx1
        have hba := hsep.out.blk 1 rfl
        obtain ⟨oo, oc, rfl, ho1, ho2⟩ := own_shape (hsep.out.row 0 rfl)
        have c0 : wr.cell? ⟨w.heap.size, 0, none⟩ = some (.slice (some ⟨pa, oa, none⟩) M.1.length ca) := (hba.cell 0).trans rfl
        have l0 := hba.lt
        have hbs : w.heap.size ≤ wr.heap.size := HBR.out.size
        have HX := Box.mk (show (Value.int .i64 x) = natV (stM nn M l (k + 1)) by unfold natV; rw [HST.out]; exact vint (by omega))
        unfold maxLen at k3 ha2 r3
        have hcA : c < 0 ∨ (nn : Int) ≤ c → colOf nn c = nn := fun h => by unfold colOf; rw [if_neg (by omega)]
        have hcB : 0 ≤ c → c < nn → c = (colOf nn c : Int) := fun h h' => by unfold colOf; rw [if_pos ⟨h, h'⟩]; omega
        generalize hso : stM nn M l k = so at *
        generalize hco : colOf nn c = co at *
        have hs1 : so < ca := by omega
        have hc1 : co < nn + 1 := by omega
        have hc2 : co < rcap := by omega
        clear k1 k5 ha0 ha4 hxi r5 hba hr1 hr3 hx1 hc hso hco
        rcases Int.lt_or_le c 0 with hc0 | hc0
        · obtain rfl := (hcA (.inl hc0)).symm
          clear hcA hcB
          go_wp2_with (at_builtin; refine wpList_push rfl _ _ 27 rfl pushInt hsep.out 0 rfl rfl rfl rfl (by omega) (by omega) hbs ?_; rintro v' w4 hS4 -)
          rw [HX.out] at hS4
          have HS4 := Box.mk (show Sep [Pc.row w.heap.size 3 1 v' (k + 1 + 1) (((goM nn M l).take (k + 1 + 1)).map natV), Pc.blk w.heap.size 26 #[.slice (some ⟨pa, oa, none⟩) M.1.length ca, fa], Pc.old w.heap.size w] w4 by
            rw [HTK.out, List.map_append]; exact hS4)
          clear hS4
          go_wp2_with fail
          go_roundw
          case rel => exact ⟨k + 1, hlt, by go_num, HX.out, HS4⟩
          case measure => simp [intOf]; omega
        · rcases Int.lt_or_le c nn with hcn | hcn
          · have hce := hcB hc0 hcn
            clear hcA hcB
            subst hce
            go_wp2_with (at_builtin; refine wpList_push rfl _ _ 27 rfl pushInt hsep.out 0 rfl rfl rfl rfl (by omega) (by omega) hbs ?_; rintro v' w4 hS4 -)
            rw [HX.out] at hS4
            have HS4 := Box.mk (show Sep [Pc.row w.heap.size 3 1 v' (k + 1 + 1) (((goM nn M l).take (k + 1 + 1)).map natV), Pc.blk w.heap.size 26 #[.slice (some ⟨pa, oa, none⟩) M.1.length ca, fa], Pc.old w.heap.size w] w4 by
              rw [HTK.out, List.map_append]; exact hS4)
            clear hS4
            go_wp2_with fail
            go_roundw
            case rel => exact ⟨k + 1, hlt, by go_num, HX.out, HS4⟩
            case measure => simp [intOf]; omega
          · obtain rfl := (hcA (.inr hcn)).symm
            clear hcA hcB
            go_wp2_with (at_builtin; refine wpList_push rfl _ _ 27 rfl pushInt hsep.out 0 rfl rfl rfl rfl (by omega) (by omega) hbs ?_; rintro v' w4 hS4 -)
            rw [HX.out] at hS4
            have HS4 := Box.mk (show Sep [Pc.row w.heap.size 3 1 v' (k + 1 + 1) (((goM nn M l).take (k + 1 + 1)).map natV), Pc.blk w.heap.size 26 #[.slice (some ⟨pa, oa, none⟩) M.1.length ca, fa], Pc.old w.heap.size w] w4 by
              rw [HTK.out, List.map_append]; exact hS4)
            clear hS4
            go_wp2_with fail
            go_roundw
            case rel => exact ⟨k + 1, hlt, by go_num, HX.out, HS4⟩
            case measure => simp [intOf]; omega
      · obtain rfl : k = l.length := by omega
        have HTT := Box.mk (show (goM nn M l).take (l.length + 1) = goM nn M l by rw [← goM_len nn M l, List.take_length])
        go_wp2_with fail
        go_ret2
        refine ⟨HBR.out, _, by rw [HC.out]; rfl, ?_⟩
        have := hsep.out.row 0 rfl
        rw [HTT.out] at this
        rw [HR.out]
        exact this

set_option maxRecDepth 100000 in
set_option maxHeartbeats 8000000 in
theorem rfits12_any (v lv : Value) (M : D.Mach) (n : Int) (l : List Int) (w : World) (hv : MachAt w v M) (hM : MachFit M) (hl : IntsAt w lv l) (hz : l.length ≤ 16777216) :
    Calls Tryz.prog 40 #[v, .int .i64 n, lv] w (fits12Post n M l w) := by
  have HMV := Box.mk hv
  obtain ⟨na, fa, rfl, hra, hia⟩ := hv
  have HIA := Box.mk hia
  obtain ⟨aa, ca, rfl⟩ := hra.slice
  obtain ⟨fo, fc, rfl⟩ := hia.slice
  obtain ⟨w2, hw2⟩ : ∃ w2, w2 = w.alloc (.cells #[.slice aa M.1.length ca, .slice fo M.2.length fc] 26) := ⟨_, rfl⟩
  have HW2 := Box.mk hw2
  have HS2 := Box.mk (show Sep [Pc.blk w.heap.size 26 #[.slice aa M.1.length ca, .slice fo M.2.length fc], Pc.old w.heap.size w] w2 by rw [hw2]; exact (Sep.start w).alloc_blk _ _)
  have hb2 : Below w.heap.size w w2 := HS2.out.bel (by simp)
  have HB2 := Box.mk hb2
  have HGO := Box.mk (rgo12_any _ lv M n l w2 (HMV.out.below hb2) hM (hl.below hb2) hz)
  have hba := HS2.out.blk 0 rfl
  have c0 : w2.cell? ⟨w.heap.size, 0, none⟩ = some (.slice aa M.1.length ca) := (hba.cell 0).trans rfl
  have c1 : w2.cell? ⟨w.heap.size, 1, none⟩ = some (.slice fo M.2.length fc) := (hba.cell 1).trans rfl
  have l0 := hba.lt
  clear hra hia hl hM hw2 hb2 hba
  cases hr : machR n M with
  | false =>
    have HR := Box.mk hr
    have HC := Box.mk (show goCode n M = 100 by unfold goCode; rw [hr]; rfl)
    clear hr
    go_enter Tryz.func40, Tryz.ntmps40
    go_upto_region 1 with (fail)
    rw [← HW2.out]
    go_wp2_with fail
    refine HGO.out.mono ?_; rintro e w3 ⟨hb3, rv, rfl, hown⟩; rw [HC.out]
    rw [HR.out] at hown
    obtain ⟨go, gc, rfl, -, -⟩ := own_shape hown
    have HB3 := Box.mk (HB2.out.trans (hb3.mono HB2.out.size))
    clear hb3 hown
    simp only [Bool.false_eq_true, if_false]
    go_wp2_with fail
    go_loopw [10, 11] (fun o i wr => o = .slice none 0 0 ∧ i = .int .i64 0 ∧ Box (Below w.heap.size w wr)) (fun _ _ _ => 0)
    case atStart => exact ⟨rfl, rfl, HB3⟩
    case round =>
      obtain ⟨rfl, rfl, hbr⟩ := hrel
      go_wp2_with fail
      go_ret2
      refine ⟨hbr.out, _, by rw [HC.out]; rfl, ?_⟩
      rw [HR.out]
      exact IntsAt.nil
  | true =>
    have HR := Box.mk hr
    obtain ⟨h1, h2, h3, h4, h5⟩ := machR_parts hr
    obtain ⟨nn, rfl⟩ := Int.eq_ofNat_of_zero_le (show 0 ≤ n by omega)
    have HC := Box.mk (show goCode nn M = 0 by unfold goCode; rw [hr]; rfl)
    have HLT := Box.mk (fun i => stM_lt hr l i)
    have HROW := Box.mk (fun {a : Nat} (ha : a < M.1.length) => machR_row hr ha)
    have HG5 := Box.mk h5
    obtain ⟨G, hG⟩ : ∃ G, goM nn M l = G := ⟨_, rfl⟩
    have HGL := Box.mk (show G.length = l.length + 1 by rw [← hG, goM_len])
    have HGG := Box.mk (show ∀ i, i < l.length + 1 → ∃ a, G[i]? = some a ∧ a < M.1.length from fun i hi => ⟨_, by rw [← hG]; exact goM_get (by omega), HLT.out i⟩)
    have HGE := Box.mk hG
    clear hr h5 hG
    go_enter Tryz.func40, Tryz.ntmps40
    go_upto_region 1 with (fail)
    rw [← HW2.out]
    go_wp2_with fail
    refine HGO.out.mono ?_; rintro e w3 ⟨hb3, rv, rfl, hown⟩; rw [HC.out]
    rw [HR.out, if_pos rfl, if_pos rfl, Int.toNat_natCast, HGE.out] at hown
    have HGI := Box.mk (row_ints hown HGL.out.symm)
    obtain ⟨go, gc, rfl, -, -⟩ := own_shape hown
    have HS3 := Box.mk (show Sep [Pc.row w.heap.size 2 1 (.slice none 0 0) 0 (((G.take 0).map (fitM M)).map (Value.int .i64)), Pc.row w.heap.size 3 1 (.slice go (l.length + 1) gc) (l.length + 1) (G.map natV), Pc.blk w.heap.size 26 #[.slice aa M.1.length ca, .slice fo M.2.length fc], Pc.old w.heap.size w] w3 from
      (HS2.out.got hb3 hown HB2.out.size).nil_row _ _ _)
    clear hb3 c0 c1 l0 hown
    go_wp2_with fail
    go_loopw [10, 11] (fun o i wr => ∃ k : Nat, k ≤ l.length + 1 ∧ i = .int .i64 k ∧ Box (Sep [Pc.row w.heap.size 2 1 o k (((G.take k).map (fitM M)).map (Value.int .i64)), Pc.row w.heap.size 3 1 (.slice go (l.length + 1) gc) (l.length + 1) (G.map natV), Pc.blk w.heap.size 26 #[.slice aa M.1.length ca, .slice fo M.2.length fc], Pc.old w.heap.size w] wr)) (fun _ i _ => l.length + 1 - (intOf i).toNat)
    case atStart => exact ⟨0, by omega, rfl, HS3⟩
    case round =>
      obtain ⟨k, hk, rfl, hsep⟩ := hrel
      have HBR := Box.mk (show Below w.heap.size w wr from hsep.out.bel (by simp))
      by_cases hlt : k < l.length + 1
      · obtain ⟨a, ha, hal⟩ := HGG.out k hlt
        obtain ⟨lb, loff, lcap, k1, k2, k3, k4, k5⟩ := (row_ints (hsep.out.row 1 rfl) HGL.out.symm).get (by intro e; have := congrArg List.length e; rw [zs_len, HGL.out] at this; simp at this)
        rw [zs_len, HGL.out] at k1 k2
        obtain ⟨rfl, rfl⟩ : go = some ⟨lb, loff, none⟩ ∧ gc = lcap := by injection k1 with h1 h2 h3; exact ⟨h1, h3⟩
        have hac := k5 k _ (zs_get ha)
        obtain ⟨-, -, -, -, f, hf, -⟩ := HROW.out hal
        obtain ⟨pb, ob, cb', hb0, hb1, hb2, hb3, hb4⟩ := (HIA.out.below HBR.out).get (by intro e; rw [e] at hf; simp at hf)
        obtain ⟨rfl, rfl⟩ : fo = some ⟨pb, ob, none⟩ ∧ fc = cb' := by injection hb0 with h1 h2 h3; exact ⟨h1, h3⟩
        have hfc := hb4 a f hf
        have HTK := Box.mk (show ((G.take (k + 1)).map (fitM M)).map (Value.int .i64) = ((G.take k).map (fitM M)).map (Value.int .i64) ++ [Value.int .i64 f] by
          rw [take_snoc' _ _ _ ha, List.map_append, List.map_append]; simp only [List.map_cons, List.map_nil]; unfold fitM; rw [show M.2.getD a 0 = f by rw [List.getD, hf]; rfl])
        have hba := hsep.out.blk 2 rfl
        have l0 := hba.lt
        have HFF := Box.mk (show ∀ W, Below wr.heap.size wr W → W.cell? ⟨w.heap.size, 1, none⟩ = some (.slice (some ⟨pb, ob, none⟩) M.2.length fc) ∧ W.cell? ⟨lb, loff + k, none⟩ = some (.int .i64 (a : Int)) ∧ W.cell? ⟨pb, ob + a, none⟩ = some (.int .i64 f) from fun W h =>
          ⟨((hba.below h hba.lt).cell 1).trans rfl, (h.cell (p := ⟨lb, loff + k, none⟩) k4).trans hac, (h.cell (p := ⟨pb, ob + a, none⟩) hb3).trans hfc⟩)
        have HBD := Box.mk (show Below wr.heap.size wr wr.drew from ⟨rfl, rfl, rfl, Nat.le_refl _, fun _ _ => rfl⟩)
        have HSD := Box.mk hsep.out.drew
        have hbs : w.heap.size ≤ wr.drew.heap.size := HBR.out.size
        have hal2 : a < M.2.length := by rw [HG5.out]; exact hal
        have hkk : k ≤ 1000000000 := by omega
        unfold maxLen at k3 hb2
        have hkc : k < gc := by omega
        have hafc : a < fc := by omega
        obtain ⟨oo, oc, rfl, ho1, ho2⟩ := own_shape (hsep.out.row 0 rfl)
        clear k1 k5 hb0 hb4 ha hf hba hal hac hfc hsep
        go_wp2_with fail
        refine wp_region_K 10 (fun W => W.cell? ⟨w.heap.size, 1, none⟩ = some (.slice (some ⟨pb, ob, none⟩) M.2.length fc) ∧ W.cell? ⟨lb, loff + k, none⟩ = some (.int .i64 (a : Int)) ∧ W.cell? ⟨pb, ob + a, none⟩ = some (.int .i64 f)) (by kernel_rfl) ?_
        have HF0 := Box.mk (HFF.out _ HBD.out)
        have HFA := Box.mk (fun o => HFF.out _ (HBD.out.alloc HBD.out.size o))
        generalize wr.drew = WR at *
        refine wpAnyK_take (i := 0) (v := ?_) rfl (by kernel_rfl) (fun _ _ _ h => h) (Or.inl ⟨by kernel_rfl, ?_⟩) HF0.out ?_
        rotate_left
        · first | (intro w hw; obtain ⟨q1, q2, q3⟩ := hw; go_simp; done) | (intro w hw; obtain ⟨q1, q2, q3⟩ := hw; go_simp; with_reducible rfl)
        refine wpAnyK_take (i := 1) (v := ?_) rfl (by kernel_rfl) (fun _ _ _ h => h) (Or.inl ⟨by kernel_rfl, ?_⟩) HF0.out ?_
        rotate_left
        · first | (intro w hw; obtain ⟨q1, q2, q3⟩ := hw; go_simp; done) | (intro w hw; obtain ⟨q1, q2, q3⟩ := hw; go_simp; with_reducible rfl)
        refine wpAnyK_take (i := 2) (v := ?_) rfl (by kernel_rfl) (fun _ _ _ h => h) (Or.inl ⟨by kernel_rfl, ?_⟩) HF0.out ?_
        rotate_left
        · first | (intro w hw; obtain ⟨q1, q2, q3⟩ := hw; go_simp; done) | (intro w hw; obtain ⟨q1, q2, q3⟩ := hw; go_simp; with_reducible rfl)
        refine wpAnyK_take (i := 3) (v := ?_) rfl (by kernel_rfl) (fun _ _ _ h => h) (Or.inl ⟨by kernel_rfl, ?_⟩) HF0.out ?_
        rotate_left
        · first | (intro w hw; obtain ⟨q1, q2, q3⟩ := hw; go_simp; done) | (intro w hw; obtain ⟨q1, q2, q3⟩ := hw; go_simp; with_reducible rfl)
        refine wpAnyK_take (i := 4) (v := ?_) rfl (by kernel_rfl) (fun _ _ _ h => h) (Or.inl ⟨by kernel_rfl, ?_⟩) HF0.out ?_
        rotate_left
        · first | (intro w hw; obtain ⟨q1, q2, q3⟩ := hw; go_simp; done) | (intro w hw; obtain ⟨q1, q2, q3⟩ := hw; go_simp; with_reducible rfl)
        refine wpAnyK_take (i := 5) (v := ?_) rfl (by kernel_rfl) (fun _ _ _ h => h) (Or.inl ⟨by kernel_rfl, ?_⟩) HF0.out ?_
        rotate_left
        · first | (intro w hw; obtain ⟨q1, q2, q3⟩ := hw; go_simp; done) | (intro w hw; obtain ⟨q1, q2, q3⟩ := hw; go_simp; with_reducible rfl)
        refine wpAnyK_take (i := 6) (v := ?_) rfl (by kernel_rfl) (fun _ _ _ h => h) (Or.inl ⟨by kernel_rfl, ?_⟩) HF0.out ?_
        rotate_left
        · first | (intro w hw; obtain ⟨q1, q2, q3⟩ := hw; go_simp; done) | (intro w hw; obtain ⟨q1, q2, q3⟩ := hw; go_simp; with_reducible rfl)
        refine wpAnyK_take (i := 7) (v := ?_) rfl (by kernel_rfl) (fun _ _ _ h => h) (Or.inl ⟨by kernel_rfl, ?_⟩) HF0.out ?_
        rotate_left
        · first | (intro w hw; obtain ⟨q1, q2, q3⟩ := hw; go_simp; done) | (intro w hw; obtain ⟨q1, q2, q3⟩ := hw; go_simp; with_reducible rfl)
        refine wpAnyK_take (i := 8) (v := ?_) rfl (by kernel_rfl) (fun _ _ _ h => h) (Or.inl ⟨by kernel_rfl, ?_⟩) HF0.out ?_
        rotate_left
        · first | (intro w hw; obtain ⟨q1, q2, q3⟩ := hw; go_simp; done) | (intro w hw; obtain ⟨q1, q2, q3⟩ := hw; go_simp; with_reducible rfl)
        refine wpAnyK_one (i := 9) (by kernel_rfl) rfl (fun KK hKK => ?_)
        go_simp
        refine hKK.out _ _ (fun _ => HFA.out _) ?_
        clear hKK KK
        refine wpAnyK_one (i := 10) (by kernel_rfl) rfl (fun KK hKK => ?_)
        refine step_push rfl _ _ 24 rfl pushI64 HSD.out 0 rfl (by kernel_rfl) (by kernel_rfl) rfl hkk (by omega) hbs ?_
        rintro v' w4 hS4 -
        refine hKK.out _ _ (fun h => by cases h) ?_
        clear hKK KK
        refine wpAnyK_one (i := 11) (by kernel_rfl) rfl (fun KK hKK => ?_)
        go_simp
        refine hKK.out _ _ (fun h => by cases h) ?_
        clear hKK KK
        refine wpAnyK_done (by kernel_rfl) ?_ _
        refine NoPanic.normal ?_
        rw [← HTK.out] at hS4
        have HS4 := Box.mk hS4
        clear hS4
        go_wp2_with fail
        go_roundw
        case rel => exact ⟨k + 1, hlt, by go_num, HS4⟩
        case measure => simp [intOf]; omega
      · obtain rfl : k = l.length + 1 := by omega
        have HTT := Box.mk (show G.take (l.length + 1) = G by rw [← HGL.out, List.take_length])
        go_wp2_with fail
        go_ret2
        refine ⟨HBR.out, _, by rw [HC.out]; rfl, ?_⟩
        have := row_intsI (hsep.out.row 0 rfl) (by rw [List.length_map, HTT.out, HGL.out])
        rw [HTT.out] at this
        rw [HR.out, if_pos rfl]
        unfold fitsM
        rw [Int.toNat_natCast, HGE.out]
        exact this
end Go.Proofs.YtbpcipobdokcfaaGreatDoor
