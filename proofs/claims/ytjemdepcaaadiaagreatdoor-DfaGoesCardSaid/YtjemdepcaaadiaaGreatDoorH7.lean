/-
  Texts of this claim, one behind the other: Dg2, Df12, Df5, Df10, Df6.
-/
import Derived.Test.YtjemdepcaaadiaaGreatDoorH6
import Derived.Test.YtjemdepcaaadiaaGreatDoorH2
import Derived.Test.YtjemdepcaaadiaaGreatDoorH3

/- HOW A MACHINE GOES, WHAT FITS: the document's answers. -/
namespace Go.Proofs.YtjemdepcaaadiaaGreatDoor
open Go.RowKit Go.Shelf
attribute [local go_sem] Oper.semAt_some

set_option maxRecDepth 100000 in
set_option maxHeartbeats 8000000 in
theorem rgo12_any (v lv : Value) (M : D.Mach) (n : Int) (l : List Int) (w : World) (hv : MachAt w v M) (hM : MachFit M) (hl : IntsAt w lv l) (hz : l.length ≤ 16777216) :
    Calls Tryz.prog 9 #[v, .int .i64 n, lv] w (goPost n M l w) := by
  have HRT := Box.mk (fun W (h : Below w.heap.size w W) => rright12_any v M n W (hv.below h) hM)
  have HL := Box.mk hl
  obtain ⟨na, fa, rfl, hra, -⟩ := hv
  obtain ⟨aa, ca, rfl⟩ := hra.slice
  obtain ⟨lo, lc, rfl⟩ := hl.slice
  have HRA := Box.mk hra
  obtain ⟨w2, hw2⟩ : ∃ w2, w2 = w.alloc (.cells #[.slice aa M.1.length ca, fa] 25) := ⟨_, rfl⟩
  have HW2 := Box.mk hw2
  have HS2 := Box.mk (show Sep [Pc.blk w.heap.size 25 #[.slice aa M.1.length ca, fa], Pc.old w.heap.size w] w2 by rw [hw2]; exact (Sep.start w).alloc_blk _ _)
  have hb2 : Below w.heap.size w w2 := HS2.out.bel (by simp)
  have HB2 := Box.mk hb2
  have hba := HS2.out.blk 0 rfl
  have c0 : w2.cell? ⟨w.heap.size, 0, none⟩ = some (.slice aa M.1.length ca) := (hba.cell 0).trans rfl
  have c1 : w2.cell? ⟨w.heap.size, 1, none⟩ = some fa := (hba.cell 1).trans rfl
  have l0 := hba.lt
  clear hra hl hM hw2 hb2 hba
  cases hr : machR n M with
  | false =>
    have HR := Box.mk hr
    have HC := Box.mk (show goCode n M = 100 by unfold goCode; rw [hr]; rfl)
    clear hr
    go_enter Tryz.func9, Tryz.ntmps9
    go_upto_region 1 with (fail)
    rw [← HW2.out]
    go_wp2_with fail
    refine (HRT.out _ HB2.out).mono ?_; rintro e w3 ⟨rfl, hb3⟩; rw [HR.out]
    have HB3 := Box.mk (HB2.out.trans (hb3.mono HB2.out.size))
    clear hb3
    go_wp2_with fail
    go_ret2
    refine ⟨HB3.out, _, by rw [HC.out]; rfl, ?_⟩
    rw [HR.out]
    exact World.ownsRow_nil _ _ _ _
  | true =>
    have HR := Box.mk hr
    obtain ⟨h1, h2, h3, h4, h5⟩ := machR_parts hr
    obtain ⟨nn, rfl⟩ := Int.eq_ofNat_of_zero_le (show 0 ≤ n by omega)
    have HC := Box.mk (show goCode nn M = 0 by unfold goCode; rw [hr]; rfl)
    have HLT := Box.mk (fun i => stM_lt hr l i)
    have HROW := Box.mk (fun {a : Nat} (ha : a < M.1.length) => machR_row hr ha)
    have HG1 := Box.mk (show (goM nn M l).take 1 = [0] by unfold goM; rw [List.range_succ_eq_map]; rfl)
    clear hr h5
    go_enter Tryz.func9, Tryz.ntmps9
    go_upto_region 1 with (fail)
    rw [← HW2.out]
    go_wp2_with fail
    refine (HRT.out _ HB2.out).mono ?_; rintro e w3 ⟨rfl, hb3⟩; rw [HR.out]
    have HS3 := Box.mk (show Sep [Pc.row w.heap.size 3 1 (.slice (some ⟨w3.heap.size, 0, none⟩) 1 1) (0 + 1) (((goM nn M l).take (0 + 1)).map natV), Pc.blk w.heap.size 25 #[.slice aa M.1.length ca, fa], Pc.old w.heap.size w] (w3.alloc (.cells #[.int .i64 0] 3)) by
      rw [HG1.out]; exact (HS2.out.below hb3).lit (base := w.heap.size) (e := 3) (cs := #[.int .i64 0]) (n := 1) (Nat.le_trans HB2.out.size hb3.size) rfl (by omega))
    clear hb3 c0 c1 l0
    go_wp2_with fail
    go_loopw [8, 9, 10] (fun o at' i wr => ∃ k : Nat, k ≤ l.length ∧ i = .int .i64 k ∧ at' = .int .i64 (stM nn M l k) ∧ Box (Sep [Pc.row w.heap.size 3 1 o (k + 1) (((goM nn M l).take (k + 1)).map natV), Pc.blk w.heap.size 25 #[.slice aa M.1.length ca, fa], Pc.old w.heap.size w] wr)) (fun _ _ i _ => l.length - (intOf i).toNat)
    case atStart => exact ⟨0, by omega, rfl, rfl, HS3⟩
    case round =>
      obtain ⟨k, hk, rfl, rfl, hsep⟩ := hrel
      have HBR := Box.mk (show Below w.heap.size w wr from hsep.out.bel (by simp))
      by_cases hlt : k < l.length
      · obtain ⟨c, hc⟩ : ∃ c, l[k]? = some c := ⟨_, List.getElem?_eq_getElem hlt⟩
        obtain ⟨lb, loff, lcap, k1, k2, k3, k4, k5⟩ := (HL.out.below HBR.out).get (by rintro rfl; simp at hlt)
        obtain ⟨rfl, rfl⟩ : lo = some ⟨lb, loff, none⟩ ∧ lc = lcap := by injection k1 with h1 h2 h3; exact ⟨h1, h3⟩
        have hlc := k5 k c hc
        have hat := HLT.out k
        have HAN := Box.mk (HLT.out (k + 1))
        obtain ⟨r, hr1, hr2, hr3, -⟩ := HROW.out hat
        obtain ⟨x, hx1, hx2, hx3⟩ := hr3 (colOf nn c) (colOf_le nn c)
        have HST := Box.mk (show stM nn M l (k + 1) = x.toNat by
          rw [stM_succ hc]; unfold stepM; rw [show M.1.getD (stM nn M l k) [] = r by rw [List.getD, hr1]; rfl, show r.getD (colOf nn c) 0 = x by rw [List.getD, hx1]; rfl])
        have HTK := Box.mk (goM_take (n := nn) (M := M) hlt)
        have hcl := colOf_le nn c
        obtain ⟨pa, oa, ca', ha0, ha1, ha2, ha3, ha4⟩ := (HRA.out.below HBR.out).get (by intro e; rw [e] at hr1; simp at hr1)
        obtain ⟨rfl, rfl⟩ : aa = some ⟨pa, oa, none⟩ ∧ ca = ca' := by injection ha0 with h1 h2 h3; exact ⟨h1, h3⟩
        obtain ⟨xv, hxc, hxi⟩ := ha4 _ r hr1
        obtain ⟨rb, roff, rcap, r1, r2, r3, r4, r5⟩ := hxi.get (by rintro rfl; simp at hr2)
        rw [hr2] at r1 r2
        subst r1
        have hxx := r5 _ x hx1
        have hba := hsep.out.blk 1 rfl
        obtain ⟨oo, oc, rfl, ho1, ho2⟩ := own_shape (hsep.out.row 0 rfl)
        have c0 : wr.cell? ⟨w.heap.size, 0, none⟩ = some (.slice (some ⟨pa, oa, none⟩) M.1.length ca) := (hba.cell 0).trans rfl
        have l0 := hba.lt
        have hbs : w.heap.size ≤ wr.heap.size := HBR.out.size
        have HX := Box.mk (show (Value.int .i64 x) = natV (stM nn M l (k + 1)) by unfold natV; rw [HST.out]; exact vint (by omega))
        unfold maxLen at k3 ha2 r3
        have hcA : c < 0 ∨ (nn : Int) ≤ c → colOf nn c = nn := fun h => by unfold colOf; rw [if_neg (by omega)]
        have hcB : 0 ≤ c → c < nn → c = (colOf nn c : Int) := fun h h' => by unfold colOf; rw [if_pos ⟨h, h'⟩]; omega
        generalize hso : stM nn M l k = so at *
        generalize hco : colOf nn c = co at *
        have hs1 : so < ca := by omega
        have hc1 : co < nn + 1 := by omega
        have hc2 : co < rcap := by omega
        clear k1 k5 ha0 ha4 hxi r5 hba hr1 hr3 hx1 hc hso hco
        rcases Int.lt_or_le c 0 with hc0 | hc0
        · obtain rfl := (hcA (.inl hc0)).symm
          clear hcA hcB
          go_wp2_with (at_builtin; refine wpList_push rfl _ _ 26 rfl pushInt hsep.out 0 rfl rfl rfl rfl (by omega) (by omega) hbs ?_; rintro v' w4 hS4 -)
          rw [HX.out] at hS4
          have HS4 := Box.mk (show Sep [Pc.row w.heap.size 3 1 v' (k + 1 + 1) (((goM nn M l).take (k + 1 + 1)).map natV), Pc.blk w.heap.size 25 #[.slice (some ⟨pa, oa, none⟩) M.1.length ca, fa], Pc.old w.heap.size w] w4 by
            rw [HTK.out, List.map_append]; exact hS4)
          clear hS4
          go_wp2_with fail
          go_roundw
          case rel => exact ⟨k + 1, hlt, by go_num, HX.out, HS4⟩
          case measure => simp [intOf]; omega
        · rcases Int.lt_or_le c nn with hcn | hcn
          · have hce := hcB hc0 hcn
            clear hcA hcB
            subst hce
            go_wp2_with (at_builtin; refine wpList_push rfl _ _ 26 rfl pushInt hsep.out 0 rfl rfl rfl rfl (by omega) (by omega) hbs ?_; rintro v' w4 hS4 -)
            rw [HX.out] at hS4
            have HS4 := Box.mk (show Sep [Pc.row w.heap.size 3 1 v' (k + 1 + 1) (((goM nn M l).take (k + 1 + 1)).map natV), Pc.blk w.heap.size 25 #[.slice (some ⟨pa, oa, none⟩) M.1.length ca, fa], Pc.old w.heap.size w] w4 by
              rw [HTK.out, List.map_append]; exact hS4)
            clear hS4
            go_wp2_with fail
            go_roundw
            case rel => exact ⟨k + 1, hlt, by go_num, HX.out, HS4⟩
            case measure => simp [intOf]; omega
          · obtain rfl := (hcA (.inr hcn)).symm
            clear hcA hcB
            go_wp2_with (at_builtin; refine wpList_push rfl _ _ 26 rfl pushInt hsep.out 0 rfl rfl rfl rfl (by omega) (by omega) hbs ?_; rintro v' w4 hS4 -)
            rw [HX.out] at hS4
            have HS4 := Box.mk (show Sep [Pc.row w.heap.size 3 1 v' (k + 1 + 1) (((goM nn M l).take (k + 1 + 1)).map natV), Pc.blk w.heap.size 25 #[.slice (some ⟨pa, oa, none⟩) M.1.length ca, fa], Pc.old w.heap.size w] w4 by
              rw [HTK.out, List.map_append]; exact hS4)
            clear hS4
            go_wp2_with fail
            go_roundw
            case rel => exact ⟨k + 1, hlt, by go_num, HX.out, HS4⟩
            case measure => simp [intOf]; omega
      · obtain rfl : k = l.length := by omega
        have HTT := Box.mk (show (goM nn M l).take (l.length + 1) = goM nn M l by rw [← goM_len nn M l, List.take_length])
        go_wp2_with fail
        go_ret2
        refine ⟨HBR.out, _, by rw [HC.out]; rfl, ?_⟩
        have := hsep.out.row 0 rfl
        rw [HTT.out] at this
        rw [HR.out]
        exact this

set_option maxRecDepth 100000 in
set_option maxHeartbeats 8000000 in
theorem rfits12_any (v lv : Value) (M : D.Mach) (n : Int) (l : List Int) (w : World) (hv : MachAt w v M) (hM : MachFit M) (hl : IntsAt w lv l) (hz : l.length ≤ 16777216) :
    Calls Tryz.prog 11 #[v, .int .i64 n, lv] w (fits12Post n M l w) := by
  have HMV := Box.mk hv
  obtain ⟨na, fa, rfl, hra, hia⟩ := hv
  have HIA := Box.mk hia
  obtain ⟨aa, ca, rfl⟩ := hra.slice
  obtain ⟨fo, fc, rfl⟩ := hia.slice
  obtain ⟨w2, hw2⟩ : ∃ w2, w2 = w.alloc (.cells #[.slice aa M.1.length ca, .slice fo M.2.length fc] 25) := ⟨_, rfl⟩
  have HW2 := Box.mk hw2
  have HS2 := Box.mk (show Sep [Pc.blk w.heap.size 25 #[.slice aa M.1.length ca, .slice fo M.2.length fc], Pc.old w.heap.size w] w2 by rw [hw2]; exact (Sep.start w).alloc_blk _ _)
  have hb2 : Below w.heap.size w w2 := HS2.out.bel (by simp)
  have HB2 := Box.mk hb2
  have HGO := Box.mk (rgo12_any _ lv M n l w2 (HMV.out.below hb2) hM (hl.below hb2) hz)
  have hba := HS2.out.blk 0 rfl
  have c0 : w2.cell? ⟨w.heap.size, 0, none⟩ = some (.slice aa M.1.length ca) := (hba.cell 0).trans rfl
  have c1 : w2.cell? ⟨w.heap.size, 1, none⟩ = some (.slice fo M.2.length fc) := (hba.cell 1).trans rfl
  have l0 := hba.lt
  clear hra hia hl hM hw2 hb2 hba
  cases hr : machR n M with
  | false =>
    have HR := Box.mk hr
    have HC := Box.mk (show goCode n M = 100 by unfold goCode; rw [hr]; rfl)
    clear hr
    go_enter Tryz.func11, Tryz.ntmps11
    go_upto_region 1 with (fail)
    rw [← HW2.out]
    go_wp2_with fail
    refine HGO.out.mono ?_; rintro e w3 ⟨hb3, rv, rfl, hown⟩; rw [HC.out]
    rw [HR.out] at hown
    obtain ⟨go, gc, rfl, -, -⟩ := own_shape hown
    have HB3 := Box.mk (HB2.out.trans (hb3.mono HB2.out.size))
    clear hb3 hown
    simp only [Bool.false_eq_true, if_false]
    go_wp2_with fail
    go_loopw [10, 11] (fun o i wr => o = .slice none 0 0 ∧ i = .int .i64 0 ∧ Box (Below w.heap.size w wr)) (fun _ _ _ => 0)
    case atStart => exact ⟨rfl, rfl, HB3⟩
    case round =>
      obtain ⟨rfl, rfl, hbr⟩ := hrel
      go_wp2_with fail
      go_ret2
      refine ⟨hbr.out, _, by rw [HC.out]; rfl, ?_⟩
      rw [HR.out]
      exact IntsAt.nil
  | true =>
    have HR := Box.mk hr
    obtain ⟨h1, h2, h3, h4, h5⟩ := machR_parts hr
    obtain ⟨nn, rfl⟩ := Int.eq_ofNat_of_zero_le (show 0 ≤ n by omega)
    have HC := Box.mk (show goCode nn M = 0 by unfold goCode; rw [hr]; rfl)
    have HLT := Box.mk (fun i => stM_lt hr l i)
    have HROW := Box.mk (fun {a : Nat} (ha : a < M.1.length) => machR_row hr ha)
    have HG5 := Box.mk h5
    obtain ⟨G, hG⟩ : ∃ G, goM nn M l = G := ⟨_, rfl⟩
    have HGL := Box.mk (show G.length = l.length + 1 by rw [← hG, goM_len])
    have HGG := Box.mk (show ∀ i, i < l.length + 1 → ∃ a, G[i]? = some a ∧ a < M.1.length from fun i hi => ⟨_, by rw [← hG]; exact goM_get (by omega), HLT.out i⟩)
    have HGE := Box.mk hG
    clear hr h5 hG
    go_enter Tryz.func11, Tryz.ntmps11
    go_upto_region 1 with (fail)
    rw [← HW2.out]
    go_wp2_with fail
    refine HGO.out.mono ?_; rintro e w3 ⟨hb3, rv, rfl, hown⟩; rw [HC.out]
    rw [HR.out, if_pos rfl, if_pos rfl, Int.toNat_natCast, HGE.out] at hown
    have HGI := Box.mk (row_ints hown HGL.out.symm)
    obtain ⟨go, gc, rfl, -, -⟩ := own_shape hown
    have HS3 := Box.mk (show Sep [Pc.row w.heap.size 2 1 (.slice none 0 0) 0 (((G.take 0).map (fitM M)).map (Value.int .i64)), Pc.row w.heap.size 3 1 (.slice go (l.length + 1) gc) (l.length + 1) (G.map natV), Pc.blk w.heap.size 25 #[.slice aa M.1.length ca, .slice fo M.2.length fc], Pc.old w.heap.size w] w3 from
      (HS2.out.got hb3 hown HB2.out.size).nil_row _ _ _)
    clear hb3 c0 c1 l0 hown
    go_wp2_with fail
    go_loopw [10, 11] (fun o i wr => ∃ k : Nat, k ≤ l.length + 1 ∧ i = .int .i64 k ∧ Box (Sep [Pc.row w.heap.size 2 1 o k (((G.take k).map (fitM M)).map (Value.int .i64)), Pc.row w.heap.size 3 1 (.slice go (l.length + 1) gc) (l.length + 1) (G.map natV), Pc.blk w.heap.size 25 #[.slice aa M.1.length ca, .slice fo M.2.length fc], Pc.old w.heap.size w] wr)) (fun _ i _ => l.length + 1 - (intOf i).toNat)
    case atStart => exact ⟨0, by omega, rfl, HS3⟩
    case round =>
      obtain ⟨k, hk, rfl, hsep⟩ := hrel
      have HBR := Box.mk (show Below w.heap.size w wr from hsep.out.bel (by simp))
      by_cases hlt : k < l.length + 1
      · obtain ⟨a, ha, hal⟩ := HGG.out k hlt
        obtain ⟨lb, loff, lcap, k1, k2, k3, k4, k5⟩ := (row_ints (hsep.out.row 1 rfl) HGL.out.symm).get (by intro e; have := congrArg List.length e; rw [zs_len, HGL.out] at this; simp at this)
        rw [zs_len, HGL.out] at k1 k2
        obtain ⟨rfl, rfl⟩ : go = some ⟨lb, loff, none⟩ ∧ gc = lcap := by injection k1 with h1 h2 h3; exact ⟨h1, h3⟩
        have hac := k5 k _ (zs_get ha)
        obtain ⟨-, -, -, -, f, hf, -⟩ := HROW.out hal
        obtain ⟨pb, ob, cb', hb0, hb1, hb2, hb3, hb4⟩ := (HIA.out.below HBR.out).get (by intro e; rw [e] at hf; simp at hf)
        obtain ⟨rfl, rfl⟩ : fo = some ⟨pb, ob, none⟩ ∧ fc = cb' := by injection hb0 with h1 h2 h3; exact ⟨h1, h3⟩
        have hfc := hb4 a f hf
        have HTK := Box.mk (show ((G.take (k + 1)).map (fitM M)).map (Value.int .i64) = ((G.take k).map (fitM M)).map (Value.int .i64) ++ [Value.int .i64 f] by
          rw [take_snoc' _ _ _ ha, List.map_append, List.map_append]; simp only [List.map_cons, List.map_nil]; unfold fitM; rw [show M.2.getD a 0 = f by rw [List.getD, hf]; rfl])
        have hba := hsep.out.blk 2 rfl
        have l0 := hba.lt
        have HFF := Box.mk (show ∀ W, Below wr.heap.size wr W → W.cell? ⟨w.heap.size, 1, none⟩ = some (.slice (some ⟨pb, ob, none⟩) M.2.length fc) ∧ W.cell? ⟨lb, loff + k, none⟩ = some (.int .i64 (a : Int)) ∧ W.cell? ⟨pb, ob + a, none⟩ = some (.int .i64 f) from fun W h =>
          ⟨((hba.below h hba.lt).cell 1).trans rfl, (h.cell (p := ⟨lb, loff + k, none⟩) k4).trans hac, (h.cell (p := ⟨pb, ob + a, none⟩) hb3).trans hfc⟩)
        have HBD := Box.mk (show Below wr.heap.size wr wr.drew from ⟨rfl, rfl, rfl, Nat.le_refl _, fun _ _ => rfl⟩)
        have HSD := Box.mk hsep.out.drew
        have hbs : w.heap.size ≤ wr.drew.heap.size := HBR.out.size
        have hal2 : a < M.2.length := by rw [HG5.out]; exact hal
        have hkk : k ≤ 1000000000 := by omega
        unfold maxLen at k3 hb2
        have hkc : k < gc := by omega
        have hafc : a < fc := by omega
        obtain ⟨oo, oc, rfl, ho1, ho2⟩ := own_shape (hsep.out.row 0 rfl)
        clear k1 k5 hb0 hb4 ha hf hba hal hac hfc hsep
        go_wp2_with fail
        refine wp_region_K 10 (fun W => W.cell? ⟨w.heap.size, 1, none⟩ = some (.slice (some ⟨pb, ob, none⟩) M.2.length fc) ∧ W.cell? ⟨lb, loff + k, none⟩ = some (.int .i64 (a : Int)) ∧ W.cell? ⟨pb, ob + a, none⟩ = some (.int .i64 f)) (by kernel_rfl) ?_
        have HF0 := Box.mk (HFF.out _ HBD.out)
        have HFA := Box.mk (fun o => HFF.out _ (HBD.out.alloc HBD.out.size o))
        generalize wr.drew = WR at *
        refine wpAnyK_take (i := 0) (v := ?_) rfl (by kernel_rfl) (fun _ _ _ h => h) (Or.inl ⟨by kernel_rfl, ?_⟩) HF0.out ?_
        rotate_left
        · first | (intro w hw; obtain ⟨q1, q2, q3⟩ := hw; go_simp; done) | (intro w hw; obtain ⟨q1, q2, q3⟩ := hw; go_simp; with_reducible rfl)
        refine wpAnyK_take (i := 1) (v := ?_) rfl (by kernel_rfl) (fun _ _ _ h => h) (Or.inl ⟨by kernel_rfl, ?_⟩) HF0.out ?_
        rotate_left
        · first | (intro w hw; obtain ⟨q1, q2, q3⟩ := hw; go_simp; done) | (intro w hw; obtain ⟨q1, q2, q3⟩ := hw; go_simp; with_reducible rfl)
        refine wpAnyK_take (i := 2) (v := ?_) rfl (by kernel_rfl) (fun _ _ _ h => h) (Or.inl ⟨by kernel_rfl, ?_⟩) HF0.out ?_
        rotate_left
        · first | (intro w hw; obtain ⟨q1, q2, q3⟩ := hw; go_simp; done) | (intro w hw; obtain ⟨q1, q2, q3⟩ := hw; go_simp; with_reducible rfl)
        refine wpAnyK_take (i := 3) (v := ?_) rfl (by kernel_rfl) (fun _ _ _ h => h) (Or.inl ⟨by kernel_rfl, ?_⟩) HF0.out ?_
        rotate_left
        · first | (intro w hw; obtain ⟨q1, q2, q3⟩ := hw; go_simp; done) | (intro w hw; obtain ⟨q1, q2, q3⟩ := hw; go_simp; with_reducible rfl)
        refine wpAnyK_take (i := 4) (v := ?_) rfl (by kernel_rfl) (fun _ _ _ h => h) (Or.inl ⟨by kernel_rfl, ?_⟩) HF0.out ?_
        rotate_left
        · first | (intro w hw; obtain ⟨q1, q2, q3⟩ := hw; go_simp; done) | (intro w hw; obtain ⟨q1, q2, q3⟩ := hw; go_simp; with_reducible rfl)
        refine wpAnyK_take (i := 5) (v := ?_) rfl (by kernel_rfl) (fun _ _ _ h => h) (Or.inl ⟨by kernel_rfl, ?_⟩) HF0.out ?_
        rotate_left
        · first | (intro w hw; obtain ⟨q1, q2, q3⟩ := hw; go_simp; done) | (intro w hw; obtain ⟨q1, q2, q3⟩ := hw; go_simp; with_reducible rfl)
        refine wpAnyK_take (i := 6) (v := ?_) rfl (by kernel_rfl) (fun _ _ _ h => h) (Or.inl ⟨by kernel_rfl, ?_⟩) HF0.out ?_
        rotate_left
        · first | (intro w hw; obtain ⟨q1, q2, q3⟩ := hw; go_simp; done) | (intro w hw; obtain ⟨q1, q2, q3⟩ := hw; go_simp; with_reducible rfl)
        refine wpAnyK_take (i := 7) (v := ?_) rfl (by kernel_rfl) (fun _ _ _ h => h) (Or.inl ⟨by kernel_rfl, ?_⟩) HF0.out ?_
        rotate_left
        · first | (intro w hw; obtain ⟨q1, q2, q3⟩ := hw; go_simp; done) | (intro w hw; obtain ⟨q1, q2, q3⟩ := hw; go_simp; with_reducible rfl)
        refine wpAnyK_take (i := 8) (v := ?_) rfl (by kernel_rfl) (fun _ _ _ h => h) (Or.inl ⟨by kernel_rfl, ?_⟩) HF0.out ?_
        rotate_left
        · first | (intro w hw; obtain ⟨q1, q2, q3⟩ := hw; go_simp; done) | (intro w hw; obtain ⟨q1, q2, q3⟩ := hw; go_simp; with_reducible rfl)
        refine wpAnyK_one (i := 9) (by kernel_rfl) rfl (fun KK hKK => ?_)
        go_simp
        refine hKK.out _ _ (fun _ => HFA.out _) ?_
        clear hKK KK
        refine wpAnyK_one (i := 10) (by kernel_rfl) rfl (fun KK hKK => ?_)
        refine step_push rfl _ _ 23 rfl pushI64 HSD.out 0 rfl (by kernel_rfl) (by kernel_rfl) rfl hkk (by omega) hbs ?_
        rintro v' w4 hS4 -
        refine hKK.out _ _ (fun h => by cases h) ?_
        clear hKK KK
        refine wpAnyK_one (i := 11) (by kernel_rfl) rfl (fun KK hKK => ?_)
        go_simp
        refine hKK.out _ _ (fun h => by cases h) ?_
        clear hKK KK
        refine wpAnyK_done (by kernel_rfl) ?_ _
        refine NoPanic.normal ?_
        rw [← HTK.out] at hS4
        have HS4 := Box.mk hS4
        clear hS4
        go_wp2_with fail
        go_roundw
        case rel => exact ⟨k + 1, hlt, by go_num, HS4⟩
        case measure => simp [intOf]; omega
      · obtain rfl : k = l.length + 1 := by omega
        have HTT := Box.mk (show G.take (l.length + 1) = G by rw [← HGL.out, List.take_length])
        go_wp2_with fail
        go_ret2
        refine ⟨HBR.out, _, by rw [HC.out]; rfl, ?_⟩
        have := row_intsI (hsep.out.row 0 rfl) (by rw [List.length_map, HTT.out, HGL.out])
        rw [HTT.out] at this
        rw [HR.out, if_pos rfl]
        unfold fitsM
        rw [Int.toNat_natCast, HGE.out]
        exact this
end Go.Proofs.YtjemdepcaaadiaaGreatDoor

/- PLAIN. Which states of a machine are reached; of rules' machine: all. Nothing of any program. -/
namespace Go.Proofs.YtjemdepcaaadiaaGreatDoor.D

def addOne (t : List Nat) (x : Nat) : List Nat := if x ∈ t then t else t ++ [x]
def addAll (t r : List Nat) : List Nat := r.foldl addOne t
/-- what is to be looked at behind k rounds -/
def reach (next : List (List Nat)) : Nat → List Nat
  | 0 => [0]
  | k + 1 => match (reach next k)[k]? with
    | none => reach next k
    | some s => addAll (reach next k) (next.getD s [])
theorem addAll_snoc (t r : List Nat) (x : Nat) : addAll t (r ++ [x]) = addOne (addAll t r) x := by unfold addAll; rw [List.foldl_append]; rfl
theorem addOne_nodup {t : List Nat} (h : t.Nodup) (x : Nat) : (addOne t x).Nodup := by
  unfold addOne
  split
  · exact h
  · rename_i hx
    rw [List.nodup_append]
    exact ⟨h, by simp, fun a ha b hb e => hx (by rw [List.mem_singleton.1 hb] at e; exact e ▸ ha)⟩
theorem addOne_all {p : Nat → Prop} {t : List Nat} (h : ∀ y ∈ t, p y) {x : Nat} (hx : p x) : ∀ y ∈ addOne t x, p y := by
  unfold addOne
  split
  · exact h
  · intro y hy
    rcases List.mem_append.1 hy with h1 | h1
    · exact h y h1
    · rw [List.mem_singleton.1 h1]; exact hx
theorem addAll_nodup : ∀ (r : List Nat) {t : List Nat}, t.Nodup → (addAll t r).Nodup
  | [], _, h => h
  | x :: r, _, h => addAll_nodup r (addOne_nodup h x)
theorem addAll_all {p : Nat → Prop} : ∀ (r : List Nat) {t : List Nat}, (∀ y ∈ t, p y) → (∀ y ∈ r, p y) → ∀ y ∈ addAll t r, p y
  | [], _, h, _ => h
  | x :: r, _, h, hr => addAll_all r (addOne_all h (hr x (List.mem_cons_self ..))) (fun y hy => hr y (List.mem_cons_of_mem _ hy))
theorem addOne_pre (t : List Nat) (x : Nat) : t <+: addOne t x := by unfold addOne; split; exact List.prefix_refl _; exact List.prefix_append _ _
theorem addAll_pre : ∀ (r t : List Nat), t <+: addAll t r
  | [], _ => List.prefix_refl _
  | x :: r, t => (addOne_pre t x).trans (addAll_pre r (addOne t x))
theorem nodup_le : ∀ (N : Nat) (l : List Nat), l.Nodup → (∀ x ∈ l, x < N) → l.length ≤ N
  | 0, l, _, h => by
    cases l with
    | nil => simp
    | cons x t => exact absurd (h x (List.mem_cons_self ..)) (by omega)
  | N + 1, l, hn, h => by
    have ih := nodup_le N (l.erase N) (hn.erase N) (fun x hx => by
      have h1 := (List.Nodup.mem_erase_iff hn).1 hx
      have := h x h1.2
      omega)
    by_cases hm : N ∈ l
    · rw [List.length_erase_of_mem hm] at ih; omega
    · rw [List.erase_of_not_mem hm] at ih; omega
section
variable (next : List (List Nat))
theorem reach_nodup : ∀ k, (reach next k).Nodup
  | 0 => by unfold reach; simp
  | k + 1 => by
    unfold reach
    split
    · exact reach_nodup k
    · exact addAll_nodup _ (reach_nodup k)
theorem reach_all {N : Nat} (hN : 0 < N) (h : ∀ r ∈ next, ∀ x ∈ r, x < N) : ∀ k, ∀ x ∈ reach next k, x < N
  | 0, x, hx => by unfold reach at hx; rw [List.mem_singleton.1 hx]; exact hN
  | k + 1, x, hx => by
    unfold reach at hx
    split at hx
    · exact reach_all hN h k x hx
    · rename_i s _
      refine addAll_all _ (p := fun y => y < N) (reach_all hN h k) (fun y hy => ?_) x hx
      rw [List.getD] at hy
      cases hs : next[s]? with
      | none => rw [hs] at hy; exact absurd hy List.not_mem_nil
      | some r => rw [hs] at hy; exact h r (List.mem_of_getElem? hs) y hy
theorem reach_len {N : Nat} (hN : 0 < N) (h : ∀ r ∈ next, ∀ x ∈ r, x < N) (k : Nat) : (reach next k).length ≤ N := nodup_le N _ (reach_nodup next k) (reach_all next hN h k)
theorem reach_stop {k : Nat} (h : (reach next k).length ≤ k) : ∀ m, reach next (k + m) = reach next k
  | 0 => rfl
  | m + 1 => by
    have ih := reach_stop h m
    rw [← Nat.add_assoc]
    show (match (reach next (k + m))[k + m]? with | none => reach next (k + m) | some s => addAll (reach next (k + m)) (next.getD s [])) = _
    rw [ih, List.getElem?_eq_none (by omega)]
theorem reach_step {k s : Nat} (h : (reach next k)[k]? = some s) : reach next (k + 1) = addAll (reach next k) (next.getD s []) := by
  rw [reach, h]
theorem reach_none {k : Nat} (h : (reach next k)[k]? = none) : reach next (k + 1) = reach next k := by
  rw [reach, h]
theorem reach_pos (k : Nat) : 0 < (reach next k).length := by
  induction k with
  | zero => unfold reach; simp
  | succ k ih =>
    unfold reach
    split
    · exact ih
    · exact Nat.lt_of_lt_of_le ih (addAll_pre _ _).length_le
end

theorem range_snoc_get (L : Nat) : addOne (List.range L) L = List.range (L + 1) := by
  unfold addOne
  rw [if_neg (by simp), List.range_succ]
theorem addAll_row (rs : List Side) (n : Nat) (S : Sets) (t : List Sets) : ∀ k, addAll (List.range t.length) (row rs n S t k).1 = List.range (row rs n S t k).2.length
  | 0 => rfl
  | k + 1 => by
    rw [row_succ]
    simp only
    rw [addAll_snoc, addAll_row rs n S t k]
    generalize (row rs n S t k).2 = t'
    generalize stepAll rs S (cls n k) = s
    by_cases h : s ∈ t'
    · rw [show add t' s = t' by unfold add; rw [if_pos h]]
      unfold addOne
      rw [if_pos (List.mem_range.2 (place_lt h))]
    · rw [show add t' s = t' ++ [s] by unfold add; rw [if_neg h], place_new h, range_snoc_get, List.length_append]
      rfl
section
variable (rs : List Side) (n : Nat)
theorem next_pre (j : Nat) : ∀ m, (build rs n j).next <+: (build rs n (j + m)).next
  | 0 => List.prefix_refl _
  | m + 1 => by
    refine (next_pre j m).trans ?_
    rw [← Nat.add_assoc]
    show (build rs n (j + m)).next <+: ((build rs n (j + m)).go rs n).next
    unfold Bld.go
    split
    · exact List.prefix_refl _
    · exact List.prefix_append _ _
/-- rules' machine numbers its states as they are met -/
theorem reach_build (K : Nat) : ∀ k, k ≤ K → reach (build rs n K).next k = List.range (build rs n k).todo.length
  | 0, _ => by unfold reach; rfl
  | k + 1, hk => by
    have ih := reach_build K k (by omega)
    have hl := build_len rs n k
    have e2 : build rs n (k + 1) = (build rs n k).go rs n := rfl
    rcases Nat.lt_or_ge k (build rs n k).todo.length with h | h
    · have hnl : (build rs n k).next.length = k := by omega
      obtain ⟨S, hS⟩ : ∃ S, (build rs n k).todo[(build rs n k).next.length]? = some S := ⟨_, List.getElem?_eq_getElem (by rw [hnl]; exact h)⟩
      have hg := go_some rs n hS
      rw [reach_step _ (s := k) (by rw [ih, List.getElem?_range h]), ih, e2, hg]
      simp only
      have hpre := next_pre rs n (k + 1) (K - (k + 1))
      rw [show k + 1 + (K - (k + 1)) = K by omega, e2, hg] at hpre
      have hrow : (build rs n K).next[k]? = some (row rs n S (build rs n k).todo (n + 1)).1 := by
        refine pre_get hpre ?_
        simp only
        rw [List.getElem?_append_right (by omega), hnl, Nat.sub_self]
        rfl
      rw [show (build rs n K).next.getD k [] = (row rs n S (build rs n k).todo (n + 1)).1 by rw [List.getD, hrow]; rfl]
      exact addAll_row rs n S _ (n + 1)
    · have hst : (build rs n k).todo.length ≤ (build rs n k).next.length := by omega
      have hgo : (build rs n k).go rs n = build rs n k := go_none rs n hst
      rw [e2, hgo, ← ih]
      exact reach_none _ (by rw [ih, List.getElem?_eq_none (by rw [List.length_range]; exact h)])
theorem row_lt {S : Sets} {t : List Sets} : ∀ k, ∀ x ∈ (row rs n S t k).1, x < (row rs n S t k).2.length
  | 0, x, h => absurd h List.not_mem_nil
  | k + 1, x, h => by
    rw [row_succ] at h ⊢
    simp only at h ⊢
    rcases List.mem_append.1 h with h1 | h1
    · exact Nat.lt_of_lt_of_le (row_lt k x h1) (add_le _ _)
    · rw [List.mem_singleton.1 h1]; exact (place_add _ _).1
theorem build_lt : ∀ k, (∀ r ∈ (build rs n k).next, ∀ x ∈ r, x < (build rs n k).todo.length) ∧ ∀ f ∈ (build rs n k).fits, f < 2 ^ rs.length
  | 0 => ⟨fun r h => absurd h List.not_mem_nil, fun f h => absurd h List.not_mem_nil⟩
  | k + 1 => by
    obtain ⟨h1, h2⟩ := build_lt k
    have e2 : build rs n (k + 1) = (build rs n k).go rs n := rfl
    rw [e2]
    unfold Bld.go
    split
    · exact ⟨h1, h2⟩
    · rename_i S hS
      simp only
      refine ⟨fun r hr x hx => ?_, fun f hf => ?_⟩
      · rcases List.mem_append.1 hr with h | h
        · exact Nat.lt_of_lt_of_le (h1 r h x hx) (row_pre (rs := rs) (n := n) (S := S) (t := (build rs n k).todo) (n + 1)).length_le
        · rw [List.mem_singleton.1 h] at hx
          exact row_lt rs n (n + 1) x hx
      · rcases List.mem_append.1 hf with h | h
        · exact h2 f h
        · rw [List.mem_singleton.1 h]; exact doneTo_lt rs S rs.length
end
end Go.Proofs.YtjemdepcaaadiaaGreatDoor.D

/- THE LAWS OF LAYER 12, WALKED: rules' machines. -/
namespace Go.Proofs.YtjemdepcaaadiaaGreatDoor
open Go.RowKit Go.Shelf
attribute [local go_sem] Oper.semAt_some

theorem few12_len (l : List D.Rule) : (few12 l).length ≤ 6 := by unfold few12; rw [List.length_take]; omega
theorem few12_fit (l : List D.Rule) : ∀ x ∈ few12 l, ruleFit x := by
  intro x hx
  unfold few12 few11 at hx
  obtain ⟨y, -, rfl⟩ := List.mem_map.1 (List.mem_of_mem_take hx)
  unfold ruleFit cutR
  simp only [List.length_take]
  omega
theorem build_rows (sd : List D.Side) (n : Nat) : ∀ k, ∀ r ∈ (D.build sd n k).next, r.length = n + 1
  | 0, r, h => absurd h List.not_mem_nil
  | k + 1, r, h => by
    have e : D.build sd n (k + 1) = (D.build sd n k).go sd n := rfl
    rw [e] at h
    unfold D.Bld.go at h
    split at h
    · exact build_rows sd n k r h
    · rcases List.mem_append.1 h with h | h
      · exact build_rows sd n k r h
      · rw [List.mem_singleton.1 h, D.row_len]
theorem compM_fit (rs : List D.Rule) (n : Int) : MachFit (compM rs n) := by
  unfold compM
  split
  · rename_i h
    rw [Bool.and_eq_true] at h
    obtain ⟨h1, h2, h3, -⟩ := rulesB_parts h.1
    have hf : (D.build (lefts rs) n.toNat 300).todo.length ≤ 300 := of_decide_eq_true h.2
    have hl := D.build_len (lefts rs) n.toNat 300
    have hr := build_rows (lefts rs) n.toNat 300
    unfold machOf machB MachFit
    generalize D.build (lefts rs) n.toNat 300 = BB at *
    refine ⟨by simp only [List.length_map]; omega, by simp only [List.length_map]; omega, fun r hr' => ?_⟩
    obtain ⟨r0, h5, rfl⟩ := List.mem_map.1 hr'
    rw [List.length_map, hr r0 h5]
    omega
  · exact ⟨by decide, by decide, fun r hr => absurd hr List.not_mem_nil⟩

end Go.Proofs.YtjemdepcaaadiaaGreatDoor

/- A MACHINE CUT, numbers cut: the laws' Table and list (layer 12). -/
namespace Go.Proofs.YtjemdepcaaadiaaGreatDoor
open Go.RowKit Go.Shelf
attribute [local go_sem] Oper.semAt_some

theorem ints_take {w : World} {ao : Option Addr} {cap : Nat} {xs : List Int} (h : IntsAt w (.slice ao xs.length cap) xs) (n : Nat) : IntsAt w (.slice ao (xs.take n).length cap) (xs.take n) := by
  rcases h with ⟨h1, rfl⟩ | ⟨b, off, sp, cap, h1, h2, h3, h4⟩
  · injection h1 with h1 h2 h3
    subst h1 h3
    simp [IntsAt]
  · injection h1 with h1 h2' h3'
    subst h1 h3'
    refine .inr ⟨b, off, sp, _, rfl, by rw [List.length_take]; omega, h3, fun hn => ?_⟩
    have hn' : xs ≠ [] := by rintro rfl; simp at hn
    refine ⟨(h4 hn').1, (h4 hn').2.1, fun i x hx => (h4 hn').2.2 i x ?_⟩
    rw [List.getElem?_take] at hx
    split at hx
    · exact hx
    · cases hx
theorem ints_cap {w : World} {ao : Option Addr} {cap n : Nat} {xs : List Int} (h : IntsAt w (.slice ao n cap) xs) : xs.length ≤ cap ∧ cap ≤ 9223372036854775807 := by
  rcases h with ⟨h1, rfl⟩ | ⟨b, off, sp, cap, h1, h2, h3, h4⟩
  · injection h1 with h1 h2 h3; subst h3; simp
  · injection h1 with h1 h2' h3'; subst h3'; unfold maxLen at h3; omega
def list12 (l : List Int) : List Int := l.take 30
def tableM (M : D.Mach) : D.Mach := ((M.1.take 302).map fun r => r.take 34, M.2.take 302)
theorem tableM_fit (M : D.Mach) : MachFit (tableM M) := by
  unfold tableM MachFit
  refine ⟨by simp only [List.length_map, List.length_take]; omega, by simp only [List.length_take]; omega, fun r hr => ?_⟩
  obtain ⟨r0, -, rfl⟩ := List.mem_map.1 hr
  rw [List.length_take]
  omega
theorem rows_own {W : World} {base n : Nat} {T : TypeId} {v : Value} {vs : List Value} {L : List (List Int)} (h : W.ownsRow base T 1 v n vs) (hn : n = L.length) (hV : ∀ (i : Nat) (r : List Int), L[i]? = some r → ∃ x, vs[i]? = some x ∧ IntsAt W x r) : RowsAt W v L := by
  subst hn
  rcases h.2 with ⟨h1, h2⟩ | ⟨g, cap, cur, h1, h2, h3, h4, h5, h6, h7⟩
  · rw [List.eq_nil_of_length_eq_zero h2]; exact .inl ⟨h1, rfl⟩
  · refine .inr ⟨g, 0, none, cap, h1, h4, h5, fun hn => ⟨rfl, (Array.getElem?_eq_some_iff.1 h3).1, fun i r hr => ?_⟩⟩
    obtain ⟨x, hx, hi⟩ := hV i r hr
    refine ⟨x, ?_, hi⟩
    have h8 := h.cells (g := g) (by rw [h1]; rfl) i x hx
    rw [show (⟨g, 0, none⟩ : Addr).add i = ⟨g, 0 + i, none⟩ by unfold Addr.add; split <;> simp_all] at h8
    exact h8

theorem list12_any (v : Value) (l : List Int) (w : World) (hv : IntsAt w v l) :
    Calls Tryz.prog 7 #[v] w fun e w' => (∃ v', e = .returned v' ∧ IntsAt w v' (list12 l)) ∧ w = w' := by
  obtain ⟨ao, cap, rfl⟩ := hv.slice
  obtain ⟨hc1, hc2⟩ := ints_cap hv
  have HT := Box.mk (ints_take hv 30)
  clear hv
  unfold list12
  rcases Nat.lt_or_ge 30 l.length with h | h
  · go_enter Tryz.func7, Tryz.ntmps7
    go_wp2_with fail
    go_ret
    refine ⟨⟨_, rfl, ?_⟩, rfl⟩
    have := HT.out
    rw [show (l.take 30).length = 30 by rw [List.length_take]; omega] at this
    exact this
  · go_enter Tryz.func7, Tryz.ntmps7
    go_wp2_with fail
    go_ret
    refine ⟨⟨_, rfl, ?_⟩, rfl⟩
    have := HT.out
    rw [List.take_of_length_le h] at this ⊢
    exact this

/-- rows with their values, that can be read -/
def RowsV (W : World) (vs : List Value) (L : List (List Int)) : Prop := vs.length = L.length ∧ ∀ (i : Nat) (r : List Int), L[i]? = some r → ∃ x, vs[i]? = some x ∧ IntsAt W x r
theorem RowsV.snoc {W : World} {vs : List Value} {L : List (List Int)} (h : RowsV W vs L) {x : Value} {r : List Int} (hx : IntsAt W x r) : RowsV W (vs ++ [x]) (L ++ [r]) := by
  refine ⟨by rw [List.length_append, List.length_append, h.1]; rfl, fun i q hq => ?_⟩
  rcases Nat.lt_or_ge i L.length with hl | hl
  · rw [List.getElem?_append_left hl] at hq
    obtain ⟨y, hy, h2⟩ := h.2 i q hq
    exact ⟨y, by rw [List.getElem?_append_left (by rw [h.1]; exact hl)]; exact hy, h2⟩
  · rw [List.getElem?_append_right hl] at hq
    have hi0 : i - L.length = 0 := by have := (List.getElem?_eq_some_iff.1 hq).1; simp at this; omega
    rw [hi0] at hq
    simp only [List.getElem?_cons_zero, Option.some.injEq] at hq
    subst hq
    exact ⟨x, by rw [List.getElem?_append_right (by rw [h.1]; exact hl), h.1, hi0]; rfl, hx⟩
def cutRow (r : List Int) : List Int := r.take 34

set_option maxRecDepth 100000 in
set_option maxHeartbeats 8000000 in
theorem table_any (v : Value) (M : D.Mach) (w : World) (hv : MachAt w v M) :
    Calls Tryz.prog 6 #[v] w fun e w' => Below w.heap.size w w' ∧ ∃ nv fv, e = .returned (.agg #[nv, fv]) ∧ (∀ g, nv.ownBlock = some g → w.heap.size ≤ g) ∧ RowsAt w' nv (tableM M).1 ∧ IntsAt w' fv (tableM M).2 := by
  obtain ⟨na, fa, rfl, hra, hia⟩ := hv
  have HRA := Box.mk hra
  obtain ⟨aa, ca, rfl⟩ := hra.slice
  obtain ⟨fo, fc, rfl⟩ := hia.slice
  obtain ⟨hf1, hf2⟩ := ints_cap hia
  have HFT := Box.mk (ints_take hia 302)
  obtain ⟨nf, hnf⟩ : ∃ nf, (M.2.take 302).length = nf := ⟨_, rfl⟩
  have HNF := Box.mk (show nf = min 302 M.2.length by rw [← hnf, List.length_take])
  rw [hnf] at HFT
  have HNFE := Box.mk hnf
  obtain ⟨m, hm⟩ : ∃ m, m = min M.1.length 302 := ⟨_, rfl⟩
  have HM := Box.mk hm
  have hm1 : m ≤ M.1.length := by omega
  have hm2 : m ≤ 302 := by omega
  obtain ⟨w3, hw3⟩ : ∃ w3, w3 = ((w.alloc (.cells #[.slice aa M.1.length ca, .slice fo M.2.length fc] 25)).alloc (.cells #[.slice none 0 0, .slice none 0 0] 25)).alloc (.cells #[.slice none 0 0, .slice fo nf fc] 25) := ⟨_, rfl⟩
  have HS3 := Box.mk (show ∃ vs, RowsV w vs ((M.1.take 0).map cutRow) ∧ Sep [Pc.row w.heap.size 26 1 (.slice none 0 0) 0 vs, Pc.blk (w.heap.size + 1 + 1) 25 #[.slice none 0 0, .slice fo nf fc], Pc.blk (w.heap.size + 1) 25 #[.slice none 0 0, .slice none 0 0], Pc.blk w.heap.size 25 #[.slice aa M.1.length ca, .slice fo M.2.length fc], Pc.old w.heap.size w] w3 by
    have h1 := (((Sep.start w).alloc_blk 25 #[.slice aa M.1.length ca, .slice fo M.2.length fc]).alloc_blk 25 #[.slice none 0 0, .slice none 0 0]).alloc_blk 25 #[.slice none 0 0, .slice fo nf fc]
    refine ⟨[], ⟨rfl, fun i r h => by simp at h⟩, ?_⟩
    rw [hw3]
    have h2 := h1.nil_row w.heap.size 1 26
    simpa using h2)
  have HW3 := Box.mk hw3
  clear hra hia hm hnf hw3
  go_enter Tryz.func6, Tryz.ntmps6
  rcases (show (302 < M.2.length ∧ nf = 302) ∨ (M.2.length ≤ 302 ∧ nf = M.2.length) by have := HNF.out; omega) with ⟨hq, hq2⟩ | ⟨hq, hq2⟩
  all_goals
    have hw3 := HW3.out
    go_upto_region 2 with (fail)
    first | rw [hq2] at hw3 | skip
    rw [← hw3]
    clear hw3 hq hq2
    go_wp2_with fail
    go_loopw [4] (fun i wr => ∃ k : Nat, k ≤ m ∧ i = .int .i64 k ∧ Box (∃ nv vs, RowsV w vs ((M.1.take k).map cutRow) ∧ Sep [Pc.row w.heap.size 26 1 nv k vs, Pc.blk (w.heap.size + 1 + 1) 25 #[nv, .slice fo nf fc], Pc.blk (w.heap.size + 1) 25 #[.slice none 0 0, .slice none 0 0], Pc.blk w.heap.size 25 #[.slice aa M.1.length ca, .slice fo M.2.length fc], Pc.old w.heap.size w] wr)) (fun i _ => m - (intOf i).toNat)
    case atStart => obtain ⟨vs, h1, h2⟩ := HS3.out; exact ⟨0, by omega, rfl, ⟨_, vs, h1, h2⟩⟩
    case round =>
      obtain ⟨k, hk, rfl, hbox⟩ := hrel
      obtain ⟨nv, vs, hvs, hsep⟩ := hbox.out
      have HVS := Box.mk hvs
      have HSEP := Box.mk hsep
      have HBR := Box.mk (show Below w.heap.size w wr from hsep.bel (by simp))
      obtain ⟨no, nc, rfl, hn1, hn2⟩ := own_shape (hsep.row 0 rfl)
      have HG3 := Box.mk (hsep.blk 1 rfl)
      have HG2 := Box.mk (hsep.blk 2 rfl)
      have HG1 := Box.mk (hsep.blk 3 rfl)
      have g1 : wr.cell? ⟨w.heap.size, 0, none⟩ = some (.slice aa M.1.length ca) := (HG1.out.cell 0).trans rfl
      have l1 := HG1.out.lt
      clear hvs hsep hbox
      by_cases hlt : k < m
      · obtain ⟨x, hx⟩ : ∃ x, M.1[k]? = some x := ⟨_, List.getElem?_eq_getElem (by omega)⟩
        obtain ⟨pa, oa, ca', ha0, ha1, ha2, ha3, ha4⟩ := HRA.out.get (by intro e; rw [e] at hx; simp at hx)
        obtain ⟨rfl, rfl⟩ : aa = some ⟨pa, oa, none⟩ ∧ ca = ca' := by injection ha0 with h1 h2 h3; exact ⟨h1, h3⟩
        obtain ⟨xv, hxc, hxi⟩ := ha4 k x hx
        obtain ⟨xo, xc, rfl⟩ := hxi.slice
        obtain ⟨hx1, hx2⟩ := ints_cap hxi
        have HXT := Box.mk (ints_take hxi 34)
        obtain ⟨q, hq⟩ : ∃ q, (x.take 34).length = q := ⟨_, rfl⟩
        have HQ := Box.mk (show q = min 34 x.length by rw [← hq, List.length_take])
        rw [hq] at HXT
        have HTK := Box.mk (take_snoc'' M.1 k x hx)
        have HFF := Box.mk (show ∀ W, Below wr.heap.size wr W → W.cell? ⟨w.heap.size + 1 + 1, 0, none⟩ = some (.slice no k nc) ∧ W.cell? ⟨w.heap.size, 0, none⟩ = some (.slice (some ⟨pa, oa, none⟩) M.1.length ca) ∧ W.cell? ⟨pa, oa + k, none⟩ = some (.slice xo x.length xc) from fun W h =>
          ⟨((HG3.out.below h HG3.out.lt).cell 0).trans rfl, ((HG1.out.below h HG1.out.lt).cell 0).trans rfl, ((HBR.out.trans (h.mono HBR.out.size)).cell (p := ⟨pa, oa + k, none⟩) ha3).trans hxc⟩)
        have HBD := Box.mk (show Below wr.heap.size wr wr.drew from ⟨rfl, rfl, rfl, Nat.le_refl _, fun _ _ => rfl⟩)
        have HSD := Box.mk HSEP.out.drew
        have hbsd : w.heap.size ≤ wr.drew.heap.size := HBR.out.size
        have hk302 : k < 302 := by omega
        have hkl : k < M.1.length := by omega
        have hkc : k < ca := by omega
        have l3 := HG3.out.lt
        unfold maxLen at ha2
        clear ha0 ha4 hx hxc hxi hq
        go_wp2_with fail
        rcases (show ((34 : Int) < (x.length : Int) ∧ (34 : Int) ≤ (xc : Int) ∧ q = 34) ∨ (¬ (34 : Int) < (x.length : Int) ∧ (x.length : Int) ≤ (xc : Int) ∧ q = x.length) by have := HQ.out; omega) with ⟨hq1, hq3, rfl⟩ | ⟨hq1, hq3, rfl⟩
        all_goals
          refine wp_region_K 16 (fun W => W.cell? ⟨w.heap.size + 1 + 1, 0, none⟩ = some (.slice no k nc) ∧ W.cell? ⟨w.heap.size, 0, none⟩ = some (.slice (some ⟨pa, oa, none⟩) M.1.length ca) ∧ W.cell? ⟨pa, oa + k, none⟩ = some (.slice xo x.length xc)) (by kernel_rfl) ?_
          have HF0 := Box.mk (HFF.out _ HBD.out)
          have HFA := Box.mk (fun o => HFF.out _ (HBD.out.alloc HBD.out.size o))
          generalize wr.drew = WR at *
          refine wpAnyK_take (i := 0) (v := ?_) rfl (by kernel_rfl) (fun _ _ _ h => h) (Or.inl ⟨by kernel_rfl, ?_⟩) HF0.out ?_
          rotate_left
          · first | (intro w hw; obtain ⟨q1, q2, q3⟩ := hw; go_simp; done) | (intro w hw; obtain ⟨q1, q2, q3⟩ := hw; go_simp; with_reducible rfl)
          refine wpAnyK_take (i := 1) (v := ?_) rfl (by kernel_rfl) (fun _ _ _ h => h) (Or.inl ⟨by kernel_rfl, ?_⟩) HF0.out ?_
          rotate_left
          · first | (intro w hw; obtain ⟨q1, q2, q3⟩ := hw; go_simp; done) | (intro w hw; obtain ⟨q1, q2, q3⟩ := hw; go_simp; with_reducible rfl)
          refine wpAnyK_take (i := 2) (v := ?_) rfl (by kernel_rfl) (fun _ _ _ h => h) (Or.inl ⟨by kernel_rfl, ?_⟩) HF0.out ?_
          rotate_left
          · first | (intro w hw; obtain ⟨q1, q2, q3⟩ := hw; go_simp; done) | (intro w hw; obtain ⟨q1, q2, q3⟩ := hw; go_simp; with_reducible rfl)
          refine wpAnyK_take (i := 3) (v := ?_) rfl (by kernel_rfl) (fun _ _ _ h => h) (Or.inl ⟨by kernel_rfl, ?_⟩) HF0.out ?_
          rotate_left
          · first | (intro w hw; obtain ⟨q1, q2, q3⟩ := hw; go_simp; done) | (intro w hw; obtain ⟨q1, q2, q3⟩ := hw; go_simp; with_reducible rfl)
          refine wpAnyK_take (i := 4) (v := ?_) rfl (by kernel_rfl) (fun _ _ _ h => h) (Or.inl ⟨by kernel_rfl, ?_⟩) HF0.out ?_
          rotate_left
          · first | (intro w hw; obtain ⟨q1, q2, q3⟩ := hw; go_simp; done) | (intro w hw; obtain ⟨q1, q2, q3⟩ := hw; go_simp; with_reducible rfl)
          refine wpAnyK_take (i := 5) (v := ?_) rfl (by kernel_rfl) (fun _ _ _ h => h) (Or.inl ⟨by kernel_rfl, ?_⟩) HF0.out ?_
          rotate_left
          · first | (intro w hw; obtain ⟨q1, q2, q3⟩ := hw; go_simp; done) | (intro w hw; obtain ⟨q1, q2, q3⟩ := hw; go_simp; with_reducible rfl)
          refine wpAnyK_take (i := 6) (v := ?_) rfl (by kernel_rfl) (fun _ _ _ h => h) (Or.inl ⟨by kernel_rfl, ?_⟩) HF0.out ?_
          rotate_left
          · first | (intro w hw; obtain ⟨q1, q2, q3⟩ := hw; go_simp; done) | (intro w hw; obtain ⟨q1, q2, q3⟩ := hw; go_simp; with_reducible rfl)
          refine wpAnyK_take (i := 7) (v := ?_) rfl (by kernel_rfl) (fun _ _ _ h => h) (Or.inl ⟨by kernel_rfl, ?_⟩) HF0.out ?_
          rotate_left
          · first | (intro w hw; obtain ⟨q1, q2, q3⟩ := hw; go_simp; done) | (intro w hw; obtain ⟨q1, q2, q3⟩ := hw; go_simp; with_reducible rfl)
          refine wpAnyK_take (i := 8) (v := ?_) rfl (by kernel_rfl) (fun _ _ _ h => h) (Or.inl ⟨by kernel_rfl, ?_⟩) HF0.out ?_
          rotate_left
          · first | (intro w hw; obtain ⟨q1, q2, q3⟩ := hw; go_simp; done) | (intro w hw; obtain ⟨q1, q2, q3⟩ := hw; go_simp; with_reducible rfl)
          refine wpAnyK_take (i := 9) (v := ?_) rfl (by kernel_rfl) (fun _ _ _ h => h) (Or.inl ⟨by kernel_rfl, ?_⟩) HF0.out ?_
          rotate_left
          · first | (intro w hw; obtain ⟨q1, q2, q3⟩ := hw; go_simp; done) | (intro w hw; obtain ⟨q1, q2, q3⟩ := hw; go_simp; with_reducible rfl)
          refine wpAnyK_take (i := 10) (v := ?_) rfl (by kernel_rfl) (fun _ _ _ h => h) (Or.inl ⟨by kernel_rfl, ?_⟩) HF0.out ?_
          rotate_left
          · first | (intro w hw; obtain ⟨q1, q2, q3⟩ := hw; go_simp; done) | (intro w hw; obtain ⟨q1, q2, q3⟩ := hw; go_simp; with_reducible rfl)
          refine wpAnyK_take (i := 11) (v := ?_) rfl (by kernel_rfl) (fun _ _ _ h => h) (Or.inl ⟨by kernel_rfl, ?_⟩) HF0.out ?_
          rotate_left
          · first | (intro w hw; obtain ⟨q1, q2, q3⟩ := hw; go_simp; done) | (intro w hw; obtain ⟨q1, q2, q3⟩ := hw; go_simp; with_reducible rfl)
          refine wpAnyK_take (i := 12) (v := ?_) rfl (by kernel_rfl) (fun _ _ _ h => h) (Or.inl ⟨by kernel_rfl, ?_⟩) HF0.out ?_
          rotate_left
          · first | (intro w hw; obtain ⟨q1, q2, q3⟩ := hw; go_simp; done) | (intro w hw; obtain ⟨q1, q2, q3⟩ := hw; go_simp; with_reducible rfl)
          refine wpAnyK_take (i := 13) (v := ?_) rfl (by kernel_rfl) (fun _ _ _ h => h) (Or.inl ⟨by kernel_rfl, ?_⟩) HF0.out ?_
          rotate_left
          · first | (intro w hw; obtain ⟨q1, q2, q3⟩ := hw; go_simp; done) | (intro w hw; obtain ⟨q1, q2, q3⟩ := hw; go_simp; with_reducible rfl)
          refine wpAnyK_take (i := 14) (v := ?_) rfl (by kernel_rfl) (fun _ _ _ h => h) (Or.inl ⟨by kernel_rfl, ?_⟩) HF0.out ?_
          rotate_left
          · first | (intro w hw; obtain ⟨q1, q2, q3⟩ := hw; go_simp; done) | (intro w hw; obtain ⟨q1, q2, q3⟩ := hw; go_simp; with_reducible rfl)
          refine wpAnyK_one (i := 15) (by kernel_rfl) rfl (fun KK hKK => ?_)
          go_simp
          refine hKK.out _ _ (fun _ => HFA.out _) ?_
          clear hKK KK
          refine wpAnyK_one (i := 16) (by kernel_rfl) rfl (fun KK hKK => ?_)
          refine step_push rfl _ _ 22 rfl pushRowsInt HSD.out 0 rfl (by kernel_rfl) (by kernel_rfl) rfl (by omega) (by omega) hbsd ?_
          rintro v' w9 hS9 ⟨g9, c9, rfl, h91, h92⟩
          refine hKK.out _ _ (fun h => by cases h) ?_
          clear hKK KK
          have HB9 := Box.mk (hS9.blk 1 rfl)
          have z0 := (HB9.out.cell 0).trans (show _ = some (Value.slice no k nc) from rfl)
          have z1 := HB9.out.frozen 0
          have z2 := HB9.out.lt
          have HS10 := Box.mk (hS9.set 1 rfl 0 (.slice (some ⟨g9, 0, none⟩) (k + 1) c9))
          clear hS9
          refine wpAnyK_one (i := 17) (by kernel_rfl) rfl (fun KK hKK => ?_)
          go_simp
          refine hKK.out _ _ (fun h => by cases h) ?_
          clear hKK KK
          refine wpAnyK_one (i := 18) (by kernel_rfl) rfl (fun KK hKK => ?_)
          go_simp
          refine hKK.out _ _ (fun h => by cases h) ?_
          clear hKK KK
          refine wpAnyK_done (by kernel_rfl) ?_ _
          refine NoPanic.normal ?_
          have HN := Box.mk (show ∃ nv vs, RowsV w vs ((M.1.take (k + 1)).map cutRow) ∧ Sep [Pc.row w.heap.size 26 1 nv (k + 1) vs, Pc.blk (w.heap.size + 1 + 1) 25 #[nv, .slice fo nf fc], Pc.blk (w.heap.size + 1) 25 #[.slice none 0 0, .slice none 0 0], Pc.blk w.heap.size 25 #[.slice (some ⟨pa, oa, none⟩) M.1.length ca, .slice fo M.2.length fc], Pc.old w.heap.size w] _ by
            refine ⟨_, _, ?_, HS10.out⟩
            rw [HTK.out, List.map_append]
            exact HVS.out.snoc HXT.out)
          go_wp2_with fail
          go_roundw
          case rel => exact ⟨k + 1, hlt, by go_num, HN⟩
          case measure => simp [intOf]; omega
      · have hkm : k = m := by omega
        have HKM := Box.mk hkm
        have hd : M.1.length ≤ k ∨ (k < M.1.length ∧ 302 ≤ k) := by have := HM.out; omega
        have z0 : wr.cell? ⟨w.heap.size + 1 + 1, 0, none⟩ = some (.slice no k nc) := (HG3.out.cell 0).trans rfl
        have z1 : wr.cell? ⟨w.heap.size + 1 + 1, 1, none⟩ = some (.slice fo nf fc) := (HG3.out.cell 1).trans rfl
        have z2 := HG3.out.lt
        have y0 := (HG2.out.cell 0).trans (show _ = some (Value.slice none 0 0) from rfl)
        have y1 := (HG2.out.cell 1).trans (show _ = some (Value.slice none 0 0) from rfl)
        have f0 := HG2.out.frozen 0
        have f1 := HG2.out.frozen 1
        have y2 := HG2.out.lt
        have HS9 := Box.mk ((HSEP.out.set 2 rfl 0 (.slice no k nc)).set 2 rfl 1 (.slice fo nf fc))
        have HTM := Box.mk (show (M.1.take k).map cutRow = (tableM M).1 by
          unfold tableM
          simp only
          rw [HKM.out, HM.out]
          rcases Nat.le_total M.1.length 302 with h | h
          · rw [Nat.min_eq_left h, List.take_length, List.take_of_length_le h]; rfl
          · rw [Nat.min_eq_right h]; rfl)
        have HKL := Box.mk (show k = ((M.1.take k).map cutRow).length by rw [List.length_map, List.length_take]; have := HM.out; omega)
        clear hkm
        rcases hd with hd | ⟨hd, hd2⟩
        all_goals
          go_wp2_with fail
          have hb9 := HS9.out.bel (n := w.heap.size) (W0 := w) (by simp)
          refine bodyPost_ret (v := .agg #[.slice no k nc, .slice fo nf fc]) (results_cell_row Tryz.results6 _ _ (w.heap.size + 1) 25 _ (0, 0) _ rfl (HS9.out.blk 2 rfl) Tryz.underlying25 rfl machInfo) rfl ⟨hb9, _, _, rfl, fun g hg => ((HS9.out.row 0 rfl).lt g hg).1, ?_, ?_⟩
          · rw [← HTM.out]
            exact rows_own (HS9.out.row 0 rfl) HKL.out (fun i r hr => by
              obtain ⟨x, hx, hi⟩ := HVS.out.2 i r hr
              exact ⟨x, hx, hi.below hb9⟩)
          · exact HFT.out.below hb9
end Go.Proofs.YtjemdepcaaadiaaGreatDoor

/- TWO MACHINES COMPARED BY THE PROGRAM. -/
namespace Go.Proofs.YtjemdepcaaadiaaGreatDoor
open Go.RowKit Go.Shelf
attribute [local go_sem] Oper.semAt_some

set_option maxRecDepth 100000 in
set_option maxHeartbeats 4000000 in
theorem eqfunc_any (a b : Value) (xs ys : List (List Int)) (w : World) (ha : RowsAt w a xs) (hb : RowsAt w b ys) (hx : ∀ r ∈ xs, r.length ≤ 1000) (hy : ∀ r ∈ ys, r.length ≤ 1000) (hz : xs.length ≤ 1000) :
    Calls Tryz.prog 32 #[a, b, .func (.func 33) #[] #[]] w fun e w' => e = .returned (.bool (decide (xs = ys))) ∧ Below w.heap.size w w' := by
  have HA := Box.mk ha
  have HB := Box.mk hb
  have HXF := Box.mk hx
  have HYF := Box.mk hy
  obtain ⟨aa, ca, rfl⟩ := ha.slice
  obtain ⟨ab, cb, rfl⟩ := hb.slice
  clear ha hb hx hy
  by_cases hlen : xs.length = ys.length
  · have HLEN := Box.mk hlen
    rw [← hlen]
    rw [← hlen] at HB
    clear hlen
    go_enter Tryz.func32, Tryz.ntmps32
    go_wp2_with fail
    go_loopw [17] (fun i wr => ∃ k : Nat, k ≤ xs.length ∧ i = .int .i64 k ∧ Box (xs.take k = ys.take k) ∧ Box (Below w.heap.size w wr)) (fun i _ => xs.length - (intOf i).toNat)
    case atStart => exact ⟨0, by omega, rfl, ⟨rfl⟩, ⟨Below.refl _ _⟩⟩
    case round =>
      obtain ⟨k, hk, rfl, hE, hbr⟩ := hrel
      by_cases hlt : k < xs.length
      · obtain ⟨x, hx⟩ : ∃ x, xs[k]? = some x := ⟨_, List.getElem?_eq_getElem hlt⟩
        obtain ⟨y, hy⟩ : ∃ y, ys[k]? = some y := ⟨_, List.getElem?_eq_getElem (by rw [← HLEN.out]; exact hlt)⟩
        obtain ⟨pa, oa, ca', ha0, ha1, ha2, ha3, ha4⟩ := (HA.out.below hbr.out).get (by rintro rfl; simp at hlt)
        obtain ⟨rfl, rfl⟩ : aa = some ⟨pa, oa, none⟩ ∧ ca = ca' := by injection ha0 with h1 h2 h3; exact ⟨h1, h3⟩
        have hB' := HB.out.below hbr.out
        rw [HLEN.out] at hB'
        obtain ⟨pb, ob, cb', hb0, hb1, hb2, hb3, hb4⟩ := hB'.get (by rintro rfl; simp at hy)
        obtain ⟨rfl, rfl⟩ : ab = some ⟨pb, ob, none⟩ ∧ cb = cb' := by injection hb0 with h1 h2 h3; exact ⟨h1, h3⟩
        obtain ⟨xv, hxc, hxi⟩ := ha4 k x hx
        obtain ⟨yv, hyc, hyi⟩ := hb4 k y hy
        have HX := Box.mk hx
        have HY := Box.mk hy
        have HIE := Box.mk (sleqint xv yv x y wr hxi hyi (by have := HXF.out x (List.mem_of_getElem? hx); omega) (by have := HYF.out y (List.mem_of_getElem? hy); omega))
        unfold maxLen at ha2 hb2
        have hltc : k < ca := by omega
        have hltd : k < cb := by rw [← HLEN.out] at hb1; omega
        clear ha0 ha4 hb0 hb4 hx hy hxi hyi hB'
        by_cases hxy : x = y
        · subst hxy
          have HQ := Box.mk (show decide (x = x) = true by simp)
          go_wp2_with (go_at_call 33; refine HIE.out.mono ?_; rintro e w7 ⟨rfl, hb7⟩; rw [HQ.out])
          go_roundw
          case rel => exact ⟨k + 1, hlt, by go_num, ⟨rows_take_step hE.out HX.out HY.out⟩, ⟨hbr.out.trans (hb7.mono hbr.out.size)⟩⟩
          case measure => simp [intOf]; omega
        · have HQ := Box.mk (show decide (x = y) = false by simpa using hxy)
          have HF := Box.mk (show decide (xs = ys) = false by rw [decide_eq_false_iff_not]; exact rows_ne_step HX.out HY.out hxy)
          go_wp2_with (go_at_call 33; refine HIE.out.mono ?_; rintro e w7 ⟨rfl, hb7⟩; rw [HQ.out])
          go_ret
          exact ⟨ret_bool (by rw [HF.out]), hbr.out.trans (hb7.mono hbr.out.size)⟩
      · have HT := Box.mk (show decide (xs = ys) = true by
          rw [decide_eq_true_iff]
          have h1 := hE.out
          rwa [show k = xs.length by omega, List.take_length, HLEN.out, List.take_length] at h1)
        go_wp2_with fail
        go_ret
        exact ⟨ret_bool (by rw [HT.out]), hbr.out⟩
  · have HF := Box.mk (show decide (xs = ys) = false by rw [decide_eq_false_iff_not]; rintro rfl; exact hlen rfl)
    have hq : ((xs.length : Int) == (ys.length : Int)) = false := beq_eq_false_iff_ne.2 (by omega)
    go_enter Tryz.func32, Tryz.ntmps32
    go_wp2
    all_goals go_ret
    all_goals exact ⟨ret_bool (by rw [HF.out]), Below.refl _ _⟩

set_option maxRecDepth 100000 in
set_option maxHeartbeats 4000000 in
theorem msame_any (a b : Value) (M N : D.Mach) (w : World) (ha : MachAt w a M) (hb : MachAt w b N) (hM : MachFit M) (hN : MachFit N) :
    Calls Tryz.prog 18 #[a, b] w fun e w' => e = .returned (.bool (decide (M = N))) ∧ Below w.heap.size w w' := by
  obtain ⟨na, fa, rfl, hra, hia⟩ := ha
  obtain ⟨nb, fb, rfl, hrb, hib⟩ := hb
  obtain ⟨aa, ca, rfl⟩ := hra.slice
  obtain ⟨ab, cb, rfl⟩ := hrb.slice
  obtain ⟨fo, fc, rfl⟩ := hia.slice
  obtain ⟨go, gc, rfl⟩ := hib.slice
  obtain ⟨w2, hw2⟩ : ∃ w2, w2 = (w.alloc (.cells #[.slice aa M.1.length ca, .slice fo M.2.length fc] 25)).alloc (.cells #[.slice ab N.1.length cb, .slice go N.2.length gc] 25) := ⟨_, rfl⟩
  have HW2 := Box.mk hw2
  have hbw : Below w.heap.size w w2 := by rw [hw2]; exact ((Below.refl _ _).alloc (Nat.le_refl _) _).alloc (by simp) _
  have HBW := Box.mk hbw
  have HBA := Box.mk (show Blk w2 w.heap.size 25 #[.slice aa M.1.length ca, .slice fo M.2.length fc] by rw [hw2]; exact (Blk.new w _ _).alloc _)
  have HBB := Box.mk (show Blk w2 (w.heap.size + 1) 25 #[.slice ab N.1.length cb, .slice go N.2.length gc] by
    rw [hw2]
    have := Blk.new (w.alloc (.cells #[.slice aa M.1.length ca, .slice fo M.2.length fc] 25)) 25 #[.slice ab N.1.length cb, .slice go N.2.length gc]
    simpa using this)
  have HSE := Box.mk (sleq64 _ _ M.2 N.2 w2 (hia.below hbw) (hib.below hbw) (by have := hM.2.1; omega) (by have := hN.2.1; omega))
  have HEF := Box.mk (fun W (h : Below w.heap.size w W) => eqfunc_any _ _ M.1 N.1 W (hra.below h) (hrb.below h) hM.2.2 hN.2.2 hM.1)
  have c0 : w2.cell? ⟨w.heap.size, 0, none⟩ = some (.slice aa M.1.length ca) := (HBA.out.cell 0).trans rfl
  have c1 : w2.cell? ⟨w.heap.size, 1, none⟩ = some (.slice fo M.2.length fc) := (HBA.out.cell 1).trans rfl
  have c2 : w2.cell? ⟨w.heap.size + 1, 0, none⟩ = some (.slice ab N.1.length cb) := (HBB.out.cell 0).trans rfl
  have c3 : w2.cell? ⟨w.heap.size + 1, 1, none⟩ = some (.slice go N.2.length gc) := (HBB.out.cell 1).trans rfl
  have l0 := HBA.out.lt
  have l1 := HBB.out.lt
  clear hra hrb hia hib hM hN hbw hw2
  cases hd : decide (M.2 = N.2) with
  | false =>
    have HD := Box.mk hd
    have HF := Box.mk (show decide (M = N) = false by rw [decide_eq_false_iff_not] at hd ⊢; rintro rfl; exact hd rfl)
    clear hd
    go_enter Tryz.func18, Tryz.ntmps18
    go_upto_region 1 with (fail)
    rw [← HW2.out]
    go_wp2_with fail
    refine HSE.out.mono ?_; rintro e w3 ⟨rfl, hb3⟩; rw [HD.out]
    go_wp2_with fail
    go_ret
    exact ⟨ret_bool (by rw [HF.out]), HBW.out.trans (hb3.mono HBW.out.size)⟩
  | true =>
    have HD := Box.mk hd
    have HMN := Box.mk (show decide (M.1 = N.1) = decide (M = N) by
      rw [decide_eq_decide]
      exact ⟨fun h => mach_eq h (of_decide_eq_true hd), fun h => by rw [h]⟩)
    clear hd
    go_enter Tryz.func18, Tryz.ntmps18
    go_upto_region 1 with (fail)
    rw [← HW2.out]
    go_wp2_with fail
    refine HSE.out.mono ?_; rintro e w3 ⟨rfl, hb3⟩; rw [HD.out]
    have HB3 := Box.mk hb3
    have hba := HBA.out.below hb3 HBA.out.lt
    have hbb := HBB.out.below hb3 HBB.out.lt
    have d0 : w3.cell? ⟨w.heap.size, 0, none⟩ = some (.slice aa M.1.length ca) := (hba.cell 0).trans rfl
    have d2 : w3.cell? ⟨w.heap.size + 1, 0, none⟩ = some (.slice ab N.1.length cb) := (hbb.cell 0).trans rfl
    have e0 := hba.lt
    have e1 := hbb.lt
    clear c0 c1 c2 c3 l0 l1 hb3 hba hbb
    go_wp2_with fail
    refine (HEF.out _ (HBW.out.trans (HB3.out.mono HBW.out.size))).mono ?_; rintro e w4 ⟨rfl, hb4⟩; rw [HMN.out]
    go_wp2_with fail
    go_ret
    exact ⟨rfl, HBW.out.trans ((HB3.out.trans (hb4.mono HB3.out.size)).mono HBW.out.size)⟩
end Go.Proofs.YtjemdepcaaadiaaGreatDoor
