/-
  Texts of this claim, one behind the other: DfQ, DfR, Eqs, DfX, DfS, DfT, DfU, DfV, DfW.
-/
import Derived.Test.YtbpcipobdokcfaaGreatDoorH5
import Derived.Carry
import Derived.Test.YtbpcipobdokcfaaGreatDoorH2
import Derived.RegionTactic
import Derived.Test.YtbpcipobdokcfaaGreatDoorH3
import Derived.Test.YtbpcipobdokcfaaGreatDoorH4

/- THE BUILDER's WORK, WALKED. -/
namespace Go.Proofs.YtbpcipobdokcfaaGreatDoor
open Go.RowKit Go.Shelf
attribute [local go_sem] Oper.semAt_some

set_option maxRecDepth 100000 in
set_option maxHeartbeats 4000000 in
theorem loop_any (A : Nat → Addr) (B : Nat) (Se : List Nat) (hSe : 2 ∈ Se) (b m n : Nat) (rv : Value) (rs : List D.Rule) (wE w0 wr : World) (Q0 : Exit → Act → World → Prop)
    (hO : Old A B Se rv rs b m wE w0) (hLS : LS w0 b m n rv (lefts rs) 0 [] wr) (hl : rs.length ≤ 40) (hr : sideOk rs) (hn : n ≤ 32)
    (hret : ∀ (a : Act) (Ds : List Nat) (W : World), a.defers = Ds.map MarkOf → a.tmps.getD 2 undef = .pointer (some ⟨w0.heap.size + 1, 0, none⟩) → InX w0 A b m (lefts rs) n Ds W → Q0 .ret a W)
    (hexit : ∀ (K : Nat) (Ds : List Nat) (W : World) (s4 s5 s6 s7 s8 s9 s10 s11 s12 s13 s14 s15 s16 s17 s18 s19 s20 s21 s22 s23 s24 s25 s26 s27 s28 s29 s30 s31 s32 s33 s34 s35 s36 s37 s38 s39 s40 s41 s42 s43 s44 s45 s46 s47 s48 s49 s50 s51 s52 s53 s54 s55 s56 s57 s58 s59 s60 s61 s62 s63 s64 s65 s66 s67 s68 s69 s70 s71 s72 s73 s74 s75 s76 s77 : Value), LS w0 b m n rv (lefts rs) K Ds W → (D.build (lefts rs) n K).todo.length ≤ K → Q0 (.exit 0) { tmps := (Value.pointer (some ⟨b, 0, none⟩) :: Value.pointer (some ⟨w0.heap.size, 0, none⟩) :: Value.pointer (some ⟨w0.heap.size + 1, 0, none⟩) :: Value.int .i64 (K : Int) :: s4 :: s5 :: s6 :: s7 :: s8 :: s9 :: s10 :: s11 :: s12 :: s13 :: s14 :: s15 :: s16 :: s17 :: s18 :: s19 :: s20 :: s21 :: s22 :: s23 :: s24 :: s25 :: s26 :: s27 :: s28 :: s29 :: s30 :: s31 :: s32 :: s33 :: s34 :: s35 :: s36 :: s37 :: s38 :: s39 :: s40 :: s41 :: s42 :: s43 :: s44 :: s45 :: s46 :: s47 :: s48 :: s49 :: s50 :: s51 :: s52 :: s53 :: s54 :: s55 :: s56 :: s57 :: s58 :: s59 :: s60 :: s61 :: s62 :: s63 :: s64 :: s65 :: s66 :: s67 :: s68 :: s69 :: s70 :: s71 :: s72 :: s73 :: s74 :: s75 :: s76 :: s77 :: []).toArray, defers := Ds.map MarkOf } W) (s4 s5 s6 s7 s8 s9 s10 s11 s12 s13 s14 s15 s16 s17 s18 s19 s20 s21 s22 s23 s24 s25 s26 s27 s28 s29 s30 s31 s32 s33 s34 s35 s36 s37 s38 s39 s40 s41 s42 s43 s44 s45 s46 s47 s48 s49 s50 s51 s52 s53 s54 s55 s56 s57 s58 s59 s60 s61 s62 s63 s64 s65 s66 s67 s68 s69 s70 s71 s72 s73 s74 s75 s76 s77 : Value) :
    (Code.loop bldLoop).wp Tryz.prog Q0 { tmps := (Value.pointer (some ⟨b, 0, none⟩) :: Value.pointer (some ⟨w0.heap.size, 0, none⟩) :: Value.pointer (some ⟨w0.heap.size + 1, 0, none⟩) :: Value.int .i64 0 :: s4 :: s5 :: s6 :: s7 :: s8 :: s9 :: s10 :: s11 :: s12 :: s13 :: s14 :: s15 :: s16 :: s17 :: s18 :: s19 :: s20 :: s21 :: s22 :: s23 :: s24 :: s25 :: s26 :: s27 :: s28 :: s29 :: s30 :: s31 :: s32 :: s33 :: s34 :: s35 :: s36 :: s37 :: s38 :: s39 :: s40 :: s41 :: s42 :: s43 :: s44 :: s45 :: s46 :: s47 :: s48 :: s49 :: s50 :: s51 :: s52 :: s53 :: s54 :: s55 :: s56 :: s57 :: s58 :: s59 :: s60 :: s61 :: s62 :: s63 :: s64 :: s65 :: s66 :: s67 :: s68 :: s69 :: s70 :: s71 :: s72 :: s73 :: s74 :: s75 :: s76 :: s77 :: []).toArray, defers := [] } wr := by
  refine wp_loop (WI w0 b m n rv (lefts rs)) Wmu ?_ (fun a w hI => ?_)
  · exact ⟨0, [], s4, s5, s6, s7, s8, s9, s10, s11, s12, s13, s14, s15, s16, s17, s18, s19, s20, s21, s22, s23, s24, s25, s26, s27, s28, s29, s30, s31, s32, s33, s34, s35, s36, s37, s38, s39, s40, s41, s42, s43, s44, s45, s46, s47, s48, s49, s50, s51, s52, s53, s54, s55, s56, s57, s58, s59, s60, s61, s62, s63, s64, s65, s66, s67, s68, s69, s70, s71, s72, s73, s74, s75, s76, s77, hLS, rfl⟩
  · obtain ⟨K, hI⟩ := hI
    obtain ⟨Ds, hI⟩ := hI
    obtain ⟨s4, hI⟩ := hI
    obtain ⟨s5, hI⟩ := hI
    obtain ⟨s6, hI⟩ := hI
    obtain ⟨s7, hI⟩ := hI
    obtain ⟨s8, hI⟩ := hI
    obtain ⟨s9, hI⟩ := hI
    obtain ⟨s10, hI⟩ := hI
    obtain ⟨s11, hI⟩ := hI
    obtain ⟨s12, hI⟩ := hI
    obtain ⟨s13, hI⟩ := hI
    obtain ⟨s14, hI⟩ := hI
    obtain ⟨s15, hI⟩ := hI
    obtain ⟨s16, hI⟩ := hI
    obtain ⟨s17, hI⟩ := hI
    obtain ⟨s18, hI⟩ := hI
    obtain ⟨s19, hI⟩ := hI
    obtain ⟨s20, hI⟩ := hI
    obtain ⟨s21, hI⟩ := hI
    obtain ⟨s22, hI⟩ := hI
    obtain ⟨s23, hI⟩ := hI
    obtain ⟨s24, hI⟩ := hI
    obtain ⟨s25, hI⟩ := hI
    obtain ⟨s26, hI⟩ := hI
    obtain ⟨s27, hI⟩ := hI
    obtain ⟨s28, hI⟩ := hI
    obtain ⟨s29, hI⟩ := hI
    obtain ⟨s30, hI⟩ := hI
    obtain ⟨s31, hI⟩ := hI
    obtain ⟨s32, hI⟩ := hI
    obtain ⟨s33, hI⟩ := hI
    obtain ⟨s34, hI⟩ := hI
    obtain ⟨s35, hI⟩ := hI
    obtain ⟨s36, hI⟩ := hI
    obtain ⟨s37, hI⟩ := hI
    obtain ⟨s38, hI⟩ := hI
    obtain ⟨s39, hI⟩ := hI
    obtain ⟨s40, hI⟩ := hI
    obtain ⟨s41, hI⟩ := hI
    obtain ⟨s42, hI⟩ := hI
    obtain ⟨s43, hI⟩ := hI
    obtain ⟨s44, hI⟩ := hI
    obtain ⟨s45, hI⟩ := hI
    obtain ⟨s46, hI⟩ := hI
    obtain ⟨s47, hI⟩ := hI
    obtain ⟨s48, hI⟩ := hI
    obtain ⟨s49, hI⟩ := hI
    obtain ⟨s50, hI⟩ := hI
    obtain ⟨s51, hI⟩ := hI
    obtain ⟨s52, hI⟩ := hI
    obtain ⟨s53, hI⟩ := hI
    obtain ⟨s54, hI⟩ := hI
    obtain ⟨s55, hI⟩ := hI
    obtain ⟨s56, hI⟩ := hI
    obtain ⟨s57, hI⟩ := hI
    obtain ⟨s58, hI⟩ := hI
    obtain ⟨s59, hI⟩ := hI
    obtain ⟨s60, hI⟩ := hI
    obtain ⟨s61, hI⟩ := hI
    obtain ⟨s62, hI⟩ := hI
    obtain ⟨s63, hI⟩ := hI
    obtain ⟨s64, hI⟩ := hI
    obtain ⟨s65, hI⟩ := hI
    obtain ⟨s66, hI⟩ := hI
    obtain ⟨s67, hI⟩ := hI
    obtain ⟨s68, hI⟩ := hI
    obtain ⟨s69, hI⟩ := hI
    obtain ⟨s70, hI⟩ := hI
    obtain ⟨s71, hI⟩ := hI
    obtain ⟨s72, hI⟩ := hI
    obtain ⟨s73, hI⟩ := hI
    obtain ⟨s74, hI⟩ := hI
    obtain ⟨s75, hI⟩ := hI
    obtain ⟨s76, hI⟩ := hI
    obtain ⟨s77, hI⟩ := hI
    obtain ⟨hLS, rfl⟩ := hI
    by_cases hK : K < (D.build (lefts rs) n K).todo.length
    · exact round_any A B Se hSe b m n K rv rs Ds wE w0 w Q0 hO hLS hK hl hr hn hret s4 s5 s6 s7 s8 s9 s10 s11 s12 s13 s14 s15 s16 s17 s18 s19 s20 s21 s22 s23 s24 s25 s26 s27 s28 s29 s30 s31 s32 s33 s34 s35 s36 s37 s38 s39 s40 s41 s42 s43 s44 s45 s46 s47 s48 s49 s50 s51 s52 s53 s54 s55 s56 s57 s58 s59 s60 s61 s62 s63 s64 s65 s66 s67 s68 s69 s70 s71 s72 s73 s74 s75 s76 s77
    · have hX := Box.mk (hexit K Ds w)
      have HLS := Box.mk hLS
      obtain ⟨hk1, hk2, ⟨nv, fv, tv, vs, hBS⟩, hp, he, hM⟩ := hLS
      have h1 := D.build_one (lefts rs) n K
      have c1 : w.cell? ⟨w0.heap.size, 0, none⟩ = some (.pointer (some ⟨b, 0, none⟩)) := (hp.cell 0).trans rfl
      have l1 := hp.lt
      have l5 := hBS.mets.blk.lt
      have HE := Box.mk (show (D.build (lefts rs) n K).todo.length ≤ K by omega)
      obtain ⟨t, ht⟩ : ∃ t, (D.build (lefts rs) n K).todo = t := ⟨_, rfl⟩
      rw [ht] at hBS hK hk2 h1
      obtain ⟨ta, tc, rfl⟩ := ownsRow_shape hBS.mets.row
      have c5 : w.cell? ⟨b, 5, none⟩ = some (.slice ta t.length tc) := (hBS.mets.blk.cell 5).trans rfl
      have hlk : decide (K < t.length) = false := decide_eq_false hK
      clear hk1 hBS hp he hM ht hexit hret hO hK
      unfold WI Wmu
      conv => arg 2; whnf
      go_wp2_with fail
      exact hX.out _ _ _ _ _ _ _ _ _ _ _ _ _ _ _ _ _ _ _ _ _ _ _ _ _ _ _ _ _ _ _ _ _ _ _ _ _ _ _ _ _ _ _ _ _ _ _ _ _ _ _ _ _ _ _ _ _ _ _ _ _ _ _ _ _ _ _ _ _ _ _ _ _ _ HLS.out HE.out

theorem results_cell1 {P : Program} {fn : Func} {p : Tmp} {ty : TypeId} (h : fn.results = #[.cell p ty]) (tmps : Array Value) (w : World) (g : Nat) (v : Value) (hp : tmps.getD p undef = .pointer (some ⟨g, 0, none⟩)) (hc : w.cell? ⟨g, 0, none⟩ = some v)
    (ha : (isAgg ty).run P w = .ok false w) : (results fn tmps).run P w = .ok v w := by
  have hp' : tmps[p]?.getD undef = .pointer (some ⟨g, 0, none⟩) := by simpa using hp
  simp [results, h, hp', asAddr, loadVar, ha, hc]

/-- what the builder has made, or which error -/
def buildPost (A : Nat → Addr) (b m n : Nat) (rv : Value) (sd : List D.Side) (wE : World) (e : Ending) (w' : World) : Prop :=
  Below wE.heap.size wE w' ∧ ((D.isFew sd n = true ∧ e = .returned .nilIface ∧ ∃ nv fv tv, (∀ g, nv.ownBlock = some g → wE.heap.size ≤ g) ∧ Bb w' b nv fv rv n m tv ∧ RowsAt w' nv ((D.build sd n 300).next.map fun r => r.map fun x : Nat => (x : Int)) ∧ IntsAt w' fv ((D.build sd n 300).fits.map fun x : Nat => (x : Int))) ∨
    (D.isFew sd n = false ∧ e = .returned (errV A 2)))

set_option maxRecDepth 100000 in
set_option maxHeartbeats 4000000 in
theorem build_any (A : Nat → Addr) (B : Nat) (S : List Nat) (hS : 2 ∈ S) (b m n : Nat) (rv : Value) (rs : List D.Rule) (wE w0 : World) (hO : Old A B S rv rs b m wE w0)
    (hb : Bb w0 b (.slice none 0 0) (.slice none 0 0) rv n m (.slice none 0 0)) (hm : w0.heap[m]? = some (.map #[] 0)) (hbm : b ≠ m) (hl : rs.length ≤ 40) (hr : sideOk rs) (hn : n ≤ 32) :
    Calls Tryz.prog 46 #[.pointer (some ⟨b, 0, none⟩)] w0 (buildPost A b m n rv (lefts rs) wE) := by
  have HO := Box.mk hO
  have HR := Box.mk hr
  obtain ⟨w2, hw2⟩ : ∃ w2, w2 = (w0.alloc (.cells #[.pointer (some ⟨b, 0, none⟩)] 75)).alloc (.cells #[.nilIface] 66) := ⟨_, rfl⟩
  have hbw : Below w0.heap.size w0 w2 := by rw [hw2]; exact ((Below.refl _ _).alloc (Nat.le_refl _) _).alloc (by simp) _
  have hp : Blk w2 w0.heap.size 75 #[.pointer (some ⟨b, 0, none⟩)] := by rw [hw2]; exact (Blk.new w0 _ _).alloc _
  have he : Blk w2 (w0.heap.size + 1) 66 #[.nilIface] := by
    rw [hw2]
    have := Blk.new (w0.alloc (.cells #[.pointer (some ⟨b, 0, none⟩)] 75)) 66 #[.nilIface]
    simpa using this
  have hs2 : w2.heap.size = w0.heap.size + 2 := by rw [hw2]; simp
  have hb2 : Bb w2 b (.slice none 0 0) (.slice none 0 0) rv n m (.slice none 0 0) := hb.below hbw hb.lt
  have hm2 : w2.heap[m]? = some (.map #[] 0) := (hbw.block m (Array.getElem?_eq_some_iff.1 hm).1).trans hm
  have HBS0 := Box.mk (fun W (h : Below w2.heap.size w2 W) => bs_zero (w0 := w0) (k := rs.length) hl (hb2.below h hb2.lt) ((h.block m (Array.getElem?_eq_some_iff.1 hm2).1).trans hm2) hbm (hbw.trans (h.mono hbw.size)) hb.lt (Array.getElem?_eq_some_iff.1 hm).1)
  have HOW := Box.mk (fun W (h : Turns (fun q => q = b ∨ q = m) w0 W) => hO.now h)
  have HEACH := Box.mk (fun W (h : Below w2.heap.size w2 W) => first_all (m := m) ((HBS0.out W h).mets.blk) (hO.rules.below (hO.now (HBS0.out W h).turns)) (hO.e.below ((hO.now (HBS0.out W h).turns).mono hO.hB)) (Nat.le_trans hO.hB (hO.now (HBS0.out W h).turns).size) hr hl)
  have HNUM := Box.mk (fun W (h : Below w2.heap.size w2 W) => number_any w0.heap.size b m _ _ rv n rs.length _ [] (D.firstAll (lefts rs)) W (HBS0.out W h).mets (by rw [D.firstAll_len, lefts_len]) (small_of_good hr (D.good_first _)) (by simp) (Nat.le_trans hbw.size h.size))
  have HP2 := Box.mk hp
  have HE2 := Box.mk he
  have HBW2 := Box.mk hbw
  have HW2 := Box.mk hw2
  have HS2 := Box.mk hs2
  have c1 : w2.cell? ⟨w0.heap.size, 0, none⟩ = some (.pointer (some ⟨b, 0, none⟩)) := (hp.cell 0).trans rfl
  have l1 : w0.heap.size < w2.heap.size := hp.lt
  clear hO hr hbw hp he hb2 hm2 hb hm hw2 hbm hs2
  refine (callsIn_wide (n := 9)).1 (callsIn_of_wp_marks Tryz.func46 rfl trivial (wpIn_wide.2 ?_))
  simp only [Tryz.ntmps46, List.size_toArray, List.length_cons, List.length_nil, Nat.reduceAdd, Nat.reduceSub, Array.replicate_succ, Array.replicate_zero, List.push_toArray, List.append_toArray, List.nil_append, List.cons_append]
  go_upto_region 1 with (fail)
  rw [← HW2.out]
  go_cut [] from 9 to 12 (fun wx => Box (∃ tv, BS w0 b m n rs.length rv (D.build (lefts rs) n 0).todo [] [] (.slice none 0 0) (.slice none 0 0) tv [] wx) ∧ Box (Blk wx w0.heap.size 75 #[.pointer (some ⟨b, 0, none⟩)]) ∧ Box (Blk wx (w0.heap.size + 1) 66 #[.nilIface]))
  case first =>
    go_region_with ((first
      | (go_at_call 70; refine (HEACH.out _ (below_drewN (Below.refl _ _) _)).mono ?_; rintro e w3 ⟨rfl, hb3⟩; have HB3 := Box.mk (show Below w2.heap.size w2 w3 from Below.mono ⟨hb3.os, hb3.tape, hb3.output, hb3.size, hb3.block⟩ (Nat.le_refl _)); have c3 : w3.cell? ⟨w0.heap.size, 0, none⟩ = some (.pointer (some ⟨b, 0, none⟩)) := (HB3.out.cell (p := ⟨w0.heap.size, 0, none⟩) l1).trans c1; clear hb3)
      | (go_at_call 69; refine (HNUM.out _ HB3.out).mono ?_; rintro e w4 hp4; have HN4 := Box.mk hp4; obtain ⟨rfl, -, -⟩ := hp4)))
    all_goals
      have ht3 := HN4.out.2.1
      obtain ⟨tv', hbs⟩ := (HBS0.out w3 HB3.out).number HN4.out
      go_wp2_with fail
      go_meet
      refine ⟨⟨tv', hbs⟩, ⟨ht3.blk (HP2.out.below HB3.out l1) ?_⟩, ⟨ht3.blk (HE2.out.below HB3.out (by have := HS2.out; omega)) ?_⟩⟩
      · have h1 := hbs.lb; have h2 := hbs.lm
        rintro (e | e | e)
        · omega
        · omega
        · simp [Value.ownBlock] at e
      · have h1 := hbs.lb; have h2 := hbs.lm
        rintro (e | e | e)
        · omega
        · omega
        · simp [Value.ownBlock] at e
  case rest =>
    obtain ⟨⟨tv0, hbs0⟩, hp0, he0⟩ := hcut
    have HLS0 := Box.mk (show LS w0 b m n rv (lefts rs) 0 [] wc from ⟨rfl, by simp [D.build], ⟨_, _, _, _, by rw [lefts_len]; exact hbs0⟩, hp0.out, he0.out, Marks.nil _ _⟩)
    clear hbs0 hp0 he0
    clear HBS0 HEACH HNUM HP2 HE2 HBW2 HW2 HS2 c1 l1
    go_wp2_with fail
    refine loop_any A B S hS b m n rv rs wE w0 wc _ HO.out HLS0.out hl HR.out hn (fun a Ds W hd hp hX => ?_) (fun K Ds W _ _ _ _ _ _ _ _ _ _ _ _ _ _ _ _ _ _ _ _ _ _ _ _ _ _ _ _ _ _ _ _ _ _ _ _ _ _ _ _ _ _ _ _ _ _ _ _ _ _ _ _ _ _ _ _ _ _ _ _ _ _ _ _ _ _ _ _ _ _ _ _ _ _ hL hK => ?_) _ _ _ _ _ _ _ _ _ _ _ _ _ _ _ _ _ _ _ _ _ _ _ _ _ _ _ _ _ _ _ _ _ _ _ _ _ _ _ _ _ _ _ _ _ _ _ _ _ _ _ _ _ _ _ _ _ _ _ _ _ _ _ _ _ _ _ _ _ _ _ _ _ _
    · -- there were too many
      show LeavesInM _ _ _ _ a.tmps _ a.defers .returning W
      rw [hd]
      refine leaves_marks Ds W hX.2.2.2 (fun w' ht => ?_)
      have hbe : Blk w' (w0.heap.size + 1) 66 #[errV A 2] := ht.blk hX.2.2.1 (fun h => by
        have h4 := (hX.2.2.2.at' _ h).2
        rw [show W.heap[w0.heap.size + 1]? = _ from hX.2.2.1] at h4
        cases h4)
      refine ⟨_, results_cell1 Tryz.results46 _ w' (w0.heap.size + 1) _ hp ((hbe.cell 0).trans rfl) (Tryz.isAgg66 w'), ?_, .inr ⟨hX.1, rfl⟩⟩
      have h0 := HO.out.now hX.2.1
      exact h0.trans (ht.below h0.size (fun q hq => Nat.le_trans HO.out.bel.size (hX.2.2.2.at' q hq).1))
    · -- these are all
      have HL := Box.mk hL
      obtain ⟨hk1, hk2, ⟨nv, fv, tv, vs, hBS⟩, hp, he, hM⟩ := hL
      have cbe : W.cell? ⟨w0.heap.size + 1, 0, none⟩ = some .nilIface := (he.cell 0).trans rfl
      have fbe := he.frozen 0
      have lbe := he.lt
      have h9 := (D.build_len (lefts rs) n K).2.1
      have HFEW := Box.mk (D.few_end (lefts rs) n (k := K) (by omega) (by omega) hk2)
      have HEND := Box.mk (D.build_end (lefts rs) n (k := K) (by omega) (by omega))
      clear hk1 hk2 hBS hp he hM hK
      clear h9
      go_wp2_with fail
      obtain ⟨hk1, hk2, ⟨nv, fv, tv, vs, hBS⟩, hp, he, hM⟩ := HL.out
      have hTS : Turns (fun q => q = w0.heap.size + 1) W (W.setCell ⟨w0.heap.size + 1, 0, none⟩ .nilIface) := Turns.setCell (own := fun q => q = w0.heap.size + 1) W (p := ⟨w0.heap.size + 1, 0, none⟩) rfl _
      have hM1 := hM.turns hTS (fun q hq e => by
        have h4 := (hM.at' q hq).2
        subst e
        rw [show W.heap[w0.heap.size + 1]? = _ from he] at h4
        cases h4)
      have hb := hBS.lb
      have hm := hBS.lm
      have hBS1 := hBS.keep hTS (by omega) (by omega) (fun g hg e => own_blk hBS.nrow (e ▸ he) (by decide) hg) (fun g hg e => own_blk hBS.frow (e ▸ he) (by decide) hg) (fun g hg e => own_blk hBS.mets.row (e ▸ he) (by decide) hg)
        (fun v hv g hg e => by obtain ⟨r, hr⟩ := hBS.rows_of v hv; exact own_blk hr (e ▸ he) (by decide) hg) (fun q hq e => by omega)
      show LeavesInM _ _ _ _ _ _ (Ds.map MarkOf) .returning _
      refine leaves_marks Ds _ hM1 (fun w' ht => ?_)
      have hbe : Blk w' (w0.heap.size + 1) 66 #[.nilIface] := ht.blk (he.set_ 0 .nilIface) (fun h => by
        have h4 := (hM.at' _ h).2
        rw [show W.heap[w0.heap.size + 1]? = _ from he] at h4
        cases h4)
      have hBS2 := hBS1.keep ht (fun h => by have := (hM.at' _ h).1; omega) (fun h => by have := (hM.at' _ h).1; omega) (fun g hg h => own_mark hBS1.nrow (hM1.at' g h).2 hg) (fun g hg h => own_mark hBS1.frow (hM1.at' g h).2 hg) (fun g hg h => own_mark hBS1.mets.row (hM1.at' g h).2 hg)
        (fun v hv g hg h => by obtain ⟨r, hr⟩ := hBS1.rows_of v hv; exact own_mark hr (hM1.at' g h).2 hg) (fun q hq h => by have := (hM.at' _ h).1; omega)
      refine ⟨_, results_cell1 Tryz.results46 _ w' (w0.heap.size + 1) _ rfl ((hbe.cell 0).trans rfl) (Tryz.isAgg66 w'), HO.out.now hBS2.turns, .inl ⟨HFEW.out, rfl, nv, fv, tv, fun g hg => Nat.le_trans HO.out.bel.size (hBS2.nrow.lt g hg).1, hBS2.mets.blk, ?_⟩⟩
      rw [HEND.out]
      exact hBS2.mach
end Go.Proofs.YtbpcipobdokcfaaGreatDoor

/- RULES' MACHINE, BY THE PROGRAM: Compile; which error is told. -/
namespace Go.Proofs.YtbpcipobdokcfaaGreatDoor
open Go.RowKit Go.Shelf
attribute [local go_sem] Oper.semAt_some

def sentsD : List Nat := [1, 2]
def Ed (A : Nat → Addr) (B : Nat) (w : World) : Prop := Env sentsD 209 A B w
theorem Ed.below {A : Nat → Addr} {B : Nat} {w w' : World} (h : Ed A B w) (hb : Below B w w') : Ed A B w' := Env.below h hb
def dCode (g : Nat) : Int := if g = 1 then 90 else 100

set_option maxHeartbeats 1000000 in
theorem dtold_any (A : Nat → Addr) (B : Nat) (g : Nat) (hg : g ∈ sentsD) (w : World) (hE : Ed A B w) :
    Calls Tryz.prog 45 #[errV A g] w fun e w' => e = .returned (.int .i64 (dCode g)) ∧ w = w' := by
  have h0 := hE.var 1 (by decide)
  have h1 := hE.var 2 (by decide)
  have HI := Box.mk (fun k (hk : k ∈ sentsD) => is_env hE g k hg hk)
  clear hE
  unfold errV
  rcases List.mem_cons.1 hg with rfl | hg
  · go_enter Tryz.func45, Tryz.ntmps45
    go_wp2_with fail
    refine (HI.out 1 (by decide)).mono ?_; rintro e w1 ⟨rfl, rfl⟩
    go_wp2_with fail
    go_ret
    exact ⟨rfl, rfl⟩
  · obtain rfl : g = 2 := by simpa using hg
    go_enter Tryz.func45, Tryz.ntmps45
    go_wp2_with fail
    refine (HI.out 1 (by decide)).mono ?_; rintro e w1 ⟨rfl, rfl⟩
    go_wp2_with fail
    refine (HI.out 2 (by decide)).mono ?_; rintro e w1 ⟨rfl, rfl⟩
    go_wp2_with fail
    go_ret
    exact ⟨rfl, rfl⟩

theorem results_row_tmp {P : Program} {fn : Func} {p u : Tmp} {ty : TypeId} (h : fn.results = #[.cell p ty, .tmp u]) (tmps : Array Value) (w : World) (g : Nat) (t : TypeId) (cs : Array Value) (fr : Nat × Nat) (d : TypeDesc)
    (hp : tmps.getD p undef = .pointer (some ⟨g, 0, none⟩)) (hg : w.heap[g]? = some (.cells cs t fr)) (hu : P.underlying ty = some d) (hd : (match d with | .struct _ | .array _ _ => true | _ => false) = true) (hi : (P.info? ty).map (·.size) = some cs.size) :
    (results fn tmps).run P w = .ok (.tuple #[.agg cs, tmps.getD u undef]) w := by
  rw [results_cell_tmp h, hp]
  simp [asAddr, run_loadVar_row w g t ty cs fr d hg hu hd hi, Result.andThen]
theorem machInfo : (Tryz.prog.info? 26).map (·.size) = some 2 := by kernel_rfl
theorem ints_turn {w w' : World} {v : Value} {xs : List Int} {own : Nat → Prop} (h : IntsAt w v xs) (ht : Turns own w w') (ho : ∀ q, own q → ∀ j x, w.cell? ⟨q, j, none⟩ ≠ some (.int .i64 x)) : IntsAt w' v xs := by
  rcases h with h | ⟨b, off, sp, cap, h1, h2, h3, h4⟩
  · exact .inl h
  · refine .inr ⟨b, off, sp, cap, h1, h2, h3, fun hn => ?_⟩
    obtain ⟨h5, h6, h7⟩ := h4 hn
    obtain ⟨x0, hx0⟩ : ∃ x, xs[0]? = some x := by
      cases xs with
      | nil => exact absurd rfl hn
      | cons x t => exact ⟨x, rfl⟩
    have hb : ¬ own b := fun e => ho b e _ _ (h7 0 x0 hx0)
    exact ⟨h5, Nat.lt_of_lt_of_le h6 ht.size, fun i x hx => ht.cell (h7 i x hx) hb⟩
theorem rows_turn {w w' : World} {v : Value} {rows : List (List Int)} {own : Nat → Prop} (h : RowsAt w v rows) (ht : Turns own w w') (ho : ∀ q, own q → ∀ j x, w.cell? ⟨q, j, none⟩ ≠ some (.int .i64 x)) (hv : ∀ g, v.ownBlock = some g → ¬ own g) : RowsAt w' v rows := by
  rcases h with h | ⟨b, off, sp, cap, h1, h2, h3, h4⟩
  · exact .inl h
  · refine .inr ⟨b, off, sp, cap, h1, h2, h3, fun hn => ?_⟩
    obtain ⟨h5, h6, h7⟩ := h4 hn
    refine ⟨h5, Nat.lt_of_lt_of_le h6 ht.size, fun i r hr => ?_⟩
    obtain ⟨x, hx, hi⟩ := h7 i r hr
    exact ⟨x, ht.cell hx (hv b (by rw [h1]; rfl)), ints_turn hi ht ho⟩
def machB (b : D.Bld) : D.Mach := (b.next.map fun r => r.map fun x : Nat => (x : Int), b.fits.map fun x : Nat => (x : Int))
def machOf (sd : List D.Side) (n : Nat) : D.Mach := machB (D.build sd n 300)
theorem machB_at {w : World} {nv fv : Value} {b : D.Bld} (h1 : RowsAt w nv (b.next.map fun r => r.map fun x : Nat => (x : Int))) (h2 : IntsAt w fv (b.fits.map fun x : Nat => (x : Int))) : MachAt w (.agg #[nv, fv]) (machB b) := ⟨nv, fv, rfl, h1, h2⟩
def compCode (rs : List D.Rule) (n : Int) : Int := if rulesB n rs = true then (if D.isFew (lefts rs) n.toNat = true then 0 else 100) else 90
def compM (rs : List D.Rule) (n : Int) : D.Mach := if (rulesB n rs && D.isFew (lefts rs) n.toNat) = true then machOf (lefts rs) n.toNat else ([], [])
def compPost (rs : List D.Rule) (n : Int) (w : World) (e : Ending) (w' : World) : Prop := Below w.heap.size w w' ∧ ∃ mv, e = .returned (.tuple #[mv, .int .i64 (compCode rs n)]) ∧ MachAt w' mv (compM rs n)
theorem mach_zero (w : World) : MachAt w (.agg #[.slice none 0 0, .slice none 0 0]) ([], []) := ⟨_, _, rfl, RowsAt.nil, IntsAt.nil⟩
theorem rulesB_parts {n : Int} {rs : List D.Rule} (h : rulesB n rs = true) : 1 ≤ n ∧ n ≤ 32 ∧ rs.length ≤ 40 ∧ sideOk rs := by
  unfold rulesB at h
  simp only [Bool.and_eq_true, decide_eq_true_eq] at h
  exact ⟨h.1.1.1, h.1.1.2, h.1.2, fun x hx => rightN_B (ruleB_left (List.all_eq_true.1 h.2 x hx))⟩

theorem comp_build (A : Nat → Addr) (B : Nat) (ao : Option Addr) (rs : List D.Rule) (w1 : World) (nn cap : Nat) (hv : RulesAt w1 (.slice ao rs.length cap) rs) (hE : E A B w1) (hD : Ed A B w1) (hB : B ≤ w1.heap.size) (hl : rs.length ≤ 40) (hr : sideOk rs) (hn : nn ≤ 32) :
    Calls Tryz.prog 46 #[.pointer (some ⟨w1.heap.size + 1, 0, none⟩)] ((w1.alloc (.map #[] 0)).alloc (.cells #[.slice none 0 0, .slice none 0 0, .slice ao rs.length rs.length, .int .i64 nn, .map (some w1.heap.size), .slice none 0 0] 79))
      (buildPost A (w1.heap.size + 1) w1.heap.size nn (.slice ao rs.length rs.length) (lefts rs) w1) := by
  have hb : Below w1.heap.size w1 ((w1.alloc (.map #[] 0)).alloc (.cells #[.slice none 0 0, .slice none 0 0, .slice ao rs.length rs.length, .int .i64 nn, .map (some w1.heap.size), .slice none 0 0] 79)) := ((Below.refl _ _).alloc (Nat.le_refl _) _).alloc (by simp) _
  have hbb := Blk.new (w1.alloc (.map #[] 0)) 79 #[.slice none 0 0, .slice none 0 0, .slice ao rs.length rs.length, .int .i64 nn, .map (some w1.heap.size), .slice none 0 0]
  rw [show (w1.alloc (.map #[] 0)).heap.size = w1.heap.size + 1 by simp] at hbb
  have hm : ((w1.alloc (.map #[] 0)).alloc (.cells #[.slice none 0 0, .slice none 0 0, .slice ao rs.length rs.length, .int .i64 nn, .map (some w1.heap.size), .slice none 0 0] 79)).heap[w1.heap.size]? = some (.map #[] 0) :=
    (Below.heap_alloc _ _ _ (by simp)).trans (heap_alloc_new w1 _)
  have hcl := hv.cap_le
  have ht := hv.take rs.length (cap' := rs.length) (by simp) hcl.1
  rw [List.take_length] at ht
  exact build_any A B sentsD (by decide) (w1.heap.size + 1) w1.heap.size nn _ rs w1 _ ⟨hE, hD, ht, hB, hb, ⟨by omega, by simp⟩, ⟨by omega, by simp; omega⟩⟩ hbb hm (by omega) hl hr hn

set_option maxRecDepth 100000 in
set_option maxHeartbeats 4000000 in
theorem compile_any (A : Nat → Addr) (B : Nat) (v : Value) (rs : List D.Rule) (n : Int) (w : World) (hf : ∀ x ∈ rs, ruleFit x) (hv : RulesAt w v rs) (hz : rs.length ≤ 16777216) (hE : E A B w) (hD : Ed A B w) (hB : B ≤ w.heap.size) :
    Calls Tryz.prog 27 #[v, .int .i64 n] w (compPost rs n w) := by
  have hb0 := alloc_below w (.cells #[.slice none 0 0, .slice none 0 0] 26)
  have HP := Box.mk (rulesRight_any v rs n _ hf (hv.below hb0) hz)
  have HB0 := Box.mk hb0
  have HR := Box.mk (Blk.new w 26 #[.slice none 0 0, .slice none 0 0])
  have HV := Box.mk hv
  have HE := Box.mk hE
  have HD := Box.mk hD
  obtain ⟨ao, cap, rfl⟩ := hv.slice
  obtain ⟨hc1, hc2⟩ := hv.cap_le
  clear hv hE hD hb0
  cases hr : rulesB n rs with
  | false =>
    have HRT := Box.mk hr
    have HC := Box.mk (show compCode rs n = 90 by unfold compCode; rw [hr]; rfl)
    have HM := Box.mk (show compM rs n = ([], []) by unfold compM; rw [hr]; rfl)
    clear hr
    go_enter Tryz.func27, Tryz.ntmps27
    go_wp2_with fail
    refine HP.out.mono ?_; rintro e w1 ⟨rfl, hb1⟩; rw [HRT.out]
    have HB1 := Box.mk (HB0.out.trans (hb1.mono HB0.out.size))
    have HR1 := Box.mk (HR.out.below hb1 HR.out.lt)
    have HD1 := Box.mk (HD.out.below (HB1.out.mono hB))
    have hg := HD1.out.var 1 (by decide)
    have r0 := (HR1.out.cell 0).trans (show _ = some (Value.slice none 0 0) from rfl)
    have r1 := (HR1.out.cell 1).trans (show _ = some (Value.slice none 0 0) from rfl)
    have f0 := HR1.out.frozen 0
    have f1 := HR1.out.frozen 1
    have lr := HR1.out.lt
    have HT := Box.mk (dtold_any A B 1 (by decide) w1 HD1.out)
    unfold errV at HT
    clear hb1
    go_wp2_with fail
    refine HT.out.mono ?_; rintro e w2 ⟨rfl, rfl⟩
    go_wp2_with fail
    exact bodyPost_ret (v := .tuple #[.agg #[.slice none 0 0, .slice none 0 0], .int .i64 90]) (results_row_tmp Tryz.results27 _ _ w.heap.size 26 #[.slice none 0 0, .slice none 0 0] (0, 0) _ rfl ((HR1.out.set_ 0 (.slice none 0 0)).set_ 1 (.slice none 0 0)) Tryz.underlying26 rfl machInfo) rfl
      ⟨(HB1.out.setCell (Nat.le_refl _) _).setCell (Nat.le_refl _) _, _, by rw [HC.out], by rw [HM.out]; exact mach_zero _⟩
  | true =>
    have HRT := Box.mk hr
    obtain ⟨hn1, hn2, hl40, hso⟩ := rulesB_parts hr
    obtain ⟨nn, rfl⟩ := Int.eq_ofNat_of_zero_le (show 0 ≤ n by omega)
    have HSO := Box.mk hso
    clear hr hso
    go_enter Tryz.func27, Tryz.ntmps27
    go_wp2_with fail
    refine HP.out.mono ?_; rintro e w1 ⟨rfl, hb1⟩; rw [HRT.out]
    have HB1 := Box.mk (HB0.out.trans (hb1.mono HB0.out.size))
    have HR1 := Box.mk (HR.out.below hb1 HR.out.lt)
    have hmm := @run_makeMap Tryz.prog
    clear hb1
    go_wp2_with fail
    have HBD := Box.mk (comp_build A B ao rs w1 nn cap (HV.out.below HB1.out) (HE.out.below (HB1.out.mono hB)) (HD.out.below (HB1.out.mono hB)) (Nat.le_trans hB HB1.out.size) hl40 HSO.out (by omega))
    have r0 := (HR1.out.cell 0).trans (show _ = some (Value.slice none 0 0) from rfl)
    refine HBD.out.mono ?_
    rintro e w2 ⟨hb2, (⟨hfew, rfl, nv, fv, tv, hnb, hbb, hra, hia⟩ | ⟨hfew, rfl⟩)⟩
    · have HC := Box.mk (show compCode rs nn = 0 by unfold compCode; rw [HRT.out, Int.toNat_natCast, hfew]; rfl)
      have HM := Box.mk (show compM rs nn = machB (D.build (lefts rs) nn 300) by unfold compM; rw [HRT.out, Int.toNat_natCast, hfew]; rfl)
      generalize D.build (lefts rs) nn 300 = BB at *
      obtain ⟨na, nc, rfl⟩ := hra.slice
      obtain ⟨fa, fc, rfl⟩ := hia.slice
      simp only [List.length_map] at hbb hra hia hnb
      have HR2 := Box.mk (HR1.out.below hb2 HR1.out.lt)
      have HB2 := Box.mk (HB1.out.trans (hb2.mono HB1.out.size))
      have HRA := Box.mk hra
      have HIA := Box.mk hia
      have b0 := (hbb.cell 0).trans (show _ = some (Value.slice na _ nc) from rfl)
      have b1 := (hbb.cell 1).trans (show _ = some (Value.slice fa _ fc) from rfl)
      have lb := hbb.lt
      have q0 := (HR2.out.cell 0).trans (show _ = some (Value.slice none 0 0) from rfl)
      have q1 := (HR2.out.cell 1).trans (show _ = some (Value.slice none 0 0) from rfl)
      have f0 := HR2.out.frozen 0
      have f1 := HR2.out.frozen 1
      have lr := HR2.out.lt
      clear hb2 hbb hra hia hfew r0
      generalize BB.next.length = nl at *
      generalize BB.fits.length = fl at *
      have HNB := Box.mk (show ∀ g, (Value.slice na nl nc).ownBlock = some g → w.heap.size < g from fun g hg => by have h1 := hnb g hg; have h2 := HR1.out.lt; omega)
      clear hnb
      go_wp2_with fail
      have hT := (Turns.setCell (own := fun q => q = w.heap.size) w2 (p := ⟨w.heap.size, 0, none⟩) rfl (.slice na nl nc)).trans (Turns.setCell (own := fun q => q = w.heap.size) _ (p := ⟨w.heap.size, 1, none⟩) rfl (.slice fa fl fc))
      have hno : ∀ q, q = w.heap.size → ∀ j x, w2.cell? ⟨q, j, none⟩ ≠ some (.int .i64 x) := by
        rintro q rfl j x h
        rw [HR2.out.cell j] at h
        match j, h with
        | 0, h => cases h
        | 1, h => cases h
        | j + 2, h => simp at h
      exact bodyPost_ret (v := .tuple #[.agg #[.slice na nl nc, .slice fa fl fc], .int .i64 0]) (results_row_tmp Tryz.results27 _ _ w.heap.size 26 #[.slice na nl nc, .slice fa fl fc] (0, 0) _ rfl ((HR2.out.set_ 0 (.slice na nl nc)).set_ 1 (.slice fa fl fc)) Tryz.underlying26 rfl machInfo) rfl
        ⟨(HB2.out.setCell (Nat.le_refl _) _).setCell (Nat.le_refl _) _, _, by rw [HC.out], by rw [HM.out]; exact machB_at (rows_turn HRA.out hT hno (fun g hg e => by have := HNB.out g hg; omega)) (ints_turn HIA.out hT hno)⟩
    · have HC := Box.mk (show compCode rs nn = 100 by unfold compCode; rw [HRT.out, Int.toNat_natCast, hfew]; rfl)
      have HM := Box.mk (show compM rs nn = ([], []) by unfold compM; rw [HRT.out, Int.toNat_natCast, hfew]; rfl)
      have HR2 := Box.mk (HR1.out.below hb2 HR1.out.lt)
      have HB2 := Box.mk (HB1.out.trans (hb2.mono HB1.out.size))
      have HD2 := Box.mk (HD.out.below (HB2.out.mono hB))
      have q0 := (HR2.out.cell 0).trans (show _ = some (Value.slice none 0 0) from rfl)
      have q1 := (HR2.out.cell 1).trans (show _ = some (Value.slice none 0 0) from rfl)
      have f0 := HR2.out.frozen 0
      have f1 := HR2.out.frozen 1
      have lr := HR2.out.lt
      have HT := Box.mk (dtold_any A B 2 (by decide) w2 HD2.out)
      unfold errV at HT
      unfold errV
      clear hb2 hfew r0
      go_wp2_with fail
      refine HT.out.mono ?_; rintro e w3 ⟨rfl, rfl⟩
      go_wp2_with fail
      exact bodyPost_ret (v := .tuple #[.agg #[.slice none 0 0, .slice none 0 0], .int .i64 100]) (results_row_tmp Tryz.results27 _ _ w.heap.size 26 #[.slice none 0 0, .slice none 0 0] (0, 0) _ rfl ((HR2.out.set_ 0 (.slice none 0 0)).set_ 1 (.slice none 0 0)) Tryz.underlying26 rfl machInfo) rfl
        ⟨(HB2.out.setCell (Nat.le_refl _) _).setCell (Nat.le_refl _) _, _, by rw [HC.out], by rw [HM.out]; exact mach_zero _⟩
end Go.Proofs.YtbpcipobdokcfaaGreatDoor

/- TWO LISTS OF NUMBERS COMPARED: the same or not, by each function that does so. -/
namespace Go.Proofs.YtbpcipobdokcfaaGreatDoor
open Go.RowKit

theorem below_drewN0 (w : World) (n : Nat) : Below w.heap.size w (w.drewN n) := ⟨rfl, rfl, rfl, Nat.le_refl _, fun _ _ => rfl⟩
theorem take_eq_step {xs ys : List Int} {k : Nat} {x : Int} (h : xs.take k = ys.take k) (hx : xs[k]? = some x) (hy : ys[k]? = some x) : xs.take (k + 1) = ys.take (k + 1) := by
  rw [List.take_add_one, List.take_add_one, h, hx, hy]
theorem take_ne_step {xs ys : List Int} {k : Nat} {x y : Int} (hx : xs[k]? = some x) (hy : ys[k]? = some y) (h : x ≠ y) : decide (xs = ys) = false := by
  rw [decide_eq_false_iff_not]
  rintro rfl
  rw [hx] at hy
  exact h (by simpa using hy)
theorem ne_of_len {xs ys : List Int} (h : xs.length ≠ ys.length) : decide (xs = ys) = false := by
  rw [decide_eq_false_iff_not]
  rintro rfl
  exact h rfl

set_option maxHeartbeats 1000000 in
theorem ints_eq (a b : Value) (xs ys : List Int) (w : World) (ha : IntsAt w a xs) (hb : IntsAt w b ys) (hz : xs.length ≤ 16777216) (_hz' : ys.length ≤ 16777216) :
    Calls Tryz.prog 16 #[a, b] w fun e w' => e = .returned (.bool (decide (xs = ys))) ∧ Below w.heap.size w w' := by
  by_cases hlen : xs.length = ys.length
  · have HXA := Box.mk ha
    have HYB := Box.mk hb
    obtain ⟨ao, ca, rfl⟩ := ha.slice
    obtain ⟨bo, cb, hv⟩ := hb.slice
    rw [← hlen] at hv
    subst hv
    have HLEN := Box.mk hlen
    clear ha hb hlen _hz'
    go_enter Tryz.func16, Tryz.ntmps16
    go_wp2
    go_loopw [5] (fun i wr => ∃ k n : Nat, k ≤ xs.length ∧ i = .int .i64 k ∧ wr = w.drewN n ∧ Box (xs.take k = ys.take k)) (fun i _ => xs.length - (intOf i).toNat)
    case atStart => exact ⟨0, 0, by omega, rfl, rfl, ⟨rfl⟩⟩
    case round =>
      obtain ⟨k, n, hk, rfl, rfl, hE⟩ := hrel
      by_cases hlt : k < xs.length
      · obtain ⟨x, hx⟩ : ∃ x, xs[k]? = some x := ⟨_, List.getElem?_eq_getElem hlt⟩
        obtain ⟨y, hy⟩ : ∃ y, ys[k]? = some y := ⟨_, List.getElem?_eq_getElem (by rw [← HLEN.out]; exact hlt)⟩
        obtain ⟨ba, oa, ca', ha0, ha1, ha2, ha3, ha4⟩ := HXA.out.get (by rintro rfl; simp at hlt)
        obtain ⟨rfl, rfl⟩ : ao = some ⟨ba, oa, none⟩ ∧ ca = ca' := by injection ha0 with h1 h2 h3; exact ⟨h1, h3⟩
        obtain ⟨bb, ob, cb', hb0, hb1, hb2, hb3, hb4⟩ := HYB.out.get (by rintro rfl; simp at hy)
        obtain ⟨rfl, rfl⟩ : bo = some ⟨bb, ob, none⟩ ∧ cb = cb' := by injection hb0 with h1 h2 h3; exact ⟨h1, h3⟩
        have c1 := ha4 k x hx
        have c2 := hb4 k y hy
        have HX := Box.mk hx
        have HY := Box.mk hy
        rw [← HLEN.out] at hb1
        unfold maxLen at ha2 hb2
        clear ha0 ha4 hb0 hb4 hx hy
        by_cases hxy : x = y
        · subst hxy
          go_wp2
          go_region
          go_wp2
          go_roundw
          case rel => exact ⟨k + 1, n + 1, hlt, by go_num, rfl, ⟨take_eq_step hE.out HX.out HY.out⟩⟩
          case measure => simp [intOf]; omega
        · have HF := Box.mk (take_ne_step HX.out HY.out hxy)
          have hq : (x == y) = false := beq_eq_false_iff_ne.2 hxy
          go_wp2
          go_region
          go_wp2
          all_goals go_ret
          all_goals exact ⟨ret_bool (by rw [HF.out]), below_drewN0 w (n + 1)⟩
      · obtain rfl : k = xs.length := by omega
        have HT := Box.mk (show decide (xs = ys) = true by rw [decide_eq_true_iff]; have := hE.out; rwa [List.take_length, HLEN.out, List.take_length] at this)
        go_wp2
        go_ret
        exact ⟨ret_bool (by rw [HT.out]), below_drewN0 w n⟩
  · have HF := Box.mk (ne_of_len hlen)
    obtain ⟨ao, ca, rfl⟩ := ha.slice
    obtain ⟨bo, cb, rfl⟩ := hb.slice
    have hq : ((xs.length : Int) == (ys.length : Int)) = false := beq_eq_false_iff_ne.2 (by omega)
    clear ha hb
    go_enter Tryz.func16, Tryz.ntmps16
    go_wp2
    all_goals go_ret
    all_goals exact ⟨ret_bool (by rw [HF.out]), below_drewN0 w 0⟩

set_option maxHeartbeats 1000000 in
theorem sets12_eq (a b : Value) (xs ys : List Int) (w : World) (ha : IntsAt w a xs) (hb : IntsAt w b ys) (hz : xs.length ≤ 16777216) (_hz' : ys.length ≤ 16777216) :
    Calls Tryz.prog 78 #[a, b] w fun e w' => e = .returned (.bool (decide (xs = ys))) ∧ Below w.heap.size w w' := by
  by_cases hlen : xs.length = ys.length
  · have HXA := Box.mk ha
    have HYB := Box.mk hb
    obtain ⟨ao, ca, rfl⟩ := ha.slice
    obtain ⟨bo, cb, hv⟩ := hb.slice
    rw [← hlen] at hv
    subst hv
    have HLEN := Box.mk hlen
    clear ha hb hlen _hz'
    go_enter Tryz.func78, Tryz.ntmps78
    go_wp2
    go_loopw [5] (fun i wr => ∃ k n : Nat, k ≤ xs.length ∧ i = .int .i64 k ∧ wr = w.drewN n ∧ Box (xs.take k = ys.take k)) (fun i _ => xs.length - (intOf i).toNat)
    case atStart => exact ⟨0, 0, by omega, rfl, rfl, ⟨rfl⟩⟩
    case round =>
      obtain ⟨k, n, hk, rfl, rfl, hE⟩ := hrel
      by_cases hlt : k < xs.length
      · obtain ⟨x, hx⟩ : ∃ x, xs[k]? = some x := ⟨_, List.getElem?_eq_getElem hlt⟩
        obtain ⟨y, hy⟩ : ∃ y, ys[k]? = some y := ⟨_, List.getElem?_eq_getElem (by rw [← HLEN.out]; exact hlt)⟩
        obtain ⟨ba, oa, ca', ha0, ha1, ha2, ha3, ha4⟩ := HXA.out.get (by rintro rfl; simp at hlt)
        obtain ⟨rfl, rfl⟩ : ao = some ⟨ba, oa, none⟩ ∧ ca = ca' := by injection ha0 with h1 h2 h3; exact ⟨h1, h3⟩
        obtain ⟨bb, ob, cb', hb0, hb1, hb2, hb3, hb4⟩ := HYB.out.get (by rintro rfl; simp at hy)
        obtain ⟨rfl, rfl⟩ : bo = some ⟨bb, ob, none⟩ ∧ cb = cb' := by injection hb0 with h1 h2 h3; exact ⟨h1, h3⟩
        have c1 := ha4 k x hx
        have c2 := hb4 k y hy
        have HX := Box.mk hx
        have HY := Box.mk hy
        rw [← HLEN.out] at hb1
        unfold maxLen at ha2 hb2
        clear ha0 ha4 hb0 hb4 hx hy
        by_cases hxy : x = y
        · subst hxy
          go_wp2
          go_region
          go_wp2
          go_roundw
          case rel => exact ⟨k + 1, n + 1, hlt, by go_num, rfl, ⟨take_eq_step hE.out HX.out HY.out⟩⟩
          case measure => simp [intOf]; omega
        · have HF := Box.mk (take_ne_step HX.out HY.out hxy)
          have hq : (x == y) = false := beq_eq_false_iff_ne.2 hxy
          go_wp2
          go_region
          go_wp2
          all_goals go_ret
          all_goals exact ⟨ret_bool (by rw [HF.out]), below_drewN0 w (n + 1)⟩
      · obtain rfl : k = xs.length := by omega
        have HT := Box.mk (show decide (xs = ys) = true by rw [decide_eq_true_iff]; have := hE.out; rwa [List.take_length, HLEN.out, List.take_length] at this)
        go_wp2
        go_ret
        exact ⟨ret_bool (by rw [HT.out]), below_drewN0 w n⟩
  · have HF := Box.mk (ne_of_len hlen)
    obtain ⟨ao, ca, rfl⟩ := ha.slice
    obtain ⟨bo, cb, rfl⟩ := hb.slice
    have hq : ((xs.length : Int) == (ys.length : Int)) = false := beq_eq_false_iff_ne.2 (by omega)
    clear ha hb
    go_enter Tryz.func78, Tryz.ntmps78
    go_wp2
    all_goals go_ret
    all_goals exact ⟨ret_bool (by rw [HF.out]), below_drewN0 w 0⟩

end Go.Proofs.YtbpcipobdokcfaaGreatDoor

/- A NUMBER AS A CLASS OF SO MANY; which machines are right. -/
namespace Go.Proofs.YtbpcipobdokcfaaGreatDoor
open Go.RowKit Go.Shelf
attribute [local go_sem] Oper.semAt_some

/-- a number as a column, of n + 1 -/
def colOf (n : Nat) (c : Int) : Nat := if 0 ≤ c ∧ c < n then c.toNat else n
theorem colOf_le (n : Nat) (c : Int) : colOf n c ≤ n := by unfold colOf; split <;> omega
theorem i64_xor_zero (b : Nat) (hb : b < 9223372036854775808) : bits .xor .i64 0 (b : Int) = (b : Int) := by
  show IntKind.i64.wrap ((BitVec.ofInt 64 (0 : Int) ^^^ BitVec.ofInt 64 (b : Int)).toNat : Int) = _
  rw [BitVec.toNat_xor, ofInt_i64 b hb, show (BitVec.ofInt 64 0).toNat = 0 from rfl, Nat.zero_xor, IntKind.wrap_i64]
  omega
theorem has_all (n : Nat) (c : Int) (h : n ≤ 32) : N.hasC ((2 ^ n - 1 : Nat) : Int) c = decide (0 ≤ c ∧ c < n) := by
  unfold N.hasC
  have h1 : 2 ^ n ≤ 2 ^ 32 := Nat.pow_le_pow_right (by omega) h
  have h2 : 0 < 2 ^ n := Nat.two_pow_pos n
  rw [Bool.eq_iff_iff]
  simp only [Bool.and_eq_true, decide_eq_true_eq, Int.toNat_natCast, Nat.testBit_two_pow_sub_one]
  constructor
  · rintro ⟨⟨⟨⟨-, -⟩, h3⟩, -⟩, h4⟩
    exact ⟨h3, by omega⟩
  · rintro ⟨h3, h4⟩
    exact ⟨⟨⟨⟨by omega, by omega⟩, h3⟩, by omega⟩, by omega⟩

set_option maxHeartbeats 1000000 in
theorem cnot_any (n : Nat) (w : World) (h1 : 1 ≤ n) (h2 : n ≤ 32) :
    Calls Tryz.prog 86 #[.int .i64 0, .int .i64 n] w fun e w' => e = .returned (.int .i64 ((2 ^ n - 1 : Nat) : Int)) ∧ w = w' := by
  have hb : 2 ^ n ≤ 2 ^ 32 := Nat.pow_le_pow_right (by omega) h2
  have hp : 0 < 2 ^ n := Nat.two_pow_pos n
  have HS := Box.mk (show setN (n : Int) 0 = true by rw [show (0 : Int) = ((0 : Nat) : Int) from rfl, setN_nat n 0 h1 h2]; exact decide_eq_true hp)
  have HW := Box.mk (show wrap64 ((2 : Int) ^ n) = (2 : Int) ^ n by rw [pow_cast]; generalize 2 ^ n = z at hb hp ⊢; exact IntWalk.wrap64_in _ (by omega))
  have HW2 := Box.mk (show wrap64 ((2 : Int) ^ n - 1) = ((2 ^ n - 1 : Nat) : Int) by rw [pow_cast]; generalize 2 ^ n = z at hb hp ⊢; rw [show ((z : Int) - 1) = ((z - 1 : Nat) : Int) by omega]; exact IntWalk.wrap64_in _ (by omega))
  have HX := Box.mk (i64_xor_zero (2 ^ n - 1) (by omega))
  clear hb hp
  go_enter Tryz.func86, Tryz.ntmps86
  go_wp2_with (go_at_call 108; refine (crightn_any _ _ _).mono ?_; rintro e w1 ⟨rfl, rfl⟩; rw [HS.out])
  go_ret
  refine ⟨ret_int ?_, rfl⟩
  rw [HW.out, HW2.out, HX.out]

theorem in_any (c : Int) (n : Nat) (w : World) (h1 : 1 ≤ n) (h2 : n ≤ 32) :
    Calls Tryz.prog 59 #[.int .i64 c, .int .i64 n] w fun e w' => e = .returned (.int .i64 (colOf n c)) ∧ w = w' := by
  have HN := Box.mk (cnot_any n w h1 h2)
  have hh := has_all n c h2
  by_cases hc : 0 ≤ c ∧ c < n
  · have HH := Box.mk (hh.trans (decide_eq_true hc))
    have HC := Box.mk (show c = (colOf n c : Int) by unfold colOf; rw [if_pos hc]; omega)
    clear hh hc
    go_enter Tryz.func59, Tryz.ntmps59
    go_wp2_with fail
    refine HN.out.mono ?_; rintro e w1 ⟨rfl, rfl⟩
    go_wp2_with (go_at_call 87; refine (chas_any _ _ _).mono ?_; rintro e w1 ⟨rfl, rfl⟩; rw [HH.out])
    go_ret
    exact ⟨ret_int HC.out, rfl⟩
  · have HH := Box.mk (hh.trans (decide_eq_false hc))
    have HC := Box.mk (show (n : Int) = (colOf n c : Int) by unfold colOf; rw [if_neg hc])
    clear hh hc
    go_enter Tryz.func59, Tryz.ntmps59
    go_wp2_with fail
    refine HN.out.mono ?_; rintro e w1 ⟨rfl, rfl⟩
    go_wp2_with (go_at_call 87; refine (chas_any _ _ _).mono ?_; rintro e w1 ⟨rfl, rfl⟩; rw [HH.out])
    go_ret
    exact ⟨ret_int HC.out, rfl⟩
end Go.Proofs.YtbpcipobdokcfaaGreatDoor

/- THE DOCUMENT's LEAVES OF LAYER 12: the set of one rule, which rules are done, a step, a list's place among lists. -/
namespace Go.Proofs.YtbpcipobdokcfaaGreatDoor
open Go.RowKit Go.Shelf
attribute [local go_sem] Oper.semAt_some

theorem rbit12_any (n : Nat) (w : World) (hn : n ≤ 40) :
    Calls Tryz.prog 80 #[.int .i64 n] w fun e w' => e = .returned (.int .i64 ((2 ^ n : Nat) : Int)) ∧ w = w' := by
  go_enter Tryz.func80, Tryz.ntmps80
  go_wp2
  go_loop [4, 3] (fun i o => ∃ (k : Nat) (x : Int), k ≤ n ∧ i = .int .i64 k ∧ o = .int .i64 x ∧ 0 ≤ x ∧ x ≤ 1099511627776 ∧ Box (x = 2 ^ k)) (fun i _ => n - (intOf i).toNat)
  case atStart => exact ⟨0, 1, by omega, rfl, rfl, by omega, by omega, ⟨rfl⟩⟩
  case round =>
    obtain ⟨k, x, hk, rfl, rfl, hx0, hx1, hx⟩ := hrel
    by_cases hlt : k < n
    · have h2 := pow_le (k + 1) (by omega)
      have HX := Box.mk (show 2 * x = 2 ^ (k + 1) by rw [hx.out, Int.pow_succ]; omega)
      have HY := Box.mk (show 2 * x ≤ 1099511627776 by rw [HX.out]; exact h2)
      clear h2
      go_wp2
      go_round
      case rel => exact ⟨k + 1, 2 * x, hlt, by go_num, rfl, by omega, HY.out, HX⟩
      case measure => simp [intOf]; omega
    · obtain rfl : k = n := by omega
      go_wp2
      go_ret
      exact ⟨by rw [hx.out]; simp, rfl⟩

def zs (S : List Nat) : List Int := S.map fun x : Nat => (x : Int)
theorem zs_len (S : List Nat) : (zs S).length = S.length := by simp [zs]
theorem zs_get {S : List Nat} {i x : Nat} (h : S[i]? = some x) : (zs S)[i]? = some (x : Int) := by unfold zs; rw [List.getElem?_map, h]; rfl
theorem zs_inj {S T : List Nat} (h : zs S = zs T) : S = T := by
  unfold zs at h
  exact List.map_inj_right (fun a b h => by omega) |>.1 h
theorem doneTo_le (rs : List D.Side) (S : D.Sets) (k : Nat) (h : k ≤ 40) : D.doneTo rs S k ≤ 1099511627776 := by
  have := D.doneTo_lt rs S k
  have h2 : 2 ^ k ≤ 2 ^ 40 := Nat.pow_le_pow_right (by omega) h
  omega

set_option maxRecDepth 100000 in
set_option maxHeartbeats 4000000 in
theorem rdone12_any (rv sv : Value) (rs : List D.Rule) (S : D.Sets) (w : World) (hR : RulesAt w rv rs) (hl : rs.length ≤ 40) (hr : ∀ x ∈ rs, rightB x.1.2 = true) (hS : D.Good (lefts rs) S) (hv : IntsAt w sv (zs S)) :
    Calls Tryz.prog 52 #[rv, sv] w fun e w' => e = .returned (.int .i64 (D.doneTo (lefts rs) S rs.length)) ∧ Below w.heap.size w w' := by
  have HR := Box.mk hR
  have HRI := Box.mk hr
  have HS := Box.mk hS
  have HV := Box.mk hv
  have hsl : S.length = rs.length := by rw [hS.1, lefts_len]
  obtain ⟨ao, cap, rfl⟩ := hR.slice
  obtain ⟨so, scap, rfl⟩ := hv.slice
  rw [zs_len, hsl] at HV ⊢
  clear hR hr hS hv
  go_enter Tryz.func52, Tryz.ntmps52
  go_wp2_with fail
  go_loopw [5, 6] (fun o i wr => ∃ k : Nat, k ≤ rs.length ∧ i = .int .i64 k ∧ o = .int .i64 (D.doneTo (lefts rs) S k) ∧ Box (Below w.heap.size w wr)) (fun _ i _ => rs.length - (intOf i).toNat)
  case atStart => exact ⟨0, by omega, rfl, rfl, ⟨Below.refl _ _⟩⟩
  case round =>
    obtain ⟨k, hk, rfl, rfl, hbr⟩ := hrel
    by_cases hlt : k < rs.length
    · obtain ⟨x, hx⟩ : ∃ x, rs[k]? = some x := ⟨_, List.getElem?_eq_getElem hlt⟩
      obtain ⟨bg, off, cap2, hg1, hg2, hg3, hg4, hg5⟩ := (HR.out.below hbr.out).get (by rintro rfl; simp at hlt)
      obtain ⟨rfl, rfl⟩ : ao = some ⟨bg, off, none⟩ ∧ cap = cap2 := by injection hg1 with h1 h2 h3; exact ⟨h1, h3⟩
      obtain ⟨vl, vr, hc0, hc1, hc2, hc3, hc4, hil, hir⟩ := hg5 k x hx
      have hrx := HRI.out x (List.mem_of_getElem? hx)
      have hgood := HS.out.2 k (by rw [lefts_len]; exact hlt)
      rw [lefts_at hx] at hgood
      have hSk : S[k]? = some (S.getD k 0) := by
        have : k < S.length := by omega
        rw [List.getD, List.getElem?_eq_getElem this]; rfl
      obtain ⟨sg, soff, scap2, ks1, ks2, ks3, ks4, ks5⟩ := (HV.out.below hbr.out).get (by intro e; have := congrArg List.length e; rw [zs_len] at this; simp at this; subst this; simp at hSk)
      rw [zs_len, hsl] at ks1 ks2
      obtain ⟨rfl, rfl⟩ : so = some ⟨sg, soff, none⟩ ∧ scap = scap2 := by injection ks1 with h1 h2 h3; exact ⟨h1, h3⟩
      have cs := ks5 k _ (zs_get hSk)
      have HDA := Box.mk (show doneV x.1.2 (S.getD k 0 : Nat) = D.doneAt (lefts rs) S k by unfold doneV D.doneAt; rw [setOk_of_lt hrx hgood, Int.toNat_natCast, lefts_at hx]; rfl)
      have HDN := Box.mk (fun W (h : Below wr.heap.size wr W) => rpdone_any x.1.1 vl x.1.2 (S.getD k 0 : Nat) W (hil.below h) (by have := right_len hrx; omega))
      obtain ⟨al, cl, rfl⟩ := hil.slice
      obtain ⟨ar, cr, rfl⟩ := hir.slice
      generalize S.getD k 0 = sk at *
      unfold maxLen at hg3 ks3
      obtain ⟨⟨stl, il⟩, ⟨str, ir⟩, br⟩ := x
      simp only at hc0 hc1 hc2 hc3 hc4 HDA HDN
      clear hx hg1 hg5 hil hir hrx hgood hSk ks1 ks5
      have hk40 : k < 40 := by omega
      have hd1 := doneTo_le (lefts rs) S k (by omega)
      have hd2 := doneTo_le (lefts rs) S (k + 1) (by omega)
      cases hd : D.doneAt (lefts rs) S k with
      | true =>
        have HD := Box.mk hd
        have HDL := Box.mk (show D.doneTo (lefts rs) S k + 2 ^ k = D.doneTo (lefts rs) S (k + 1) by rw [D.doneTo_add]; unfold D.doneTo; rw [if_pos hd]; cases k <;> rfl)
        clear hd
        go_wp2_with fail
        go_region_with ((go_at_call 79; refine (HDN.out _ ?_).mono ?_; exact below_drewN (Below.refl _ _) _; rintro e w3 ⟨rfl, hb3⟩; rw [HDA.out, HD.out]; have HB3 := Box.mk (show Below wr.heap.size wr w3 from Below.mono ⟨hb3.os, hb3.tape, hb3.output, hb3.size, hb3.block⟩ (Nat.le_refl _)); clear hb3))
        all_goals
          have HB3' := Box.mk (show Below w.heap.size w w3 from hbr.out.trans (HB3.out.mono hbr.out.size))
          go_wp2_with (go_at_call 80; refine (rbit12_any k _ (by omega)).mono ?_; rintro e w4 ⟨rfl, rfl⟩)
          have HSUM := Box.mk (show (D.doneTo (lefts rs) S k : Int) + 2 ^ k = (D.doneTo (lefts rs) S (k + 1) : Int) by rw [← HDL.out]; simp)
          go_roundw
          case rel => exact ⟨k + 1, hlt, by go_num, by rw [HSUM.out]; exact vint (IntWalk.wrap64_in _ (by omega)), HB3'⟩
          case measure => simp [intOf]; omega
      | false =>
        have HD := Box.mk hd
        have HDL := Box.mk (show D.doneTo (lefts rs) S (k + 1) = D.doneTo (lefts rs) S k by rw [D.doneTo, if_neg (by rw [hd]; decide)])
        clear hd
        go_wp2_with fail
        go_region_with ((go_at_call 79; refine (HDN.out _ ?_).mono ?_; exact below_drewN (Below.refl _ _) _; rintro e w3 ⟨rfl, hb3⟩; rw [HDA.out, HD.out]; have HB3 := Box.mk (show Below wr.heap.size wr w3 from Below.mono ⟨hb3.os, hb3.tape, hb3.output, hb3.size, hb3.block⟩ (Nat.le_refl _)); clear hb3))
        all_goals
          have HB3' := Box.mk (show Below w.heap.size w w3 from hbr.out.trans (HB3.out.mono hbr.out.size))
          go_wp2_with fail
          go_roundw
          case rel => exact ⟨k + 1, hlt, by go_num, by rw [HDL.out], HB3'⟩
          case measure => simp [intOf]; omega
    · obtain rfl : k = rs.length := by omega
      go_wp2_with fail
      go_ret
      exact ⟨rfl, hbr.out⟩
end Go.Proofs.YtbpcipobdokcfaaGreatDoor

/- THE DOCUMENT's LEAVES OF LAYERS 11 AND 12: a step of a list of sets, a list's place among lists, which rules are right. -/
namespace Go.Proofs.YtbpcipobdokcfaaGreatDoor
open Go.RowKit Go.Shelf
attribute [local go_sem] Oper.semAt_some

theorem pushI64 : Pushes Tryz.prog 24 2 8 := .mk' (z := .int .i64 0) Tryz.underlying24 (by kernel_rfl) rfl
theorem pushInt : Pushes Tryz.prog 27 3 8 := .mk' (z := .int .i64 0) Tryz.underlying27 (by kernel_rfl) rfl

theorem row_ints {w : World} {base n : Nat} {T : TypeId} {v : Value} {S : List Nat} (h : w.ownsRow base T 1 v n (S.map natV)) (hn : n = S.length) : IntsAt w v (zs S) := ints_own h hn
theorem stepAll_take {rs : List D.Side} {S : D.Sets} {c : Int} {k : Nat} (h : k < rs.length) : (D.stepAll rs S c).take (k + 1) = (D.stepAll rs S c).take k ++ [D.stepAt rs S c k] := take_snoc' _ _ _ (D.stepAll_get rs S c k h)

set_option maxRecDepth 100000 in
set_option maxHeartbeats 4000000 in
theorem rstep12_any (rv sv : Value) (rs : List D.Rule) (S : D.Sets) (c : Int) (w : World) (hR : RulesAt w rv rs) (hl : rs.length ≤ 40) (hr : ∀ x ∈ rs, rightB x.1.2 = true) (hS : D.Good (lefts rs) S) (hv : IntsAt w sv (zs S)) :
    Calls Tryz.prog 50 #[rv, sv, .int .i64 c] w fun e w' => Below w.heap.size w w' ∧ ∃ v, e = .returned v ∧ w'.ownsRow w.heap.size 2 1 v rs.length ((D.stepAll (lefts rs) S c).map natV) := by
  have HR := Box.mk hR
  have HRI := Box.mk hr
  have HS := Box.mk hS
  have HV := Box.mk hv
  have hsl : S.length = rs.length := by rw [hS.1, lefts_len]
  obtain ⟨ao, cap, rfl⟩ := hR.slice
  obtain ⟨so, scap, rfl⟩ := hv.slice
  rw [zs_len, hsl] at HV ⊢
  obtain ⟨T, hT⟩ : ∃ T, D.stepAll (lefts rs) S c = T := ⟨_, rfl⟩
  have HT := Box.mk (fun (k : Nat) (h : k < rs.length) => show (T.take (k + 1)).map natV = (T.take k).map natV ++ [natV (D.stepAt (lefts rs) S c k)] by rw [← hT, stepAll_take (by rw [lefts_len]; exact h), List.map_append]; rfl)
  have HTL := Box.mk (show T.length = rs.length by rw [← hT, D.stepAll_len, lefts_len])
  rw [hT]
  clear hR hr hS hv hT
  have HSEP0 := Box.mk ((Sep.start w).nil_row w.heap.size 1 2)
  go_enter Tryz.func50, Tryz.ntmps50
  go_wp2_with fail
  go_loopw [7, 8] (fun o i wr => ∃ k : Nat, k ≤ rs.length ∧ i = .int .i64 k ∧ Box (Sep [Pc.row w.heap.size 2 1 o k ((T.take k).map natV), Pc.old w.heap.size w] wr)) (fun _ i _ => rs.length - (intOf i).toNat)
  case atStart => exact ⟨0, by omega, rfl, HSEP0⟩
  case round =>
    obtain ⟨k, hk, rfl, hsep⟩ := hrel
    have HBR := Box.mk (show Below w.heap.size w wr from hsep.out.bel (by simp))
    by_cases hlt : k < rs.length
    · obtain ⟨x, hx⟩ : ∃ x, rs[k]? = some x := ⟨_, List.getElem?_eq_getElem hlt⟩
      obtain ⟨bg, off, cap2, hg1, hg2, hg3, hg4, hg5⟩ := (HR.out.below HBR.out).get (by rintro rfl; simp at hlt)
      obtain ⟨rfl, rfl⟩ : ao = some ⟨bg, off, none⟩ ∧ cap = cap2 := by injection hg1 with h1 h2 h3; exact ⟨h1, h3⟩
      obtain ⟨vl, vr, hc0, hc1, hc2, hc3, hc4, hil, hir⟩ := hg5 k x hx
      have hrx := HRI.out x (List.mem_of_getElem? hx)
      have hgood := HS.out.2 k (by rw [lefts_len]; exact hlt)
      rw [lefts_at hx] at hgood
      have hSk : S[k]? = some (S.getD k 0) := by
        have : k < S.length := by omega
        rw [List.getD, List.getElem?_eq_getElem this]; rfl
      obtain ⟨sg, soff, scap2, ks1, ks2, ks3, ks4, ks5⟩ := (HV.out.below HBR.out).get (by intro e; have := congrArg List.length e; rw [zs_len] at this; simp at this; subst this; simp at hSk)
      rw [zs_len, hsl] at ks1 ks2
      obtain ⟨rfl, rfl⟩ : so = some ⟨sg, soff, none⟩ ∧ scap = scap2 := by injection ks1 with h1 h2 h3; exact ⟨h1, h3⟩
      have cs := ks5 k _ (zs_get hSk)
      have HTK := Box.mk (show (T.take (k + 1)).map natV = (T.take k).map natV ++ [Value.int .i64 ((N.step x.1.2 x.1.1 (S.getD k 0) c : Nat) : Int)] by
        rw [HT.out k hlt]; unfold D.stepAt; rw [lefts_at hx]; rfl)
      have HV2 := Box.mk (show stepV x.1.2 x.1.1 (S.getD k 0 : Nat) c = .tuple #[.int .i64 (N.step x.1.2 x.1.1 (S.getD k 0) c), .int .i64 0] by rw [stepV_yes (setOk_of_lt hrx hgood), Int.toNat_natCast])
      have HST := Box.mk (fun W (h : Below wr.heap.size wr W) => rpstep_any x.1.1 vl x.1.2 (S.getD k 0 : Nat) c W (hil.below h) (by have := right_len hrx; omega))
      obtain ⟨al, cl, rfl⟩ := hil.slice
      obtain ⟨ar, cr, rfl⟩ := hir.slice
      generalize S.getD k 0 = sk at *
      unfold maxLen at hg3 ks3
      obtain ⟨⟨stl, il⟩, ⟨str, ir⟩, br⟩ := x
      simp only at hc0 hc1 hc2 hc3 hc4 HTK HV2 HST
      clear hx hg1 hg5 hil hir hrx hgood hSk ks1 ks5
      go_wp2_with fail
      go_region_with ((go_at_call 77; refine (HST.out _ ?_).mono ?_; exact below_drewN (Below.refl _ _) _; rintro e w3 ⟨rfl, hb3⟩; rw [HV2.out]; have HB3 := Box.mk (show Below wr.heap.size wr w3 from Below.mono ⟨hb3.os, hb3.tape, hb3.output, hb3.size, hb3.block⟩ (Nat.le_refl _)); clear hb3))
      all_goals
        have HS3 := Box.mk (hsep.out.below HB3.out)
        have hlb : w.heap.size ≤ w3.heap.size := Nat.le_trans HBR.out.size HB3.out.size
        go_wp2_with (at_builtin; refine wpList_push rfl _ _ 24 rfl pushI64 HS3.out 0 rfl rfl rfl rfl (by omega) (by omega) hlb ?_; rintro v' w4 hS4 -)
        rw [← HTK.out] at hS4
        have HS4 := Box.mk hS4
        clear hS4
        go_wp2_with fail
        go_roundw
        case rel => exact ⟨k + 1, hlt, by go_num, HS4⟩
        case measure => simp [intOf]; omega
    · obtain rfl : k = rs.length := by omega
      have HF := Box.mk (show T.take rs.length = T by rw [← HTL.out, List.take_length])
      go_wp2_with fail
      go_ret
      refine ⟨HBR.out, _, rfl, ?_⟩
      have := hsep.out.row 0 rfl
      rwa [HF.out] at this

theorem rowsAt_take_place {t : List D.Sets} {s : D.Sets} {k : Nat} (h : s ∉ t.take k) (hk : t[k]? = some s) : D.place t s = k := by
  unfold D.place
  have hlt := (List.getElem?_eq_some_iff.1 hk).1
  have h1 : List.idxOf s t ≤ k := by
    rcases Nat.lt_or_ge k (List.idxOf s t) with h3 | h3
    · exfalso
      unfold List.idxOf at h3
      have h4 := List.not_of_lt_findIdx h3
      rw [(List.getElem?_eq_some_iff.1 hk).2] at h4
      simp at h4
    · exact h3
  rcases Nat.lt_or_ge (List.idxOf s t) k with h2 | h2
  · exfalso
    apply h
    have hm : s ∈ t := List.mem_of_getElem? hk
    have := List.getElem_idxOf (List.idxOf_lt_length_of_mem hm)
    rw [← this]
    rw [List.mem_take_iff_getElem]
    exact ⟨List.idxOf s t, by have := List.idxOf_lt_length_of_mem hm; omega, rfl⟩
  · omega

set_option maxHeartbeats 4000000 in
theorem met12_any (av sv : Value) (t : List D.Sets) (s : D.Sets) (w : World) (hA : RowsAt w av (t.map zs)) (hz : t.length ≤ 16777216) (hzt : ∀ x ∈ t, x.length ≤ 40) (hs : s.length ≤ 40) (hv : IntsAt w sv (zs s)) :
    Calls Tryz.prog 51 #[av, sv] w fun e w' => e = .returned (.int .i64 (D.place t s)) ∧ Below w.heap.size w w' := by
  have HA := Box.mk hA
  have HV := Box.mk hv
  have HZ := Box.mk hzt
  obtain ⟨ao, cap, rfl⟩ := hA.slice
  obtain ⟨so, scap, rfl⟩ := hv.slice
  rw [List.length_map] at HA ⊢
  clear hA hv hzt
  go_enter Tryz.func51, Tryz.ntmps51
  go_wp2_with fail
  go_loopw [5] (fun i wr => ∃ k : Nat, k ≤ t.length ∧ i = .int .i64 k ∧ Box (s ∉ t.take k) ∧ Box (Below w.heap.size w wr)) (fun i _ => t.length - (intOf i).toNat)
  case atStart => exact ⟨0, by omega, rfl, ⟨by simp⟩, ⟨Below.refl _ _⟩⟩
  case round =>
    obtain ⟨k, hk, rfl, hn, hbr⟩ := hrel
    by_cases hlt : k < t.length
    · obtain ⟨x, hx⟩ : ∃ x, t[k]? = some x := ⟨_, List.getElem?_eq_getElem hlt⟩
      obtain ⟨bg, off, cap2, hg1, hg2, hg3, hg4, hg5⟩ := (HA.out.below hbr.out).get (by intro e; have := congrArg List.length e; simp at this; subst this; simp at hlt)
      rw [List.length_map] at hg1 hg2
      obtain ⟨rfl, rfl⟩ : ao = some ⟨bg, off, none⟩ ∧ cap = cap2 := by injection hg1 with h1 h2 h3; exact ⟨h1, h3⟩
      obtain ⟨xv, hc, hxi⟩ := hg5 k (zs x) (by rw [List.getElem?_map, hx]; rfl)
      have HSE := Box.mk (sets12_eq xv _ (zs x) (zs s) wr hxi (HV.out.below hbr.out) (by have := HZ.out x (List.mem_of_getElem? hx); rw [zs_len]; omega) (by rw [zs_len]; omega))
      have HX := Box.mk hx
      unfold maxLen at hg3
      clear hx hg1 hg5 hxi
      by_cases hxs : x = s
      · subst hxs
        have HD := Box.mk (show decide (zs x = zs x) = true by simp)
        have HP := Box.mk (rowsAt_take_place hn.out HX.out)
        go_wp2_with (go_at_call 78; refine HSE.out.mono ?_; rintro e w1 ⟨rfl, hb1⟩; rw [HD.out])
        go_ret
        exact ⟨ret_int (by rw [HP.out]), hbr.out.trans (hb1.mono hbr.out.size)⟩
      · have HD := Box.mk (show decide (zs x = zs s) = false by rw [decide_eq_false_iff_not]; exact fun e => hxs (zs_inj e))
        have HN := Box.mk (show s ∉ t.take (k + 1) by rw [take_snoc' _ _ _ HX.out, List.mem_append]; rintro (h | h); exact hn.out h; exact hxs (List.mem_singleton.1 h).symm)
        go_wp2_with (go_at_call 78; refine HSE.out.mono ?_; rintro e w1 ⟨rfl, hb1⟩; rw [HD.out])
        go_roundw
        case rel => exact ⟨k + 1, hlt, by go_num, HN, ⟨hbr.out.trans (hb1.mono hbr.out.size)⟩⟩
        case measure => simp [intOf]; omega
    · obtain rfl : k = t.length := by omega
      have HP := Box.mk (show D.place t s = t.length from D.place_new (by have := hn.out; rwa [List.take_length] at this))
      go_wp2_with fail
      go_ret
      exact ⟨ret_int (by rw [HP.out]), hbr.out⟩
end Go.Proofs.YtbpcipobdokcfaaGreatDoor

/- WHICH RULES ARE RIGHT: the document's answer. -/
namespace Go.Proofs.YtbpcipobdokcfaaGreatDoor
open Go.RowKit Go.Shelf

theorem rulesB_no {n : Int} {l : List D.Rule} {k : Nat} {x : D.Rule} (h : l[k]? = some x) (hx : ruleB n x = false) : rulesB n l = false := by
  unfold rulesB
  rw [allr_no n l k x h hx]
  simp
set_option maxHeartbeats 4000000 in
theorem rules11_any (v : Value) (l : List D.Rule) (n : Int) (w : World) (hf : ∀ x ∈ l, ruleFit x) (hv : RulesAt w v l) (hz : l.length ≤ 16777216) :
    Calls Tryz.prog 48 #[v, .int .i64 n] w fun e w' => e = .returned (.bool (rulesB n l)) ∧ Below w.heap.size w w' := by
  have HR := Box.mk hv
  have HF := Box.mk hf
  obtain ⟨ao, cap, rfl⟩ := hv.slice
  clear hv hf
  go_enter Tryz.func48, Tryz.ntmps48
  go_wp2_with fail
  go_loopw [5] (fun i wr => ∃ k : Nat, k ≤ l.length ∧ i = .int .i64 k ∧ Box ((l.take k).all (ruleB n) = true) ∧ Box (Below w.heap.size w wr)) (fun i _ => l.length - (intOf i).toNat)
  case atStart => exact ⟨0, by omega, rfl, ⟨rfl⟩, ⟨Below.refl _ _⟩⟩
  case round =>
    obtain ⟨k, hk, rfl, ha, hbr⟩ := hrel
    by_cases hlt : k < l.length
    · obtain ⟨x, hx⟩ : ∃ x, l[k]? = some x := ⟨_, List.getElem?_eq_getElem hlt⟩
      obtain ⟨bg, off, cap2, hg1, hg2, hg3, hg4, hg5⟩ := (HR.out.below hbr.out).get (by rintro rfl; simp at hlt)
      obtain ⟨rfl, rfl⟩ : ao = some ⟨bg, off, none⟩ ∧ cap = cap2 := by injection hg1 with h1 h2 h3; exact ⟨h1, h3⟩
      obtain ⟨vl, vr, hc0, hc1, hc2, hc3, hc4, hil, hir⟩ := hg5 k x hx
      have hfx := HF.out x (List.mem_of_getElem? hx)
      have HL := Box.mk (fun W (h : Below wr.heap.size wr W) => rprightn_any x.1.1 vl x.1.2 n W (hil.below h) hfx.1)
      have HRR := Box.mk (fun W (h : Below wr.heap.size wr W) => rprightn_any x.2.1.1 vr x.2.1.2 n W (hir.below h) hfx.2)
      have HX := Box.mk hx
      unfold maxLen at hg3
      obtain ⟨⟨stl, il⟩, ⟨str, ir⟩, br⟩ := x
      simp only at hc0 hc1 hc2 hc3 hc4 HL HRR
      clear hx hg1 hg5 hil hir hfx
      cases hr1 : rightN n il with
      | false =>
        have HNO := Box.mk (rulesB_no HX.out (show ruleB n ((stl, il), (str, ir), br) = false by unfold ruleB; rw [hr1]; rfl))
        have HQ := Box.mk hr1
        clear hr1
        go_wp2_with (go_at_call 65; refine (HL.out _ (Below.refl _ _)).mono ?_; rintro e w1 ⟨rfl, hb1⟩; rw [HQ.out])
        go_ret
        exact ⟨ret_bool (by rw [HNO.out]), hbr.out.trans (hb1.mono hbr.out.size)⟩
      | true =>
        have HQ := Box.mk hr1
        cases hr2 : rightN n ir with
        | false =>
          have HNO := Box.mk (rulesB_no HX.out (show ruleB n ((stl, il), (str, ir), br) = false by unfold ruleB; rw [hr1, hr2]; rfl))
          have HQ2 := Box.mk hr2
          clear hr1 hr2
          go_wp2_with fail
          refine (HL.out _ (Below.refl _ _)).mono ?_; rintro e w1 ⟨rfl, hb1⟩; rw [HQ.out]
          have HB1 := Box.mk hb1
          have d0 := (hb1.cell (p := ⟨bg, off + k * 5 + 2, none⟩) hg4).trans hc2
          have d1 := (hb1.cell (p := ⟨bg, off + k * 5 + 3, none⟩) hg4).trans hc3
          clear hb1
          go_wp2_with fail
          refine (HRR.out _ HB1.out).mono ?_; rintro e w2 ⟨rfl, hb2⟩; rw [HQ2.out]
          have HB2 := Box.mk (HB1.out.trans (hb2.mono HB1.out.size))
          clear hb2
          go_wp2_with fail
          go_ret
          exact ⟨ret_bool (by rw [HNO.out]), hbr.out.trans (HB2.out.mono hbr.out.size)⟩
        | true =>
          have HQ2 := Box.mk hr2
          cases str with
          | true =>
            have HNO := Box.mk (rulesB_no HX.out (show ruleB n ((stl, il), (true, ir), br) = false by unfold ruleB; rw [hr1, hr2]; rfl))
            clear hr1 hr2
            go_wp2_with fail
            refine (HL.out _ (Below.refl _ _)).mono ?_; rintro e w1 ⟨rfl, hb1⟩; rw [HQ.out]
            have HB1 := Box.mk hb1
            have d0 := (hb1.cell (p := ⟨bg, off + k * 5 + 2, none⟩) hg4).trans hc2
            have d1 := (hb1.cell (p := ⟨bg, off + k * 5 + 3, none⟩) hg4).trans hc3
            clear hb1
            go_wp2_with fail
            refine (HRR.out _ HB1.out).mono ?_; rintro e w2 ⟨rfl, hb2⟩; rw [HQ2.out]
            have HB2 := Box.mk (HB1.out.trans (hb2.mono HB1.out.size))
            have d2 := (HB2.out.cell (p := ⟨bg, off + k * 5 + 2, none⟩) hg4).trans hc2
            clear hb2 d0 d1
            go_wp2_with fail
            go_ret
            exact ⟨ret_bool (by rw [HNO.out]), hbr.out.trans (HB2.out.mono hbr.out.size)⟩
          | false =>
            have HT := Box.mk (allr_take n l k _ HX.out ha.out (show ruleB n ((stl, il), (false, ir), br) = true by unfold ruleB; rw [hr1, hr2]; rfl))
            clear hr1 hr2
            go_wp2_with fail
            refine (HL.out _ (Below.refl _ _)).mono ?_; rintro e w1 ⟨rfl, hb1⟩; rw [HQ.out]
            have HB1 := Box.mk hb1
            have d0 := (hb1.cell (p := ⟨bg, off + k * 5 + 2, none⟩) hg4).trans hc2
            have d1 := (hb1.cell (p := ⟨bg, off + k * 5 + 3, none⟩) hg4).trans hc3
            clear hb1
            go_wp2_with fail
            refine (HRR.out _ HB1.out).mono ?_; rintro e w2 ⟨rfl, hb2⟩; rw [HQ2.out]
            have HB2 := Box.mk (HB1.out.trans (hb2.mono HB1.out.size))
            have d2 := (HB2.out.cell (p := ⟨bg, off + k * 5 + 2, none⟩) hg4).trans hc2
            clear hb2 d0 d1
            go_wp2_with fail
            go_roundw
            case rel => exact ⟨k + 1, hlt, by go_num, HT, ⟨hbr.out.trans (HB2.out.mono hbr.out.size)⟩⟩
            case measure => simp [intOf]; omega
    · obtain rfl : k = l.length := by omega
      have HT := Box.mk (show rulesB n l = (decide (1 ≤ n) && decide (n ≤ 32) && decide (l.length ≤ 40)) by
        unfold rulesB; have := ha.out; rw [List.take_length] at this; rw [this, Bool.and_true])
      clear ha
      rcases (show n < 1 ∨ (1 ≤ n ∧ 32 < n) ∨ (1 ≤ n ∧ n ≤ 32) by omega) with h | ⟨h, h'⟩ | ⟨h, h'⟩
      · go_wp2_with fail
        go_ret
        exact ⟨ret_bool (by rw [HT.out]; simp; omega), hbr.out⟩
      · go_wp2_with fail
        go_ret
        exact ⟨ret_bool (by rw [HT.out]; simp; omega), hbr.out⟩
      · rcases Nat.lt_or_ge 40 l.length with h40 | h40
        · go_wp2_with fail
          go_ret
          exact ⟨ret_bool (by rw [HT.out, decide_eq_true h, decide_eq_true h', Bool.true_and, Bool.true_and, decide_eq_decide]; omega), hbr.out⟩
        · go_wp2_with fail
          go_ret
          exact ⟨ret_bool (by rw [HT.out]; simp [h, h', h40]; omega), hbr.out⟩
end Go.Proofs.YtbpcipobdokcfaaGreatDoor

/- RULES' MACHINE, BY THE DOCUMENT. -/
namespace Go.Proofs.YtbpcipobdokcfaaGreatDoor
open Go.RowKit Go.Shelf
attribute [local go_sem] Oper.semAt_some

theorem pushRows64 : Pushes Tryz.prog 91 24 24 := .mk' (z := .slice none 0 0) Tryz.underlying91 (by kernel_rfl) rfl
theorem pushRowsInt : Pushes Tryz.prog 23 27 24 := .mk' (z := .slice none 0 0) Tryz.underlying23 (by kernel_rfl) rfl
def nvs (L : List (List Nat)) : List (List Value) := L.map fun r => r.map natV
theorem nvs_len (L : List (List Nat)) : (nvs L).length = L.length := by simp [nvs]
theorem nvs_snoc (L : List (List Nat)) (r : List Nat) : nvs (L ++ [r]) = nvs L ++ [r.map natV] := by simp [nvs]
theorem rows_at {W : World} {base : Nat} {E e : TypeId} {v : Value} {vs : List Value} {L : List (List Nat)} (h : (Pc.rows base E e v vs (nvs L)).ok W) : RowsAt W v (L.map zs) := by
  obtain ⟨h0, h1, h2⟩ := h
  have hl : vs.length = L.length := by rw [nvs_len] at h0; simpa using h0
  rcases h1.2 with ⟨h3, h4⟩ | ⟨g, cap, cur, h3, h4, h5, h6, h7, h8, h9⟩
  · refine .inl ⟨h3, ?_⟩
    rw [List.eq_nil_of_length_eq_zero (show L.length = 0 by omega)]; rfl
  · refine .inr ⟨g, 0, none, cap, by rw [h3, List.length_map, hl], by rw [List.length_map]; omega, h7, fun hn => ⟨rfl, (Array.getElem?_eq_some_iff.1 h5).1, fun i r hr => ?_⟩⟩
    rw [List.getElem?_map] at hr
    obtain ⟨r0, h10, rfl⟩ := Option.map_eq_some_iff.1 hr
    obtain ⟨x, hx, hxr, -⟩ := h2 i (r0.map natV) (by unfold nvs; rw [List.getElem?_map, h10]; rfl)
    refine ⟨x, ?_, row_ints hxr (by simp)⟩
    have := h1.cells (g := g) (by rw [h3]; rfl) i x hx
    rw [show (⟨g, 0 + i, none⟩ : Addr) = (⟨g, 0, none⟩ : Addr).add i by unfold Addr.add; by_cases h0 : i = 0 <;> simp [h0]]
    exact this
theorem RowsAt.cap_le {w : World} {ao : Option Addr} {cap n : Nat} {l : List (List Int)} (h : RowsAt w (.slice ao n cap) l) : l.length ≤ cap ∧ cap ≤ 9223372036854775807 := by
  rcases h with ⟨h1, h2⟩ | ⟨b, off, sp, cap', h1, h2, h3, h4⟩
  · injection h1 with _ _ h3; subst h2; subst h3; simp
  · injection h1 with _ _ h5; subst h5; unfold maxLen at h3; omega

theorem firstAll_take {rs : List D.Side} {k : Nat} (h : k < rs.length) : (D.firstAll rs).take (k + 1) = (D.firstAll rs).take k ++ [D.firstAt rs k] := take_snoc' _ _ _ (by unfold D.firstAll; rw [List.getElem?_map, List.getElem?_range h]; rfl)
theorem place_eq_len {t : List D.Sets} {s : D.Sets} (h : D.place t s = t.length) : s ∉ t := fun hm => by have := D.place_lt hm; omega
theorem add_new {t : List D.Sets} {s : D.Sets} (h : s ∉ t) : D.add t s = t ++ [s] := by unfold D.add; rw [if_neg h]
theorem add_old {t : List D.Sets} {s : D.Sets} (h : s ∈ t) : D.add t s = t := by unfold D.add; rw [if_pos h]

theorem no_few {sd : List D.Side} {n K j : Nat} {T : List D.Sets} {NX : List (List Nat)} {FX : List Nat} {S : D.Sets} (hb : D.build sd n K = ⟨T, NX, FX⟩) (hk : NX.length = K) (hK : K + 1 ≤ 300) (hS : T[K]? = some S) (hj : j + 1 ≤ n + 1) (hl : 300 < (D.row sd n S T (j + 1)).2.length) : D.isFew sd n = false := by
  refine D.few_no _ _ (k := K + 1) hK ?_
  have e : D.build sd n (K + 1) = (D.build sd n K).go sd n := rfl
  rw [e, hb, D.go_some _ _ (b := ⟨T, NX, FX⟩) (S := S) (by show T[NX.length]? = some S; rw [hk]; exact hS)]
  exact Nat.lt_of_lt_of_le hl (D.row_le (rs := sd) (n := n) (S := S) (t := T) hj)
theorem build_next {sd : List D.Side} {n K : Nat} {T t' : List D.Sets} {NX : List (List Nat)} {FX r : List Nat} {S : D.Sets} (hb : D.build sd n K = ⟨T, NX, FX⟩) (hk : NX.length = K) (hS : T[K]? = some S) (hr : D.row sd n S T (n + 1) = (r, t')) :
    D.build sd n (K + 1) = ⟨t', NX ++ [r], FX ++ [D.doneTo sd S sd.length]⟩ := by
  have e : D.build sd n (K + 1) = (D.build sd n K).go sd n := rfl
  rw [e, hb, D.go_some _ _ (b := ⟨T, NX, FX⟩) (S := S) (by show T[NX.length]? = some S; rw [hk]; exact hS)]
  simp only
  rw [hr]
/-- the pieces between two states -/
def COut (w : World) (rs : List D.Rule) (n K g : Nat) (allv : Value) (wr : World) : Prop :=
  ∃ nv fv us us2, Sep [Pc.rows w.heap.size 24 2 allv us (nvs (D.build (lefts rs) n K).todo), Pc.blk g 26 #[nv, fv], Pc.rows w.heap.size 27 3 nv us2 (nvs (D.build (lefts rs) n K).next),
    Pc.row w.heap.size 2 1 fv K ((D.build (lefts rs) n K).fits.map natV), Pc.blk w.heap.size 26 #[.slice none 0 0, .slice none 0 0], Pc.old w.heap.size w] wr
/-- the pieces within a state's row -/
def CInn (w : World) (t : List D.Sets) (r : List Nat) (next : List (List Nat)) (fits : List Nat) (K g j : Nat) (nv fv : Value) (us2 : List Value) (allv cv : Value) (wr : World) : Prop :=
  ∃ us, Sep [Pc.row w.heap.size 3 1 cv j (r.map natV), Pc.rows w.heap.size 24 2 allv us (nvs t), Pc.blk g 26 #[nv, fv], Pc.rows w.heap.size 27 3 nv us2 (nvs next),
    Pc.row w.heap.size 2 1 fv K (fits.map natV), Pc.blk w.heap.size 26 #[.slice none 0 0, .slice none 0 0], Pc.old w.heap.size w] wr

set_option maxRecDepth 100000 in
set_option maxHeartbeats 8000000 in
theorem compile12_any (v : Value) (rs : List D.Rule) (n : Int) (w : World) (hf : ∀ x ∈ rs, ruleFit x) (hv : RulesAt w v rs) (hz : rs.length ≤ 16777216) :
    Calls Tryz.prog 29 #[v, .int .i64 n] w (compPost rs n w) := by
  have hb0 := alloc_below w (.cells #[.slice none 0 0, .slice none 0 0] 26)
  have HP := Box.mk (rules11_any v rs n _ hf (hv.below hb0) hz)
  have HB0 := Box.mk hb0
  have HR := Box.mk (Blk.new w 26 #[.slice none 0 0, .slice none 0 0])
  have HS0 := Box.mk ((Sep.start w).alloc_blk 26 #[.slice none 0 0, .slice none 0 0])
  have HV := Box.mk hv
  obtain ⟨ao, cap, rfl⟩ := hv.slice
  obtain ⟨hc1, hc2⟩ := hv.cap_le
  clear hv hb0
  cases hr : rulesB n rs with
  | false =>
    have HRT := Box.mk hr
    have HC := Box.mk (show compCode rs n = 90 by unfold compCode; rw [hr]; rfl)
    have HM := Box.mk (show compM rs n = ([], []) by unfold compM; rw [hr]; rfl)
    clear hr
    go_enter Tryz.func29, Tryz.ntmps29
    go_wp2_with fail
    refine HP.out.mono ?_; rintro e w1 ⟨rfl, hb1⟩; rw [HRT.out]
    have HB1 := Box.mk (HB0.out.trans (hb1.mono HB0.out.size))
    have HR1 := Box.mk (HR.out.below hb1 HR.out.lt)
    have r0 := (HR1.out.cell 0).trans (show _ = some (Value.slice none 0 0) from rfl)
    have r1 := (HR1.out.cell 1).trans (show _ = some (Value.slice none 0 0) from rfl)
    have f0 := HR1.out.frozen 0
    have f1 := HR1.out.frozen 1
    have lr := HR1.out.lt
    clear hb1
    go_wp2_with fail
    exact bodyPost_ret (v := .tuple #[.agg #[.slice none 0 0, .slice none 0 0], .int .i64 90]) (results_row_tmp Tryz.results29 _ _ w.heap.size 26 #[.slice none 0 0, .slice none 0 0] (0, 0) _ rfl ((HR1.out.set_ 0 (.slice none 0 0)).set_ 1 (.slice none 0 0)) Tryz.underlying26 rfl machInfo) rfl
      ⟨(HB1.out.setCell (Nat.le_refl _) _).setCell (Nat.le_refl _) _, _, by rw [HC.out], by rw [HM.out]; exact mach_zero _⟩
  | true =>
    have HRT := Box.mk hr
    obtain ⟨hn1, hn2, hl40, hso⟩ := rulesB_parts hr
    obtain ⟨nn, rfl⟩ := Int.eq_ofNat_of_zero_le (show 0 ≤ n by omega)
    have HSO := Box.mk hso
    have HFL := Box.mk (D.firstAll_len (lefts rs))
    have HFT := Box.mk (fun (k : Nat) (h : k < rs.length) => show ((D.firstAll (lefts rs)).take (k + 1)).map natV = ((D.firstAll (lefts rs)).take k).map natV ++ [natV (D.firstAt (lefts rs) k)] by rw [firstAll_take (by rw [lefts_len]; exact h), List.map_append]; rfl)
    clear hr hso
    go_enter Tryz.func29, Tryz.ntmps29
    go_wp2_with fail
    refine HP.out.mono ?_; rintro e w1 ⟨rfl, hb1⟩; rw [HRT.out]
    have HS1 := Box.mk (((HS0.out.below hb1)).nil_row w.heap.size 1 2)
    clear hb1
    go_wp2_with fail
    go_loopw [6, 7] (fun o i wr => ∃ k : Nat, k ≤ rs.length ∧ i = .int .i64 k ∧ Box (Sep [Pc.row w.heap.size 2 1 o k (((D.firstAll (lefts rs)).take k).map natV), Pc.blk w.heap.size 26 #[.slice none 0 0, .slice none 0 0], Pc.old w.heap.size w] wr)) (fun _ i _ => rs.length - (intOf i).toNat)
    case atStart => exact ⟨0, by omega, rfl, HS1⟩
    case round =>
      obtain ⟨k, hk, rfl, hsep⟩ := hrel
      have HBR := Box.mk (show Below w.heap.size w wr from hsep.out.bel (by simp))
      by_cases hlt : k < rs.length
      · obtain ⟨x, hx⟩ : ∃ x, rs[k]? = some x := ⟨_, List.getElem?_eq_getElem hlt⟩
        obtain ⟨bg, off, cap2, hg1, hg2, hg3, hg4, hg5⟩ := (HV.out.below HBR.out).get (by rintro rfl; simp at hlt)
        obtain ⟨rfl, rfl⟩ : ao = some ⟨bg, off, none⟩ ∧ cap = cap2 := by injection hg1 with h1 h2 h3; exact ⟨h1, h3⟩
        obtain ⟨vl, vr, hc0, hc1, hc2, hc3, hc4, hil, hir⟩ := hg5 k x hx
        have hrx := HSO.out x (List.mem_of_getElem? hx)
        have HTK := Box.mk (show ((D.firstAll (lefts rs)).take (k + 1)).map natV = ((D.firstAll (lefts rs)).take k).map natV ++ [Value.int .i64 ((N.clo x.1.2 0 : Nat) : Int)] by rw [HFT.out k hlt]; unfold D.firstAt; rw [lefts_at hx]; rfl)
        have HV2 := Box.mk (show firstV x.1.2 = .tuple #[.int .i64 (N.clo x.1.2 0), .int .i64 0] by unfold firstV; rw [hrx]; rfl)
        have HST := Box.mk (rfirst_any x.1.1 vl x.1.2 wr hil (by have := right_len hrx; omega))
        unfold maxLen at hg3
        obtain ⟨⟨stl, il⟩, ⟨str, ir⟩, br⟩ := x
        simp only at hc0 hc1 hc2 hc3 hc4 HTK HV2 HST
        clear hx hg1 hg5 hil hir hrx
        go_wp2_with fail
        refine HST.out.mono ?_; rintro e w3 ⟨rfl, hb3⟩; rw [HV2.out]
        have HS3 := Box.mk (hsep.out.below hb3)
        have hlb : w.heap.size ≤ w3.heap.size := Nat.le_trans HBR.out.size hb3.size
        clear hb3
        go_wp2_with (at_builtin; refine wpList_push rfl _ _ 24 rfl pushI64 HS3.out 0 rfl rfl rfl rfl (by omega) (by omega) hlb ?_; rintro v' w4 hS4 -)
        rw [← HTK.out] at hS4
        have HS4 := Box.mk hS4
        clear hS4
        go_wp2_with fail
        go_roundw
        case rel => exact ⟨k + 1, hlt, by go_num, HS4⟩
        case measure => simp [intOf]; omega
      · obtain rfl : k = rs.length := by omega
        have HFA := Box.mk (show (D.firstAll (lefts rs)).take rs.length = D.firstAll (lefts rs) by rw [← lefts_len rs, ← HFL.out, List.take_length])
        have hsep' := hsep.out
        rw [HFA.out] at hsep'
        obtain ⟨fa, fc, rfl, hfc1, hfc2⟩ := own_shape (hsep'.row 0 rfl)
        have HSA := Box.mk ((Sep.rows_one (E := 24) (xs := (D.firstAll (lefts rs)).map natV) (by rw [List.length_map, HFL.out, lefts_len]; exact hsep') HBR.out.size).alloc_blk 26 #[.slice none 0 0, .slice none 0 0])
        clear hsep hsep'
        go_upto_region 11 with (fail)
        obtain ⟨g, hg⟩ : ∃ g, g = wr.heap.size + 1 := ⟨_, rfl⟩
        obtain ⟨W2, hW2⟩ : ∃ W2, W2 = (wr.alloc (.cells #[.slice fa rs.length fc] 24)).alloc (.cells #[.slice none 0 0, .slice none 0 0] 26) := ⟨_, rfl⟩
        rw [← hW2, ← hg]
        have HCO := Box.mk (show COut w rs nn 0 g (.slice (some ⟨wr.heap.size, 0, none⟩) 1 1) W2 by
          have h1 := HSA.out
          rw [← hW2, show (wr.alloc (.cells #[.slice fa rs.length fc] 24)).heap.size = g by rw [hg]; simp] at h1
          have h2 := ((h1.nil_row w.heap.size 1 2).nil_rows w.heap.size 27 3)
          exact ⟨_, _, _, _, ((h2.front 1 rfl).front 1 rfl |>.front 2 rfl).front 3 rfl⟩)
        have HK0 := Box.mk (show (D.build (lefts rs) nn 0).next.length = 0 ∧ 0 ≤ (D.build (lefts rs) nn 0).todo.length ∧ (D.build (lefts rs) nn 0).todo.length ≤ 300 from ⟨rfl, Nat.zero_le _, (show (1 : Nat) ≤ 300 from by decide)⟩)
        have HGW := Box.mk (show w.heap.size ≤ g by have := HBR.out.size; omega)
        clear HSA HFA HFL HFT HS1 HS0 HP HB0 HR hk hlt hfc1 hfc2 hW2 hg
        go_wp2_with fail
        go_loopw [10, 12] (fun allv i wo => ∃ K : Nat, K ≤ 300 ∧ i = .int .i64 K ∧ Box (COut w rs nn K g allv wo) ∧ Box ((D.build (lefts rs) nn K).next.length = K ∧ K ≤ (D.build (lefts rs) nn K).todo.length ∧ (D.build (lefts rs) nn K).todo.length ≤ 300)) (fun _ i _ => 301 - (intOf i).toNat)
        case atStart => exact ⟨0, by omega, rfl, HCO, HK0⟩
        case round =>
          obtain ⟨K, hK, rfl, hco, hkk⟩ := hrel
          obtain ⟨nv, fv, us, us2, hso⟩ := hco.out
          obtain ⟨T, hT⟩ : ∃ T, (D.build (lefts rs) nn K).todo = T := ⟨_, rfl⟩
          obtain ⟨NX, hNX⟩ : ∃ NX, (D.build (lefts rs) nn K).next = NX := ⟨_, rfl⟩
          obtain ⟨FX, hFX⟩ : ∃ FX, (D.build (lefts rs) nn K).fits = FX := ⟨_, rfl⟩
          have HBD := Box.mk (show D.build (lefts rs) nn K = ⟨T, NX, FX⟩ by rw [← hT, ← hNX, ← hFX])
          obtain ⟨hk1, hk2, hk3⟩ := hkk.out
          have hgoodT := D.good_build (lefts rs) nn K
          rw [hT] at hk2 hk3 hgoodT hso
          rw [hNX] at hk1 hso
          rw [hFX] at hso
          have HGT := Box.mk hgoodT
          have HUS := Box.mk (show us.length = T.length by have := (hso.at' 0 rfl).1; rw [nvs_len] at this; simpa using this)
          obtain ⟨aa, ac, hav, hac1, hac2⟩ := own_shape (hso.at' 0 rfl).2.1
          rw [HUS.out] at hav
          subst hav
          have HSO2 := Box.mk hso
          clear hco hkk hgoodT hso hT hNX hFX
          by_cases hlt : K < T.length
          · obtain ⟨S, hS⟩ : ∃ S, T[K]? = some S := ⟨_, List.getElem?_eq_getElem hlt⟩
            have HS := Box.mk hS
            have HGS := Box.mk (HGT.out S (List.mem_of_getElem? hS))
            have HIN0 := Box.mk (show CInn w T [] NX FX K g 0 nv fv us2 (.slice aa T.length ac) (.slice none 0 0) wr from ⟨us, HSO2.out.nil_row _ _ _⟩)
            clear hS
            go_wp2_with fail
            go_loopw [10, 13, 14] (fun allv cv c wi => ∃ j : Nat, j ≤ nn + 1 ∧ c = .int .i64 j ∧ Box (CInn w (D.row (lefts rs) nn S T j).2 (D.row (lefts rs) nn S T j).1 NX FX K g j nv fv us2 allv cv wi) ∧ Box ((D.row (lefts rs) nn S T j).2.length ≤ 300)) (fun _ _ c _ => nn + 1 - (intOf c).toNat)
            case atStart => exact ⟨0, by omega, rfl, HIN0, ⟨hk3⟩⟩
            case round =>
              obtain ⟨j, hj, rfl, hci, hle⟩ := hrel
              obtain ⟨us, hsi⟩ := hci.out
              obtain ⟨⟨r, t'⟩, hrow⟩ : ∃ q, D.row (lefts rs) nn S T j = q := ⟨_, rfl⟩
              have HROW := Box.mk hrow
              have hpre := D.row_pre (lefts rs) nn S T j
              have hrl := D.row_len (lefts rs) nn S T j
              rw [hrow] at hsi hle hpre hrl
              simp only at hsi hle hpre hrl
              have HUS := Box.mk (show us.length = t'.length by have := (hsi.at' 1 rfl).1; rw [nvs_len] at this; simpa using this)
              have HGT' := Box.mk (show ∀ x ∈ t', D.Good (lefts rs) x by
                have := D.row_all (rs := lefts rs) (n := nn) (S := S) (t := T) HGT.out (fun c => D.good_step (lefts rs) S c) j
                rw [hrow] at this
                exact this)
              have HSI := Box.mk hsi
              have HBI := Box.mk (show Below w.heap.size w wr from hsi.bel (by simp))
              obtain ⟨ca, cc, rfl, hcc1, hcc2⟩ := own_shape (hsi.row 0 rfl)
              have HRA := Box.mk (rows_at (hsi.at' 1 rfl))
              have hS' := D.pre_get hpre HS.out
              have hKt : K < t'.length := (List.getElem?_eq_some_iff.1 hS').1
              have hle' := hle.out
              by_cases hjn : j ≤ nn
              · obtain ⟨ab, aoff, acap, hav, ha2, ha3, ha4, ha5⟩ := HRA.out.get (by intro e; have := congrArg List.length e; simp at this; subst this; simp at hKt)
                rw [List.length_map] at hav ha2
                subst hav
                obtain ⟨xv, hcx, hxi⟩ := ha5 K (zs S) (by rw [List.getElem?_map, hS']; rfl)
                obtain ⟨cc', hcc, hjc⟩ : ∃ cc : Int, D.cls nn j = cc ∧ ((j = nn ∧ cc = -1) ∨ (j < nn ∧ cc = (j : Int))) := by
                  refine ⟨_, rfl, ?_⟩
                  unfold D.cls
                  rcases Nat.lt_or_ge j nn with h | h
                  · exact .inr ⟨h, by rw [if_neg (by omega)]⟩
                  · exact .inl ⟨by omega, by rw [if_pos (by omega)]⟩
                obtain ⟨s, hs⟩ : ∃ s, D.stepAll (lefts rs) S cc' = s := ⟨_, rfl⟩
                have HST := Box.mk (rstep12_any (.slice ao rs.length cap) xv rs S cc' wr (HV.out.below HBI.out) hl40 HSO.out HGS.out hxi)
                rw [hs] at HST
                have HSL := Box.mk (show s.length = rs.length by rw [← hs, D.stepAll_len, lefts_len])
                have HRS := Box.mk (show D.row (lefts rs) nn S T (j + 1) = (r ++ [D.place t' s], D.add t' s) by rw [D.row_succ, HROW.out, hcc, hs])
                unfold maxLen at ha3
                have hKc : K < acap := by omega
                clear hsi hci hpre hS' ha5 hxi hrow hs hcc
                have HNEXT : Calls Tryz.prog 50 #[.slice ao rs.length cap, xv, .int .i64 cc'] wr fun e w' => Box (Below wr.heap.size wr w') ∧ ∃ la lc, e = .returned (.slice la rs.length lc) ∧ Box (Sep [Pc.row w.heap.size 2 1 (.slice la rs.length lc) rs.length (s.map natV), Pc.row w.heap.size 3 1 (.slice ca j cc) j (r.map natV), Pc.rows w.heap.size 24 2 (.slice (some ⟨ab, aoff, none⟩) t'.length acap) us (nvs t'), Pc.blk g 26 #[nv, fv], Pc.rows w.heap.size 27 3 nv us2 (nvs NX),
                    Pc.row w.heap.size 2 1 fv K (FX.map natV), Pc.blk w.heap.size 26 #[.slice none 0 0, .slice none 0 0], Pc.old w.heap.size w] w') := HST.out.mono (by
                  rintro e w3 ⟨hb3, lv, rfl, hlr⟩
                  obtain ⟨la, lc, rfl, -, -⟩ := own_shape hlr
                  exact ⟨⟨hb3⟩, la, lc, rfl, ⟨HSI.out.got hb3 hlr HBI.out.size⟩⟩)
                have HNX := Box.mk HNEXT
                clear HNEXT HST
                have hjc2 : (((j : Int) == (nn : Int)) = true ∧ cc' = -1) ∨ (((j : Int) == (nn : Int)) = false ∧ cc' = (j : Int)) := by
                  rcases hjc with ⟨h, h'⟩ | ⟨h, h'⟩
                  · exact .inl ⟨by rw [beq_iff_eq]; omega, h'⟩
                  · exact .inr ⟨beq_eq_false_iff_ne.2 (by omega), h'⟩
                clear hjc
                rcases hjc2 with ⟨hjn', rfl⟩ | ⟨hjn', rfl⟩
                all_goals
                  go_wp2_with fail
                  refine HNX.out.mono ?_; rintro e w3 ⟨hb3, la, lc, rfl, hs3⟩
                  have HME := Box.mk (met12_any (.slice (some ⟨ab, aoff, none⟩) t'.length acap) (.slice la rs.length lc) t' s w3 (rows_at (hs3.out.at' 2 rfl)) (by omega) (fun x hx => by rw [(HGT'.out x hx).1, lefts_len]; exact hl40) (by rw [HSL.out]; exact hl40) (row_ints (hs3.out.row 0 rfl) HSL.out.symm))
                  obtain ⟨p, hp⟩ : ∃ p, D.place t' s = p := ⟨_, rfl⟩
                  have HPL := Box.mk hp
                  have hple := D.place_le t' s
                  rw [hp] at HME hple
                  rw [hp] at HRS
                  clear hp
                  rcases (show (p = 300 ∧ t'.length = 300) ∨ (p < 300 ∧ p = t'.length) ∨ (p < 300 ∧ p < t'.length) by omega) with ⟨hp1, hp2⟩ | ⟨hp1, hp2⟩ | ⟨hp1, hp2⟩
                  · have q1 : ((p : Int) == 300) = true := by rw [beq_iff_eq]; omega
                    have HP1 := Box.mk hp1
                    have HP2 := Box.mk hp2
                    have HK1 := Box.mk (show K + 1 ≤ 300 by omega)
                    clear hp1 hp2 hple
                    go_wp2_with fail
                    refine HME.out.mono ?_; rintro e w4 ⟨rfl, hb4⟩
                    have HS4 := Box.mk (hs3.out.below hb4)
                    have HNF := Box.mk (no_few HBD.out hk1 HK1.out HS.out (show j + 1 ≤ nn + 1 by omega) (by rw [HRS.out]; simp only; rw [add_new (place_eq_len (by rw [HPL.out, HP1.out, HP2.out])), List.length_append, HP2.out]; exact Nat.lt_succ_self 300))
                    have HC := Box.mk (show compCode rs nn = 100 by unfold compCode; rw [HRT.out, Int.toNat_natCast, HNF.out]; rfl)
                    have HM := Box.mk (show compM rs nn = ([], []) by unfold compM; rw [HRT.out, Int.toNat_natCast, HNF.out]; rfl)
                    have HR1 := Box.mk (HS4.out.blk 6 rfl)
                    have HB1 := Box.mk (show Below w.heap.size w w4 from HS4.out.bel (by simp))
                    have r0 := (HR1.out.cell 0).trans (show _ = some (Value.slice none 0 0) from rfl)
                    have r1 := (HR1.out.cell 1).trans (show _ = some (Value.slice none 0 0) from rfl)
                    have f0 := HR1.out.frozen 0
                    have f1 := HR1.out.frozen 1
                    have lr := HR1.out.lt
                    clear hb4
                    go_wp2_with fail
                    exact bodyPost_ret (v := .tuple #[.agg #[.slice none 0 0, .slice none 0 0], .int .i64 100]) (results_row_tmp Tryz.results29 _ _ w.heap.size 26 #[.slice none 0 0, .slice none 0 0] (0, 0) _ rfl ((HR1.out.set_ 0 (.slice none 0 0)).set_ 1 (.slice none 0 0)) Tryz.underlying26 rfl machInfo) rfl
                      ⟨(HB1.out.setCell (Nat.le_refl _) _).setCell (Nat.le_refl _) _, _, by rw [HC.out], by rw [HM.out]; exact mach_zero _⟩
                  · go_wp2_with fail
                    refine HME.out.mono ?_; rintro e w4 ⟨rfl, hb4⟩
                    have HS4 := Box.mk (hs3.out.below hb4)
                    subst hp2
                    have q1 : ((t'.length : Int) == 300) = false := beq_eq_false_iff_ne.2 (by omega)
                    have hb4s : w.heap.size ≤ w4.heap.size := by have := hb3.out.size; have := hb4.size; have := HBI.out.size; omega
                    have hul : us.length ≤ 1000000000 := by rw [HUS.out]; omega
                    have HADD := Box.mk (show nvs (D.add t' s) = nvs t' ++ [s.map natV] by rw [add_new (place_eq_len HPL.out), nvs_snoc])
                    have HAL := Box.mk (show (D.add t' s).length ≤ 300 by rw [add_new (place_eq_len HPL.out), List.length_append]; simp; omega)
                    have HJL := Box.mk (show j ≤ 1000000000 by omega)
                    clear hb4
                    go_wp2_with (first
                      | (at_builtin; refine wpList_push_rows rfl _ _ 91 rfl pushRows64 HS4.out 1 rfl rfl rfl rfl (by rw [List.length_map, HSL.out]) hul (by omega) hb4s ?_; rintro v' w5 hS5 ⟨g5, c5, rfl, h51, h52⟩; have hb5s := (hS5.bel (n := w.heap.size) (W0 := w) (by simp)).size)
                      | (at_builtin; refine wpList_push rfl _ _ 27 rfl pushInt hS5 0 rfl rfl rfl rfl HJL.out (by omega) hb5s ?_; rintro v' w6 hS6 -))
                    have HCI := Box.mk (show CInn w (D.row (lefts rs) nn S T (j + 1)).2 (D.row (lefts rs) nn S T (j + 1)).1 NX FX K g (j + 1) nv fv us2 (.slice (some ⟨g5, 0, none⟩) (us.length + 1) c5) v' w6 by
                      rw [HRS.out]
                      unfold CInn
                      simp only
                      rw [HADD.out, List.map_append]
                      exact ⟨_, hS6⟩)
                    clear hS5 hS6
                    go_wp2_with fail
                    go_roundw
                    case rel => exact ⟨j + 1, by omega, by go_num, HCI, ⟨by rw [HRS.out]; exact HAL.out⟩⟩
                    case measure => simp [intOf]; omega
                  · go_wp2_with fail
                    refine HME.out.mono ?_; rintro e w4 ⟨rfl, hb4⟩
                    have HS4 := Box.mk (hs3.out.below hb4).tail
                    have q1 : ((p : Int) == 300) = false := beq_eq_false_iff_ne.2 (by omega)
                    have q2 : ((p : Int) == (t'.length : Int)) = false := beq_eq_false_iff_ne.2 (by omega)
                    have hb4s : w.heap.size ≤ w4.heap.size := by have := hb3.out.size; have := hb4.size; have := HBI.out.size; omega
                    have hmem : s ∈ t' := by
                      rcases Classical.em (s ∈ t') with h | h
                      · exact h
                      · have := D.place_new h; rw [HPL.out] at this; omega
                    have HADD := Box.mk (add_old hmem)
                    have HJL := Box.mk (show j ≤ 1000000000 by omega)
                    clear hb4 hmem
                    go_wp2_with (at_builtin; refine wpList_push rfl _ _ 27 rfl pushInt HS4.out 0 rfl rfl rfl rfl HJL.out (by omega) hb4s ?_; rintro v' w6 hS6 -)
                    have HCI := Box.mk (show CInn w (D.row (lefts rs) nn S T (j + 1)).2 (D.row (lefts rs) nn S T (j + 1)).1 NX FX K g (j + 1) nv fv us2 (.slice (some ⟨ab, aoff, none⟩) t'.length acap) v' w6 by
                      rw [HRS.out]
                      unfold CInn
                      simp only
                      rw [HADD.out, List.map_append]
                      exact ⟨_, hS6⟩)
                    clear hS6
                    go_wp2_with fail
                    go_roundw
                    case rel => exact ⟨j + 1, by omega, by go_num, HCI, ⟨by rw [HRS.out]; simp only; rw [HADD.out]; exact hle'⟩⟩
                    case measure => simp [intOf]; omega
              · obtain ⟨na, nc, rfl, hnc1, hnc2⟩ := own_shape (hsi.at' 3 rfl).2.1
                obtain ⟨fa', fc', rfl, hfc1, hfc2⟩ := own_shape (hsi.row 4 rfl)
                have HUS2 := Box.mk (show us2.length = NX.length by have := (hsi.at' 3 rfl).1; rw [nvs_len] at this; simpa using this)
                have hu2 : us2.length ≤ 1000000000 := by rw [HUS2.out, hk1]; omega
                have hbs : w.heap.size ≤ wr.heap.size := HBI.out.size
                have HG0 := Box.mk (hsi.blk 2 rfl)
                have cg0 : wr.cell? ⟨g, 0, none⟩ = some (.slice na us2.length nc) := (HG0.out.cell 0).trans rfl
                have lg := HG0.out.lt
                have HLR := Box.mk (show j = (r.map natV).length by rw [List.length_map, hrl])
                have hj' : j = nn + 1 := by omega
                have HJ := Box.mk hj'
                have HSI' := Box.mk hsi
                clear hsi hci hpre hS' hrl hrow hj'
                go_wp2_with (at_builtin; refine wpList_push_rows rfl _ _ 23 rfl pushRowsInt HSI'.out 2 rfl rfl rfl rfl HLR.out hu2 (by omega) hbs ?_; rintro v' w5 hS5 ⟨g5, c5, rfl, h51, h52⟩; have HG5 := Box.mk (hS5.blk 1 rfl); have e0 := (HG5.out.cell 0).trans (show _ = some (Value.slice na us2.length nc) from rfl); have f0 := HG5.out.frozen 0; have l5 := HG5.out.lt; have HS6 := Box.mk (hS5.set 1 rfl 0 (.slice (some ⟨g5, 0, none⟩) (us2.length + 1) c5)))
                simp only [List.set] at HS6
                generalize w5.setCell ⟨g, 0, none⟩ (.slice (some ⟨g5, 0, none⟩) (us2.length + 1) c5) = w6 at HS6 ⊢
                clear e0 f0 l5 HG5 hS5 HSI' cg0 lg HG0 hu2 hbs
                have hbs6 : w.heap.size ≤ w6.heap.size := (HS6.out.bel (n := w.heap.size) (W0 := w) (by simp)).size
                have HS'' := Box.mk (show t'[K]? = some S from D.pre_get (by have := D.row_pre (lefts rs) nn S T j; rw [HROW.out] at this; exact this) HS.out)
                obtain ⟨WR, hWR⟩ : ∃ WR, WR = w6.drew := ⟨_, rfl⟩
                have HSR := Box.mk (show Sep _ WR by rw [hWR]; exact HS6.out.drew)
                have hbsR : w.heap.size ≤ WR.heap.size := by rw [hWR]; exact hbs6
                have HBR := Box.mk (show Below w.heap.size w WR from HSR.out.bel (by simp))
                have hra6 := rows_at (HSR.out.at' 0 rfl)
                obtain ⟨ab, aoff, acap, hav, ha2, ha3, ha4, ha5⟩ := hra6.get (by intro e; have := congrArg List.length e; simp at this; subst this; simp at hKt)
                rw [List.length_map] at hav ha2
                subst hav
                obtain ⟨xv, hcx, hxi⟩ := ha5 K (zs S) (by rw [List.getElem?_map, HS''.out]; rfl)
                unfold maxLen at ha3
                have HDN := Box.mk (rdone12_any (.slice ao rs.length cap) xv rs S WR (HV.out.below HBR.out) hl40 HSO.out HGS.out hxi)
                have HG := Box.mk (HSR.out.blk 1 rfl)
                have HFB := Box.mk (show ∀ W', Below WR.heap.size WR W' → W'.cell? ⟨g, 1, none⟩ = some (.slice fa' K fc') ∧ W'.cell? ⟨ab, aoff + K, none⟩ = some xv from fun W' h => ⟨((HG.out.below h HG.out.lt).cell 1).trans rfl, (h.cell (p := ⟨ab, aoff + K, none⟩) ha4).trans hcx⟩)
                have hF0 := HFB.out WR (Below.refl _ _)
                have lgR := HG.out.lt
                clear hcx ha5 hxi hra6 hbs6 HS6
                refine wp_region_K 9 (fun W => W.cell? ⟨g, 1, none⟩ = some (.slice fa' K fc') ∧ W.cell? ⟨ab, aoff + K, none⟩ = some xv) (by kernel_rfl) ?_
                rw [← hWR]
                clear hWR
                have HF0 := Box.mk hF0
                clear hF0
                refine wpAnyK_take (i := 0) (v := ?_) rfl (by kernel_rfl) (fun _ _ _ h => h) (Or.inl ⟨by kernel_rfl, ?_⟩) HF0.out ?_
                rotate_left
                · first | (intro w hw; obtain ⟨q1, q2⟩ := hw; go_simp; done) | (intro w hw; obtain ⟨q1, q2⟩ := hw; go_simp; with_reducible rfl)
                refine wpAnyK_take (i := 1) (v := ?_) rfl (by kernel_rfl) (fun _ _ _ h => h) (Or.inl ⟨by kernel_rfl, ?_⟩) HF0.out ?_
                rotate_left
                · first | (intro w hw; obtain ⟨q1, q2⟩ := hw; go_simp; done) | (intro w hw; obtain ⟨q1, q2⟩ := hw; go_simp; with_reducible rfl)
                refine wpAnyK_take (i := 2) (v := ?_) rfl (by kernel_rfl) (fun _ _ _ h => h) (Or.inl ⟨by kernel_rfl, ?_⟩) HF0.out ?_
                rotate_left
                · first | (intro w hw; obtain ⟨q1, q2⟩ := hw; go_simp; done) | (intro w hw; obtain ⟨q1, q2⟩ := hw; go_simp; with_reducible rfl)
                refine wpAnyK_take (i := 3) (v := ?_) rfl (by kernel_rfl) (fun _ _ _ h => h) (Or.inl ⟨by kernel_rfl, ?_⟩) HF0.out ?_
                rotate_left
                · first | (intro w hw; obtain ⟨q1, q2⟩ := hw; go_simp; done) | (intro w hw; obtain ⟨q1, q2⟩ := hw; go_simp; with_reducible rfl)
                refine wpAnyK_take (i := 4) (v := ?_) rfl (by kernel_rfl) (fun _ _ _ h => h) (Or.inl ⟨by kernel_rfl, ?_⟩) HF0.out ?_
                rotate_left
                · first | (intro w hw; obtain ⟨q1, q2⟩ := hw; go_simp; done) | (intro w hw; obtain ⟨q1, q2⟩ := hw; go_simp; with_reducible rfl)
                refine wpAnyK_take (i := 5) (v := ?_) rfl (by kernel_rfl) (fun _ _ _ h => h) (Or.inl ⟨by kernel_rfl, ?_⟩) HF0.out ?_
                rotate_left
                · first | (intro w hw; obtain ⟨q1, q2⟩ := hw; go_simp; done) | (intro w hw; obtain ⟨q1, q2⟩ := hw; go_simp; with_reducible rfl)
                refine wpAnyK_take (i := 6) (v := ?_) rfl (by kernel_rfl) (fun _ _ _ h => h) (Or.inl ⟨by kernel_rfl, ?_⟩) HF0.out ?_
                rotate_left
                · first | (intro w hw; obtain ⟨q1, q2⟩ := hw; go_simp; done) | (intro w hw; obtain ⟨q1, q2⟩ := hw; go_simp; with_reducible rfl)
                refine wpAnyK_one (i := 7) (by kernel_rfl) rfl (fun KK hKK => ?_)
                go_simp
                go_wp2_with (go_at_call 52; refine HDN.out.mono ?_; rintro e w7 ⟨rfl, hb7⟩)
                have HB7 := Box.mk (show Below WR.heap.size WR w7 from hb7)
                have HS7 := Box.mk (HSR.out.below hb7)
                have hbs7 : w.heap.size ≤ w7.heap.size := Nat.le_trans hbsR hb7.size
                clear hb7
                refine hKK.out _ _ (fun _ => HFB.out _ HB7.out) ?_
                clear hKK KK
                refine wpAnyK_one (i := 8) (by kernel_rfl) rfl (fun KK hKK => ?_)
                go_simp
                refine hKK.out _ _ (fun _ => HFB.out _ (HB7.out.alloc HB7.out.size _)) ?_
                clear hKK KK
                refine wpAnyK_one (i := 9) (by kernel_rfl) rfl (fun KK hKK => ?_)
                refine step_push rfl _ _ 24 rfl pushI64 HS7.out 3 rfl (by kernel_rfl) (by kernel_rfl) rfl (by omega) (by omega) hbs7 ?_
                rintro v' w8 hS8 ⟨g8, c8, rfl, h81, h82⟩
                refine hKK.out _ _ (fun h => by cases h) ?_
                clear hKK KK
                have HG8 := Box.mk (hS8.blk 1 rfl)
                have e0 := (HG8.out.cell 1).trans (show _ = some (Value.slice fa' K fc') from rfl)
                have f0 := HG8.out.frozen 1
                have l8 := HG8.out.lt
                have HS9 := Box.mk (hS8.set 1 rfl 1 (.slice (some ⟨g8, 0, none⟩) (K + 1) c8))
                clear hS8
                refine wpAnyK_one (i := 10) (by kernel_rfl) rfl (fun KK hKK => ?_)
                go_simp
                refine hKK.out _ _ (fun h => by cases h) ?_
                clear hKK KK
                refine wpAnyK_one (i := 11) (by kernel_rfl) rfl (fun KK hKK => ?_)
                go_simp
                refine hKK.out _ _ (fun h => by cases h) ?_
                clear hKK KK
                refine wpAnyK_done (by kernel_rfl) ?_ _
                refine NoPanic.normal ?_
                have HBN := Box.mk (show D.build (lefts rs) nn (K + 1) = ⟨t', NX ++ [r], FX ++ [D.doneTo (lefts rs) S (lefts rs).length]⟩ from build_next HBD.out hk1 HS.out (by have := HROW.out; rw [HJ.out] at this; exact this))
                have HCO' := Box.mk (show COut w rs nn (K + 1) g (.slice (some ⟨ab, aoff, none⟩) t'.length acap) (w8.setCell ⟨g, 1, none⟩ (.slice (some ⟨g8, 0, none⟩) (K + 1) c8)) by
                  unfold COut
                  rw [HBN.out]
                  simp only
                  rw [nvs_snoc, List.map_append, lefts_len]
                  exact ⟨_, _, _, _, HS9.out⟩)
                have HKK' := Box.mk (show (D.build (lefts rs) nn (K + 1)).next.length = K + 1 ∧ K + 1 ≤ (D.build (lefts rs) nn (K + 1)).todo.length ∧ (D.build (lefts rs) nn (K + 1)).todo.length ≤ 300 by
                  rw [HBN.out]
                  simp only
                  rw [List.length_append, hk1]
                  exact ⟨rfl, hKt, hle'⟩)
                go_wp2_with fail
                go_roundw
                case rel => exact ⟨K + 1, by omega, by go_num, HCO', HKK'⟩
                case measure => simp [intOf]; omega
          · have HKE := Box.mk (show T.length ≤ NX.length by rw [hk1]; omega)
            have HEND := Box.mk (show D.build (lefts rs) nn 300 = ⟨T, NX, FX⟩ by
              rw [← HBD.out]
              exact D.build_end _ _ hK (by rw [HBD.out]; exact HKE.out))
            have HFEW := Box.mk (show D.isFew (lefts rs) nn = true from D.few_end _ _ hK (by rw [HBD.out]; exact HKE.out) (by rw [HBD.out]; exact hk3))
            have HC := Box.mk (show compCode rs nn = 0 by unfold compCode; rw [HRT.out, Int.toNat_natCast, HFEW.out]; rfl)
            have HM := Box.mk (show compM rs nn = machB ⟨T, NX, FX⟩ by unfold compM machOf; rw [HRT.out, Int.toNat_natCast, HFEW.out, HEND.out]; rfl)
            have HG := Box.mk (HSO2.out.blk 1 rfl)
            have HRS := Box.mk (HSO2.out.blk 4 rfl)
            have HNE := Box.mk (show w.heap.size ≠ g from fun e => HSO2.out.tail.head |> fun _ => (HSO2.out.tail.2.1 (Pc.blk w.heap.size 26 #[.slice none 0 0, .slice none 0 0]) (by simp) g rfl) e.symm)
            obtain ⟨na, nc, rfl, hnc1, hnc2⟩ := own_shape (HSO2.out.at' 2 rfl).2.1
            obtain ⟨fa', fc', rfl, hfc1, hfc2⟩ := own_shape (HSO2.out.row 3 rfl)
            have c0 := (HG.out.cell 0).trans (show _ = some (Value.slice na us2.length nc) from rfl)
            have c1 := (HG.out.cell 1).trans (show _ = some (Value.slice fa' K fc') from rfl)
            have lg := HG.out.lt
            have q0 := (HRS.out.cell 0).trans (show _ = some (Value.slice none 0 0) from rfl)
            have q1 := (HRS.out.cell 1).trans (show _ = some (Value.slice none 0 0) from rfl)
            have f0 := HRS.out.frozen 0
            have f1 := HRS.out.frozen 1
            have lr := HRS.out.lt
            have HS9 := Box.mk ((HSO2.out.set 4 rfl 0 (.slice na us2.length nc)).set 4 rfl 1 (.slice fa' K fc'))
            have HB9 := Box.mk (show Below w.heap.size w wr from HSO2.out.bel (by simp))
            have hlk : T.length = K := by omega
            have HFXL := Box.mk (show K = FX.length by have := D.build_len (lefts rs) nn K; rw [HBD.out] at this; have := this.1; simp only at this; omega)
            go_wp2_with fail
            exact bodyPost_ret (v := .tuple #[.agg #[.slice na us2.length nc, .slice fa' K fc'], .int .i64 0]) (results_row_tmp Tryz.results29 _ _ w.heap.size 26 #[.slice na us2.length nc, .slice fa' K fc'] (0, 0) _ rfl (HS9.out.blk 4 rfl) Tryz.underlying26 rfl machInfo) rfl
              ⟨(HB9.out.setCell (Nat.le_refl _) _).setCell (Nat.le_refl _) _, _, by rw [HC.out], by rw [HM.out]; exact machB_at (rows_at (HS9.out.at' 2 rfl)) (row_ints (HS9.out.row 3 rfl) HFXL.out)⟩
end Go.Proofs.YtbpcipobdokcfaaGreatDoor

/- TWO MACHINES COMPARED: by the document and by the program. -/
namespace Go.Proofs.YtbpcipobdokcfaaGreatDoor
open Go.RowKit Go.Shelf
attribute [local go_sem] Oper.semAt_some

/-- a machine of a size that is looked at -/
def MachFit (M : D.Mach) : Prop := M.1.length ≤ 1000 ∧ M.2.length ≤ 1000 ∧ ∀ r ∈ M.1, r.length ≤ 1000
theorem rows_take_step {xs ys : List (List Int)} {k : Nat} {x : List Int} (h : xs.take k = ys.take k) (hx : xs[k]? = some x) (hy : ys[k]? = some x) : xs.take (k + 1) = ys.take (k + 1) := by
  rw [List.take_add_one, List.take_add_one, h, hx, hy]
theorem rows_ne_step {xs ys : List (List Int)} {k : Nat} {x y : List Int} (hx : xs[k]? = some x) (hy : ys[k]? = some y) (h : x ≠ y) : xs ≠ ys := by
  rintro rfl
  rw [hx] at hy
  exact h (by simpa using hy)
theorem mach_eq {M N : D.Mach} (h1 : M.1 = N.1) (h2 : M.2 = N.2) : M = N := by cases M; cases N; simp_all

end Go.Proofs.YtbpcipobdokcfaaGreatDoor
