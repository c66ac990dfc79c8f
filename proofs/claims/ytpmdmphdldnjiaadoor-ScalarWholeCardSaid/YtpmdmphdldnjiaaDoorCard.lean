/-
  WHAT THE CARDS OF LAYER 1 SHARE: the two sentinels that the rows lay, a world that holds them, and the wrap from a walk that answers true to a row.
-/
import Derived.Test.YtpmdmphdldnjiaaDoorCards
import Derived.Test.YtpmdmphdldnjiaaDoorTie
import Derived.Test.YtpmdmphdldnjiaaDoorEnv
import Derived.ProofKit
import Derived.OpenShut
import Derived.Deep.DeepHandedRow
import Derived.Deep.DeepWitnessRowRef
import Derived.Stop.LaidTwo
import Derived.Below
import Derived.ChangeSame
namespace Go.Proofs.YtpmdmphdldnjiaaDoor
open Go.ChangeShapes Go.WideShapes Go.ChangeAt Go.RowKit

section
variable {H : Type} {enc : TypeId × Value → H} {P : Program}
theorem post_of_below {f : Func} {s : ChangeSpec} {apart fresh handsOn again : Bool} {W W' : World} {args : Array Value} {v : Value} {ds gs : List (DataW H)} {before pa pv : List MemPlace}
    (hW : DataW.Whole enc P f.params.toList s.vars apart W args.toList ds gs before)
    (hres : ∀ (b : Nat) (sp : Nat → Bool) (hd : Bool), DataW.TrodAll enc P W' b sp hd f.resultTypes.toList (v.resultList f.resultTypes.size) (s.fn H (ds ++ gs)).results [])
    (hargs : ∀ sp : Nat → Bool, (∀ p ∈ before, sp p.block = true) → DataW.TrodAll enc P W' 0 sp true f.params.toList args.toList (s.fn H (ds ++ gs)).args pa)
    (hvars : ∀ sp : Nat → Bool, (∀ p ∈ before, sp p.block = true) → DataW.TrodVars enc P W' sp s.vars (s.fn H (ds ++ gs)).vars pv)
    (hps : before = pa ++ pv) (hb : Below W.heap.size W W')
    (hok : ∀ (j : Nat) (t : TypeId) (r : Value), f.resultTypes[j]? = some t → (v.resultList f.resultTypes.size)[j]? = some r → Value.okWide P W' .any 0 t r) :
    s.post enc P f apart fresh handsOn again W args v W' := by
  have hlt : ∀ p ∈ before, p.block < W.heap.size := fun p hp => hW.lt p hp
  have hold : ∀ p ∈ before, (fun b => decide (b < W.heap.size)) p.block = true := fun p hp => by simpa using hlt p hp
  refine ⟨ds, gs, before, [], pa, pv, hW, hres _ _ _, hargs _ hold, hvars _ hold, World.keptBut_mono (fun p hp => ⟨hp, ?_⟩) (hb.frame (· ∈ before)), fun _ => ?_⟩
  · rw [hps, List.mem_append] at hp
    exact Or.inr hp
  · obtain ⟨_, _, _, _, _, hz, hn⟩ := hW
    refine ⟨hok, _, _, ([] ++ pa) ++ pv, ⟨[] ++ pa, pv, trodAll_append (hargs _ (fun _ _ => rfl)) (hres _ _ _), hvars _ (fun _ _ => rfl), rfl, ?_, ?_⟩, ?_⟩
    · intro b off hp
      have hin : MemPlace.cell b off ∈ before := by rw [hps]; simpa using hp
      rw [hb.frozen (hlt _ hin)]
      exact hz b off hin
    · intro ha
      have := hn ha
      rw [hps] at this
      simpa using this
    · intro p hp _
      rw [hps]
      simpa using hp
end

theorem own : ownKnob Tryd.prog.godebug = none := by kernel_rfl
theorem gS : Tryd.prog.globalNamed "virama/scalar.errScalar" = some 0 := by kernel_rfl
theorem gU : Tryd.prog.globalNamed "virama/scalar.errUtf" = some 1 := by kernel_rfl
theorem gSType : (Tryd.prog.globals[0]?).map (·.type) = some 43 := by kernel_rfl
theorem gUType : (Tryd.prog.globals[1]?).map (·.type) = some 43 := by kernel_rfl
theorem cellsErr : Tryd.prog.cellsOf 118 = 1 := by kernel_rfl
theorem cellsStr : Tryd.prog.cellsOf 9 = 1 := by kernel_rfl
theorem starErr : "*" ++ "errors.errorString" = "*errors.errorString" := by decide
theorem rowErr (u : TypeId) (h : Tryd.prog.typeName? 3 u = some "*errors.errorString") : u = 94 :=
  typeName_ptr_named (nm := "errors.errorString") (by rw [starErr]; kernel_rfl) (by kernel_rfl) (by decide) u (by rw [starErr]; exact h)

abbrev textS : ByteArray := { data := #[110, 111, 32, 115, 99, 97, 108, 97, 114] }
abbrev textU : ByteArray := { data := #[110, 111, 116, 32, 119, 101, 108, 108, 45, 102, 111, 114, 109, 101, 100] }
noncomputable def low : Nat := (World.holding Tryd.prog default ⟨#[], #[], []⟩).heap.size
noncomputable def laidWorld (os : Os) : World :=
  let w0 := World.holding Tryd.prog os ⟨#[.cells #[.string textS] 118, .cells #[.string textU] 118], #[], []⟩
  { w0 with heap := (w0.heap.modify 0 fun
      | .cells _ t frozen => .cells #[.iface 94 (.pointer (some ⟨low, 0, none⟩))] t frozen
      | o => o).modify 1 fun
      | .cells _ t frozen => .cells #[.iface 94 (.pointer (some ⟨low + 1, 0, none⟩))] t frozen
      | o => o }
theorem laid_met (os : Os) (args : Array Value) : laidMet Tryd.prog Rows.scalarBytesRow.laid ((laidWorld os).forCall (fun _ _ => 0) ⟨#[], args, []⟩).memory :=
  laidMet_of_run (ps := [.cell 0 0, .cell low 0, .cell 1 0, .cell (low + 1) 0]) 8 (by kernel_rfl) (by kernel_rfl) (by kernel_rfl)

/-- where the variables' errors lie -/
theorem E_of_laid {W : World} (hL : laidMetH Tryd.prog Rows.scalarBytesRow.laid W) : ∃ A : Nat → Addr, E A W.heap.size W := by
  obtain ⟨a0, a1, s0, s1, c0, c1, t0, t1, hv0, hv1, hc0, hs0, hz0, hc1, hs1, hz1, hne, hb0, hb1⟩ := laid_sentinels2 hL gS gSType gU gUType Tryd.underlying43 rowErr Tryd.underlying94 Tryd.underlying118 rfl rfl Tryd.underlying9 cellsErr cellsStr
  have hg0 : W.cell? ⟨0, 0, none⟩ = some (.iface 94 (.pointer (some a0))) := by simpa using World.var?_cell gS hv0 0
  have hg1 : W.cell? ⟨1, 0, none⟩ = some (.iface 94 (.pointer (some a1))) := by simpa using World.var?_cell gU hv1 0
  refine ⟨fun g => if g = 0 then a0 else a1, ?_, ?_, ?_, ?_⟩
  · intro g hg
    simp only [sents, List.mem_cons, List.mem_nil_iff, or_false] at hg
    rcases hg with rfl | rfl <;> simp [hg0, hg1]
  · intro g hg
    simp only [sents, List.mem_cons, List.mem_nil_iff, or_false] at hg
    rcases hg with rfl | rfl
    · exact ⟨c0, t0, hb0⟩
    · exact ⟨c1, t1, hb1⟩
  · intro g hg
    simp only [sents, List.mem_cons, List.mem_nil_iff, or_false] at hg
    rcases hg with rfl | rfl
    · exact ⟨World.block_lt_of_cell? _ _ hg0, World.block_lt_of_cell? _ _ hc0⟩
    · exact ⟨World.block_lt_of_cell? _ _ hg1, World.block_lt_of_cell? _ _ hc1⟩
  · intro g hg k hk
    simp only [sents, List.mem_cons, List.mem_nil_iff, or_false] at hg hk
    rcases hg with rfl | rfl <;> rcases hk with rfl | rfl <;> simp [hne, Ne.symm hne]
end Go.Proofs.YtpmdmphdldnjiaaDoor
