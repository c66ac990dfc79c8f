/-
  WHAT THE CARDS OF THIS SEAT SHARE: the sentinels that the rows lay, a world that holds them, and the wrap from a walk that answers true to a row.
-/
import Derived.Test.YtbpcipobdokcfaaGreatDoorCards
import Derived.Test.YtbpcipobdokcfaaGreatDoorTie
import Derived.Test.YtbpcipobdokcfaaGreatDoorH1
import Derived.Test.YtbpcipobdokcfaaGreatDoorHSi5
import Derived.ProofKit
import Derived.OpenShut
import Derived.Deep.DeepHandedRow
import Derived.Deep.DeepWitnessRowRef
import Derived.Stop.LaidTwo
import Derived.Below
import Derived.ChangeSame
namespace Go.Proofs.YtbpcipobdokcfaaGreatDoor
open Go.ChangeShapes Go.WideShapes Go.ChangeAt Go.RowKit

section
variable {H : Type} {enc : TypeId × Value → H} {P : Program}
theorem post_of_below {f : Func} {s : ChangeSpec} {apart fresh handsOn again : Bool} {W W' : World} {args : Array Value} {v : Value} {ds gs : List (DataW H)} {before pa pv : List MemPlace}
    (hW : DataW.Whole enc P f.params.toList s.vars apart W args.toList ds gs before)
    (hres : ∀ (b : Nat) (sp : Nat → Bool) (hd : Bool), DataW.TrodAll enc P W' b sp hd f.resultTypes.toList (v.resultList f.resultTypes.size) (s.fn H (ds ++ gs)).results [])
    (hargs : ∀ sp : Nat → Bool, (∀ p ∈ before, sp p.block = true) → DataW.TrodAll enc P W' 0 sp true f.params.toList args.toList (s.fn H (ds ++ gs)).args pa)
    (hvars : ∀ sp : Nat → Bool, (∀ p ∈ before, sp p.block = true) → DataW.TrodVars enc P W' sp s.vars (s.fn H (ds ++ gs)).vars pv)
    (hps : before = pa ++ pv) (hb : Below W.heap.size W W')
    (hok : ∀ (j : Nat) (t : TypeId) (r : Value), f.resultTypes[j]? = some t → (v.resultList f.resultTypes.size)[j]? = some r → Value.okWide P W' .any 0 t r) :
    s.post enc P f apart fresh handsOn again W args v W' := by
  have hlt : ∀ p ∈ before, p.block < W.heap.size := fun p hp => hW.lt p hp
  have hold : ∀ p ∈ before, (fun b => decide (b < W.heap.size)) p.block = true := fun p hp => by simpa using hlt p hp
  refine ⟨ds, gs, before, [], pa, pv, hW, hres _ _ _, hargs _ hold, hvars _ hold, World.keptBut_mono (fun p hp => ⟨hp, ?_⟩) (hb.frame (· ∈ before)), fun _ => ?_⟩
  · rw [hps, List.mem_append] at hp
    exact Or.inr hp
  · obtain ⟨_, _, _, _, _, hz, hn⟩ := hW
    refine ⟨hok, _, _, ([] ++ pa) ++ pv, ⟨[] ++ pa, pv, trodAll_append (hargs _ (fun _ _ => rfl)) (hres _ _ _), hvars _ (fun _ _ => rfl), rfl, ?_, ?_⟩, ?_⟩
    · intro b off hp
      have hin : MemPlace.cell b off ∈ before := by rw [hps]; simpa using hp
      rw [hb.frozen (hlt _ hin)]
      exact hz b off hin
    · intro ha
      have := hn ha
      rw [hps] at this
      simpa using this
    · intro p hp _
      rw [hps]
      simpa using hp
end

theorem own : ownKnob Tryz.prog.godebug = none := by kernel_rfl
theorem cellsErr : Tryz.prog.cellsOf 234 = 1 := by kernel_rfl
theorem cellsStr : Tryz.prog.cellsOf 9 = 1 := by kernel_rfl
theorem starErr : "*" ++ "errors.errorString" = "*errors.errorString" := by decide
theorem rowErr (u : TypeId) (h : Tryz.prog.typeName? 3 u = some "*errors.errorString") : u = 209 :=
  typeName_ptr_named (nm := "errors.errorString") (by rw [starErr]; kernel_rfl) (by kernel_rfl) (by decide) u (by rw [starErr]; exact h)
theorem gN0 : Tryz.prog.globalNamed "virama/nfa.errPattern" = some 3 ∧ (Tryz.prog.globals[3]?).map (·.type) = some 66 := ⟨by kernel_rfl, by kernel_rfl⟩
theorem gN1 : Tryz.prog.globalNamed "virama/dfa.errRule" = some 1 ∧ (Tryz.prog.globals[1]?).map (·.type) = some 66 := ⟨by kernel_rfl, by kernel_rfl⟩
theorem gN2 : Tryz.prog.globalNamed "virama/dfa.errMachine" = some 2 ∧ (Tryz.prog.globals[2]?).map (·.type) = some 66 := ⟨by kernel_rfl, by kernel_rfl⟩
theorem gN3 : Tryz.prog.globalNamed "virama/seg.errCut" = some 0 ∧ (Tryz.prog.globals[0]?).map (·.type) = some 66 := ⟨by kernel_rfl, by kernel_rfl⟩
/-- the sentinels: names, numbers, texts -/
def sentList : List Sent := [("virama/nfa.errPattern", 3, [110, 111, 32, 112, 97, 116, 116, 101, 114, 110]), ("virama/dfa.errRule", 1, [110, 111, 32, 114, 117, 108, 101, 115]), ("virama/dfa.errMachine", 2, [110, 111, 32, 109, 97, 99, 104, 105, 110, 101]), ("virama/seg.errCut", 0, [110, 111, 32, 99, 117, 116, 115])]
noncomputable def low : Nat := (World.holding Tryz.prog default ⟨#[], #[], []⟩).heap.size
noncomputable def laidWorld (os : Os) : World :=
  let w0 := World.holding Tryz.prog os ⟨#[(.cells #[.string { data := #[110, 111, 32, 112, 97, 116, 116, 101, 114, 110] }] 234 : Obj), (.cells #[.string { data := #[110, 111, 32, 114, 117, 108, 101, 115] }] 234 : Obj), (.cells #[.string { data := #[110, 111, 32, 109, 97, 99, 104, 105, 110, 101] }] 234 : Obj), (.cells #[.string { data := #[110, 111, 32, 99, 117, 116, 115] }] 234 : Obj)], #[], []⟩
  { w0 with heap := ((((w0.heap.modify 3 fun
      | .cells _ t frozen => .cells #[.iface 209 (.pointer (some ⟨low + 0, 0, none⟩))] t frozen
      | o => o).modify 1 fun
      | .cells _ t frozen => .cells #[.iface 209 (.pointer (some ⟨low + 1, 0, none⟩))] t frozen
      | o => o).modify 2 fun
      | .cells _ t frozen => .cells #[.iface 209 (.pointer (some ⟨low + 2, 0, none⟩))] t frozen
      | o => o).modify 0 fun
      | .cells _ t frozen => .cells #[.iface 209 (.pointer (some ⟨low + 3, 0, none⟩))] t frozen
      | o => o) }
set_option maxRecDepth 100000 in
theorem laid_met (os : Os) (args : Array Value) : laidMet Tryz.prog Rows.segRulesRow.laid ((laidWorld os).forCall (fun _ _ => 0) ⟨#[], args, []⟩).memory :=
  laidMet_of_run (ps := [.cell 3 0, .cell (low + 0) 0, .cell 1 0, .cell (low + 1) 0, .cell 2 0, .cell (low + 2) 0, .cell 0 0, .cell (low + 3) 0]) 8 (by kernel_rfl) (by kernel_rfl) (by kernel_rfl)

/-- where the variables' errors lie -/
theorem Env_of_laid {W : World} (hL : laidMetH Tryz.prog Rows.segRulesRow.laid W) : ∃ A : Nat → Addr, Env (sentList.map (·.2.1)) 209 A W.heap.size W :=
  Env_of_list Tryz.underlying66 rowErr Tryz.underlying209 Tryz.underlying234 rfl rfl Tryz.underlying9 cellsErr cellsStr sentList
    (List.forall_mem_cons.2 ⟨gN0, List.forall_mem_cons.2 ⟨gN1, List.forall_mem_cons.2 ⟨gN2, List.forall_mem_cons.2 ⟨gN3, fun _ h => absurd h List.not_mem_nil⟩⟩⟩⟩) hL
theorem E_of_laid {W : World} (hL : laidMetH Tryz.prog Rows.segRulesRow.laid W) : ∃ A : Nat → Addr, Sn A W.heap.size W := by
  obtain ⟨A, h⟩ := Env_of_laid hL
  exact ⟨A, env_sub h (by decide), env_sub h (by decide), env_sub h (by decide), Nat.le_refl _⟩
end Go.Proofs.YtbpcipobdokcfaaGreatDoor
