/- Texts of this claim. -/
import Derived.Test.YtdenoeakcflnmaaGreatDoorH17
import Derived.Test.YtdenoeakcflnmaaGreatDoorHXGaugeKinds1

namespace Go.Proofs.YtdenoeakcflnmaaGreatDoor
section
open Go.RowKit
attribute [local go_sem] Oper.semAt_some
def Pg (ps:List Pc) (k:Nat):Prop:=∃ p∈ps,p.fp k
theorem Sep.kept {ps:List Pc} {W W':World} {own:Nat->Prop} (h:Sep ps W) (ht:Turns own W W') (ho:∀ k,own k->¬ Pg ps k):Sep ps W':=h.keep ht (λp hp k hk hok=>ho k hok ⟨p,hp,hk⟩)
end
end Go.Proofs.YtdenoeakcflnmaaGreatDoor
