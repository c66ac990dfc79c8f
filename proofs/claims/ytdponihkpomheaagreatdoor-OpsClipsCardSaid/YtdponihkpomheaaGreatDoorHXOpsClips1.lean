/- Texts of this claim. -/
import Derived.Test.YtdponihkpomheaaGreatDoorH2

namespace Go.Proofs.YtdponihkpomheaaGreatDoor
open Go.RowKit
open Tryz
theorem aC.c10 {V W:World} {g:Nat} {t:TypeId} {x0 x1 x2 x3 x4 x5 x6 x7 x8 x9:Value} (H:aC V g t #[x0,x1,x2,x3,x4,x5,x6,x7,x8,x9]) (h:ak V W):ay W g 0=some x0/\ay W g 1=some x1/\ay W g 2=some x2/\ay W g 3=some x3/\ay W g 4=some x4/\ay W g 5=some x5/\ay W g 6=some x6/\ay W g 7=some x7/\ay W g 8=some x8/\ay W g 9=some x9/\g<W.heap.size:=⟨((H.below h H.lt).cell 0).trans rfl,((H.below h H.lt).cell 1).trans rfl,((H.below h H.lt).cell 2).trans rfl,((H.below h H.lt).cell 3).trans rfl,((H.below h H.lt).cell 4).trans rfl,((H.below h H.lt).cell 5).trans rfl,((H.below h H.lt).cell 6).trans rfl,((H.below h H.lt).cell 7).trans rfl,((H.below h H.lt).cell 8).trans rfl,((H.below h H.lt).cell 9).trans rfl,(H.below h H.lt).lt⟩
def aar (x:Int):Prop:=-9223372036854775808<=x/\x<=9223372036854775807
theorem abU {n:Int} (h:(Lit.int .i64 n).wf=true):aar n:=by
 simp only [Lit.wf,dD,fD] at h;exact h
end Go.Proofs.YtdponihkpomheaaGreatDoor
