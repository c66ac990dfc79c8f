/- Texts of this claim. -/
import Derived.Test.YtdponihkpomheaaGreatDoorK2

namespace Go.Proofs.YtdponihkpomheaaGreatDoor
open Go.RowKit
open Tryz
def mX(x:Int):Prop:=-9223372036854775808<=x/\x<=9223372036854775807
theorem aaG{n:Int}(h:(Lit.int .i64 n).wf=true):mX n:=by
 simp only[Lit.wf,Vm,SS]at h;exact h
