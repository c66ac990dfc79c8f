/- Texts of this claim. -/
import Derived.Test.YtdponihkpomheaaGreatDoorK8

namespace Go.Proofs.YtdponihkpomheaaGreatDoor
open Go.RowKit
open Tryz
theorem Zv.c10{V W:World}{g:Nat}{t:TypeId}{Ws XX V2 V4 UO T1 S1 RY O2 O1:Value}(H:Zv V g t #[Ws,XX,V2,V4,UO,T1,S1,RY,O2,O1])(h:Z6 V W):ZQ W g 0=some Ws/\ZQ W g 1=some XX/\ZQ W g 2=some V2/\ZQ W g 3=some V4/\ZQ W g 4=some UO/\ZQ W g 5=some T1/\ZQ W g 6=some S1/\ZQ W g 7=some RY/\ZQ W g 8=some O2/\ZQ W g 9=some O1/\g<W.heap.size:=⟨((H.below h H.lt).cell 0).trans rfl,((H.below h H.lt).cell 1).trans rfl,((H.below h H.lt).cell 2).trans rfl,((H.below h H.lt).cell 3).trans rfl,((H.below h H.lt).cell 4).trans rfl,((H.below h H.lt).cell 5).trans rfl,((H.below h H.lt).cell 6).trans rfl,((H.below h H.lt).cell 7).trans rfl,((H.below h H.lt).cell 8).trans rfl,((H.below h H.lt).cell 9).trans rfl,(H.below h H.lt).lt⟩
section
variable {P:Program} {W:World} {g:Nat} {t:TypeId} {cs cs':Array Value}
theorem H2{o:Oper}{a:Act}(ty:TypeId)(x:Operand)(YT:o.op=.load ty x)(g:Nat)(Z4:a.eval x=Zn g)(d:TypeDesc)(hu:P.underlying ty=some d)(Zm:(match d with|.struct _|.array _ _=>true|_=>false)=true)(hi:(P.info? ty).map (·.size)=some cs.size)(ZH:Zv W g t cs):(execOp a.eval o).run P W=.ok (.value (.agg cs)) W:=by
 unfold execOp;simp only[YT,Z4,Instr.loadAt,Instr.sureAddr,Sem.run_bind,Sem.run_pure,Result.andThen_ok,run_loadVar_row W g t ty cs (0,0) d ZH hu Zm hi]
