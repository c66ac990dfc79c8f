/- Texts of this claim. -/
import Derived.Test.YtdponihkpomheaaGreatDoorH8

namespace Go.Proofs.YtdponihkpomheaaGreatDoor
open Go.RowKit
open Tryz
namespace M
open U
def bad (pl:List Place):Nat:=(pl.filter λx=>!x.2.2).length
end M
namespace M
open U
theorem UU (a:Nat) (pl:List Place):bad (pl.map (shift a))=bad pl:=by
 unfold bad;rw [List.filter_map,aV]
 rfl
def BO (s:List UInt8):Nat:=bad (places s)
theorem Z7 {s:List UInt8} (hs:s≠[]):BO s=(if (unit s).2 then 0 else 1)+BO (s.drop (unit s).1):=by
 unfold BO;rw [places_cons hs];have:∀ (x:Place) pl,bad (x::pl)=(if x.2.2 then 0 else 1)+bad pl:=by
  intro x pl;unfold bad;rw [List.filter_cons]
  cases x.2.2 <;> simp [Nat.add_comm]
 rw [this,UU]
theorem PX (s:List UInt8):valid (fix s)=true:=by
 obtain⟨l,h,_⟩:=Uj s;unfold valid;rw [h];rfl
theorem YV {s:List UInt8} (hs:s≠[]) (h:valid s=true):(unit s).2=true/\valid (s.drop (unit s).1)=true:=by
 cases hd:dec s with
 | none=>unfold valid at h;rw [QI hs hd] at h;cases h
 | some p =>
  obtain⟨r,n⟩:=p;rw [OC hd];unfold valid at h ⊢;rw [Ul hd] at h;refine⟨rfl,?_⟩;show (scalars (s.drop n)).isSome=true
  simpa using h
theorem aak (s:List UInt8):valid s=true->fix s=s/\BO s=0:=by
 refine QJ (P:=λs=>valid s=true->fix s=s/\BO s=0) (λ_=>⟨rfl,rfl⟩) (λs hs ih h=>?_) s;obtain⟨h1,h2⟩:=YV hs h;obtain⟨h3,h4⟩:=ih h2;rw [Nu hs,Z7 hs,h1,h3,h4];simp
theorem VE (s:List UInt8):fix s=s↔valid s=true:=⟨λh=>by rw [<- h];exact PX s,λh=>(aak s h).1⟩
end M
theorem aC.c10 {V W:World} {g:Nat} {t:TypeId} {x0 x1 x2 x3 x4 x5 x6 x7 x8 x9:Value} (H:aC V g t #[x0,x1,x2,x3,x4,x5,x6,x7,x8,x9]) (h:ak V W):ay W g 0=some x0/\ay W g 1=some x1/\ay W g 2=some x2/\ay W g 3=some x3/\ay W g 4=some x4/\ay W g 5=some x5/\ay W g 6=some x6/\ay W g 7=some x7/\ay W g 8=some x8/\ay W g 9=some x9/\g<W.heap.size:=⟨((H.below h H.lt).cell 0).trans rfl,((H.below h H.lt).cell 1).trans rfl,((H.below h H.lt).cell 2).trans rfl,((H.below h H.lt).cell 3).trans rfl,((H.below h H.lt).cell 4).trans rfl,((H.below h H.lt).cell 5).trans rfl,((H.below h H.lt).cell 6).trans rfl,((H.below h H.lt).cell 7).trans rfl,((H.below h H.lt).cell 8).trans rfl,((H.below h H.lt).cell 9).trans rfl,(H.below h H.lt).lt⟩
section
variable {P:Program} {W:World} {g:Nat} {t:TypeId} {cs cs':Array Value}
theorem ale {o:Oper} {a:Act} (ty:TypeId) (x:Operand) (ho:o.op = .load ty x) (g:Nat) (hx:a.eval x = aA g) (d:TypeDesc) (hu:P.underlying ty=some d) (hd:(match d with | .struct _ | .array _ _=>true | _=>false)=true)
  (hi:(P.info? ty).map (·.size)=some cs.size) (hg:aC W g t cs):(execOp a.eval o).run P W = .ok (.value (.agg cs)) W:=by
 unfold execOp;simp only [ho,hx,Instr.loadAt,Instr.sureAddr,Sem.run_bind,Sem.run_pure,Result.andThen_ok,run_loadVar_row W g t ty cs (0,0) d hg hu hd hi]
end
end Go.Proofs.YtdponihkpomheaaGreatDoor
