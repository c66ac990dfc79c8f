/- Texts of this claim. -/
import Derived.Test.YtdponihkpomheaaGreatDoorH7

namespace Go.Proofs.YtdponihkpomheaaGreatDoor
open Tryz
namespace M
open U
def bad (pl:List Place):Nat:=(pl.filter λx=>!x.2.2).length
end M
namespace M
open U
theorem UU (a:Nat) (pl:List Place):bad (pl.map (shift a))=bad pl:=by
 unfold bad;rw [List.filter_map,aV]
 rfl
def BO (s:List UInt8):Nat:=bad (places s)
theorem Z7 {s:List UInt8} (hs:s≠[]):BO s=(if (unit s).2 then 0 else 1)+BO (s.drop (unit s).1):=by
 unfold BO;rw [places_cons hs];have:∀ (x:Place) pl,bad (x::pl)=(if x.2.2 then 0 else 1)+bad pl:=by
  intro x pl;unfold bad;rw [List.filter_cons]
  cases x.2.2 <;> simp [Nat.add_comm]
 rw [this,UU]
theorem PX (s:List UInt8):valid (fix s)=true:=by
 obtain⟨l,h,_⟩:=Uj s;unfold valid;rw [h];rfl
theorem YV {s:List UInt8} (hs:s≠[]) (h:valid s=true):(unit s).2=true/\valid (s.drop (unit s).1)=true:=by
 cases hd:dec s with
 | none=>unfold valid at h;rw [QI hs hd] at h;cases h
 | some p =>
  obtain⟨r,n⟩:=p;rw [OC hd];unfold valid at h ⊢;rw [Ul hd] at h;refine⟨rfl,?_⟩;show (scalars (s.drop n)).isSome=true
  simpa using h
theorem aak (s:List UInt8):valid s=true->fix s=s/\BO s=0:=by
 refine QJ (P:=λs=>valid s=true->fix s=s/\BO s=0) (λ_=>⟨rfl,rfl⟩) (λs hs ih h=>?_) s;obtain⟨h1,h2⟩:=YV hs h;obtain⟨h3,h4⟩:=ih h2;rw [Nu hs,Z7 hs,h1,h3,h4];simp
theorem VE (s:List UInt8):fix s=s↔valid s=true:=⟨λh=>by rw [<- h];exact PX s,λh=>(aak s h).1⟩
end M
end Go.Proofs.YtdponihkpomheaaGreatDoor
