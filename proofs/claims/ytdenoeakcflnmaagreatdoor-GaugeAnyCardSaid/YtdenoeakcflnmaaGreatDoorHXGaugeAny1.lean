/- Texts of this claim. -/
import Derived.Test.YtdenoeakcflnmaaGreatDoorH9

namespace Go.Proofs.YtdenoeakcflnmaaGreatDoor
namespace M
open U
def bad (pl:List Place):Nat:=(pl.filter λx=>!x.2.2).length
end M
namespace M
open U
theorem adE (a:Nat) (pl:List Place):bad (pl.map (shift a))=bad pl:=by
 unfold bad;rw [List.filter_map,List.length_map]
 rfl
def IW (s:List UInt8):Nat:=bad (places s)
theorem ami {s:List UInt8} (hs:s≠[]):IW s=(if (unit s).2 then 0 else 1)+IW (s.drop (unit s).1):=by
 unfold IW;rw [places_cons hs];have:∀ (x:Place) pl,bad (x::pl)=(if x.2.2 then 0 else 1)+bad pl:=by
  intro x pl;unfold bad;rw [List.filter_cons]
  cases x.2.2 <;> simp [Nat.add_comm]
 rw [this,adE]
theorem ai2 (s:List UInt8):valid (fix s)=true:=by
 obtain⟨l,h,_⟩:=P5 s;unfold valid;rw [h];rfl
theorem afl {s:List UInt8} (hs:s≠[]) (h:valid s=true):(unit s).2=true/\valid (s.drop (unit s).1)=true:=by
 cases hd:dec s with
 | none=>unfold valid at h;rw [LW hs hd] at h;cases h
 | some p =>
  obtain⟨r,n⟩:=p;rw [Gs hd];unfold valid at h ⊢;rw [P9 hd] at h;refine⟨rfl,?_⟩;show (scalars (s.drop n)).isSome=true
  simpa using h
theorem alN (s:List UInt8):valid s=true->fix s=s/\IW s=0:=by
 refine WG (P:=λs=>valid s=true->fix s=s/\IW s=0) (λ_=>⟨rfl,rfl⟩) (λs hs ih h=>?_) s;obtain⟨h1,h2⟩:=afl hs h;obtain⟨h3,h4⟩:=ih h2;rw [Ny hs,ami hs,h1,h3,h4];simp
theorem aie (s:List UInt8):fix s=s↔valid s=true:=⟨λh=>by rw [<- h];exact ai2 s,λh=>(alN s h).1⟩
end M
end Go.Proofs.YtdenoeakcflnmaaGreatDoor
