/- Texts of this claim. -/
import Derived.Test.YtlmdjifffmofeaaGreatDoorH4

set_option maxHeartbeats 2000000
set_option maxRecDepth 100000
namespace Go.Proofs.YtlmdjifffmofeaaGreatDoor
section
open Go.RowKit
theorem bM.take {w:World} {ao:Option Addr} {cap:Nat} {l:List N.Item} (h:bM w (.slice ao l.length cap) l) (n:Nat):bM w (.slice ao (l.take n).length cap) (l.take n):=by
 rcases h with⟨h1,rfl⟩ | ⟨b,off,sp,cap,h1,h2,h3,h4⟩
 ·injection h1 with h1 h2 h3;subst h1 h3;simp [bM]
 ·injection h1 with h1 h2' h3';subst h1 h3';refine .inr ⟨b,off,sp,_,rfl,by rw [List.length_take];omega,h3,λhn=>?_⟩;have hn':l≠[]:=by rintro rfl;simp at hn
  refine⟨(h4 hn').1,(h4 hn').2.1,λi x hx=>(h4 hn').2.2 i x ?_⟩;rw [List.getElem?_take] at hx
  split at hx
  ·exact hx
  ·cases hx
theorem bM.FM {w:World} {ao:Option Addr} {cap n:Nat} {l:List N.Item} (h:bM w (.slice ao n cap) l):l.length<=cap/\cap<=9223372036854775807:=by
 rcases h with⟨h1,rfl⟩ | ⟨b,off,sp,cap,h1,h2,h3,h4⟩
 ·injection h1 with h1 h2 h3;subst h3;simp
 ·injection h1 with h1 h2' h3';subst h3';unfold maxLen at h3;omega
theorem Eb (st:Bool) (v:Value) (l:List N.Item) (w:World) (hv:bM w v l) :
  Calls Tryz.prog 82 #[.agg #[.bool st,v]] w λe w'=>(∃ v',e = .returned (.agg #[.bool st,v'])/\∀ W,bM W v l->bM W v' (l.take 12))/\Below w.heap.size w w':=by
 obtain⟨ao,cap,rfl⟩:=hv.slice;obtain⟨hc1,hc2⟩:=hv.FM;have HT:=bx (λ(W:World) (h:bM W (.slice ao l.length cap) l)=>h.take 12);have HB:=bx (show ∀ o1 o2,Below w.heap.size w ((w.alloc o1).alloc o2).drew from λo1 o2=>below_drewN (((Below.refl _ _).alloc (Nat.le_refl _) o1).alloc (by simp) o2) 1);clear hv
 rcases Nat.lt_or_ge 12 l.length with hlt | hle
 ·have hm:min (l.length:Int) 12=12:=by omega
  go_enter Tryz.func82,Tryz.ntmps82
  go_wp2
  go_region
  go_wp2
  all_goals first
   | (exfalso;omega;done)
   | (refine bodyPost_ret (v:=.agg #[.bool st, .slice ao 12 cap]) (by simp [results,Tryz.results82,go_sem]) rfl ⟨⟨_,rfl,λW h=>?_⟩,HB.o _ _⟩;have:=HT.o W h;rw [show (l.take 12).length=12 by rw [List.length_take];omega] at this;exact this)
 ·have hm:min (l.length:Int) 12=l.length:=by omega
  go_enter Tryz.func82,Tryz.ntmps82
  go_wp2
  go_region
  go_wp2
  all_goals first
   | (exfalso;omega;done)
   | (refine bodyPost_ret (v:=.agg #[.bool st, .slice ao l.length cap]) (by simp [results,Tryz.results82,go_sem]) rfl ⟨⟨_,rfl,λW h=>?_⟩,HB.o _ _⟩;have:=HT.o W h;rw [List.take_of_length_le hle] at this ⊢;exact this)
end
section
open Go.RowKit Go.ChangeShapes Go.WideShapes Go.Deep
section
variable {H:Type} {enc:TypeId×Value->H} {W:World}
theorem bM.open {v:Value} {fuel:Nat} {x:DataW H×List MemPlace} (hf:DataW.trod enc Tryz.prog W 0 (λ_=>true) true fuel 142 [v]=some x):∃ l,bM W v l:=by
 rcases open_slice_pairs Tryz.underlying142 Tryz.underlying282 (by kernel_rfl) rfl rfl (by kernel_rfl) (by kernel_rfl) hf with⟨h1,_⟩ | ⟨a,len,cap,m,n,V0,V1,D0,D1,P0,P1,h1,_,h2,h3,h4,_,h5⟩
 ·simp only [List.cons.injEq,and_true] at h1;exact⟨[], .inl ⟨h1,rfl⟩⟩
 ·simp only [List.cons.injEq,and_true] at h1;subst h1;simp only [if_true] at h4;subst h4;have key:∀ i,i<m->∃ y:N.Item,W.cell? (a.add (i*2))=some (.int .i64 y.1)/\W.cell? (a.add (i*2+1))=some (.int .i64 y.2):=by
   intro i hi;obtain⟨c0,c1,t0,t1⟩:=h5 i hi;obtain⟨k0,e0,_⟩:=DataW.trod_int Tryz.underlying2 t0;obtain⟨k1,e1,_⟩:=DataW.trod_int Tryz.underlying3 t1;simp only [List.cons.injEq,and_true] at e0 e1;exact⟨(k0,k1),by rw [c0,e0],by rw [c1,e1]⟩
  let g:Nat->N.Item:=λi=>if h:i<m then (key i h).choose else (0,0)
  have hg:∀ i,i<m->W.cell? (a.add (i*2))=some (.int .i64 (g i).1)/\W.cell? (a.add (i*2+1))=some (.int .i64 (g i).2):=by
   intro i hi;have:g i=(key i hi).choose:=by simp [g,hi]
   rw [this];exact(key i hi).choose_spec
  obtain⟨b,off,sp⟩:=a;have hlen:((List.range len).map g).length=len:=by simp
  refine⟨(List.range len).map g, .inr ⟨b,off,sp,m,by rw [hlen],by rw [hlen];exact h2,h3,λhn=>?_⟩⟩;have h0:0<len:=by
   rcases Nat.eq_zero_or_pos len with h | h
   ·subst h;exact absurd rfl hn
   ·exact h
  have hc0:=(hg 0 (by omega)).1;have hsp:sp=none:=World.cell?_spot (a:=(⟨b,off,sp⟩:Addr).add (0*2)) hc0;subst hsp;refine⟨rfl,World.block_lt_of_cell? _ _ hc0,λi y hy=>?_⟩;rw [List.getElem?_map] at hy;obtain⟨j,hj,rfl⟩:=Option.map_eq_some_iff.1 hy;obtain⟨hi,rfl⟩:=List.getElem?_eq_some_iff.1 hj;simp only [List.length_range] at hi;simp only [List.getElem_range];have:=hg i (by omega);rw [addr_add b off,addr_add b off] at this;exact this
end
end
end Go.Proofs.YtlmdjifffmofeaaGreatDoor
