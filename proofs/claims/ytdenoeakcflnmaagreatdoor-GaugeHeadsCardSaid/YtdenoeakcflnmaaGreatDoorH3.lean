/- Texts of this claim. -/
import Derived.Stop.RegionWithIn
import Derived.Test.YtdenoeakcflnmaaGreatDoorH2

set_option maxHeartbeats 4000000
namespace Go.Proofs.YtdenoeakcflnmaaGreatDoor
section
open Go.RowKit
structure Pc where
 fp:Nat->Prop
 ok:World->Prop
 keep:∀ {own:Nat->Prop} {W W':World},ok W->Turns own W W'->(∀ k,fp k->¬ own k)->ok W'
 lt:∀ {W:World} {k:Nat},ok W->fp k->k<W.heap.size
def Sep:List Pc->World->Prop
 | [],_=>True
 | p::ps,w=>p.ok w/\(∀ q∈ps,∀ k,p.fp k->¬ q.fp k)/\Sep ps w
section
variable {W W':World}
theorem Sep.MH:∀ {ps:List Pc},Sep ps W->∀ p∈ps,p.ok W
 | _::_,⟨h,_,hs⟩,q,hq=>(List.mem_cons.1 hq).elim (λe=>e▸h) (λe=>Sep.MH hs q e)
theorem Sep.keep {own:Nat->Prop}:∀ {ps:List Pc},Sep ps W->Turns own W W'->(∀ p∈ps,∀ k,p.fp k->¬ own k)->Sep ps W'
 | [],_,_,_=>trivial
 | p::_,⟨h,hd,hs⟩,ht,ho=>⟨p.keep h ht (ho p (List.mem_cons_self ..)),hd,Sep.keep hs ht (λq hq=>ho q (List.mem_cons_of_mem _ hq))⟩
theorem Sep.below {ps:List Pc} (h:Sep ps W) (hb:Below W.heap.size W W'):Sep ps W':=h.keep (own:=λ_=>False) (Turns.of_below hb) (λ_ _ _ _ h=>h)
theorem Sep.head {p:Pc} {ps:List Pc} (h:Sep (p::ps) W):p.ok W:=h.1
theorem Sep.tail {p:Pc} {ps:List Pc} (h:Sep (p::ps) W):Sep ps W:=h.2.2
theorem Sep.at' {ps:List Pc} (h:Sep ps W) (i:Nat) {p:Pc} (hi:ps[i]?=some p):p.ok W:=h.MH p (List.mem_of_getElem? hi)
theorem Sep.lt {ps:List Pc} (h:Sep ps W) {p:Pc} (hp:p∈ps) {k:Nat} (hk:p.fp k):k<W.heap.size:=p.lt (h.MH p hp) hk
theorem Sep.add {p:Pc} {ps:List Pc} (h:Sep ps W) (hb:Below W.heap.size W W') (hp:p.ok W') (hn:∀ k,p.fp k->W.heap.size<=k):Sep (p::ps) W' :=
 ⟨hp,λq hq k hk hqk=>by have:=hn k hk;have:=h.lt hq hqk;omega,h.below hb⟩
theorem Sep.upd {own:Nat->Prop}:∀ {ps:List Pc} (i:Nat) {p p':Pc},Sep ps W->ps[i]?=some p->Turns own W W'->(∀ k,own k->k<W.heap.size->p.fp k)->p'.ok W'->(∀ k,p'.fp k->p.fp k\/W.heap.size<=k)->Sep (ps.set i p') W'
 | [],_,_,_,_,hi,_,_,_,_=>by simp at hi
 | q::ps,0,p,p',h,hi,ht,ho,hp,hn=>by
  simp only [List.getElem?_cons_zero,Option.some.injEq] at hi;subst hi;have h':=h;obtain⟨h1,h2,h3⟩:=h;refine⟨hp,λr hr k hk hrk=>?_,h3.keep ht (λr hr k hk hok=>?_)⟩
  ·rcases hn k hk with e | e
   ·exact h2 r hr k e hrk
   ·have:=h3.lt hr hrk;omega
  ·exact h2 r hr k (ho k hok (h3.lt hr hk)) hk
 | q::ps,i+1,p,p',h,hi,ht,ho,hp,hn=>by
  rw [List.getElem?_cons_succ] at hi;have h':=h;obtain⟨h1,h2,h3⟩:=h;have hm:=List.mem_of_getElem? hi;have hq:q.ok W':=q.keep h1 ht (λk hk hok=>h2 p hm k hk (ho k hok (q.lt h1 hk)));refine⟨hq,λr hr k hk hrk=>?_,Sep.upd i h3 hi ht ho hp hn⟩
  rcases List.mem_or_eq_of_mem_set hr with e | e
  ·exact h2 r e k hk hrk
  ·subst e
   rcases hn k hrk with e | e
   ·exact h2 p hm k hk e
   ·have:=q.lt h1 hk;omega
theorem Sep.perm {ps qs:List Pc} (hp:ps.Perm qs):Sep ps W->Sep qs W:=by
 induction hp with
 | nil=>exact id
 | cons a hp ih=>exact λ⟨h1,h2,h3⟩=>⟨h1,λq hq=>h2 q (hp.mem_iff.2 hq),ih h3⟩
 | swap a b l =>
  rintro⟨h1,h2,h3,h4,h5⟩;refine⟨h3,λq hq k hk hqk=>?_,h1,λq hq=>h2 q (List.mem_cons_of_mem _ hq),h5⟩
  rcases List.mem_cons.1 hq with e | e
  ·subst e;exact h2 a (List.mem_cons_self ..) k hqk hk
  ·exact h4 q e k hk hqk
 | trans _ _ i1 i2=>exact λh=>i2 (i1 h)
theorem Sep.drop {ps:List Pc} (i:Nat) (h:Sep ps W):Sep (ps.eraseIdx i) W:=by
 induction ps generalizing i with
 | nil=>exact trivial
 | cons p ps ih =>
  cases i with
  | zero=>exact h.2.2
  | succ i=>exact⟨h.1,λq hq=>h.2.1 q (List.mem_of_mem_eraseIdx hq),ih i h.2.2⟩
theorem Sep.merge {p q r:Pc} {ps:List Pc} (h:Sep (p::q::ps) W) (hr:r.ok W) (hf:∀ k,r.fp k->p.fp k\/q.fp k):Sep (r::ps) W :=
 ⟨hr,λs hs k hk hsk=>(hf k hk).elim (λe=>h.2.1 s (List.mem_cons_of_mem _ hs) k e hsk) (λe=>h.2.2.2.1 s hs k e hsk),h.2.2.2.2⟩
theorem Sep.as:∀ {ps:List Pc} (i:Nat) {p p':Pc},Sep ps W->ps[i]?=some p->(p.ok W->p'.ok W)->(∀ k,p'.fp k->p.fp k)->Sep (ps.set i p') W:=by
 intro ps i p p' h hi h1 h2;exact h.upd (own:=λ_=>False) i hi (Turns.refl _ _) (λ_ h _=>h.elim) (h1 (h.at' i hi)) (λk hk=>.inl (h2 k hk))
theorem Sep.apart {p q:Pc} {ps:List Pc} (h:Sep (p::ps) W) (hq:q∈ps) {k:Nat} (hk:p.fp k):¬ q.fp k:=h.2.1 q hq k hk
end
def Pc.old (n:Nat) (W0:World):Pc where
 fp k:=k<n
 ok W:=n<=W.heap.size/\Below n W0 W
 keep:=λ{_ _ _} h ht ho=>⟨Nat.le_trans h.1 ht.size,h.2.trans ⟨ht.os,ht.tape,ht.output,ht.size,λk hk=>ht.block k (Nat.lt_of_lt_of_le hk h.1) (ho k hk)⟩⟩
 lt:=λ{_ _} h hk=>Nat.lt_of_lt_of_le hk h.1
def Pc.blk (g:Nat) (t:TypeId) (cs:Array Value):Pc where
 fp k:=k=g
 ok W:=aj W g t cs
 keep:=λ{_ _ _} h ht ho=>ht.blk h (ho g rfl)
 lt:=λ{_ _} h hk=>hk▸h.lt
def Pc.row (base:Nat) (e:TypeId) (s:Nat) (v:Value) (n:Nat) (xs:List Value):Pc where
 fp k:=v.ownBlock=some k
 ok W:=W.ownsRow base e s v n xs
 keep:=λ{_ _ _} h ht ho=>ht.row h ho
 lt:=λ{_ _} h hk=>(h.lt _ hk).2
def Pc.obj (g:Nat) (o:Obj):Pc where
 fp k:=k=g
 ok W:=W.heap[g]?=some o
 keep:=λ{_ _ _} h ht ho=>(ht.block g (Array.getElem?_eq_some_iff.1 h).1 (ho g rfl)).trans h
 lt:=λ{_ _} h hk=>hk▸(Array.getElem?_eq_some_iff.1 h).1
def Pc.Jz (m base:Nat) (E e:TypeId) (v:Value) (vs:List Value) (xss:List (List Value)):Pc where
 fp k:=v.ownBlock=some k\/∃ i x,i<xss.length/\vs[i]?=some x/\x.ownBlock=some k
 ok W:=vs.length=xss.length+m/\W.ownsRow base E 1 v vs.length vs/\∀ (i:Nat) (xs:List Value),xss[i]?=some xs->∃ x,vs[i]?=some x/\W.ownsRow base e 1 x xs.length xs/\x.ownBlock≠some (v.ownBlock.getD W.heap.size)
 keep:=λ{own W W'} ⟨h0,h1,h2⟩ ht ho=>⟨h0,ht.row h1 (λk hk=>ho k (.inl hk)),λi xs hi=>by
  obtain⟨x,hx,hr,hn⟩:=h2 i xs hi;refine⟨x,hx,ht.row hr (λk hk=>ho k (.inr ⟨i,x,(List.getElem?_eq_some_iff.1 hi).1,hx,hk⟩)),?_⟩
  cases hv:v.ownBlock with
  | some k=>rw [hv] at hn;exact hn
  | none=>intro e;have h8:=(hr.lt _ e).2;have h9:=ht.size;rw [Option.getD_none] at h8;omega⟩
 lt:=λ{_ _} ⟨_,h1,h2⟩ hk=>hk.elim (λh=>(h1.lt _ h).2) (λ⟨i,x,hi,hx,h⟩=>by
  obtain⟨x',hx',hr,_⟩:=h2 i _ (List.getElem?_eq_getElem hi);rw [hx] at hx'
  cases hx';exact(hr.lt _ h).2)
abbrev Pc.rows (base:Nat) (E e:TypeId) (v:Value) (vs:List Value) (xss:List (List Value)):Pc:=Pc.Jz 0 base E e v vs xss
section
variable {W W':World}
theorem Pc.agA (W:World):(Pc.old W.heap.size W).ok W:=⟨Nat.le_refl _,Below.refl _ _⟩
theorem Sep.start (W:World):Sep [Pc.old W.heap.size W] W:=⟨Pc.agA W,λ_ h=>absurd h List.not_mem_nil,trivial⟩
theorem Sep.bel {n:Nat} {W0:World} {ps:List Pc} (h:Sep ps W) (hi:Pc.old n W0∈ps):Below n W0 W:=(h.MH _ hi).2
theorem Sep.blk {ps:List Pc} (h:Sep ps W) (i:Nat) {g:Nat} {t:TypeId} {cs:Array Value} (hi:ps[i]?=some (Pc.blk g t cs)):aj W g t cs:=h.at' i hi
theorem Sep.row {ps:List Pc} (h:Sep ps W) (i:Nat) {base n s:Nat} {e:TypeId} {v:Value} {xs:List Value} (hi:ps[i]?=some (Pc.row base e s v n xs)):W.ownsRow base e s v n xs:=h.at' i hi
theorem Sep.bM {ps:List Pc} (h:Sep ps W) (t:TypeId) (cs:Array Value):Sep (Pc.blk W.heap.size t cs::ps) (W.alloc (.cells cs t)) :=
 h.add ((Below.refl _ _).alloc (Nat.le_refl _) _) (aj.new W t cs) (λk hk=>by rw [show k=W.heap.size from hk];exact Nat.le_refl _)
theorem Sep.alloc {ps:List Pc} (h:Sep ps W) (o:Obj):Sep ps (W.alloc o):=h.below ((Below.refl _ _).alloc (Nat.le_refl _) o)
theorem Sep.drew {ps:List Pc} (h:Sep ps W):Sep ps W.drew:=h.keep (own:=λ_=>False) (Turns.drew W) (λ_ _ _ _ h=>h)
theorem alF (own:Nat->Prop) (W:World) (n:Nat):Turns own W (W.drewN n):=⟨rfl,rfl,rfl,Nat.le_refl _,λ_ _ _=>rfl⟩
theorem Sep.drewN {ps:List Pc} (h:Sep ps W) (n:Nat):Sep ps (W.drewN n):=h.keep (own:=λ_=>False) (alF _ W n) (λ_ _ _ _ h=>h)
theorem Sep.iW {ps:List Pc} (h:Sep ps W) (base s:Nat) (e:TypeId):Sep (Pc.row base e s (.slice none 0 0) 0 []::ps) W :=
 ⟨World.ownsRow_nil _ _ _ _,λ_ _ k hk=>by simp [Pc.row,Value.ownBlock] at hk,h⟩
theorem Sep.set {ps:List Pc} (h:Sep ps W) (i:Nat) {g:Nat} {t:TypeId} {cs:Array Value} (hi:ps[i]?=some (Pc.blk g t cs)) (j:Nat) (u:Value):Sep (ps.set i (Pc.blk g t (cs.setIfInBounds j u))) (W.setCell ⟨g,j,none⟩ u) :=
 h.upd (own:=λk=>k=g) i hi (Turns.setCell (own:=λk=>k=g) W (p:=⟨g,j,none⟩) rfl u) (λ_ hk _=>hk) ((h.blk i hi).dh j u) (λ_ hk=>.inl hk)
theorem own_base {w:World} {base base':Nat} {e:TypeId} {s:Nat} {v:Value} {n:Nat} {xs:List Value} (h:w.ownsRow base e s v n xs) (hb:base'<=base):w.ownsRow base' e s v n xs :=
 ⟨h.1,h.2.imp id (λ⟨g,cap,cur,h1,h2,r⟩=>⟨g,cap,cur,h1,Nat.le_trans hb h2,r⟩)⟩
theorem D6 {own:Nat->Prop} {A B:World} {row:Option Nat} (h:A.grownBy B row) (hr:∀ k,row=some k->own k):Turns own A B :=
 ⟨h.os,h.tape,h.output,h.size,λi hi ho=>h.block i hi (λe=>ho (hr i e.symm))⟩
theorem Sep.grow {ps:List Pc} (h:Sep ps W) (i:Nat) {base n n' s:Nat} {e:TypeId} {v v':Value} {xs xs':List Value} (hi:ps[i]?=some (Pc.row base e s v n xs)) (hg:W.grownBy W' v.ownBlock) (hr:W'.ownsRow base e s v' n' xs')
  (ho:v'.ownBlock=v.ownBlock\/∀ k,v'.ownBlock=some k->W.heap.size<=k):Sep (ps.set i (Pc.row base e s v' n' xs')) W' :=
 h.upd (own:=λk=>v.ownBlock=some k) i hi (D6 hg (λ_ h=>h)) (λ_ hk _=>hk) hr (λk hk=>by
  rcases ho with e | e
  ·exact .inl (show v.ownBlock=some k by rw [<- e];exact hk)
  ·exact .inr (e k hk))
theorem Sep.got {ps:List Pc} (h:Sep ps W) {base n s:Nat} {e:TypeId} {v:Value} {xs:List Value} (hb:Below W.heap.size W W') (hr:W'.ownsRow W.heap.size e s v n xs) (hB:base<=W.heap.size):Sep (Pc.row base e s v n xs::ps) W' :=
 h.add hb (own_base hr hB) (λk hk=>(hr.lt k hk).1)
end
theorem Sep.join:∀ {ps:List Pc} (i:Nat) {p q r:Pc} {W:World},Sep (p::ps) W->ps[i]?=some q->r.ok W->(∀ k,r.fp k->p.fp k\/q.fp k)->Sep (ps.set i r) W
 | [],_,_,_,_,_,_,hi,_,_=>by simp at hi
 | s::ps,0,p,q,r,W,h,hi,hr,hf=>by
  simp only [List.getElem?_cons_zero,Option.some.injEq] at hi;subst hi;exact Sep.merge (ps:=ps) h hr hf
 | s::ps,i+1,p,q,r,W,h,hi,hr,hf=>by
  rw [List.getElem?_cons_succ] at hi;obtain⟨h1,h2,h3,h4,h5⟩:=h;have hm:=List.mem_of_getElem? hi;refine⟨h3,λt ht k hk htk=>?_,Sep.join i (p:=p) ⟨h1,λt ht=>h2 t (List.mem_cons_of_mem _ ht),h5⟩ hi hr hf⟩
  rcases List.mem_or_eq_of_mem_set ht with e | e
  ·exact h4 t e k hk htk
  ·subst e
   rcases hf k htk with e | e
   ·exact h2 s (List.mem_cons_self ..) k e hk
   ·exact h4 q hm k hk e
theorem Sep.ad9 {ps:List Pc} {W:World} (h:Sep ps W) (base:Nat) (E e:TypeId):Sep (Pc.rows base E e (.slice none 0 0) [] []::ps) W:=by
 refine⟨⟨rfl,World.ownsRow_nil _ _ _ _,λi xs hi=>by simp at hi⟩,λ_ _ k hk=>?_,h⟩
 rcases hk with hk | ⟨i,x,hi,_⟩
 ·simp [Value.ownBlock] at hk
 ·simp at hi
theorem Sep.akY {ps:List Pc} {W:World} {base:Nat} {E e:TypeId} {x:Value} {xs:List Value} (h:Sep (Pc.row base e 1 x xs.length xs::ps) W) (hb:base<=W.heap.size) :
  Sep (Pc.rows base E e (.slice (some ⟨W.heap.size,0,none⟩) 1 1) [x] [xs]::ps) (W.alloc (.cells #[x] E)):=by
 have h1:=h.row 0 rfl;have h2:=h.alloc (.cells #[x] E);have hlt:=h1.lt;have hnew:(W.alloc (.cells #[x] E)).ownsRow base E 1 (.slice (some ⟨W.heap.size,0,none⟩) 1 1) 1 [x] :=
  ⟨rfl, .inr ⟨W.heap.size,1,#[x],rfl,hb,heap_alloc_new _ _,Nat.le_refl _,by unfold maxLen;omega,rfl,rfl⟩⟩
 have h3:Sep (Pc.row base E 1 (.slice (some ⟨W.heap.size,0,none⟩) 1 1) 1 [x]::Pc.row base e 1 x xs.length xs::ps) (W.alloc (.cells #[x] E)) :=
  h.add ((Below.refl _ _).alloc (Nat.le_refl _) _) hnew (λk hk=>by simp [Pc.row,Value.ownBlock] at hk;omega)
 refine h3.merge ⟨rfl,hnew,λi ys hi=>?_⟩ (λk hk=>?_)
 ·match i,hi with
  | 0,hi =>
   simp only [List.getElem?_cons_zero,Option.some.injEq] at hi;subst hi;exact⟨x,rfl,h1.alloc _,λe=>by have:=(hlt _ e).2;simp [Value.ownBlock] at this⟩
  | i+1,hi=>simp at hi
 ·rcases hk with hk | ⟨i,y,hi,hy,hk⟩
  ·exact .inl hk
  ·simp only [List.length_cons,List.length_nil] at hi;obtain rfl:i=0:=by omega
   simp only [List.getElem?_cons_zero,Option.some.injEq] at hy;subst hy;exact .inr hk
theorem Sep.aiw {ps:List Pc} {W W':World} {base n:Nat} {E e:TypeId} {x v v':Value} {xs:List Value} {vs:List Value} {xss:List (List Value)} (h:Sep (Pc.row base e 1 x n xs::ps) W) (i:Nat) (hi:ps[i]?=some (Pc.rows base E e v vs xss)) (hn:n=xs.length)
  (hg:W.grownBy W' v.ownBlock) (hr:W'.ownsRow base E 1 v' (vs.length+1) (vs++[x])) (ho:v'.ownBlock=v.ownBlock\/∀ k,v'.ownBlock=some k->W.heap.size<=k):Sep (ps.set i (Pc.rows base E e v' (vs++[x]) (xss++[xs]))) W':=by
 subst hn;obtain⟨h0,h1,h2⟩:=h.at' (i+1) (p:=Pc.rows base E e v vs xss) (by simpa using hi);have hT:Turns (λk=>v.ownBlock=some k) W W':=D6 hg (λ_ h=>h);have hblk:∀ k,v'.ownBlock=some k->v.ownBlock=some k\/W.heap.size<=k:=λk hk=>by
  rcases ho with e | e
  ·exact .inl (e▸hk)
  ·exact .inr (e k hk)
 have hin:∀ (j:Nat) (ys:List Value),xss[j]?=some ys->∃ y,vs[j]?=some y/\W'.ownsRow base e 1 y ys.length ys/\y.ownBlock≠some (v'.ownBlock.getD W'.heap.size):=by
  intro j ys hj;obtain⟨y,hy,hyr,hyn⟩:=h2 j ys hj;have hne:∀ k,y.ownBlock=some k->¬ v.ownBlock=some k:=λk hk hv=>by rw [hv] at hyn;exact hyn hk
  have Zp:=hT.row hyr hne;refine⟨y,hy,Zp,?_⟩
  cases hv:v'.ownBlock with
  | none=>intro e;have:=(Zp.lt _ e).2;simp at this
  | some k =>
   intro e
   rcases hblk k hv with h | h
   ·exact hne k e h
   ·have:=(hyr.lt k e).2;omega
 have akD:(Pc.Jz 1 base E e v' (vs++[x]) xss).ok W':=⟨by rw [List.length_append];simp at h0 ⊢;omega,by rw [List.length_append];exact hr,λj ys hj=>by
  obtain⟨y,hy,h3⟩:=hin j ys hj;exact⟨y,by rw [List.getElem?_append_left (List.getElem?_eq_some_iff.1 hy).1];exact hy,h3⟩⟩
 have hlv:vs.length=xss.length:=by simpa using h0
 have hS:=h.upd (own:=λk=>v.ownBlock=some k) (i+1) (p':=Pc.Jz 1 base E e v' (vs++[x]) xss) (by simpa using hi) hT (λk hk _=>Or.inl hk) akD (λk hk=>by
  rcases hk with hk | ⟨j,y,hj,hy,hk⟩
  ·rcases hblk k hk with e | e
   ·exact .inl (.inl e)
   ·exact .inr e
  ·rw [List.getElem?_append_left (by omega)] at hy;exact .inl (.inr ⟨j,y,hj,hy,hk⟩))
 rw [List.set_cons_succ] at hS;have hx:=hS.row 0 rfl;have hget:(ps.set i (Pc.Jz 1 base E e v' (vs++[x]) xss))[i]?=some (Pc.Jz 1 base E e v' (vs++[x]) xss):=by
  rw [List.getElem?_set_self (List.getElem?_eq_some_iff.1 hi).1]
 have hxv:∀ k,x.ownBlock=some k->¬ v'.ownBlock=some k:=λk hk hv=>hS.apart (List.mem_of_getElem? hget) (k:=k) hk (.inl hv)
 have:=hS.join i (r:=Pc.rows base E e v' (vs++[x]) (xss++[xs])) hget ⟨by simp [hlv],by rw [List.length_append];exact hr,λj ys hj=>by
   rcases Nat.lt_or_ge j xss.length with hl | hl
   ·rw [List.getElem?_append_left hl] at hj;obtain⟨y,hy,h3⟩:=hin j ys hj;exact⟨y,by rw [List.getElem?_append_left (List.getElem?_eq_some_iff.1 hy).1];exact hy,h3⟩
   ·rw [List.getElem?_append_right hl] at hj;have hj0:j-xss.length=0:=by have:=(List.getElem?_eq_some_iff.1 hj).1;simp at this;omega
    rw [hj0] at hj;simp only [List.getElem?_cons_zero,Option.some.injEq] at hj;subst hj;refine⟨x,by rw [List.getElem?_append_right (by omega),show j-vs.length=0 by omega];rfl,hx,?_⟩
    cases hv:v'.ownBlock with
    | none=>intro e;have:=(hx.lt _ e).2;simp at this
    | some k=>intro e;exact hxv k e hv⟩ (λk hk=>by
   rcases hk with hk | ⟨j,y,hj,hy,hk⟩
   ·exact .inr (.inl hk)
   ·rcases Nat.lt_or_ge j vs.length with hl | hl
    ·exact .inr (.inr ⟨j,y,by omega,hy,hk⟩)
    ·rw [List.getElem?_append_right hl] at hy;have hj0:j-vs.length=0:=by have:=(List.getElem?_eq_some_iff.1 hy).1;simp at this;omega
     rw [hj0] at hy;simp only [List.getElem?_cons_zero,Option.some.injEq] at hy;subst hy;exact .inl hk)
 rwa [List.set_set] at this
theorem ab1:∀ {ps:List Pc} (i:Nat) {p:Pc},ps[i]?=some p->(ps.Perm (p::ps.eraseIdx i))
 | [],_,_,h=>by simp at h
 | q::ps,0,p,h=>by
  simp only [List.getElem?_cons_zero,Option.some.injEq] at h;subst h;exact List.Perm.refl _
 | q::ps,i+1,p,h=>by
  rw [List.getElem?_cons_succ] at h;exact((ab1 i h).cons q).trans (List.Perm.swap p q _)
theorem Sep.front {ps:List Pc} {W:World} (h:Sep ps W) (i:Nat) {p:Pc} (hi:ps[i]?=some p):Sep (p::ps.eraseIdx i) W:=h.perm (ab1 i hi)
structure Pushes (P:Program) (t e:TypeId) (bytes:Nat):Prop where
 o:∃ (i:TypeInfo) (z:Value),P.underlying t=some (.slice e)/\P.info? e=some i/\i.zero=some z/\i.size=1/\i.bytes=bytes/\z.cells.size=1
theorem Pushes.mk' {P:Program} {t e:TypeId} {bytes:Nat} {z:Value} (ht:P.underlying t=some (.slice e)) (h:(P.info? e).map (λi=>(i.zero,i.size,i.bytes))=some (some z,1,bytes)) (hz:z.cells.size=1):Pushes P t e bytes:=by
 cases hi:P.info? e with
 | none=>rw [hi] at h;cases h
 | some i =>
  rw [hi] at h;simp only [Option.map_some,Option.some.injEq,Prod.mk.injEq] at h;exact⟨i,z,ht,hi,h.1,h.2.1,h.2.2,hz⟩
theorem ji {P:Program} {w0:World} {ops:Array Oper} {rest:List Oper} {o:Oper} {a:Act} {Q:Exit->Act->World->Prop} (hgd:o.guard=none) (s x:Operand) (t:TypeId)
  (ho:o.op = .call { callee:=.builtin .append,args:=#[s,x],argTypes:=#[t,t] }) {base:Nat} {e te:TypeId} {bytes:Nat} (hP:Pushes P t e bytes) {ps:List Pc} (hS:Sep ps w0) (k:Nat) {v u:Value} {n:Nat} {xs:List Value}
  (hk:ps[k]?=some (Pc.row base e 1 v n xs)) (hs:a.eval s=v) (hx:a.eval x = .slice (some ⟨w0.heap.size,0,none⟩) 1 1) (h1:u.oneCell'=true) (hn:n<=1000000000) (hby:bytes<=1000) (hbase:base<=w0.heap.size)
  (h:∀ v' w',Sep (ps.set k (Pc.row base e 1 v' (n+1) (xs++[u]))) w'->(∃ g c,v' = .slice (some ⟨g,0,none⟩) (n+1) c/\n+1<=c/\c<=9223372036854775807)->wpList P ops Q rest (a.put o.dst v') w'):wpList P ops Q (o::rest) a (w0.alloc (.cells #[u] te)):=by
 obtain⟨i,z,ht,hi,hz0,hz1,hz2,hz3⟩:=hP.o;have hb:(n+1)*bytes<=1000000001*1000:=Nat.mul_le_mul (by omega) hby;refine wpList_append_own_at _ hgd s x t ho base e i z 1 bytes ht hi hz0 hz1 hz2 hz3 (by decide) v n xs hs ((hS.row k hk).alloc _) ⟨w0.heap.size,0,none⟩ 1 1 [u] hx rfl (cell_one_new _ _ _) (by simpa using h1) (by unfold maxLen;omega) (by omega) (by simp;omega) ?_;intro v' w' hown hgrow _ hat
 have hS':=(hS.alloc (.cells #[u] te)).grow k hk hgrow hown (by
  rcases hat with e1 | e1
  ·exact .inl e1
  ·exact .inr (λq hq=>by rw [e1] at hq;simp only [Option.some.injEq] at hq;omega))
 refine h v' w' hS' ?_
 rcases hown.2 with⟨_,h2⟩ | ⟨g,cap,cur,h2,_,_,h3,h4,_⟩
 ·omega
 ·exact⟨g,cap,h2,h3,by unfold maxLen at h4;omega⟩
theorem XO {P:Program} {w0:World} {ops:Array Oper} {rest:List Oper} {o:Oper} {a:Act} {Q:Exit->Act->World->Prop} (hgd:o.guard=none) (s x:Operand) (t:TypeId)
  (ho:o.op = .call { callee:=.builtin .append,args:=#[s,x],argTypes:=#[t,t] }) {base:Nat} {E e te:TypeId} {bytes:Nat} (hP:Pushes P t E bytes) {ps:List Pc} {u:Value} {n:Nat} {xs:List Value} (hS:Sep (Pc.row base e 1 u n xs::ps) w0) (k:Nat) {v:Value} {vs:List Value} {xss:List (List Value)}
  (hk:ps[k]?=some (Pc.rows base E e v vs xss)) (hs:a.eval s=v) (hx:a.eval x = .slice (some ⟨w0.heap.size,0,none⟩) 1 1) (h1:u.oneCell'=true) (hlen:n=xs.length) (hn:vs.length<=1000000000) (hby:bytes<=1000) (hbase:base<=w0.heap.size)
  (h:∀ v' w',Sep (ps.set k (Pc.rows base E e v' (vs++[u]) (xss++[xs]))) w'->(∃ g c,v' = .slice (some ⟨g,0,none⟩) (vs.length+1) c/\vs.length+1<=c/\c<=9223372036854775807)->wpList P ops Q rest (a.put o.dst v') w'):wpList P ops Q (o::rest) a (w0.alloc (.cells #[u] te)):=by
 obtain⟨i,z,ht,hi,hz0,hz1,hz2,hz3⟩:=hP.o;have hb:(vs.length+1)*bytes<=1000000001*1000:=Nat.mul_le_mul (by omega) hby;have hrow:=(hS.at' (k+1) (p:=Pc.rows base E e v vs xss) (by simpa using hk)).2.1;refine wpList_append_own_at _ hgd s x t ho base E i z 1 bytes ht hi hz0 hz1 hz2 hz3 (by decide) v vs.length vs hs (hrow.alloc _) ⟨w0.heap.size,0,none⟩ 1 1 [u] hx rfl (cell_one_new _ _ _) (by simpa using h1) (by unfold maxLen;omega) (by omega) (by simp;omega) ?_;intro v' w' hown hgrow _ hat
 have hS':=(hS.alloc (.cells #[u] te)).aiw k hk hlen hgrow hown (by
  rcases hat with e1 | e1
  ·exact .inl e1
  ·exact .inr (λq hq=>by rw [e1] at hq;simp only [Option.some.injEq] at hq;omega))
 refine h v' w' hS' ?_
 rcases hown.2 with⟨_,h2⟩ | ⟨g,cap,cur,h2,_,_,h3,h4,_⟩
 ·omega
 ·exact⟨g,cap,h2,h3,by unfold maxLen at h4;omega⟩
theorem iU {w:World} {base s n:Nat} {e:TypeId} {v:Value} {xs:List Value} (h:w.ownsRow base e s v n xs):∃ a c,v = .slice a n c/\n<=c/\c<=9223372036854775807:=by
 rcases h.2 with⟨rfl,rfl⟩ | ⟨g,cap,cur,rfl,_,_,h3,h4,_⟩
 ·exact⟨_,_,rfl,Nat.le_refl _,by omega⟩
 ·exact⟨_,_,rfl,h3,by unfold maxLen at h4;omega⟩
section
variable {P:Program} {ops:Array Oper} {Q:Exit->Act->World->Prop} {md:Region.Mode} {k:Nat} {F:World->Prop}
def Closed (md:Region.Mode) (ops:Array Oper) (l:Array Bool):Prop :=
 ∀ j oj,ops[j]?=some oj->l.getD j true=true->∀ e∈oj.after,Region.binds md e=true->l.getD e.on true=true
def MO (md:Region.Mode) (ops:Array Oper) (l:Array Bool):Bool :=
 (List.range ops.size).all λj=>!l.getD j true||match ops[j]? with
  | some oj=>oj.after.all λe=>!Region.binds md e||l.getD e.on true
  | none=>true
theorem amy {l:Array Bool} (h:MO md ops l=true):Closed md ops l:=by
 intro j oj hj hl e he hb;unfold MO at h;rw [List.all_eq_true] at h;have h1:=h j (List.mem_range.2 (Array.getElem?_eq_some_iff.1 hj).1);rw [hl,hj] at h1;simp only [Bool.not_true,Bool.false_or] at h1;have h2:=Array.all_eq_true'.1 h1 e he;rw [hb] at h2
 simpa using h2
theorem aia {l:Array Bool} {i:Nat} (h:Closed md ops l) (hr:i∈Region.ready md ops l):Closed md ops (l.setIfInBounds i true):=by
 obtain⟨hun,oi,hoi,hall⟩:=mem_ready.1 hr;have up:∀ j,l.getD j true=true->(l.setIfInBounds i true).getD j true=true:=by
  intro j hj
  by_cases e:i=j
  ·subst e;rw [Array.getD_eq_getD_getElem?,Array.getElem?_setIfInBounds];simp
   split <;> rfl
  ·rw [getD_set_ne true e];exact hj
 intro j oj hj hl e he hb
 by_cases hij:i=j
 ·subst hij;rw [hoi] at hj
  cases hj;exact up _ (by
   have h1:=hall e he hb
   rcases Nat.lt_or_ge e.on l.size with h' | h'
   ·simp [h'] at h1 ⊢;exact h1
   ·simp [Array.getElem?_eq_none h'])
 ·rw [getD_set_ne true hij] at hl;exact up _ (h j oj hj hl e he hb)
def DX (md:Region.Mode) (ops:Array Oper) (i:Nat):Nat->Nat->Bool
 | 0,_=>false
 | f+1,k=>match ops[k]? with
  | some ok=>ok.after.any λe=>Region.binds md e&&(e.on==i||DX md ops i f e.on)
  | none=>false
theorem RJ {l:Array Bool} {i:Nat} (hc:Closed md ops l) (hi:l.getD i true=false):∀ (f k:Nat),DX md ops i f k=true->l.getD k true=false
 | 0,_,h=>by simp [DX] at h
 | f+1,k,h=>by
  unfold DX at h
  cases hk:ops[k]? with
  | none=>rw [hk] at h;cases h
  | some ok =>
   rw [hk] at h;obtain⟨e,he,hb⟩:=Array.any_eq_true'.1 h;simp only [Bool.and_eq_true,Bool.or_eq_true,beq_iff_eq] at hb
   cases hl:l.getD k true with
   | false=>rfl
   | true =>
    have h1:=hc k ok hk hl e he hb.1
    rcases hb.2 with e1 | e1
    ·rw [e1,hi] at h1;cases h1
    ·rw [RJ hc hi f e.on e1] at h1;cases h1
def jV (P:Program) (md:Region.Mode) (ops:Array Oper) (Q:Exit->Act->World->Prop) (k:Nat) (F:World->Prop):Nat->Array Bool->Act->World->Prop
 | 0,listed,a,w=>Region.ready md ops listed=[]/\Q .normal a w
 | fuel+1,listed,a,w =>
  (Region.ready md ops listed=[]->Q .normal a w) /\
  ∀ i∈Region.ready md ops listed,wpOp P ops Q i (λa' w'=>((listed.setIfInBounds i true).getD k true=false->F w')/\jV P md ops Q k F fuel (listed.setIfInBounds i true) a' w') a w
theorem ZF:∀ (fuel:Nat) (listed:Array Bool) (a:Act) (w:World),jV P md ops Q k F fuel listed a w->wpAny P md ops Q fuel listed a w
 | 0,_,_,_,h=>h
 | fuel+1,_,_,_,h=>⟨h.1,λi hi=>wpOp_mono (λa' w' h'=>ZF fuel _ a' w' h'.2) (h.2 i hi)⟩
theorem ae6 {i f:Nat} {oi:Oper} {v:Value} (hi:ops[i]?=some oi) (hsel:∀ (j:Nat) (o:Oper) cs b,ops[j]?=some o->o.op≠.select cs b)
  (hQ:∀ c a w,Q (.panic c) (a.put oi.dst v) w->Q (.panic c) a w) (hik:i≠k) (hwt:DX md ops i f k=true) :
  ∀ (fuel:Nat) (listed:Array Bool) (a:Act) (w:World),
   (∀ j oj,ops[j]?=some oj->j≠i->listed.getD j true=false->(∀ e∈oj.after,Region.binds md e=true->e.on≠i)->oi.apart ops oj=true) ->
   i∈Region.ready md ops listed->Closed md ops listed->YieldsIf P ops F oi v a->(listed.getD k true=false->F w) ->
   jV P md ops Q k F fuel (listed.setIfInBounds i true) (a.put oi.dst v) w->jV P md ops Q k F (fuel+1) listed a w:=by
 intro fuel
 induction fuel with
 | zero =>
  intro listed a w _ hr hc hy hS H;refine⟨λh=>(by rw [h] at hr;cases hr),λj hj=>?_⟩;have hF:F w:=hS (RJ hc (mem_ready.1 hr).1 f k hwt)
  by_cases hji:j=i
  ·subst hji;exact YieldsIf.wpOp hi hy hF ⟨λ_=>hF,H⟩
  ·have:=ready_mono hj hji;rw [H.1] at this
   cases this
 | succ fuel ih =>
  intro listed a w hfree hr hc hy hS H;have hF:F w:=hS (RJ hc (mem_ready.1 hr).1 f k hwt);refine⟨λh=>(by rw [h] at hr;cases hr),λj hj=>?_⟩
  by_cases hji:j=i
  ·subst hji;exact YieldsIf.wpOp hi hy hF ⟨λ_=>hF,H⟩
  ·have h1:=H.2 j (ready_mono hj hji);obtain⟨hjun,oj,hoj,hall⟩:=mem_ready.1 hj;have hnot:∀ e∈oj.after,Region.binds md e=true->e.on≠i:=λe he hb heq=>by
    have h1:=hall e he hb;have h0:=(mem_ready.1 hr).1;rw [heq] at h1
    rcases Nat.lt_or_ge i listed.size with h' | h'
    ·simp [h'] at h0 h1;rw [h0] at h1;cases h1
    ·simp [Array.getElem?_eq_none h'] at h1
   have h2:=wpOp_putIf hoj (hfree j oj hoj hji hjun hnot) (λcs b=>hsel i oi cs b hi) (λcs b=>hsel j oj cs b hoj) hQ hy h1;have hfree':∀ k ok,ops[k]?=some ok->k≠i->(listed.setIfInBounds j true).getD k true=false ->
     (∀ e∈ok.after,Region.binds md e=true->e.on≠i)->oi.apart ops ok=true:=λk ok hk hki hun hno=>by
    refine hfree k ok hk hki ?_ hno
    by_cases hjk:j=k
    ·subst hjk;exact hjun
    ·rw [getD_set_ne true hjk] at hun;exact hun
   refine wpOp_mono (λa' w' h3=>?_) h2;have hS':(listed.setIfInBounds j true).getD k true=false->F w':=λh=>h3.2.1 (by
    rw [Array.setIfInBounds_comm _ _ (Ne.symm hji),getD_set_ne true hik];exact h)
   refine⟨hS',ih (listed.setIfInBounds j true) a' w' hfree' (ready_mono hr (Ne.symm hji)) (aia hc hj) h3.1 hS' ?_⟩;rw [Array.setIfInBounds_comm _ _ hji];exact h3.2.2
theorem kT {i:Nat} {oi:Oper} {v:Value} {fuel:Nat} {listed:Array Bool} {a:Act} {w:World} (hi:ops[i]?=some oi)
  (hs:(Region.noSelect ops&&Region.free md ops listed i&&(Region.ready md ops listed).contains i&&MO md ops listed&&DX md ops i ops.size k&&!(i==k))=true)
  (hQ:∀ c a w,Q (.panic c) (a.put oi.dst v) w->Q (.panic c) a w) (hy:YieldsIf P ops F oi v a) (hS:F w)
  (h:jV P md ops Q k F fuel (listed.setIfInBounds i true) (a.put oi.dst v) w):jV P md ops Q k F (fuel+1) listed a w:=by
 simp only [Bool.and_eq_true,Bool.not_eq_true',beq_eq_false_iff_ne] at hs;obtain⟨⟨⟨⟨⟨h1,h2⟩,h3⟩,h4⟩,h5⟩,h6⟩:=hs;exact ae6 hi (Region.noSelect_spec h1) hQ h6 h5 fuel listed a w (Region.free_spec hi h2) (by simpa using h3) (amy h4) hy (λ_=>hS) h
def qO (P:Program) (md:Region.Mode) (ops:Array Oper) (Q:Exit->Act->World->Prop) (k:Nat) (F:World->Prop) (fuel:Nat) (listed:Array Bool) (a:Act) (w:World) (rs:List Nat):Prop :=
 ∀ i∈rs,wpOp P ops Q i (λa' w'=>((listed.setIfInBounds i true).getD k true=false->F w')/\jV P md ops Q k F fuel (listed.setIfInBounds i true) a' w') a w
theorem qO.nil {fuel:Nat} {listed:Array Bool} {a:Act} {w:World}:qO P md ops Q k F fuel listed a w []:=λ_ h=>by cases h
theorem qO.cons {fuel:Nat} {listed:Array Bool} {a:Act} {w:World} {i:Nat} {o:Oper} {rs:List Nat} (ho:ops[i]?=some o)
  (h:∀ K':Act->World->Prop,Shut (∀ a w,((listed.setIfInBounds i true).getD k true=false->F w)->jV P md ops Q k F fuel (listed.setIfInBounds i true) a w->K' a w)->if Region.wanted o (yielded ops a.tmps)=true then Oper.wp P o a w K' Q else K' (a.put o.dst undef) w)
  (hs:qO P md ops Q k F fuel listed a w rs):qO P md ops Q k F fuel listed a w (i::rs):=λj hj=>by
 rcases List.mem_cons.1 hj with rfl | hj
 ·exact wpOp_step ho (λK' hK=>h K' (λa w hS hW=>hK a w ⟨hS,hW⟩))
 ·exact hs j hj
theorem OW {rs:List Nat} {fuel:Nat} {listed:Array Bool} {a:Act} {w:World} (hr:Region.ready md ops listed=rs) (hne:rs≠[])
  (h:qO P md ops Q k F fuel listed a w rs):jV P md ops Q k F (fuel+1) listed a w:=⟨λh0=>absurd (hr▸h0) hne,hr▸h⟩
theorem kO {i:Nat} {o:Oper} {fuel:Nat} {listed:Array Bool} {a:Act} {w:World} (hr:Region.ready md ops listed=[i]) (ho:ops[i]?=some o)
  (h:∀ K':Act->World->Prop,Shut (∀ a w,((listed.setIfInBounds i true).getD k true=false->F w)->jV P md ops Q k F fuel (listed.setIfInBounds i true) a w->K' a w)->if Region.wanted o (yielded ops a.tmps)=true then Oper.wp P o a w K' Q else K' (a.put o.dst undef) w) :
  jV P md ops Q k F (fuel+1) listed a w:=OW hr (by simp) (qO.cons ho h qO.nil)
theorem kS (i:Nat) {oi:Oper} (v:Value) {Q:Exit->Act->World->Prop} {fuel:Nat} {listed:Array Bool} {a:Act} {w:World} (hi:ops[i]?=some oi) (hS:F w)
  (hy:∀ w,F w->(execOp a.eval oi).run P w = .ok (.value v) w) (h:jV P md ops (NoPanic Q) k F fuel (listed.setIfInBounds i true) (a.put oi.dst v) w)
  (hs:(Region.noSelect ops&&Region.free md ops listed i&&(Region.ready md ops listed).contains i&&MO md ops listed&&DX md ops i ops.size k&&!(i==k))=true:=by kernel_rfl)
  (hw:Region.wanted oi (yielded ops a.tmps)=true:=by kernel_rfl):jV P md ops (NoPanic Q) k F (fuel+1) listed a w :=
 kT hi hs (λ_ _ _ h=>h) (Or.inl ⟨hw,hy⟩) hS h
theorem kP (i:Nat) {o:Oper} {fuel:Nat} {listed:Array Bool} {a:Act} {w:World} (ho:ops[i]?=some o)
  (h:∀ K':Act->World->Prop,Shut (∀ a w,((listed.setIfInBounds i true).getD k true=false->F w)->jV P md ops Q k F fuel (listed.setIfInBounds i true) a w->K' a w)->if Region.wanted o (yielded ops a.tmps)=true then Oper.wp P o a w K' Q else K' (a.put o.dst undef) w)
  (hr:Region.ready md ops listed=[i]:=by kernel_rfl):jV P md ops Q k F (fuel+1) listed a w:=kO hr ho h
theorem al9 {listed:Array Bool} {a:Act} {w:World} (hr:Region.ready md ops listed=[]) (h:Q .normal a w) :
  ∀ fuel,jV P md ops Q k F fuel listed a w
 | 0=>⟨hr,h⟩
 | _+1=>⟨λ_=>h,by rw [hr];simp⟩
theorem kD {listed:Array Bool} {a:Act} {w:World} {Q:Exit->Act->World->Prop} (h:Q .normal a w) (fuel:Nat) (hr:Region.ready md ops listed=[]:=by kernel_rfl):jV P md ops (NoPanic Q) k F fuel listed a w:=al9 hr (NoPanic.normal h) fuel
theorem fP {id:Nat} {a:Act} {w:World} (k:Nat) (F:World->Prop) (hm:P.follows .mixedOrders=true)
  (h:jV P .any ops (NoPanic Q) k F ops.size (Array.replicate ops.size false) a w.drew):(Code.region id ops true).wp P Q a w :=
 wp_region_noPanic (wp_region_any hm (ZF _ _ _ _ h))
end
section
variable {P:Program} {w0:World} {o:Oper} {a:Act} {K:Act->World->Prop} {Q:Exit->Act->World->Prop} {E':Prop} {ops:Array Oper}
theorem uF (hgd:o.guard=none) (s x:Operand) (t:TypeId)
  (ho:o.op = .call { callee:=.builtin .append,args:=#[s,x],argTypes:=#[t,t] }) {base:Nat} {e te:TypeId} {bytes:Nat} (hP:Pushes P t e bytes) {ps:List Pc} (hS:Sep ps w0) (k:Nat) {v u:Value} {n:Nat} {xs:List Value}
  (hk:ps[k]?=some (Pc.row base e 1 v n xs)) (hs:a.eval s=v) (hx:a.eval x = .slice (some ⟨w0.heap.size,0,none⟩) 1 1) (h1:u.oneCell'=true) (hn:n<=1000000000) (hby:bytes<=1000) (hbase:base<=w0.heap.size)
  (h:∀ v' w',Sep (ps.set k (Pc.row base e 1 v' (n+1) (xs++[u]))) w'->(∃ g c,v' = .slice (some ⟨g,0,none⟩) (n+1) c/\n+1<=c/\c<=9223372036854775807)->K (a.put o.dst v') w') :
  if Region.wanted o (yielded ops a.tmps)=true then Oper.wp P o a (w0.alloc (.cells #[u] te)) K Q else E':=by
 obtain⟨i,z,ht,hi,hz0,hz1,hz2,hz3⟩:=hP.o;have hb:(n+1)*bytes<=1000000001*1000:=Nat.mul_le_mul (by omega) hby;rw [if_pos (by simp [Region.wanted,hgd])];obtain⟨v',w',hr,hown,hgrow,-,hat⟩:=run_append_own_at (P:=P) (w0.alloc (.cells #[u] te)) base t o.type e i z 1 bytes ht hi hz0 hz1 hz2 hz3 (by decide) v n xs ((hS.row k hk).alloc _) ⟨w0.heap.size,0,none⟩ 1 1 [u] rfl (cell_one_new _ _ _) (by simpa using h1) (by unfold maxLen;omega) (by omega) (by simp;omega);unfold Oper.wp execOp;simp only [ho,resolve,invoke,builtin,Sem.run_bind,Sem.run_pure,Result.andThen_ok,List.map_toArray,List.map_cons,List.map_nil,hs,hx,hr];have hS':=(hS.alloc (.cells #[u] te)).grow k hk hgrow hown (by
  rcases hat with e1 | e1
  ·exact .inl e1
  ·exact .inr (λq hq=>by rw [e1] at hq;simp only [Option.some.injEq] at hq;omega))
 refine h v' w' hS' ?_
 rcases hown.2 with⟨_,h2⟩ | ⟨g,cap,cur,h2,_,_,h3,h4,_⟩
 ·omega
 ·exact⟨g,cap,h2,h3,by unfold maxLen at h4;omega⟩
end
structure vH (P:Program) (t e:TypeId) (s bytes:Nat):Prop where
 o:∃ (i:TypeInfo) (z:Value),P.underlying t=some (.slice e)/\P.info? e=some i/\i.zero=some z/\i.size=s/\i.bytes=bytes/\z.cells.size=s
theorem vH.mk' {P:Program} {t e:TypeId} {s bytes:Nat} {z:Value} (ht:P.underlying t=some (.slice e)) (h:(P.info? e).map (λi=>(i.zero,i.size,i.bytes))=some (some z,s,bytes)) (hz:z.cells.size=s):vH P t e s bytes:=by
 cases hi:P.info? e with
 | none=>rw [hi] at h;cases h
 | some i =>
  rw [hi] at h;simp only [Option.map_some,Option.some.injEq,Prod.mk.injEq] at h;exact⟨i,z,ht,hi,h.1,h.2.1,h.2.2,hz⟩
theorem ag5 (w:World) (cs:List Value) (t:TypeId):∀ j u,cs[j]?=some u->(w.alloc (.cells cs.toArray t)).cell? ((⟨w.heap.size,0,none⟩:Addr).add j)=some u:=by
 intro j u hj;rw [show (⟨w.heap.size,0,none⟩:Addr).add j=⟨w.heap.size,j,none⟩ by unfold Addr.add;by_cases h0:j=0 <;> simp [h0]];rw [cell_of_row _ _ _ _ _ _ (heap_alloc_new w _)]
 simpa using hj
section
variable {P:Program} {w0:World} {o:Oper} {a:Act} {K:Act->World->Prop} {Q:Exit->Act->World->Prop} {E':Prop} {ops:Array Oper}
theorem aaW {t:TypeId} {base:Nat} {e te:TypeId} {sz bytes:Nat} (hP:vH P t e sz bytes) (hsz:0<sz) {ps:List Pc} (hS:Sep ps w0) (k:Nat) {v:Value} {cs:List Value} {n:Nat} {xs:List Value}
  (hk:ps[k]?=some (Pc.row base e sz v n xs)) (hc:cs.length=sz) (h1:∀ u∈cs,u.oneCell'=true) (hn:n<=1000000000) (hby:bytes<=10000) (hbase:base<=w0.heap.size) (ty:TypeId) :
  ∃ v' w',(Builtin.append_ #[t,t] ty #[v, .slice (some ⟨w0.heap.size,0,none⟩) 1 1]).run P (w0.alloc (.cells cs.toArray te)) = .ok v' w'/\Sep (ps.set k (Pc.row base e sz v' (n+1) (xs++cs))) w'/\(∃ g c,v' = .slice (some ⟨g,0,none⟩) (n+1) c/\n+1<=c/\c<=9223372036854775807):=by
 obtain⟨i,z,ht,hi,hz0,hz1,hz2,hz3⟩:=hP.o;have hb:(n+1)*bytes<=1000000001*10000:=Nat.mul_le_mul (by omega) hby;obtain⟨v',w',hr,hown,hgrow,-,hat⟩:=run_append_own_at (P:=P) (w0.alloc (.cells cs.toArray te)) base t ty e i z sz bytes ht hi hz0 hz1 hz2 hz3 hsz v n xs ((hS.row k hk).alloc _) ⟨w0.heap.size,0,none⟩ 1 1 cs (by omega) (ag5 _ _ _) h1 (by unfold maxLen;omega) (by omega) (by simp;omega);refine⟨v',w',hr,(hS.alloc (.cells cs.toArray te)).grow k hk hgrow hown (by
  rcases hat with e1 | e1
  ·exact .inl e1
  ·exact .inr (λq hq=>by rw [e1] at hq;simp only [Option.some.injEq] at hq;omega)),?_⟩
 rcases hown.2 with⟨_,h2⟩ | ⟨g,cap,cur,h2,_,_,h3,h4,_⟩
 ·omega
 ·exact⟨g,cap,h2,h3,by unfold maxLen at h4;omega⟩
theorem amc (hgd:o.guard=none) (s x:Operand) (t:TypeId)
  (ho:o.op = .call { callee:=.builtin .append,args:=#[s,x],argTypes:=#[t,t] }) {base:Nat} {e te:TypeId} {sz bytes:Nat} (hP:vH P t e sz bytes) (hsz:0<sz) {ps:List Pc} (hS:Sep ps w0) (k:Nat) {v:Value} {cs:List Value} {n:Nat} {xs:List Value}
  (hk:ps[k]?=some (Pc.row base e sz v n xs)) (hs:a.eval s=v) (hx:a.eval x = .slice (some ⟨w0.heap.size,0,none⟩) 1 1) (hc:cs.length=sz) (h1:∀ u∈cs,u.oneCell'=true) (hn:n<=1000000000) (hby:bytes<=10000) (hbase:base<=w0.heap.size)
  (h:∀ v' w',Sep (ps.set k (Pc.row base e sz v' (n+1) (xs++cs))) w'->(∃ g c,v' = .slice (some ⟨g,0,none⟩) (n+1) c/\n+1<=c/\c<=9223372036854775807)->K (a.put o.dst v') w') :
  if Region.wanted o (yielded ops a.tmps)=true then Oper.wp P o a (w0.alloc (.cells cs.toArray te)) K Q else E':=by
 rw [if_pos (by simp [Region.wanted,hgd])];obtain⟨v',w',hr,h2,h3⟩:=aaW (P:=P) hP hsz hS k hk hc h1 hn hby hbase o.type (te:=te);unfold Oper.wp execOp;simp only [ho,resolve,invoke,builtin,Sem.run_bind,Sem.run_pure,Result.andThen_ok,List.map_toArray,List.map_cons,List.map_nil,hs,hx,hr];exact h v' w' h2 h3
theorem AQ {rest:List Oper} (hgd:o.guard=none) (s x:Operand) (t:TypeId)
  (ho:o.op = .call { callee:=.builtin .append,args:=#[s,x],argTypes:=#[t,t] }) {base:Nat} {e te:TypeId} {sz bytes:Nat} (hP:vH P t e sz bytes) (hsz:0<sz) {ps:List Pc} (hS:Sep ps w0) (k:Nat) {v:Value} {cs:List Value} {n:Nat} {xs:List Value}
  (hk:ps[k]?=some (Pc.row base e sz v n xs)) (hs:a.eval s=v) (hx:a.eval x = .slice (some ⟨w0.heap.size,0,none⟩) 1 1) (hc:cs.length=sz) (h1:∀ u∈cs,u.oneCell'=true) (hn:n<=1000000000) (hby:bytes<=10000) (hbase:base<=w0.heap.size)
  (h:∀ v' w',Sep (ps.set k (Pc.row base e sz v' (n+1) (xs++cs))) w'->(∃ g c,v' = .slice (some ⟨g,0,none⟩) (n+1) c/\n+1<=c/\c<=9223372036854775807)->wpList P ops Q rest (a.put o.dst v') w') :
  wpList P ops Q (o::rest) a (w0.alloc (.cells cs.toArray te)):=by
 refine wpList_plain hgd λK hK=>?_
 obtain⟨v',w',hr,h2,h3⟩:=aaW (P:=P) hP hsz hS k hk hc h1 hn hby hbase o.type (te:=te);unfold Oper.wp execOp;simp only [ho,resolve,invoke,builtin,Sem.run_bind,Sem.run_pure,Result.andThen_ok,List.map_toArray,List.map_cons,List.map_nil,hs,hx,hr];exact hK _ _ (h v' w' h2 h3)
end
theorem flat_get {α β:Type} (f:α->List β) (s:Nat):∀ (L:List α) (i j:Nat) (x:α),(∀ y∈L,(f y).length=s)->L[i]?=some x->j<s->(L.flatMap f)[i*s+j]?=(f x)[j]?
 | [],i,_,_,_,h,_=>by simp at h
 | y::L,0,j,x,hl,h,hj=>by
  simp only [List.getElem?_cons_zero,Option.some.injEq] at h;subst h;rw [List.flatMap_cons,Nat.zero_mul,Nat.zero_add,List.getElem?_append_left (by rw [hl y (List.mem_cons_self ..)];exact hj)]
 | y::L,i+1,j,x,hl,h,hj=>by
  rw [List.getElem?_cons_succ] at h;have hy:=hl y (List.mem_cons_self ..);rw [List.flatMap_cons,List.getElem?_append_right (by rw [hy,Nat.succ_mul];omega),hy,show (i+1)*s+j-s=i*s+j by rw [Nat.succ_mul];omega];exact flat_get f s L i j x (λz hz=>hl z (List.mem_cons_of_mem _ hz)) h hj
theorem Y0 (k:Nat):(2:Int) ^ k=((2 ^ k:Nat):Int):=by simp
theorem adJ (S m k:Nat) (hS:S<2 ^ k) (hm:m<k):S ||| 2 ^ m<2 ^ k:=Nat.or_lt_two_pow hS (Nat.pow_lt_pow_right (by omega) hm)
theorem aiP (S k:Nat) (hS:S<2 ^ k) (hk:k<=40):S<1099511627776:=by
 have:2 ^ k<=2 ^ 40:=Nat.pow_le_pow_right (by omega) hk;omega
structure Agree (W0 w:World):Prop where
 size:W0.heap.size<=w.heap.size
 block:∀ k,k<W0.heap.size->w.heap[k]?=W0.heap[k]?
theorem Agree.of_below {W0 w:World} (h:Below W0.heap.size W0 w):Agree W0 w:=⟨h.size,h.block⟩
theorem Agree.turns {A B C:World} {own:Nat->Prop} (h:Agree A B) (k:Turns own B C) (ho:∀ i,own i->A.heap.size<=i):Agree A C :=
 ⟨Nat.le_trans h.size k.size,λi hi=>(k.block i (Nat.lt_of_lt_of_le hi h.size) (λe=>by have:=ho i e;omega)).trans (h.block i hi)⟩
theorem Agree.holds {A B C:World} {own:Nat->Prop} (h:Agree A B) (k:Holds own B C) (ho:∀ i,i<A.heap.size->own i):Agree A C :=
 ⟨Nat.le_trans h.size k.size,λi hi=>(k.block i (ho i hi)).trans (h.block i hi)⟩
theorem Px {P:Program} {T K E:TypeId} {q:IntKind} (hm:P.underlying T=some (.map K E)) (hk:P.underlying K=some (.int q)) (W:World) (es:Array MapEntry) (clk:Nat) (k:Int) (n:Nat) (hg:W.heap[n]?=some (.map es clk))
  (i:Nat) (v:Value) (hf:Instr.findNow (.int q) (.int q k) es.toList 0=some (some (i,v))) :
  (Instr.lookup T (.map (some n)) (.int q k) false).run P W = .ok v W:=by
 have h1:(Instr.checkKey es.isEmpty 10000 K (.int q k)).run P W = .ok () W:=MapKept.run_checkKey hk (by simp [MapKept.IsKey]) _ 9999;have h2:=MapKept.run_findKey (P:=P) (w:=W) hk hf;unfold Instr.lookup;simp only [Sem.run_bind,run_underlying hm,Result.andThen,MapKept.run_getObj_map hg,h1,h2,Sem.run_pure,Bool.false_eq_true,if_false]
theorem rH {P:Program} {f:FuncId} {args:Array Value} {w:World} {n:Nat} {v:Value}
  (h:Calls P f args (w.drewN n) λe w'=>e = .returned v/\w.drewN n=w'):Calls P f args (w.drewN n) λe w''=>e = .returned v/\∃ m,w''=w.drewN m :=
 h.mono λ_ _ ⟨he,hm⟩=>⟨he,n,hm.symm⟩
theorem aaS {l:List N.Item} (h:fQ l=true) {i:Nat} {x:N.Item} (hx:l[i]?=some x):0<=x.2/\x.2<=2:=by
 unfold fQ at h;rw [Bool.and_eq_true,List.all_eq_true] at h;have:=h.2 x (List.mem_of_getElem? hx);unfold lY at this;simp only [Bool.and_eq_true,decide_eq_true_eq] at this;exact⟨this.1.2,this.2⟩
def xq (W0:World) (Br Bs Bc:Nat) (k:Nat):Prop:=k<W0.heap.size\/k=Br\/k=Bs\/k=Bc
def GK (l:List N.Item):Int:=if fQ l=true then (N.most l:Int) else 0
def NM (l:List N.Item):Value:=if fQ l=true then .tuple #[.int .i64 (N.clo l 0), .int .i64 0] else .tuple #[.int .i64 0, .int .i64 80]
def rO (l:List N.Item) (x:Int):Bool:=fQ l&&decide (0<=x)&&decide (x<=N.most l)
def Js (l:List N.Item) (st:Bool) (x c:Int):Value:=if rO l x=true then .tuple #[.int .i64 (N.step l st x.toNat c), .int .i64 0] else .tuple #[.int .i64 0, .int .i64 80]
def Oq (l:List N.Item) (x:Int):Bool:=rO l x&&N.TM l x.toNat
theorem aO (w:World) (o:Obj):Below w.heap.size w (w.alloc o):=(Below.refl _ _).alloc (Nat.le_refl _) o
theorem Yy (l:List N.Item) (h:l.length<=10):N.most l<4611686018427387904:=by
 have:2 ^ (2*l.length+1)<=2 ^ 21:=Nat.pow_le_pow_right (by omega) (by omega);unfold N.most;omega
theorem xC {l:List N.Item} (h:fQ l=true):l.length<=10:=by
 unfold fQ at h;rw [Bool.and_eq_true] at h;exact of_decide_eq_true h.1
end
section
open Go.RowKit Go.Shelf
attribute [local go_sem] Oper.semAt_some
def EW (x:D.Rule):D.Rule:=((x.1.1,x.1.2.take 12),(x.2.1.1,x.2.1.2.take 12),x.2.2)
def Ej (l:List D.Rule):List D.Rule:=(l.take 42).map EW
theorem Xj {α:Type} (xs:List α) (k:Nat) (x:α) (h:xs[k]?=some x):xs.take (k+1)=xs.take k++[x]:=by rw [List.take_add_one,h];rfl
def vI (y:D.Rule×Value×Value):List Value:=[.bool y.1.1.1,y.2.1, .bool y.1.2.1.1,y.2.2, .bool y.1.2.2]
theorem Zy:vH Tryz.prog 26 184 5 72:=.mk' (z:=.agg #[.bool false, .slice none 0 0, .bool false, .slice none 0 0, .bool false]) Tryz.underlying26 (by kernel_rfl) rfl
def G9 (W:World) (L:List (D.Rule×Value×Value)):Prop:=∀ y∈L,bQ W y.2.1 y.1.1.2/\bQ W y.2.2 y.1.2.1.2
theorem abm {W:World} {base n:Nat} {v:Value} {L:List (D.Rule×Value×Value)} (h:W.ownsRow base 184 5 v n (L.flatMap vI)) (hn:n=L.length) (hV:G9 W L):fA W v (L.map (·.1)):=by
 subst hn
 rcases h.2 with⟨h1,h2⟩ | ⟨g,cap,cur,h1,h2,h3,h4,h5,h6,h7⟩
 ·rw [List.eq_nil_of_length_eq_zero h2];exact .inl ⟨h1,rfl⟩
 ·refine .inr ⟨g,0,none,cap,by rw [h1,List.length_map],by rw [List.length_map];exact h4,h5,λhn=>⟨rfl,(Array.getElem?_eq_some_iff.1 h3).1,λi x hx=>?_⟩⟩;rw [List.getElem?_map] at hx;obtain⟨y,hy,rfl⟩:=Option.map_eq_some_iff.1 hx;have hc:∀ (j:Nat) (u:Value),j<5->(vI y)[j]?=some u->W.cell? ⟨g,0+i*5+j,none⟩=some u:=by
   intro j u hj hu;have h8:=h.cells (g:=g) (by rw [h1];rfl) (i*5+j) u (by rw [flat_get vI 5 L i j y (λz _=>rfl) hy hj];exact hu);rw [show (⟨g,0,none⟩:Addr).add (i*5+j)=⟨g,0+i*5+j,none⟩ by unfold Addr.add;split <;> simp_all] at h8;exact h8
  obtain⟨k1,k2⟩:=hV y (List.mem_of_getElem? hy);exact⟨y.2.1,y.2.2,hc 0 _ (by omega) rfl,hc 1 _ (by omega) rfl,hc 2 _ (by omega) rfl,hc 3 _ (by omega) rfl,hc 4 _ (by omega) rfl,k1,k2⟩
end
section
open Go.RowKit
theorem own_below {w w':World} {B:Nat} {T:TypeId} {v:Value} {n:Nat} {bs:List Value} (h:w.ownsRow B T 1 v n bs) (hb:Below w.heap.size w w'):w'.ownsRow B T 1 v n bs:=by
 have hl:=h.lt;refine⟨h.1,?_⟩
 rcases h.2 with h2 | ⟨g,cap,cur,h2,h3,h4,h5⟩
 ·exact .inl h2
 ·exact .inr ⟨g,cap,cur,h2,h3,(hb.block g (hl g (by rw [h2];rfl)).2).trans h4,h5⟩
def eu (n:Nat):Value:=.int .i64 n
theorem ownsRow_shape {w:World} {base:Nat} {e:TypeId} {size:Nat} {v:Value} {n:Nat} {xs:List Value} (h:w.ownsRow base e size v n xs):∃ a c,v = .slice a n c:=by
 rcases h.2 with⟨rfl,rfl⟩ | ⟨g,cap,cur,rfl,_⟩
 ·exact⟨_,_,rfl⟩
 ·exact⟨_,_,rfl⟩
theorem amg (S n:Nat) (h:S.testBit n=false):S+2 ^ n=S ||| 2 ^ n:=by
 have hp:2 ^ (n+1)=2*2 ^ n:=by rw [Nat.pow_succ];omega
 have hpos:0<2 ^ n:=Nat.two_pow_pos n;rw [Nat.testBit_eq_decide_div_mod_eq,decide_eq_false_iff_not] at h;have hb:S % 2 ^ (n+1)<2 ^ n:=by
  rw [hp,Nat.mul_comm,Nat.mod_mul];have:S / 2 ^ n % 2=0:=by omega
  rw [this];have:=Nat.mod_lt S hpos;omega
 have hS:2 ^ (n+1)*(S / 2 ^ (n+1))+S % 2 ^ (n+1)=S:=Nat.div_add_mod _ _;generalize S / 2 ^ (n+1)=a at hS;generalize S % 2 ^ (n+1)=b at hS hb;have h1:2 ^ (n+1)*a+b=2 ^ (n+1)*a ||| b:=Nat.two_pow_add_eq_or_of_lt (by omega) a
 have h2:2 ^ n*1+b=2 ^ n*1 ||| b:=Nat.two_pow_add_eq_or_of_lt hb 1
 have h3:2 ^ (n+1)*a+(2 ^ n*1+b)=2 ^ (n+1)*a ||| (2 ^ n*1+b):=Nat.two_pow_add_eq_or_of_lt (by omega) a
 rw [Nat.mul_one] at h2 h3;rw [<- hS,show 2 ^ (n+1)*a+b+2 ^ n=2 ^ (n+1)*a+(2 ^ n+b) by omega,h3,h2,h1,Nat.or_assoc,Nat.or_comm b]
theorem ahI (S n:Nat) (h:S.testBit n=true):S ||| 2 ^ n=S:=by
 apply Nat.eq_of_testBit_eq
 intro i;rw [Nat.testBit_or,Nat.testBit_two_pow]
 by_cases e:n=i
 ·subst e;rw [h];rfl
 ·simp [e]
theorem TR (st:Bool) (v:Value) (l:List N.Item) (hl:l.length<=12):∀ (d n S:Nat) (w:World),2*l.length+2-n<=d->n<=2*l.length->S<2 ^ (2*l.length+1)->bQ w v l ->
  Calls Tryz.prog 168 #[.agg #[.bool st,v], .int .i64 S, .int .i64 n] w λe w'=>e = .returned (.int .i64 ((S ||| N.clo l n:Nat):Int))/\Below w.heap.size w w':=by
 intro d
 induction d with
 | zero=>intro n S w hd hn hS hv;omega
 | succ d ih =>
  intro n S w hd hn hS hv;have IH:=bx ih;have HV:=bx hv;have HB0:=bx (aj.new w 182 #[.bool st,v]);have HW0:=bx (aO w (.cells #[.bool st,v] 182));have HS:=bx hS;have hS2:S<1099511627776:=aiP _ _ hS (by omega);obtain⟨ao,cap,rfl⟩:=hv.slice;obtain⟨q,hq⟩:∃ q,2 ^ n=q:=⟨_,rfl⟩
  have hq1:q<=1099511627776:=by rw [<- hq];exact Nat.pow_le_pow_right (n:=2) (by omega) (show n<=40 by omega)
  have HQ:=bx hq;have HD:=bx hd;clear hv ih hS hq hd
  go_enter Tryz.func168,Tryz.ntmps168
  go_wp2_with fail;refine(Ak S n _ (by omega) (by omega)).mono ?_;rintro e w1 ⟨rfl,rfl⟩
  go_upto_if 10 with(fail)
  go_cut [1] from 9 to 14 (λs wx=>s = .int .i64 ((S ||| 2 ^ n:Nat):Int)/\Box (Below w.heap.size w wx)/\Box (aj wx w.heap.size 182 #[.bool st, .slice ao l.length cap]))
  case first =>
   cases hb:S.testBit n with
   | true =>
    have HO:=bx (ahI S n hb);clear hb;go_wp2_with fail
    go_meet
    exact⟨by rw [HO.o],HW0,HB0⟩
   | false =>
    have HO:=bx (amg S n hb);clear hb;go_wp2_with fail;refine(Qe n _ (by omega)).mono ?_;rintro e w1 ⟨rfl,rfl⟩;rw [HQ.o];go_wp2_with fail
    go_meet
    exact⟨kG (by rw [<- HO.o,HQ.o];simp),HW0,HB0⟩
  case rest =>
   obtain⟨rfl,hb,hbk⟩:=hcut;have c0:wc.cell? ⟨w.heap.size,0,none⟩=some (.bool st):=(hbk.o.cell 0).trans rfl;have c1:wc.cell? ⟨w.heap.size,1,none⟩=some (.slice ao l.length cap):=(hbk.o.cell 1).trans rfl
   by_cases hodd:n % 2=1
   ·have HC:=bx (N.ajN l n hodd);have t1:((n:Int) % 2==0)=false:=by rw [beq_eq_false_iff_ne];omega
    clear hodd;go_wp2_with fail;go_ret
    exact⟨by rw [HC.o];rfl,hb.o⟩
   have t1:((n:Int) % 2==0)=true:=by rw [beq_iff_eq];omega
   by_cases hend:l.length<=n / 2
   ·have HC:=bx (N.Yc l n hend);have t2:decide ((n:Int) / 2<(l.length:Int))=false:=by rw [decide_eq_false_iff_not];omega
    clear hodd;go_wp2_with fail;go_ret
    exact⟨by rw [HC.o];rfl,hb.o⟩
   have t2:decide ((n:Int) / 2<(l.length:Int))=true:=by rw [decide_eq_true_eq];omega
   obtain⟨x,hx⟩:∃ x,l[n / 2]?=some x:=⟨_,List.getElem?_eq_getElem (by omega)⟩
   obtain⟨g,off,cap2,hg1,hg2,hg3,hg4,hg5⟩:=(HV.o.below hb.o).get (by rintro rfl;simp at hend);obtain⟨rfl,rfl⟩:ao=some ⟨g,off,none⟩/\cap=cap2:=by injection hg1 with h1 h2 h3;exact⟨h1,h3⟩
   obtain⟨hc1,hc2⟩:=hg5 _ x hx;have HH:=bx (show N.dn l (n / 2)=x.2 by unfold N.dn;simp [List.getD,hx]);unfold maxLen at hg3;have hlt:n / 2<l.length:=by omega
   obtain⟨set,how⟩:=x
   by_cases h0:how=0
   ·have HC:=bx (N.adX l n (HH.o.trans h0));subst h0;clear hx hg1 hg5 hodd hend;go_wp2_with fail;go_ret
    exact⟨by rw [HC.o];rfl,hb.o⟩
   ·have HC:=bx (N.ahQ l n (by omega) hlt (by rw [HH.o];exact h0));have t3:(how==0)=false:=by rw [beq_eq_false_iff_ne];exact h0
    have HI:=bx (IH.o (n+2) (S ||| 2 ^ n) wc (by have:=HD.o;omega) (by omega) (adJ S n _ HS.o (by omega)) (HV.o.below hb.o));have HN:=bx (show ((n:Int)+2)=((n+2:Nat):Int) by omega);clear hx hg1 hg5 hodd hend;go_wp2_with fail;rw [HN.o];refine HI.o.mono ?_;rintro e w2 ⟨rfl,hb2⟩;have HB2:=bx (bt hb.o hb2);clear hb2;go_wp2_with fail;go_ret
    exact⟨by rw [HC.o,<- Nat.or_assoc];rfl,HB2.o⟩
theorem ahR (l:List N.Item) (S:Nat) (c:Int) (k:Nat) (hk:k<=2*l.length):N.fill l S c 0 k<2 ^ (2*l.length+1):=N.Qq l S c 0 (Nat.two_pow_pos _) k hk
theorem alS (st:Bool) (v:Value) (l:List N.Item) (hr:fQ l=true) (S:Nat) (hS:S<4611686018427387904) (c:Int) (w:World) (hv:bQ w v l) :
  Calls Tryz.prog 204 #[.agg #[.bool st,v], .int .i64 S, .int .i64 c] w λe w'=>e = .returned (.int .i64 (N.step l st S c))/\Below w.heap.size w w':=by
 have hl:=xC hr;have fE:=bx hr;have HV:=bx hv;have HB0:=bx (aj.new w 182 #[.bool st,v]);have HW0:=bx (aO w (.cells #[.bool st,v] 182));obtain⟨ao,cap,rfl⟩:=hv.slice;clear hv hr
 go_enter Tryz.func204,Tryz.ntmps204
 go_wp2_with fail
 go_loopw [7,8] (λo i wr=>∃ k:Nat,k<=2*l.length/\i = .int .i64 k/\o = .int .i64 (N.fill l S c 0 k)/\Box (aj wr w.heap.size 182 #[.bool st, .slice ao l.length cap])/\Box (Below w.heap.size w wr)) (λ_ i _=>2*l.length-(intOf i).toNat)
 case atStart=>exact⟨0,by omega,rfl,rfl,HB0,HW0⟩
 case round =>
  obtain⟨k,hk,rfl,rfl,hbk,hb⟩:=hrel;have c0:wr.cell? ⟨w.heap.size,0,none⟩=some (.bool st):=(hbk.o.cell 0).trans rfl;have c1:wr.cell? ⟨w.heap.size,1,none⟩=some (.slice ao l.length cap):=(hbk.o.cell 1).trans rfl;have l0:=hbk.o.lt;have HF:=bx (ahR l S c k hk)
  by_cases hlt:k<2*l.length
  ·obtain⟨x,hx⟩:∃ x,l[k / 2]?=some x:=⟨_,List.getElem?_eq_getElem (by omega)⟩
   obtain⟨g,off,cap2,hg1,hg2,hg3,hg4,hg5⟩:=(HV.o.below hb.o).get (by rintro rfl;simp at hlt);obtain⟨rfl,rfl⟩:ao=some ⟨g,off,none⟩/\cap=cap2:=by injection hg1 with h1 h2 h3;exact⟨h1,h3⟩
   obtain⟨hc1,hc2⟩:=hg5 _ x hx;obtain⟨hw0,hw1⟩:=aaS fE.o hx;have HH:=bx (show N.dn l (k / 2)=x.2/\N.setAt l (k / 2)=x.1 by unfold N.dn N.setAt;simp [List.getD,hx]);unfold maxLen at hg3;have hlt2:k / 2<l.length:=by omega
   have cu:=bx (N.NJ l S c 0 k);obtain⟨set,how⟩:=x;have dB:=bx (show Below w.heap.size w (wr.alloc (.cells #[.int .i64 set, .int .i64 how] 292)) from hb.o.alloc hb.o.size _);have yL:=bx (hbk.o.alloc (.cells #[.int .i64 set, .int .i64 how] 292));have HA:=bx (λn hn=>TR st (.slice (some ⟨g,off,none⟩) l.length cap) l (by omega) _ n (N.fill l S c 0 k) (wr.alloc (.cells #[.int .i64 set, .int .i64 how] 292)) (Nat.le_refl _) hn HF.o (HV.o.below dB.o));have pU:=bx (N.YS l k hlt);clear hx hg1 hg5
   cases hbit:S.testBit k with
   | false =>
    have CQ:=bx hbit;have HG:=bx (show N.fill l S c 0 (k+1)=N.fill l S c 0 k by rw [cu.o,if_neg];unfold N.goes;rw [hbit];simp);clear hbit;go_wp2_with fail;refine(Ak S k _ (by omega) hS).mono ?_;rintro e w1 ⟨rfl,rfl⟩;rw [CQ.o];go_wp2_with fail
    go_roundw
    case rel=>exact⟨k+1,hlt,by go_num,by rw [HG.o],yL,dB⟩
    case measure=>simp [intOf];omega
   | true =>
    have CQ:=bx hbit
    cases hhas:N.iC set c with
    | false =>
     have oQ:=bx hhas;have HG:=bx (show N.fill l S c 0 (k+1)=N.fill l S c 0 k by rw [cu.o,if_neg];unfold N.goes;rw [hbit,HH.o.2,hhas];simp);clear hbit hhas;go_wp2_with fail;refine(Ak S k _ (by omega) hS).mono ?_;rintro e w1 ⟨rfl,rfl⟩;rw [CQ.o];go_wp2_with fail;refine(CS set c _).mono ?_;rintro e w1 ⟨rfl,rfl⟩;rw [oQ.o];go_wp2_with fail
     go_roundw
     case rel=>exact⟨k+1,hlt,by go_num,by rw [HG.o],yL,dB⟩
     case measure=>simp [intOf];omega
    | true =>
     have oQ:=bx hhas;have HG:=bx (show N.fill l S c 0 (k+1)=N.fill l S c 0 k ||| N.clo l (N.goto l k) by rw [cu.o,if_pos];unfold N.goes;rw [hbit,HH.o.2,hhas];rfl);clear hbit hhas
     by_cases hodd:k % 2=1
     ·have t1:((k:Int) % 2==1)=true:=by rw [beq_iff_eq];omega
      have jC:=bx (show N.goto l k=k-1 by unfold N.goto;rw [if_pos hodd]);have HN:=bx (show ((k:Int)-1)=((k-1:Nat):Int) by omega);have k1:1<=k:=by omega
      clear hodd;go_wp2_with fail;refine(Ak S k _ (by omega) hS).mono ?_;rintro e w1 ⟨rfl,rfl⟩;rw [CQ.o];go_wp2_with fail;refine(CS set c _).mono ?_;rintro e w1 ⟨rfl,rfl⟩;rw [oQ.o];go_wp2_with fail;rw [HN.o];refine(HA.o (k-1) (by omega)).mono ?_;rintro e w1 ⟨rfl,hb1⟩;have HB1:=bx (bt dB.o hb1);have dS:=bx (yL.o.below hb1 yL.o.lt);clear hb1;go_wp2_with fail
      go_roundw
      case rel=>exact⟨k+1,hlt,by go_num,by rw [HG.o,jC.o],dS,HB1⟩
      case measure=>simp [intOf];omega
     have t1:((k:Int) % 2==1)=false:=by rw [beq_eq_false_iff_ne];omega
     rcases (show how=0\/how=1\/how=2 by omega) with rfl | rfl | rfl
     ·have jC:=bx (show N.goto l k=k+2 by unfold N.goto;rw [if_neg hodd,if_pos HH.o.1]);have hev:k % 2=0:=by omega
      have HN:=bx (show ((k:Int)+2)=((k+2:Nat):Int) by omega);clear hodd;go_wp2_with fail;refine(Ak S k _ (by omega) hS).mono ?_;rintro e w1 ⟨rfl,rfl⟩;rw [CQ.o];go_wp2_with fail;refine(CS set c _).mono ?_;rintro e w1 ⟨rfl,rfl⟩;rw [oQ.o];go_wp2_with fail;rw [HN.o];refine(HA.o (k+2) (by omega)).mono ?_;rintro e w1 ⟨rfl,hb1⟩;have HB1:=bx (bt dB.o hb1);have dS:=bx (yL.o.below hb1 yL.o.lt);clear hb1;go_wp2_with fail
      go_roundw
      case rel=>exact⟨k+1,hlt,by go_num,by rw [HG.o,jC.o],dS,HB1⟩
      case measure=>simp [intOf];omega
     ·have jC:=bx (show N.goto l k=k by unfold N.goto;rw [if_neg hodd,if_neg (by rw [HH.o.1];simp),if_pos HH.o.1]);have hev:k % 2=0:=by omega
      clear hodd;go_wp2_with fail;refine(Ak S k _ (by omega) hS).mono ?_;rintro e w1 ⟨rfl,rfl⟩;rw [CQ.o];go_wp2_with fail;refine(CS set c _).mono ?_;rintro e w1 ⟨rfl,rfl⟩;rw [oQ.o];go_wp2_with fail;refine(HA.o (k) (by omega)).mono ?_;rintro e w1 ⟨rfl,hb1⟩;have HB1:=bx (bt dB.o hb1);have dS:=bx (yL.o.below hb1 yL.o.lt);clear hb1;go_wp2_with fail
      go_roundw
      case rel=>exact⟨k+1,hlt,by go_num,by rw [HG.o,jC.o],dS,HB1⟩
      case measure=>simp [intOf];omega
     ·have jC:=bx (show N.goto l k=k+1 by unfold N.goto;rw [if_neg hodd,if_neg (by rw [HH.o.1];simp),if_neg (by rw [HH.o.1];simp)]);have hev:k % 2=0:=by omega
      have HN:=bx (show ((k:Int)+1)=((k+1:Nat):Int) by omega);clear hodd;go_wp2_with fail;refine(Ak S k _ (by omega) hS).mono ?_;rintro e w1 ⟨rfl,rfl⟩;rw [CQ.o];go_wp2_with fail;refine(CS set c _).mono ?_;rintro e w1 ⟨rfl,rfl⟩;rw [oQ.o];go_wp2_with fail;rw [HN.o];refine(HA.o (k+1) (by omega)).mono ?_;rintro e w1 ⟨rfl,hb1⟩;have HB1:=bx (bt dB.o hb1);have dS:=bx (yL.o.below hb1 yL.o.lt);clear hb1;go_wp2_with fail
      go_roundw
      case rel=>exact⟨k+1,hlt,by go_num,by rw [HG.o,jC.o],dS,HB1⟩
      case measure=>simp [intOf];omega
  ·obtain rfl:k=2*l.length:=by omega
   have hbw:=hb.o;have HA:=bx (TR st (.slice ao l.length cap) l (by omega) _ 0 (N.fill l S c 0 (2*l.length)) wr (Nat.le_refl _) (by omega) HF.o (HV.o.below hbw));clear hbw
   cases st with
   | true =>
    go_wp2_with fail;go_ret
    exact⟨by rfl,hb.o⟩
   | false =>
    have gq:=bx (N.akj l S c (N.clo l 0) (2*l.length));go_wp2_with fail;refine HA.o.mono ?_;rintro e w1 ⟨rfl,hb1⟩;have HB1:=bx (bt hb.o hb1);clear hb1;go_wp2_with fail;go_ret
    exact⟨by rw [gq.o];rfl,HB1.o⟩
end
end Go.Proofs.YtdenoeakcflnmaaGreatDoor
