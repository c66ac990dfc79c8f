/- Texts of this claim. -/
import Derived.ChangeSlices
import Derived.WideShapes
import Derived.Maps.AppendAt
import Derived.Shelf.Abstract
import Derived.Shelf.RegionOpen
import Derived.Laws.Strings3
import Derived.Stop.RegionWithIn
import Derived.WideKeyArr
import Derived.Test.YtlmdjifffmofeaaGreatDoorH2

set_option maxHeartbeats 4000000
namespace Go.Proofs.YtlmdjifffmofeaaGreatDoor
section
open Go.RowKit
def ay (w:World) (v:Value) (xs:List Int):Prop :=
 (v = .slice none 0 0/\xs=[])\/∃ b off sp cap,v = .slice (some ⟨b,off,sp⟩) xs.length cap/\xs.length<=cap/\cap<=maxLen/\(xs≠[]->sp=none/\b<w.heap.size/\∀ i x,xs[i]?=some x->w.cell? ⟨b,off+i,none⟩=some (.int .i64 x))
theorem ay.below {w w':World} {v:Value} {xs:List Int} (h:ay w v xs) (hb:Below w.heap.size w w'):ay w' v xs:=by
 rcases h with h | ⟨b,off,sp,cap,h1,h2,h3,h4⟩
 ·exact .inl h
 ·exact .inr ⟨b,off,sp,cap,h1,h2,h3,λhn=>⟨(h4 hn).1,Nat.lt_of_lt_of_le (h4 hn).2.1 hb.size,λi x hx=>(hb.cell (p:=⟨b,off+i,none⟩) (h4 hn).2.1).trans ((h4 hn).2.2 i x hx)⟩⟩
theorem ay.get {w:World} {v:Value} {xs:List Int} (h:ay w v xs) (hn:xs≠[]) :
  ∃ b off cap,v = .slice (some ⟨b,off,none⟩) xs.length cap/\xs.length<=cap/\cap<=maxLen/\b<w.heap.size/\∀ i x,xs[i]?=some x->w.cell? ⟨b,off+i,none⟩=some (.int .i64 x):=by
 rcases h with⟨_,h⟩ | ⟨b,off,sp,cap,h1,h2,h3,h4⟩
 ·exact absurd h hn
 ·obtain⟨rfl,h5,h6⟩:=h4 hn;exact⟨b,off,cap,h1,h2,h3,h5,h6⟩
theorem ay.dL {w:World} {base n:Nat} {T:TypeId} {v:Value} {xs:List Int} (h:w.ownsRow base T 1 v n (xs.map (Value.int .i64))) (hn:n=xs.length):ay w v xs:=by
 subst hn;have hl:=h.lt
 rcases h.2 with⟨h1,h2⟩ | ⟨g,cap,cur,rfl,h2,h3,h4,h5,h6,h7⟩
 ·exact .inl ⟨h1,List.eq_nil_of_length_eq_zero h2⟩
 ·refine .inr ⟨g,0,none,cap,rfl,h4,h5,λ_=>⟨rfl,(hl g rfl).2,λi x hx=>?_⟩⟩;have:=h.cells (g:=g) rfl i (.int .i64 x) (by rw [List.getElem?_map,hx];rfl);rw [show (⟨g,0+i,none⟩:Addr)=(⟨g,0,none⟩:Addr).add i by unfold Addr.add;by_cases h0:i=0 <;> simp [h0]];exact this
theorem ay.nil {w:World}:ay w (.slice none 0 0) []:=.inl ⟨rfl,rfl⟩
theorem ay.slice {w:World} {v:Value} {xs:List Int} (h:ay w v xs):∃ a cap,v = .slice a xs.length cap:=by
 rcases h with⟨rfl,rfl⟩ | ⟨b,off,sp,cap,rfl,_⟩
 ·exact⟨_,_,rfl⟩
 ·exact⟨_,_,rfl⟩
structure Pc where
 fp:Nat->Prop
 ok:World->Prop
 keep:∀ {own:Nat->Prop} {W W':World},ok W->Turns own W W'->(∀ k,fp k->¬ own k)->ok W'
 lt:∀ {W:World} {k:Nat},ok W->fp k->k<W.heap.size
def Sep:List Pc->World->Prop
 | [],_=>True
 | p::ps,w=>p.ok w/\(∀ q∈ps,∀ k,p.fp k->¬ q.fp k)/\Sep ps w
section
variable {W W':World}
theorem Sep.NJ:∀ {ps:List Pc},Sep ps W->∀ p∈ps,p.ok W
 | _::_,⟨h,_,hs⟩,q,hq=>(List.mem_cons.1 hq).elim (λe=>e▸h) (λe=>Sep.NJ hs q e)
theorem Sep.keep {own:Nat->Prop}:∀ {ps:List Pc},Sep ps W->Turns own W W'->(∀ p∈ps,∀ k,p.fp k->¬ own k)->Sep ps W'
 | [],_,_,_=>trivial
 | p::_,⟨h,hd,hs⟩,ht,ho=>⟨p.keep h ht (ho p (List.mem_cons_self ..)),hd,Sep.keep hs ht (λq hq=>ho q (List.mem_cons_of_mem _ hq))⟩
theorem Sep.below {ps:List Pc} (h:Sep ps W) (hb:Below W.heap.size W W'):Sep ps W':=h.keep (own:=λ_=>False) (Turns.of_below hb) (λ_ _ _ _ h=>h)
theorem Sep.head {p:Pc} {ps:List Pc} (h:Sep (p::ps) W):p.ok W:=h.1
theorem Sep.tail {p:Pc} {ps:List Pc} (h:Sep (p::ps) W):Sep ps W:=h.2.2
theorem Sep.at' {ps:List Pc} (h:Sep ps W) (i:Nat) {p:Pc} (hi:ps[i]?=some p):p.ok W:=h.NJ p (List.mem_of_getElem? hi)
theorem Sep.lt {ps:List Pc} (h:Sep ps W) {p:Pc} (hp:p∈ps) {k:Nat} (hk:p.fp k):k<W.heap.size:=p.lt (h.NJ p hp) hk
theorem Sep.add {p:Pc} {ps:List Pc} (h:Sep ps W) (hb:Below W.heap.size W W') (hp:p.ok W') (hn:∀ k,p.fp k->W.heap.size<=k):Sep (p::ps) W' :=
 ⟨hp,λq hq k hk hqk=>by have:=hn k hk;have:=h.lt hq hqk;omega,h.below hb⟩
theorem Sep.upd {own:Nat->Prop}:∀ {ps:List Pc} (i:Nat) {p p':Pc},Sep ps W->ps[i]?=some p->Turns own W W'->(∀ k,own k->k<W.heap.size->p.fp k)->p'.ok W'->(∀ k,p'.fp k->p.fp k\/W.heap.size<=k)->Sep (ps.set i p') W'
 | [],_,_,_,_,hi,_,_,_,_=>by simp at hi
 | q::ps,0,p,p',h,hi,ht,ho,hp,hn=>by
  simp only [List.getElem?_cons_zero,Option.some.injEq] at hi;subst hi;have h':=h;obtain⟨h1,h2,h3⟩:=h;refine⟨hp,λr hr k hk hrk=>?_,h3.keep ht (λr hr k hk hok=>?_)⟩
  ·rcases hn k hk with e | e
   ·exact h2 r hr k e hrk
   ·have:=h3.lt hr hrk;omega
  ·exact h2 r hr k (ho k hok (h3.lt hr hk)) hk
 | q::ps,i+1,p,p',h,hi,ht,ho,hp,hn=>by
  rw [List.getElem?_cons_succ] at hi;have h':=h;obtain⟨h1,h2,h3⟩:=h;have hm:=List.mem_of_getElem? hi;have hq:q.ok W':=q.keep h1 ht (λk hk hok=>h2 p hm k hk (ho k hok (q.lt h1 hk)));refine⟨hq,λr hr k hk hrk=>?_,Sep.upd i h3 hi ht ho hp hn⟩
  rcases List.mem_or_eq_of_mem_set hr with e | e
  ·exact h2 r e k hk hrk
  ·subst e
   rcases hn k hrk with e | e
   ·exact h2 p hm k hk e
   ·have:=q.lt h1 hk;omega
theorem Sep.perm {ps qs:List Pc} (hp:ps.Perm qs):Sep ps W->Sep qs W:=by
 induction hp with
 | nil=>exact id
 | cons a hp ih=>exact λ⟨h1,h2,h3⟩=>⟨h1,λq hq=>h2 q (hp.mem_iff.2 hq),ih h3⟩
 | swap a b l =>
  rintro⟨h1,h2,h3,h4,h5⟩;refine⟨h3,λq hq k hk hqk=>?_,h1,λq hq=>h2 q (List.mem_cons_of_mem _ hq),h5⟩
  rcases List.mem_cons.1 hq with e | e
  ·subst e;exact h2 a (List.mem_cons_self ..) k hqk hk
  ·exact h4 q e k hk hqk
 | trans _ _ i1 i2=>exact λh=>i2 (i1 h)
theorem Sep.drop {ps:List Pc} (i:Nat) (h:Sep ps W):Sep (ps.eraseIdx i) W:=by
 induction ps generalizing i with
 | nil=>exact trivial
 | cons p ps ih =>
  cases i with
  | zero=>exact h.2.2
  | succ i=>exact⟨h.1,λq hq=>h.2.1 q (List.mem_of_mem_eraseIdx hq),ih i h.2.2⟩
theorem Sep.merge {p q r:Pc} {ps:List Pc} (h:Sep (p::q::ps) W) (hr:r.ok W) (hf:∀ k,r.fp k->p.fp k\/q.fp k):Sep (r::ps) W :=
 ⟨hr,λs hs k hk hsk=>(hf k hk).elim (λe=>h.2.1 s (List.mem_cons_of_mem _ hs) k e hsk) (λe=>h.2.2.2.1 s hs k e hsk),h.2.2.2.2⟩
theorem Sep.as:∀ {ps:List Pc} (i:Nat) {p p':Pc},Sep ps W->ps[i]?=some p->(p.ok W->p'.ok W)->(∀ k,p'.fp k->p.fp k)->Sep (ps.set i p') W:=by
 intro ps i p p' h hi h1 h2;exact h.upd (own:=λ_=>False) i hi (Turns.refl _ _) (λ_ h _=>h.elim) (h1 (h.at' i hi)) (λk hk=>.inl (h2 k hk))
theorem Sep.apart {p q:Pc} {ps:List Pc} (h:Sep (p::ps) W) (hq:q∈ps) {k:Nat} (hk:p.fp k):¬ q.fp k:=h.2.1 q hq k hk
end
def Pc.old (n:Nat) (W0:World):Pc where
 fp k:=k<n
 ok W:=n<=W.heap.size/\Below n W0 W
 keep:=λ{_ _ _} h ht ho=>⟨Nat.le_trans h.1 ht.size,h.2.trans ⟨ht.os,ht.tape,ht.output,ht.size,λk hk=>ht.block k (Nat.lt_of_lt_of_le hk h.1) (ho k hk)⟩⟩
 lt:=λ{_ _} h hk=>Nat.lt_of_lt_of_le hk h.1
def Pc.blk (g:Nat) (t:TypeId) (cs:Array Value):Pc where
 fp k:=k=g
 ok W:=ak W g t cs
 keep:=λ{_ _ _} h ht ho=>ht.blk h (ho g rfl)
 lt:=λ{_ _} h hk=>hk▸h.lt
def Pc.row (base:Nat) (e:TypeId) (s:Nat) (v:Value) (n:Nat) (xs:List Value):Pc where
 fp k:=v.ownBlock=some k
 ok W:=W.ownsRow base e s v n xs
 keep:=λ{_ _ _} h ht ho=>ht.row h ho
 lt:=λ{_ _} h hk=>(h.lt _ hk).2
def Pc.obj (g:Nat) (o:Obj):Pc where
 fp k:=k=g
 ok W:=W.heap[g]?=some o
 keep:=λ{_ _ _} h ht ho=>(ht.block g (Array.getElem?_eq_some_iff.1 h).1 (ho g rfl)).trans h
 lt:=λ{_ _} h hk=>hk▸(Array.getElem?_eq_some_iff.1 h).1
def Pc.MR (m base:Nat) (E e:TypeId) (v:Value) (vs:List Value) (xss:List (List Value)):Pc where
 fp k:=v.ownBlock=some k\/∃ i x,i<xss.length/\vs[i]?=some x/\x.ownBlock=some k
 ok W:=vs.length=xss.length+m/\W.ownsRow base E 1 v vs.length vs/\∀ (i:Nat) (xs:List Value),xss[i]?=some xs->∃ x,vs[i]?=some x/\W.ownsRow base e 1 x xs.length xs/\x.ownBlock≠some (v.ownBlock.getD W.heap.size)
 keep:=λ{own W W'} ⟨h0,h1,h2⟩ ht ho=>⟨h0,ht.row h1 (λk hk=>ho k (.inl hk)),λi xs hi=>by
  obtain⟨x,hx,hr,hn⟩:=h2 i xs hi;refine⟨x,hx,ht.row hr (λk hk=>ho k (.inr ⟨i,x,(List.getElem?_eq_some_iff.1 hi).1,hx,hk⟩)),?_⟩
  cases hv:v.ownBlock with
  | some k=>rw [hv] at hn;exact hn
  | none=>intro e;have h8:=(hr.lt _ e).2;have h9:=ht.size;rw [Option.getD_none] at h8;omega⟩
 lt:=λ{_ _} ⟨_,h1,h2⟩ hk=>hk.elim (λh=>(h1.lt _ h).2) (λ⟨i,x,hi,hx,h⟩=>by
  obtain⟨x',hx',hr,_⟩:=h2 i _ (List.getElem?_eq_getElem hi);rw [hx] at hx'
  cases hx';exact(hr.lt _ h).2)
abbrev Pc.rows (base:Nat) (E e:TypeId) (v:Value) (vs:List Value) (xss:List (List Value)):Pc:=Pc.MR 0 base E e v vs xss
section
variable {W W':World}
theorem Pc.akw (W:World):(Pc.old W.heap.size W).ok W:=⟨Nat.le_refl _,Below.refl _ _⟩
theorem Sep.start (W:World):Sep [Pc.old W.heap.size W] W:=⟨Pc.akw W,λ_ h=>absurd h List.not_mem_nil,trivial⟩
theorem Sep.bel {n:Nat} {W0:World} {ps:List Pc} (h:Sep ps W) (hi:Pc.old n W0∈ps):Below n W0 W:=(h.NJ _ hi).2
theorem Sep.blk {ps:List Pc} (h:Sep ps W) (i:Nat) {g:Nat} {t:TypeId} {cs:Array Value} (hi:ps[i]?=some (Pc.blk g t cs)):ak W g t cs:=h.at' i hi
theorem Sep.row {ps:List Pc} (h:Sep ps W) (i:Nat) {base n s:Nat} {e:TypeId} {v:Value} {xs:List Value} (hi:ps[i]?=some (Pc.row base e s v n xs)):W.ownsRow base e s v n xs:=h.at' i hi
theorem Sep.dh {ps:List Pc} (h:Sep ps W) (t:TypeId) (cs:Array Value):Sep (Pc.blk W.heap.size t cs::ps) (W.alloc (.cells cs t)) :=
 h.add ((Below.refl _ _).alloc (Nat.le_refl _) _) (ak.new W t cs) (λk hk=>by rw [show k=W.heap.size from hk];exact Nat.le_refl _)
theorem Sep.alloc {ps:List Pc} (h:Sep ps W) (o:Obj):Sep ps (W.alloc o):=h.below ((Below.refl _ _).alloc (Nat.le_refl _) o)
theorem Sep.drew {ps:List Pc} (h:Sep ps W):Sep ps W.drew:=h.keep (own:=λ_=>False) (Turns.drew W) (λ_ _ _ _ h=>h)
theorem acS (own:Nat->Prop) (W:World) (n:Nat):Turns own W (W.drewN n):=⟨rfl,rfl,rfl,Nat.le_refl _,λ_ _ _=>rfl⟩
theorem Sep.drewN {ps:List Pc} (h:Sep ps W) (n:Nat):Sep ps (W.drewN n):=h.keep (own:=λ_=>False) (acS _ W n) (λ_ _ _ _ h=>h)
theorem Sep.fP {ps:List Pc} (h:Sep ps W) (base s:Nat) (e:TypeId):Sep (Pc.row base e s (.slice none 0 0) 0 []::ps) W :=
 ⟨World.ownsRow_nil _ _ _ _,λ_ _ k hk=>by simp [Pc.row,Value.ownBlock] at hk,h⟩
theorem Sep.set {ps:List Pc} (h:Sep ps W) (i:Nat) {g:Nat} {t:TypeId} {cs:Array Value} (hi:ps[i]?=some (Pc.blk g t cs)) (j:Nat) (u:Value):Sep (ps.set i (Pc.blk g t (cs.setIfInBounds j u))) (W.setCell ⟨g,j,none⟩ u) :=
 h.upd (own:=λk=>k=g) i hi (Turns.setCell (own:=λk=>k=g) W (p:=⟨g,j,none⟩) rfl u) (λ_ hk _=>hk) ((h.blk i hi).bP j u) (λ_ hk=>.inl hk)
theorem own_base {w:World} {base base':Nat} {e:TypeId} {s:Nat} {v:Value} {n:Nat} {xs:List Value} (h:w.ownsRow base e s v n xs) (hb:base'<=base):w.ownsRow base' e s v n xs :=
 ⟨h.1,h.2.imp id (λ⟨g,cap,cur,h1,h2,r⟩=>⟨g,cap,cur,h1,Nat.le_trans hb h2,r⟩)⟩
theorem Hu {own:Nat->Prop} {A B:World} {row:Option Nat} (h:A.grownBy B row) (hr:∀ k,row=some k->own k):Turns own A B :=
 ⟨h.os,h.tape,h.output,h.size,λi hi ho=>h.block i hi (λe=>ho (hr i e.symm))⟩
theorem Sep.grow {ps:List Pc} (h:Sep ps W) (i:Nat) {base n n' s:Nat} {e:TypeId} {v v':Value} {xs xs':List Value} (hi:ps[i]?=some (Pc.row base e s v n xs)) (hg:W.grownBy W' v.ownBlock) (hr:W'.ownsRow base e s v' n' xs')
  (ho:v'.ownBlock=v.ownBlock\/∀ k,v'.ownBlock=some k->W.heap.size<=k):Sep (ps.set i (Pc.row base e s v' n' xs')) W' :=
 h.upd (own:=λk=>v.ownBlock=some k) i hi (Hu hg (λ_ h=>h)) (λ_ hk _=>hk) hr (λk hk=>by
  rcases ho with e | e
  ·exact .inl (show v.ownBlock=some k by rw [<- e];exact hk)
  ·exact .inr (e k hk))
theorem Sep.got {ps:List Pc} (h:Sep ps W) {base n s:Nat} {e:TypeId} {v:Value} {xs:List Value} (hb:Below W.heap.size W W') (hr:W'.ownsRow W.heap.size e s v n xs) (hB:base<=W.heap.size):Sep (Pc.row base e s v n xs::ps) W' :=
 h.add hb (own_base hr hB) (λk hk=>(hr.lt k hk).1)
end
theorem Sep.join:∀ {ps:List Pc} (i:Nat) {p q r:Pc} {W:World},Sep (p::ps) W->ps[i]?=some q->r.ok W->(∀ k,r.fp k->p.fp k\/q.fp k)->Sep (ps.set i r) W
 | [],_,_,_,_,_,_,hi,_,_=>by simp at hi
 | s::ps,0,p,q,r,W,h,hi,hr,hf=>by
  simp only [List.getElem?_cons_zero,Option.some.injEq] at hi;subst hi;exact Sep.merge (ps:=ps) h hr hf
 | s::ps,i+1,p,q,r,W,h,hi,hr,hf=>by
  rw [List.getElem?_cons_succ] at hi;obtain⟨h1,h2,h3,h4,h5⟩:=h;have hm:=List.mem_of_getElem? hi;refine⟨h3,λt ht k hk htk=>?_,Sep.join i (p:=p) ⟨h1,λt ht=>h2 t (List.mem_cons_of_mem _ ht),h5⟩ hi hr hf⟩
  rcases List.mem_or_eq_of_mem_set ht with e | e
  ·exact h4 t e k hk htk
  ·subst e
   rcases hf k htk with e | e
   ·exact h2 s (List.mem_cons_self ..) k e hk
   ·exact h4 q hm k hk e
theorem Sep.akS {ps:List Pc} {W:World} (h:Sep ps W) (base:Nat) (E e:TypeId):Sep (Pc.rows base E e (.slice none 0 0) [] []::ps) W:=by
 refine⟨⟨rfl,World.ownsRow_nil _ _ _ _,λi xs hi=>by simp at hi⟩,λ_ _ k hk=>?_,h⟩
 rcases hk with hk | ⟨i,x,hi,_⟩
 ·simp [Value.ownBlock] at hk
 ·simp at hi
theorem Sep.akh {ps:List Pc} {W:World} {base:Nat} {E e:TypeId} {x:Value} {xs:List Value} (h:Sep (Pc.row base e 1 x xs.length xs::ps) W) (hb:base<=W.heap.size) :
  Sep (Pc.rows base E e (.slice (some ⟨W.heap.size,0,none⟩) 1 1) [x] [xs]::ps) (W.alloc (.cells #[x] E)):=by
 have h1:=h.row 0 rfl;have h2:=h.alloc (.cells #[x] E);have hlt:=h1.lt;have hnew:(W.alloc (.cells #[x] E)).ownsRow base E 1 (.slice (some ⟨W.heap.size,0,none⟩) 1 1) 1 [x] :=
  ⟨rfl, .inr ⟨W.heap.size,1,#[x],rfl,hb,heap_alloc_new _ _,Nat.le_refl _,by unfold maxLen;omega,rfl,rfl⟩⟩
 have h3:Sep (Pc.row base E 1 (.slice (some ⟨W.heap.size,0,none⟩) 1 1) 1 [x]::Pc.row base e 1 x xs.length xs::ps) (W.alloc (.cells #[x] E)) :=
  h.add ((Below.refl _ _).alloc (Nat.le_refl _) _) hnew (λk hk=>by simp [Pc.row,Value.ownBlock] at hk;omega)
 refine h3.merge ⟨rfl,hnew,λi ys hi=>?_⟩ (λk hk=>?_)
 ·match i,hi with
  | 0,hi =>
   simp only [List.getElem?_cons_zero,Option.some.injEq] at hi;subst hi;exact⟨x,rfl,h1.alloc _,λe=>by have:=(hlt _ e).2;simp [Value.ownBlock] at this⟩
  | i+1,hi=>simp at hi
 ·rcases hk with hk | ⟨i,y,hi,hy,hk⟩
  ·exact .inl hk
  ·simp only [List.length_cons,List.length_nil] at hi;obtain rfl:i=0:=by omega
   simp only [List.getElem?_cons_zero,Option.some.injEq] at hy;subst hy;exact .inr hk
theorem Sep.ait {ps:List Pc} {W W':World} {base n:Nat} {E e:TypeId} {x v v':Value} {xs:List Value} {vs:List Value} {xss:List (List Value)} (h:Sep (Pc.row base e 1 x n xs::ps) W) (i:Nat) (hi:ps[i]?=some (Pc.rows base E e v vs xss)) (hn:n=xs.length)
  (hg:W.grownBy W' v.ownBlock) (hr:W'.ownsRow base E 1 v' (vs.length+1) (vs++[x])) (ho:v'.ownBlock=v.ownBlock\/∀ k,v'.ownBlock=some k->W.heap.size<=k):Sep (ps.set i (Pc.rows base E e v' (vs++[x]) (xss++[xs]))) W':=by
 subst hn;obtain⟨h0,h1,h2⟩:=h.at' (i+1) (p:=Pc.rows base E e v vs xss) (by simpa using hi);have hT:Turns (λk=>v.ownBlock=some k) W W':=Hu hg (λ_ h=>h);have hblk:∀ k,v'.ownBlock=some k->v.ownBlock=some k\/W.heap.size<=k:=λk hk=>by
  rcases ho with e | e
  ·exact .inl (e▸hk)
  ·exact .inr (e k hk)
 have hin:∀ (j:Nat) (ys:List Value),xss[j]?=some ys->∃ y,vs[j]?=some y/\W'.ownsRow base e 1 y ys.length ys/\y.ownBlock≠some (v'.ownBlock.getD W'.heap.size):=by
  intro j ys hj;obtain⟨y,hy,YM,hyn⟩:=h2 j ys hj;have hne:∀ k,y.ownBlock=some k->¬ v.ownBlock=some k:=λk hk hv=>by rw [hv] at hyn;exact hyn hk
  have ZG:=hT.row YM hne;refine⟨y,hy,ZG,?_⟩
  cases hv:v'.ownBlock with
  | none=>intro e;have:=(ZG.lt _ e).2;simp at this
  | some k =>
   intro e
   rcases hblk k hv with h | h
   ·exact hne k e h
   ·have:=(YM.lt k e).2;omega
 have ahE:(Pc.MR 1 base E e v' (vs++[x]) xss).ok W':=⟨by rw [List.length_append];simp at h0 ⊢;omega,by rw [List.length_append];exact hr,λj ys hj=>by
  obtain⟨y,hy,h3⟩:=hin j ys hj;exact⟨y,by rw [List.getElem?_append_left (List.getElem?_eq_some_iff.1 hy).1];exact hy,h3⟩⟩
 have hlv:vs.length=xss.length:=by simpa using h0
 have hS:=h.upd (own:=λk=>v.ownBlock=some k) (i+1) (p':=Pc.MR 1 base E e v' (vs++[x]) xss) (by simpa using hi) hT (λk hk _=>Or.inl hk) ahE (λk hk=>by
  rcases hk with hk | ⟨j,y,hj,hy,hk⟩
  ·rcases hblk k hk with e | e
   ·exact .inl (.inl e)
   ·exact .inr e
  ·rw [List.getElem?_append_left (by omega)] at hy;exact .inl (.inr ⟨j,y,hj,hy,hk⟩))
 rw [List.set_cons_succ] at hS;have hx:=hS.row 0 rfl;have hget:(ps.set i (Pc.MR 1 base E e v' (vs++[x]) xss))[i]?=some (Pc.MR 1 base E e v' (vs++[x]) xss):=by
  rw [List.getElem?_set_self (List.getElem?_eq_some_iff.1 hi).1]
 have hxv:∀ k,x.ownBlock=some k->¬ v'.ownBlock=some k:=λk hk hv=>hS.apart (List.mem_of_getElem? hget) (k:=k) hk (.inl hv)
 have:=hS.join i (r:=Pc.rows base E e v' (vs++[x]) (xss++[xs])) hget ⟨by simp [hlv],by rw [List.length_append];exact hr,λj ys hj=>by
   rcases Nat.lt_or_ge j xss.length with hl | hl
   ·rw [List.getElem?_append_left hl] at hj;obtain⟨y,hy,h3⟩:=hin j ys hj;exact⟨y,by rw [List.getElem?_append_left (List.getElem?_eq_some_iff.1 hy).1];exact hy,h3⟩
   ·rw [List.getElem?_append_right hl] at hj;have hj0:j-xss.length=0:=by have:=(List.getElem?_eq_some_iff.1 hj).1;simp at this;omega
    rw [hj0] at hj;simp only [List.getElem?_cons_zero,Option.some.injEq] at hj;subst hj;refine⟨x,by rw [List.getElem?_append_right (by omega),show j-vs.length=0 by omega];rfl,hx,?_⟩
    cases hv:v'.ownBlock with
    | none=>intro e;have:=(hx.lt _ e).2;simp at this
    | some k=>intro e;exact hxv k e hv⟩ (λk hk=>by
   rcases hk with hk | ⟨j,y,hj,hy,hk⟩
   ·exact .inr (.inl hk)
   ·rcases Nat.lt_or_ge j vs.length with hl | hl
    ·exact .inr (.inr ⟨j,y,by omega,hy,hk⟩)
    ·rw [List.getElem?_append_right hl] at hy;have hj0:j-vs.length=0:=by have:=(List.getElem?_eq_some_iff.1 hy).1;simp at this;omega
     rw [hj0] at hy;simp only [List.getElem?_cons_zero,Option.some.injEq] at hy;subst hy;exact .inl hk)
 rwa [List.set_set] at this
theorem ZY:∀ {ps:List Pc} (i:Nat) {p:Pc},ps[i]?=some p->(ps.Perm (p::ps.eraseIdx i))
 | [],_,_,h=>by simp at h
 | q::ps,0,p,h=>by
  simp only [List.getElem?_cons_zero,Option.some.injEq] at h;subst h;exact List.Perm.refl _
 | q::ps,i+1,p,h=>by
  rw [List.getElem?_cons_succ] at h;exact((ZY i h).cons q).trans (List.Perm.swap p q _)
theorem Sep.front {ps:List Pc} {W:World} (h:Sep ps W) (i:Nat) {p:Pc} (hi:ps[i]?=some p):Sep (p::ps.eraseIdx i) W:=h.perm (ZY i hi)
structure Pushes (P:Program) (t e:TypeId) (bytes:Nat):Prop where
 o:∃ (i:TypeInfo) (z:Value),P.underlying t=some (.slice e)/\P.info? e=some i/\i.zero=some z/\i.size=1/\i.bytes=bytes/\z.cells.size=1
theorem Pushes.mk' {P:Program} {t e:TypeId} {bytes:Nat} {z:Value} (ht:P.underlying t=some (.slice e)) (h:(P.info? e).map (λi=>(i.zero,i.size,i.bytes))=some (some z,1,bytes)) (hz:z.cells.size=1):Pushes P t e bytes:=by
 cases hi:P.info? e with
 | none=>rw [hi] at h;cases h
 | some i =>
  rw [hi] at h;simp only [Option.map_some,Option.some.injEq,Prod.mk.injEq] at h;exact⟨i,z,ht,hi,h.1,h.2.1,h.2.2,hz⟩
theorem lI {P:Program} {w0:World} {ops:Array Oper} {rest:List Oper} {o:Oper} {a:Act} {Q:Exit->Act->World->Prop} (hgd:o.guard=none) (s x:Operand) (t:TypeId)
  (ho:o.op = .call { callee:=.builtin .append,args:=#[s,x],argTypes:=#[t,t] }) {base:Nat} {e te:TypeId} {bytes:Nat} (hP:Pushes P t e bytes) {ps:List Pc} (hS:Sep ps w0) (k:Nat) {v u:Value} {n:Nat} {xs:List Value}
  (hk:ps[k]?=some (Pc.row base e 1 v n xs)) (hs:a.eval s=v) (hx:a.eval x = .slice (some ⟨w0.heap.size,0,none⟩) 1 1) (h1:u.oneCell'=true) (hn:n<=1000000000) (hby:bytes<=1000) (hbase:base<=w0.heap.size)
  (h:∀ v' w',Sep (ps.set k (Pc.row base e 1 v' (n+1) (xs++[u]))) w'->(∃ g c,v' = .slice (some ⟨g,0,none⟩) (n+1) c/\n+1<=c/\c<=9223372036854775807)->wpList P ops Q rest (a.put o.dst v') w'):wpList P ops Q (o::rest) a (w0.alloc (.cells #[u] te)):=by
 obtain⟨i,z,ht,hi,hz0,hz1,hz2,hz3⟩:=hP.o;have hb:(n+1)*bytes<=1000000001*1000:=Nat.mul_le_mul (by omega) hby;refine wpList_append_own_at _ hgd s x t ho base e i z 1 bytes ht hi hz0 hz1 hz2 hz3 (by decide) v n xs hs ((hS.row k hk).alloc _) ⟨w0.heap.size,0,none⟩ 1 1 [u] hx rfl (cell_one_new _ _ _) (by simpa using h1) (by unfold maxLen;omega) (by omega) (by simp;omega) ?_;intro v' w' hown hgrow _ hat
 have hS':=(hS.alloc (.cells #[u] te)).grow k hk hgrow hown (by
  rcases hat with e1 | e1
  ·exact .inl e1
  ·exact .inr (λq hq=>by rw [e1] at hq;simp only [Option.some.injEq] at hq;omega))
 refine h v' w' hS' ?_
 rcases hown.2 with⟨_,h2⟩ | ⟨g,cap,cur,h2,_,_,h3,h4,_⟩
 ·omega
 ·exact⟨g,cap,h2,h3,by unfold maxLen at h4;omega⟩
theorem adT {P:Program} {w0:World} {ops:Array Oper} {rest:List Oper} {o:Oper} {a:Act} {Q:Exit->Act->World->Prop} (hgd:o.guard=none) (s x:Operand) (t:TypeId)
  (ho:o.op = .call { callee:=.builtin .append,args:=#[s,x],argTypes:=#[t,t] }) {base:Nat} {E e te:TypeId} {bytes:Nat} (hP:Pushes P t E bytes) {ps:List Pc} {u:Value} {n:Nat} {xs:List Value} (hS:Sep (Pc.row base e 1 u n xs::ps) w0) (k:Nat) {v:Value} {vs:List Value} {xss:List (List Value)}
  (hk:ps[k]?=some (Pc.rows base E e v vs xss)) (hs:a.eval s=v) (hx:a.eval x = .slice (some ⟨w0.heap.size,0,none⟩) 1 1) (h1:u.oneCell'=true) (hlen:n=xs.length) (hn:vs.length<=1000000000) (hby:bytes<=1000) (hbase:base<=w0.heap.size)
  (h:∀ v' w',Sep (ps.set k (Pc.rows base E e v' (vs++[u]) (xss++[xs]))) w'->(∃ g c,v' = .slice (some ⟨g,0,none⟩) (vs.length+1) c/\vs.length+1<=c/\c<=9223372036854775807)->wpList P ops Q rest (a.put o.dst v') w'):wpList P ops Q (o::rest) a (w0.alloc (.cells #[u] te)):=by
 obtain⟨i,z,ht,hi,hz0,hz1,hz2,hz3⟩:=hP.o;have hb:(vs.length+1)*bytes<=1000000001*1000:=Nat.mul_le_mul (by omega) hby;have hrow:=(hS.at' (k+1) (p:=Pc.rows base E e v vs xss) (by simpa using hk)).2.1;refine wpList_append_own_at _ hgd s x t ho base E i z 1 bytes ht hi hz0 hz1 hz2 hz3 (by decide) v vs.length vs hs (hrow.alloc _) ⟨w0.heap.size,0,none⟩ 1 1 [u] hx rfl (cell_one_new _ _ _) (by simpa using h1) (by unfold maxLen;omega) (by omega) (by simp;omega) ?_;intro v' w' hown hgrow _ hat
 have hS':=(hS.alloc (.cells #[u] te)).ait k hk hlen hgrow hown (by
  rcases hat with e1 | e1
  ·exact .inl e1
  ·exact .inr (λq hq=>by rw [e1] at hq;simp only [Option.some.injEq] at hq;omega))
 refine h v' w' hS' ?_
 rcases hown.2 with⟨_,h2⟩ | ⟨g,cap,cur,h2,_,_,h3,h4,_⟩
 ·omega
 ·exact⟨g,cap,h2,h3,by unfold maxLen at h4;omega⟩
theorem dN {w:World} {base s n:Nat} {e:TypeId} {v:Value} {xs:List Value} (h:w.ownsRow base e s v n xs):∃ a c,v = .slice a n c/\n<=c/\c<=9223372036854775807:=by
 rcases h.2 with⟨rfl,rfl⟩ | ⟨g,cap,cur,rfl,_,_,h3,h4,_⟩
 ·exact⟨_,_,rfl,Nat.le_refl _,by omega⟩
 ·exact⟨_,_,rfl,h3,by unfold maxLen at h4;omega⟩
def bs (l:List UInt8):ByteArray:=⟨l.toArray⟩
theorem ahi (l:List UInt8):(bs l).data.toList=l:=rfl
theorem qp (l:List UInt8):(bs l).size=l.length:=by unfold bs;simp [ByteArray.size]
theorem agC (s:ByteArray):s=bs s.data.toList:=by cases s with | mk d=>cases d;rfl
theorem Wn (l:List UInt8) (a b:Nat):(bs l).extract a b=bs ((l.take b).drop a):=by
 rw [agC ((bs l).extract a b)]
 congr 1
 rw [ByteArray.data_extract,Array.toList_extract,ahi,List.extract_eq_take_drop,List.take_drop]
 by_cases h:a<=b
 ·rw [show a+(b-a)=b by omega]
 ·rw [show a+(b-a)=a by omega,List.drop_eq_nil_of_le (by rw [List.length_take];omega),List.drop_eq_nil_of_le (by rw [List.length_take];omega)]
def kG (w:World) (v:Value) (xs:List Value):Prop :=
 (v = .slice none 0 0/\xs=[])\/∃ b off sp cap,v = .slice (some ⟨b,off,sp⟩) xs.length cap/\xs.length<=cap/\cap<=maxLen/\(xs≠[]->sp=none/\b<w.heap.size/\∀ i x,xs[i]?=some x->w.cell? ⟨b,off+i,none⟩=some x)
section
variable {w w':World} {v:Value} {xs:List Value}
theorem kG.below (h:kG w v xs) (hb:Below w.heap.size w w'):kG w' v xs:=by
 rcases h with h | ⟨b,off,sp,cap,h1,h2,h3,h4⟩
 ·exact .inl h
 ·exact .inr ⟨b,off,sp,cap,h1,h2,h3,λhn=>⟨(h4 hn).1,Nat.lt_of_lt_of_le (h4 hn).2.1 hb.size,λi x hx=>(hb.cell (p:=⟨b,off+i,none⟩) (h4 hn).2.1).trans ((h4 hn).2.2 i x hx)⟩⟩
theorem kG.get (h:kG w v xs) (hn:xs≠[]) :
  ∃ b off cap,v = .slice (some ⟨b,off,none⟩) xs.length cap/\xs.length<=cap/\cap<=maxLen/\b<w.heap.size/\∀ i x,xs[i]?=some x->w.cell? ⟨b,off+i,none⟩=some x:=by
 rcases h with⟨_,h⟩ | ⟨b,off,sp,cap,h1,h2,h3,h4⟩
 ·exact absurd h hn
 ·obtain⟨rfl,h5,h6⟩:=h4 hn;exact⟨b,off,cap,h1,h2,h3,h5,h6⟩
theorem kG.slice (h:kG w v xs):∃ a cap,v = .slice a xs.length cap/\xs.length<=cap/\cap<=9223372036854775807:=by
 rcases h with⟨rfl,rfl⟩ | ⟨b,off,sp,cap,rfl,h1,h2,_⟩
 ·exact⟨_,_,rfl,Nat.le_refl _,by omega⟩
 ·exact⟨_,_,rfl,h1,by unfold maxLen at h2;omega⟩
theorem kG.dL {base n:Nat} {T:TypeId} (h:w.ownsRow base T 1 v n xs) (hn:n=xs.length):kG w v xs:=by
 subst hn;have hl:=h.lt
 rcases h.2 with⟨h1,h2⟩ | ⟨g,cap,cur,rfl,h2,h3,h4,h5,h6,h7⟩
 ·exact .inl ⟨h1,List.eq_nil_of_length_eq_zero h2⟩
 ·refine .inr ⟨g,0,none,cap,rfl,h4,h5,λ_=>⟨rfl,(hl g rfl).2,λi x hx=>?_⟩⟩;have:=h.cells (g:=g) rfl i x hx;rw [show (⟨g,0+i,none⟩:Addr)=(⟨g,0,none⟩:Addr).add i by unfold Addr.add;by_cases h0:i=0 <;> simp [h0]];exact this
theorem kG.ae4 {g:Nat} {T:TypeId} (h:ak w g T xs.toArray) (hz:xs.length<=1000000):kG w (.slice (some ⟨g,0,none⟩) xs.length xs.length) xs:=by
 refine .inr ⟨g,0,none,xs.length,rfl,Nat.le_refl _,by unfold maxLen;omega,λ_=>⟨rfl,h.lt,λi x hx=>?_⟩⟩;rw [Nat.zero_add];exact(h.cell i).trans (by rw [List.getElem?_toArray];exact hx)
theorem kG.take {a:Option Addr} {cap:Nat} (h:kG w (.slice a xs.length cap) xs) (n cap':Nat) (hc:(xs.take n).length<=cap') (hc':cap'<=cap):kG w (.slice a (xs.take n).length cap') (xs.take n):=by
 rcases h with⟨h1,rfl⟩ | ⟨b,off,sp,cap2,h1,h2,h3,h4⟩
 ·injection h1 with h1 h2 h3;subst h1 h3;obtain rfl:cap'=0:=by omega
  simp [kG]
 ·injection h1 with h1 h2' h3';subst h1 h3';refine .inr ⟨b,off,sp,cap',rfl,hc,Nat.le_trans hc' h3,λhn=>?_⟩;have hn':xs≠[]:=by rintro rfl;simp at hn
  refine⟨(h4 hn').1,(h4 hn').2.1,λi x hx=>(h4 hn').2.2 i x ?_⟩;rw [List.getElem?_take] at hx
  split at hx
  ·exact hx
  ·cases hx
theorem kG.drop {b off:Nat} {cap:Nat} (h:kG w (.slice (some ⟨b,off,none⟩) xs.length cap) xs) (n:Nat) (hn:n<=xs.length):kG w (.slice (some ⟨b,off+n,none⟩) (xs.length-n) (cap-n)) (xs.drop n):=by
 rcases h with⟨h1,rfl⟩ | ⟨b',off',sp,cap2,h1,h2,h3,h4⟩
 ·cases h1
 ·injection h1 with h1 h2' h3';subst h3';injection h1 with h1;injection h1 with h5 h6 h7;subst h5 h6 h7;refine .inr ⟨b,off+n,none,cap-n,by rw [List.length_drop],by rw [List.length_drop];omega,by omega,λhne=>?_⟩;have hne':xs≠[]:=by rintro rfl;simp at hne
  refine⟨rfl,(h4 hne').2.1,λi x hx=>?_⟩;rw [Nat.add_assoc];exact(h4 hne').2.2 (n+i) x (by rw [List.getElem?_drop] at hx;exact hx)
end
def pK (l:List UInt8):Value:=.string (bs l)
def iY (w:World) (v:Value) (xs:List (List UInt8)):Prop:=kG w v (xs.map pK)
theorem iY.below {w w':World} {v:Value} {xs:List (List UInt8)} (h:iY w v xs) (hb:Below w.heap.size w w'):iY w' v xs:=kG.below h hb
theorem iY.get {w:World} {v:Value} {xs:List (List UInt8)} (h:iY w v xs) (hn:xs≠[]) :
  ∃ b off cap,v = .slice (some ⟨b,off,none⟩) xs.length cap/\xs.length<=cap/\cap<=maxLen/\b<w.heap.size/\∀ i x,xs[i]?=some x->w.cell? ⟨b,off+i,none⟩=some (.string (bs x)):=by
 obtain⟨b,off,cap,h1,h2,h3,h4,h5⟩:=kG.get h (by simpa using hn);rw [List.length_map] at h1 h2;exact⟨b,off,cap,h1,h2,h3,h4,λi x hx=>h5 i (.string (bs x)) (by rw [List.getElem?_map,hx];rfl)⟩
theorem iY.slice {w:World} {v:Value} {xs:List (List UInt8)} (h:iY w v xs):∃ a cap,v = .slice a xs.length cap/\xs.length<=cap/\cap<=9223372036854775807:=by
 have:=kG.slice h
 rwa [List.length_map] at this
theorem iY.dL {w:World} {base n:Nat} {T:TypeId} {v:Value} {xs:List (List UInt8)} (h:w.ownsRow base T 1 v n (xs.map pK)) (hn:n=xs.length):iY w v xs:=kG.dL h (by rw [List.length_map];exact hn)
def lY (k:Nat) (w:World) (v:Value) (xs:List (List Value)):Prop :=
 (v = .slice none 0 0/\xs=[])\/∃ b off sp cap,v = .slice (some ⟨b,off,sp⟩) xs.length cap/\xs.length<=cap/\cap<=maxLen/\(xs≠[]->sp=none/\b<w.heap.size/\∀ i c,xs[i]?=some c->∀ j u,c[j]?=some u->w.cell? ⟨b,off+i*k+j,none⟩=some u)
section
variable {k:Nat} {w w':World} {v:Value} {xs:List (List Value)}
theorem lY.below (h:lY k w v xs) (hb:Below w.heap.size w w'):lY k w' v xs:=by
 rcases h with h | ⟨b,off,sp,cap,h1,h2,h3,h4⟩
 ·exact .inl h
 ·exact .inr ⟨b,off,sp,cap,h1,h2,h3,λhn=>⟨(h4 hn).1,Nat.lt_of_lt_of_le (h4 hn).2.1 hb.size,λi c hc j u hu=>(hb.cell (p:=⟨b,off+i*k+j,none⟩) (h4 hn).2.1).trans ((h4 hn).2.2 i c hc j u hu)⟩⟩
theorem lY.get (h:lY k w v xs) (hn:xs≠[]) :
  ∃ b off cap,v = .slice (some ⟨b,off,none⟩) xs.length cap/\xs.length<=cap/\cap<=maxLen/\b<w.heap.size/\∀ i c,xs[i]?=some c->∀ j u,c[j]?=some u->w.cell? ⟨b,off+i*k+j,none⟩=some u:=by
 rcases h with⟨_,h⟩ | ⟨b,off,sp,cap,h1,h2,h3,h4⟩
 ·exact absurd h hn
 ·obtain⟨rfl,h5,h6⟩:=h4 hn;exact⟨b,off,cap,h1,h2,h3,h5,h6⟩
theorem lY.slice (h:lY k w v xs):∃ a cap,v = .slice a xs.length cap/\xs.length<=cap/\cap<=9223372036854775807:=by
 rcases h with⟨rfl,rfl⟩ | ⟨b,off,sp,cap,rfl,h1,h2,_⟩
 ·exact⟨_,_,rfl,Nat.le_refl _,by omega⟩
 ·exact⟨_,_,rfl,h1,by unfold maxLen at h2;omega⟩
theorem Xv:∀ {xs:List (List Value)},(∀ c∈xs,c.length=k)->∀ {i:Nat} {c:List Value},xs[i]?=some c->∀ {j:Nat} {u:Value},c[j]?=some u->xs.flatten[i*k+j]?=some u
 | [],_,i,c,h,_,_,_=>by simp at h
 | x::t,hk,0,c,h,j,u,hu=>by
  simp only [List.getElem?_cons_zero,Option.some.injEq] at h;subst h;rw [List.flatten_cons,Nat.zero_mul,Nat.zero_add,List.getElem?_append_left (List.getElem?_eq_some_iff.1 hu).1];exact hu
 | x::t,hk,i+1,c,h,j,u,hu=>by
  rw [List.getElem?_cons_succ] at h;have hx:=hk x (List.mem_cons_self ..);rw [List.flatten_cons,Nat.add_mul,Nat.one_mul,List.getElem?_append_right (by rw [hx];omega),hx,show i*k+k+j-k=i*k+j by omega];exact Xv (λc hc=>hk c (List.mem_cons_of_mem _ hc)) h hu
theorem lY.dL {base n:Nat} {T:TypeId} (h:w.ownsRow base T k v n xs.flatten) (hn:n=xs.length) (hk:∀ c∈xs,c.length=k):lY k w v xs:=by
 subst hn;have hl:=h.lt
 rcases h.2 with⟨h1,h2⟩ | ⟨g,cap,cur,rfl,h2,h3,h4,h5,h6,h7⟩
 ·exact .inl ⟨h1,List.eq_nil_of_length_eq_zero h2⟩
 ·refine .inr ⟨g,0,none,cap,rfl,h4,h5,λ_=>⟨rfl,(hl g rfl).2,λi c hc j u hu=>?_⟩⟩;have:=h.cells (g:=g) rfl (i*k+j) u (Xv hk hc hu);rw [show (⟨g,0+i*k+j,none⟩:Addr)=(⟨g,0,none⟩:Addr).add (i*k+j) by unfold Addr.add;rw [Nat.zero_add];by_cases h0:i*k+j=0;rw [if_pos h0,h0];rw [if_neg h0];simp];exact this
end
theorem Ai (l:List UInt8):(bs l).toList=l:=by rw [ByteArray.toList_eq];rfl
section
variable {P:Program} {T:TypeId}
theorem Ag (hT:P.underlying T=some .string) {l:List UInt8} (k:Nat) {d:UInt8} (hd:l[k]?=some d) (i:Int) (hi:i=k):∀ w,(Instr.index T (.string (bs l)) (.int .i64 i)).run P w = .ok (.int .u8 (U.aA d)) w :=
 uH hT (bs l) k hd i hi
theorem Qd (hT:P.underlying T=some .string) (l:List UInt8) (a b:Nat) (i j:Int) (hi:i=a) (hj:j=b) (h:a<=b/\b<=l.length):∀ W,(Instr.slice T (.string (bs l)) (some (.int .i64 i)) (some (.int .i64 j)) none).run P W = .ok (.string (bs ((l.take b).drop a))) W:=by
 intro W;subst hi hj;rw [Va hT _ _ _ ⟨by omega,by omega,by rw [qp];omega⟩,Int.toNat_natCast,Int.toNat_natCast,Wn]
theorem Ue (hT:P.underlying T=some .string) (l:List UInt8) (a:Nat) (i:Int) (hi:i=a) (h:a<=l.length):∀ W,(Instr.slice T (.string (bs l)) (some (.int .i64 i)) none none).run P W = .ok (.string (bs (l.drop a))) W:=by
 intro W;subst hi;rw [run_slice_string_from_if W _ _ _ _ hT,if_pos (by rw [qp];omega),Int.toNat_natCast,Wn,qp,List.take_of_length_le (Nat.le_refl _)]
theorem NK (hT:P.underlying T=some .string) (l:List UInt8) (b:Nat) (j:Int) (hj:j=b) (h:b<=l.length):∀ W,(Instr.slice T (.string (bs l)) none (some (.int .i64 j)) none).run P W = .ok (.string (bs (l.take b))) W:=by
 intro W;subst hj;rw [run_slice_string_to_if W _ _ _ _ hT,if_pos (by rw [qp];omega),Int.toNat_natCast,Wn,List.drop_zero]
end
theorem G8:(bs []).toList.isEmpty=true:=by rw [Ai];rfl
theorem BA {l:List UInt8} (h:l≠[]):(bs l).toList.isEmpty=false:=by
 rw [Ai]
 cases l with
 | nil=>exact absurd rfl h
 | cons _ _=>rfl
theorem MQ (c d:UInt8):(U.aA c==U.aA d)=(c==d):=by
 rw [Bool.eq_iff_iff,beq_iff_eq,beq_iff_eq];exact⟨U.Tm,λh=>by rw [h]⟩
end
namespace F
open Go.Proofs.YtlmdjifffmofeaaGreatDoor
def split (c:UInt8):List UInt8->List (List UInt8)
 | []=>[[]]
 | x::t=>if x=c then []::split c t else match split c t with
  | []=>[[x]]
  | h::r=>(x::h)::r
theorem Zp (c:UInt8):∀ l,split c l≠[]
 | []=>by simp [split]
 | x::t=>by
  unfold split
  split
  ·simp
  ·split <;> simp
theorem adO {c:UInt8}:∀ {m:List UInt8},(∀ x∈m,x≠c)->split c m=[m]
 | [],_=>rfl
 | x::t,h=>by
  unfold split;rw [if_neg (h x (List.mem_cons_self ..)),adO (λy hy=>h y (List.mem_cons_of_mem _ hy))]
theorem acG {c:UInt8}:∀ {m:List UInt8} (t:List UInt8),(∀ x∈m,x≠c)->split c (m++c::t)=m::split c t
 | [],t,_=>by
  show (if c=c then []::split c t else match split c t with
   | []=>[[c]]
   | h::r=>(c::h)::r)=_
  rw [if_pos rfl]
 | x::m,t,h=>by
  show (if x=c then []::split c (m++c::t) else match split c (m++c::t) with
   | []=>[[x]]
   | h::r=>(x::h)::r)=_
  rw [if_neg (h x (List.mem_cons_self ..)),acG t (λy hy=>h y (List.mem_cons_of_mem _ hy))]
def tJ (c:UInt8) (l:List UInt8) (out:List (List UInt8)) (f k:Nat):Prop :=
 f<=k/\((k<=l.length/\split c l=out++split c (l.drop f)/\∀ j x,f<=j->j<k->l[j]?=some x->x≠c)\/(k=l.length+1/\split c l=out))
theorem tJ.start (c:UInt8) (l:List UInt8):tJ c l [] 0 0:=⟨Nat.le_refl _, .inl ⟨Nat.zero_le _,rfl,λj x _ h=>by omega⟩⟩
theorem X9 {l:List UInt8} {f k:Nat} {x:UInt8} (h:x∈(l.take k).drop f):∃ j,f<=j/\j<k/\l[j]?=some x:=by
 obtain⟨i,hi,e⟩:=List.getElem_of_mem h;have h2:((l.take k).drop f)[i]?=some x:=by rw [List.getElem?_eq_getElem hi,e]
 rw [List.getElem?_drop,List.getElem?_take] at h2
 split at h2
 ·exact⟨f+i,by omega,by omega,h2⟩
 ·cases h2
theorem ac2 {l:List UInt8} {f k:Nat} (hf:f<=k) (hk:k<=l.length):l.drop f=(l.take k).drop f++l.drop k:=by
 conv=>lhs;rw [<- List.take_append_drop k l]
 rw [List.drop_append_of_le_length (by rw [List.length_take];omega)]
theorem tJ.cut {c:UInt8} {l:List UInt8} {out:List (List UInt8)} {f k:Nat} (h:tJ c l out f k) (hk:k<l.length) (hc:l[k]?=some c):tJ c l (out++[(l.take k).drop f]) (k+1) (k+1):=by
 obtain⟨hf,⟨h1,h2,h3⟩ | ⟨h1,-⟩⟩:=h
 ·refine⟨Nat.le_refl _, .inl ⟨hk,?_,λj x a b=>by omega⟩⟩;have hd:l.drop k=c::l.drop (k+1):=by
   rw [List.drop_eq_getElem_cons hk];rw [List.getElem?_eq_getElem hk] at hc;rw [Option.some.inj hc]
  rw [h2,ac2 hf h1,hd,acG _ (λx hx=>by obtain⟨j,a,b,e⟩:=X9 hx;exact h3 j x a b e),List.append_assoc]
  rfl
 ·omega
theorem tJ.stay {c d:UInt8} {l:List UInt8} {out:List (List UInt8)} {f k:Nat} (h:tJ c l out f k) (hk:k<l.length) (hd:l[k]?=some d) (hc:d≠c):tJ c l out f (k+1):=by
 obtain⟨hf,⟨h1,h2,h3⟩ | ⟨h1,-⟩⟩:=h
 ·refine⟨by omega, .inl ⟨hk,h2,λj x a b e=>?_⟩⟩
  rcases Nat.lt_or_ge j k with h4 | h4
  ·exact h3 j x a h4 e
  ·obtain rfl:j=k:=by omega
   rw [hd] at e
   cases e;exact hc
 ·omega
theorem tJ.last {c:UInt8} {l:List UInt8} {out:List (List UInt8)} {f:Nat} (h:tJ c l out f l.length):tJ c l (out++[(l.take l.length).drop f]) (l.length+1) (l.length+1):=by
 obtain⟨hf,⟨h1,h2,h3⟩ | ⟨h1,-⟩⟩:=h
 ·refine⟨Nat.le_refl _, .inr ⟨rfl,?_⟩⟩;rw [h2,ac2 hf h1,List.drop_length,List.append_nil,adO (λx hx=>by obtain⟨j,a,b,e⟩:=X9 hx;exact h3 j x a b e)]
 ·omega
theorem tJ.done {c:UInt8} {l:List UInt8} {out:List (List UInt8)} {f:Nat} (h:tJ c l out f (l.length+1)):split c l=out:=by
 obtain⟨hf,⟨h1,-⟩ | ⟨-,h2⟩⟩:=h
 ·omega
 ·exact h2
theorem Uu (c:UInt8):∀ l,(split c l).length<=l.length+1
 | []=>by simp [split]
 | x::t=>by
  have ih:=Uu c t;unfold split
  split
  ·simp;omega
  ·split
   ·simp
   ·rename_i h r e
    rw [e] at ih;simp at ih ⊢;omega
theorem Jb (c:UInt8):∀ l,∀ p∈split c l,p.length<=l.length
 | [],p,hp=>by simp [split] at hp;subst hp;simp
 | x::t,p,hp=>by
  have ih:=Jb c t;unfold split at hp
  split at hp
  ·rcases List.mem_cons.1 hp with h | h
   ·subst h;simp
   ·have:=ih p h;simp;omega
  ·split at hp
   ·simp at hp;subst hp;simp
   ·rename_i h r e
    rw [e] at ih
    rcases List.mem_cons.1 hp with h' | h'
    ·subst h';have:=ih h (List.mem_cons_self ..);simp;omega
    ·have:=ih p (List.mem_cons_of_mem _ h');simp;omega
def blank (c:UInt8):Bool:=c==32||c==9||c==13
def zu:List UInt8->List UInt8
 | []=>[]
 | x::t=>if blank x=true then zu t else x::t
def tH:Nat->List UInt8->List UInt8
 | 0,l=>l
 | n+1,l=>match l.getLast? with
  | none=>l
  | some x=>if blank x=true then tH n l.dropLast else l
def trim (l:List UInt8):List UInt8:=tH (zu l).length (zu l)
theorem YQ:∀ l,(zu l).length<=l.length
 | []=>Nat.le_refl _
 | x::t=>by
  unfold zu
  split
  ·have:=YQ t;simp;omega
  ·exact Nat.le_refl _
theorem ZI:∀ n l,(tH n l).length<=l.length
 | 0,l=>Nat.le_refl _
 | n+1,l=>by
  unfold tH
  split
  ·exact Nat.le_refl _
  ·split
   ·have:=ZI n l.dropLast;rw [List.length_dropLast] at this;omega
   ·exact Nat.le_refl _
theorem Fh (l:List UInt8):(trim l).length<=l.length:=Nat.le_trans (ZI _ _) (YQ l)
def digit (c:UInt8):Int :=
 let x:Int:=U.aA c
 if 48<=x/\x<=57 then x-48 else if 97<=x/\x<=102 then x-97+10 else if 65<=x/\x<=70 then x-65+10 else -1
theorem ahF (c:UInt8):-1<=digit c/\digit c<=15:=by
 unfold digit;simp only
 split
 ·omega
 ·split
  ·omega
  ·split <;> omega
def yZ:Int->List UInt8->Option Int
 | n,[]=>some n
 | n,x::t=>if digit x<0 then none else yZ (16*n+digit x) t
def code (l:List UInt8):Option Int:=if 4<=l.length/\l.length<=6 then yZ 0 l else none
end F
section
open Go.RowKit
abbrev D.Rule:=D.Side×D.Side×Bool
def UZ (x:D.Rule) (vl vr:Value):Value:=.agg #[.bool x.1.1,vl, .bool x.2.1.1,vr, .bool x.2.2]
def Jk (w:World) (b o:Nat) (x:D.Rule):Prop:=∃ vl vr,w.cell? ⟨b,o,none⟩=some (.bool x.1.1)/\w.cell? ⟨b,o+1,none⟩=some vl/\w.cell? ⟨b,o+2,none⟩=some (.bool x.2.1.1)/\w.cell? ⟨b,o+3,none⟩=some vr/\w.cell? ⟨b,o+4,none⟩=some (.bool x.2.2)/\bM w vl x.1.2/\bM w vr x.2.1.2
theorem Jk.below {w w':World} {b o:Nat} {x:D.Rule} (h:Jk w b o x) (hlt:b<w.heap.size) (hb:Below w.heap.size w w'):Jk w' b o x:=by
 obtain⟨vl,vr,h0,h1,h2,h3,h4,hl,hr⟩:=h;have key:=λj=>hb.cell (p:=⟨b,j,none⟩) hlt
 exact⟨vl,vr,(key o).trans h0,(key (o+1)).trans h1,(key (o+2)).trans h2,(key (o+3)).trans h3,(key (o+4)).trans h4,hl.below hb,hr.below hb⟩
def dP (w:World) (v:Value) (l:List D.Rule):Prop :=
 (v = .slice none 0 0/\l=[])\/∃ b off sp cap,v = .slice (some ⟨b,off,sp⟩) l.length cap/\l.length<=cap/\cap<=maxLen/\(l≠[]->sp=none/\b<w.heap.size/\∀ i x,l[i]?=some x->Jk w b (off+i*5) x)
theorem dP.below {w w':World} {v:Value} {l:List D.Rule} (h:dP w v l) (hb:Below w.heap.size w w'):dP w' v l:=by
 rcases h with h | ⟨b,off,sp,cap,h1,h2,h3,h4⟩
 ·exact .inl h
 ·exact .inr ⟨b,off,sp,cap,h1,h2,h3,λhn=>⟨(h4 hn).1,Nat.lt_of_lt_of_le (h4 hn).2.1 hb.size,λi x hx=>((h4 hn).2.2 i x hx).below (h4 hn).2.1 hb⟩⟩
theorem dP.get {w:World} {v:Value} {l:List D.Rule} (h:dP w v l) (hn:l≠[]) :
  ∃ b off cap,v = .slice (some ⟨b,off,none⟩) l.length cap/\l.length<=cap/\cap<=maxLen/\b<w.heap.size/\∀ i x,l[i]?=some x->Jk w b (off+i*5) x:=by
 rcases h with⟨_,h⟩ | ⟨b,off,sp,cap,h1,h2,h3,h4⟩
 ·exact absurd h hn
 ·obtain⟨rfl,h5,h6⟩:=h4 hn;exact⟨b,off,cap,h1,h2,h3,h5,h6⟩
theorem dP.slice {w:World} {v:Value} {l:List D.Rule} (h:dP w v l):∃ a cap,v = .slice a l.length cap:=by
 rcases h with⟨rfl,rfl⟩ | ⟨b,off,sp,cap,rfl,_⟩
 ·exact⟨_,_,rfl⟩
 ·exact⟨_,_,rfl⟩
theorem dP.FM {w:World} {ao:Option Addr} {cap n:Nat} {l:List D.Rule} (h:dP w (.slice ao n cap) l):l.length<=cap/\cap<=9223372036854775807:=by
 rcases h with⟨h1,rfl⟩ | ⟨b,off,sp,cap,h1,h2,h3,h4⟩
 ·injection h1 with h1 h2 h3;subst h3;simp
 ·injection h1 with h1 h2' h3';subst h3';unfold maxLen at h3;omega
def pz (x:D.Rule):Prop:=x.1.2.length<=16777216/\x.2.1.2.length<=16777216
def kQ (n:Int) (x:D.Rule):Bool:=qI n x.1.2&&qI n x.2.1.2&&!x.2.1.1
def qP (n:Int) (l:List D.Rule):Bool:=decide (1<=n)&&decide (n<=32)&&decide (l.length<=40)&&l.all (kQ n)
theorem akY {n:Int} {x:D.Rule} (h:kQ n x=true):qI n x.1.2=true:=by unfold kQ at h;simp only [Bool.and_eq_true] at h;exact h.1.1
theorem afX (x:D.Rule) (vl vr:Value) (n:Int) (bn:Nat) (w:World) (hf:pz x) (hl:bM w vl x.1.2) (hr:bM w vr x.2.1.2) (hn:w.cell? ⟨bn,0,none⟩=some (.int .i64 n)) (hlt:bn<w.heap.size) :
  Calls Tryz.prog 213 #[UZ x vl vr, .pointer (some ⟨bn,0,none⟩)] w λe w'=>e = .returned (.bool (!kQ n x))/\Below w.heap.size w w':=by
 obtain⟨⟨kY,il⟩,⟨str,ir⟩,br⟩:=x;unfold UZ kQ;obtain⟨hz1,hz2⟩:=hf;have hb0:Below w.heap.size w (w.alloc (.cells #[.bool kY,vl, .bool str,vr, .bool br] 147)):=(Below.refl _ _).alloc (Nat.le_refl _) _;have HB0:=bx hb0;have yQ:=bx (X8 kY vl il n _ (hl.below hb0) hz1);have HP2:=bx (λw' (hb:Below w.heap.size w w')=>X8 str vr ir n w' (hr.below hb) hz2);have HN:=bx (λw' (hb:Below w.heap.size w w')=>(hb.cell (p:=⟨bn,0,none⟩) hlt).trans hn);have dR:=bx (ak.new w 147 #[.bool kY,vl, .bool str,vr, .bool br]);have hn0:=HN.o _ hb0;clear hl hr hn hb0;have hlt1:bn<w.heap.size+1:=by omega
 cases h1:qI n il with
 | false =>
  have H1:=bx h1;clear h1
  go_enter Tryz.func213,Tryz.ntmps213
  go_wp2_with fail;refine yQ.o.mono ?_;rintro e w1 ⟨rfl,hb1⟩;rw [H1.o];have HB1:=bx (bt HB0.o hb1);clear hb1 hn0;go_wp2_with fail;go_ret
  exact⟨rfl,HB1.o⟩
 | true =>
  have H1:=bx h1;clear h1
  go_enter Tryz.func213,Tryz.ntmps213
  go_wp2_with fail;refine yQ.o.mono ?_;rintro e w1 ⟨rfl,hb1⟩;rw [H1.o];have HB1:=bx (bt HB0.o hb1);have dX:=dR.o.below hb1 dR.o.lt;have c2:w1.cell? ⟨w.heap.size,2,none⟩=some (.bool str):=(dX.cell 2).trans rfl;have c3:w1.cell? ⟨w.heap.size,3,none⟩=some vr:=(dX.cell 3).trans rfl;have hn1:=HN.o _ HB1.o;have l1:=dX.lt;have hs1:=HB1.o.size;have ac8:bn<w1.heap.size:=by omega
  clear hb1 hn0 dX
  cases h2:qI n ir with
  | false =>
   have H2:=bx h2;clear h2;go_wp2_with fail;refine(HP2.o _ HB1.o).mono ?_;rintro e w2 ⟨rfl,hb2⟩;rw [H2.o];have HB2:=bx (bt HB1.o hb2);clear hb2 hn1 c2 c3;go_wp2_with fail;go_ret
   exact⟨aI (by simp [H2.o]),HB2.o⟩
  | true =>
   have H2:=bx h2;clear h2;go_wp2_with fail;refine(HP2.o _ HB1.o).mono ?_;rintro e w2 ⟨rfl,hb2⟩;rw [H2.o];have HB2:=bx (bt HB1.o hb2);have c2':w2.cell? ⟨w.heap.size,2,none⟩=some (.bool str):=(hb2.cell (p:=⟨w.heap.size,2,none⟩) l1).trans c2;have l2:w.heap.size<w2.heap.size:=Nat.lt_of_lt_of_le l1 hb2.size;clear hb2 hn1 c2 c3;go_wp2_with fail;go_ret
   exact⟨aI (by simp [H2.o]),HB2.o⟩
theorem Zi (n:Int) (l:List D.Rule) (k:Nat) (x:D.Rule) (h:l[k]?=some x) (ha:(l.take k).all (kQ n)=true) (hx:kQ n x=true):(l.take (k+1)).all (kQ n)=true:=by
 rw [List.take_add_one,h,List.all_append,ha];simp [hx]
theorem abn (n:Int) (l:List D.Rule) (k:Nat) (x:D.Rule) (h:l[k]?=some x) (hx:kQ n x=false):l.all (kQ n)=false:=by
 rw [Bool.eq_false_iff];intro ha;rw [List.all_eq_true] at ha;rw [ha x (List.mem_of_getElem? h)] at hx
 cases hx
theorem aip (v:Value) (l:List D.Rule) (n:Int) (bn:Nat) (w:World) (hf:∀ x∈l,pz x) (hv:dP w v l) (hz:l.length<=16777216) (hn:w.cell? ⟨bn,0,none⟩=some (.int .i64 n)) (hlt:bn<w.heap.size) :
  Calls Tryz.prog 224 #[v, .func (.func 213) #[] #[.pointer (some ⟨bn,0,none⟩)]] w λe w'=>(∃ i:Int,e = .returned (.int .i64 i)/\decide (0<=i)=!l.all (kQ n))/\Below w.heap.size w w':=by
 have jw:=bx hv;have HF:=bx hf;obtain⟨ao,cap,rfl⟩:=hv.slice;clear hv hf;have HN:=bx hn;clear hn
 go_enter Tryz.func224,Tryz.ntmps224
 go_wp2
 go_loopw [8] (λi wr=>∃ k:Nat,k<=l.length/\i = .int .i64 k/\Box ((l.take k).all (kQ n)=true)/\Box (Below w.heap.size w wr)) (λi _=>l.length-(intOf i).toNat)
 case atStart=>exact⟨0,by omega,rfl,⟨rfl⟩,⟨Below.refl _ _⟩⟩
 case round =>
  obtain⟨k,hk,rfl,ha,hb⟩:=hrel
  by_cases hlt':k<l.length
  ·obtain⟨x,hx⟩:∃ x,l[k]?=some x:=⟨_,List.getElem?_eq_getElem hlt'⟩
   have HX:=bx hx;have Wi:=bx (HF.o x (List.mem_of_getElem? hx));obtain⟨g,off,cap2,hg1,hg2,hg3,hg4,hg5⟩:=(jw.o.below hb.o).get (by rintro rfl;simp at hlt');obtain⟨rfl,rfl⟩:ao=some ⟨g,off,none⟩/\cap=cap2:=by injection hg1 with h1 h2 h3;exact⟨h1,h3⟩
   obtain⟨vl,vr,hc0,hc1,hc2,hc3,hc4,hil,hir⟩:=hg5 k x hx;have Sr:=bx hil;have HIR:=bx hir;unfold maxLen at hg3;have xu:=bx (show wr.cell? ⟨bn,0,none⟩=some (.int .i64 n) from(hb.o.cell (p:=⟨bn,0,none⟩) hlt).trans HN.o);have HL2:=bx (show bn<wr.heap.size from Nat.lt_of_lt_of_le hlt hb.o.size);have HC:=bx (afX x vl vr n bn wr Wi.o Sr.o HIR.o xu.o HL2.o);clear hx hg1 hg5 hil hir;unfold UZ at HC
   cases hi:kQ n x with
   | true =>
    have HT:=bx (Zi n l k x HX.o ha.o hi);have HI:=bx (show (!kQ n x)=false by rw [hi];rfl);clear hi;go_wp2_with fail;refine HC.o.mono ?_;rintro e w1 ⟨rfl,hb1⟩;rw [HI.o];have HB1:=bx (show Below w.heap.size w w1 from bt hb.o hb1);clear hb1;go_wp2_with fail
    go_roundw
    case rel=>exact⟨k+1,hlt',by go_num,HT,HB1⟩
    case measure=>simp [intOf];omega
   | false =>
    have HT:=bx (abn n l k x HX.o hi);have HI:=bx (show (!kQ n x)=true by rw [hi];rfl);clear hi;go_wp2_with fail;refine HC.o.mono ?_;rintro e w1 ⟨rfl,hb1⟩;rw [HI.o];go_wp2_with fail;go_ret
    exact⟨⟨k,rfl,by rw [HT.o];simp⟩,bt hb.o hb1⟩
  ·have HT:=bx (show l.all (kQ n)=true by have:=ha.o;rwa [List.take_of_length_le (by omega)] at this);go_wp2_with fail;go_ret
   exact⟨⟨-1,rfl,by rw [HT.o];rfl⟩,hb.o⟩
theorem ana (v:Value) (l:List D.Rule) (n:Int) (bn:Nat) (w:World) (hf:∀ x∈l,pz x) (hv:dP w v l) (hz:l.length<=16777216) (hn:w.cell? ⟨bn,0,none⟩=some (.int .i64 n)) (hlt:bn<w.heap.size) :
  Calls Tryz.prog 215 #[v, .func (.func 213) #[] #[.pointer (some ⟨bn,0,none⟩)]] w λe w'=>e = .returned (.bool (!l.all (kQ n)))/\Below w.heap.size w w':=by
 have HI:=bx (aip v l n bn w hf hv hz hn hlt);clear hf hv hn
 go_enter Tryz.func215,Tryz.ntmps215
 go_wp2_with fail;refine HI.o.mono ?_;rintro e w1 ⟨⟨i,rfl,hi⟩,hb⟩;have HX:=bx hi;clear hi;go_wp2_with fail;go_ret
 exact⟨aI (by simpa using HX.o),hb⟩
theorem ahD (v:Value) (l:List D.Rule) (n:Int) (w:World) (hf:∀ x∈l,pz x) (hv:dP w v l) (hz:l.length<=16777216) :
  Calls Tryz.prog 199 #[.int .i64 n,v] w λe w'=>e = .returned (.bool (qP n l))/\Below w.heap.size w w':=by
 unfold qP;have hw:Below w.heap.size w (w.alloc (.cells #[.int .i64 n] 3)):=(Below.refl _ _).alloc (Nat.le_refl _) _;have HW:=bx hw;have HC:=bx (λhc=>ana v l n w.heap.size _ hf (hv.below hw) hz hc (by simp));have HN:=bx ((ak.new w 3 #[.int .i64 n]).cell 0);obtain⟨ao,cap,rfl⟩:=hv.slice;clear hv hw hf
 by_cases hn:1<=n/\n<=32
 ·obtain⟨hn1,hn2⟩:=hn
  by_cases hl:l.length<=40
  ·go_enter Tryz.func199,Tryz.ntmps199
   go_wp2_with fail;refine(HC.o (HN.o.trans rfl)).mono ?_;rintro e w1 ⟨rfl,hb⟩;have HB:=bx hb;clear hb;go_wp2_with fail;go_ret
   exact⟨aI (by simp [hl,hn1,hn2]),bt HW.o HB.o⟩
  ·have hl':40<l.length:=by omega
   go_enter Tryz.func199,Tryz.ntmps199
   go_wp2_with fail;go_ret
   exact⟨aI (by simp <;> omega),HW.o⟩
 ·have hn':n<1\/(1<=n/\32<n):=by omega
  rcases hn' with h | ⟨h,h'⟩
  all_goals
   go_enter Tryz.func199,Tryz.ntmps199
   go_wp2_with fail;go_ret
   exact⟨aI (by simp <;> omega),HW.o⟩
theorem acZ (v:Value) (l:List D.Rule) (n:Int) (w:World) (hf:∀ x∈l,pz x) (hv:dP w v l) (hz:l.length<=16777216) :
  Calls Tryz.prog 175 #[v, .int .i64 n] w λe w'=>e = .returned (.bool (qP n l))/\Below w.heap.size w w':=by
 have HA:=bx (ahD v l n w hf hv hz);clear hv hf
 go_enter Tryz.func175,Tryz.ntmps175
 go_wp2_with fail;refine HA.o.mono ?_;rintro e w1 ⟨rfl,hb⟩;go_wp2_with fail;go_ret
 exact⟨rfl,hb⟩
def IW (l:List N.Item):Int:=if iO l=true then (N.most l:Int) else 0
def Oc (l:List N.Item):Value:=if iO l=true then .tuple #[.int .i64 (N.clo l 0), .int .i64 0] else .tuple #[.int .i64 0, .int .i64 80]
def uh (l:List N.Item) (x:Int):Bool:=iO l&&decide (0<=x)&&decide (x<=N.most l)
def KF (l:List N.Item) (st:Bool) (x c:Int):Value:=if uh l x=true then .tuple #[.int .i64 (N.step l st x.toNat c), .int .i64 0] else .tuple #[.int .i64 0, .int .i64 80]
def O3 (l:List N.Item) (x:Int):Bool:=uh l x&&N.VA l x.toNat
theorem aS (w:World) (o:Obj):Below w.heap.size w (w.alloc o):=(Below.refl _ _).alloc (Nat.le_refl _) o
theorem abZ (l:List N.Item) (h:l.length<=10):N.most l<4611686018427387904:=by
 have:2 ^ (2*l.length+1)<=2 ^ 21:=Nat.pow_le_pow_right (by omega) (by omega);unfold N.most;omega
theorem AP {l:List N.Item} (h:iO l=true):l.length<=10:=by
 unfold iO at h;rw [Bool.and_eq_true] at h;exact of_decide_eq_true h.1
theorem own_below {w w':World} {B:Nat} {T:TypeId} {v:Value} {n:Nat} {bs:List Value} (h:w.ownsRow B T 1 v n bs) (hb:Below w.heap.size w w'):w'.ownsRow B T 1 v n bs:=by
 have hl:=h.lt;refine⟨h.1,?_⟩
 rcases h.2 with h2 | ⟨g,cap,cur,h2,h3,h4,h5⟩
 ·exact .inl h2
 ·exact .inr ⟨g,cap,cur,h2,h3,(hb.block g (hl g (by rw [h2];rfl)).2).trans h4,h5⟩
def gB (n:Nat):Value:=.int .i64 n
theorem ownsRow_shape {w:World} {base:Nat} {e:TypeId} {size:Nat} {v:Value} {n:Nat} {xs:List Value} (h:w.ownsRow base e size v n xs):∃ a c,v = .slice a n c:=by
 rcases h.2 with⟨rfl,rfl⟩ | ⟨g,cap,cur,rfl,_⟩
 ·exact⟨_,_,rfl⟩
 ·exact⟨_,_,rfl⟩
theorem ak.setRow {w:World} {g:Nat} {t:TypeId} {cs:Array Value} (h:ak w g t cs) (cs':Array Value):ak (w.setRow g cs') g t cs':=setRow_heap w g cs cs' t (0,0) h
end
section
open Go.RowKit Go.WideMaps
def Small (s:D.Sets):Prop:=∀ x∈s,x<4611686018427387904
structure Fine (n:Nat) (t:List D.Sets):Prop where
 n40:n<=40
 len:∀ s∈t,s.length=n
 small:∀ s∈t,Small s
 once:t.Nodup
end
section
open Go.RowKit
theorem ahG (S n:Nat) (h:S.testBit n=false):S+2 ^ n=S ||| 2 ^ n:=by
 have hp:2 ^ (n+1)=2*2 ^ n:=by rw [Nat.pow_succ];omega
 have hpos:0<2 ^ n:=Nat.two_pow_pos n;rw [Nat.testBit_eq_decide_div_mod_eq,decide_eq_false_iff_not] at h;have hb:S % 2 ^ (n+1)<2 ^ n:=by
  rw [hp,Nat.mul_comm,Nat.mod_mul];have:S / 2 ^ n % 2=0:=by omega
  rw [this];have:=Nat.mod_lt S hpos;omega
 have hS:2 ^ (n+1)*(S / 2 ^ (n+1))+S % 2 ^ (n+1)=S:=Nat.div_add_mod _ _;generalize S / 2 ^ (n+1)=a at hS;generalize S % 2 ^ (n+1)=b at hS hb;have h1:2 ^ (n+1)*a+b=2 ^ (n+1)*a ||| b:=Nat.two_pow_add_eq_or_of_lt (by omega) a
 have h2:2 ^ n*1+b=2 ^ n*1 ||| b:=Nat.two_pow_add_eq_or_of_lt hb 1
 have h3:2 ^ (n+1)*a+(2 ^ n*1+b)=2 ^ (n+1)*a ||| (2 ^ n*1+b):=Nat.two_pow_add_eq_or_of_lt (by omega) a
 rw [Nat.mul_one] at h2 h3;rw [<- hS,show 2 ^ (n+1)*a+b+2 ^ n=2 ^ (n+1)*a+(2 ^ n+b) by omega,h3,h2,h1,Nat.or_assoc,Nat.or_comm b]
theorem anJ (S n:Nat) (h:S.testBit n=true):S ||| 2 ^ n=S:=by
 apply Nat.eq_of_testBit_eq
 intro i;rw [Nat.testBit_or,Nat.testBit_two_pow]
 by_cases e:n=i
 ·subst e;rw [h];rfl
 ·simp [e]
theorem Rq (st:Bool) (v:Value) (l:List N.Item) (hl:l.length<=12):∀ (d n S:Nat) (w:World),2*l.length+2-n<=d->n<=2*l.length->S<2 ^ (2*l.length+1)->bM w v l ->
  Calls Tryz.prog 162 #[.agg #[.bool st,v], .int .i64 S, .int .i64 n] w λe w'=>e = .returned (.int .i64 ((S ||| N.clo l n:Nat):Int))/\Below w.heap.size w w':=by
 intro d
 induction d with
 | zero=>intro n S w hd hn hS hv;omega
 | succ d ih =>
  intro n S w hd hn hS hv;have IH:=bx ih;have HV:=bx hv;have HB0:=bx (ak.new w 144 #[.bool st,v]);have HW0:=bx (aS w (.cells #[.bool st,v] 144));have HS:=bx hS;have hS2:S<1099511627776:=aiZ _ _ hS (by omega);obtain⟨ao,cap,rfl⟩:=hv.slice;obtain⟨q,hq⟩:∃ q,2 ^ n=q:=⟨_,rfl⟩
  have hq1:q<=1099511627776:=by rw [<- hq];exact Nat.pow_le_pow_right (n:=2) (by omega) (show n<=40 by omega)
  have HQ:=bx hq;have HD:=bx hd;clear hv ih hS hq hd
  go_enter Tryz.func162,Tryz.ntmps162
  go_wp2_with fail;refine(EK S n _ (by omega) (by omega)).mono ?_;rintro e w1 ⟨rfl,rfl⟩
  go_upto_if 10 with(fail)
  go_cut [1] from 9 to 14 (λs wx=>s = .int .i64 ((S ||| 2 ^ n:Nat):Int)/\Box (Below w.heap.size w wx)/\Box (ak wx w.heap.size 144 #[.bool st, .slice ao l.length cap]))
  case first =>
   cases hb:S.testBit n with
   | true =>
    have HO:=bx (anJ S n hb);clear hb;go_wp2_with fail
    go_meet
    exact⟨by rw [HO.o],HW0,HB0⟩
   | false =>
    have HO:=bx (ahG S n hb);clear hb;go_wp2_with fail;refine(Rt n _ (by omega)).mono ?_;rintro e w1 ⟨rfl,rfl⟩;rw [HQ.o];go_wp2_with fail
    go_meet
    exact⟨fF (by rw [<- HO.o,HQ.o];simp),HW0,HB0⟩
  case rest =>
   obtain⟨rfl,hb,hbk⟩:=hcut;have c0:wc.cell? ⟨w.heap.size,0,none⟩=some (.bool st):=(hbk.o.cell 0).trans rfl;have c1:wc.cell? ⟨w.heap.size,1,none⟩=some (.slice ao l.length cap):=(hbk.o.cell 1).trans rfl
   by_cases hodd:n % 2=1
   ·have HC:=bx (N.alI l n hodd);have t1:((n:Int) % 2==0)=false:=by rw [beq_eq_false_iff_ne];omega
    clear hodd;go_wp2_with fail;go_ret
    exact⟨by rw [HC.o];rfl,hb.o⟩
   have t1:((n:Int) % 2==0)=true:=by rw [beq_iff_eq];omega
   by_cases hend:l.length<=n / 2
   ·have HC:=bx (N.ade l n hend);have t2:decide ((n:Int) / 2<(l.length:Int))=false:=by rw [decide_eq_false_iff_not];omega
    clear hodd;go_wp2_with fail;go_ret
    exact⟨by rw [HC.o];rfl,hb.o⟩
   have t2:decide ((n:Int) / 2<(l.length:Int))=true:=by rw [decide_eq_true_eq];omega
   obtain⟨x,hx⟩:∃ x,l[n / 2]?=some x:=⟨_,List.getElem?_eq_getElem (by omega)⟩
   obtain⟨g,off,cap2,hg1,hg2,hg3,hg4,hg5⟩:=(HV.o.below hb.o).get (by rintro rfl;simp at hend);obtain⟨rfl,rfl⟩:ao=some ⟨g,off,none⟩/\cap=cap2:=by injection hg1 with h1 h2 h3;exact⟨h1,h3⟩
   obtain⟨hc1,hc2⟩:=hg5 _ x hx;have HH:=bx (show N.iM l (n / 2)=x.2 by unfold N.iM;simp [List.getD,hx]);unfold maxLen at hg3;have hlt:n / 2<l.length:=by omega
   obtain⟨set,how⟩:=x
   by_cases h0:how=0
   ·have HC:=bx (N.amP l n (HH.o.trans h0));subst h0;clear hx hg1 hg5 hodd hend;go_wp2_with fail;go_ret
    exact⟨by rw [HC.o];rfl,hb.o⟩
   ·have HC:=bx (N.alV l n (by omega) hlt (by rw [HH.o];exact h0));have t3:(how==0)=false:=by rw [beq_eq_false_iff_ne];exact h0
    have HI:=bx (IH.o (n+2) (S ||| 2 ^ n) wc (by have:=HD.o;omega) (by omega) (ai8 S n _ HS.o (by omega)) (HV.o.below hb.o));have HN:=bx (show ((n:Int)+2)=((n+2:Nat):Int) by omega);clear hx hg1 hg5 hodd hend;go_wp2_with fail;rw [HN.o];refine HI.o.mono ?_;rintro e w2 ⟨rfl,hb2⟩;have HB2:=bx (bt hb.o hb2);clear hb2;go_wp2_with fail;go_ret
    exact⟨by rw [HC.o,<- Nat.or_assoc];rfl,HB2.o⟩
theorem afx (l:List N.Item) (S:Nat) (c:Int) (k:Nat) (hk:k<=2*l.length):N.fill l S c 0 k<2 ^ (2*l.length+1):=N.UK l S c 0 (Nat.two_pow_pos _) k hk
theorem ag8 (st:Bool) (v:Value) (l:List N.Item) (hr:iO l=true) (S:Nat) (hS:S<4611686018427387904) (c:Int) (w:World) (hv:bM w v l) :
  Calls Tryz.prog 194 #[.agg #[.bool st,v], .int .i64 S, .int .i64 c] w λe w'=>e = .returned (.int .i64 (N.step l st S c))/\Below w.heap.size w w':=by
 have hl:=AP hr;have dK:=bx hr;have HV:=bx hv;have HB0:=bx (ak.new w 144 #[.bool st,v]);have HW0:=bx (aS w (.cells #[.bool st,v] 144));obtain⟨ao,cap,rfl⟩:=hv.slice;clear hv hr
 go_enter Tryz.func194,Tryz.ntmps194
 go_wp2_with fail
 go_loopw [7,8] (λo i wr=>∃ k:Nat,k<=2*l.length/\i = .int .i64 k/\o = .int .i64 (N.fill l S c 0 k)/\Box (ak wr w.heap.size 144 #[.bool st, .slice ao l.length cap])/\Box (Below w.heap.size w wr)) (λ_ i _=>2*l.length-(intOf i).toNat)
 case atStart=>exact⟨0,by omega,rfl,rfl,HB0,HW0⟩
 case round =>
  obtain⟨k,hk,rfl,rfl,hbk,hb⟩:=hrel;have c0:wr.cell? ⟨w.heap.size,0,none⟩=some (.bool st):=(hbk.o.cell 0).trans rfl;have c1:wr.cell? ⟨w.heap.size,1,none⟩=some (.slice ao l.length cap):=(hbk.o.cell 1).trans rfl;have l0:=hbk.o.lt;have HF:=bx (afx l S c k hk)
  by_cases hlt:k<2*l.length
  ·obtain⟨x,hx⟩:∃ x,l[k / 2]?=some x:=⟨_,List.getElem?_eq_getElem (by omega)⟩
   obtain⟨g,off,cap2,hg1,hg2,hg3,hg4,hg5⟩:=(HV.o.below hb.o).get (by rintro rfl;simp at hlt);obtain⟨rfl,rfl⟩:ao=some ⟨g,off,none⟩/\cap=cap2:=by injection hg1 with h1 h2 h3;exact⟨h1,h3⟩
   obtain⟨hc1,hc2⟩:=hg5 _ x hx;obtain⟨hw0,hw1⟩:=ab9 dK.o hx;have HH:=bx (show N.iM l (k / 2)=x.2/\N.setAt l (k / 2)=x.1 by unfold N.iM N.setAt;simp [List.getD,hx]);unfold maxLen at hg3;have hlt2:k / 2<l.length:=by omega
   have sU:=bx (N.QF l S c 0 k);obtain⟨set,how⟩:=x;have gV:=bx (show Below w.heap.size w (wr.alloc (.cells #[.int .i64 set, .int .i64 how] 282)) from hb.o.alloc hb.o.size _);have Ad:=bx (hbk.o.alloc (.cells #[.int .i64 set, .int .i64 how] 282));have HA:=bx (λn hn=>Rq st (.slice (some ⟨g,off,none⟩) l.length cap) l (by omega) _ n (N.fill l S c 0 k) (wr.alloc (.cells #[.int .i64 set, .int .i64 how] 282)) (Nat.le_refl _) hn HF.o (HV.o.below gV.o));have xZ:=bx (N.Zm l k hlt);clear hx hg1 hg5
   cases hbit:S.testBit k with
   | false =>
    have dV:=bx hbit;have HG:=bx (show N.fill l S c 0 (k+1)=N.fill l S c 0 k by rw [sU.o,if_neg];unfold N.goes;rw [hbit];simp);clear hbit;go_wp2_with fail;refine(EK S k _ (by omega) hS).mono ?_;rintro e w1 ⟨rfl,rfl⟩;rw [dV.o];go_wp2_with fail
    go_roundw
    case rel=>exact⟨k+1,hlt,by go_num,by rw [HG.o],Ad,gV⟩
    case measure=>simp [intOf];omega
   | true =>
    have dV:=bx hbit
    cases hhas:N.kU set c with
    | false =>
     have vP:=bx hhas;have HG:=bx (show N.fill l S c 0 (k+1)=N.fill l S c 0 k by rw [sU.o,if_neg];unfold N.goes;rw [hbit,HH.o.2,hhas];simp);clear hbit hhas;go_wp2_with fail;refine(EK S k _ (by omega) hS).mono ?_;rintro e w1 ⟨rfl,rfl⟩;rw [dV.o];go_wp2_with fail;refine(G9 set c _).mono ?_;rintro e w1 ⟨rfl,rfl⟩;rw [vP.o];go_wp2_with fail
     go_roundw
     case rel=>exact⟨k+1,hlt,by go_num,by rw [HG.o],Ad,gV⟩
     case measure=>simp [intOf];omega
    | true =>
     have vP:=bx hhas;have HG:=bx (show N.fill l S c 0 (k+1)=N.fill l S c 0 k ||| N.clo l (N.goto l k) by rw [sU.o,if_pos];unfold N.goes;rw [hbit,HH.o.2,hhas];rfl);clear hbit hhas
     by_cases hodd:k % 2=1
     ·have t1:((k:Int) % 2==1)=true:=by rw [beq_iff_eq];omega
      have sN:=bx (show N.goto l k=k-1 by unfold N.goto;rw [if_pos hodd]);have HN:=bx (show ((k:Int)-1)=((k-1:Nat):Int) by omega);have k1:1<=k:=by omega
      clear hodd;go_wp2_with fail;refine(EK S k _ (by omega) hS).mono ?_;rintro e w1 ⟨rfl,rfl⟩;rw [dV.o];go_wp2_with fail;refine(G9 set c _).mono ?_;rintro e w1 ⟨rfl,rfl⟩;rw [vP.o];go_wp2_with fail;rw [HN.o];refine(HA.o (k-1) (by omega)).mono ?_;rintro e w1 ⟨rfl,hb1⟩;have HB1:=bx (bt gV.o hb1);have dX:=bx (Ad.o.below hb1 Ad.o.lt);clear hb1;go_wp2_with fail
      go_roundw
      case rel=>exact⟨k+1,hlt,by go_num,by rw [HG.o,sN.o],dX,HB1⟩
      case measure=>simp [intOf];omega
     have t1:((k:Int) % 2==1)=false:=by rw [beq_eq_false_iff_ne];omega
     rcases (show how=0\/how=1\/how=2 by omega) with rfl | rfl | rfl
     ·have sN:=bx (show N.goto l k=k+2 by unfold N.goto;rw [if_neg hodd,if_pos HH.o.1]);have hev:k % 2=0:=by omega
      have HN:=bx (show ((k:Int)+2)=((k+2:Nat):Int) by omega);clear hodd;go_wp2_with fail;refine(EK S k _ (by omega) hS).mono ?_;rintro e w1 ⟨rfl,rfl⟩;rw [dV.o];go_wp2_with fail;refine(G9 set c _).mono ?_;rintro e w1 ⟨rfl,rfl⟩;rw [vP.o];go_wp2_with fail;rw [HN.o];refine(HA.o (k+2) (by omega)).mono ?_;rintro e w1 ⟨rfl,hb1⟩;have HB1:=bx (bt gV.o hb1);have dX:=bx (Ad.o.below hb1 Ad.o.lt);clear hb1;go_wp2_with fail
      go_roundw
      case rel=>exact⟨k+1,hlt,by go_num,by rw [HG.o,sN.o],dX,HB1⟩
      case measure=>simp [intOf];omega
     ·have sN:=bx (show N.goto l k=k by unfold N.goto;rw [if_neg hodd,if_neg (by rw [HH.o.1];simp),if_pos HH.o.1]);have hev:k % 2=0:=by omega
      clear hodd;go_wp2_with fail;refine(EK S k _ (by omega) hS).mono ?_;rintro e w1 ⟨rfl,rfl⟩;rw [dV.o];go_wp2_with fail;refine(G9 set c _).mono ?_;rintro e w1 ⟨rfl,rfl⟩;rw [vP.o];go_wp2_with fail;refine(HA.o (k) (by omega)).mono ?_;rintro e w1 ⟨rfl,hb1⟩;have HB1:=bx (bt gV.o hb1);have dX:=bx (Ad.o.below hb1 Ad.o.lt);clear hb1;go_wp2_with fail
      go_roundw
      case rel=>exact⟨k+1,hlt,by go_num,by rw [HG.o,sN.o],dX,HB1⟩
      case measure=>simp [intOf];omega
     ·have sN:=bx (show N.goto l k=k+1 by unfold N.goto;rw [if_neg hodd,if_neg (by rw [HH.o.1];simp),if_neg (by rw [HH.o.1];simp)]);have hev:k % 2=0:=by omega
      have HN:=bx (show ((k:Int)+1)=((k+1:Nat):Int) by omega);clear hodd;go_wp2_with fail;refine(EK S k _ (by omega) hS).mono ?_;rintro e w1 ⟨rfl,rfl⟩;rw [dV.o];go_wp2_with fail;refine(G9 set c _).mono ?_;rintro e w1 ⟨rfl,rfl⟩;rw [vP.o];go_wp2_with fail;rw [HN.o];refine(HA.o (k+1) (by omega)).mono ?_;rintro e w1 ⟨rfl,hb1⟩;have HB1:=bx (bt gV.o hb1);have dX:=bx (Ad.o.below hb1 Ad.o.lt);clear hb1;go_wp2_with fail
      go_roundw
      case rel=>exact⟨k+1,hlt,by go_num,by rw [HG.o,sN.o],dX,HB1⟩
      case measure=>simp [intOf];omega
  ·obtain rfl:k=2*l.length:=by omega
   have hbw:=hb.o;have HA:=bx (Rq st (.slice ao l.length cap) l (by omega) _ 0 (N.fill l S c 0 (2*l.length)) wr (Nat.le_refl _) (by omega) HF.o (HV.o.below hbw));clear hbw
   cases st with
   | true =>
    go_wp2_with fail;go_ret
    exact⟨by rfl,hb.o⟩
   | false =>
    have jP:=bx (N.amL l S c (N.clo l 0) (2*l.length));go_wp2_with fail;refine HA.o.mono ?_;rintro e w1 ⟨rfl,hb1⟩;have HB1:=bx (bt hb.o hb1);clear hb1;go_wp2_with fail;go_ret
    exact⟨by rw [jP.o];rfl,HB1.o⟩
end
end Go.Proofs.YtlmdjifffmofeaaGreatDoor
