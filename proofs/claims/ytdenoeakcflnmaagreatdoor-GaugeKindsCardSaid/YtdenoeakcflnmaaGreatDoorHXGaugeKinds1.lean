/- Texts of this claim. -/
import Derived.Test.YtdenoeakcflnmaaGreatDoorH9

namespace Go.Proofs.YtdenoeakcflnmaaGreatDoor
section
open Go.RowKit
def adn {α:Type} (n:Nat) (P:Program) (gf:Nat) (lb:Array Value) (encs:α->Array Value) (own keep:Nat->Prop) (ok:List α->α->World->Prop) (S:List α->World->Prop) (l:Nat) (W1:World):Prop :=
 ∀ (J Jx:List α->World->Prop),(∀ pre W W',J pre W->Turns own W W'->J pre W')->(∀ pre W W',Jx pre W->Turns (λ_=>False) W W'->Jx pre W') ->
  (∀ pre x W0 W,J pre W0->Turns own W0 W->ok pre x W->YieldAt Fence.wide (n-1) P l (encs x) W λe W'=>(e = .returned (.bool true)/\J (pre++[x]) W'/\Turns (λk=>¬ (keep k\/(W0.heap.size<=k/\k<W.heap.size))) W W')\/(e = .returned (.bool false)/\Jx (pre++[x]) W')) ->
  J [] W1->CallsIn Fence.wide n P gf (#[.func (.yield l) #[] #[]]++lb) W1 λe W'=>(∃ v,e = .returned v)/\((∃ xs,S xs W'/\J xs W')\/(∃ pre,Jx pre W'))
theorem ajB {α:Type} {P:Program} {n:Nat} {g:Operand} {ps:Array Tmp} {assign body:Code} {Q:Exit->Act->World->Prop} {a:Act} {w:World}
  {gf:Nat} {lb:Array Value} (hg:a.eval g = .func (.func gf) #[] lb) (eg:∀ args w,(callFunc gf args).run P w = .ok (.enter gf args) w)
  {encs:α->Array Value} {own keep:Nat->Prop} {ok:List α->α->World->Prop} {S:List α->World->Prop} (hown:∀ k,own k\/keep k->k<w.heap.size)
  (hit:∀ W1,Turns (λ_=>False) w W1->adn (n-1) P gf lb encs own keep ok S (w.heap.size+1) W1)
  (hps:∀ x,(encs x).size=ps.size)
  (I:List α->World->Prop) (Ix:Code->List α->World->Prop)
  (hI:∀ pre W W',I pre W->Turns (λk=>own k\/k=w.heap.size+1) W W'->I pre W')
  (hIx:∀ c pre W W',Ix c pre W->Turns (λk=>k=w.heap.size+1) W W'->Ix c pre W')
  (hokS:∀ pre x W W',ok pre x W->Turns (λk=>k=w.heap.size+1) W W'->ok pre x W') (h0:I [] w) (Ax:α->Act->World->Prop) (hAx:∀ x a1 W W',Ax x a1 W->Turns (λk=>k=w.heap.size+1) W W'->Ax x a1 W')
  (hassign:∀ (x:α) (W:World) (K:Act->World->Prop),w.heap.size+2<=W.heap.size->(∀ a1 W1,Turns (λ_=>False) W W1->Ax x a1 W1->K a1 W1) ->
   assign.wpIn (Fence.wide.inRound (w.heap.size+1)) (n-1-1) P (Exit.then K (λ_ _ _=>False)) { tmps:=(ps.zip (encs x)).foldl (λt (p,v)=>t.setIfInBounds p v) a.tmps,defers:=[] } W)
  (hbody:∀ (pre:List α) (x:α) (a1:Act) (W0 W:World) (N:Nat),w.heap.size+2<=W0.heap.size->I pre W0->Turns (λk=>own k\/k=w.heap.size+1) W0 W->N<=W.heap.size->ok pre x W->Ax x a1 W ->
   body.wpIn (Fence.wide.inRound (w.heap.size+1)) (n-1-1) P (aap (λk=>keep k\/(W0.heap.size<=k/\k<N)) I Ix (w.heap.size+1) w.heap.size (pre++[x]) W) a1 W)
  (hdone:∀ (xs:List α) (W:World),w.heap.size+2<=W.heap.size->S xs W->I xs W->W.heap[w.heap.size]?=some (.deferred (some []))->Q .normal { a with defers:={ target:=.collected w.heap.size,args:=#[] }::a.defers } W)
  (hstop:∀ (c:Code) (pre:List α) (W:World),w.heap.size+2<=W.heap.size->Ix c pre W->W.heap[w.heap.size]?=some (.deferred (some []))->c.wpIn Fence.wide n P Q { a with defers:={ target:=.collected w.heap.size,args:=#[] }::a.defers } W)
  (hS:∀ xs W W',S xs W->Turns (λk=>k=w.heap.size+1) W W'->S xs W') :
  (Code.rangeFunc g ps assign body).wpIn Fence.wide n P Q a w:=by
 refine wpIn_rangeFunc ?_;intro fn hfn;obtain⟨rec,hrec⟩:∃ rec:LoopState->Option Code->Loop,rec=λst pe=>{ state:=st,pending:=pe,fn,tmps:=a.tmps,params:=ps,assign,body,defers:=w.heap.size }:=⟨_,rfl⟩
 obtain⟨W1,hW1⟩:∃ W1,(w.alloc (.deferred (some []))).alloc (.loop (rec .ready none))=W1:=⟨_,rfl⟩
 have hL1:W1.heap[w.heap.size+1]?=some (.loop (rec .ready none)):=by
  rw [<- hW1];have:=World.alloc_heap_new (w.alloc (.deferred (some []))) (.loop (rec .ready none));rwa [World.size_alloc] at this
 have hK1:W1.heap[w.heap.size]?=some (.deferred (some [])):=by
  rw [<- hW1];exact(Below.heap_alloc _ _ _ (by simp)).trans (World.alloc_heap_new w _)
 have hT1:∀ o,Turns o w W1:=λo=>by rw [<- hW1];exact(Turns.alloc w _).trans (Turns.alloc _ _)
 have hI1:I [] W1:=hI _ _ _ h0 (hT1 _);refine⟨w.heap.size+1,[{ target:=.collected w.heap.size,args:=#[] }],W1,{ target:=.fn (.func gf) lb,args:=#[.func (.yield (w.heap.size+1)) #[] #[]] },W1,gf,
  #[.func (.yield (w.heap.size+1)) #[] #[]]++lb,W1,?_,?_,?_,?_,λh=>by simp [Fence.wide] at h,?_⟩
 ·rw [<- hW1,hrec];exact run_enterLoop_outer _ _ _ _ _
 ·simp only [resolve,hg];simp [go_sem]
 ·intro f' _;trivial
 ·simp [invoke,go_sem,eg]
 ·have hnl:¬ own (w.heap.size+1):=λh=>by have:=hown _ (.inl h);omega
  have hnd:¬ own w.heap.size:=λh=>by have:=hown _ (.inl h);omega
  refine(hit W1 (hT1 _)
   (λpre W=>I pre W/\W.heap[w.heap.size+1]?=some (.loop (rec .ready none))/\W.heap[w.heap.size]?=some (.deferred (some [])))
   (λpre W=>∃ c,Ix c pre W/\W.heap[w.heap.size+1]?=some (.loop (rec .done (some c)))/\W.heap[w.heap.size]?=some (.deferred (some [])))
   ?_ ?_ ?_ ⟨hI1,hL1,hK1⟩).mono ?_
  ·rintro pre W W' ⟨hi,hl,hk⟩ ht;exact⟨hI _ _ _ hi (ht.mono λk=>.inl),(ht.block _ (Array.getElem?_eq_some_iff.1 hl).1 hnl).trans hl,(ht.block _ (Array.getElem?_eq_some_iff.1 hk).1 hnd).trans hk⟩
  ·rintro pre W W' ⟨c,hi,hl,hk⟩ ht;exact⟨c,hIx _ _ _ _ hi (ht.mono λk h=>h.elim),(ht.block _ (Array.getElem?_eq_some_iff.1 hl).1 (λh=>h)).trans hl,(ht.block _ (Array.getElem?_eq_some_iff.1 hk).1 (λh=>h)).trans hk⟩
  ·-- one round
   rintro pre x W0 W ⟨hi,hl0,hk0⟩ ht hok;have hlt0:w.heap.size+1<W0.heap.size:=(Array.getElem?_eq_some_iff.1 hl0).1;have hl:=(ht.block _ hlt0 hnl).trans hl0;have hk:=(ht.block _ (by omega) hnd).trans hk0;have hlt:w.heap.size+1<W.heap.size:=(Array.getElem?_eq_some_iff.1 hl).1;have hy:=run_yield (P:=P) (args:=encs x) hl (by rw [hrec];exact hps x);rw [hrec] at hy;refine⟨fn,_,assign,body,hy,roundIn_of_wpIn hfn (hassign x W _ (by omega) λa1 Wa ha hax=>?_)⟩;have hla:Wa.heap[w.heap.size+1]?=some (.loop (rec .ready none)):=(ha.block _ hlt (λh=>h)).trans hl;have hka:Wa.heap[w.heap.size]?=some (.deferred (some [])):=(ha.block _ (by omega) (λh=>h)).trans hk;have Dk:w.heap.size+1<Wa.heap.size:=(Array.getElem?_eq_some_iff.1 hla).1;refine⟨_,run_beginRound hla (by rw [hrec]),?_⟩;obtain⟨Wb,lK⟩:∃ Wb,Wa.putObj (w.heap.size+1) (.loop { rec .ready none with state:=.busy })=Wb:=⟨_,rfl⟩
   rw [lK];have htb:∀ o:Nat->Prop,o (w.heap.size+1)->Turns o Wa Wb:=λo ho=>by rw [<- lK];exact Turns.putObj _ ho _
   have hlb:Wb.heap[w.heap.size+1]?=some (.loop { rec .ready none with state:=.busy }):=by rw [<- lK];exact World.putObj_heap_same Dk
   have hkb:Wb.heap[w.heap.size]?=some (.deferred (some [])):=by rw [<- lK];exact(World.putObj_heap_other (by omega)).trans hka
   have hsb:Wb.heap.size=Wa.heap.size:=by rw [<- lK];simp
   refine wpIn_mono (hbody pre x a1 W0 Wb W.heap.size (by omega) hi ((ht.mono λ_ h=>.inl h).trans ((ha.mono λ_ h=>h.elim).trans (htb _ (.inr rfl)))) (by have:=ha.size;omega) (hokS _ _ _ _ hok ((ha.mono λ_ h=>h.elim).trans (htb _ rfl))) (hAx _ _ _ _ hax (htb _ rfl))) ?_;have fin:∀ (jump:Option Code) (W3:World),Holds (λk=>k=w.heap.size+1\/k=w.heap.size) Wb W3 ->
     (Instr.endRound (w.heap.size+1) jump).run P W3 = .ok (.bool jump.isNone) (W3.putObj (w.heap.size+1) (.loop (rec (if jump.isNone then .ready else .done) jump))) /\
     (W3.putObj (w.heap.size+1) (.loop (rec (if jump.isNone then .ready else .done) jump))).heap[w.heap.size+1]?=some (.loop (rec (if jump.isNone then .ready else .done) jump)) /\
     (W3.putObj (w.heap.size+1) (.loop (rec (if jump.isNone then .ready else .done) jump))).heap[w.heap.size]?=some (.deferred (some [])):=λjump W3 hk3=>by
    have hl3:=(hk3.block _ (.inl rfl)).trans hlb;have:=run_endRound (P:=P) jump hl3;rw [hrec] at this ⊢;exact⟨this,World.putObj_heap_same (Array.getElem?_eq_some_iff.1 hl3).1,(World.putObj_heap_other (by omega)).trans ((hk3.block _ (.inr rfl)).trans hkb)⟩
   rintro e a3 W3 hp
   cases e with
   | normal =>
    obtain⟨ht3,hi3⟩:=hp;have hh:Holds (λk=>k=w.heap.size+1\/k=w.heap.size) Wb W3:=Holds.xJ ht3 (λk hk=>by rw [hsb];omega) (λk hk hn=>hn (.inr hk));obtain⟨hr,hl4,hk4⟩:=fin none W3 hh;refine⟨_,_,hr, .inl ⟨rfl,⟨hI _ _ _ hi3 (Turns.putObj _ (.inr rfl) _),hl4,hk4⟩,?_⟩⟩;have hnk:¬ (keep (w.heap.size+1)\/(W0.heap.size<=w.heap.size+1/\w.heap.size+1<W.heap.size)):=by
     rintro(h | h)
     ·have:=hown _ (.inr h);omega
     ·omega
    exact(((ha.mono λ_ h=>h.elim).trans (htb _ hnk)).trans (ht3.mono λk hk hn=>hk (.inl hn))).trans (Turns.putObj _ hnk _)
   | ret =>
    obtain⟨hh,hi3⟩:=hp;obtain⟨hr,hl4,hk4⟩:=fin (some .ret) W3 hh;exact⟨_,_,hr, .inr ⟨rfl, .ret,hIx _ _ _ _ hi3 (Turns.putObj (own:=λk=>k=w.heap.size+1) _ rfl _),hl4,hk4⟩⟩
   | exit id =>
    obtain⟨hh,hi3⟩:=hp;obtain⟨hr,hl4,hk4⟩:=fin (some (.exit id)) W3 hh;exact⟨_,_,hr, .inr ⟨rfl, .exit id,hIx _ _ _ _ hi3 (Turns.putObj (own:=λk=>k=w.heap.size+1) _ rfl _),hl4,hk4⟩⟩
   | goto t =>
    obtain⟨hh,hi3⟩:=hp;obtain⟨hr,hl4,hk4⟩:=fin (some (.goto t)) W3 hh;exact⟨_,_,hr, .inr ⟨rfl, .goto t,hIx _ _ _ _ hi3 (Turns.putObj (own:=λk=>k=w.heap.size+1) _ rfl _),hl4,hk4⟩⟩
   | panic ch=>exact hp.elim
   | outgrown=>exact hp.elim
  ·-- behind the iterator
   rintro e W2 ⟨⟨v,rfl⟩,(⟨xs,Cm,hi,hl,hk⟩ | ⟨pre,c,hi,hl,hk⟩)⟩
   ·have hlt:=(Array.getElem?_eq_some_iff.1 hl).1;exact⟨none,_,by have:=run_endLoop (P:=P) hl (by rw [hrec];simp);rw [hrec] at this;exact this,
     hdone xs _ (by simp;omega) (hS _ _ _ Cm (Turns.putObj (own:=λk=>k=w.heap.size+1) _ rfl _)) (hI _ _ _ hi (Turns.putObj _ (.inr rfl) _)) ((World.putObj_heap_other (by omega)).trans hk)⟩
   ·have hlt:=(Array.getElem?_eq_some_iff.1 hl).1;exact⟨some c,_,by have:=run_endLoop (P:=P) hl (by rw [hrec];simp);rw [hrec] at this;exact this,
     hstop c pre _ (by simp;omega) (hIx _ _ _ _ hi (Turns.putObj (own:=λk=>k=w.heap.size+1) _ rfl _)) ((World.putObj_heap_other (by omega)).trans hk)⟩
end
end Go.Proofs.YtdenoeakcflnmaaGreatDoor
