/- Texts of this claim. -/
import Derived.ChangeArms
import Derived.Deep.Slices
import Derived.Deep.Strs
import Derived.Laws.Tables
import Derived.Deep.WholeRow
import Derived.ArgAppend
import Derived.OrdersIn
import Derived.TacticsIn
import Derived.Test.YtdponihkpomheaaGreatDoorH7

set_option maxHeartbeats 2000000
set_option maxRecDepth 100000
namespace Go.Proofs.YtdponihkpomheaaGreatDoor
open Go.RowKit
open Tryz
def ab7 {α:Type} (n:Nat) (P:Program) (gf:Nat) (lb:Array Value) (encs:α->Array Value) (own keep:Nat->Prop) (ok:List α->α->Prop) (S:List α->World->Prop) (l:Nat) (W1:World):Prop :=
 ∀ (J Jx:List α->World->Prop),(∀ pre W W',J pre W->Turns own W W'->J pre W')->(∀ pre W W',Jx pre W->Turns own W W'->Jx pre W') ->
  (∀ pre x W0 W,J pre W0->Turns own W0 W->ok pre x->YieldAt Fence.wide (n-1) P l (encs x) W λe W'=>(e = .returned (.bool true)/\J (pre++[x]) W'/\Holds (λk=>keep k\/(W0.heap.size<=k/\k<W.heap.size)) W W')\/(e = .returned (.bool false)/\Jx (pre++[x]) W')) ->
  J [] W1->CallsIn Fence.wide n P gf (#[.func (.yield l) #[] #[]]++lb) W1 λe W'=>(∃ v,e = .returned v)/\((∃ xs,S xs W'/\J xs W')\/(∃ pre,Jx pre W'))
theorem ath {α:Type} {P:Program} {n:Nat} {g:Operand} {ps:Array Tmp} {assign body:Code} {Q:Exit->Act->World->Prop} {a:Act} {w:World}
  {gf:Nat} {lb:Array Value} (hg:a.eval g = .func (.func gf) #[] lb) (eg:∀ args w,(callFunc gf args).run P w = .ok (.enter gf args) w)
  {encs:α->Array Value} {own keep:Nat->Prop} {ok:List α->α->Prop} {S:List α->World->Prop} (hown:∀ k,own k\/keep k->k<w.heap.size)
  (hit:∀ W1,Turns (λ_=>False) w W1->ab7 (n-1) P gf lb encs own keep ok S (w.heap.size+1) W1)
  (hps:∀ x,(encs x).size=ps.size)
  (I:List α->World->Prop) (Ix:Code->List α->World->Prop)
  (hI:∀ pre W W',I pre W->Turns (λk=>own k\/k=w.heap.size+1) W W'->I pre W')
  (hIx:∀ c pre W W',Ix c pre W->Turns (λk=>own k\/k=w.heap.size+1) W W'->Ix c pre W')
  (h0:I [] w) (Ax:α->Act->World->Prop) (hAx:∀ x a1 W W',Ax x a1 W->Turns (λk=>k=w.heap.size+1) W W'->Ax x a1 W')
  (hassign:∀ (x:α) (W:World) (K:Act->World->Prop),w.heap.size+2<=W.heap.size->(∀ a1 W1,Turns (λ_=>False) W W1->Ax x a1 W1->K a1 W1) ->
   assign.wpIn (Fence.wide.inRound (w.heap.size+1)) (n-1-1) P (Exit.then K (λ_ _ _=>False)) { tmps:=(ps.zip (encs x)).foldl (λt (p,v)=>t.setIfInBounds p v) a.tmps,defers:=[] } W)
  (hbody:∀ (pre:List α) (x:α) (a1:Act) (W0 W:World) (N:Nat),w.heap.size+2<=W0.heap.size->I pre W0->Turns (λk=>own k\/k=w.heap.size+1) W0 W->N<=W.heap.size->ok pre x->Ax x a1 W ->
   body.wpIn (Fence.wide.inRound (w.heap.size+1)) (n-1-1) P (ahA (λk=>keep k\/(W0.heap.size<=k/\k<N)) I Ix (w.heap.size+1) w.heap.size (pre++[x]) W) a1 W)
  (hdone:∀ (xs:List α) (W:World),w.heap.size+2<=W.heap.size->S xs W->I xs W->W.heap[w.heap.size]?=some (.deferred (some []))->Q .normal { a with defers:={ target:=.collected w.heap.size,args:=#[] }::a.defers } W)
  (hstop:∀ (c:Code) (pre:List α) (W:World),w.heap.size+2<=W.heap.size->Ix c pre W->W.heap[w.heap.size]?=some (.deferred (some []))->c.wpIn Fence.wide n P Q { a with defers:={ target:=.collected w.heap.size,args:=#[] }::a.defers } W)
  (hS:∀ xs W W',S xs W->Turns (λk=>k=w.heap.size+1) W W'->S xs W') :
  (Code.rangeFunc g ps assign body).wpIn Fence.wide n P Q a w:=by
 refine wpIn_rangeFunc ?_;intro fn hfn;obtain⟨rec,hrec⟩:∃ rec:LoopState->Option Code->Loop,rec=λst pe=>{ state:=st,pending:=pe,fn,tmps:=a.tmps,params:=ps,assign,body,defers:=w.heap.size }:=⟨_,rfl⟩
 obtain⟨W1,hW1⟩:∃ W1,(w.alloc (.deferred (some []))).alloc (.loop (rec .ready none))=W1:=⟨_,rfl⟩
 have hL1:W1.heap[w.heap.size+1]?=some (.loop (rec .ready none)):=by
  rw [<- hW1];have:=World.alloc_heap_new (w.alloc (.deferred (some []))) (.loop (rec .ready none));rwa [World.size_alloc] at this
 have hK1:W1.heap[w.heap.size]?=some (.deferred (some [])):=by
  rw [<- hW1];exact(Below.heap_alloc _ _ _ (by simp)).trans (World.alloc_heap_new w _)
 have hT1:∀ o,Turns o w W1:=λo=>by rw [<- hW1];exact(Turns.alloc w _).trans (Turns.alloc _ _)
 have hI1:I [] W1:=hI _ _ _ h0 (hT1 _);refine⟨w.heap.size+1,[{ target:=.collected w.heap.size,args:=#[] }],W1,{ target:=.fn (.func gf) lb,args:=#[.func (.yield (w.heap.size+1)) #[] #[]] },W1,gf,
  #[.func (.yield (w.heap.size+1)) #[] #[]]++lb,W1,?_,?_,?_,?_,λh=>by simp [Fence.wide] at h,?_⟩
 ·rw [<- hW1,hrec];exact run_enterLoop_outer _ _ _ _ _
 ·simp only [resolve,hg];simp [go_sem]
 ·intro f' _;trivial
 ·simp [invoke,go_sem,eg]
 have hnl:¬ own (w.heap.size+1):=λh=>by have:=hown _ (.inl h);omega
 have hnd:¬ own w.heap.size:=λh=>by have:=hown _ (.inl h);omega
 refine(hit W1 (hT1 _)
  (λpre W=>I pre W/\W.heap[w.heap.size+1]?=some (.loop (rec .ready none))/\W.heap[w.heap.size]?=some (.deferred (some [])))
  (λpre W=>∃ c,Ix c pre W/\W.heap[w.heap.size+1]?=some (.loop (rec .done (some c)))/\W.heap[w.heap.size]?=some (.deferred (some [])))
  ?_ ?_ ?_ ⟨hI1,hL1,hK1⟩).mono ?_
 ·rintro pre W W' ⟨hi,hl,hk⟩ ht;exact⟨hI _ _ _ hi (ht.mono λk=>.inl),(ht.block _ (fF.1 hl).1 hnl).trans hl,(ht.block _ (fF.1 hk).1 hnd).trans hk⟩
 ·rintro pre W W' ⟨c,hi,hl,hk⟩ ht;exact⟨c,hIx _ _ _ _ hi (ht.mono λk=>.inl),(ht.block _ (fF.1 hl).1 hnl).trans hl,(ht.block _ (fF.1 hk).1 hnd).trans hk⟩
 ·-- one round
  rintro pre x W0 W ⟨hi,hl0,hk0⟩ ht hok;have hlt0:w.heap.size+1<W0.heap.size:=(fF.1 hl0).1;have hl:=(ht.block _ hlt0 hnl).trans hl0;have hk:=(ht.block _ (by omega) hnd).trans hk0;have hlt:w.heap.size+1<W.heap.size:=(fF.1 hl).1;have hy:=run_yield (P:=P) (args:=encs x) hl (by rw [hrec];exact hps x);rw [hrec] at hy;refine⟨fn,_,assign,body,hy,roundIn_of_wpIn hfn (hassign x W _ (by omega) λa1 Wa ha hax=>?_)⟩;have hla:Wa.heap[w.heap.size+1]?=some (.loop (rec .ready none)):=(ha.block _ hlt (λh=>h)).trans hl;have hka:Wa.heap[w.heap.size]?=some (.deferred (some [])):=(ha.block _ (by omega) (λh=>h)).trans hk;have JG:w.heap.size+1<Wa.heap.size:=(fF.1 hla).1;refine⟨_,run_beginRound hla (by rw [hrec]),?_⟩;obtain⟨Wb,nJ⟩:∃ Wb,Wa.putObj (w.heap.size+1) (.loop { rec .ready none with state:=.busy })=Wb:=⟨_,rfl⟩
  rw [nJ];have htb:∀ o:Nat->Prop,o (w.heap.size+1)->Turns o Wa Wb:=λo ho=>by rw [<- nJ];exact Turns.putObj _ ho _
  have hlb:Wb.heap[w.heap.size+1]?=some (.loop { rec .ready none with state:=.busy }):=by rw [<- nJ];exact World.putObj_heap_same JG
  have hkb:Wb.heap[w.heap.size]?=some (.deferred (some [])):=by rw [<- nJ];exact(World.putObj_heap_other (by omega)).trans hka
  have hsb:Wb.heap.size=Wa.heap.size:=by rw [<- nJ];simp
  refine wpIn_mono (hbody pre x a1 W0 Wb W.heap.size (by omega) hi ((ht.mono λ_ h=>.inl h).trans ((ha.mono λ_ h=>h.elim).trans (htb _ (.inr rfl)))) (by have:=ha.size;omega) hok (hAx _ _ _ _ hax (htb _ rfl))) ?_;have fin:∀ (jump:Option Code) (W3:World),Holds (λk=>k=w.heap.size+1\/k=w.heap.size) Wb W3 ->
    (Instr.endRound (w.heap.size+1) jump).run P W3 = .ok (.bool jump.isNone) (W3.putObj (w.heap.size+1) (.loop (rec (if jump.isNone then .ready else .done) jump))) /\
    (W3.putObj (w.heap.size+1) (.loop (rec (if jump.isNone then .ready else .done) jump))).heap[w.heap.size+1]?=some (.loop (rec (if jump.isNone then .ready else .done) jump)) /\
    (W3.putObj (w.heap.size+1) (.loop (rec (if jump.isNone then .ready else .done) jump))).heap[w.heap.size]?=some (.deferred (some [])):=λjump W3 hk3=>by
   have hl3:=(hk3.block _ (.inl rfl)).trans hlb;have:=run_endRound (P:=P) jump hl3;rw [hrec] at this ⊢;exact⟨this,World.putObj_heap_same (fF.1 hl3).1,(World.putObj_heap_other (by omega)).trans ((hk3.block _ (.inr rfl)).trans hkb)⟩
  rintro e a3 W3 hp
  cases e with
  | normal =>
   obtain⟨hh,hi3⟩:=hp;obtain⟨hr,hl4,hk4⟩:=fin none W3 (hh.mono λ_ h=>.inr h);refine⟨_,_,hr, .inl ⟨rfl,⟨hI _ _ _ hi3 (Turns.putObj _ (.inr rfl) _),hl4,hk4⟩,?_⟩⟩;refine⟨?_,λk ho=>?_⟩
   ·have:=ha.size;have:=hh.size;simp;omega
   have hkw:k≠w.heap.size+1/\k<W.heap.size:=by
    rcases ho with h | h
    ·have:=hown k (.inr h);omega
    omega
   rw [World.putObj_heap_other (λe=>hkw.1 e),hh.block k (.inl ho),<- nJ,World.putObj_heap_other (λe=>hkw.1 e)];exact ha.block k hkw.2 (λh=>h)
  | ret =>
   obtain⟨hh,hi3⟩:=hp;obtain⟨hr,hl4,hk4⟩:=fin (some .ret) W3 hh;exact⟨_,_,hr, .inr ⟨rfl, .ret,hIx _ _ _ _ hi3 (Turns.putObj _ (.inr rfl) _),hl4,hk4⟩⟩
  | exit id =>
   obtain⟨hh,hi3⟩:=hp;obtain⟨hr,hl4,hk4⟩:=fin (some (.exit id)) W3 hh;exact⟨_,_,hr, .inr ⟨rfl, .exit id,hIx _ _ _ _ hi3 (Turns.putObj _ (.inr rfl) _),hl4,hk4⟩⟩
  | goto t =>
   obtain⟨hh,hi3⟩:=hp;obtain⟨hr,hl4,hk4⟩:=fin (some (.goto t)) W3 hh;exact⟨_,_,hr, .inr ⟨rfl, .goto t,hIx _ _ _ _ hi3 (Turns.putObj _ (.inr rfl) _),hl4,hk4⟩⟩
  | panic ch=>exact hp.elim
  | outgrown=>exact hp.elim
 -- behind the iterator
 rintro e W2 ⟨⟨v,rfl⟩,(⟨xs,IW,hi,hl,hk⟩ | ⟨pre,c,hi,hl,hk⟩)⟩
 ·have hlt:=(fF.1 hl).1;exact⟨none,_,by have:=run_endLoop (P:=P) hl (by rw [hrec];simp);rw [hrec] at this;exact this,
   hdone xs _ (by simp;omega) (hS _ _ _ IW (Turns.putObj (own:=λk=>k=w.heap.size+1) _ rfl _)) (hI _ _ _ hi (Turns.putObj _ (.inr rfl) _)) ((World.putObj_heap_other (by omega)).trans hk)⟩
 have hlt:=(fF.1 hl).1;exact⟨some c,_,by have:=run_endLoop (P:=P) hl (by rw [hrec];simp);rw [hrec] at this;exact this,
  hstop c pre _ (by simp;omega) (hIx _ _ _ _ hi (Turns.putObj _ (.inr rfl) _)) ((World.putObj_heap_other (by omega)).trans hk)⟩
section
open Go.Shelf
attribute [local go_sem] Oper.semAt_some
def TN (x:M.Place):Array Value:=#[ah (x.1:Int), .agg #[ah (x.2.1:Int), .bool x.2.2]]
def QD (l:List UInt8) (pre:List M.Place) (x:M.Place):Prop:=∃ t,pre++x::t=M.places l
theorem axh (p:Option Addr) (w:World) :
  Calls prog 83 #[.pointer p] w λe w'=>e = .returned (.func (.func 152) #[] #[aA (w.heap.size)])/\w.alloc (.cells #[.pointer p] 131)=w':=by
 go_in
 go_wp2
 go_ret
 exact⟨rfl,rfl⟩
theorem aqj (n:Nat) (A:Nat->Addr) (B b Bn:Nat) (s:ByteArray) (hs:s.size<=16777216) (l:Nat) (W1:World)
  (hE:E A B W1) (hB:B<=b) (hb:aC W1 b 135 #[.string s]) (hBn:aC W1 Bn 131 #[aA b]) :
  ab7 (n+1) prog 152 #[aA Bn] TN (λ_=>False) (λk=>k=b\/k=Bn\/k<B) (QD s.data.toList) (λxs _=>xs=M.places s.data.toList) l W1:=by
 intro J Jx hJ hJx hY h0;have HY:=bx hY;have HJ:=bx hJ;clear hY hJ;have dU:=bx (size_eq s);refine callsIn_of_wp func152 rfl trivial ?_;simp only [ntmps152,qH,dY,iG,Nat.reduceAdd,Nat.reduceSub,rE,qW,ou,qQ,iJ,jd]
 gi_wp2
 refine wpIn_wide.2 (wp_scope_straight ((wpIn_wide (n:=n+1)).1 ?_))
 gi_wp2
 refine wpIn_label ?_
 gi_wp2
 gi_loopw [3] (λv wr=>∃ (a:Nat) (pre:List M.Place),a<=s.size/\v = ah a/\Box (pre++M.rest s.data.toList a=M.places s.data.toList)/\Box (E A B wr)/\Box (aC wr b 135 #[.string s])/\Box (aC wr Bn 131 #[aA b])/\Box (J pre wr))
  (λv _=>s.size-(intOf v).toNat)
 ·exact⟨0,[],by omega,rfl,⟨by rw [M.Qq];rfl⟩,⟨hE⟩,⟨hb⟩,⟨hBn⟩,⟨h0⟩⟩
 obtain⟨a,pre,ha,rfl,hp,hEr,hbr,Kv,hj⟩:=hrel;have c0:wr.cell? ⟨b,0,none⟩=some (.string s):=(hbr.o.cell 0).trans rfl;have c1:wr.cell? ⟨Bn,0,none⟩=some (aA b):=(Kv.o.cell 0).trans rfl;clear hE hb hBn h0
 by_cases hlt:a<s.size
 ·have HA:=bx ((callsIn_wide (n:=n)).2 (ani A B b s a wr c0 ha hs hEr.o (by have:=hbr.o.lt;omega)));have hlt':a<s.data.toList.length:=by rw [<- dU.o];exact hlt
  obtain⟨m,o,hu⟩:∃ m o,M.unit (s.data.toList.drop a)=(m,o):=⟨_,_,rfl⟩
  have KL:=M.Tv hlt';have hrc:=M.Oz s.data.toList a hlt';rw [hu] at KL hrc;simp only at KL hrc;have HU:=bx (show FY (s.data.toList.drop a) = .agg #[ah m, .bool o] by unfold FY;rw [hu]);have HP:=bx (show pre++(a,m,o)::M.rest s.data.toList (a+m)=M.places s.data.toList by rw [<- hrc];exact hp.o);have ham:a+m<=s.size:=by rw [dU.o];exact KL.2.2
  have hm1:=KL.1;have hm4:=KL.2.1;clear hlt' hu KL hrc
  gi_wp2
  refine⟨trivial,HA.o.mono ?_⟩;rintro e w1 ⟨rfl,hb1⟩;rw [HU.o];have hT1:Turns (λ_=>False) wr (w1.alloc (.cells #[ah m, .bool o] 138)):=(Turns.of_below hb1).trans (Turns.alloc _ _);have HT1:=bx hT1;have hy:=HY.o pre (a,m,o) wr _ hj.o hT1 ⟨_,HP.o⟩;unfold TN at hy;simp only at hy;obtain⟨fn,tmps,assign,body,hy,lT⟩:=hy;have rV:=bx lT;have Ut:=hb1.size;clear lT hT1 hb1
  gi_wp2
  refine rV.o.mono ?_;rintro e W3 (⟨rfl,hj3,hk3⟩ | ⟨rfl,hx3⟩)
  ·have HR3:=bx (show Box (E A B W3)/\Box (aC W3 b 135 #[.string s])/\Box (aC W3 Bn 131 #[aA b])/\Box (J (pre++[(a,m,o)]) W3) from
    ⟨⟨(hEr.o.below (HT1.o.below (by have:=hbr.o.lt;omega) (λ_ h=>h.elim))).holds hk3 (λk hk=>.inl (.inr (.inr hk)))⟩,⟨hk3.blk (HT1.o.blk hbr.o (λh=>h)) (.inl (.inl rfl))⟩,⟨hk3.blk (HT1.o.blk Kv.o (λh=>h)) (.inl (.inr (.inl rfl)))⟩,⟨hj3⟩⟩)
   have hbx:=hk3.blk (aC.new w1 138 #[ah m, .bool o]) (.inr ⟨Ut,by simp⟩);have x0:W3.cell? ⟨w1.heap.size,0,none⟩=some (ah m):=(hbx.cell 0).trans rfl;clear hj3 hk3 hbx
   gi_wp2
   go_roundw
   ·exact⟨a+m,pre++[(a,m,o)],ham,by go_num,⟨by rw [pz];exact HP.o⟩,HR3.o.1,HR3.o.2.1,HR3.o.2.2.1,HR3.o.2.2.2⟩
   simp [intOf];omega
  gi_wp2
  rw [Exit.noGoto_normal]
  go_end0
  exact⟨⟨_,rfl⟩, .inr ⟨_,hx3⟩⟩
 have Jk:=bx (show pre=M.places s.data.toList by
  have:=hp.o;rw [M.rest_end _ _ (by rw [<- dU.o];omega),oG] at this;exact this)
 gi_wp2
 rw [Exit.noGoto_normal]
 go_end0
 exact⟨⟨_,rfl⟩, .inl ⟨pre,Jk.o,hj.o⟩⟩
theorem WS (w:World) (o:Obj):ak w (w.alloc o):=aZ.alloc aU o
theorem Ns (l:List UInt8):(M.places l).length<=l.length:=by
 have h:=M.aj1 l 0 (by omega);have key:∀ (k a:Nat),l.length<=a+k->(M.rest l a).length<=l.length-a:=by
  intro k
  induction k with
  | zero=>intro a h;rw [M.rest_end l a (by omega)];simp
  | succ k ih =>
   intro a h
   by_cases hl:l.length<=a
   ·rw [M.rest_end l a hl];simp
   have hu:=M.Tv (s:=l) (a:=a) (by omega);rw [M.Oz l a (by omega),dY];have:=ih (a+(M.unit (l.drop a)).1) (by omega);omega
 have:=key l.length 0 (by omega);rw [M.Qq] at this;omega
theorem axu {l:List UInt8} {pre:List M.Place} {x:M.Place} (h:QD l pre x):pre.length<l.length:=by
 obtain⟨t,ht⟩:=h;have h1:=congrArg List.length ht;have h2:=Ns l;simp only [bC,dY] at h1;omega
theorem three (w:World) (cs cs1 cs2:Array Value) (T0 T1 T2:TypeId) :
  aC (((w.alloc (.cells cs T0)).alloc (.cells cs1 T1)).alloc (.cells cs2 T2)) w.heap.size T0 cs/\aC (((w.alloc (.cells cs T0)).alloc (.cells cs1 T1)).alloc (.cells cs2 T2)) (w.heap.size+1) T1 cs1/\aC (((w.alloc (.cells cs T0)).alloc (.cells cs1 T1)).alloc (.cells cs2 T2)) (w.heap.size+1+1) T2 cs2 /\
   ak w (((w.alloc (.cells cs T0)).alloc (.cells cs1 T1)).alloc (.cells cs2 T2))/\(((w.alloc (.cells cs T0)).alloc (.cells cs1 T1)).alloc (.cells cs2 T2)).heap.size=w.heap.size+3:=by
 refine⟨((aC.new w _ _).alloc _).alloc _,?_,?_,((aZ.alloc aU _).alloc (by simp) _).alloc (by simp;omega) _,by simp⟩
 ·have:=(aC.new (w.alloc (.cells cs T0)) T1 cs1).alloc (.cells cs2 T2)
  simpa using this
 have:=aC.new ((w.alloc (.cells cs T0)).alloc (.cells cs1 T1)) T2 cs2
 simpa using this
def fN (n:Nat):Nat:=floatOfInt .f64 (n:Int)
end
def QC {α:Type} (n:Nat) (P:Program) (gf:Nat) (lb:Array Value) (encs:α->Array Value) (own keep:Nat->Prop) (ok:List α->α->World->Prop) (S:List α->World->Prop) (l:Nat) (W1:World):Prop :=
 ∀ (J Jx:Nat->List α->World->Prop),(∀ N1 pre W W',J N1 pre W->Turns own W W'->J N1 pre W')->(∀ N1 pre W W',Jx N1 pre W->Turns (λ_=>False) W W'->Jx N1 pre W') ->
  (∀ N1 pre x W0 W,W1.heap.size<=N1->N1<=W.heap.size->J N1 pre W0->Turns own W0 W->ok pre x W->YieldAt Fence.wide (n-1) P l (encs x) W λe W'=>(e = .returned (.bool true)/\J N1 (pre++[x]) W'/\Turns (λk=>¬ (keep k\/(W1.heap.size<=k/\k<N1)\/(W0.heap.size<=k/\k<W.heap.size))) W W')\/(e = .returned (.bool false)/\Jx N1 (pre++[x]) W')) ->
  (∀ N1,W1.heap.size<=N1->J N1 [] W1)->CallsIn Fence.wide n P gf (#[.func (.yield l) #[] #[]]++lb) W1 λe W'=>(∃ v,e = .returned v)/\((∃ N1 xs,S xs W'/\J N1 xs W')\/(∃ N1 pre,Jx N1 pre W'))
theorem Nz {α:Type} {P:Program} {n:Nat} {g:Operand} {ps:Array Tmp} {assign body:Code} {Q:Exit->Act->World->Prop} {a:Act} {w:World}
  {gf:Nat} {lb:Array Value} (hg:a.eval g = .func (.func gf) #[] lb) (eg:∀ args w,(callFunc gf args).run P w = .ok (.enter gf args) w)
  {encs:α->Array Value} {own keep:Nat->Prop} {ok:List α->α->World->Prop} {S:List α->World->Prop} (hown:∀ k,own k\/keep k->k<w.heap.size)
  (hit:∀ W1,Turns (λ_=>False) w W1->QC (n-1) P gf lb encs own keep ok S (w.heap.size+1) W1)
  (hps:∀ x,(encs x).size=ps.size)
  (I:Nat->List α->World->Prop) (Ix:Nat->Code->List α->World->Prop)
  (hI:∀ N1 pre W W',I N1 pre W->Turns (λk=>own k\/k=w.heap.size+1) W W'->I N1 pre W')
  (hIx:∀ N1 c pre W W',Ix N1 c pre W->Turns (λk=>k=w.heap.size+1) W W'->Ix N1 c pre W')
  (hokS:∀ pre x W W',ok pre x W->Turns (λk=>k=w.heap.size+1) W W'->ok pre x W') (h0:∀ N1,w.heap.size+2<=N1->I N1 [] w) (Ax:α->Act->World->Prop) (hAx:∀ x a1 W W',Ax x a1 W->Turns (λk=>k=w.heap.size+1) W W'->Ax x a1 W')
  (hassign:∀ (x:α) (W:World) (K:Act->World->Prop),w.heap.size+2<=W.heap.size->(∀ a1 W1,Turns (λ_=>False) W W1->Ax x a1 W1->K a1 W1) ->
   assign.wpIn (Fence.wide.inRound (w.heap.size+1)) (n-1-1) P (Exit.then K (λ_ _ _=>False)) { tmps:=(ps.zip (encs x)).foldl (λt (p,v)=>t.setIfInBounds p v) a.tmps,defers:=[] } W)
  (hbody:∀ (N1:Nat) (pre:List α) (x:α) (a1:Act) (W0 W:World) (N:Nat),w.heap.size+2<=N1->N1<=N->w.heap.size+2<=W0.heap.size->I N1 pre W0->Turns (λk=>own k\/k=w.heap.size+1) W0 W->N<=W.heap.size->ok pre x W->Ax x a1 W ->
   body.wpIn (Fence.wide.inRound (w.heap.size+1)) (n-1-1) P (afm (λk=>keep k\/(w.heap.size+2<=k/\k<N1)\/(W0.heap.size<=k/\k<N)) (I N1) (Ix N1) (w.heap.size+1) w.heap.size (pre++[x]) W) a1 W)
  (hdone:∀ (N1:Nat) (xs:List α) (W:World),w.heap.size+2<=W.heap.size->S xs W->I N1 xs W->W.heap[w.heap.size]?=some (.deferred (some []))->Q .normal { a with defers:={ target:=.collected w.heap.size,args:=#[] }::a.defers } W)
  (hstop:∀ (N1:Nat) (c:Code) (pre:List α) (W:World),w.heap.size+2<=W.heap.size->Ix N1 c pre W->W.heap[w.heap.size]?=some (.deferred (some []))->c.wpIn Fence.wide n P Q { a with defers:={ target:=.collected w.heap.size,args:=#[] }::a.defers } W)
  (hS:∀ xs W W',S xs W->Turns (λk=>k=w.heap.size+1) W W'->S xs W') :
  (Code.rangeFunc g ps assign body).wpIn Fence.wide n P Q a w:=by
 refine wpIn_rangeFunc ?_;intro fn hfn;obtain⟨rec,hrec⟩:∃ rec:LoopState->Option Code->Loop,rec=λst pe=>{ state:=st,pending:=pe,fn,tmps:=a.tmps,params:=ps,assign,body,defers:=w.heap.size }:=⟨_,rfl⟩
 obtain⟨W1,hW1⟩:∃ W1,(w.alloc (.deferred (some []))).alloc (.loop (rec .ready none))=W1:=⟨_,rfl⟩
 have hL1:W1.heap[w.heap.size+1]?=some (.loop (rec .ready none)):=by
  rw [<- hW1];have:=World.alloc_heap_new (w.alloc (.deferred (some []))) (.loop (rec .ready none));rwa [World.size_alloc] at this
 have hK1:W1.heap[w.heap.size]?=some (.deferred (some [])):=by
  rw [<- hW1];exact(Below.heap_alloc _ _ _ (by simp)).trans (World.alloc_heap_new w _)
 have hT1:∀ o,Turns o w W1:=λo=>by rw [<- hW1];exact(Turns.alloc w _).trans (Turns.alloc _ _)
 have hs1:W1.heap.size=w.heap.size+2:=by rw [<- hW1];simp
 have hI1:∀ N1,W1.heap.size<=N1->I N1 [] W1:=λN1 h=>hI N1 _ _ _ (h0 N1 (by omega)) (hT1 _)
 refine⟨w.heap.size+1,[{ target:=.collected w.heap.size,args:=#[] }],W1,{ target:=.fn (.func gf) lb,args:=#[.func (.yield (w.heap.size+1)) #[] #[]] },W1,gf,
  #[.func (.yield (w.heap.size+1)) #[] #[]]++lb,W1,?_,?_,?_,?_,λh=>by simp [Fence.wide] at h,?_⟩
 ·rw [<- hW1,hrec];exact run_enterLoop_outer _ _ _ _ _
 ·simp only [resolve,hg];simp [go_sem]
 ·intro f' _;trivial
 ·simp [invoke,go_sem,eg]
 have hnl:¬ own (w.heap.size+1):=λh=>by have:=hown _ (.inl h);omega
 have hnd:¬ own w.heap.size:=λh=>by have:=hown _ (.inl h);omega
 refine(hit W1 (hT1 _)
  (λN1 pre W=>I N1 pre W/\W.heap[w.heap.size+1]?=some (.loop (rec .ready none))/\W.heap[w.heap.size]?=some (.deferred (some [])))
  (λN1 pre W=>∃ c,Ix N1 c pre W/\W.heap[w.heap.size+1]?=some (.loop (rec .done (some c)))/\W.heap[w.heap.size]?=some (.deferred (some [])))
  ?_ ?_ ?_ (λN1 h=>⟨hI1 N1 h,hL1,hK1⟩)).mono ?_
 ·rintro N1 pre W W' ⟨hi,hl,hk⟩ ht;exact⟨hI _ _ _ _ hi (ht.mono λk=>.inl),(ht.block _ (fF.1 hl).1 hnl).trans hl,(ht.block _ (fF.1 hk).1 hnd).trans hk⟩
 ·rintro N1 pre W W' ⟨c,hi,hl,hk⟩ ht;exact⟨c,hIx _ _ _ _ _ hi (ht.mono λk h=>h.elim),(ht.block _ (fF.1 hl).1 (λh=>h)).trans hl,(ht.block _ (fF.1 hk).1 (λh=>h)).trans hk⟩
 ·-- one round
  rintro N1 pre x W0 W hN1 Ld ⟨hi,hl0,hk0⟩ ht hok;rw [hs1] at hN1;have hlt0:w.heap.size+1<W0.heap.size:=(fF.1 hl0).1;have hl:=(ht.block _ hlt0 hnl).trans hl0;have hk:=(ht.block _ (by omega) hnd).trans hk0;have hlt:w.heap.size+1<W.heap.size:=(fF.1 hl).1;have hy:=run_yield (P:=P) (args:=encs x) hl (by rw [hrec];exact hps x);rw [hrec] at hy;refine⟨fn,_,assign,body,hy,roundIn_of_wpIn hfn (hassign x W _ (by omega) λa1 Wa ha hax=>?_)⟩;have hla:Wa.heap[w.heap.size+1]?=some (.loop (rec .ready none)):=(ha.block _ hlt (λh=>h)).trans hl;have hka:Wa.heap[w.heap.size]?=some (.deferred (some [])):=(ha.block _ (by omega) (λh=>h)).trans hk;have JG:w.heap.size+1<Wa.heap.size:=(fF.1 hla).1;refine⟨_,run_beginRound hla (by rw [hrec]),?_⟩;obtain⟨Wb,nJ⟩:∃ Wb,Wa.putObj (w.heap.size+1) (.loop { rec .ready none with state:=.busy })=Wb:=⟨_,rfl⟩
  rw [nJ];have htb:∀ o:Nat->Prop,o (w.heap.size+1)->Turns o Wa Wb:=λo ho=>by rw [<- nJ];exact Turns.putObj _ ho _
  have hlb:Wb.heap[w.heap.size+1]?=some (.loop { rec .ready none with state:=.busy }):=by rw [<- nJ];exact World.putObj_heap_same JG
  have hkb:Wb.heap[w.heap.size]?=some (.deferred (some [])):=by rw [<- nJ];exact(World.putObj_heap_other (by omega)).trans hka
  have hsb:Wb.heap.size=Wa.heap.size:=by rw [<- nJ];simp
  refine wpIn_mono (hbody N1 pre x a1 W0 Wb W.heap.size hN1 Ld (by omega) hi ((ht.mono λ_ h=>.inl h).trans ((ha.mono λ_ h=>h.elim).trans (htb _ (.inr rfl)))) (by have:=ha.size;omega) (hokS _ _ _ _ hok ((ha.mono λ_ h=>h.elim).trans (htb _ rfl))) (hAx _ _ _ _ hax (htb _ rfl))) ?_;have fin:∀ (jump:Option Code) (W3:World),Holds (λk=>k=w.heap.size+1\/k=w.heap.size) Wb W3 ->
    (Instr.endRound (w.heap.size+1) jump).run P W3 = .ok (.bool jump.isNone) (W3.putObj (w.heap.size+1) (.loop (rec (if jump.isNone then .ready else .done) jump))) /\
    (W3.putObj (w.heap.size+1) (.loop (rec (if jump.isNone then .ready else .done) jump))).heap[w.heap.size+1]?=some (.loop (rec (if jump.isNone then .ready else .done) jump)) /\
    (W3.putObj (w.heap.size+1) (.loop (rec (if jump.isNone then .ready else .done) jump))).heap[w.heap.size]?=some (.deferred (some [])):=λjump W3 hk3=>by
   have hl3:=(hk3.block _ (.inl rfl)).trans hlb;have:=run_endRound (P:=P) jump hl3;rw [hrec] at this ⊢;exact⟨this,World.putObj_heap_same (fF.1 hl3).1,(World.putObj_heap_other (by omega)).trans ((hk3.block _ (.inr rfl)).trans hkb)⟩
  rintro e a3 W3 hp
  cases e with
  | normal =>
   obtain⟨ht3,hi3⟩:=hp;have hh:Holds (λk=>k=w.heap.size+1\/k=w.heap.size) Wb W3:=Holds.zX ht3 (λk hk=>by rw [hsb];omega) (λk hk hn=>hn (.inr hk));obtain⟨hr,hl4,hk4⟩:=fin none W3 hh;refine⟨_,_,hr, .inl ⟨rfl,⟨hI _ _ _ _ hi3 (Turns.putObj _ (.inr rfl) _),hl4,hk4⟩,?_⟩⟩;have hnk:¬ (keep (w.heap.size+1)\/(W1.heap.size<=w.heap.size+1/\w.heap.size+1<N1)\/(W0.heap.size<=w.heap.size+1/\w.heap.size+1<W.heap.size)):=by
    rintro(h | h | h)
    ·have:=hown _ (.inr h);omega
    ·omega
    omega
   rw [hs1] at hnk ⊢;exact(((ha.mono λ_ h=>h.elim).trans (htb _ hnk)).trans (ht3.mono λk hk hn=>hk (.inl hn))).trans (Turns.putObj _ hnk _)
  | ret =>
   obtain⟨hh,hi3⟩:=hp;obtain⟨hr,hl4,hk4⟩:=fin (some .ret) W3 hh;exact⟨_,_,hr, .inr ⟨rfl, .ret,hIx _ _ _ _ _ hi3 (Turns.putObj (own:=λk=>k=w.heap.size+1) _ rfl _),hl4,hk4⟩⟩
  | exit id =>
   obtain⟨hh,hi3⟩:=hp;obtain⟨hr,hl4,hk4⟩:=fin (some (.exit id)) W3 hh;exact⟨_,_,hr, .inr ⟨rfl, .exit id,hIx _ _ _ _ _ hi3 (Turns.putObj (own:=λk=>k=w.heap.size+1) _ rfl _),hl4,hk4⟩⟩
  | goto t =>
   obtain⟨hh,hi3⟩:=hp;obtain⟨hr,hl4,hk4⟩:=fin (some (.goto t)) W3 hh;exact⟨_,_,hr, .inr ⟨rfl, .goto t,hIx _ _ _ _ _ hi3 (Turns.putObj (own:=λk=>k=w.heap.size+1) _ rfl _),hl4,hk4⟩⟩
  | panic ch=>exact hp.elim
  | outgrown=>exact hp.elim
 -- behind the iterator
 rintro e W2 ⟨⟨v,rfl⟩,(⟨N1,xs,IW,hi,hl,hk⟩ | ⟨N1,pre,c,hi,hl,hk⟩)⟩
 ·have hlt:=(fF.1 hl).1;exact⟨none,_,by have:=run_endLoop (P:=P) hl (by rw [hrec];simp);rw [hrec] at this;exact this,
   hdone N1 xs _ (by simp;omega) (hS _ _ _ IW (Turns.putObj (own:=λk=>k=w.heap.size+1) _ rfl _)) (hI _ _ _ _ hi (Turns.putObj _ (.inr rfl) _)) ((World.putObj_heap_other (by omega)).trans hk)⟩
 have hlt:=(fF.1 hl).1;exact⟨some c,_,by have:=run_endLoop (P:=P) hl (by rw [hrec];simp);rw [hrec] at this;exact this,
  hstop N1 c pre _ (by simp;omega) (hIx _ _ _ _ _ hi (Turns.putObj (own:=λk=>k=w.heap.size+1) _ rfl _)) ((World.putObj_heap_other (by omega)).trans hk)⟩
section
open Go.ChangeShapes Go.WideShapes Go.Deep
section
variable {H:Type} {enc:TypeId×Value->H} {W:World}
theorem addr_add (b off i:Nat):(⟨b,off,none⟩:Addr).add i=⟨b,off+i,none⟩:=by
 unfold Addr.add;by_cases h0:i=0 <;> simp [h0]
theorem fE.open {v:Value} {fuel:Nat} {x:DataW H×List MemPlace} (hf:DataW.trod enc prog W 0 (λ_=>true) true fuel 250 [v]=some x):∃ l,fE W v l:=by
 rcases open_slice_pairs underlying250 underlying389 (by kernel_rfl) rfl rfl (by kernel_rfl) (by kernel_rfl) hf with⟨h1,_⟩ | ⟨a,len,cap,m,n,V0,V1,D0,D1,P0,P1,h1,_,h2,h3,h4,_,h5⟩
 ·simp only [jm,and_true] at h1;exact⟨[], .inl ⟨h1,rfl⟩⟩
 simp only [jm,and_true] at h1;subst h1;simp only [if_true] at h4;subst h4;have key:∀ i,i<m->∃ y:N.Item,W.cell? (a.add (i*2))=some (ah y.1)/\W.cell? (a.add (i*2+1))=some (ah y.2):=by
  intro i hi;obtain⟨c0,c1,t0,t1⟩:=h5 i hi;obtain⟨k0,e0,_⟩:=DataW.trod_int underlying2 t0;obtain⟨k1,e1,_⟩:=DataW.trod_int underlying3 t1;simp only [jm,and_true] at e0 e1;exact⟨(k0,k1),by rw [c0,e0],by rw [c1,e1]⟩
 let g:Nat->N.Item:=λi=>if h:i<m then (key i h).choose else (0,0)
 have hg:∀ i,i<m->W.cell? (a.add (i*2))=some (ah (g i).1)/\W.cell? (a.add (i*2+1))=some (ah (g i).2):=by
  intro i hi;have:g i=(key i hi).choose:=by simp [g,hi]
  rw [this];exact(key i hi).choose_spec
 obtain⟨b,off,sp⟩:=a;have hlen:((List.range len).map g).length=len:=by simp
 refine⟨(List.range len).map g, .inr ⟨b,off,sp,m,by rw [hlen],by rw [hlen];exact h2,h3,λhn=>?_⟩⟩;have h0:0<len:=by
  rcases Ah len with h | h
  ·subst h;exact absurd rfl hn
  exact h
 have hc0:=(hg 0 (by omega)).1;have hsp:sp=none:=World.cell?_spot (a:=(⟨b,off,sp⟩:Addr).add (0*2)) hc0;subst hsp;refine⟨rfl,World.block_lt_of_cell? _ _ hc0,λi y hy=>?_⟩;rw [eX] at hy;obtain⟨j,hj,rfl⟩:=rC.1 hy;obtain⟨hi,rfl⟩:=dO hj;simp only [wF] at hi;simp only [List.getElem_range];have:=hg i (by omega);rw [addr_add b off,addr_add b off] at this;exact this
end
section
variable {H:Type} {enc:TypeId×Value->H} {W:World}
theorem acj {fuel:Nat} {cs:List Value} {x:DataW H×List MemPlace} (h:DataW.trod enc prog W 0 (λ_=>true) true fuel 252 cs=some x) :
  ∃ (st:Bool) (v:Value) (l:List N.Item),cs=[.bool st,v]/\fE W v l:=by
 obtain⟨y0,y1,n,rfl,hl,h0,h1⟩:=trod_struct2 underlying252 h;have hl2:cs.length=2:=hl.trans (by kernel_rfl)
 match cs,hl2 with
 | [c0,c1],_ =>
  obtain⟨st,e0,_⟩:=DataW.trod_bool underlying4 h0;obtain⟨l,hli⟩:=fE.open h1;have e0':[c0]=[.bool st]:=e0;simp only [jm,and_true] at e0';subst e0';exact⟨st,c1,l,rfl,hli⟩
theorem aoG {fuel:Nat} {cs:List Value} {x:DataW H×List MemPlace} (h:DataW.trod enc prog W 0 (λ_=>true) true fuel 254 cs=some x) :
  ∃ (y:D.Rule) (vl vr:Value),cs=[.bool y.1.1,vl, .bool y.2.1.1,vr, .bool y.2.2]/\fE W vl y.1.2/\fE W vr y.2.1.2:=by
 obtain⟨y0,y1,y2,n,rfl,hl,h0,h1,h2⟩:=trod_struct3 underlying254 h;have hl5:cs.length=5:=hl.trans (by kernel_rfl)
 match cs,hl5 with
 | [c0,c1,c2,c3,c4],_ =>
  obtain⟨sl,vl,ll,e0,hi0⟩:=acj (cs:=[c0,c1]) h0;obtain⟨sr,vr,lr,e1,hi1⟩:=acj (cs:=[c2,c3]) h1;obtain⟨br,e2,_⟩:=DataW.trod_bool underlying4 h2;have e2':[c4]=[.bool br]:=e2;simp only [jm,and_true] at e0 e1 e2';obtain⟨rfl,rfl⟩:=e0;obtain⟨rfl,rfl⟩:=e1;subst e2';exact⟨((sl,ll),(sr,lr),br),_,_,rfl,hi0,hi1⟩
theorem iD.open {fuel:Nat} {v:Value} {x:DataW H×List MemPlace} (h:DataW.trod enc prog W 0 (λ_=>true) true fuel 26 [v]=some x):∃ l,iD W v l:=by
 have ce:prog.cellsOf 254=5:=by kernel_rfl
 rcases open_slice underlying26 h with⟨h1,_⟩ | ⟨a,len,cap,m,n,Dd,Pl,h1,_,h2,h3,h4,_,h5⟩
 ·simp only [jm,and_true] at h1;exact⟨[], .inl ⟨h1,rfl⟩⟩
 simp only [jm,and_true] at h1;subst h1;simp only [if_true] at h4;subst h4;rw [ce] at h5;have key:∀ i,i<m->∃ q:D.Rule×Value×Value,(∀ j u,[Value.bool q.1.1.1,q.2.1, .bool q.1.2.1.1,q.2.2, .bool q.1.2.2][j]?=some u->W.cell? ((a.add (i*5)).add j)=some u)/\fE W q.2.1 q.1.1.2/\fE W q.2.2 q.1.2.1.2:=by
  intro i hi;obtain⟨cs',h6,h7⟩:=h5 i hi;obtain⟨_,hlen,hcell⟩:=World.cells?_some h6;obtain⟨y,vl,vr,rfl,h8,h9⟩:=aoG h7;refine⟨(y,vl,vr),λj u hu=>?_,h8,h9⟩;have hj:j<5:=(dO hu).1;rw [hcell j hj];exact hu
 obtain⟨q,hq⟩:=choose_lt key;obtain⟨b,off,sp⟩:=a;have hlen:((List.range len).map λi=>(q i).1).length=len:=by simp
 refine⟨(List.range len).map λi=>(q i).1, .inr ⟨b,off,sp,m,by rw [hlen],by rw [hlen];exact h2,h3,λhn=>?_⟩⟩;have h0:0<len:=by
  rcases Ah len with h | h
  ·subst h;exact absurd rfl hn
  exact h
 have hc0:=(hq 0 (by omega)).1 0 _ rfl;have hsp:sp=none:=World.cell?_spot (a:=((⟨b,off,sp⟩:Addr).add (0*5)).add 0) hc0;subst hsp;refine⟨rfl,World.block_lt_of_cell? _ _ hc0,λi y hy=>?_⟩;rw [eX] at hy;obtain⟨j,hj,rfl⟩:=rC.1 hy;obtain⟨hi,rfl⟩:=dO hj;simp only [wF] at hi;simp only [List.getElem_range];obtain⟨k1,k2,k3⟩:=hq i (by omega);have hc:∀ j u,[Value.bool (q i).1.1.1,(q i).2.1, .bool (q i).1.2.1.1,(q i).2.2, .bool (q i).1.2.2][j]?=some u->ay W b (off+i*5+j)=some u:=λj u hu=>by
  have:=k1 j u hu;rw [addr_add b off,addr_add b] at this;exact this
 exact⟨(q i).2.1,(q i).2.2,hc 0 _ rfl,hc 1 _ rfl,hc 2 _ rfl,hc 3 _ rfl,hc 4 _ rfl,k2,k3⟩
theorem Rn {fuel:Nat} {v:Value} {x:DataW H×List MemPlace} {t e:TypeId} (ht:prog.underlying t=some (.slice e)) (he:prog.underlying e=some (.int .i64)) (hc:prog.cellsOf e=1)
  (h:DataW.trod enc prog W 0 (λ_=>true) true fuel t [v]=some x):∃ l,aN W v l:=by
 rcases Go.ChangeShapes.open_ints ht he hc h with⟨h1,_⟩ | ⟨a,len,cap,zs,h1,_,h2,h3,h4,_,h5,_⟩
 ·simp only [jm,and_true] at h1;exact⟨[], .inl ⟨h1,rfl⟩⟩
 simp only [jm,and_true] at h1;subst h1;simp only [if_true] at h4;have hl:(zs.take len).length=len:=by rw [dw];omega
 obtain⟨b,off,sp⟩:=a;refine⟨zs.take len, .inr ⟨b,off,sp,cap,by rw [hl],by rw [hl];exact h2,h3,λhn=>?_⟩⟩;have h0:0<zs.length:=by
  rcases Ah zs.length with h | h
  ·exact absurd (by rw [nR h];simp) hn
  exact h
 have hc0:=h5 0 h0;have hsp:sp=none:=World.cell?_spot (a:=(⟨b,off,sp⟩:Addr).add 0) hc0;subst hsp;refine⟨rfl,World.block_lt_of_cell? _ _ hc0,λi x hx=>?_⟩;rw [wE] at hx
 split at hx
 ·have hi:i<zs.length:=(dO hx).1;have:=h5 i hi
  (try unfold ay at *);rw [show (⟨b,off+i,none⟩:Addr)=(⟨b,off,none⟩:Addr).add i by unfold Addr.add;by_cases h0:i=0 <;> simp [h0],this,List.getD,hx]
  rfl
 cases hx
theorem iF.open {fuel:Nat} {v:Value} {x:DataW H×List MemPlace} (h:DataW.trod enc prog W 0 (λ_=>true) true fuel 23 [v]=some x):∃ l,iF W v l:=by
 rcases open_slice1 underlying23 (by kernel_rfl) h with⟨h1,_⟩ | ⟨a,len,cap,m,n,V,Dd,Pl,h1,_,h2,h3,h4,_,h5⟩
 ·simp only [jm,and_true] at h1;exact⟨[], .inl ⟨h1,rfl⟩⟩
 simp only [jm,and_true] at h1;subst h1;simp only [if_true] at h4;subst h4;have key:∀ i,i<m->∃ q:List Int,W.cell? (a.add i)=some (V i)/\aN W (V i) q:=λi hi=>by
  obtain⟨k1,k2⟩:=h5 i hi;obtain⟨q,hq⟩:=Rn underlying22 underlying3 (by kernel_rfl) k2;exact⟨q,k1,hq⟩
 obtain⟨q,hq⟩:=choose_lt key;obtain⟨b,off,sp⟩:=a;have hlen:((List.range len).map q).length=len:=by simp
 refine⟨(List.range len).map q, .inr ⟨b,off,sp,m,by rw [hlen],by rw [hlen];exact h2,h3,λhn=>?_⟩⟩;have h0:0<len:=by
  rcases Ah len with h | h
  ·subst h;exact absurd rfl hn
  exact h
 have hc0:=(hq 0 (by omega)).1;have hsp:sp=none:=World.cell?_spot (a:=(⟨b,off,sp⟩:Addr).add 0) hc0;subst hsp;refine⟨rfl,World.block_lt_of_cell? _ _ hc0,λi y hy=>?_⟩;rw [eX] at hy;obtain⟨j,hj,rfl⟩:=rC.1 hy;obtain⟨hi,rfl⟩:=dO hj;simp only [wF] at hi;simp only [List.getElem_range];obtain⟨k1,k2⟩:=hq i (by omega);rw [addr_add b off] at k1;exact⟨_,k1,k2⟩
end
end
section
section
variable {P:Program} {W:World} {g:Nat} {t:TypeId} {cs cs':Array Value}
theorem Turns.setRow {own:Nat->Prop} (hg:own g) (cs':Array Value):Turns own W (W.setRow g cs') :=
 ⟨rfl,rfl,rfl,by simp,λk _ ho=>setRow_other W g k cs' (λe=>ho (by rw [e];exact hg))⟩
theorem Sep.setRow {ps:List Pc} (h:Sep ps W) (i:Nat) (hi:ps[i]?=some (Pc.blk g t cs)) (cs':Array Value):Sep (ps.set i (Pc.blk g t cs')) (W.setRow g cs') :=
 h.upd (own:=λk=>k=g) i hi (Turns.setRow (own:=λk=>k=g) rfl cs') (λ_ hk _=>hk) ((h.blk i hi).setRow cs') (λ_ hk=>.inl hk)
theorem aeY {o:Oper} {a:Act} {K:Act->World->Prop} {Q:Exit->Act->World->Prop} {E':Prop} {ops:Array Oper} (hgd:o.guard=none) (ty:TypeId) (x y:Operand) (ho:o.op = .store ty x y)
  (g:Nat) {cells:Array Value} (hx:a.eval x = aA g) (hy:a.eval y = .agg cells) (hg:aC W g t cs) (hi:(P.info? ty).map (·.size)=some cells.size) (hold:cs.size=cells.size) (h1:cells.all (·.oneCell')=true)
  (h:K (a.put o.dst undef) (W.setRow g cells)):if Region.wanted o (yielded ops a.tmps)=true then Oper.wp P o a W K Q else E':=by
 rw [aG (by simp [Region.wanted,hgd])];exact wp_store_row ty x y ho g cells hx hy t cs hg hi hold h1 h
end
theorem akH (a b:Value) (xs:List (List UInt8)) (w:World) (ha:cZ w a xs) (hb:cZ w b xs) (hz:xs.length<=16777216) :
  Calls prog 28 #[a,b] w λe w'=>e = .returned (.bool true)/\ak w w':=by
 have NT:=bx ha;have NC:=bx hb;obtain⟨ao,ca,rfl,-⟩:=ha.slice;obtain⟨bo,cb,rfl,-⟩:=hb.slice;obtain⟨N,hN⟩:∃ N,xs.length=N:=⟨_,rfl⟩
 rw [hN] at hz ⊢;have HN:=bx hN;clear ha hb hN
 go_in
 go_wp2
 go_loopw [5] (λi wr=>∃ k n:Nat,k<=N/\i = ah k/\wr=w.drewN n) (λi _=>N-(intOf i).toNat)
 ·exact⟨0,0,by omega,rfl,rfl⟩
 obtain⟨k,n,hk,rfl,rfl⟩:=hrel
 by_cases hlt:k<N
 ·obtain⟨x,hx⟩:=bV xs k (by rw [HN.o];exact hlt);have hne:xs≠[]:=by rintro rfl;simp at hx
  obtain⟨ba,oa,ca',ha0,ha1,ha2,pK,kQ⟩:=NT.o.get hne;rw [HN.o] at ha0 ha1;obtain⟨rfl,rfl⟩:=dQ ha0;obtain⟨bb,ob,cb',hb0,hb1,hb2,hb3,hb4⟩:=NC.o.get hne;rw [HN.o] at hb0 hb1;obtain⟨rfl,rfl⟩:=dQ hb0;have c1:=kQ k x hx;have c2:=hb4 k x hx;unfold maxLen at ha2 hb2;clear ha0 kQ hb0 hb4 hx hne
  go_wp2
  go_region
  go_wp2
  go_roundw
  ·exact⟨k+1,n+1,hlt,by go_num,rfl⟩
  simp [intOf];omega
 go_wp2
 go_ret
 exact⟨rfl,uT w n⟩
theorem aqh {P:Program} {w:World} {t ty e:TypeId} {bytes:Nat} (hP:Pushes P t e bytes) {ao:Option Addr} {n:Nat} {xs:List Value} (hv:gB w (.slice ao n n) xs) (hn:xs.length=n) (u:Value) (te:TypeId) (h1:u.oneCell'=true) (hz:n<=1000000) (hby:bytes<=1000) :
  ∃ v' w',(Builtin.append_ #[t,t] ty #[.slice ao n n, .slice (some ⟨w.heap.size,0,none⟩) 1 1]).run P (w.alloc (.cells #[u] te)) = .ok v' w'/\gB w' v' (xs++[u])/\ak w w'/\∀ g,v'.ownBlock=some g->w.heap.size<=g:=by
 obtain⟨i,z,ht,hi,hz0,hz1,hz2,hz3⟩:=hP.o;have hb:(n+1)*bytes<=1000001*1000:=zA (by omega) hby;have CX:ak w (w.alloc (.cells #[u] te)):=aZ.alloc aU _;have hm:n+1<=maxLen:=by unfold maxLen;omega
 cases ao with
 | none =>
  have hx:xs=[]:=by
   rcases hv with⟨-,h⟩ | ⟨b,off,sp,cap,h,-⟩
   ·exact h
   cases h
  subst hx;obtain rfl:n=0:=hn.symm;obtain⟨v',w',hr,ho,hg,-⟩:=run_append_own (P:=P) (w.alloc (.cells #[u] te)) w.heap.size t ty e i z 1 bytes ht hi hz0 hz1 hz2 hz3 (by decide) (aj) 0 [] (World.ownsRow_nil _ _ e 1) ⟨w.heap.size,0,none⟩ 1 1 [u] rfl (cell_one_new _ _ _) (by simpa using h1) hm (by omega) CX.size;exact⟨v',w',hr,gB.iy ho rfl,CX.trans ⟨hg.os,hg.tape,hg.output,hg.size,λk hk=>hg.block k (fC hk CX.size) (by simp [Value.ownBlock])⟩,λg hq=>(ho.lt g hq).1⟩
 | some ad =>
  have hol:∀ j x,xs[j]?=some x->(w.alloc (.cells #[u] te)).cell? (ad.add j)=some x:=by
   intro j x hj;have hne:xs≠[]:=by rintro rfl;simp at hj
   obtain⟨b,off,cap,h2,h3,h4,h5,h6⟩:=gB.get hv hne;injection h2 with h2;injection h2 with h2;subst h2
   (try unfold ay at *);rw [show (⟨b,off,none⟩:Addr).add j=⟨b,off+j,none⟩ by unfold Addr.add;by_cases h0:j=0 <;> simp [h0]]
   exact(CX.cell (p:=⟨b,off+j,none⟩) h5).trans (h6 j x hj)
  obtain⟨v',w',hr,ho,hg⟩:=run_append_arg_grows (P:=P) (w.alloc (.cells #[u] te)) t ty e i z 1 bytes ht hi hz0 hz1 hz2 hz3 (by decide) ad n n xs (by omega) hol ⟨w.heap.size,0,none⟩ 1 1 [u] rfl (cell_one_new _ _ _) (by omega) hm (by omega);exact⟨v',w',hr,gB.iy ho (by simp [hn]),CX.trans ⟨hg.os,hg.tape,hg.output,hg.size,λk hk=>hg.block k (fC hk CX.size) (by simp)⟩,λg hq=>bP CX.size (ho.lt g hq).1⟩
theorem apn {P:Program} {w0:World} {ops:Array Oper} {o:Oper} {a:Act} {K:Act->World->Prop} {Q:Exit->Act->World->Prop} {E':Prop} (hgd:o.guard=none) (s x:Operand) (t:TypeId)
  (ho:o.op = .call { callee:=.builtin .append,args:=#[s,x],argTypes:=#[t,t] }) {e te:TypeId} {bytes:Nat} (hP:Pushes P t e bytes) {ao:Option Addr} {n:Nat} {xs:List Value} (hv:gB w0 (.slice ao n n) xs) (hn:xs.length=n) {u:Value}
  (hs:a.eval s = .slice ao n n) (hx:a.eval x = .slice (some ⟨w0.heap.size,0,none⟩) 1 1) (h1:u.oneCell'=true) (hz:n<=1000000) (hby:bytes<=1000)
  (h:∀ v' w',gB w' v' (xs++[u])->ak w0 w'->K (a.put o.dst v') w') :
  if Region.wanted o (yielded ops a.tmps)=true then Oper.wp P o a (w0.alloc (.cells #[u] te)) K Q else E':=by
 rw [aG (by simp [Region.wanted,hgd])];obtain⟨v',w',hr,r1,r2,-⟩:=aqh (ty:=o.type) hP hv hn u te h1 hz hby;unfold Oper.wp execOp;simp only [ho,resolve,invoke,builtin,Sem.run_bind,Sem.run_pure,Result.andThen_ok,List.map_toArray,iR,oV,hs,hx,hr];exact h v' w' r1 r2
end
section
attribute [local go_sem] Oper.semAt_some
theorem gB.part {w:World} {b off cap:Nat} {xs:List Value} (h:gB w (.slice (some ⟨b,off,none⟩) xs.length cap) xs) (i j cap':Nat) (hij:i<=j) (hj:j<=xs.length) (hc:j-i<=cap') (hz:cap'<=maxLen) (ad:Addr) (had:i<j->ad=(⟨b,off,none⟩:Addr).add i) :
  gB w (.slice (some ad) (j-i) cap') ((xs.take j).drop i):=by
 have hl:((xs.take j).drop i).length=j-i:=by rw [gy,dw,sH hj]
 rcases h with⟨h1,h2⟩ | ⟨b2,off2,sp2,cap2,h1,h2,h3,h4⟩
 ·cases h1
 injection h1 with e1 e2 e3;injection e1 with e1;injection e1 with e4 e5 e6;subst e4 e5 e6;obtain⟨ab,ao,as_⟩:=ad;refine .inr ⟨ab,ao,as_,cap',by rw [hl],by rw [hl];exact hc,hz,λhn=>?_⟩;have hlt:i<j:=by
  rcases gZ i j with h | h
  ·exact h
  exact absurd (nR (by rw [hl];omega)) hn
 have hxs:xs≠[]:=by rintro rfl;simp at hj;omega
 obtain⟨-,h5,h6⟩:=h4 hxs;have hd:=had hlt;unfold Addr.add at hd;have e7:ab=b/\ao=off+i/\as_=none:=by
  by_cases h0:i=0
  ·subst h0;simp at hd;exact⟨hd.1,by omega,hd.2.2⟩
  simp [h0] at hd;exact⟨hd.1,by omega,hd.2.2⟩
 obtain⟨rfl,rfl,rfl⟩:=e7;refine⟨rfl,h5,λk x hx=>?_⟩;rw [xY,wE] at hx
 split at hx
 ·have:=h6 (i+k) x hx;rw [show off+i+k=off+(i+k) by omega];exact this
 cases hx
theorem apP (a:Option Addr) (N cap i j:Nat) (xs:List Value) (hij:i<=j) (hj:j<=N) (hN:xs.length=N) (hz:N<=100000) {w0:World} (h0:gB w0 (.slice a N cap) xs) :
  ∃ Y,(∀ W,(Instr.slice 49 (.slice a N cap) (some (ah (i:Int))) (some (ah (j:Int))) none).run prog W = .ok Y W)/\∀ W,gB W (.slice a N cap) xs->gB W Y ((xs.take j).drop i):=by
 subst hN
 rcases h0 with⟨h1,h2⟩ | ⟨b,off,sp,cap2,h1,h2,h3,h4⟩
 ·injection h1 with e1 e2 e3;subst e1 e3 h2;obtain rfl:j=0:=by simpa using hj
  obtain rfl:i=0:=by omega
  exact⟨aj,λW=>by go_simp,λW _=>by simpa using (show gB W (aj) [] from .inl ⟨rfl,rfl⟩)⟩
 injection h1 with e1 e2 e3;subst e1 e3
 by_cases hn:xs=[]
 ·subst hn;obtain rfl:j=0:=by simpa using hj
  obtain rfl:i=0:=by omega
  refine⟨.slice (some ⟨b,off,sp⟩) 0 cap,λW=>?_,λW _=>?_⟩
  ·unfold maxLen at h3
   by_cases hc:cap=0
   ·subst hc;go_simp
   go_simp
  exact .inr ⟨b,off,sp,cap,by simp,by simp,h3,λh=>absurd (by simp) h⟩
 obtain⟨rfl,h5,h6⟩:=h4 hn;have hk:j<=cap:=by omega
 by_cases hc:cap=i
 ·obtain rfl:j=i:=by omega
  obtain rfl:cap=j:=hc;refine⟨.slice (some ⟨b,off,none⟩) (cap-cap) (cap-cap),λW=>?_,λW hW=>hW.part cap cap _ hij hj (by omega) (by omega) _ (λh=>by omega)⟩;unfold maxLen at h3;go_simp
 refine⟨.slice (some ((⟨b,off,none⟩:Addr).add i)) (j-i) (cap-i),λW=>?_,λW hW=>hW.part i j _ hij hj (by omega) (by omega) _ (λ_=>rfl)⟩;unfold maxLen at h3;go_simp
theorem amq (a:Option Addr) (N cap i:Nat) (xs:List Value) (hij:i<=N) (hN:xs.length=N) (hz:N<=100000) {w0:World} (h0:gB w0 (.slice a N cap) xs) :
  ∃ Y,(∀ W,(Instr.slice 49 (.slice a N cap) (some (ah (i:Int))) none none).run prog W = .ok Y W)/\∀ W,gB W (.slice a N cap) xs->gB W Y (xs.drop i):=by
 subst hN
 rcases h0 with⟨h1,h2⟩ | ⟨b,off,sp,cap2,h1,h2,h3,h4⟩
 ·injection h1 with e1 e2 e3;subst e1 e3 h2;obtain rfl:i=0:=by simpa using hij
  exact⟨aj,λW=>by go_simp,λW _=>.inl ⟨rfl,rfl⟩⟩
 injection h1 with e1 e2 e3;subst e1 e3
 by_cases hn:xs=[]
 ·subst hn;obtain rfl:i=0:=by simpa using hij
  refine⟨.slice (some ⟨b,off,sp⟩) 0 cap,λW=>?_,λW _=>?_⟩
  ·unfold maxLen at h3
   by_cases hc:cap=0
   ·subst hc;go_simp
   go_simp
  exact .inr ⟨b,off,sp,cap,by simp,by simp,h3,λh=>absurd (by simp) h⟩
 obtain⟨rfl,h5,h6⟩:=h4 hn;have hd:xs.drop i=(xs.take xs.length).drop i:=by rw [mQ]
 rw [hd]
 by_cases hc:cap=i
 ·obtain rfl:i=xs.length:=by omega
  refine⟨.slice (some ⟨b,off,none⟩) (xs.length-xs.length) (cap-xs.length),λW=>?_,λW hW=>hW.part xs.length xs.length _ (by omega) (by omega) (by omega) (by omega) _ (λh=>by omega)⟩;unfold maxLen at h3;go_simp
 refine⟨.slice (some ((⟨b,off,none⟩:Addr).add i)) (xs.length-i) (cap-i),λW=>?_,λW hW=>hW.part i xs.length _ hij (by omega) (by omega) (by omega) _ (λ_=>rfl)⟩;unfold maxLen at h3;go_simp
theorem abO (a:Option Addr) (N cap i j:Nat) (xs:List (List UInt8)) (hij:i<=j) (hj:j<=N) (hN:xs.length=N) (hz:N<=100000) {w0:World} (h0:cZ w0 (.slice a N cap) xs) :
  ∃ Y,(∀ W,(Instr.slice 49 (.slice a N cap) (some (ah (i:Int))) (some (ah (j:Int))) none).run prog W = .ok Y W)/\∀ W,cZ W (.slice a N cap) xs->cZ W Y ((xs.take j).drop i):=by
 obtain⟨Y,h1,h2⟩:=apP a N cap i j (xs.map gW) hij hj (by rw [aV];exact hN) hz h0;exact⟨Y,h1,λW hW=>by have h:=h2 W hW;rw [<- List.map_take,<- List.map_drop] at h;exact h⟩
theorem agZ (a:Option Addr) (N cap i:Nat) (xs:List (List UInt8)) (hij:i<=N) (hN:xs.length=N) (hz:N<=100000) {w0:World} (h0:cZ w0 (.slice a N cap) xs) :
  ∃ Y,(∀ W,(Instr.slice 49 (.slice a N cap) (some (ah (i:Int))) none none).run prog W = .ok Y W)/\∀ W,cZ W (.slice a N cap) xs->cZ W Y (xs.drop i):=by
 obtain⟨Y,h1,h2⟩:=amq a N cap i (xs.map gW) hij (by rw [aV];exact hN) hz h0;exact⟨Y,h1,λW hW=>by have h:=h2 W hW;rw [<- List.map_drop] at h;exact h⟩
theorem avb (a:Option Addr) (N cap c:Nat) (hc:c<=N) (hN:N<=cap) (W:World) :
  (Instr.slice 49 (.slice a N cap) none (some (ah (c:Int))) (some (ah (c:Int)))).run prog W = .ok (.slice a c c) W:=by
 cases a with
 | none =>
  by_cases h0:c=0
  ·subst h0;go_simp
  go_simp;intro h;omega
 | some a =>
  by_cases h0:c=0
  ·subst h0;go_simp
  go_simp;intro h;omega
end
section
section
variable {P:Program} {md:Region.Mode} {ops:Array Oper} {Q:Exit->Act->World->Prop} {k:Nat} {F:World->Prop}
theorem anp {i:Nat} {oi:Oper} {v:Value} (hi:ops[i]?=some oi) (hsel:∀ (j:Nat) (o:Oper) cs b,ops[j]?=some o->o.op≠.select cs b)
  (hQ:∀ c a w,Q (.panic c) (a.put oi.dst v) w->Q (.panic c) a w) (hF:∀ w,F w) :
  ∀ (fuel:Nat) (listed:Array Bool) (a:Act) (w:World),
   (∀ j oj,ops[j]?=some oj->j≠i->listed.getD j true=false->(∀ e∈oj.after,Region.binds md e=true->e.on≠i)->oi.apart ops oj=true) ->
   i∈Region.ready md ops listed->YieldsIf P ops F oi v a ->
   lX P md ops Q k F fuel (listed.setIfInBounds i true) (a.put oi.dst v) w->lX P md ops Q k F (fuel+1) listed a w:=by
 intro fuel
 induction fuel with
 | zero =>
  intro listed a w _ hr hy H;refine⟨λh=>(by rw [h] at hr;cases hr),λj hj=>?_⟩
  by_cases hji:j=i
  ·subst hji;exact YieldsIf.wpOp hi hy (hF w) ⟨λ_=>hF w,H⟩
  have:=ready_mono hj hji;rw [H.1] at this
  cases this
 | succ fuel ih =>
  intro listed a w hfree hr hy H;refine⟨λh=>(by rw [h] at hr;cases hr),λj hj=>?_⟩
  by_cases hji:j=i
  ·subst hji;exact YieldsIf.wpOp hi hy (hF w) ⟨λ_=>hF w,H⟩
  have h1:=H.2 j (ready_mono hj hji);obtain⟨hjun,oj,hoj,hall⟩:=mem_ready.1 hj;have hnot:∀ e∈oj.after,Region.binds md e=true->e.on≠i:=λe he hb heq=>by
   have h1:=hall e he hb;have h0:=(mem_ready.1 hr).1;rw [heq] at h1
   rcases gZ i listed.size with h' | h'
   ·simp [h'] at h0 h1;rw [h0] at h1;cases h1
   simp [Array.getElem?_eq_none h'] at h1
  have h2:=wpOp_putIf hoj (hfree j oj hoj hji hjun hnot) (λcs b=>hsel i oi cs b hi) (λcs b=>hsel j oj cs b hoj) hQ hy h1;have hfree':∀ k ok,ops[k]?=some ok->k≠i->(listed.setIfInBounds j true).getD k true=false ->
    (∀ e∈ok.after,Region.binds md e=true->e.on≠i)->oi.apart ops ok=true:=λk ok hk hki hun hno=>by
   refine hfree k ok hk hki ?_ hno
   by_cases hjk:j=k
   ·subst hjk;exact hjun
   rw [getD_set_ne true hjk] at hun;exact hun
  refine wpOp_mono (λa' w' h3=>?_) h2;refine⟨λ_=>hF _,ih (listed.setIfInBounds j true) a' w' hfree' (ready_mono hr (Ne.symm hji)) h3.1 ?_⟩;rw [Array.setIfInBounds_comm _ _ hji];exact h3.2.2
theorem kU (i:Nat) {oi:Oper} (v:Value) {Q:Exit->Act->World->Prop} {fuel:Nat} {listed:Array Bool} {a:Act} {w:World} (hi:ops[i]?=some oi)
  (hy:∀ w,(execOp a.eval oi).run P w = .ok (.value v) w) (h:lX P md ops (NoPanic Q) k (λ_=>True) fuel (listed.setIfInBounds i true) (a.put oi.dst v) w)
  (hs:(Region.noSelect ops&&Region.free md ops listed i&&(Region.ready md ops listed).contains i)=true:=by kernel_rfl)
  (hw:Region.wanted oi (yielded ops a.tmps)=true:=by kernel_rfl):lX P md ops (NoPanic Q) k (λ_=>True) (fuel+1) listed a w:=by
 simp only [dD] at hs;obtain⟨⟨h1,h2⟩,h3⟩:=hs;exact anp hi (Region.noSelect_spec h1) (λ_ _ _ h=>h) (λ_=>trivial) fuel listed a w (Region.free_spec hi h2) (by simpa using h3) (Or.inl ⟨hw,λw _=>hy w⟩) h
theorem abZ:∀ (fuel:Nat) (listed:Array Bool) (a:Act) (w:World),listed.getD k true=true->lX P md ops Q k (λ_=>True) fuel listed a w->lX P md ops Q k F fuel listed a w
 | 0,_,_,_,_,h=>h
 | fuel+1,listed,a,w,hl,h=>⟨h.1,λi hi=>wpOp_mono (λa' w' h'=>by
   have hl':(listed.setIfInBounds i true).getD k true=true:=by
    by_cases e:i=k
    ·subst e;rw [Array.getD_eq_getD_getElem?,Array.getElem?_setIfInBounds];simp
     split <;> rfl
    rw [getD_set_ne true e];exact hl
   exact⟨λh9=>(by rw [hl'] at h9;cases h9),abZ fuel _ a' w' hl' h'.2⟩) (h.2 i hi)⟩
theorem kW {fuel:Nat} {listed:Array Bool} {a:Act} {w:World} (h:lX P md ops Q k (λ_=>True) fuel listed a w) (hl:listed.getD k true=true:=by kernel_rfl):lX P md ops Q k F fuel listed a w:=abZ fuel listed a w hl h
end
section
variable {P:Program} {ops:Array Oper} {Q:Exit->Act->World->Prop} {md:Region.Mode}
theorem aqW {l n:Nat} {row:String} {args:Array Value} {w:World} {R:Value->World->Prop} (h:Rows P row args w R):RowsIn (Fence.wide.inRound l) n P row args w R :=
 λc cs _=>let ⟨v,w',r,s⟩:=h c cs;⟨v,w',r,stepsIn_wide.2 s⟩
theorem av7 {l n i:Nat} {K:Act->World->Prop} {a:Act} {w:World} (hno:¬ LetsOut Q) (hd:∀ o:Oper,ops[i]?=some o->∀ c,o.op≠.defer c) (h:wpOp P ops Q i K a w):wpOpIn (Fence.wide.inRound l) n P ops Q i K a w:=by
 unfold wpOp at h;unfold wpOpIn
 cases ho:ops[i]? with
 | none=>rw [ho] at h;exact h
 | some o =>
  rw [ho] at h;simp only at h ⊢
  by_cases hw:Region.wanted o (yielded ops a.tmps)=true
  ·rw [aG hw] at h ⊢
   rcases h with h | ⟨-,h⟩
   ·refine⟨λ_ _=>trivial,?_⟩;rw [Fence.inRound_round,Oper.semAt_some l a.eval o (hd o ho)];unfold Oper.wp at h
    cases hr:(execOp a.eval o).run P w with
    | ok v w' =>
     rw [hr] at h
     cases v with
     | value v=>exact h
     | skip=>exact h
     | defer d=>exact h
     | enter f args=>exact⟨λh=>by simp [Fence.wide] at h,CallsIn.inRound l ((callsIn_wide.2 h).mono (λe w' h=>by cases e <;> exact h))⟩
     | row r args=>exact⟨λh=>by simp [Fence.wide] at h,aqW h⟩
     | round=>exact h.elim
     | _=>exact h
    | halt c w' =>
     rw [hr] at h
     cases c <;> exact h
   exact absurd h hno
  rw [aF hw] at h ⊢;exact⟨λ_ _=>trivial,h⟩
theorem ahQ {l n:Nat} (hno:¬ LetsOut Q) (hd:∀ (i:Nat) (o:Oper),ops[i]?=some o->∀ c,o.op≠.defer c):∀ (fuel:Nat) (listed:Array Bool) (a:Act) (w:World),wpAny P md ops Q fuel listed a w->wpAnyIn (Fence.wide.inRound l) n P md ops Q fuel listed a w
 | 0,_,_,_,h=>h
 | fuel+1,_,_,_,h=>⟨h.1,λi hi=>wpOpIn_mono (λ_ _ h'=>ahQ hno hd fuel _ _ _ h') (av7 hno (hd i) (h.2 i hi))⟩
def Xy (ops:Array Oper):Bool:=ops.all λo=>match o.op with | .defer _=>false | _=>true
theorem ajK (h:Xy ops=true):∀ (i:Nat) (o:Oper),ops[i]?=some o->∀ c,o.op≠.defer c:=by
 intro i o ho c hc;unfold Xy at h;have h1:=Array.all_eq_true'.1 h o (Array.mem_of_getElem? ho);rw [hc] at h1
 cases h1
theorem aqk {l n id:Nat} {a:Act} {w:World} (k:Nat) (F:World->Prop) (hm:P.follows .mixedOrders=true) (hd:Xy ops=true) (hno:¬ LetsOut Q)
  (h:lX P .any ops (NoPanic Q) k F ops.size (Array.replicate ops.size false) a w.drew):(Code.region id ops true).wpIn (Fence.wide.inRound l) n P Q a w :=
 wpIn_mono (wpIn_region_any hm (ahQ (Q:=NoPanic Q) (λ⟨a,w,h⟩=>hno ⟨a,w,h⟩) (ajK hd) _ _ _ _ (aaP _ _ _ _ h))) NoPanic.imp
end
section
variable {P:Program} {w0:World} {o:Oper} {a:Act} {K:Act->World->Prop} {Q:Exit->Act->World->Prop} {E':Prop} {ops:Array Oper}
theorem agT (hgd:o.guard=none) (s x:Operand) (t:TypeId)
  (ho:o.op = .call { callee:=.builtin .append,args:=#[s,x],argTypes:=#[t,t] }) {base:Nat} {e te:TypeId} {bytes:Nat} (hP:Pushes P t e bytes) {ps:List Pc} (hS:Sep ps w0) (k:Nat) {v u:Value} {n:Nat} {xs:List Value}
  (hk:ps[k]?=some (Pc.row base e 1 v n xs)) (hs:a.eval s=v) (hx:a.eval x = .slice (some ⟨w0.heap.size,0,none⟩) 1 1) (h1:u.oneCell'=true) (hn:n<=1000000000) (hby:bytes<=1000) (hbase:base<=w0.heap.size)
  (h:∀ v' w',Sep (ps.set k (Pc.row base e 1 v' (n+1) (xs++[u]))) w'->(∃ g c,v' = .slice (some ⟨g,0,none⟩) (n+1) c/\n+1<=c/\c<=9223372036854775807)->Turns (λq=>v.ownBlock=some q) w0 w'->(v'.ownBlock=v.ownBlock\/v'.ownBlock=some (w0.heap.size+1))->K (a.put o.dst v') w') :
  if Region.wanted o (yielded ops a.tmps)=true then Oper.wp P o a (w0.alloc (.cells #[u] te)) K Q else E':=by
 obtain⟨i,z,ht,hi,hz0,hz1,hz2,hz3⟩:=hP.o;have hb:(n+1)*bytes<=1000000001*1000:=zA (by omega) hby;rw [aG (by simp [Region.wanted,hgd])];obtain⟨v',w',hr,hown,hgrow,-,hat⟩:=run_append_own_at (P:=P) (w0.alloc (.cells #[u] te)) base t o.type e i z 1 bytes ht hi hz0 hz1 hz2 hz3 (by decide) v n xs ((hS.row k hk).alloc _) ⟨w0.heap.size,0,none⟩ 1 1 [u] rfl (cell_one_new _ _ _) (by simpa using h1) (by unfold maxLen;omega) (by omega) (by simp;omega);unfold Oper.wp execOp;simp only [ho,resolve,invoke,builtin,Sem.run_bind,Sem.run_pure,Result.andThen_ok,List.map_toArray,iR,oV,hs,hx,hr];have hS':=(hS.alloc (.cells #[u] te)).grow k hk hgrow hown (by
  rcases hat with e1 | e1
  ·exact .inl e1
  exact .inr (λq hq=>by rw [e1] at hq;simp only [iQ] at hq;omega))
 refine h v' w' hS' ?_ ((Turns.alloc w0 (.cells #[u] te)).trans (Hw hgrow (λ_ hq=>hq))) (by simpa using hat)
 rcases hown.2 with⟨_,h2⟩ | ⟨g,cap,cur,h2,_,_,h3,h4,_⟩
 ·omega
 exact⟨g,cap,h2,h3,by unfold maxLen at h4;omega⟩
end
end
end Go.Proofs.YtdponihkpomheaaGreatDoor
