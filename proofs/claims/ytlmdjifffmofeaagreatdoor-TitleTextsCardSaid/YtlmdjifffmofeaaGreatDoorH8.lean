/- Texts of this claim. -/
import Derived.Maps.OwnIn
import Derived.Laws.AppendOwnNone
import Derived.Carry
import Derived.Test.YtlmdjifffmofeaaGreatDoorH7

set_option maxHeartbeats 4000000
set_option maxRecDepth 10000
namespace Go.Proofs.YtlmdjifffmofeaaGreatDoor
section
open Go.RowKit Go.Shelf
attribute [local go_sem] Oper.semAt_some
theorem aa2 (set c:Int) (b:Bool) (h:N.kU set c=b) (w:World):Calls Tryz.prog 218 #[.int .i64 set, .int .i64 c] w λe w'=>e = .returned (.bool b)/\w=w':=by
 rw [<- h];exact RQ set c w
theorem Xa (p:Option Addr) (set a:Int) (w:World) :
  Calls Tryz.prog 230 #[.pointer p, .int .i64 set, .int .i64 a] w λe w'=>e = .returned (.func (.func 233) #[] #[.pointer (some ⟨w.heap.size+1+1,0,none⟩), .pointer (some ⟨w.heap.size,0,none⟩), .pointer (some ⟨w.heap.size+1,0,none⟩)]) /\
   ((w.alloc (.cells #[.pointer p] 326)).alloc (.cells #[.int .i64 set] 2)).alloc (.cells #[.int .i64 a] 3)=w':=by
 go_enter Tryz.func230,Tryz.ntmps230
 go_wp2
 go_ret
 exact⟨rfl,rfl⟩
def uP (a k:Nat):List Nat:=(List.range k).map (a+1+·)
theorem anu (a k:Nat):uP a (k+1)=uP a k++[a+k+1]:=by
 unfold uP;rw [List.range_succ,List.map_append];simp;omega
theorem UC (a k:Nat):(uP a k).length=k:=by simp [uP]
def Xg (w:World) (b:Nat):Nat:=match w.cell? ⟨b,0,none⟩ with | some v=>(intOf v).toNat | none=>0
theorem Zv {w:World} {b k:Nat} {t:TypeId} (h:ak w b t #[.int .i64 (k:Int)]):Xg w b=k:=by
 unfold Xg;rw [(h.cell 0).trans (show _=some (Value.int .i64 (k:Int)) from rfl)];simp [intOf]
theorem TK (n:Nat) (W0:World) (mb:Nat) (cv:Value) (cs:List Int) (hM:ak W0 mb 315 #[cv]) (hC:ay W0 cv cs) (hz:cs.length<=16777216) (set:Int) (a0:Nat) (ha0:a0<=cs.length) (ba bY bs:Nat)
  (hd:W0.heap.size<=ba) (hdy:ba≠bY) (hds:ba≠bs) (l:Nat) (W1:World)
  (hA:Agree W0 W1) (h1:ak W1 ba 3 #[.int .i64 (a0:Int)]) (h2:ak W1 bY 326 #[.pointer (some ⟨mb,0,none⟩)]) (h3:ak W1 bs 2 #[.int .i64 set]) :
  Qk (n+1) Tryz.prog 233 #[.pointer (some ⟨ba,0,none⟩), .pointer (some ⟨bY,0,none⟩), .pointer (some ⟨bs,0,none⟩)] (λx:Nat=>#[.int .i64 x]) (λk=>k=ba) (y7 W0 ba bY bs) (λpre x=>x=a0+pre.length+1/\pre.length<N.rl cs set a0)
   (λxs _=>xs=uP a0 (N.rl cs set a0)) l W1:=by
 intro J Jx hJ hJx hY h0;have HY:=bx hY;have HJ:=bx hJ;have HM:=bx hM;have HC:=bx hC;have Iz:=N.ML cs set a0 ha0;obtain⟨r,hr⟩:∃ r,r=N.rl cs set a0:=⟨_,rfl⟩
 rw [<- hr] at Iz;have HR:=bx hr;obtain⟨ao,cap,rfl⟩:=hC.slice;clear hY hJ hM hC hr;refine callsIn_of_wp Tryz.func233 rfl trivial ?_;simp only [Tryz.ntmps233,List.size_toArray,List.length_cons,List.length_nil,Nat.reduceAdd,Nat.reduceSub,Array.replicate_succ,Array.replicate_zero,List.push_toArray,List.append_toArray,List.nil_append,List.cons_append]
 gi_wp2
 refine wpIn_wide.2 (wp_scope_straight ((wpIn_wide (n:=n+1)).1 ?_))
 gi_wp2
 refine wpIn_label ?_
 gi_wp2
 gi_loopw [] (λwr=>∃ k:Nat,k<=r/\Box (Agree W0 wr)/\Box (ak wr ba 3 #[.int .i64 ((a0+k:Nat):Int)])/\Box (ak wr bY 326 #[.pointer (some ⟨mb,0,none⟩)])/\Box (ak wr bs 2 #[.int .i64 set])/\Box (J (uP a0 k) wr))
  (λwr=>a0+r-Xg wr ba)
 case atStart=>exact⟨0,Nat.zero_le _,⟨hA⟩,⟨h1⟩,⟨h2⟩,⟨h3⟩,⟨h0⟩⟩
 case round =>
  obtain⟨k,hk,ha,hba,hby,hbs,hj⟩:=hrel;obtain⟨p,hp⟩:∃ p,p=a0+k:=⟨_,rfl⟩
  rw [<- hp] at hba;have HP:=bx hp;have HAT:=bx (Zv hba.o);have c0:wr.cell? ⟨ba,0,none⟩=some (.int .i64 ((p:Nat):Int)):=(hba.o.cell 0).trans rfl;have c1:wr.cell? ⟨bY,0,none⟩=some (.pointer (some ⟨mb,0,none⟩)):=(hby.o.cell 0).trans rfl;have c2:wr.cell? ⟨bs,0,none⟩=some (.int .i64 set):=(hbs.o.cell 0).trans rfl;have c3:wr.cell? ⟨mb,0,none⟩=some (.slice ao cs.length cap):=((show ak wr mb 315 #[.slice ao cs.length cap] from(ha.o.block mb HM.o.lt).trans HM.o).cell 0).trans rfl;clear h0 h1 h2 h3 hA;have hpr:p<=a0+r:=by omega
  clear hp
  by_cases hlt:p<cs.length
  ·obtain⟨c,hc⟩:∃ c,cs[p]?=some c:=⟨_,List.getElem?_eq_getElem hlt⟩
   obtain⟨g,off,cap2,hg1,hg2,hg3,hg4,hg5⟩:=HC.o.get (by rintro rfl;simp at hlt);obtain⟨rfl,rfl⟩:ao=some ⟨g,off,none⟩/\cap=cap2:=by injection hg1 with h1 h2 h3;exact⟨h1,h3⟩
   have hcy:wr.cell? ⟨g,off+p,none⟩=some (.int .i64 c):=(World.cell?_of_block (ha.o.block g hg4)).trans (hg5 _ c hc);have hd1:decide (((p:Nat):Int)<(cs.length:Int))=true:=decide_eq_true (by omega);unfold maxLen at hg3;have Fp:=bx hc;clear hg1 hg5 hc
   by_cases hkr:k<r
   ·have HAS:=bx (show N.kU set c=true by
     obtain⟨d,h5,h6⟩:=N.XE (HR.o▸hkr);rw [<- HP.o] at h5;have:=Fp.o.symm.trans h5
     cases this;exact h6)
    have HYW:=bx (λW2 (ht:Turns (λk=>k=ba) wr W2)=>HY.o (uP a0 k) (p+1) W2 (HJ.o _ _ _ hj.o ht) ⟨by rw [UC,HP.o],by rw [UC,<- HR.o];exact hkr⟩)
    gi_wp2
    refine wpIn_wide.2 ?_
    go_quiet ((go_at_call 218;exact fV (aa2 set c true HAS.o _)))
    have IJ:=bx (Turns.of_below (own:=λk=>k=ba) (below_drewN (Below.refl wr.heap.size wr) nq));have hy0:=HYW.o (wr.drewN nq) IJ.o;simp only [show ((p+1:Nat):Int)=(p:Int)+1 by omega] at hy0;obtain⟨fn,tmps,assign,body,hy,uO⟩:=hy0;have Cb:=bx uO;clear uO
    gi_wp2
    refine Cb.o.mono ?_;rintro e W3 (⟨rfl,hj3,hk3⟩ | ⟨rfl,hx3⟩)
    ·have NU:ak W3 ba 3 #[.int .i64 ((p:Nat):Int)]:=(hk3.block _ (.inr (.inl rfl))).trans hba.o;have HB3:=bx NU;have AQ:=bx hj3;have xQ:=bx hk3;have x0:W3.cell? ⟨ba,0,none⟩=some (.int .i64 ((p:Nat):Int)):=(NU.cell 0).trans rfl;have f0:=NU.frozen 0;clear hj3 hk3 NU
     gi_wp2
     go_roundw
     case rel =>
      have hT:=Turns.setCell (own:=λk=>k=ba) W3 (p:=⟨ba,0,none⟩) rfl (.int .i64 ((p:Nat)+1:Int));refine⟨k+1,hkr,⟨?_⟩,⟨?_⟩,⟨?_⟩,⟨?_⟩,⟨?_⟩⟩
      ·exact(((ha.o.turns IJ.o (λ_ h=>by omega)).holds xQ.o (λ_ h=>.inl h))).turns hT (λ_ h=>by omega)
      ·have:=HB3.o.bP 0 (.int .i64 ((p:Nat)+1:Int));rw [show ((a0+(k+1):Nat):Int)=(p:Int)+1 by have:=HP.o;omega];exact this
      ·exact hT.blk ((xQ.o.block _ (.inr (.inr (.inl rfl)))).trans hby.o) (by omega)
      ·exact hT.blk ((xQ.o.block _ (.inr (.inr (.inr rfl)))).trans hbs.o) (by omega)
      ·rw [anu,<- HP.o];exact HJ.o _ _ _ AQ.o hT
     case measure =>
      have h5:=Zv (k:=p+1) (HB3.o.bP 0 (.int .i64 ((p:Nat)+1:Int)));have h6:=HAT.o;have h7:=HP.o;omega
    ·gi_wp2
     rw [Exit.noGoto_normal]
     go_end0
     exact⟨⟨_,rfl⟩, .inr ⟨_,hx3⟩⟩
   ·obtain rfl:k=r:=by have:=HP.o;omega
    have HAS:=bx (show N.kU set c=false by
     obtain⟨d,h5,h6⟩:=N.ahB (cs:=cs) (s:=set) (a:=a0) (by rw [<- HR.o,<- HP.o];exact hlt);rw [<- HR.o,<- HP.o] at h5;have:=Fp.o.symm.trans h5
     cases this;exact h6)
    gi_wp2
    refine wpIn_wide.2 ?_
    go_quiet ((go_at_call 218;exact fV (aa2 set c false HAS.o _)))
    have IJ:=bx (Turns.of_below (own:=λk=>k=ba) (below_drewN (Below.refl wr.heap.size wr) nq))
    gi_wp2
    rw [Exit.noGoto_normal]
    go_end0
    exact⟨⟨_,rfl⟩, .inl ⟨_,by rw [HR.o],HJ.o _ _ _ hj.o IJ.o⟩⟩
  ·have hkr:k=r:=by have:=HP.o;omega
   have hd1:decide (((p:Nat):Int)<(cs.length:Int))=false:=decide_eq_false (by omega)
   gi_wp2
   refine wpIn_wide.2 ?_
   go_quiet (fail)
   have IJ:=bx (Turns.of_below (own:=λk=>k=ba) (below_drewN (Below.refl wr.heap.size wr) nq))
   gi_wp2
   rw [Exit.noGoto_normal]
   go_end0
   exact⟨⟨_,rfl⟩, .inl ⟨_,by rw [hkr,HR.o],HJ.o _ _ _ hj.o IJ.o⟩⟩
theorem four (w:World) (c0 c1 c2 c3:Array Value) (T0 T1 T2 T3:TypeId) :
  ak ((((w.alloc (.cells c0 T0)).alloc (.cells c1 T1)).alloc (.cells c2 T2)).alloc (.cells c3 T3)) w.heap.size T0 c0/\ak ((((w.alloc (.cells c0 T0)).alloc (.cells c1 T1)).alloc (.cells c2 T2)).alloc (.cells c3 T3)) (w.heap.size+1) T1 c1 /\
   ak ((((w.alloc (.cells c0 T0)).alloc (.cells c1 T1)).alloc (.cells c2 T2)).alloc (.cells c3 T3)) (w.heap.size+1+1) T2 c2/\ak ((((w.alloc (.cells c0 T0)).alloc (.cells c1 T1)).alloc (.cells c2 T2)).alloc (.cells c3 T3)) (w.heap.size+1+1+1) T3 c3 /\
   Below w.heap.size w ((((w.alloc (.cells c0 T0)).alloc (.cells c1 T1)).alloc (.cells c2 T2)).alloc (.cells c3 T3))/\((((w.alloc (.cells c0 T0)).alloc (.cells c1 T1)).alloc (.cells c2 T2)).alloc (.cells c3 T3)).heap.size=w.heap.size+4:=by
 refine⟨(((ak.new w _ _).alloc _).alloc _).alloc _,?_,?_,?_,((((Below.refl _ _).alloc (Nat.le_refl _) _).alloc (by simp) _).alloc (by simp;omega) _).alloc (by simp;omega) _,by simp⟩
 ·have:=((ak.new (w.alloc (.cells c0 T0)) T1 c1).alloc (.cells c2 T2)).alloc (.cells c3 T3)
  simpa using this
 ·have:=(ak.new ((w.alloc (.cells c0 T0)).alloc (.cells c1 T1)) T2 c2).alloc (.cells c3 T3)
  simpa using this
 ·have:=ak.new (((w.alloc (.cells c0 T0)).alloc (.cells c1 T1)).alloc (.cells c2 T2)) T3 c3
  simpa using this
theorem Gf (w:World) (o:Obj):Below w.heap.size w (w.alloc o):=(Below.refl _ _).alloc (Nat.le_refl _) o
theorem agh {w:World} {g:Nat} {T:TypeId} {x:Int} (h:ak w g T #[.int .i64 x]):ay w (.slice (some ⟨g,0,none⟩) 1 1) [x] :=
 .inr ⟨g,0,none,1,rfl,by simp,by unfold maxLen;omega,λ_=>⟨rfl,h.lt,λi y hy=>by
  match i,hy with
  | 0,hy =>
   simp only [List.getElem?_cons_zero,Option.some.injEq] at hy;subst hy;exact(h.cell 0).trans rfl
  | i+1,hy=>simp at hy⟩⟩
theorem Qu {P:Program} {fn:Func} {p:Tmp} {ty:TypeId} (h:fn.results=#[.cell p ty]) (tmps:Array Value) (w:World) (g:Nat) (v:Value) (hp:tmps.getD p undef = .pointer (some ⟨g,0,none⟩)) (hc:w.cell? ⟨g,0,none⟩=some v)
  (ha:(isAgg ty).run P w = .ok false w):(results fn tmps).run P w = .ok v w:=by
 have hp':tmps[p]?.getD undef = .pointer (some ⟨g,0,none⟩):=by simpa using hp
 simp [results,h,hp',asAddr,loadVar,ha,hc]
theorem afh (mb:Nat) (cv:Value) (cs:List Int) (set:Int) (a:Nat) (w:World) (hM:ak w mb 315 #[cv]) (hC:ay w cv cs) (hz:cs.length<=16777216) (ha:a<=cs.length) :
  Calls Tryz.prog 225 #[.pointer (some ⟨mb,0,none⟩), .int .i64 set, .int .i64 a] w λe w'=>(∃ v,e = .returned v/\ay w' v (jM cs (set,0) a))/\Below w.heap.size w w':=by
 have HM:=bx hM;have HC:=bx hC;have hml:=hM.lt;clear hM hC;refine(callsIn_wide (n:=9)).1 (callsIn_of_wp_marks Tryz.func225 rfl trivial (wpIn_wide.2 ?_));simp only [Tryz.ntmps225,List.size_toArray,List.length_cons,List.length_nil,Nat.reduceAdd,Nat.reduceSub,Array.replicate_succ,Array.replicate_zero,List.push_toArray,List.append_toArray,List.nil_append,List.cons_append];go_wp2_with (go_at_call 230;refine(Xa _ _ _ _).mono ?_;rintro e w' ⟨rfl,rfl⟩)
 obtain⟨hb0,hb1,hb2,hb3,hbL,hsz⟩:=four w #[.slice none 0 0] #[.pointer (some ⟨mb,0,none⟩)] #[.int .i64 set] #[.int .i64 (a:Int)] 23 326 2 3;generalize (((w.alloc (.cells #[.slice none 0 0] 23)).alloc (.cells #[.pointer (some ⟨mb,0,none⟩)] 326)).alloc (.cells #[.int .i64 set] 2)).alloc (.cells #[.int .i64 (a:Int)] 3)=wL at hb0 hb1 hb2 hb3 hbL hsz ⊢;have pJ:Agree w wL:=.of_below hbL;refine(wpIn_wide (n:=9)).1 (Jo (α:=Nat) (gf:=233) (lb:=#[.pointer (some ⟨w.heap.size+1+1+1,0,none⟩), .pointer (some ⟨w.heap.size+1,0,none⟩), .pointer (some ⟨w.heap.size+1+1,0,none⟩)]) rfl (enters_of Tryz.func233 (by kernel_rfl) rfl)
  (encs:=λx:Nat=>#[.int .i64 x]) (own:=λk=>k=w.heap.size+1+1+1) (keep:=y7 w (w.heap.size+1+1+1) (w.heap.size+1) (w.heap.size+1+1)) (ok:=λpre x=>x=a+pre.length+1/\pre.length<N.rl cs set a) (S:=λxs _=>xs=uP a (N.rl cs set a))
  (λk hk=>by unfold y7 at hk;omega)
  (λW1 ht=>TK 7 w mb cv cs HM.o HC.o hz set a ha (w.heap.size+1+1+1) (w.heap.size+1) (w.heap.size+1+1) (by omega) (by omega) (by omega) _ W1 (pJ.turns ht (λ_ h=>h.elim)) (ht.blk hb3 (λh=>h)) (ht.blk hb1 (λh=>h)) (ht.blk hb2 (λh=>h)))
  (λ_=>rfl)
  (λpre W=>pre=[]/\ak W w.heap.size 23 #[.slice none 0 0]/\Below w.heap.size w W)
  (λc _ W=>c = .ret/\N.rl cs set a≠0/\(∃ g,ak W w.heap.size 23 #[.slice (some ⟨g,0,none⟩) 1 1]/\ak W g 3 #[.int .i64 ((a+1:Nat):Int)]/\wL.heap.size+2<=g)/\Below w.heap.size w W) ?hI ?hIx ⟨rfl,hb0,hbL⟩
  (λx a1 _=>a1={ tmps:=#[.pointer (some ⟨mb,0,none⟩), .int .i64 set, .int .i64 (a:Int),undef,undef,undef, .pointer (some ⟨w.heap.size,0,none⟩), .int .i64 (x:Int), .pointer (some ⟨mb,0,none⟩), .pointer (some ⟨mb,0,none⟩), .pointer (some ⟨mb,0,none⟩), .int .i64 set, .int .i64 (a:Int), .func (.func 233) #[] #[.pointer (some ⟨w.heap.size+1+1+1,0,none⟩), .pointer (some ⟨w.heap.size+1,0,none⟩), .pointer (some ⟨w.heap.size+1+1,0,none⟩)], .int .i64 (x:Int),undef,undef],defers:=[] })
  (λ_ _ _ _ h _=>h) ?assign ?body ?done ?stop (λ_ _ _ h _=>h))
 case hI =>
  rintro pre W W' ⟨h1,h2,h3⟩ ht;exact⟨h1,ht.blk h2 (by omega),h3.trans (ht.below h3.size (λk hk=>by omega))⟩
 case hIx =>
  rintro c pre W W' ⟨h1,h2,⟨g,h3,h4,h5⟩,h6⟩ ht;exact⟨h1,h2,⟨g,ht.blk h3 (by omega),ht.blk h4 (by omega),h5⟩,h6.trans (ht.below h6.size (λk hk=>by omega))⟩
 case assign =>
  intro x W K _ hK
  gi_wp2
  exact hK _ _ (Turns.refl _ _) rfl
 case body =>
  rintro pre x a1 W hW ⟨rfl,h1,h2⟩ ⟨rfl,hr⟩ rfl;have HB:=bx h1;have H2:=bx h2;have HR:=bx hr;have l0:=h1.lt;have c0:W.cell? ⟨w.heap.size,0,none⟩=some (.slice none 0 0):=(h1.cell 0).trans rfl;have f0:=h1.frozen 0;clear h1 h2 hr hb0 hb1 hb2 hb3 hbL pJ
  gi_wp2
  have hT1:=Turns.setCell (own:=λk=>k=w.heap.size) W (p:=⟨w.heap.size,0,none⟩) rfl (.slice (some ⟨W.heap.size,0,none⟩) 1 1);have hT:Turns (λk=>k=w.heap.size) W _:=hT1.trans (Turns.alloc _ (.cells #[.int .i64 ((a:Int)+1)] 3));have hn:=ak.new (W.setCell ⟨w.heap.size,0,none⟩ (.slice (some ⟨W.heap.size,0,none⟩) 1 1)) 3 #[.int .i64 ((a:Int)+1)];rw [show (W.setCell ⟨w.heap.size,0,none⟩ (.slice (some ⟨W.heap.size,0,none⟩) 1 1)).heap.size=W.heap.size by simp [World.setCell]] at hn;exact⟨Holds.Az hT (λk hk=>by omega) (λk hk=>by omega),rfl,by have:=HR.o;simp at this;omega,⟨W.heap.size,(HB.o.bP 0 _).alloc _,hn,hW⟩,H2.o.trans (hT.below H2.o.size (λk hk=>by omega))⟩
 case stop =>
  rintro c pre W hW ⟨rfl,hr,⟨g,h1,h2,h4⟩,h3⟩ hD;have HD:=bx hD;have H1:=bx h1;have H2:=bx h2;have H3:=bx h3;have HR:=bx hr;clear h1 h2 h3 hr hD hb0 hb1 hb2 hb3 hbL pJ;refine wpIn_wide.2 ?_;go_wp2_with fail;refine⟨by simp, .inl ⟨_,_,rfl,run_takeDeferred HD.o,?_⟩⟩;have hT:Turns (λk=>k=wL.heap.size) W (W.putObj wL.heap.size (.deferred none)):=Turns.putObj (own:=λk=>k=wL.heap.size) W rfl (.deferred none);refine⟨_,Qu Tryz.results225 _ _ w.heap.size _ rfl (((hT.blk H1.o (by omega)).cell 0).trans rfl) (Tryz.isAgg23 _),⟨_,rfl,?_⟩,H3.o.trans (hT.below H3.o.size (λk hk=>by omega))⟩;have hx:jM cs (set,0) a=[((a+1:Nat):Int)]:=by
   unfold jM N.nx;rw [if_pos rfl,if_neg (by simpa using HR.o)]
   rfl
  rw [hx];exact agh (hT.blk H2.o (by omega))
 case done =>
  intro xs W hW hS ⟨h1,h2,h3⟩ hD;have hr:N.rl cs set a=0:=by
   have:=congrArg List.length hS;rw [h1,UC] at this;exact this.symm
  have HR:=bx hr;have H2:=bx h2;have H3:=bx h3;have HD:=bx hD;have c0:W.cell? ⟨w.heap.size,0,none⟩=some (.slice none 0 0):=(h2.cell 0).trans rfl;have f0:=h2.frozen 0;clear h1 h2 h3 hD hS hr hb0 hb1 hb2 hb3 hbL pJ;go_wp2_with fail;have hS:=Turns.setCell (own:=λk=>k=w.heap.size) W (p:=⟨w.heap.size,0,none⟩) rfl (.slice none 0 0);refine⟨by simp, .inl ⟨_,_,rfl,run_takeDeferred ((hS.block _ (by omega) (by omega)).trans HD.o),?_⟩⟩;have hT:Turns (λk=>k=wL.heap.size) (W.setCell ⟨w.heap.size,0,none⟩ (.slice none 0 0)) _:=Turns.putObj (own:=λk=>k=wL.heap.size) _ rfl (.deferred none);refine⟨_,Qu Tryz.results225 _ _ w.heap.size (.slice none 0 0) rfl (((hT.blk (H2.o.bP 0 _) (by omega)).cell 0).trans rfl) (Tryz.isAgg23 _),⟨_,rfl,?_⟩,
   (H3.o.trans (hS.below H3.o.size (λk hk=>by omega))).trans (hT.below (by have:=H3.o.size;have:=hS.size;omega) (λk hk=>by omega))⟩
  have hx:jM cs (set,0) a=[]:=by
   unfold jM N.nx;rw [if_pos rfl,if_pos (by simpa using HR.o)]
   rfl
  rw [hx];exact .nil
def CO (xs:List Nat):List Value:=xs.map λn:Nat=>Value.int .i64 (n:Int)
theorem VR (xs:List Nat) (x:Nat):CO (xs++[x])=CO xs++[.int .i64 (x:Int)]:=by simp [CO]
theorem O8:(Tryz.prog.info? 3).map (λi=>(i.zero,i.size,i.bytes))=some (some (.int .i64 0),1,8):=by kernel_rfl
theorem aaE (cs:List Int) (set:Int) (a:Nat):N.nx cs (set,1) a=a::uP a (N.rl cs set a):=by
 unfold N.nx uP;rw [if_neg (by simp),if_pos rfl,List.range_succ_eq_map,List.map_cons,List.map_map]
 congr 1
 apply List.map_congr_left
 intro x _;simp;omega
theorem Ru {w:World} {base n:Nat} {v:Value} {xs:List Nat} (h:w.ownsRow base 3 1 v n (CO xs)) (hn:n=xs.length):ay w v (xs.map λn:Nat=>(n:Int)) :=
 ay.dL (base:=base) (n:=n) (T:=3) (by rw [List.map_map];exact h) (by simp [hn])
theorem afO (mb:Nat) (cv:Value) (cs:List Int) (set:Int) (a:Nat) (w:World) (hM:ak w mb 315 #[cv]) (hC:ay w cv cs) (hz:cs.length<=1000000) (ha:a<=cs.length) :
  Calls Tryz.prog 226 #[.pointer (some ⟨mb,0,none⟩), .int .i64 set, .int .i64 a] w λe w'=>(∃ v,e = .returned v/\ay w' v (jM cs (set,1) a))/\Below w.heap.size w w':=by
 have HM:=bx hM;have HC:=bx hC;have hml:=hM.lt;clear hM hC;refine(callsIn_wide (n:=9)).1 (callsIn_of_wp_marks Tryz.func226 rfl trivial (wpIn_wide.2 ?_));simp only [Tryz.ntmps226,List.size_toArray,List.length_cons,List.length_nil,Nat.reduceAdd,Nat.reduceSub,Array.replicate_succ,Array.replicate_zero,List.push_toArray,List.append_toArray,List.nil_append,List.cons_append];go_wp2_with (go_at_call 230;refine(Xa _ _ _ _).mono ?_;rintro e w' ⟨rfl,rfl⟩)
 obtain⟨hb0,hb1,hb2,hb3,hbL,hsz⟩:=four (w.alloc (.cells #[.int .i64 (a:Int)] 3)) #[.slice (some ⟨w.heap.size,0,none⟩) 1 1] #[.pointer (some ⟨mb,0,none⟩)] #[.int .i64 set] #[.int .i64 (a:Int)] 23 326 2 3;have hr0:=(((((World.ownsRow_lit (base:=w.heap.size) (e:=3) (size:=1) w #[.int .i64 (a:Int)] 1 (Nat.le_refl _) (by unfold maxLen;omega) rfl).alloc (.cells #[.slice (some ⟨w.heap.size,0,none⟩) 1 1] 23)).alloc (.cells #[.pointer (some ⟨mb,0,none⟩)] 326)).alloc (.cells #[.int .i64 set] 2)).alloc (.cells #[.int .i64 (a:Int)] 3))
 have hbL:=(Gf w (.cells #[.int .i64 (a:Int)] 3)).trans (hbL.mono (Gf w _).size);rw [show (w.alloc (.cells #[.int .i64 (a:Int)] 3)).heap.size=w.heap.size+1 from by simp] at hb0 hb1 hb2 hb3 hsz;generalize ((((w.alloc (.cells #[.int .i64 (a:Int)] 3)).alloc (.cells #[.slice (some ⟨w.heap.size,0,none⟩) 1 1] 23)).alloc (.cells #[.pointer (some ⟨mb,0,none⟩)] 326)).alloc (.cells #[.int .i64 set] 2)).alloc (.cells #[.int .i64 (a:Int)] 3)=wL at hb0 hb1 hb2 hb3 hbL hsz hr0 ⊢;have pJ:Agree w wL:=.of_below hbL;have Iz:=N.ML cs set a ha;refine(wpIn_wide (n:=9)).1 (Jo (α:=Nat) (gf:=233) (lb:=#[.pointer (some ⟨w.heap.size+1+1+1+1,0,none⟩), .pointer (some ⟨w.heap.size+1+1,0,none⟩), .pointer (some ⟨w.heap.size+1+1+1,0,none⟩)]) rfl (enters_of Tryz.func233 (by kernel_rfl) rfl)
  (encs:=λx:Nat=>#[.int .i64 x]) (own:=λk=>k=w.heap.size+1+1+1+1) (keep:=y7 w (w.heap.size+1+1+1+1) (w.heap.size+1+1) (w.heap.size+1+1+1)) (ok:=λpre x=>x=a+pre.length+1/\pre.length<N.rl cs set a) (S:=λxs _=>xs=uP a (N.rl cs set a))
  (λk hk=>by unfold y7 at hk;omega)
  (λW1 ht=>TK 7 w mb cv cs HM.o HC.o (by omega) set a ha (w.heap.size+1+1+1+1) (w.heap.size+1+1) (w.heap.size+1+1+1) (by omega) (by omega) (by omega) _ W1 (pJ.turns ht (λ_ h=>h.elim)) (ht.blk hb3 (λh=>h)) (ht.blk hb1 (λh=>h)) (ht.blk hb2 (λh=>h)))
  (λ_=>rfl)
  (λpre W=>(∃ v,ak W (w.heap.size+1) 23 #[v]/\W.ownsRow w.heap.size 3 1 v (pre.length+1) (CO (a::pre))/\∀ g,v.ownBlock=some g->g=w.heap.size\/wL.heap.size+2<=g)/\Below w.heap.size w W)
  (λ_ _ _=>False) ?hI (λ_ _ _ _ h _=>h) ⟨⟨_,hb0,hr0,λg hg=>by cases hg;exact .inl rfl⟩,hbL⟩
  (λx a1 _=>a1={ tmps:=#[.pointer (some ⟨mb,0,none⟩), .int .i64 set, .int .i64 (a:Int),undef,undef,undef, .slice none 0 0, .pointer (some ⟨w.heap.size+1,0,none⟩), .int .i64 (x:Int), .int .i64 (a:Int), .slice (some ⟨w.heap.size,0,none⟩) 1 1, .pointer (some ⟨mb,0,none⟩), .pointer (some ⟨mb,0,none⟩), .pointer (some ⟨mb,0,none⟩), .int .i64 set, .int .i64 (a:Int), .func (.func 233) #[] #[.pointer (some ⟨w.heap.size+1+1+1+1,0,none⟩), .pointer (some ⟨w.heap.size+1+1,0,none⟩), .pointer (some ⟨w.heap.size+1+1+1,0,none⟩)], .int .i64 (x:Int),undef,undef,undef,undef,undef],defers:=[] })
  (λ_ _ _ _ h _=>h) ?assign ?body ?done (λ_ _ _ _ h _=>h.elim) (λ_ _ _ h _=>h))
 case hI =>
  rintro pre W W' ⟨⟨v,h1,h2,h3⟩,h4⟩ ht;exact⟨⟨v,ht.blk h1 (by omega),ht.row h2 (λk hk=>by have:=h3 k hk;omega),h3⟩,h4.trans (ht.below h4.size (λk hk=>by omega))⟩
 case assign =>
  intro x W K _ hK
  gi_wp2
  exact hK _ _ (Turns.refl _ _) rfl
 case body =>
  rintro pre x a1 W hW ⟨⟨v,h1,h2,h3⟩,h4⟩ ⟨hx,hr⟩ rfl;have hlt:=h2.lt;have hs0:=h4.size;have hc:W.cell? ⟨w.heap.size+1,0,none⟩=some v:=(h1.cell 0).trans rfl;have hf:=h1.frozen 0;have HV:=bx h1;have HL:=bx hlt;have H3:=bx h3;have H4:=bx h4;have HR:=bx h2;have gU:=bx (VR (a::pre) x);obtain⟨i0,hi,hz0,hz1,hz2⟩:=info_parts O8;have fM:=bx (show v.ownBlock≠some (w.heap.size+1) from λe=>by rcases h3 _ e with h | h <;> omega);have hpl:pre.length<1000000:=by omega
  obtain⟨og,oc,rfl⟩:=ownsRow_succ h2;clear h1 h2 h3 h4 hb0 hb1 hb2 hb3 hbL hr hr0 hlt pJ hx
  gi_wp2_with (gi_at_builtin;refine wpListIn_append_own_at _ rfl _ _ 23 rfl w.heap.size 3 i0 (.int .i64 0) 1 8 Tryz.underlying23 hi hz0 hz1 hz2 rfl (by decide) (.slice (some ⟨og,0,none⟩) (pre.length+1) oc) _ _ rfl (HR.o.alloc _) ⟨W.heap.size,0,none⟩ 1 1 [.int .i64 (x:Int)] rfl rfl (cell_one_new _ _ _) (by simp [Value.oneCell']) (by unfold maxLen;omega) (by omega) (by simp;omega) ?_;intro v' w1 hown' hgrow _ hat;obtain⟨g',cap',rfl⟩:=ownsRow_succ hown';have hv1:=(HV.o.alloc _).grown hgrow (Ne.symm fM.o);have hc1:=hv1.cell 0;have hf1:=hv1.frozen 0;simp at hc1)
  have hg':g'=og\/g'=W.heap.size+1:=by
   rcases hat with h | h
   ·left;simpa [Value.ownBlock] using h
   ·right;simpa [Value.ownBlock] using h
  have hog:=H3.o og rfl;have Vu:=(HL.o og rfl).2;have hT:Turns (λk=>k=og\/k=w.heap.size+1) W (w1.setCell ⟨w.heap.size+1,0,none⟩ (.slice (some ⟨g',0,none⟩) (pre.length+1+1) cap')) :=
   ((Turns.alloc W _).trans (Hu hgrow (λk hk=>.inl (by simpa [Value.ownBlock] using hk.symm)))).trans (Turns.setCell _ (.inr rfl) _)
  refine⟨Holds.Az hT (λk hk=>by unfold y7 at hk;omega) (λk hk h=>by unfold y7 at hk;omega),⟨_,hv1.bP 0 _,?_,λg hg=>?_⟩,H4.o.trans (hT.below H4.o.size (λk hk=>by omega))⟩
  ·rw [<- List.cons_append,gU.o];have:=(Turns.setCell (own:=λk=>k=w.heap.size+1) w1 (p:=⟨w.heap.size+1,0,none⟩) rfl (.slice (some ⟨g',0,none⟩) (pre.length+1+1) cap')).row hown' (λk hk=>by simp [Value.ownBlock] at hk;omega)
   simpa using this
  ·have:g=g':=by simpa [Value.ownBlock] using hg.symm
   omega
 case done =>
  intro xs W hW hS ⟨⟨v,h1,h2,h3⟩,h4⟩ hD;have c0:W.cell? ⟨w.heap.size+1,0,none⟩=some v:=(h1.cell 0).trans rfl;have H2:=bx h4;have HD:=bx hD;have HR:=bx h2;have HS:=bx hS;have H3:=bx h3;clear h1 h2 h3 h4 hD hb0 hb1 hb2 hb3 hbL hS hr0 pJ;go_wp2_with fail;refine⟨by simp, .inl ⟨_,_,rfl,run_takeDeferred HD.o,?_⟩⟩;refine⟨_,results_tmp rfl _ _ _,?_⟩;have hr:=(Turns.putObj (own:=λk=>k=wL.heap.size) W rfl (.deferred none)).row HR.o (λk hk=>by rcases H3.o k hk with h | h <;> omega);refine⟨⟨v,rfl,?_⟩,H2.o.trans ((Turns.putObj (own:=λk=>k=wL.heap.size) W rfl _).below H2.o.size (λk hk=>by omega))⟩;have hi:=Ru hr (by simp);rw [HS.o,<- aaE] at hi;exact hi
def evens (a:Nat) (xs:List Nat):List Nat:=xs.filter λn=>(n-a) % 2==0
theorem akl (a:Nat) (xs:List Nat):(evens a xs).length<=xs.length:=List.length_filter_le _ _
theorem adX (a:Nat) (xs:List Nat) (x:Nat) (h:(x-a) % 2=0):evens a (xs++[x])=evens a xs++[x]:=by simp [evens,h]
theorem ahr (a:Nat) (xs:List Nat) (x:Nat) (h:(x-a) % 2≠0):evens a (xs++[x])=evens a xs:=by simp [evens,h]
theorem anQ (cs:List Int) (set:Int) (a:Nat):N.nx cs (set,2) a=a::evens a (uP a (N.rl cs set a)):=by
 have h:=aaE cs set a;unfold N.nx at h ⊢;rw [if_neg (by simp),if_pos rfl] at h;rw [if_neg (by simp),if_neg (by simp)];have e:(λd:Nat=>d % 2==0)=((λn:Nat=>(n-a) % 2==0)∘(a+·)):=by
  funext d
  simp
 rw [e,<- List.filter_map,h];simp [evens]
theorem Zy (w:World) (cs cs1 cs2:Array Value) (T0 T1 T2:TypeId) :
  ak (((w.alloc (.cells cs T0)).alloc (.cells cs1 T1)).alloc (.cells cs2 T2)) w.heap.size T0 cs/\ak (((w.alloc (.cells cs T0)).alloc (.cells cs1 T1)).alloc (.cells cs2 T2)) (w.heap.size+1) T1 cs1/\ak (((w.alloc (.cells cs T0)).alloc (.cells cs1 T1)).alloc (.cells cs2 T2)) (w.heap.size+1+1) T2 cs2 /\
   Below w.heap.size w (((w.alloc (.cells cs T0)).alloc (.cells cs1 T1)).alloc (.cells cs2 T2))/\(((w.alloc (.cells cs T0)).alloc (.cells cs1 T1)).alloc (.cells cs2 T2)).heap.size=w.heap.size+3:=by
 refine⟨((ak.new w _ _).alloc _).alloc _,?_,?_,(((Below.refl _ _).alloc (Nat.le_refl _) _).alloc (by simp) _).alloc (by simp;omega) _,by simp⟩
 ·have:=(ak.new (w.alloc (.cells cs T0)) T1 cs1).alloc (.cells cs2 T2)
  simpa using this
 ·have:=ak.new ((w.alloc (.cells cs T0)).alloc (.cells cs1 T1)) T2 cs2
  simpa using this
theorem alP (mb:Nat) (cv:Value) (cs:List Int) (set:Int) (a:Nat) (w:World) (hM:ak w mb 315 #[cv]) (hC:ay w cv cs) (hz:cs.length<=1000000) (ha:a<=cs.length) :
  Calls Tryz.prog 227 #[.pointer (some ⟨mb,0,none⟩), .int .i64 set, .int .i64 a] w λe w'=>(∃ v,e = .returned v/\ay w' v (jM cs (set,2) a))/\Below w.heap.size w w':=by
 have HM:=bx hM;have HC:=bx hC;have hml:=hM.lt;clear hM hC;refine(callsIn_wide (n:=9)).1 (callsIn_of_wp_marks Tryz.func227 rfl trivial (wpIn_wide.2 ?_));simp only [Tryz.ntmps227,List.size_toArray,List.length_cons,List.length_nil,Nat.reduceAdd,Nat.reduceSub,Array.replicate_succ,Array.replicate_zero,List.push_toArray,List.append_toArray,List.nil_append,List.cons_append];go_wp2_with fail;obtain⟨hba,hb7,hb8,NW,hszA⟩:=Zy w #[.int .i64 (a:Int)] #[.int .i64 (a:Int)] #[.slice (some ⟨w.heap.size+1,0,none⟩) 1 1] 3 3 23;have QE:=(World.ownsRow_lit (base:=w.heap.size) (e:=3) (size:=1) (w.alloc (.cells #[.int .i64 (a:Int)] 3)) #[.int .i64 (a:Int)] 1 (by simp) (by unfold maxLen;omega) rfl).alloc (.cells #[.slice (some ⟨w.heap.size+1,0,none⟩) 1 1] 23);rw [show (w.alloc (.cells #[.int .i64 (a:Int)] 3)).heap.size=w.heap.size+1 from by simp] at QE;generalize ((w.alloc (.cells #[.int .i64 (a:Int)] 3)).alloc (.cells #[.int .i64 (a:Int)] 3)).alloc (.cells #[.slice (some ⟨w.heap.size+1,0,none⟩) 1 1] 23)=wA at hba hb7 hb8 NW hszA QE ⊢;refine wp_region_still_tail 5 (by kernel_rfl) (by kernel_rfl) ?_;simp only [List.take_succ_cons,List.take_zero,List.drop_succ_cons,List.drop_zero]
 change wpStill _ _ (World.drew wA) (λa'=>wpList _ _ _ _ a' (World.drew wA)) _ _
 have hTd:Turns (λ_=>False) wA wA.drew:=Turns.drew wA;obtain⟨wB,hwB⟩:∃ wB,wB=wA.drew:=⟨_,rfl⟩
 rw [<- hwB] at hTd ⊢;have hba:=hTd.blk hba (λh=>h);have hb8:=hTd.blk hb8 (λh=>h);have SY:=hTd.row QE (λ_ _ h=>h);have hbB:Below w.heap.size w wB:=NW.trans (hTd.below NW.size (λ_ h=>h.elim));have Vl:wB.heap.size=w.heap.size+3:=by rw [hwB];exact hszA
 have c5:wB.cell? ⟨w.heap.size,0,none⟩=some (.int .i64 (a:Int)):=(hba.cell 0).trans rfl;have ah3:=bx Vl;clear hwB hTd NW hszA QE hb7 Vl
 still_step
 still_step
 still_step
 still_step
 still_step
 refine wpStill_nil ?_
 change wpList _ _ _ _ _ _
 go_wp2_with (go_at_call 230;refine(Xa _ _ _ _).mono ?_;rintro e w' ⟨rfl,rfl⟩)
 clear c5;have Vl:=Nat.le_of_eq ah3.o.symm;obtain⟨hb1,hb2,hb3,hbL,hsz⟩:=Zy wB #[.pointer (some ⟨mb,0,none⟩)] #[.int .i64 set] #[.int .i64 (a:Int)] 326 2 3;have hr0:=((SY.alloc (.cells #[.pointer (some ⟨mb,0,none⟩)] 326)).alloc (.cells #[.int .i64 set] 2)).alloc (.cells #[.int .i64 (a:Int)] 3);generalize ((wB.alloc (.cells #[.pointer (some ⟨mb,0,none⟩)] 326)).alloc (.cells #[.int .i64 set] 2)).alloc (.cells #[.int .i64 (a:Int)] 3)=wL at hb1 hb2 hb3 hbL hsz hr0 ⊢;have hb0:=hb8.below hbL (by omega);have hbox:=hba.below hbL (by omega);have hbL:=bt hbB hbL;have pJ:Agree w wL:=.of_below hbL;have Iz:=N.ML cs set a ha;refine(wpIn_wide (n:=9)).1 (Jo (α:=Nat) (gf:=233) (lb:=#[.pointer (some ⟨wB.heap.size+1+1,0,none⟩), .pointer (some ⟨wB.heap.size,0,none⟩), .pointer (some ⟨wB.heap.size+1,0,none⟩)]) rfl (enters_of Tryz.func233 (by kernel_rfl) rfl)
  (encs:=λx:Nat=>#[.int .i64 x]) (own:=λk=>k=wB.heap.size+1+1) (keep:=y7 w (wB.heap.size+1+1) (wB.heap.size) (wB.heap.size+1)) (ok:=λpre x=>x=a+pre.length+1/\pre.length<N.rl cs set a) (S:=λxs _=>xs=uP a (N.rl cs set a))
  (λk hk=>by unfold y7 at hk;omega)
  (λW1 ht=>TK 7 w mb cv cs HM.o HC.o (by omega) set a ha (wB.heap.size+1+1) (wB.heap.size) (wB.heap.size+1) (by omega) (by omega) (by omega) _ W1 (pJ.turns ht (λ_ h=>h.elim)) (ht.blk hb3 (λh=>h)) (ht.blk hb1 (λh=>h)) (ht.blk hb2 (λh=>h)))
  (λ_=>rfl)
  (λpre W=>(∃ v,ak W w.heap.size 3 #[.int .i64 (a:Int)]/\ak W (w.heap.size+1+1) 23 #[v]/\W.ownsRow w.heap.size 3 1 v ((evens a pre).length+1) (CO (a::evens a pre))/\∀ g,v.ownBlock=some g->g=w.heap.size+1\/wL.heap.size+2<=g)/\Below w.heap.size w W)
  (λ_ _ _=>False) ?hI (λ_ _ _ _ h _=>h) ⟨⟨_,hbox,hb0,hr0,λg hg=>by cases hg;exact .inl rfl⟩,hbL⟩
  (λx a1 _=>a1={ tmps:=#[.pointer (some ⟨mb,0,none⟩), .int .i64 set, .int .i64 (a:Int),undef,undef, .pointer (some ⟨w.heap.size,0,none⟩), .slice none 0 0, .pointer (some ⟨w.heap.size+1+1,0,none⟩), .int .i64 (x:Int), .int .i64 (a:Int), .slice (some ⟨w.heap.size+1,0,none⟩) 1 1, .pointer (some ⟨mb,0,none⟩), .pointer (some ⟨mb,0,none⟩), .pointer (some ⟨mb,0,none⟩), .int .i64 set, .int .i64 (a:Int), .func (.func 233) #[] #[.pointer (some ⟨wB.heap.size+1+1,0,none⟩), .pointer (some ⟨wB.heap.size,0,none⟩), .pointer (some ⟨wB.heap.size+1,0,none⟩)], .int .i64 (x:Int),undef,undef,undef,undef,undef,undef,undef,undef,undef,undef],defers:=[] })
  (λ_ _ _ _ h _=>h) ?assign ?body ?done (λ_ _ _ _ h _=>h.elim) (λ_ _ _ h _=>h))
 case hI =>
  rintro pre W W' ⟨⟨v,h0,h1,h2,h3⟩,h4⟩ ht;exact⟨⟨v,ht.blk h0 (by omega),ht.blk h1 (by omega),ht.row h2 (λk hk=>by have:=h3 k hk;omega),h3⟩,h4.trans (ht.below h4.size (λk hk=>by omega))⟩
 case assign =>
  intro x W K _ hK
  gi_wp2
  exact hK _ _ (Turns.refl _ _) rfl
 case body =>
  rintro pre x a1 W hW ⟨⟨v,h0,h1,h2,h3⟩,h4⟩ ⟨hx,hr⟩ rfl;have c5:W.cell? ⟨w.heap.size,0,none⟩=some (.int .i64 (a:Int)):=(h0.cell 0).trans rfl;have H0:=bx h0;have HX:=bx hx;have hax:a<=x:=by omega
  have hxc:x<=cs.length:=by omega
  have hlt:=h2.lt;have hs0:=h4.size;have hc:W.cell? ⟨w.heap.size+1+1,0,none⟩=some v:=(h1.cell 0).trans rfl;have hf:=h1.frozen 0;have HV:=bx h1;have HL:=bx hlt;have H3:=bx h3;have H4:=bx h4;have HR:=bx h2;have gU:=bx (VR (a::evens a pre) x);obtain⟨i0,hi,hz0,hz1,hz2⟩:=info_parts O8;have fM:=bx (show v.ownBlock≠some (w.heap.size+1+1) from λe=>by rcases h3 _ e with h | h <;> omega);have hpl:(evens a pre).length<1000000:=by have:=akl a pre;omega
  obtain⟨og,oc,rfl⟩:=ownsRow_succ h2;clear h1 h2 h3 h4 hb0 hb1 hb2 hb3 hbL hr hr0 hlt pJ h0 hba hb8 hbox SY hbB hx
  by_cases he:(x-a) % 2=0
  ·have iU:=bx (adX a pre x he);have t1:(((x:Int)-(a:Int)) % 2==0)=true:=by rw [beq_iff_eq];omega
   clear he
   gi_wp2_with (gi_at_builtin;refine wpListIn_append_own_at _ rfl _ _ 23 rfl w.heap.size 3 i0 (.int .i64 0) 1 8 Tryz.underlying23 hi hz0 hz1 hz2 rfl (by decide) (.slice (some ⟨og,0,none⟩) ((evens a pre).length+1) oc) _ _ rfl (HR.o.alloc _) ⟨W.heap.size,0,none⟩ 1 1 [.int .i64 (x:Int)] rfl rfl (cell_one_new _ _ _) (by simp [Value.oneCell']) (by unfold maxLen;omega) (by omega) (by simp;omega) ?_;intro v' w1 hown' hgrow _ hat;obtain⟨g',cap',rfl⟩:=ownsRow_succ hown';have hv1:=(HV.o.alloc _).grown hgrow (Ne.symm fM.o);have hc1:=hv1.cell 0;have hf1:=hv1.frozen 0;simp at hc1)
   have hg':g'=og\/g'=W.heap.size+1:=by
    rcases hat with h | h
    ·left;simpa [Value.ownBlock] using h
    ·right;simpa [Value.ownBlock] using h
   have hog:=H3.o og rfl;have Vu:=(HL.o og rfl).2;have hT:Turns (λk=>k=og\/k=w.heap.size+1+1) W (w1.setCell ⟨w.heap.size+1+1,0,none⟩ (.slice (some ⟨g',0,none⟩) ((evens a pre).length+1+1) cap')) :=
    ((Turns.alloc W _).trans (Hu hgrow (λk hk=>.inl (by simpa [Value.ownBlock] using hk.symm)))).trans (Turns.setCell _ (.inr rfl) _)
   refine⟨Holds.Az hT (λk hk=>by unfold y7 at hk;omega) (λk hk h=>by unfold y7 at hk;omega),⟨_,hT.blk H0.o (by omega),hv1.bP 0 _,?_,λg hg=>?_⟩,H4.o.trans (hT.below H4.o.size (λk hk=>by omega))⟩
   ·rw [iU.o,<- List.cons_append,gU.o];have:=(Turns.setCell (own:=λk=>k=w.heap.size+1+1) w1 (p:=⟨w.heap.size+1+1,0,none⟩) rfl (.slice (some ⟨g',0,none⟩) ((evens a pre).length+1+1) cap')).row hown' (λk hk=>by simp [Value.ownBlock] at hk;omega)
    simpa using this
   ·have:g=g':=by simpa [Value.ownBlock] using hg.symm
    omega
  ·have iU:=bx (ahr a pre x he);have t1:(((x:Int)-(a:Int)) % 2==0)=false:=by rw [beq_eq_false_iff_ne];omega
   clear he
   gi_wp2_with fail
   exact⟨Holds.refl _ _,⟨_,H0.o,HV.o,by rw [iU.o];exact HR.o,H3.o⟩,H4.o⟩
 case done =>
  intro xs W hW hS ⟨⟨v,h0,h1,h2,h3⟩,h4⟩ hD;have c0:W.cell? ⟨w.heap.size+1+1,0,none⟩=some v:=(h1.cell 0).trans rfl;have H2:=bx h4;have HD:=bx hD;have HR:=bx h2;have HS:=bx hS;have H3:=bx h3;clear h0 h1 h2 h3 h4 hD hb0 hb1 hb2 hb3 hbL hS hr0 pJ hba hb8 hbox SY hbB;go_wp2_with fail;refine⟨by simp, .inl ⟨_,_,rfl,run_takeDeferred HD.o,?_⟩⟩;refine⟨_,results_tmp rfl _ _ _,?_⟩;have hr:=(Turns.putObj (own:=λk=>k=wL.heap.size) W rfl (.deferred none)).row HR.o (λk hk=>by rcases H3.o k hk with h | h <;> omega);refine⟨⟨v,rfl,?_⟩,H2.o.trans ((Turns.putObj (own:=λk=>k=wL.heap.size) W rfl _).below H2.o.size (λk hk=>by omega))⟩;have hi:=Ru hr (by simp);rw [HS.o,<- anQ] at hi;exact hi
end
section
open Go.RowKit Go.Sort
theorem aha (w:World):grow w #[]=w:=by simp [grow]
theorem afk {ps:List Pc} {W:World} (h:Sep ps W) (i:Nat) {base n:Nat} {e:TypeId} {v:Value} {zs:List Int} (hi:ps[i]?=some (Pc.row base e 1 v n (zs.map (Value.int .i64)))) (hn:n=zs.length) (hz:n<=1000000) :
  Calls Tryz.prog 232 #[v] W λe' W'=>∃ v',e' = .returned v'/\Sep (ps.set i (Pc.row base e 1 v' (Go.Lib.compact zs).length ((Go.Lib.compact zs).map (Value.int .i64)))) W':=by
 subst hn;have hrow:=h.row i hi
 rcases hrow.2 with⟨rfl,h2⟩ | ⟨g,cap,cur,rfl,hb,hg,h3,h4,h5,h6⟩
 ·have hz0:zs=[]:=List.eq_nil_of_length_eq_zero h2;subst hz0;refine(amD none 0 W).mono ?_;rintro e' W' ⟨rfl,rfl⟩;refine⟨_,rfl,?_⟩;have e1:ps.set i (Pc.row base e 1 (.slice none 0 0) (Go.Lib.compact ([]:List Int)).length ((Go.Lib.compact ([]:List Int)).map (Value.int .i64)))=ps:=by
   obtain⟨k1,k2⟩:=List.getElem?_eq_some_iff.1 hi;rw [show Go.Lib.compact ([]:List Int)=[] from rfl,show ([]:List Int).length=0 from rfl];have k3:ps[i]=Pc.row base e 1 (.slice none 0 0) 0 []:=k2;rw [List.map_nil,<- k3,List.set_getElem_self]
  rw [e1];exact h
 ·rw [Nat.mul_one] at h6;refine(agV g 0 cap zs W (holds_of_blockI hg h6) (by omega) h3).mono ?_;rintro e' W' ⟨rfl,q,rfl⟩;have hle:=Go.Lib.compact_length_le zs;obtain⟨d,hd⟩:∃ d,Go.Lib.compact zs++List.replicate (zs.length-(Go.Lib.compact zs).length) (0:Int)=d:=⟨_,rfl⟩
  have hdl:d.length=zs.length:=by rw [<- hd,List.length_append,List.length_replicate];omega
  rw [hd];have hgb:=grownBy_sortedI (w:=W) (g:=g) (n:=q) (os:=#[]) d.toArray;have hro:=ownsRow_sortedI (n:=q) (os:=#[]) hdl hb hg h3 h4 h5;rw [aha] at hgb hro;refine⟨_,rfl,h.grow i hi hgb ?_ (.inl rfl)⟩;refine⟨by simp, .inr ?_⟩
  rcases hro.2 with⟨h7,_⟩ | ⟨g',cap',cur',h7,h8,h9,h10,h11,h12,h13⟩
  ·cases h7
  ·cases h7;refine⟨g,cap,cur',rfl,h8,h9,by omega,h11,h12,?_⟩;rw [Nat.mul_one] at h13 ⊢;have:=congrArg (List.take (Go.Lib.compact zs).length) h13;rw [List.take_take,Nat.min_eq_left hle] at this;rw [this,<- hd,List.map_append,List.take_left' (by simp)]
theorem aiX {ps:List Pc} {W:World} (h:Sep ps W) (i:Nat) {base n:Nat} {e:TypeId} {v:Value} {zs:List Int} (hi:ps[i]?=some (Pc.row base e 1 v n (zs.map (Value.int .i64)))) (hn:n=zs.length) (hz:n<=1000000) :
  Calls Tryz.prog 228 #[v] W λe' W'=>∃ v',e' = .returned v'/\Sep (ps.set i (Pc.row base e 1 v' (IL zs).length ((IL zs).map (Value.int .i64)))) W':=by
 have HS:=bx (agE h i hi hn hz);have hil:i<ps.length:=(List.getElem?_eq_some_iff.1 hi).1;clear h hi
 go_enter Tryz.func228,Tryz.ntmps228
 go_wp2_with fail;refine HS.o.mono ?_;rintro e1 w1 ⟨rfl,h1⟩;have HC:=bx (afk h1 i (by rw [List.getElem?_set_self hil]) (by rw [acg];exact hn) hz);clear h1;go_wp2_with fail;refine HC.o.mono ?_;rintro e2 w2 ⟨v',rfl,h2⟩;rw [List.set_set] at h2;have H2:=bx h2;clear h2;go_wp2_with fail;go_ret
 exact⟨_,rfl,H2.o⟩
end
section
open Go.RowKit
def qo (W:World) (v:Value) (m:Nat) (cs:List Value):Prop :=
 (v = .slice none 0 0/\m=0/\cs=[])\/∃ ad c,v = .slice (some ad) m c/\∀ j u,cs[j]?=some u->W.cell? (ad.add j)=some u
theorem lX {P:Program} {w0:World} {ops:Array Oper} {rest:List Oper} {o:Oper} {a:Act} {Q:Exit->Act->World->Prop} (hgd:o.guard=none) (s x:Operand) (t:TypeId)
  (ho:o.op = .call { callee:=.builtin .append,args:=#[s,x],argTypes:=#[t,t] }) {base:Nat} {e:TypeId} {sz bytes:Nat} (hP:wP P t e sz bytes) (hsz:0<sz) {ps:List Pc} (hS:Sep ps w0) (k:Nat) {v xv:Value} {cs:List Value} {n m:Nat} {xs:List Value}
  (hk:ps[k]?=some (Pc.row base e sz v n xs)) (hs:a.eval s=v) (hx:a.eval x=xv) (hX:qo w0 xv m cs) (hc:cs.length=m*sz) (h1:∀ u∈cs,u.oneCell'=true) (hn:n+m<=1000000000) (hby:bytes<=10000) (hbase:base<=w0.heap.size)
  (h:∀ v' w',Sep (ps.set k (Pc.row base e sz v' (n+m) (xs++cs))) w'->wpList P ops Q rest (a.put o.dst v') w'):wpList P ops Q (o::rest) a w0:=by
 obtain⟨i,z,ht,hi,hz0,hz1,hz2,hz3⟩:=hP.o
 rcases hX with⟨rfl,rfl,rfl⟩ | ⟨ad,c,rfl,hcl⟩
 ·refine wpList_append_own_none hgd s x t ho base e i sz ht hi v n xs hs (hS.row k hk) hx ?_;have:=h v w0;rw [Nat.add_zero,List.append_nil,show ps.set k (Pc.row base e sz v n xs)=ps by
   obtain⟨h2,h3⟩:=List.getElem?_eq_some_iff.1 hk;rw [<- h3,List.set_getElem_self]] at this
  exact this hS
 ·have hb:(n+m)*bytes<=1000000000*10000:=Nat.mul_le_mul hn hby;refine wpList_append_own_at _ hgd s x t ho base e i z sz bytes ht hi hz0 hz1 hz2 hz3 hsz v n xs hs (hS.row k hk) ad m c cs hx hc hcl h1 (by unfold maxLen;omega) (by omega) hbase ?_;intro v' w' hown hgrow _ hat
  exact h v' w' (hS.grow k hk hgrow hown (by
   rcases hat with e1 | e1
   ·exact .inl e1
   ·exact .inr (λq hq=>by rw [e1] at hq;simp only [Option.some.injEq] at hq;omega)))
theorem lQ:wP Tryz.prog 23 3 1 8:=.mk' (z:=.int .i64 0) Tryz.underlying23 (by kernel_rfl) rfl
theorem S9 {w:World} {v:Value} {xs:List Int} (h:ay w v xs):qo w v xs.length (xs.map (Value.int .i64)):=by
 rcases h with⟨h1,rfl⟩ | ⟨b,off,sp,cap,h1,h2,h3,h4⟩
 ·exact .inl ⟨h1,rfl,rfl⟩
 ·refine .inr ⟨_,cap,h1,λj u hu=>?_⟩;rw [List.getElem?_map] at hu
  cases hx:xs[j]? with
  | none=>rw [hx] at hu;cases hu
  | some x =>
   rw [hx] at hu
   cases hu;obtain⟨rfl,-,h6⟩:=h4 (by rintro rfl;simp at hx);rw [show (⟨b,off,none⟩:Addr).add j=⟨b,off+j,none⟩ by unfold Addr.add;by_cases h0:j=0 <;> simp [h0]];exact h6 j x hx
def oJ (mb:Nat):MapEntry:=⟨.int .i64 0, .func (.func 225) #[.pointer (some ⟨mb,0,none⟩)] #[],0⟩
def oU (mb:Nat):MapEntry:=⟨.int .i64 1, .func (.func 226) #[.pointer (some ⟨mb,0,none⟩)] #[],1⟩
def qJ (mb:Nat):MapEntry:=⟨.int .i64 2, .func (.func 227) #[.pointer (some ⟨mb,0,none⟩)] #[],2⟩
def xY (xs:List Int):List Value:=xs.map (Value.int .i64)
theorem aj8 (xs ys:List Int):xY (xs++ys)=xY xs++ys.map (Value.int .i64):=by simp [xY]
theorem TA (ys:List Int):∀ u∈ys.map (Value.int .i64),u.oneCell'=true:=by
 intro u hu;obtain⟨y,-,rfl⟩:=List.mem_map.1 hu
 rfl
theorem aki (cs:List Int) (x:N.Item) (O:List Int) (j:Nat) (b:Int) (h:O[j]?=some b):(O.take (j+1)).flatMap (jM cs x)=(O.take j).flatMap (jM cs x)++jM cs x b:=by
 rw [List.take_add_one,h,List.flatMap_append];simp
theorem ai7 (mb:Nat) (cv:Value) (cs:List Int) (iv:Value) (l:List N.Item) (a:Nat) (w:World) (hM:ak w mb 315 #[cv]) (hC:ay w cv cs) (hI:bM w iv l) (hh:∀ x∈l,x.2=0\/x.2=1\/x.2=2)
  (hz:cs.length<=900) (hl:l.length<=1000) (ha:a<=cs.length) :
  Calls Tryz.prog 219 #[.pointer (some ⟨mb,0,none⟩),iv, .int .i64 a] w λe w'=>(∃ v,e = .returned v/\ay w' v (mM cs l a l.length))/\Below w.heap.size w w':=by
 have HM:=bx hM;have HC:=bx hC;have HI:=bx hI;have HH:=bx hh;have hml:=hM.lt;have hmm:=@run_makeMap Tryz.prog;have Pq:=Gz (P:=Tryz.prog) Tryz.underlying321 Tryz.underlying3 w #[] 0 0 (oJ mb).val w.heap.size rfl rfl;have Ox:=Gz (P:=Tryz.prog) Tryz.underlying321 Tryz.underlying3 w #[oJ mb] 1 1 (oU mb).val w.heap.size rfl rfl;have Qa:=Gz (P:=Tryz.prog) Tryz.underlying321 Tryz.underlying3 w #[oJ mb,oU mb] 2 2 (qJ mb).val w.heap.size rfl rfl;simp only [List.push_toArray,List.nil_append,List.cons_append,oJ,oU,qJ,Nat.reduceAdd,Nat.zero_add] at Pq Ox Qa;obtain⟨io,ic,rfl⟩:=hI.slice;clear hM hC hI hh
 go_enter Tryz.func219,Tryz.ntmps219
 go_wp2_with fail;clear hmm Pq Ox Qa;have aU:=bx (show Sep [Pc.row w.heap.size 3 1 (.slice (some ⟨w.heap.size+1,0,none⟩) (mM cs l a 0).length 1) (mM cs l a 0).length (xY (mM cs l a 0)),Pc.obj w.heap.size (.map #[oJ mb,oU mb,qJ mb] 3),Pc.old w.heap.size w] ((w.alloc (.map #[oJ mb,oU mb,qJ mb] 3)).alloc (.cells #[.int .i64 (a:Int)] 3)) by
  have h1:Sep [Pc.obj w.heap.size (.map #[oJ mb,oU mb,qJ mb] 3),Pc.old w.heap.size w] (w.alloc (.map #[oJ mb,oU mb,qJ mb] 3)) :=
   (Sep.start w).add (Gf w _) (World.alloc_heap_new w _) (λk hk=>by rw [show k=w.heap.size from hk];exact Nat.le_refl _)
  have h2:=World.ownsRow_lit (base:=w.heap.size) (e:=3) (size:=1) (w.alloc (.map #[oJ mb,oU mb,qJ mb] 3)) #[.int .i64 (a:Int)] 1 (by simp) (by unfold maxLen;omega) rfl;rw [show (w.alloc (.map #[oJ mb,oU mb,qJ mb] 3)).heap.size=w.heap.size+1 from by simp] at h2;rw [Jw];exact h1.add (Gf _ _) h2 (λk hk=>by simp [Pc.row,Value.ownBlock] at hk;simp;omega))
 unfold oJ oU qJ at aU
 go_loopw [26,8] (λi o wr=>∃ (k:Nat) (oo:Option Addr) (oc:Nat),k<=l.length/\i = .int .i64 k/\o = .slice oo (mM cs l a k).length oc/\Box (Sep [Pc.row w.heap.size 3 1 (.slice oo (mM cs l a k).length oc) (mM cs l a k).length (xY (mM cs l a k)),Pc.obj w.heap.size (.map #[oJ mb,oU mb,qJ mb] 3),Pc.old w.heap.size w] wr))
  (λi _ _=>l.length-(intOf i).toNat)
 case atStart=>exact⟨0,_,_,Nat.zero_le _,rfl,by rw [Jw];rfl,aU⟩
 case round =>
  obtain⟨k,oo,oc,hk,rfl,rfl,hS⟩:=hrel;clear aU;have aJ:=bx (hS.o.bel (n:=w.heap.size) (W0:=w) (by simp))
  by_cases hlt:k<l.length
  ·obtain⟨x,hx⟩:∃ x,l[k]?=some x:=⟨_,List.getElem?_eq_getElem hlt⟩
   obtain⟨g,off,cap2,hg1,hg2,hg3,hg4,hg5⟩:=(HI.o.below aJ.o).get (by rintro rfl;simp at hlt);obtain⟨rfl,rfl⟩:io=some ⟨g,off,none⟩/\ic=cap2:=by injection hg1 with h1 h2 h3;exact⟨h1,h3⟩
   obtain⟨hc1,hc2⟩:=hg5 k x hx;have ai3:=HH.o x (List.mem_of_getElem? hx);have HN:=bx (Og cs l a k x hx);have Vs:=RN cs l a (by omega) (by omega) k hk;have hOl:=aiu cs l a (by omega) (by omega) k hk;obtain⟨O,hO⟩:∃ O,mM cs l a k=O:=⟨_,rfl⟩
   rw [hO] at Vs hOl HN hS ⊢;have TM:=bx Vs;unfold maxLen at hg3;obtain⟨set,how⟩:=x;have rQ:=bx ((hS.o.dh 282 #[.int .i64 set, .int .i64 how]).fP w.heap.size 1 3);obtain⟨ub,hub⟩:∃ ub,ub=wr.heap.size:=⟨_,rfl⟩
   have Et:=bx hub;rw [<- hub] at rQ;clear hx hg1 hg5 hO Vs hub;go_wp2_with fail;rw [<- Et.o];clear Et
   go_loopw [32,11] (λi nv wi=>∃ (j:Nat) (v2:Value),j<=O.length/\i = .int .i64 j/\v2=nv/\Box (Sep [Pc.row w.heap.size 3 1 v2 ((O.take j).flatMap (jM cs (set,how))).length (xY ((O.take j).flatMap (jM cs (set,how)))),Pc.blk ub 282 #[.int .i64 set, .int .i64 how],Pc.row w.heap.size 3 1 (.slice oo O.length oc) O.length (xY O),Pc.obj w.heap.size (.map #[oJ mb,oU mb,qJ mb] 3),Pc.old w.heap.size w] wi))
    (λi _ _=>O.length-(intOf i).toNat)
   case atStart=>exact⟨0,_,Nat.zero_le _,rfl,rfl,rQ⟩
   case round =>
    obtain⟨j,v2,hj,rfl,rfl,Ec⟩:=hrel;have oM:=bx (Ec.o.bel (n:=w.heap.size) (W0:=w) (by simp));clear rQ hS
    by_cases hjl:j<O.length
    ·obtain⟨b,hb⟩:∃ b,O[j]?=some b:=⟨_,List.getElem?_eq_getElem hjl⟩
     obtain⟨b0,b1⟩:=TM.o b (List.mem_of_getElem? hb);obtain⟨q,rfl⟩:=Int.eq_ofNat_of_zero_le b0;have hq:q<=cs.length:=by omega
     obtain⟨og,Ug,ak7,k1,k2,k3,k4,k5⟩:=(ay.dL (Ec.o.row 2 rfl) rfl).get (by rintro rfl;simp at hjl);obtain⟨rfl,rfl⟩:oo=some ⟨og,Ug,none⟩/\oc=ak7:=by injection k1 with h1 h2 h3;exact⟨h1,h3⟩
     have c3:=k5 j _ hb;have hbk:=Ec.o.blk 1 rfl;have c0:wr.cell? ⟨ub,0,none⟩=some (.int .i64 set):=(hbk.cell 0).trans rfl;have c1:wr.cell? ⟨ub,1,none⟩=some (.int .i64 how):=(hbk.cell 1).trans rfl;have hmp:=Ec.o.at' 3 (p:=Pc.obj w.heap.size (.map #[oJ mb,oU mb,qJ mb] 3)) rfl;have SE:=bx hmp;have sU:=bx (aki cs (set,how) O j _ hb);have jP:=bx (UN cs (set,how) (O.take j) (λb hb=>TM.o b (List.mem_of_mem_take hb)));have EU:=bx (abk cs (set,how) (q:Int) b0 b1);have aaf:ak wr mb 315 #[cv]:=HM.o.below oM.o hml;have hcs2:ay wr cv cs:=HC.o.below oM.o;have Vh:=bx aaf;have Vf:=bx hcs2;unfold maxLen at k3;clear k1 k5 hb hbk hmp aaf hcs2 b0 b1;have key:∀ (w2:World) (xv:Value),ay w2 xv (jM cs (set,how) (q:Int))->Below wr.heap.size wr w2 ->
       ∀ v' w',Sep ([Pc.row w.heap.size 3 1 v2 ((O.take j).flatMap (jM cs (set,how))).length (xY ((O.take j).flatMap (jM cs (set,how)))),Pc.blk ub 282 #[.int .i64 set, .int .i64 how],Pc.row w.heap.size 3 1 (.slice (some ⟨og,Ug,none⟩) O.length oc) O.length (xY O),Pc.obj w.heap.size (.map #[oJ mb,oU mb,qJ mb] 3),Pc.old w.heap.size w].set 0 (Pc.row w.heap.size 3 1 v' (((O.take j).flatMap (jM cs (set,how))).length+(jM cs (set,how) (q:Int)).length) (xY ((O.take j).flatMap (jM cs (set,how)))++(jM cs (set,how) (q:Int)).map (Value.int .i64)))) w' ->
       Sep [Pc.row w.heap.size 3 1 v' ((O.take (j+1)).flatMap (jM cs (set,how))).length (xY ((O.take (j+1)).flatMap (jM cs (set,how)))),Pc.blk ub 282 #[.int .i64 set, .int .i64 how],Pc.row w.heap.size 3 1 (.slice (some ⟨og,Ug,none⟩) O.length oc) O.length (xY O),Pc.obj w.heap.size (.map #[oJ mb,oU mb,qJ mb] 3),Pc.old w.heap.size w] w':=λw2 xv _ _ v' w' h=>by
      rw [sU.o,aj8,List.length_append];exact h
     have KEY:=bx key;have hnb:((O.take j).flatMap (jM cs (set,how))).length<=900000:=by
      have h1:=jP.o;have h2:(O.take j).length<=901:=by rw [List.length_take];omega
      have h3:(O.take j).length*(cs.length+1)<=901*901:=Nat.mul_le_mul h2 (by omega);omega
     have hnm:(jM cs (set,how) (q:Int)).length<=901:=by have:=EU.o;omega
     clear key
     rcases ai3 with rfl | rfl | rfl
     ·have hlk:=Xj (P:=Tryz.prog) Tryz.underlying321 Tryz.underlying3 wr #[oJ mb,oU mb,qJ mb] 3 0 w.heap.size SE.o 0 (oJ mb).val rfl;simp only [oJ] at hlk;have nZ:=bx (afh mb cv cs set q wr Vh.o Vf.o (by omega) hq);go_wp2_with (first
       | (go_at_call 225;refine nZ.o.mono ?_;rintro e w2 ⟨⟨xv,rfl,hi⟩,hb2⟩;have hS2:=Ec.o.below hb2;have hle2:=oM.o.size;have hle3:=hb2.size)
       | (at_builtin;refine lX rfl _ _ 23 rfl lQ (by decide) hS2 0 rfl rfl rfl (S9 hi) (by simp) (TA _) (by omega) (by omega) (by omega) ?_;intro v' w' hS3))
      have aK:=bx (KEY.o w2 xv hi hb2 v' w' hS3);clear hS3 hS2 hi hb2
      go_roundw
      case rel=>exact⟨j+1,v',hjl,by go_num,rfl,aK⟩
      case measure=>simp [intOf];omega
     ·have hlk:=Xj (P:=Tryz.prog) Tryz.underlying321 Tryz.underlying3 wr #[oJ mb,oU mb,qJ mb] 3 1 w.heap.size SE.o 1 (oU mb).val rfl;simp only [oU] at hlk;have nZ:=bx (afO mb cv cs set q wr Vh.o Vf.o (by omega) hq);go_wp2_with (first
       | (go_at_call 226;refine nZ.o.mono ?_;rintro e w2 ⟨⟨xv,rfl,hi⟩,hb2⟩;have hS2:=Ec.o.below hb2;have hle2:=oM.o.size;have hle3:=hb2.size)
       | (at_builtin;refine lX rfl _ _ 23 rfl lQ (by decide) hS2 0 rfl rfl rfl (S9 hi) (by simp) (TA _) (by omega) (by omega) (by omega) ?_;intro v' w' hS3))
      have aK:=bx (KEY.o w2 xv hi hb2 v' w' hS3);clear hS3 hS2 hi hb2
      go_roundw
      case rel=>exact⟨j+1,v',hjl,by go_num,rfl,aK⟩
      case measure=>simp [intOf];omega
     ·have hlk:=Xj (P:=Tryz.prog) Tryz.underlying321 Tryz.underlying3 wr #[oJ mb,oU mb,qJ mb] 3 2 w.heap.size SE.o 2 (qJ mb).val rfl;simp only [qJ] at hlk;have nZ:=bx (alP mb cv cs set q wr Vh.o Vf.o (by omega) hq);go_wp2_with (first
       | (go_at_call 227;refine nZ.o.mono ?_;rintro e w2 ⟨⟨xv,rfl,hi⟩,hb2⟩;have hS2:=Ec.o.below hb2;have hle2:=oM.o.size;have hle3:=hb2.size)
       | (at_builtin;refine lX rfl _ _ 23 rfl lQ (by decide) hS2 0 rfl rfl rfl (S9 hi) (by simp) (TA _) (by omega) (by omega) (by omega) ?_;intro v' w' hS3))
      have aK:=bx (KEY.o w2 xv hi hb2 v' w' hS3);clear hS3 hS2 hi hb2
      go_roundw
      case rel=>exact⟨j+1,v',hjl,by go_num,rfl,aK⟩
      case measure=>simp [intOf];omega
    ·have hjl:j=O.length:=by omega
     have hfl:=UN cs (set,how) O TM.o;have hO2:O.length*(cs.length+1)<=901*901:=Nat.mul_le_mul (by omega) (by omega);have hSz:=Ec.o;rw [hjl,List.take_length] at hSz;have nS:=bx (aiX hSz 0 (zs:=O.flatMap (jM cs (set,how))) rfl rfl (by omega));clear hfl hO2 hSz;go_wp2_with fail;refine nS.o.mono ?_;rintro e w2 ⟨v',rfl,hS2⟩;have hS3:=(hS2.drop 1).drop 1;rw [<- HN.o] at hS3;obtain⟨oo2,xg,rfl⟩:=ownsRow_shape (hS3.row 0 rfl);have aK:=bx hS3;clear hS2 hS3;go_wp2_with fail
     go_roundw
     case rel=>exact⟨k+1,oo2,xg,hlt,by go_num,rfl,aK⟩
     case measure=>simp [intOf];omega
  ·have hkl:k=l.length:=by omega
   have HR:=bx (show ay wr (.slice oo (mM cs l a k).length oc) (mM cs l a l.length) by
    have:=ay.dL (hS.o.row 0 rfl) rfl
    rwa [hkl] at this ⊢)
   go_wp2_with fail;go_ret
   exact⟨⟨_,rfl,HR.o⟩,aJ.o⟩
theorem Ub {l:List N.Item} (h:iO l=true):∀ x∈l,x.2=0\/x.2=1\/x.2=2:=by
 intro x hx;obtain⟨i,hi,e⟩:=List.getElem_of_mem hx;have:=ab9 h (i:=i) (x:=x) (by rw [List.getElem?_eq_getElem hi,e]);omega
end
section
open Go.RowKit Go.Shelf
attribute [local go_sem] Oper.semAt_some
def aiG (rs:List D.Rule):Prop:=∀ x∈rs,iO x.1.2=true
def RI:List Nat:=[9,8]
def Ed (A:Nat->Addr) (B:Nat) (w:World):Prop:=Env RI 348 A B w
theorem Ed.below {A:Nat->Addr} {B:Nat} {w w':World} (h:Ed A B w) (hb:Below B w w'):Ed A B w':=Env.below h hb
def akT (g:Nat):Int:=if g=9 then 90 else 100
theorem ae2 (A:Nat->Addr) (B:Nat) (g:Nat) (hg:g∈RI) (w:World) (hE:Ed A B w) :
  Calls Tryz.prog 204 #[kH A g] w λe w'=>e = .returned (.int .i64 (akT g))/\w=w':=by
 have h0:=hE.var 9 (by decide);have h1:=hE.var 8 (by decide);have HI:=bx (λk (hk:k∈RI)=>Qh hE g k hg hk);clear hE;unfold kH
 rcases List.mem_cons.1 hg with rfl | hg
 ·go_enter Tryz.func204,Tryz.ntmps204
  go_wp2_with fail;refine(HI.o 9 (by decide)).mono ?_;rintro e w1 ⟨rfl,rfl⟩;go_wp2_with fail;go_ret
  exact⟨rfl,rfl⟩
 ·obtain rfl:g=8:=by simpa using hg
  go_enter Tryz.func204,Tryz.ntmps204
  go_wp2_with fail;refine(HI.o 9 (by decide)).mono ?_;rintro e w1 ⟨rfl,rfl⟩;go_wp2_with fail;refine(HI.o 8 (by decide)).mono ?_;rintro e w1 ⟨rfl,rfl⟩;go_wp2_with fail;go_ret
  exact⟨rfl,rfl⟩
theorem BJ {P:Program} {fn:Func} {p u:Tmp} {ty:TypeId} (h:fn.results=#[.cell p ty, .tmp u]) (tmps:Array Value) (w:World) (g:Nat) (t:TypeId) (cs:Array Value) (fr:Nat×Nat) (d:TypeDesc)
  (hp:tmps.getD p undef = .pointer (some ⟨g,0,none⟩)) (hg:w.heap[g]?=some (.cells cs t fr)) (hu:P.underlying ty=some d) (hd:(match d with | .struct _ | .array _ _=>true | _=>false)=true) (hi:(P.info? ty).map (·.size)=some cs.size) :
  (results fn tmps).run P w = .ok (.tuple #[.agg cs,tmps.getD u undef]) w:=by
 rw [results_cell_tmp h,hp];simp [asAddr,run_loadVar_row w g t ty cs fr d hg hu hd hi,Result.andThen]
theorem Jc:(Tryz.prog.info? 44).map (·.size)=some 2:=by kernel_rfl
def Ob (b:D.wG):D.dF:=(b.next.map λr=>r.map λx:Nat=>(x:Int),b.fits.map λx:Nat=>(x:Int))
def U4 (sd:List D.Side) (n:Nat):D.dF:=Ob (D.build sd n 300)
theorem alO {w:World} {nv fv:Value} {b:D.wG} (h1:iq w nv (b.next.map λr=>r.map λx:Nat=>(x:Int))) (h2:ay w fv (b.fits.map λx:Nat=>(x:Int))):nT w (.agg #[nv,fv]) (Ob b):=⟨nv,fv,rfl,h1,h2⟩
def zW (rs:List D.Rule) (n:Int):Int:=if qP n rs=true then (if D.Bd (lefts rs) n.toNat=true then 0 else 100) else 90
def xB (rs:List D.Rule) (n:Int):D.dF:=if (qP n rs&&D.Bd (lefts rs) n.toNat)=true then U4 (lefts rs) n.toNat else ([],[])
def ZT (rs:List D.Rule) (n:Int) (w:World) (e:Ending) (w':World):Prop:=Below w.heap.size w w'/\∃ mv,e = .returned (.tuple #[mv, .int .i64 (zW rs n)])/\nT w' mv (xB rs n)
theorem adB (w:World):nT w (.agg #[.slice none 0 0, .slice none 0 0]) ([],[]):=⟨_,_,rfl,iq.nil,ay.nil⟩
theorem KE {n:Int} {rs:List D.Rule} (h:qP n rs=true):1<=n/\n<=32/\rs.length<=40/\aiG rs:=by
 unfold qP at h;simp only [Bool.and_eq_true,decide_eq_true_eq] at h;exact⟨h.1.1.1,h.1.1.2,h.1.2,λx hx=>alo (akY (List.all_eq_true.1 h.2 x hx))⟩
def nM (n:Nat) (c:Int):Nat:=if 0<=c/\c<n then c.toNat else n
theorem JM (n:Nat) (c:Int):nM n c<=n:=by unfold nM;split <;> omega
theorem akG (b:Nat) (hb:b<9223372036854775808):bits .xor .i64 0 (b:Int)=(b:Int):=by
 show IntKind.i64.wrap ((BitVec.ofInt 64 (0:Int) ^^^ BitVec.ofInt 64 (b:Int)).toNat:Int)=_
 rw [BitVec.toNat_xor,MI b hb,show (BitVec.ofInt 64 0).toNat=0 from rfl,Nat.zero_xor,IntKind.wrap_i64];omega
theorem akz (n:Nat) (c:Int) (h:n<=32):N.kU ((2 ^ n-1:Nat):Int) c=decide (0<=c/\c<n):=by
 unfold N.kU;have h1:2 ^ n<=2 ^ 32:=Nat.pow_le_pow_right (by omega) h;have h2:0<2 ^ n:=Nat.two_pow_pos n;rw [Bool.eq_iff_iff];simp only [Bool.and_eq_true,decide_eq_true_eq,Int.toNat_natCast,Nat.testBit_two_pow_sub_one]
 constructor
 ·rintro⟨⟨⟨⟨-,-⟩,h3⟩,-⟩,h4⟩;exact⟨h3,by omega⟩
 ·rintro⟨h3,h4⟩;exact⟨⟨⟨⟨by omega,by omega⟩,h3⟩,by omega⟩,by omega⟩
theorem anD (n:Nat) (w:World) (h1:1<=n) (h2:n<=32) :
  Calls Tryz.prog 217 #[.int .i64 0, .int .i64 n] w λe w'=>e = .returned (.int .i64 ((2 ^ n-1:Nat):Int))/\w=w':=by
 have hb:2 ^ n<=2 ^ 32:=Nat.pow_le_pow_right (by omega) h2;have hp:0<2 ^ n:=Nat.two_pow_pos n;have HS:=bx (show uq (n:Int) 0=true by rw [show (0:Int)=((0:Nat):Int) from rfl,Vq n 0 h1 h2];exact decide_eq_true hp);have HW:=bx (show wrap64 ((2:Int) ^ n)=(2:Int) ^ n by rw [XU];generalize 2 ^ n=z at hb hp ⊢;exact IntWalk.wrap64_in _ (by omega));have HW2:=bx (show wrap64 ((2:Int) ^ n-1)=((2 ^ n-1:Nat):Int) by rw [XU];generalize 2 ^ n=z at hb hp ⊢;rw [show ((z:Int)-1)=((z-1:Nat):Int) by omega];exact IntWalk.wrap64_in _ (by omega));have HX:=bx (akG (2 ^ n-1) (by omega));clear hb hp
 go_enter Tryz.func217,Tryz.ntmps217
 go_wp2_with (go_at_call 222;refine(acB _ _ _).mono ?_;rintro e w1 ⟨rfl,rfl⟩;rw [HS.o])
 go_ret
 refine⟨BF ?_,rfl⟩;rw [HW.o,HW2.o,HX.o]
theorem ajt (c:Int) (n:Nat) (w:World) (h1:1<=n) (h2:n<=32) :
  Calls Tryz.prog 203 #[.int .i64 c, .int .i64 n] w λe w'=>e = .returned (.int .i64 (nM n c))/\w=w':=by
 have HN:=bx (anD n w h1 h2);have hh:=akz n c h2
 by_cases hc:0<=c/\c<n
 ·have HH:=bx (hh.trans (decide_eq_true hc));have HC:=bx (show c=(nM n c:Int) by unfold nM;rw [if_pos hc];omega);clear hh hc
  go_enter Tryz.func203,Tryz.ntmps203
  go_wp2_with fail;refine HN.o.mono ?_;rintro e w1 ⟨rfl,rfl⟩;go_wp2_with (go_at_call 218;refine(RQ _ _ _).mono ?_;rintro e w1 ⟨rfl,rfl⟩;rw [HH.o])
  go_ret
  exact⟨BF HC.o,rfl⟩
 ·have HH:=bx (hh.trans (decide_eq_false hc));have HC:=bx (show (n:Int)=(nM n c:Int) by unfold nM;rw [if_neg hc]);clear hh hc
  go_enter Tryz.func203,Tryz.ntmps203
  go_wp2_with fail;refine HN.o.mono ?_;rintro e w1 ⟨rfl,rfl⟩;go_wp2_with (go_at_call 218;refine(RQ _ _ _).mono ?_;rintro e w1 ⟨rfl,rfl⟩;rw [HH.o])
  go_ret
  exact⟨BF HC.o,rfl⟩
end
section
open Go.RowKit Go.Shelf
theorem Wl {n:Int} {l:List D.Rule} {k:Nat} {x:D.Rule} (h:l[k]?=some x) (hx:kQ n x=false):qP n l=false:=by
 unfold qP;rw [abn n l k x h hx];simp
theorem aaR (v:Value) (l:List D.Rule) (n:Int) (w:World) (hf:∀ x∈l,pz x) (hv:dP w v l) (hz:l.length<=16777216) :
  Calls Tryz.prog 117 #[v, .int .i64 n] w λe w'=>e = .returned (.bool (qP n l))/\Below w.heap.size w w':=by
 have HR:=bx hv;have HF:=bx hf;obtain⟨ao,cap,rfl⟩:=hv.slice;clear hv hf
 go_enter Tryz.func117,Tryz.ntmps117
 go_wp2_with fail
 go_loopw [5] (λi wr=>∃ k:Nat,k<=l.length/\i = .int .i64 k/\Box ((l.take k).all (kQ n)=true)/\Box (Below w.heap.size w wr)) (λi _=>l.length-(intOf i).toNat)
 case atStart=>exact⟨0,by omega,rfl,⟨rfl⟩,⟨Below.refl _ _⟩⟩
 case round =>
  obtain⟨k,hk,rfl,ha,hbr⟩:=hrel
  by_cases hlt:k<l.length
  ·obtain⟨x,hx⟩:∃ x,l[k]?=some x:=⟨_,List.getElem?_eq_getElem hlt⟩
   obtain⟨bg,off,cap2,hg1,hg2,hg3,hg4,hg5⟩:=(HR.o.below hbr.o).get (by rintro rfl;simp at hlt);obtain⟨rfl,rfl⟩:ao=some ⟨bg,off,none⟩/\cap=cap2:=by injection hg1 with h1 h2 h3;exact⟨h1,h3⟩
   obtain⟨vl,vr,hc0,hc1,hc2,hc3,hc4,hil,hir⟩:=hg5 k x hx;have hfx:=HF.o x (List.mem_of_getElem? hx);have HL:=bx (λW (h:Below wr.heap.size wr W)=>ZX x.1.1 vl x.1.2 n W (hil.below h) hfx.1);have HRR:=bx (λW (h:Below wr.heap.size wr W)=>ZX x.2.1.1 vr x.2.1.2 n W (hir.below h) hfx.2);have HX:=bx hx;unfold maxLen at hg3;obtain⟨⟨kY,il⟩,⟨str,ir⟩,br⟩:=x;simp only at hc0 hc1 hc2 hc3 hc4 HL HRR;clear hx hg1 hg5 hil hir hfx
   cases hr1:qI n il with
   | false =>
    have jS:=bx (Wl HX.o (show kQ n ((kY,il),(str,ir),br)=false by unfold kQ;rw [hr1];rfl));have HQ:=bx hr1;clear hr1;go_wp2_with (go_at_call 161;refine(HL.o _ (Below.refl _ _)).mono ?_;rintro e w1 ⟨rfl,hb1⟩;rw [HQ.o])
    go_ret
    exact⟨aI (by rw [jS.o]),bt hbr.o hb1⟩
   | true =>
    have HQ:=bx hr1
    cases hr2:qI n ir with
    | false =>
     have jS:=bx (Wl HX.o (show kQ n ((kY,il),(str,ir),br)=false by unfold kQ;rw [hr1,hr2];rfl));have gq:=bx hr2;clear hr1 hr2;go_wp2_with fail;refine(HL.o _ (Below.refl _ _)).mono ?_;rintro e w1 ⟨rfl,hb1⟩;rw [HQ.o];have HB1:=bx hb1;have d0:=(hb1.cell (p:=⟨bg,off+k*5+2,none⟩) hg4).trans hc2;have d1:=(hb1.cell (p:=⟨bg,off+k*5+3,none⟩) hg4).trans hc3;clear hb1;go_wp2_with fail;refine(HRR.o _ HB1.o).mono ?_;rintro e w2 ⟨rfl,hb2⟩;rw [gq.o];have HB2:=bx (bt HB1.o hb2);clear hb2;go_wp2_with fail;go_ret
     exact⟨aI (by rw [jS.o]),bt hbr.o HB2.o⟩
    | true =>
     have gq:=bx hr2
     cases str with
     | true =>
      have jS:=bx (Wl HX.o (show kQ n ((kY,il),(true,ir),br)=false by unfold kQ;rw [hr1,hr2];rfl));clear hr1 hr2;go_wp2_with fail;refine(HL.o _ (Below.refl _ _)).mono ?_;rintro e w1 ⟨rfl,hb1⟩;rw [HQ.o];have HB1:=bx hb1;have d0:=(hb1.cell (p:=⟨bg,off+k*5+2,none⟩) hg4).trans hc2;have d1:=(hb1.cell (p:=⟨bg,off+k*5+3,none⟩) hg4).trans hc3;clear hb1;go_wp2_with fail;refine(HRR.o _ HB1.o).mono ?_;rintro e w2 ⟨rfl,hb2⟩;rw [gq.o];have HB2:=bx (bt HB1.o hb2);have d2:=(HB2.o.cell (p:=⟨bg,off+k*5+2,none⟩) hg4).trans hc2;clear hb2 d0 d1;go_wp2_with fail;go_ret
      exact⟨aI (by rw [jS.o]),bt hbr.o HB2.o⟩
     | false =>
      have HT:=bx (Zi n l k _ HX.o ha.o (show kQ n ((kY,il),(false,ir),br)=true by unfold kQ;rw [hr1,hr2];rfl));clear hr1 hr2;go_wp2_with fail;refine(HL.o _ (Below.refl _ _)).mono ?_;rintro e w1 ⟨rfl,hb1⟩;rw [HQ.o];have HB1:=bx hb1;have d0:=(hb1.cell (p:=⟨bg,off+k*5+2,none⟩) hg4).trans hc2;have d1:=(hb1.cell (p:=⟨bg,off+k*5+3,none⟩) hg4).trans hc3;clear hb1;go_wp2_with fail;refine(HRR.o _ HB1.o).mono ?_;rintro e w2 ⟨rfl,hb2⟩;rw [gq.o];have HB2:=bx (bt HB1.o hb2);have d2:=(HB2.o.cell (p:=⟨bg,off+k*5+2,none⟩) hg4).trans hc2;clear hb2 d0 d1;go_wp2_with fail
      go_roundw
      case rel=>exact⟨k+1,hlt,by go_num,HT,⟨bt hbr.o HB2.o⟩⟩
      case measure=>simp [intOf];omega
  ·obtain rfl:k=l.length:=by omega
   have HT:=bx (show qP n l=(decide (1<=n)&&decide (n<=32)&&decide (l.length<=40)) by
    unfold qP;have:=ha.o;rw [List.take_length] at this;rw [this,Bool.and_true])
   clear ha
   rcases (show n<1\/(1<=n/\32<n)\/(1<=n/\n<=32) by omega) with h | ⟨h,h'⟩ | ⟨h,h'⟩
   ·go_wp2_with fail;go_ret
    exact⟨aI (by rw [HT.o];simp;omega),hbr.o⟩
   ·go_wp2_with fail;go_ret
    exact⟨aI (by rw [HT.o];simp;omega),hbr.o⟩
   ·rcases Nat.lt_or_ge 40 l.length with Yw | Yw
    ·go_wp2_with fail;go_ret
     exact⟨aI (by rw [HT.o,decide_eq_true h,decide_eq_true h',Bool.true_and,Bool.true_and,decide_eq_decide];omega),hbr.o⟩
    ·go_wp2_with fail;go_ret
     exact⟨aI (by rw [HT.o];simp [h,h',Yw];omega),hbr.o⟩
end
end Go.Proofs.YtlmdjifffmofeaaGreatDoor
