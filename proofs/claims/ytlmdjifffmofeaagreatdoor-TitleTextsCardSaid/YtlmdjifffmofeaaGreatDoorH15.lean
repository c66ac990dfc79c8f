/- Texts of this claim. -/
import Derived.Test.YtlmdjifffmofeaaGreatDoorH14

set_option maxRecDepth 100000
set_option maxHeartbeats 8000000
namespace Go.Proofs.YtlmdjifffmofeaaGreatDoor
section
open Go.RowKit
attribute [local go_sem] Oper.semAt_some
theorem alK {P:Program} {T K E:TypeId} (hm:P.underlying T=some (.map K E)) (hk:P.underlying K=some (.int .i64)) (W:World) (es:Array MapEntry) (clk:Nat) (k:Int) (n:Nat) (hg:W.heap[n]?=some (.map es clk)) (hik:Fb es) (z:Value) (hz:(zeroValue E).run P W = .ok z W) :
  (Instr.lookup T (.map (some n)) (.int .i64 k) true).run P W = .ok (.tuple #[(Am es k).getD z, .bool (Am es k).isSome]) W:=by
 have h1:(Instr.checkKey es.isEmpty 10000 K (.int .i64 k)).run P W = .ok () W:=MapKept.run_checkKey hk (by simp [MapKept.IsKey]) _ 9999
 rcases Qq k es.toList 0 hik with⟨hf,hl⟩ | ⟨j,v,hf,hl,_⟩
 ·have h2:=MapKept.run_findKey (P:=P) (w:=W) hk hf;unfold Instr.lookup;rw [Hg hik,hl];simp only [Sem.run_bind,run_underlying hm,Result.andThen,MapKept.run_getObj_map hg,h1,h2,Sem.run_pure,if_true,hz,Option.getD_none,Option.isSome_none]
 ·have h2:=MapKept.run_findKey (P:=P) (w:=W) hk hf;unfold Instr.lookup;rw [Hg hik,hl];simp only [Sem.run_bind,run_underlying hm,Result.andThen,MapKept.run_getObj_map hg,h1,h2,Sem.run_pure,if_true,Option.getD_some,Option.isSome_some]
def lU (W:World) (km:Nat) (c:T.Cs):Prop:=∃ es clk,W.heap[km]?=some (.map es clk)/\Fb es/\∀ q v,Am es q=some v->v = .agg #[.bool (T.cased c q), .bool (T.aX c q)]
theorem lU.lt {W:World} {km:Nat} {c:T.Cs} (h:lU W km c):km<W.heap.size:=by
 obtain⟨es,clk,h,-⟩:=h;exact(Array.getElem?_eq_some_iff.1 h).1
theorem lU.block {W W':World} {km:Nat} {c:T.Cs} (h:lU W km c) (hb:W'.heap[km]?=W.heap[km]?):lU W' km c:=by
 obtain⟨es,clk,h1,h2,h3⟩:=h;exact⟨es,clk,hb.trans h1,h2,h3⟩
theorem lU.turns {own:Nat->Prop} {W W':World} {km:Nat} {c:T.Cs} (h:lU W km c) (ht:Turns own W W') (ho:¬ own km):lU W' km c:=h.block (ht.block _ h.lt ho)
def Pc.known (km:Nat) (c:T.Cs):Pc where
 fp k:=k=km
 ok W:=lU W km c
 keep:=λ{_ _ _} h ht ho=>h.turns ht (ho km rfl)
 lt:=λ{_ _} h hk=>hk▸h.lt
theorem Kz {w:World} {k:Nat} {o:Obj} (h:w.heap[k]?=some o):k<w.heap.size:=(Array.getElem?_eq_some_iff.1 h).1
theorem U1 {own:Nat->Prop} {W V w':World} (hb:Below W.heap.size W V) (ht:Turns (λk=>W.heap.size<=k\/own k) V w'):Turns own W w' :=
 ⟨ht.os.trans hb.os,ht.tape.trans hb.tape,ht.output.trans hb.output,Nat.le_trans hb.size ht.size,λk hk ho=>(ht.block k (Nat.lt_of_lt_of_le hk hb.size) (by rintro(h | h);omega;exact ho h)).trans (hb.block k hk)⟩
theorem akk (W:World):(zeroValue 140).run Tryz.prog W = .ok (.agg #[.bool false, .bool false]) W:=by kernel_rfl
theorem XI:(Tryz.prog.info? 140).map (·.size)=some 2:=by kernel_rfl
theorem WI (g km:Nat) (lv tv ci cb gi gb lval ov:Value) (c:T.Cs) (r:Int) (W:World) (hb:ak W g 79 #[lv,tv,ci,cb,gi,gb, .map (some km),lval,ov]) (hv:bC W (.agg #[lv,tv,ci,cb,gi,gb]) c) (hs:T.Small c) (hc:T.cu 600 c=true) (hr:U.right r=true)
  (hk:lU W km c) :
  Calls Tryz.prog 80 #[.pointer (some ⟨g,0,none⟩), .int .i64 r] W λe w'=>e = .returned (.agg #[.bool (T.cased c r), .bool (T.aX c r)])/\Turns (λk=>k=km) W w'/\lU w' km c:=by
 obtain⟨es,clk,hm,hik,hes⟩:=hk;obtain⟨V,hV⟩:∃ V,V=W.alloc (.cells #[.bool false, .bool false] 140):=⟨_,rfl⟩
 have bG:=bx (show Below W.heap.size W V by rw [hV];exact aS _ _);have CV:=bx (show ak V W.heap.size 140 #[.bool false, .bool false] by rw [hV];exact ak.new _ _ _);have HV:=bx hV;have hml:=(Array.getElem?_eq_some_iff.1 hm).1;have uQ:=bx (show V.heap[km]?=some (.map es clk) from(bG.o.block km hml).trans hm);have HG:=bx (hb.below bG.o hb.lt);have g6:V.cell? ⟨g,6,none⟩=some (.map (some km)):=(HG.o.cell 6).trans rfl;have EL:=bx (λW' (h:Below V.heap.size V W')=>PW _ c r W' (hv.below (bt bG.o h)) hs hc hr);have hlk:=alK Tryz.underlying75 Tryz.underlying3 V es clk r km uQ.o hik _ (akk V);have hgl:=hb.lt;clear hV hm hb hv hs hc hr
 cases hq:Am es r with
 | some v =>
  rw [hq,Option.getD_some,Option.isSome_some,hes r v hq] at hlk;have HQ:=bx (show lU V km c from⟨es,clk,uQ.o,hik,hes⟩);clear hq hes hik;have v0:V.cell? ⟨W.heap.size,0,none⟩=some (.bool false):=(CV.o.cell 0).trans rfl;have v1:V.cell? ⟨W.heap.size,1,none⟩=some (.bool false):=(CV.o.cell 1).trans rfl;have f0:=CV.o.frozen 0;have f1:=CV.o.frozen 1;have vl:=CV.o.lt
  go_enter Tryz.func80,Tryz.ntmps80
  go_upto_region 1 with(fail)
  rw [<- HV.o];go_wp2_with fail;have HT:=bx (show Turns (λk=>k=km) W (((V.setCell ⟨W.heap.size,0,none⟩ (.bool (T.cased c r))).setCell ⟨W.heap.size,1,none⟩ (.bool (T.aX c r))).alloc (.cells #[.bool (T.cased c r), .bool (T.aX c r)] 140)) from
   U1 bG.o (((Turns.setCell V (p:=⟨W.heap.size,0,none⟩) (.inl (Nat.le_refl _)) _).trans (Turns.setCell _ (p:=⟨W.heap.size,1,none⟩) (.inl (Nat.le_refl _)) _)).trans (Turns.alloc _ _)))
  have BK:=bx (HQ.o.turns (own:=λk=>k=W.heap.size) (((Turns.setCell (own:=λk=>k=W.heap.size) V (p:=⟨W.heap.size,0,none⟩) rfl (.bool (T.cased c r))).trans (Turns.setCell (own:=λk=>k=W.heap.size) _ (p:=⟨W.heap.size,1,none⟩) rfl (.bool (T.aX c r)))).trans (Turns.alloc _ (.cells #[.bool (T.cased c r), .bool (T.aX c r)] 140))) (by omega));exact bodyPost_ret (v:=.agg #[.bool (T.cased c r), .bool (T.aX c r)]) (results_cell_row Tryz.results80 _ _ W.heap.size 140 _ (0,0) _ rfl (((CV.o.bP 0 (.bool (T.cased c r))).bP 1 (.bool (T.aX c r))).alloc _) Tryz.underlying140 rfl XI) rfl ⟨rfl,HT.o,BK.o⟩
 | none =>
  rw [hq,Option.getD_none,Option.isSome_none] at hlk;have VI:=bx hes;clear hq hes;obtain⟨V2,hV2⟩:∃ V2,V2=V.alloc (.cells #[.bool false, .bool false] 140):=⟨_,rfl⟩
  have HB2:=bx (show Below V.heap.size V V2 by rw [hV2];exact aS _ _);have eY:=bx hV2;have lN:=bx (show ak V2 V.heap.size 140 #[.bool false, .bool false] by rw [hV2];exact ak.new _ _ _);have HC2:=bx (EL.o V2 HB2.o);have QK:=bx (λ(W':World) (h:Below V.heap.size V W')=>show W'.cell? ⟨g,0,none⟩=some lv/\W'.cell? ⟨g,1,none⟩=some tv/\W'.cell? ⟨g,2,none⟩=some ci/\W'.cell? ⟨g,3,none⟩=some cb/\W'.cell? ⟨g,4,none⟩=some gi/\W'.cell? ⟨g,5,none⟩=some gb/\W'.cell? ⟨g,6,none⟩=some (.map (some km))/\g<W'.heap.size from by
   have hk:=HG.o.below h HG.o.lt;exact⟨(hk.cell 0).trans rfl,(hk.cell 1).trans rfl,(hk.cell 2).trans rfl,(hk.cell 3).trans rfl,(hk.cell 4).trans rfl,(hk.cell 5).trans rfl,(hk.cell 6).trans rfl,hk.lt⟩)
  clear hV2;obtain⟨c0,c1,c2,c3,c4,c5,c6,cl⟩:=QK.o V2 HB2.o
  go_enter Tryz.func80,Tryz.ntmps80
  go_upto_region 1 with(fail)
  rw [<- HV.o]
  go_upto_region 2 with(fail)
  rw [<- eY.o];go_wp2_with fail;refine HC2.o.mono ?_;rintro e w3 ⟨rfl,hb3⟩;have HB3:=bx (bt HB2.o hb3);have xQ:=bx (lN.o.below hb3 lN.o.lt);have x0:w3.cell? ⟨V.heap.size,0,none⟩=some (.bool false):=(xQ.o.cell 0).trans rfl;have x1:w3.cell? ⟨V.heap.size,1,none⟩=some (.bool false):=(xQ.o.cell 1).trans rfl;have f0:=xQ.o.frozen 0;have f1:=xQ.o.frozen 1;have xl:=xQ.o.lt;clear hb3 c0 c1 c2 c3 c4 c5 c6 cl
  go_upto_region 4 with(fail)
  obtain⟨w4,hw4⟩:∃ w4,w4=(w3.setCell ⟨V.heap.size,0,none⟩ (.bool (T.cased c r))).setCell ⟨V.heap.size,1,none⟩ (.bool (T.aX c r)):=⟨_,rfl⟩
  rw [<- hw4];have HT4:=bx (show Turns (λk=>k=V.heap.size) w3 w4 by rw [hw4];exact(Turns.setCell (own:=λk=>k=V.heap.size) w3 (p:=⟨V.heap.size,0,none⟩) rfl _).trans (Turns.setCell (own:=λk=>k=V.heap.size) _ (p:=⟨V.heap.size,1,none⟩) rfl _));have HB4:=bx (show Below V.heap.size V w4 from HB3.o.trans (HT4.o.below HB3.o.size (λk hk=>by omega)));have BN:=bx (show ak w4 V.heap.size 140 #[.bool (T.cased c r), .bool (T.aX c r)] by rw [hw4];exact(xQ.o.bP 0 _).bP 1 _);clear x0 x1 f0 f1 xl hw4;have aF:=bx (show Below V.heap.size V w4.drew from HB4.o.trans ((eu w4 1).mono HB4.o.size));have uZ:=bx (BN.o.drewN 1);have Vx:=bx (show w4.drew.heap[km]?=some (.map es clk) from(aF.o.block km (Kz uQ.o)).trans uQ.o);have au:=bx (show w4.drew.cell? ⟨g,6,none⟩=some (.map (some km))/\w4.drew.cell? ⟨V.heap.size,0,none⟩=some (.bool (T.cased c r))/\w4.drew.cell? ⟨V.heap.size,1,none⟩=some (.bool (T.aX c r))/\V.heap.size<w4.drew.heap.size from
   ⟨(QK.o _ aF.o).2.2.2.2.2.2.1,(uZ.o.cell 0).trans rfl,(uZ.o.cell 1).trans rfl,uZ.o.lt⟩)
  refine dO 6 (λW'=>W'.cell? ⟨g,6,none⟩=some (.map (some km))/\W'.cell? ⟨V.heap.size,0,none⟩=some (.bool (T.cased c r))/\W'.cell? ⟨V.heap.size,1,none⟩=some (.bool (T.aX c r))/\V.heap.size<W'.heap.size) (by kernel_rfl) ?_;have uZ:=bx (show ak w4.drew V.heap.size 140 #[.bool (T.cased c r), .bool (T.aX c r)] from uZ.o);generalize w4.drew=WR at aF uZ Vx au ⊢;obtain⟨es',wU,hu,hik',hes'⟩:=afi Tryz.underlying75 Tryz.underlying3 WR es clk r (.agg #[.bool (T.cased c r), .bool (T.aX c r)]) km Vx.o hik;have BK:=bx (show ∀ q v,Am es' q=some v->v = .agg #[.bool (T.cased c q), .bool (T.aX c q)] from λq v hq=>by
   rw [hes'] at hq
   split at hq
   ·rename_i e;subst e;injection hq with hq;exact hq.symm
   ·exact VI.o q v hq)
  have Wh:=bx hik';clear hik hlk hes' hik';refine kS 0 ?_ rfl au.o ?_ ?_;rotate_left
  ·rintro w ⟨q1,q2,q3,q4⟩;go_simp;try with_reducible rfl
  refine kS 1 ?_ rfl au.o ?_ ?_;rotate_left
  ·rintro w ⟨q1,q2,q3,q4⟩;go_simp;try with_reducible rfl
  refine kS 2 ?_ rfl au.o ?_ ?_;rotate_left
  ·rintro w ⟨q1,q2,q3,q4⟩;go_simp;try with_reducible rfl
  refine kS 3 ?_ rfl au.o ?_ ?_;rotate_left
  ·rintro w ⟨q1,q2,q3,q4⟩;go_simp;try with_reducible rfl
  refine kS 4 ?_ rfl au.o ?_ ?_;rotate_left
  ·rintro w ⟨q1,q2,q3,q4⟩;go_simp;try with_reducible rfl
  refine kS 5 ?_ rfl au.o ?_ ?_;rotate_left
  ·rintro w ⟨q1,q2,q3,q4⟩;go_simp;try with_reducible rfl
  refine kP 6 rfl λKK aj=>?_
  go_simp;refine aj.out _ _ (λh=>by cases h) ?_;clear aj KK;refine kD ?_ _;have OT:=bx (Turns.putObj (own:=λk=>k=km) WR rfl (.map es' wU));have HV5:=bx (OT.o.blk (CV.o.below aF.o CV.o.lt) (by have:=Kz uQ.o;have:=bG.o.size;omega));have wJ:=bx (OT.o.blk uZ.o (by have:=Kz uQ.o;omega));have KD:=bx (World.putObj_heap_same (o:=.map es' wU) (Kz Vx.o));generalize WR.putObj km (.map es' wU)=w6 at OT HV5 wJ KD ⊢;have v0:w6.cell? ⟨W.heap.size,0,none⟩=some (.bool false):=(HV5.o.cell 0).trans rfl;have v1:w6.cell? ⟨W.heap.size,1,none⟩=some (.bool false):=(HV5.o.cell 1).trans rfl;have f0:=HV5.o.frozen 0;have f1:=HV5.o.frozen 1;have vl:=HV5.o.lt;have x0:w6.cell? ⟨V.heap.size,0,none⟩=some (.bool (T.cased c r)):=(wJ.o.cell 0).trans rfl;have x1:w6.cell? ⟨V.heap.size,1,none⟩=some (.bool (T.aX c r)):=(wJ.o.cell 1).trans rfl;have xl:=wJ.o.lt;clear hu;go_wp2_with fail;have HT:=bx (show Turns (λk=>k=km) W ((w6.setCell ⟨W.heap.size,0,none⟩ (.bool (T.cased c r))).setCell ⟨W.heap.size,1,none⟩ (.bool (T.aX c r))) from
   U1 (bt bG.o aF.o) ((OT.o.mono (λk hk=>.inr hk)).trans ((Turns.setCell w6 (p:=⟨W.heap.size,0,none⟩) (.inl (Nat.le_refl _)) _).trans (Turns.setCell _ (p:=⟨W.heap.size,1,none⟩) (.inl (Nat.le_refl _)) _))))
  have ajU:=bx (lU.turns (own:=λk=>k=W.heap.size) ⟨es',wU,KD.o,Wh.o,BK.o⟩ ((Turns.setCell (own:=λk=>k=W.heap.size) w6 (p:=⟨W.heap.size,0,none⟩) rfl (.bool (T.cased c r))).trans (Turns.setCell (own:=λk=>k=W.heap.size) _ (p:=⟨W.heap.size,1,none⟩) rfl (.bool (T.aX c r)))) (by omega));exact bodyPost_ret (v:=.agg #[.bool (T.cased c r), .bool (T.aX c r)]) (results_cell_row Tryz.results80 _ _ W.heap.size 140 _ (0,0) _ rfl ((HV5.o.bP 0 (.bool (T.cased c r))).bP 1 (.bool (T.aX c r))) Tryz.underlying140 rfl XI) rfl ⟨rfl,HT.o,ajU.o⟩
theorem ali (p:Option Addr) (a st:Int) (w:World) :
  Calls Tryz.prog 129 #[.pointer p, .int .i64 a, .int .i64 st] w λe w'=>e = .returned (.func (.func 168) #[] #[.pointer (some ⟨w.heap.size+1,0,none⟩), .pointer (some ⟨w.heap.size+1+1,0,none⟩), .pointer (some ⟨w.heap.size,0,none⟩)]) /\
   ((w.alloc (.cells #[.pointer p] 66)).alloc (.cells #[.int .i64 a] 3)).alloc (.cells #[.int .i64 st] 3)=w':=by
 go_enter Tryz.func129,Tryz.ntmps129
 go_wp2
 go_ret
 exact⟨rfl,rfl⟩
theorem T.acu {c:T.Cs}:∀ {xs rest:List Int},(∀ y∈xs,T.cased c y=false)->(rest=[]\/∃ ys y,xs=ys++[y]/\T.aX c y=false)->T.meets c (xs++rest)=false
 | [],rest,_,h=>by
  rcases h with rfl | ⟨ys,y,h,-⟩
  ·rfl
  ·simp at h
 | x::t,rest,hc,h=>by
  rw [List.cons_append];unfold T.meets;rw [hc x (List.mem_cons_self ..),Bool.false_or]
  cases hi:T.aX c x with
  | false=>rfl
  | true =>
   rw [Bool.true_and];refine T.acu (λy hy=>hc y (List.mem_cons_of_mem _ hy)) ?_
   rcases h with h | ⟨ys,y,h1,h2⟩
   ·exact .inl h
   ·cases ys with
    | nil =>
     simp only [List.nil_append,List.cons.injEq] at h1;rw [h1.1,h2] at hi
     cases hi
    | cons z zs =>
     simp only [List.cons_append,List.cons.injEq] at h1;exact .inr ⟨zs,y,h1.2,h2⟩
theorem T.aan {c:T.Cs} {x:Int} {rest:List Int} (hx:T.cased c x=true):∀ {pre:List Int},(∀ y∈pre,T.aX c y=true)->T.meets c (pre++x::rest)=true
 | [],_=>by rw [List.nil_append];unfold T.meets;rw [hx,Bool.true_or]
 | y::t,h=>by
  rw [List.cons_append];unfold T.meets;rw [h y (List.mem_cons_self ..),Bool.true_and,T.aan hx (λz hz=>h z (List.mem_cons_of_mem _ hz)),Bool.or_true]
def Fg (ba bs bw g km:Nat) (a st:Int) (cs:Array Value) (c:T.Cs) (ps:List Pc):List Pc :=
 Pc.blk ba 3 #[.int .i64 a]::Pc.blk bs 3 #[.int .i64 st]::Pc.blk bw 66 #[.pointer (some ⟨g,0,none⟩)]::Pc.blk g 79 cs::Pc.known km c::ps
def U8 (ps:List Pc) (k:Nat):Prop:=∃ p∈ps,p.fp k
theorem Sep.kept {ps:List Pc} {W W':World} {own:Nat->Prop} (h:Sep ps W) (ht:Turns own W W') (ho:∀ k,own k->¬ U8 ps k):Sep ps W':=h.keep ht (λp hp k hk hok=>ho k hok ⟨p,hp,hk⟩)
structure Way (xs seq:List Int) (a st:Int) (pos:Nat->Int) (ms:Int->Nat):Prop where
 a0:0<=a
 a1:a<=100000
 s0:-1<=st
 s1:st<=1
 p0:pos 0=a+st
 ps:∀ k,pos (k+1)=pos k+st
 ms:∀ k,k<=seq.length->ms (pos k)=seq.length-k
 in_:∀ k x,seq[k]?=some x->∃ p:Nat,pos k=p/\xs[p]?=some x
 o:pos seq.length<0\/(0<=pos seq.length/\(xs.length:Int)<=pos seq.length)
def acf (ba bs bw g km:Nat) (a st:Int) (cs:Array Value) (c:T.Cs) (ps:List Pc) (seq pre:List Int) (x:Int) (W:World):Prop:=(∃ rest,seq=pre++x::rest)/\(∀ y∈pre,T.aX c y=true)/\Sep (Fg ba bs bw g km a st cs c ps) W
def Us (ba bs bw g km:Nat) (a st:Int) (cs:Array Value) (c:T.Cs) (ps:List Pc) (seq xs:List Int) (W:World):Prop:=Sep (Fg ba bs bw g km a st cs c ps) W/\∃ rest,seq=xs++rest/\(rest=[]\/∃ ys y,xs=ys++[y]/\T.aX c y=false)
theorem afz (n:Nat) (ba bs bw g km:Nat) (a st:Int) (lv tv ci cb gi gb lval ov:Value) (c:T.Cs) (hs:T.Small c) (hc:T.cu 600 c=true) (ps:List Pc) (xs seq:List Int) (hx:∀ x∈xs,U.right x=true) (hz:xs.length<=100000)
  (hR:∀ W,Sep ps W->bC W (.agg #[lv,tv,ci,cb,gi,gb]) c/\ay W lval xs) (pos:Nat->Int) (ms:Int->Nat) (hw:Way xs seq a st pos ms) (l:Nat) (W1:World)
  (hS:Sep (Fg ba bs bw g km a st #[lv,tv,ci,cb,gi,gb, .map (some km),lval,ov] c ps) W1) :
  YJ (n+1) Tryz.prog 168 #[.pointer (some ⟨ba,0,none⟩), .pointer (some ⟨bs,0,none⟩), .pointer (some ⟨bw,0,none⟩)] (λx:Int=>#[.agg #[.bool (T.cased c x), .bool (T.aX c x)]]) (λk=>k=km) (U8 (Fg ba bs bw g km a st #[lv,tv,ci,cb,gi,gb, .map (some km),lval,ov] c ps))
   (acf ba bs bw g km a st #[lv,tv,ci,cb,gi,gb, .map (some km),lval,ov] c ps seq) (Us ba bs bw g km a st #[lv,tv,ci,cb,gi,gb, .map (some km),lval,ov] c ps seq) l W1:=by
 intro J Jx hJ hJx hY h0;obtain⟨PP,EJ⟩:∃ PP,PP=Fg ba bs bw g km a st #[lv,tv,ci,cb,gi,gb, .map (some km),lval,ov] c ps:=⟨_,rfl⟩
 have HPP:=bx EJ;rw [<- EJ] at hY;have Zu:=bx (λpre x (W0 W:World) (hj:J pre W0) (ht:Turns (λk=>k=km) W0 W) (h1:∃ rest,seq=pre++x::rest) (h2:∀ y∈pre,T.aX c y=true) (h3:Sep PP W)=>hY pre x W0 W hj ht ⟨h1,h2,by rw [<- EJ];exact h3⟩);clear hY;have HJ:=bx hJ;have HR:=bx hR;have HW:=bx hw;have jX:=bx hx;have uI:=bx hs;have iG:=bx hc;have yB:=bx (λxs' W (h:Sep PP W) (rest:List Int) (h1:seq=xs'++rest) (h2:rest=[]\/∃ ys y,xs'=ys++[y]/\T.aX c y=false)=>show Us ba bs bw g km a st #[lv,tv,ci,cb,gi,gb, .map (some km),lval,ov] c ps seq xs' W from⟨by rw [<- EJ];exact h,rest,h1,h2⟩);rw [<- EJ] at hS;have aU:=bx hS;obtain⟨L,hL⟩:∃ L,seq.length=L:=⟨_,rfl⟩
 have kX:=bx hL;obtain⟨N,hN⟩:∃ N,xs.length=N:=⟨_,rfl⟩
 have HN:=bx hN;have HG:=bx (λW (h:Sep PP W)=>show ak W ba 3 #[.int .i64 a]/\ak W bs 3 #[.int .i64 st]/\ak W bw 66 #[.pointer (some ⟨g,0,none⟩)]/\ak W g 79 #[lv,tv,ci,cb,gi,gb, .map (some km),lval,ov]/\lU W km c/\Sep ps W from by
  rw [EJ] at h;exact⟨h.blk 0 rfl,h.blk 1 rfl,h.blk 2 rfl,h.blk 3 rfl,h.at' 4 rfl,h.tail.tail.tail.tail.tail⟩)
 have eH:=bx (λW W' (h:Sep PP W) (ht:Turns (λk=>k=km) W W') (hk:lU W' km c)=>show Sep PP W' from by
  rw [EJ] at h ⊢;exact h.upd (own:=λk=>k=km) 4 rfl ht (λ_ h _=>h) (p':=Pc.known km c) hk (λ_ h=>.inl h))
 obtain⟨q1,q2,q3,q4,q5,q6⟩:=HG.o W1 aU.o;have wc0:W1.cell? ⟨ba,0,none⟩=some (.int .i64 a):=(q1.cell 0).trans rfl;have wc1:W1.cell? ⟨bs,0,none⟩=some (.int .i64 st):=(q2.cell 0).trans rfl;have ha0:=hw.a0;have ha1:=hw.a1;have hs0:=hw.s0;have hs1:=hw.s1;have HP0:=bx hw.p0;rw [hN] at hz;have h0:=bx h0;clear hJ hR hw hx hs hc hS EJ hJx q1 q2 q3 q4 q5 q6 hL hN;refine callsIn_of_wp Tryz.func168 rfl trivial ?_;simp only [Tryz.ntmps168,List.size_toArray,List.length_cons,List.length_nil,Nat.reduceAdd,Nat.reduceSub,Array.replicate_succ,Array.replicate_zero,List.push_toArray,List.append_toArray,List.nil_append,List.cons_append]
 gi_wp2
 refine wpIn_wide.2 (wp_scope_straight ((wpIn_wide (n:=n+1)).1 ?_))
 gi_wp2
 refine wpIn_label ?_
 gi_wp2
 clear wc0 wc1
 gi_loopw [5] (λi wr=>∃ k:Nat,k<=L/\(∃ z:Int,i = .int .i64 z/\Box (z=pos k))/\Box (∀ y∈seq.take k,T.aX c y=true)/\Box (Sep PP wr)/\Box (J (seq.take k) wr)) (λi _=>ms (intOf i))
 case atStart=>exact⟨0,Nat.zero_le _,⟨_,rfl,⟨by rw [HP0.o]⟩⟩,⟨by simp⟩,aU,h0⟩
 case round =>
  obtain⟨k,hk,⟨z,rfl,hzp⟩,hig,hsep,hj⟩:=hrel;obtain⟨q1,q2,q3,q4,q5,q6⟩:=HG.o wr hsep.o;have B2:=bx q2;have B3:=bx q3;have B4:=bx q4;have BK:=bx q5;have jO:=bx q6;obtain⟨lo,lc,hlv⟩:=(HR.o wr q6).2.slice;rw [HN.o] at hlv;subst hlv;have c0:wr.cell? ⟨bs,0,none⟩=some (.int .i64 st):=(q2.cell 0).trans rfl;have c1:wr.cell? ⟨bw,0,none⟩=some (.pointer (some ⟨g,0,none⟩)):=(q3.cell 0).trans rfl;have c2:wr.cell? ⟨g,7,none⟩=some (.slice lo N lc):=(q4.cell 7).trans rfl;clear q1 q2 q3 q4 q5 q6 h0
  by_cases hlt:k<L
  ·obtain⟨x,hx⟩:∃ x,seq[k]?=some x:=⟨_,List.getElem?_eq_getElem (by rw [kX.o];exact hlt)⟩
   obtain⟨p,hp,hpx⟩:=HW.o.in_ k x hx;have xE:p<N:=by rw [<- HN.o];exact(List.getElem?_eq_some_iff.1 hpx).1
   have IC:=bx hp;obtain rfl:z=(p:Int):=by rw [hzp.o,hp]
   obtain⟨lg,off,cap2,hg1,hg2,hg3,hg4,hg5⟩:=((HR.o wr jO.o).2).get (by rintro rfl;simp at hpx);rw [HN.o] at hg1 hg2;obtain⟨rfl,rfl⟩:lo=some ⟨lg,off,none⟩/\lc=cap2:=by injection hg1 with h1 h2 h3;exact⟨h1,h3⟩
   have hcx:=hg5 p x hpx;have HCX:=bx hcx;have qW:=bx (jX.o x (List.mem_of_getElem? hpx));have gI:=bx (show seq.take (k+1)=seq.take k++[x] by rw [List.take_add_one,hx];rfl);have lW:=bx (show seq=seq.take k++x::seq.drop (k+1) by
    have e:=List.drop_eq_getElem_cons (l:=seq) (i:=k) (by rw [kX.o];exact hlt);rw [(List.getElem?_eq_some_iff.1 hx).2] at e;rw [<- e];exact(List.take_append_drop k seq).symm)
   have e0:decide ((0:Int)<=(p:Int))=true:=decide_eq_true (by omega);have e1:decide ((p:Int)<(N:Int))=true:=decide_eq_true (by omega);have VJ:p<=100000:=by omega
   unfold maxLen at hg3;clear hx hpx hp hg1 hg5
   gi_wp2
   refine wpIn_wide.2 ?_;have zB:=bx (acS (λk=>k=km) wr 1);have cZ:=bx (hsep.o.drewN 1);have au:=bx (show wr.drew.cell? ⟨bw,0,none⟩=some (.pointer (some ⟨g,0,none⟩))/\wr.drew.cell? ⟨g,7,none⟩=some (.slice (some ⟨lg,off,none⟩) N lc)/\wr.drew.cell? ⟨lg,off+p,none⟩=some (.int .i64 x) from⟨c1,c2,hcx⟩);refine dO 10 (λW'=>W'.cell? ⟨bw,0,none⟩=some (.pointer (some ⟨g,0,none⟩))/\W'.cell? ⟨g,7,none⟩=some (.slice (some ⟨lg,off,none⟩) N lc)/\W'.cell? ⟨lg,off+p,none⟩=some (.int .i64 x)) (by kernel_rfl) ?_;have zB:=bx (show Turns (λk=>k=km) wr wr.drew from zB.o);have cZ:=bx (show Sep PP wr.drew from cZ.o);have aF:=bx (show Below wr.heap.size wr wr.drew from eu wr 1);clear c0 c1 c2 hcx;generalize wr.drew=WR at zB cZ au aF ⊢;refine kS 0 ?_ rfl au.o ?_ ?_;rotate_left
   ·rintro w ⟨q1,q2,q3⟩;go_simp;try with_reducible rfl
   refine kS 1 ?_ rfl au.o ?_ ?_;rotate_left
   ·rintro w ⟨q1,q2,q3⟩;go_simp;try with_reducible rfl
   refine kS 2 ?_ rfl au.o ?_ ?_;rotate_left
   ·rintro w ⟨q1,q2,q3⟩;go_simp;try with_reducible rfl
   refine kS 3 ?_ rfl au.o ?_ ?_;rotate_left
   ·rintro w ⟨q1,q2,q3⟩;go_simp;try with_reducible rfl
   refine kS 4 ?_ rfl au.o ?_ ?_;rotate_left
   ·rintro w ⟨q1,q2,q3⟩;go_simp;try with_reducible rfl
   refine kS 5 ?_ rfl au.o ?_ ?_;rotate_left
   ·rintro w ⟨q1,q2,q3⟩;go_simp;try with_reducible rfl
   refine kS 6 ?_ rfl au.o ?_ ?_;rotate_left
   ·rintro w ⟨q1,q2,q3⟩;go_simp;try with_reducible rfl
   refine kS 7 ?_ rfl au.o ?_ ?_;rotate_left
   ·rintro w ⟨q1,q2,q3⟩;go_simp;try with_reducible rfl
   refine kS 8 ?_ rfl au.o ?_ ?_;rotate_left
   ·rintro w ⟨q1,q2,q3⟩;go_simp;try with_reducible rfl
   refine kS 9 ?_ rfl au.o ?_ ?_;rotate_left
   ·rintro w ⟨q1,q2,q3⟩;go_simp;try with_reducible rfl
   refine KW (rs:=[10,11]) (by kernel_rfl) (by simp) (pU.cons rfl (λKK aj=>?_) (pU.cons rfl (λKK aj=>?_) pU.nil))
   ·go_simp;obtain⟨q1,q2,q3,q4,q5,q6⟩:=HG.o WR cZ.o;refine(WI g km lv tv ci cb gi gb _ ov c x WR q4 (HR.o WR q6).1 uI.o iG.o qW.o q5).mono ?_;rintro e w4 ⟨rfl,D5,hk4⟩;have dn:=bx (eH.o WR w4 cZ.o D5 hk4);have HT4:=bx (zB.o.trans D5);clear D5 hk4 q1 q2 q3 q4 q5 q6;refine aj.out _ _ (λh=>by cases h) ?_;clear aj KK;refine kP 11 rfl λKK aj=>?_
    go_simp;refine aj.out _ _ (λh=>by cases h) ?_;clear aj KK;refine kP 12 rfl λKK aj=>?_
    go_simp;refine aj.out _ _ (λh=>by cases h) ?_;clear aj KK;refine kD ?_ _;have rG:=bx (ak.new w4 140 #[.bool (T.cased c x), .bool (T.aX c x)]);have nG:=bx (HT4.o.trans (Turns.alloc w4 (.cells #[.bool (T.cased c x), .bool (T.aX c x)] 140)));have uY:=bx (dn.o.alloc (.cells #[.bool (T.cased c x), .bool (T.aX c x)] 140));have hq:=HT4.o.size;generalize w4.alloc (.cells #[.bool (T.cased c x), .bool (T.aX c x)] 140)=wx at rG nG uY ⊢;generalize w4.heap.size=q at rG hq ⊢;have y0:wx.cell? ⟨q,0,none⟩=some (.bool (T.cased c x)):=(rG.o.cell 0).trans rfl;have y1:wx.cell? ⟨q,1,none⟩=some (.bool (T.aX c x)):=(rG.o.cell 1).trans rfl;have yl:=rG.o.lt;have hy0:=Zu.o (seq.take k) x wr wx hj.o nG.o ⟨_,lW.o⟩ hig.o uY.o;obtain⟨fn,tmps,assign,body,hy,uO⟩:=hy0;have Cb:=bx uO;clear uO
    gi_wp2
    refine Cb.o.mono ?_;rintro e W3 (⟨rfl,hj3,ht3⟩ | ⟨rfl,hx3⟩)
    ·have aK:=bx (Sep.kept uY.o ht3 (λk hk hkk=>hk (.inl hkk)));have aO:=bx (ht3.blk rG.o (λhn=>hn (.inr ⟨hq,rG.o.lt⟩)));have AQ:=bx hj3;obtain⟨q1,q2,q3,q4,q5,q6⟩:=HG.o W3 aK.o;have c0:W3.cell? ⟨bs,0,none⟩=some (.int .i64 st):=(q2.cell 0).trans rfl;have z1:W3.cell? ⟨q,1,none⟩=some (.bool (T.aX c x)):=(aO.o.cell 1).trans rfl;clear hj3 ht3 y0 y1 hy yl q1 q2 q3 q4 q5 q6;have nI:=bx (yB.o (seq.take k++[x]) W3 aK.o (seq.drop (k+1)) (by rw [List.append_assoc];exact lW.o))
     cases hi:T.aX c x with
     | true =>
      rw [hi] at z1;have HI:=bx hi;clear hi
      gi_wp2
      go_roundw
      case rel=>exact⟨k+1,hlt,⟨_,rfl,⟨by rw [HW.o.ps,IC.o]⟩⟩,⟨λy hy=>by
       rw [gI.o] at hy
       rcases List.mem_append.1 hy with hy | hy
       ·exact hig.o y hy
       ·rw [List.mem_singleton] at hy;rw [hy];exact HI.o⟩,aK,by rw [gI.o];exact AQ⟩
      case measure =>
       have h1:=HW.o.ms k (by rw [kX.o];omega);have h2:=HW.o.ms (k+1) (by rw [kX.o];omega);rw [HW.o.ps,IC.o] at h2;rw [IC.o] at h1;rw [kX.o] at h1 h2;simp only [intOf];omega
     | false =>
      rw [hi] at z1;have pX:=bx (nI.o (.inr ⟨_,_,rfl,hi⟩));clear hi
      gi_wp2
      rw [Exit.noGoto_normal]
      go_end0
      exact⟨⟨_,rfl⟩, .inl ⟨_,pX.o,AQ.o⟩⟩
    ·gi_wp2
     rw [Exit.noGoto_normal]
     go_end0
     exact⟨⟨_,rfl⟩, .inr ⟨_,hx3⟩⟩
   ·go_simp;obtain⟨q1,q2,q3,q4,q5,q6⟩:=HG.o WR cZ.o;have ou:=bx q5.lt;have hb3:=q3.lt;have hb4:=q4.lt;have hb5:lg<WR.heap.size:=Nat.lt_of_lt_of_le hg4 aF.o.size;have HAB:=bx (aS WR (.cells #[.bool false, .bool false] 140));have rQ:=bx (cZ.o.alloc (.cells #[.bool false, .bool false] 140));have Xk:=bx (ak.new WR 140 #[.bool false, .bool false]);have fG:=bx (show (WR.alloc (.cells #[.bool false, .bool false] 140)).cell? ⟨bw,0,none⟩=some (.pointer (some ⟨g,0,none⟩))/\(WR.alloc (.cells #[.bool false, .bool false] 140)).cell? ⟨g,7,none⟩=some (.slice (some ⟨lg,off,none⟩) N lc)/\(WR.alloc (.cells #[.bool false, .bool false] 140)).cell? ⟨lg,off+p,none⟩=some (.int .i64 x) from
     ⟨(HAB.o.cell (p:=⟨bw,0,none⟩) hb3).trans au.o.1,(HAB.o.cell (p:=⟨g,7,none⟩) hb4).trans au.o.2.1,(HAB.o.cell (p:=⟨lg,off+p,none⟩) hb5).trans au.o.2.2⟩)
    have Ea:=bx (Turns.alloc (own:=λk=>wr.heap.size<=k\/k=km) WR (.cells #[.bool false, .bool false] 140));clear q1 q2 q3 q4 q5 q6 hb3 hb4 hb5;refine aj.out _ _ (λ_=>fG.o) ?_;clear aj KK;generalize WR.alloc (.cells #[.bool false, .bool false] 140)=WA at HAB rQ Xk fG Ea ⊢;refine kP 10 rfl λKK aj=>?_
    go_simp;obtain⟨q1,q2,q3,q4,q5,q6⟩:=HG.o WA rQ.o;refine(WI g km lv tv ci cb gi gb _ ov c x WA q4 (HR.o WA q6).1 uI.o iG.o qW.o q5).mono ?_;rintro e w4 ⟨rfl,D5,hk4⟩;have dn:=bx (eH.o WA w4 rQ.o D5 hk4);have HT4:=bx D5;have zF:=bx (D5.blk Xk.o (by have:=ou.o;omega));clear D5 hk4 q1 q2 q3 q4 q5 q6;have z0:w4.cell? ⟨WR.heap.size,0,none⟩=some (.bool false):=(zF.o.cell 0).trans rfl;have z1:w4.cell? ⟨WR.heap.size,1,none⟩=some (.bool false):=(zF.o.cell 1).trans rfl;have f0:=zF.o.frozen 0;have f1:=zF.o.frozen 1;have zl:=zF.o.lt;refine aj.out _ _ (λh=>by cases h) ?_;clear aj KK;refine kP 12 rfl λKK aj=>?_
    go_simp;refine aj.out _ _ (λh=>by cases h) ?_;clear aj KK;refine kD ?_ _;have hq:wr.heap.size<=WR.heap.size:=aF.o.size;have Jm:=bx ((Turns.setCell (own:=λk=>k=WR.heap.size) w4 (p:=⟨WR.heap.size,0,none⟩) rfl (.bool (T.cased c x))).trans (Turns.setCell (own:=λk=>k=WR.heap.size) _ (p:=⟨WR.heap.size,1,none⟩) rfl (.bool (T.aX c x))));have rG:=bx ((zF.o.bP 0 (.bool (T.cased c x))).bP 1 (.bool (T.aX c x)));have nG:=bx (U1 (own:=λk=>k=km) aF.o ((Ea.o.trans (HT4.o.mono (λk h=>.inr h))).trans (Jm.o.mono (λk h=>.inl (by rw [h];exact hq)))));have uY:=bx (dn.o.keep Jm.o (λp hp k hk e=>by have:=cZ.o.lt hp hk;omega));generalize (w4.setCell ⟨WR.heap.size,0,none⟩ (.bool (T.cased c x))).setCell ⟨WR.heap.size,1,none⟩ (.bool (T.aX c x))=wx at rG nG uY ⊢;clear z0 z1 f0 f1 zl zF Jm Ea Xk HAB fG au rQ dn HT4 zB cZ aF ou;generalize WR.heap.size=q at rG hq ⊢;have rG:=bx (show ak wx q 140 #[.bool (T.cased c x), .bool (T.aX c x)] from rG.o);have y0:wx.cell? ⟨q,0,none⟩=some (.bool (T.cased c x)):=(rG.o.cell 0).trans rfl;have y1:wx.cell? ⟨q,1,none⟩=some (.bool (T.aX c x)):=(rG.o.cell 1).trans rfl;have yl:=rG.o.lt;have hy0:=Zu.o (seq.take k) x wr wx hj.o nG.o ⟨_,lW.o⟩ hig.o uY.o;obtain⟨fn,tmps,assign,body,hy,uO⟩:=hy0;have Cb:=bx uO;clear uO
    gi_wp2
    refine Cb.o.mono ?_;rintro e W3 (⟨rfl,hj3,ht3⟩ | ⟨rfl,hx3⟩)
    ·have aK:=bx (Sep.kept uY.o ht3 (λk hk hkk=>hk (.inl hkk)));have aO:=bx (ht3.blk rG.o (λhn=>hn (.inr ⟨hq,rG.o.lt⟩)));have AQ:=bx hj3;obtain⟨q1,q2,q3,q4,q5,q6⟩:=HG.o W3 aK.o;have c0:W3.cell? ⟨bs,0,none⟩=some (.int .i64 st):=(q2.cell 0).trans rfl;have z1:W3.cell? ⟨q,1,none⟩=some (.bool (T.aX c x)):=(aO.o.cell 1).trans rfl;clear hj3 ht3 y0 y1 hy yl q1 q2 q3 q4 q5 q6;have nI:=bx (yB.o (seq.take k++[x]) W3 aK.o (seq.drop (k+1)) (by rw [List.append_assoc];exact lW.o))
     cases hi:T.aX c x with
     | true =>
      rw [hi] at z1;have HI:=bx hi;clear hi
      gi_wp2
      go_roundw
      case rel=>exact⟨k+1,hlt,⟨_,rfl,⟨by rw [HW.o.ps,IC.o]⟩⟩,⟨λy hy=>by
       rw [gI.o] at hy
       rcases List.mem_append.1 hy with hy | hy
       ·exact hig.o y hy
       ·rw [List.mem_singleton] at hy;rw [hy];exact HI.o⟩,aK,by rw [gI.o];exact AQ⟩
      case measure =>
       have h1:=HW.o.ms k (by rw [kX.o];omega);have h2:=HW.o.ms (k+1) (by rw [kX.o];omega);rw [HW.o.ps,IC.o] at h2;rw [IC.o] at h1;rw [kX.o] at h1 h2;simp only [intOf];omega
     | false =>
      rw [hi] at z1;have pX:=bx (nI.o (.inr ⟨_,_,rfl,hi⟩));clear hi
      gi_wp2
      rw [Exit.noGoto_normal]
      go_end0
      exact⟨⟨_,rfl⟩, .inl ⟨_,pX.o,AQ.o⟩⟩
    ·gi_wp2
     rw [Exit.noGoto_normal]
     go_end0
     exact⟨⟨_,rfl⟩, .inr ⟨_,hx3⟩⟩
  ·obtain rfl:k=L:=by omega
   have Aw:=bx (show seq=seq.take k++[] by rw [List.append_nil,List.take_of_length_le (by rw [kX.o];exact Nat.le_refl _)]);have wZ:=bx (yB.o (seq.take k) wr hsep.o [] Aw.o (.inl rfl));have hout:=HW.o.o;rw [kX.o,<- hzp.o,HN.o] at hout
   rcases hout with hout | ⟨ho1,ho2⟩
   ·have e0:decide ((0:Int)<=z)=false:=decide_eq_false (by omega);clear hout
    gi_wp2
    rw [Exit.noGoto_normal]
    go_end0
    exact⟨⟨_,rfl⟩, .inl ⟨_,wZ.o,hj.o⟩⟩
   ·have e0:decide ((0:Int)<=z)=true:=decide_eq_true (by omega);have e1:decide (z<(N:Int))=false:=decide_eq_false (by omega);clear ho1 ho2
    gi_wp2
    rw [Exit.noGoto_normal]
    go_end0
    exact⟨⟨_,rfl⟩, .inl ⟨_,wZ.o,hj.o⟩⟩
theorem acR {own own':Nat->Prop} {A B:World} (h:Turns own A B) (hm:∀ k,own k->k<A.heap.size->own' k):Turns own' A B:=⟨h.os,h.tape,h.output,h.size,λi hi ho=>h.block i hi (λe=>ho (hm i e hi))⟩
theorem aaL (g km:Nat) (a st:Int) (lv tv ci cb gi gb lval ov:Value) (c:T.Cs) (hs:T.Small c) (hc:T.cu 600 c=true) (ps:List Pc) (xs seq:List Int) (hx:∀ x∈xs,U.right x=true) (hz:xs.length<=100000)
  (hR:∀ W,Sep ps W->bC W (.agg #[lv,tv,ci,cb,gi,gb]) c/\ay W lval xs) (pos:Nat->Int) (ms:Int->Nat) (hw:Way xs seq a st pos ms) (w:World)
  (hS:Sep (Pc.blk g 79 #[lv,tv,ci,cb,gi,gb, .map (some km),lval,ov]::Pc.known km c::ps) w) :
  Calls Tryz.prog 74 #[.pointer (some ⟨g,0,none⟩), .int .i64 a, .int .i64 st] w λe w'=>e = .returned (.bool (T.meets c seq))/\Turns (λk=>k=km) w w'/\lU w' km c:=by
 have hkl:km<w.heap.size:=(hS.at' 1 (p:=Pc.known km c) rfl:lU w km c).lt;have HS:=bx hS;clear hS;refine(callsIn_wide (n:=9)).1 (callsIn_of_wp_marks Tryz.func74 rfl trivial (wpIn_wide.2 ?_));simp only [Tryz.ntmps74,List.size_toArray,List.length_cons,List.length_nil,Nat.reduceAdd,Nat.reduceSub,Array.replicate_succ,Array.replicate_zero,List.push_toArray,List.append_toArray,List.nil_append,List.cons_append];go_wp2_with (go_at_call 129;refine(ali _ _ _ _).mono ?_;rintro e w' ⟨rfl,rfl⟩)
 have HSL:=bx (show Sep (Fg (w.heap.size+1+1) (w.heap.size+1+1+1) (w.heap.size+1) g km a st #[lv,tv,ci,cb,gi,gb, .map (some km),lval,ov] c ps) ((((w.alloc (.cells #[.bool false] 4)).alloc (.cells #[.pointer (some ⟨g,0,none⟩)] 66)).alloc (.cells #[.int .i64 a] 3)).alloc (.cells #[.int .i64 st] 3)) by
  have h:=(((HS.o.alloc (.cells #[.bool false] 4)).dh 66 #[.pointer (some ⟨g,0,none⟩)]).dh 3 #[.int .i64 a]).dh 3 #[.int .i64 st];simp only [World.size_alloc] at h;exact Sep.perm (List.Perm.swap _ _ _) h)
 obtain⟨hb0,hb1,hb2,hb3,hbL,hsz⟩:=four w #[.bool false] #[.pointer (some ⟨g,0,none⟩)] #[.int .i64 a] #[.int .i64 st] 4 66 3 3;generalize (((w.alloc (.cells #[.bool false] 4)).alloc (.cells #[.pointer (some ⟨g,0,none⟩)] 66)).alloc (.cells #[.int .i64 a] 3)).alloc (.cells #[.int .i64 st] 3)=wL at HSL hb0 hb1 hb2 hb3 hbL hsz ⊢;have lq:=bx (Turns.of_below (own:=λk=>w.heap.size<=k\/k=km) hbL);have HB0:=bx hb0;clear hb0 hb1 hb2 hb3 hbL;have hst:∀ (pre:List Int) (W W':World),((∀ y∈pre,T.cased c y=false)/\ak W w.heap.size 4 #[.bool false]/\Turns (λk=>w.heap.size<=k\/k=km) w W)->Turns (λk=>k=km\/k=wL.heap.size+1) W W' ->
   ((∀ y∈pre,T.cased c y=false)/\ak W' w.heap.size 4 #[.bool false]/\Turns (λk=>w.heap.size<=k\/k=km) w W'):=by
  rintro pre W W' ⟨h1,h2,h3⟩ ht;exact⟨h1,ht.blk h2 (by omega),h3.trans (ht.mono (λk hk=>by omega))⟩
 refine(wpIn_wide (n:=9)).1 (anh (α:=Int) (gf:=168) (lb:=#[.pointer (some ⟨w.heap.size+1+1,0,none⟩), .pointer (some ⟨w.heap.size+1+1+1,0,none⟩), .pointer (some ⟨w.heap.size+1,0,none⟩)]) rfl (enters_of Tryz.func168 (by kernel_rfl) rfl)
  (encs:=λx:Int=>#[.agg #[.bool (T.cased c x), .bool (T.aX c x)]]) (own:=λk=>k=km) (keep:=U8 (Fg (w.heap.size+1+1) (w.heap.size+1+1+1) (w.heap.size+1) g km a st #[lv,tv,ci,cb,gi,gb, .map (some km),lval,ov] c ps))
  (ok:=acf (w.heap.size+1+1) (w.heap.size+1+1+1) (w.heap.size+1) g km a st #[lv,tv,ci,cb,gi,gb, .map (some km),lval,ov] c ps seq) (S:=Us (w.heap.size+1+1) (w.heap.size+1+1+1) (w.heap.size+1) g km a st #[lv,tv,ci,cb,gi,gb, .map (some km),lval,ov] c ps seq)
  (λk hk=>by
   rcases hk with rfl | ⟨p,hp,hk⟩
   ·omega
   ·exact HSL.o.lt hp hk)
  (λW1 ht=>afz 7 (w.heap.size+1+1) (w.heap.size+1+1+1) (w.heap.size+1) g km a st lv tv ci cb gi gb lval ov c hs hc ps xs seq hx hz hR pos ms hw _ W1 (HSL.o.keep ht (λ_ _ _ _ h=>h)))
  (λ_=>rfl)
  (λpre W=>(∀ y∈pre,T.cased c y=false)/\ak W w.heap.size 4 #[.bool false]/\Turns (λk=>w.heap.size<=k\/k=km) w W)
  (λd _ W=>d = .ret/\T.meets c seq=true/\ak W w.heap.size 4 #[.bool true]/\Turns (λk=>w.heap.size<=k\/k=km) w W/\lU W km c) ?hI ?hIx ?hokS ⟨by simp,HB0.o,lq.o⟩
  (λx a1 W=>∃ q,a1={ tmps:=#[.pointer (some ⟨g,0,none⟩), .int .i64 a, .int .i64 st,undef,undef,undef, .pointer (some ⟨w.heap.size,0,none⟩), .pointer (some ⟨q,0,none⟩), .pointer (some ⟨g,0,none⟩), .int .i64 a, .int .i64 st, .func (.func 168) #[] #[.pointer (some ⟨w.heap.size+1+1,0,none⟩), .pointer (some ⟨w.heap.size+1+1+1,0,none⟩), .pointer (some ⟨w.heap.size+1,0,none⟩)], .agg #[.bool (T.cased c x), .bool (T.aX c x)],undef,undef],defers:=[] }/\ak W q 140 #[.bool (T.cased c x), .bool (T.aX c x)]/\wL.heap.size+2<=q)
  ?hAx ?assign ?body ?done ?stop ?hS)
 case hI=>exact hst
 case hIx =>
  rintro d pre W W' ⟨h1,h2,h3,h4,h5⟩ ht;exact⟨h1,h2,ht.blk h3 (by omega),h4.trans (ht.mono (λk hk=>by omega)),h5.turns ht (by omega)⟩
 case hokS =>
  rintro pre x W W' ⟨h1,h2,h3⟩ ht;exact⟨h1,h2,h3.keep ht (λp hp k hk e=>by have:=HSL.o.lt hp hk;omega)⟩
 case hS =>
  rintro ys W W' ⟨h1,h2⟩ ht;exact⟨h1.keep ht (λp hp k hk e=>by have:=HSL.o.lt hp hk;omega),h2⟩
 case hAx =>
  rintro x a1 W W' ⟨q,h1,h2,h3⟩ ht;exact⟨q,h1,ht.blk h2 (by omega),h3⟩
 case assign =>
  intro x W K hle hK
  gi_wp2
  exact hK _ _ (Turns.alloc _ _) ⟨W.heap.size,rfl,ak.new _ _ _,hle⟩
 case body =>
  rintro pre x a1 W0 W N hW0 hi ht hN ⟨⟨rest,h1⟩,h2,h3⟩ ⟨q,rfl,hq,hqz⟩;obtain⟨i1,i2,i3⟩:=hst pre W0 W hi ht;have hts:=ht.size;have H1:=bx h1;have H2:=bx h2;have H3:=bx h3;have I1:=bx i1;have I2:=bx i2;have I3:=bx i3;have c0:W.cell? ⟨q,0,none⟩=some (.bool (T.cased c x)):=(hq.cell 0).trans rfl;have r0:W.cell? ⟨w.heap.size,0,none⟩=some (.bool false):=(i2.cell 0).trans rfl;have f0:=i2.frozen 0;have rl:=i2.lt;clear h1 h2 h3 i1 i2 i3 hi ht hq
  cases hcx:T.cased c x with
  | true =>
   rw [hcx] at c0;have HM:=bx (show T.meets c seq=true by rw [H1.o];exact T.aan hcx H2.o);clear hcx
   gi_wp2
   have hT:=Turns.setCell (own:=λk=>k=w.heap.size) W (p:=⟨w.heap.size,0,none⟩) rfl (.bool true);exact⟨Holds.Az hT (λk hk=>by omega) (λk hk=>by omega),rfl,HM.o,I2.o.bP 0 _,I3.o.trans (hT.mono (λk hk=>by omega)),(H3.o.at' 4 (p:=Pc.known km c) rfl:lU W km c).turns hT (by omega)⟩
  | false =>
   rw [hcx] at c0;have HX:=bx hcx;clear hcx
   gi_wp2
   exact⟨Turns.refl _ _,λy hy=>by
    rcases List.mem_append.1 hy with hy | hy
    ·exact I1.o y hy
    ·rw [List.mem_singleton] at hy;rw [hy];exact HX.o,I2.o,I3.o⟩
 case stop =>
  rintro d pre W hW ⟨rfl,h1,h2,h3,h4⟩ hD;have HD:=bx hD;have H1:=bx h1;have H2:=bx h2;have H3:=bx h3;have H4:=bx h4;clear h1 h2 h3 h4 hD;refine wpIn_wide.2 ?_;go_wp2_with fail;refine⟨by simp, .inl ⟨_,_,rfl,run_takeDeferred HD.o,?_⟩⟩;have hT:Turns (λk=>k=wL.heap.size) W (W.putObj wL.heap.size (.deferred none)):=Turns.putObj (own:=λk=>k=wL.heap.size) W rfl (.deferred none);exact⟨_,Qu Tryz.results74 _ _ w.heap.size _ rfl (((hT.blk H2.o (by omega)).cell 0).trans rfl) (Tryz.isAgg4 _),by rw [H1.o];rfl,acR (H3.o.trans (hT.mono (λk hk=>by omega))) (λk hk hl=>by omega),H4.o.turns hT (by omega)⟩
 case done =>
  rintro ys W hW ⟨h1,rest,h2,h3⟩ ⟨i1,i2,i3⟩ hD;have HD:=bx hD;have HM:=bx (show T.meets c seq=false by rw [h2];exact T.acu i1 h3);have HK:=bx (h1.at' 4 (p:=Pc.known km c) rfl:lU W km c);have I2:=bx i2;have I3:=bx i3;have r0:W.cell? ⟨w.heap.size,0,none⟩=some (.bool false):=(i2.cell 0).trans rfl;have f0:=i2.frozen 0;have rl:=i2.lt;clear h1 h2 h3 i1 i2 i3 hD;go_wp2_with fail;have hS:=Turns.setCell (own:=λk=>k=w.heap.size) W (p:=⟨w.heap.size,0,none⟩) rfl (.bool false);refine⟨by simp, .inl ⟨_,_,rfl,run_takeDeferred ((hS.block _ (by omega) (by omega)).trans HD.o),?_⟩⟩;have hT:Turns (λk=>k=wL.heap.size) (W.setCell ⟨w.heap.size,0,none⟩ (.bool false)) _:=Turns.putObj (own:=λk=>k=wL.heap.size) _ rfl (.deferred none);exact⟨_,Qu Tryz.results74 _ _ w.heap.size (.bool false) rfl (((hT.blk (I2.o.bP 0 _) (by omega)).cell 0).trans rfl) (Tryz.isAgg4 _),by rw [HM.o],
   acR ((I3.o.trans (hS.mono (λk hk=>by omega))).trans (hT.mono (λk hk=>by omega))) (λk hk hl=>by omega),(HK.o.turns hS (by omega)).turns hT (by omega)⟩
def wX (g km:Nat) (cs:Array Value) (c:T.Cs) (ps:List Pc):List Pc:=Pc.blk g 79 cs::Pc.known km c::ps
theorem afr {g km:Nat} {cs:Array Value} {c:T.Cs} {ps:List Pc} {W W':World} (h:Sep (wX g km cs c ps) W) (ht:Turns (λk=>k=km) W W') (hk:lU W' km c):Sep (wX g km cs c ps) W' :=
 Sep.upd (ps:=wX g km cs c ps) (own:=λk=>k=km) 1 h rfl ht (λ_ h _=>h) (p':=Pc.known km c) hk (λ_ h=>.inl h)
theorem am1 {xs:List Int} {a:Nat} (ha:a<=xs.length) (hz:xs.length<=100000):Way xs (xs.take a).reverse a (-1) (λk=>(a:Int)-1-k) (λz=>(z+1).toNat) where
 a0:=by omega
 a1:=by omega
 s0:=by omega
 s1:=by omega
 p0:=by simp;omega
 ps k:=by simp;omega
 ms k hk:=by
  rw [List.length_reverse,List.length_take,Nat.min_eq_left ha] at *;omega
 in_ k x hx:=by
  have hk:=(List.getElem?_eq_some_iff.1 hx).1;rw [List.length_reverse,List.length_take,Nat.min_eq_left ha] at hk;refine⟨a-1-k,by omega,?_⟩;rw [List.getElem?_reverse (by rw [List.length_take,Nat.min_eq_left ha];exact hk),List.length_take,Nat.min_eq_left ha,List.getElem?_take_of_lt (by omega)] at hx;exact hx
 o:=by
  rw [List.length_reverse,List.length_take,Nat.min_eq_left ha]
  left
  omega
theorem ako {xs:List Int} {a:Nat} (ha:a<xs.length) (hz:xs.length<=100000):Way xs (xs.drop (a+1)) a 1 (λk=>(a:Int)+1+k) (λz=>((xs.length:Int)-z).toNat) where
 a0:=by omega
 a1:=by omega
 s0:=by omega
 s1:=by omega
 p0:=by simp
 ps k:=by simp;omega
 ms k hk:=by
  rw [List.length_drop] at *;omega
 in_ k x hx:=by
  have hk:=(List.getElem?_eq_some_iff.1 hx).1;refine⟨a+1+k,by omega,?_⟩;rw [List.getElem?_drop] at hx;exact hx
 o:=by
  rw [List.length_drop]
  right
  omega
theorem YK (g km a:Nat) (lv tv ci cb gi gb lval ov:Value) (c:T.Cs) (hs:T.Small c) (hc:T.cu 600 c=true) (ps:List Pc) (xs:List Int) (hx:∀ x∈xs,U.right x=true) (hz:xs.length<=100000) (ha:a<xs.length)
  (hR:∀ W,Sep ps W->bC W (.agg #[lv,tv,ci,cb,gi,gb]) c/\ay W lval xs) (w:World) (hS:Sep (wX g km #[lv,tv,ci,cb,gi,gb, .map (some km),lval,ov] c ps) w) :
  Calls Tryz.prog 37 #[.pointer (some ⟨g,0,none⟩), .int .i64 (a:Int)] w λe w'=>e = .returned (.bool (T.final c xs a))/\Turns (λk=>k=km) w w'/\lU w' km c:=by
 have HA:=bx (λW h=>aaL g km a (-1) lv tv ci cb gi gb lval ov c hs hc ps xs _ hx hz hR _ _ (am1 (Nat.le_of_lt ha) hz) W h);have HB:=bx (λW h=>aaL g km a 1 lv tv ci cb gi gb lval ov c hs hc ps xs _ hx hz hR _ _ (ako ha hz) W h);have HF:=bx (show T.final c xs a=(T.meets c (xs.take a).reverse&&!T.meets c (xs.drop (a+1))) from rfl);have HS:=bx hS;clear hS hR;generalize T.meets c (xs.take a).reverse=p at HA HF;generalize T.meets c (xs.drop (a+1))=q at HB HF;generalize T.final c xs a=fin at HF ⊢
 cases p with
 | true =>
  go_enter Tryz.func37,Tryz.ntmps37
  go_wp2_with fail;refine(HA.o _ HS.o).mono ?_;rintro e w1 ⟨rfl,ht1,hk1⟩;have bQ:=bx (afr HS.o ht1 hk1);have HT1:=bx ht1;clear ht1 hk1;go_wp2_with fail;refine(HB.o _ bQ.o).mono ?_;rintro e w2 ⟨rfl,ht2,hk2⟩;have HT2:=bx (HT1.o.trans ht2);have lN:=bx hk2;clear ht2 hk2;go_wp2_with fail;go_ret
  exact⟨aI (by rw [HF.o];rfl),HT2.o,lN.o⟩
 | false =>
  go_enter Tryz.func37,Tryz.ntmps37
  go_wp2_with fail;refine(HA.o _ HS.o).mono ?_;rintro e w1 ⟨rfl,ht1,hk1⟩;have HT1:=bx ht1;have dG:=bx hk1;clear ht1 hk1;go_wp2_with fail;go_ret
  exact⟨aI (by rw [HF.o];rfl),HT1.o,dG.o⟩
def outW (n g km:Nat) (lv tv ci cb gi gb lval ov:Value) (acc:List Int) (c:T.Cs) (ps:List Pc):List Pc:=Pc.row n 3 1 ov acc.length (acc.map (Value.int .i64))::wX g km #[lv,tv,ci,cb,gi,gb, .map (some km),lval,ov] c ps
theorem Py {n g km:Nat} {lv tv ci cb gi gb lval ov:Value} {acc:List Int} {c:T.Cs} {ps:List Pc} {W W':World} (h:Sep (outW n g km lv tv ci cb gi gb lval ov acc c ps) W) (ht:Turns (λk=>k=km) W W') (hk:lU W' km c):Sep (outW n g km lv tv ci cb gi gb lval ov acc c ps) W' :=
 Sep.upd (ps:=outW n g km lv tv ci cb gi gb lval ov acc c ps) (own:=λk=>k=km) 2 h rfl ht (λ_ h _=>h) (p':=Pc.known km c) hk (λ_ h=>.inl h)
theorem NC {n g km k:Nat} {lv tv ci cb gi gb lval ov jg:Value} {acc sm r:List Int} {c:T.Cs} {ps:List Pc} {W:World} (h:Sep ((outW n g km lv tv ci cb gi gb lval ov acc c ps).set 0 (Pc.row n 3 1 jg k (acc.map (Value.int .i64)++sm.map (Value.int .i64)))) W) (hk:k=acc.length+sm.length) (hr:r=acc++sm) :
  Sep (outW n g km lv tv ci cb gi gb lval jg r c ps) (W.setCell ⟨g,8,none⟩ jg):=by
 subst hr hk;rw [<- List.map_append,<- List.length_append] at h;exact h.set 1 rfl 8 jg
theorem Za (n g km a:Nat) (lv tv ci cb gi gb lval ov:Value) (acc:List Int) (c:T.Cs) (hs:T.Small c) (hc:T.cu 600 c=true) (ps:List Pc) (xs:List Int) (hx:∀ x∈xs,U.right x=true) (hz:xs.length<=100000) (ha:a<xs.length) (hacc:acc.length<=900000000)
  (hR:∀ W,Sep ps W->bC W (.agg #[lv,tv,ci,cb,gi,gb]) c/\ay W lval xs) (w:World) (hn:n<=w.heap.size) (hS:Sep (outW n g km lv tv ci cb gi gb lval ov acc c ps) w) :
  Calls Tryz.prog 40 #[.pointer (some ⟨g,0,none⟩), .int .i64 (a:Int)] w λe w'=>(∃ v,e = .returned v)/\∃ jg,Sep (outW n g km lv tv ci cb gi gb lval jg (acc++T.small c xs a) c ps) w':=by
 have HR:=bx (λW (h:Sep (outW n g km lv tv ci cb gi gb lval ov acc c ps) W)=>hR W h.tail.tail.tail);have eF:=bx (λW (h:Sep (outW n g km lv tv ci cb gi gb lval ov acc c ps) W)=>YK g km a lv tv ci cb gi gb lval ov c hs hc ps xs hx hz ha hR W h.tail);have qH:=bx (λ(x:Int) (hxr:U.right x=true) W (h:Sep (outW n g km lv tv ci cb gi gb lval ov acc c ps) W)=>afF _ c x W (HR.o W h).1 hs hc hxr);have D7:=bx (λ(x:Int) (hxr:U.right x=true)=>(T.GX (T.IX hc).1 hxr).1);have HS:=bx hS;obtain⟨lo,lc,hlv⟩:=(HR.o w hS).2.slice;obtain⟨N,hN⟩:∃ N,xs.length=N:=⟨_,rfl⟩
 have HN:=bx hN;rw [hN] at hz ha hlv;obtain⟨x,hxa⟩:∃ x,xs[a]?=some x:=⟨_,List.getElem?_eq_getElem (by rw [HN.o];exact ha)⟩
 obtain⟨lg,off,cap2,hg1,hg2,hg3,hg4,hg5⟩:=(HR.o w hS).2.get (by rintro rfl;simp at hxa);rw [HN.o] at hg1 hg2;have qC:=bx (show lval = .slice (some ⟨lg,off,none⟩) N lc by rw [hg1] at hlv ⊢;injection hlv with e1 e2 e3;rw [e3]);obtain rfl:lc=cap2:=by rw [hg1] at hlv;injection hlv with e1 e2 e3;exact e3.symm
 have fO:=bx (show xs.getD a 0=x by rw [List.getD_eq_getElem?_getD,hxa,Option.getD_some]);have qW:=bx (hx x (List.mem_of_getElem? hxa));have pX:=bx (show T.small c xs a=if (x==931&&T.final c xs a)=true then [962] else T.becomes c.lo x by unfold T.small;rw [fO.o]);have dI:=bx (λ(W:World) (h:Sep (outW n g km lv tv ci cb gi gb lval ov acc c ps) W)=>show W.cell? ⟨g,0,none⟩=some lv/\W.cell? ⟨g,1,none⟩=some tv/\W.cell? ⟨g,2,none⟩=some ci/\W.cell? ⟨g,3,none⟩=some cb/\W.cell? ⟨g,4,none⟩=some gi/\W.cell? ⟨g,5,none⟩=some gb/\W.cell? ⟨g,7,none⟩=some (.slice (some ⟨lg,off,none⟩) N lc)/\W.cell? ⟨lg,off+a,none⟩=some (.int .i64 x)/\g<W.heap.size from by
  have hb:=h.blk 1 rfl;obtain⟨b2,o2,c2,e1,e2,e3,e4,e5⟩:=(HR.o W h).2.get (by rintro rfl;simp at hxa);rw [qC.o] at e1;injection e1 with e1 e6 e7;injection e1 with e1;injection e1 with e1 e8 e9;subst e1 e8;exact⟨(hb.cell 0).trans rfl,(hb.cell 1).trans rfl,(hb.cell 2).trans rfl,(hb.cell 3).trans rfl,(hb.cell 4).trans rfl,(hb.cell 5).trans rfl,(hb.cell 7).trans (by rw [qC.o];rfl),e5 a x hxa,hb.lt⟩)
 have lC:=bx (λ(W:World) (h:Sep (outW n g km lv tv ci cb gi gb lval ov acc c ps) W)=>show W.cell? ⟨g,8,none⟩=some ov/\g<W.heap.size from⟨((h.blk 1 rfl).cell 8).trans rfl,(h.blk 1 rfl).lt⟩);have dQ:=D7.o x qW.o;have Fp:=bx (qH.o x qW.o);unfold maxLen at hg3;clear hS hR hs hc hx hN hxa hg1 hg5 hlv;obtain⟨c0,c1,c2,c3,c4,c5,c7,cx,cl⟩:=dI.o w HS.o
 by_cases h9:x=931
 ·have e9:(x==931)=true:=by rw [beq_iff_eq];exact h9
  have gu:=bx (show T.small c xs a=if T.final c xs a=true then [962] else T.becomes c.lo x by rw [pX.o,e9,Bool.true_and]);generalize T.final c xs a=fb at eF gu;clear h9
  cases fb with
  | true =>
   have bD:=bx (show T.small c xs a=[962] by rw [gu.o,if_pos rfl])
   go_enter Tryz.func40,Tryz.ntmps40
   go_wp2_with fail;refine(eF.o _ HS.o).mono ?_;rintro e w1 ⟨rfl,ht1,hk1⟩;have bQ:=bx (Py HS.o ht1 hk1);obtain⟨p0,p2⟩:=lC.o _ bQ.o;have p1:n<=w1.heap.size:=Nat.le_trans hn ht1.size;have fM:=bx (show acc.length<=1000000000 by omega);clear ht1 hk1 c0 c1 c2 c3 c4 c5 c7 cx cl;go_wp2_with (at_builtin;refine lI (u:=.int .i64 962) rfl _ _ 23 rfl mQ bQ.o 0 rfl rfl rfl rfl fM.o (by omega) p1 ?_;rintro v7 w7 hS7 ⟨Fj,FN,rfl,-,-⟩;have bH:=bx hS7;have p8:w7.cell? ⟨g,8,none⟩=some ov:=((hS7.blk 1 rfl).cell 8).trans rfl;have f8:=(hS7.blk 1 rfl).frozen 8;have l8:=(hS7.blk 1 rfl).lt;clear hS7 p0 p1 p2)
   have dS:=bx (NC (r:=acc++T.small c xs a) (sm:=[962]) bH.o (by simp) (by rw [bD.o]));exact bodyPost_ret (results_none rfl _ _ _) rfl ⟨⟨_,rfl⟩,_,dS.o⟩
  | false =>
   have bD:=bx (show T.small c xs a=T.becomes c.lo x by rw [gu.o,if_neg (by simp)])
   go_enter Tryz.func40,Tryz.ntmps40
   go_wp2_with fail;refine(eF.o _ HS.o).mono ?_;rintro e w1 ⟨rfl,ht1,hk1⟩;have bQ:=bx (Py HS.o ht1 hk1);have bZ:=bx (show n<=w1.heap.size from Nat.le_trans hn ht1.size);clear ht1 hk1 c0 c1 c2 c3 c4 c5 c7 cx cl;go_wp2_with fail;have cZ:=bx (bQ.o.drewN 1);have cZ:=bx (show Sep (outW n g km lv tv ci cb gi gb lval ov acc c ps) w1.drew from cZ.o);have au:=bx (dI.o w1.drew cZ.o);refine dO 17 (λW'=>W'.cell? ⟨g,0,none⟩=some lv/\W'.cell? ⟨g,1,none⟩=some tv/\W'.cell? ⟨g,2,none⟩=some ci/\W'.cell? ⟨g,3,none⟩=some cb/\W'.cell? ⟨g,4,none⟩=some gi/\W'.cell? ⟨g,5,none⟩=some gb/\W'.cell? ⟨g,7,none⟩=some (.slice (some ⟨lg,off,none⟩) N lc)/\W'.cell? ⟨lg,off+a,none⟩=some (.int .i64 x)/\g<W'.heap.size) (by kernel_rfl) ?_;have gJ:=bx (show n<=w1.drew.heap.size from bZ.o);generalize w1.drew=WR at cZ au gJ ⊢;refine kS 0 ?_ rfl au.o ?_ ?_;rotate_left
   ·rintro w ⟨q1,q2,q3,q4,q5,q6,q7,q8,q9⟩;go_simp;try with_reducible rfl
   refine kS 1 ?_ rfl au.o ?_ ?_;rotate_left
   ·rintro w ⟨q1,q2,q3,q4,q5,q6,q7,q8,q9⟩;go_simp;try with_reducible rfl
   refine kS 2 ?_ rfl au.o ?_ ?_;rotate_left
   ·rintro w ⟨q1,q2,q3,q4,q5,q6,q7,q8,q9⟩;go_simp;try with_reducible rfl
   refine kS 3 ?_ rfl au.o ?_ ?_;rotate_left
   ·rintro w ⟨q1,q2,q3,q4,q5,q6,q7,q8,q9⟩;go_simp;try with_reducible rfl
   refine kS 4 ?_ rfl au.o ?_ ?_;rotate_left
   ·rintro w ⟨q1,q2,q3,q4,q5,q6,q7,q8,q9⟩;go_simp;try with_reducible rfl
   refine kS 5 ?_ rfl au.o ?_ ?_;rotate_left
   ·rintro w ⟨q1,q2,q3,q4,q5,q6,q7,q8,q9⟩;go_simp;try with_reducible rfl
   refine kS 6 ?_ rfl au.o ?_ ?_;rotate_left
   ·rintro w ⟨q1,q2,q3,q4,q5,q6,q7,q8,q9⟩;go_simp;try with_reducible rfl
   refine kS 7 ?_ rfl au.o ?_ ?_;rotate_left
   ·rintro w ⟨q1,q2,q3,q4,q5,q6,q7,q8,q9⟩;go_simp;try with_reducible rfl
   refine kS 8 ?_ rfl au.o ?_ ?_;rotate_left
   ·rintro w ⟨q1,q2,q3,q4,q5,q6,q7,q8,q9⟩;go_simp;try with_reducible rfl
   refine kS 9 ?_ rfl au.o ?_ ?_;rotate_left
   ·rintro w ⟨q1,q2,q3,q4,q5,q6,q7,q8,q9⟩;go_simp;try with_reducible rfl
   refine kS 10 ?_ rfl au.o ?_ ?_;rotate_left
   ·rintro w ⟨q1,q2,q3,q4,q5,q6,q7,q8,q9⟩;go_simp;try with_reducible rfl
   refine kS 11 ?_ rfl au.o ?_ ?_;rotate_left
   ·rintro w ⟨q1,q2,q3,q4,q5,q6,q7,q8,q9⟩;go_simp;try with_reducible rfl
   refine kP 12 rfl λKK aj=>?_
   go_simp;refine(Fp.o WR cZ.o).mono ?_;rintro e w5 ⟨⟨v5,rfl,hv5,hf5⟩,hb5⟩;have aG:=bx (cZ.o.below hb5);have fZ:=bx (pG hv5);have jI:=bx (dI.o w5 aG.o);have Uy:=bx (show n<=w5.heap.size from Nat.le_trans gJ.o hb5.size);generalize T.becomes c.lo x=sm at fZ bD dQ;obtain⟨SL,fB⟩:∃ SL,sm.length=SL:=⟨_,rfl⟩
   rw [fB] at fZ dQ;have jl:=bx fB;clear hv5 hf5 hb5 fB;refine aj.out _ _ (λ_=>jI.o) ?_;clear aj KK;refine kP 13 rfl λKK aj=>?_
   go_simp;refine aj.out _ _ (λ_=>jI.o) ?_;clear aj KK;refine kS 14 ?_ rfl jI.o ?_ ?_;rotate_left
   ·rintro w ⟨q1,q2,q3,q4,q5,q6,q7,q8,q9⟩;go_simp;try with_reducible rfl
   refine kS 15 ?_ rfl jI.o ?_ ?_;rotate_left
   ·rintro w ⟨q1,q2,q3,q4,q5,q6,q7,q8,q9⟩;go_simp;try with_reducible rfl
   refine kP 16 rfl λKK aj=>?_
   go_simp;refine aj.out _ _ (λ_=>jI.o) ?_;clear aj KK;refine kP 17 rfl λKK aj=>?_
   go_simp;refine aj.out _ _ (λh=>by cases h) ?_;clear aj KK;refine kD ?_ _;have fM:=bx (show acc.length+SL<=1000000000 by omega);obtain⟨p0,p2⟩:=lC.o _ aG.o;have p1:=Uy.o;go_wp2_with (at_builtin;refine lX rfl _ _ 23 rfl lQ (by decide) aG.o 0 rfl rfl rfl fZ.o (by rw [List.length_map,Nat.mul_one,jl.o]) (by intro z hz;obtain⟨q,-,rfl⟩:=List.mem_map.1 hz;rfl) fM.o (by omega) p1 ?_;rintro v7 w7 hS7;obtain⟨Fj,FN,rfl,-,-⟩:=dN (hS7.row 0 rfl);have bH:=bx hS7;have p8:w7.cell? ⟨g,8,none⟩=some ov:=((hS7.blk 1 rfl).cell 8).trans rfl;have f8:=(hS7.blk 1 rfl).frozen 8;have l8:=(hS7.blk 1 rfl).lt;clear hS7 p0 p1 p2)
   have dS:=bx (NC (r:=acc++T.small c xs a) bH.o (by rw [jl.o]) (by rw [bD.o]))
   go_end0
   exact⟨⟨_,rfl⟩,_,dS.o⟩
 ·have e9:(x==931)=false:=by rw [beq_eq_false_iff_ne];exact h9
  have bD:=bx (show T.small c xs a=T.becomes c.lo x by rw [pX.o,e9,Bool.false_and,if_neg (by simp)]);clear h9
  go_enter Tryz.func40,Tryz.ntmps40
  go_wp2_with fail;clear c0 c1 c2 c3 c4 c5 c7 cx cl;have cZ:=bx (HS.o.drewN 1);have cZ:=bx (show Sep (outW n g km lv tv ci cb gi gb lval ov acc c ps) w.drew from cZ.o);have au:=bx (dI.o w.drew cZ.o);refine dO 17 (λW'=>W'.cell? ⟨g,0,none⟩=some lv/\W'.cell? ⟨g,1,none⟩=some tv/\W'.cell? ⟨g,2,none⟩=some ci/\W'.cell? ⟨g,3,none⟩=some cb/\W'.cell? ⟨g,4,none⟩=some gi/\W'.cell? ⟨g,5,none⟩=some gb/\W'.cell? ⟨g,7,none⟩=some (.slice (some ⟨lg,off,none⟩) N lc)/\W'.cell? ⟨lg,off+a,none⟩=some (.int .i64 x)/\g<W'.heap.size) (by kernel_rfl) ?_;have gJ:=bx (show n<=w.drew.heap.size from hn);generalize w.drew=WR at cZ au gJ ⊢;refine kS 0 ?_ rfl au.o ?_ ?_;rotate_left
  ·rintro w ⟨q1,q2,q3,q4,q5,q6,q7,q8,q9⟩;go_simp;try with_reducible rfl
  refine kS 1 ?_ rfl au.o ?_ ?_;rotate_left
  ·rintro w ⟨q1,q2,q3,q4,q5,q6,q7,q8,q9⟩;go_simp;try with_reducible rfl
  refine kS 2 ?_ rfl au.o ?_ ?_;rotate_left
  ·rintro w ⟨q1,q2,q3,q4,q5,q6,q7,q8,q9⟩;go_simp;try with_reducible rfl
  refine kS 3 ?_ rfl au.o ?_ ?_;rotate_left
  ·rintro w ⟨q1,q2,q3,q4,q5,q6,q7,q8,q9⟩;go_simp;try with_reducible rfl
  refine kS 4 ?_ rfl au.o ?_ ?_;rotate_left
  ·rintro w ⟨q1,q2,q3,q4,q5,q6,q7,q8,q9⟩;go_simp;try with_reducible rfl
  refine kS 5 ?_ rfl au.o ?_ ?_;rotate_left
  ·rintro w ⟨q1,q2,q3,q4,q5,q6,q7,q8,q9⟩;go_simp;try with_reducible rfl
  refine kS 6 ?_ rfl au.o ?_ ?_;rotate_left
  ·rintro w ⟨q1,q2,q3,q4,q5,q6,q7,q8,q9⟩;go_simp;try with_reducible rfl
  refine kS 7 ?_ rfl au.o ?_ ?_;rotate_left
  ·rintro w ⟨q1,q2,q3,q4,q5,q6,q7,q8,q9⟩;go_simp;try with_reducible rfl
  refine kS 8 ?_ rfl au.o ?_ ?_;rotate_left
  ·rintro w ⟨q1,q2,q3,q4,q5,q6,q7,q8,q9⟩;go_simp;try with_reducible rfl
  refine kS 9 ?_ rfl au.o ?_ ?_;rotate_left
  ·rintro w ⟨q1,q2,q3,q4,q5,q6,q7,q8,q9⟩;go_simp;try with_reducible rfl
  refine kS 10 ?_ rfl au.o ?_ ?_;rotate_left
  ·rintro w ⟨q1,q2,q3,q4,q5,q6,q7,q8,q9⟩;go_simp;try with_reducible rfl
  refine kS 11 ?_ rfl au.o ?_ ?_;rotate_left
  ·rintro w ⟨q1,q2,q3,q4,q5,q6,q7,q8,q9⟩;go_simp;try with_reducible rfl
  refine kP 12 rfl λKK aj=>?_
  go_simp;refine(Fp.o WR cZ.o).mono ?_;rintro e w5 ⟨⟨v5,rfl,hv5,hf5⟩,hb5⟩;have aG:=bx (cZ.o.below hb5);have fZ:=bx (pG hv5);have jI:=bx (dI.o w5 aG.o);have Uy:=bx (show n<=w5.heap.size from Nat.le_trans gJ.o hb5.size);generalize T.becomes c.lo x=sm at fZ bD dQ;obtain⟨SL,fB⟩:∃ SL,sm.length=SL:=⟨_,rfl⟩
  rw [fB] at fZ dQ;have jl:=bx fB;clear hv5 hf5 hb5 fB;refine aj.out _ _ (λ_=>jI.o) ?_;clear aj KK;refine kP 13 rfl λKK aj=>?_
  go_simp;refine aj.out _ _ (λ_=>jI.o) ?_;clear aj KK;refine kS 14 ?_ rfl jI.o ?_ ?_;rotate_left
  ·rintro w ⟨q1,q2,q3,q4,q5,q6,q7,q8,q9⟩;go_simp;try with_reducible rfl
  refine kS 15 ?_ rfl jI.o ?_ ?_;rotate_left
  ·rintro w ⟨q1,q2,q3,q4,q5,q6,q7,q8,q9⟩;go_simp;try with_reducible rfl
  refine kP 16 rfl λKK aj=>?_
  go_simp;refine aj.out _ _ (λ_=>jI.o) ?_;clear aj KK;refine kP 17 rfl λKK aj=>?_
  go_simp;refine aj.out _ _ (λh=>by cases h) ?_;clear aj KK;refine kD ?_ _;have fM:=bx (show acc.length+SL<=1000000000 by omega);obtain⟨p0,p2⟩:=lC.o _ aG.o;have p1:=Uy.o;go_wp2_with (at_builtin;refine lX rfl _ _ 23 rfl lQ (by decide) aG.o 0 rfl rfl rfl fZ.o (by rw [List.length_map,Nat.mul_one,jl.o]) (by intro z hz;obtain⟨q,-,rfl⟩:=List.mem_map.1 hz;rfl) fM.o (by omega) p1 ?_;rintro v7 w7 hS7;obtain⟨Fj,FN,rfl,-,-⟩:=dN (hS7.row 0 rfl);have bH:=bx hS7;have p8:w7.cell? ⟨g,8,none⟩=some ov:=((hS7.blk 1 rfl).cell 8).trans rfl;have f8:=(hS7.blk 1 rfl).frozen 8;have l8:=(hS7.blk 1 rfl).lt;clear hS7 p0 p1 p2)
  have dS:=bx (NC (r:=acc++T.small c xs a) bH.o (by rw [jl.o]) (by rw [bD.o]))
  go_end0
  exact⟨⟨_,rfl⟩,_,dS.o⟩
end
end Go.Proofs.YtlmdjifffmofeaaGreatDoor
