/- Texts of this claim. -/
import Derived.Test.YtdenoeakcflnmaaGreatDoorH13

set_option maxRecDepth 100000
set_option maxHeartbeats 8000000
namespace Go.Proofs.YtdenoeakcflnmaaGreatDoor
section
open Go.RowKit
attribute [local go_sem] Oper.semAt_some
theorem qE {P:Program} {w0:World} {o:Oper} {a:Act} {K:Act->World->Prop} {Q:Exit->Act->World->Prop} {E':Prop} {ops:Array Oper} (hgd:o.guard=none) (s x:Operand) (t:TypeId)
  (ho:o.op = .call { callee:=.builtin .append,args:=#[s,x],argTypes:=#[t,t] }) {base:Nat} {e:TypeId} {sz bytes:Nat} (hP:vH P t e sz bytes) (hsz:0<sz) {ps:List Pc} (hS:Sep ps w0) (k:Nat) {v xv:Value} {cs:List Value} {n m:Nat} {xs:List Value}
  (hk:ps[k]?=some (Pc.row base e sz v n xs)) (hs:a.eval s=v) (hx:a.eval x=xv) (hX:rV w0 xv m cs) (hc:cs.length=m*sz) (h1:∀ u∈cs,u.oneCell'=true) (hn:n+m<=1000000000) (hby:bytes<=10000) (hbase:base<=w0.heap.size)
  (h:∀ v' w',Sep (ps.set k (Pc.row base e sz v' (n+m) (xs++cs))) w'->K (a.put o.dst v') w') :
  if Region.wanted o (yielded ops a.tmps)=true then Oper.wp P o a w0 K Q else E':=by
 rw [if_pos (by simp [Region.wanted,hgd])];obtain⟨i,z,ht,hi,hz0,hz1,hz2,hz3⟩:=hP.o
 rcases hX with⟨rfl,rfl,rfl⟩ | ⟨ad,c,rfl,hcl⟩
 ·have hrun:=run_append_owned_none (P:=P) (w:=w0) base t o.type e i sz ht hi v n xs (hS.row k hk);have h8:=h v w0;rw [Nat.add_zero,List.append_nil,show ps.set k (Pc.row base e sz v n xs)=ps by
   obtain⟨h2,h3⟩:=List.getElem?_eq_some_iff.1 hk;rw [<- h3,List.set_getElem_self]] at h8
  unfold Oper.wp;simp [execOp,ho,resolve,invoke,builtin,hs,hx,hrun,Result.andThen];exact h8 hS
 ·have hb:(n+m)*bytes<=1000000000*10000:=Nat.mul_le_mul hn hby;obtain⟨v',w',hr,hown,hgrow,-,hat⟩:=run_append_own_at (P:=P) w0 base t o.type e i z sz bytes ht hi hz0 hz1 hz2 hz3 hsz v n xs (hS.row k hk) ad m c cs hc hcl h1 (by unfold maxLen;omega) (by omega) hbase;unfold Oper.wp execOp;simp only [ho,resolve,invoke,builtin,Sem.run_bind,Sem.run_pure,Result.andThen_ok,List.map_toArray,List.map_cons,List.map_nil,hs,hx,hr];exact h v' w' (hS.grow k hk hgrow hown (by
   rcases hat with e1 | e1
   ·exact .inl e1
   ·exact .inr (λq hq=>by rw [e1] at hq;simp only [Option.some.injEq] at hq;omega)))
theorem ahD {l:List F.aV} {a:Int}:∀ {k:Nat},(∀ (j:Nat) (y:F.aV),j<k->l[j]?=some y->y.1<a)->k<=l.length->(∀ y,l[k]?=some y->¬ y.1<a)->l.takeWhile (λy=>decide (y.1<a))=l.take k/\l.dropWhile (λy=>decide (y.1<a))=l.drop k:=by
 induction l with
 | nil =>
  intro k _ hk _;simp at hk;subst hk;exact⟨rfl,rfl⟩
 | cons x t ih =>
  intro k h1 hk h2
  cases k with
  | zero =>
   have hx:=h2 x rfl;exact⟨List.takeWhile_cons_of_neg (by simpa using hx),List.dropWhile_cons_of_neg (by simpa using hx)⟩
  | succ k =>
   have hx:=h1 0 x (by omega) rfl;obtain⟨i1,i2⟩:=ih (k:=k) (λj y hj hy=>h1 (j+1) y (by omega) (by simpa using hy)) (by simp at hk;omega) (λy hy=>h2 y (by simpa using hy));rw [List.takeWhile_cons_of_pos (by simpa using hx),List.dropWhile_cons_of_pos (by simpa using hx),i1,i2];exact⟨rfl,rfl⟩
theorem yu:∀ {l:List F.aV},∀ u∈l.flatMap bP,u.oneCell'=true:=by
 intro l u hu;obtain⟨y,-,hy⟩:=List.mem_flatMap.1 hu;simp only [bP,List.mem_cons,List.not_mem_nil,or_false] at hy
 rcases hy with rfl | rfl | rfl <;> rfl
theorem iM.cells {w:World} {b off cap:Nat} {l:List F.aV} (h:∀ i x,l[i]?=some x->w.cell? ⟨b,off+i*3,none⟩=some (.int .i64 x.1)/\w.cell? ⟨b,off+i*3+1,none⟩=some (.int .i64 x.2.1)/\w.cell? ⟨b,off+i*3+2,none⟩=some (.int .i64 x.2.2)) (n:Nat):rV w (.slice (some ⟨b,off,none⟩) n cap) n (l.flatMap bP):=by
 refine .inr ⟨_,_,rfl,λj u hu=>?_⟩;have hj:j<(l.flatMap bP).length:=(List.getElem?_eq_some_iff.1 hu).1;rw [uJ] at hj;obtain⟨x,hx⟩:∃ x,l[j / 3]?=some x:=⟨_,List.getElem?_eq_getElem (by omega)⟩
 obtain⟨h0,h1,h2⟩:=h (j / 3) x hx;have hg:=flat_get bP 3 l (j / 3) (j % 3) x (λy _=>rfl) hx (by omega);have ej:j / 3*3+j % 3=j:=by omega
 rw [ej] at hg;have e2:(⟨b,off,none⟩:Addr).add j=⟨b,off+(j / 3*3+j % 3),none⟩:=by rw [ej];unfold Addr.add;by_cases h0:j=0 <;> simp [h0]
 rw [e2];rw [hu] at hg
 rcases (show j % 3=0\/j % 3=1\/j % 3=2 by omega) with e | e | e
 ·rw [e] at hg ⊢
  cases hg;exact h0
 ·rw [e] at hg ⊢
  cases hg;rw [<- Nat.add_assoc];exact h1
 ·rw [e] at hg ⊢
  cases hg;rw [<- Nat.add_assoc];exact h2
theorem Fp {W:World} {q:Nat} {T:TypeId} {cs:List Value} (h:aj W q T cs.toArray):rV W (.slice (some ⟨q,0,none⟩) 1 1) 1 cs :=
 .inr ⟨_,_,rfl,λj u hu=>by
  rw [show (⟨q,0,none⟩:Addr).add j=⟨q,j,none⟩ by unfold Addr.add;by_cases h0:j=0 <;> simp [h0]];exact(h.cell j).trans (by rw [List.getElem?_toArray];exact hu)⟩
theorem adh {w:World} {ad ad':Addr} {cap k:Nat} {l:List F.aV} (h:iM w (.slice (some ad) l.length cap) l) (hk:k<=l.length) (had:k<l.length->ad'=ad.add (k*3)):rV w (.slice (some ad) k cap) k ((l.take k).flatMap bP)/\rV w (.slice (some ad') (l.length-k) (cap-k)) (l.length-k) ((l.drop k).flatMap bP):=by
 by_cases hn:l=[]
 ·subst hn;exact⟨.inr ⟨_,_,rfl,λj u hu=>by simp at hu⟩, .inr ⟨_,_,rfl,λj u hu=>by simp at hu⟩⟩
 ·obtain⟨b,off,cap2,e1,-,-,-,hg⟩:=h.get hn;obtain⟨rfl,rfl⟩:ad=⟨b,off,none⟩/\cap=cap2:=by injection e1 with h1 h2 h3;injection h1 with h1;exact⟨h1,h3⟩
  refine⟨iM.cells (λi x hx=>hg i x ?_) k,?_⟩
  ·rw [List.getElem?_take] at hx
   split at hx
   ·exact hx
   ·cases hx
  ·rcases Nat.lt_or_ge k l.length with h1 | h1
   ·rw [had h1,show (⟨b,off,none⟩:Addr).add (k*3)=⟨b,off+k*3,none⟩ by unfold Addr.add;by_cases h0:k*3=0 <;> simp [h0]];refine iM.cells (λi x hx=>?_) _;rw [List.getElem?_drop] at hx;have h9:=hg (k+i) x hx;rw [show off+k*3+i*3=off+(k+i)*3 by rw [Nat.add_mul];omega];exact h9
   ·rw [List.drop_eq_nil_of_le h1];exact .inr ⟨_,_,rfl,λj u hu=>by simp at hu⟩
theorem ahk (a:Option Addr) (N cap k:Nat) (l:List F.aV) (hk:k<=N) (hc:N<=cap) (hz:cap<=9223372036854775807) (hN:l.length=N) {w0:World} (h0:iM w0 (.slice a N cap) l):∃ L X Y,L+k=N/\(∀ W,(Instr.slice 117 (.slice a N cap) none (some (.int .i64 (k:Int))) none).run Tryz.prog W = .ok X W)/\(∀ W,(Instr.slice 117 (.slice a N cap) (some (.int .i64 (k:Int))) none none).run Tryz.prog W = .ok Y W)/\∀ W,iM W (.slice a N cap) l->rV W X k ((l.take k).flatMap bP)/\rV W Y L ((l.drop k).flatMap bP):=by
 subst hN;have hkc:k<=cap:=by omega
 cases a with
 | none =>
  obtain⟨rfl,rfl⟩:l=[]/\cap=0:=by
   rcases h0 with⟨h1,h2⟩ | ⟨b,off,sp,cap2,h1,_⟩
   ·injection h1 with h1 h2' h3';exact⟨by simpa using h2,h3'⟩
   ·injection h1 with h1;cases h1
  obtain rfl:k=0:=by simpa using hk
  exact⟨0, .slice none 0 0, .slice none 0 0,rfl,λW=>by go_simp,λW=>by go_simp,λW _=>⟨.inl ⟨rfl,rfl,rfl⟩, .inl ⟨rfl,rfl,rfl⟩⟩⟩
 | some ad =>
  have QY:∀ W,(Instr.slice 117 (.slice (some ad) l.length cap) none (some (.int .i64 (k:Int))) none).run Tryz.prog W = .ok (.slice (some ad) k cap) W:=λW=>by go_simp
  by_cases h:cap=k
  ·exact⟨l.length-k, .slice (some ad) k cap, .slice (some ad) (l.length-k) (cap-k),by omega,QY,λW=>by go_simp,λW hW=>adh hW hk (λh1=>by omega)⟩
  ·exact⟨l.length-k, .slice (some ad) k cap, .slice (some (ad.add (k*3))) (l.length-k) (cap-k),by omega,QY,λW=>by go_simp,λW hW=>adh hW hk (λ_=>rfl)⟩
theorem anE (v:Value) (l:List F.aV) (x:F.aV) (w:World) (hv:iM w v l) (hz:l.length<=100000) :
  Calls Tryz.prog 163 #[v, .agg #[.int .i64 x.1, .int .i64 x.2.1, .int .i64 x.2.2]] w λe w'=>(∃ v',e = .returned v'/\w'.ownsRow w.heap.size 175 3 v' (l.length+1) ((F.DV l x).flatMap bP))/\Below w.heap.size w w':=by
 obtain⟨xa,xb,xc⟩:=x;obtain⟨a,cap,rfl,hc1,hc2⟩:=hv.slice;obtain⟨N,hN⟩:∃ N,l.length=N:=⟨_,rfl⟩
 have HN:=bx hN;rw [hN] at hv hc1 hz ⊢;have HV:=bx hv;clear hN;obtain⟨V,hV⟩:∃ V,V=w.alloc (.cells #[.int .i64 xa, .int .i64 xb, .int .i64 xc] 175):=⟨_,rfl⟩
 have Hl:Below w.heap.size w V:=by rw [hV];exact(Below.refl _ _).alloc (Nat.le_refl _) _
 have bI:=bx Hl;have bf:=bx (show aj V w.heap.size 175 #[.int .i64 xa, .int .i64 xb, .int .i64 xc] by rw [hV];exact aj.new _ _ _);have HV0:=bx hV;clear hv hV Hl
 go_enter Tryz.func163,Tryz.ntmps163
 go_upto_region 1 with(fail)
 rw [<- HV0.o];go_wp2_with fail
 go_loopw [5] (λi wr=>∃ k:Nat,k<=N/\i = .int .i64 k/\Box (∀ (j:Nat) (y:F.aV),j<k->l[j]?=some y->y.1<xa)/\Box (Below V.heap.size V wr)) (λi _=>N-(intOf i).toNat)
 case atStart=>exact⟨0,by omega,rfl,⟨λj y h=>by omega⟩,⟨Below.refl _ _⟩⟩
 case round =>
  obtain⟨k,hk,rfl,hno,hb⟩:=hrel;have hbk:=bf.o.below hb.o bf.o.lt;have c0:wr.cell? ⟨w.heap.size,0,none⟩=some (.int .i64 xa):=(hbk.cell 0).trans rfl;have c1:wr.cell? ⟨w.heap.size,1,none⟩=some (.int .i64 xb):=(hbk.cell 1).trans rfl;have c2:wr.cell? ⟨w.heap.size,2,none⟩=some (.int .i64 xc):=(hbk.cell 2).trans rfl;have cl:=hbk.lt;have aJ:=bx (bt bI.o hb.o);have HDR:=bx (λm=>hb.o.trans ((jW wr m).mono hb.o.size));clear hbk
  by_cases hgo:∃ y,l[k]?=some y/\y.1<xa
  ·obtain⟨y,hy,hlt⟩:=hgo;have hkl:k<N:=by rw [<- HN.o];exact(List.getElem?_eq_some_iff.1 hy).1
   obtain⟨g,off,cap2,hg1,hg2,hg3,hg4,hg5⟩:=(HV.o.below aJ.o).get (by rintro rfl;simp at hy);rw [HN.o] at hg1;obtain⟨rfl,rfl⟩:a=some ⟨g,off,none⟩/\cap=cap2:=by injection hg1 with h1 h2 h3;exact⟨h1,h3⟩
   obtain⟨y0,y1,y2⟩:=hg5 k y hy;have HN:=bx (show ∀ (j:Nat) (z:F.aV),j<k+1->l[j]?=some z->z.1<xa from λj z hj hz=>by
    rcases Nat.lt_or_ge j k with h1 | h1
    ·exact hno.o j z h1 hz
    ·obtain rfl:j=k:=by omega
     rw [hy] at hz
     cases hz;exact hlt)
   have e0:decide ((k:Int)<(N:Int))=true:=decide_eq_true (by omega);have e1:decide (y.1<xa)=true:=decide_eq_true hlt;unfold maxLen at hg3;clear hy hlt hg1 hg5;go_wp2_with fail
   go_quiet (fail)
   go_wp2_with fail
   go_roundw
   case rel=>exact⟨k+1,by omega,by go_num,HN,⟨HDR.o _⟩⟩
   case measure=>simp [intOf];omega
  ·obtain⟨Lr,HDW⟩:Box (l.takeWhile (λy=>decide (y.1<xa))=l.take k)/\Box (l.dropWhile (λy=>decide (y.1<xa))=l.drop k):=by
    obtain⟨h1,h2⟩:=ahD (a:=xa) hno.o (by rw [HN.o];exact hk) (λy hy h=>hgo ⟨y,hy,h⟩);exact⟨⟨h1⟩,⟨h2⟩⟩
   have GH:=bx (show F.DV l (xa,xb,xc)=l.take k++(xa,xb,xc)::l.drop k by unfold F.DV;rw [Lr.o,HDW.o]);have DC:=bx hk;obtain⟨L,X,Y,hLk,QY,h33,hcut⟩:=ahk a N cap k l hk hc1 hc2 HN.o HV.o;have yP:=bx (λW (h:Below w.heap.size w W)=>hcut W (HV.o.below h));have dM:=bx hLk;clear hcut hLk;have agG:N=k\/∃ y,l[k]?=some y/\¬ y.1<xa:=by
    rcases Nat.lt_or_ge k N with h | h
    ·exact .inr ⟨l[k]'(by rw [HN.o];exact h),List.getElem?_eq_getElem (by rw [HN.o];exact h),λh9=>hgo ⟨_,List.getElem?_eq_getElem (by rw [HN.o];exact h),h9⟩⟩
    ·exact .inl (by omega)
   clear hgo hno Lr HDW
   rcases agG with rfl | ⟨y,hy,hlt⟩
   ·go_wp2_with fail
    go_quiet (fail)
    go_wp2_with fail;have aF:=bx (show Below w.heap.size w (wr.drewN nq).drew from aJ.o.trans (((jW wr nq).trans (show Below wr.heap.size (wr.drewN nq) (wr.drewN nq).drew from iD (wr.drewN nq) 1)).mono aJ.o.size));have au:=bx (show (λW=>W.cell? ⟨w.heap.size,0,none⟩=some (.int .i64 xa)/\W.cell? ⟨w.heap.size,1,none⟩=some (.int .i64 xb)/\W.cell? ⟨w.heap.size,2,none⟩=some (.int .i64 xc)) (wr.drewN nq).drew from⟨c0,c1,c2⟩);have uo:=bx (show w.heap.size<(wr.drewN nq).drew.heap.size from cl);refine fP 12 (λW=>W.cell? ⟨w.heap.size,0,none⟩=some (.int .i64 xa)/\W.cell? ⟨w.heap.size,1,none⟩=some (.int .i64 xb)/\W.cell? ⟨w.heap.size,2,none⟩=some (.int .i64 xc)) (by kernel_rfl) ?_;generalize (wr.drewN nq).drew=WR at aF au uo ⊢;have dP:=bx (show ∀ W,Below WR.heap.size WR W->(λW=>W.cell? ⟨w.heap.size,0,none⟩=some (.int .i64 xa)/\W.cell? ⟨w.heap.size,1,none⟩=some (.int .i64 xb)/\W.cell? ⟨w.heap.size,2,none⟩=some (.int .i64 xc)) W from λW h=>⟨(h.cell (p:=⟨w.heap.size,0,none⟩) uo.o).trans au.o.1,(h.cell (p:=⟨w.heap.size,1,none⟩) uo.o).trans au.o.2.1,(h.cell (p:=⟨w.heap.size,2,none⟩) uo.o).trans au.o.2.2⟩);have Jr:=bx (show ∀ W,Below WR.heap.size WR W->rV W (X) N ((l.take N).flatMap bP) from λW h=>(yP.o W (bt aF.o h)).1);have KI:=bx (show ∀ W,Below WR.heap.size WR W->rV W (Y) L ((l.drop N).flatMap bP) from λW h=>(yP.o W (bt aF.o h)).2);have aQ:=bx ((Sep.start WR).iW WR.heap.size 3 175);have htl:((l.take N).flatMap bP).length=N*3:=by rw [uJ,List.length_take,HN.o,Nat.min_eq_left DC.o]
    clear c0 c1 c2 cl;refine kS 0 ?_ rfl au.o ?_ ?_;rotate_left
    ·rintro w ⟨q1,q2,q3⟩;go_simp;try with_reducible rfl
    refine kS 1 ?_ rfl au.o ?_ ?_;rotate_left
    ·rintro w ⟨q1,q2,q3⟩;go_simp;try with_reducible rfl
    refine kS 2 ?_ rfl au.o ?_ ?_;rotate_left
    ·rintro w ⟨q1,q2,q3⟩;go_simp;try with_reducible rfl
    refine kS 3 ?_ rfl au.o ?_ ?_;rotate_left
    ·rintro w ⟨q1,q2,q3⟩;go_simp;try with_reducible rfl
    refine kS 8 ?_ rfl au.o ?_ ?_;rotate_left
    ·rintro w ⟨q1,q2,q3⟩;go_simp;try with_reducible rfl
    refine kS 9 ?_ rfl au.o ?_ ?_;rotate_left
    ·rintro w ⟨q1,q2,q3⟩;go_simp;try with_reducible rfl
    refine kS 10 ?_ rfl au.o ?_ ?_;rotate_left
    ·rintro w ⟨q1,q2,q3⟩;go_simp;try with_reducible rfl
    refine kS 5 ?_ rfl au.o ?_ ?_;rotate_left
    ·rintro w ⟨q1,q2,q3⟩;go_simp;try with_reducible rfl
    refine OW (rs:=[4,6]) (by kernel_rfl) (by simp) (qO.cons rfl (λKK ah=>?_) (qO.cons rfl (λKK ah=>?_) qO.nil))
    ·refine qE rfl _ _ 117 rfl nV (by decide) aQ.o 0 rfl (by kernel_rfl) (by kernel_rfl) (m:=N) (cs:=(l.take N).flatMap bP) (Jr.o _ (Below.refl _ _)) htl yu (by omega) (by omega) (Nat.le_refl _) ?_;rintro v4 w4 hS4;have aY:=bx hS4;have HB4:=bx (aY.o.bel (n:=WR.heap.size) (W0:=WR) (by simp));clear hS4;refine ah.out _ _ (λ_=>dP.o _ HB4.o) ?_;clear ah KK;refine kP 6 rfl λKK ah=>?_
     go_simp;have bU:=bx (aY.o.bM 175 #[.int .i64 xa, .int .i64 xb, .int .i64 xc]);refine ah.out _ _ (λ_=>dP.o _ (bU.o.bel (n:=WR.heap.size) (W0:=WR) (by simp))) ?_;clear ah KK;have aK:=bx (bU.o.bel (n:=WR.heap.size) (W0:=WR) (by simp));refine kP 7 rfl λKK ah=>?_
     refine qE rfl _ _ 117 rfl nV (by decide) bU.o 1 rfl (by kernel_rfl) (by kernel_rfl) (m:=1) (cs:=bP (xa,xb,xc)) (Fp (bU.o.blk 0 rfl)) rfl (by intro u hu;simp only [bP,List.mem_cons,List.not_mem_nil,or_false] at hu;rcases hu with rfl | rfl | rfl <;> rfl) (by omega) (by omega) aK.o.size ?_;rintro v7 w7 hS7;have dX:=bx hS7;have bW:=bx (dX.o.bel (n:=WR.heap.size) (W0:=WR) (by simp));clear hS7;refine ah.out _ _ (λ_=>dP.o _ bW.o) ?_;clear ah KK;refine kP 11 rfl λKK ah=>?_
     refine qE rfl _ _ 117 rfl nV (by decide) dX.o 1 rfl (by kernel_rfl) (by kernel_rfl) (m:=L) (cs:=(l.drop N).flatMap bP) (KI.o _ bW.o) (by rw [uJ,List.length_drop];have:=dM.o;have:=HN.o;omega) yu (by have:=dM.o;omega) (by omega) bW.o.size ?_;rintro v8 w8 jY;have kM:=bx jY;have eF:=bx (kM.o.bel (n:=WR.heap.size) (W0:=WR) (by simp));clear jY;refine ah.out _ _ (λ_=>dP.o _ eF.o) ?_;clear ah KK;refine kP 12 rfl λKK ah=>?_
     go_simp;refine ah.out _ _ (λh=>by cases h) ?_;clear ah KK;refine kD ?_ _;go_wp2_with fail;go_ret
     refine⟨⟨_,rfl,?_⟩,bt aF.o eF.o⟩;have hrow:=own_base (kM.o.row 1 rfl) (show w.heap.size<=WR.heap.size from aF.o.size);rw [show 0+N+1+L=N+1 by have:=dM.o;omega,List.nil_append] at hrow;rw [GH.o,List.flatMap_append,List.flatMap_cons,<- List.append_assoc];exact hrow
    ·go_simp;have bU:=bx (aQ.o.bM 175 #[.int .i64 xa, .int .i64 xb, .int .i64 xc]);have dO:=bx (bU.o.bel (n:=WR.heap.size) (W0:=WR) (by simp));refine ah.out _ _ (λ_=>dP.o _ dO.o) ?_;clear ah KK;refine kP 4 rfl λKK ah=>?_
     refine qE rfl _ _ 117 rfl nV (by decide) bU.o 1 rfl (by kernel_rfl) (by kernel_rfl) (m:=N) (cs:=(l.take N).flatMap bP) (Jr.o _ dO.o) htl yu (by omega) (by omega) dO.o.size ?_;rintro v4 w4 hS4;have aY:=bx hS4;have HB4:=bx (aY.o.bel (n:=WR.heap.size) (W0:=WR) (by simp));clear hS4;refine ah.out _ _ (λ_=>dP.o _ HB4.o) ?_;clear ah KK;have aK:=bx (aY.o.bel (n:=WR.heap.size) (W0:=WR) (by simp));refine kP 7 rfl λKK ah=>?_
     refine qE rfl _ _ 117 rfl nV (by decide) aY.o 1 rfl (by kernel_rfl) (by kernel_rfl) (m:=1) (cs:=bP (xa,xb,xc)) (Fp (aY.o.blk 0 rfl)) rfl (by intro u hu;simp only [bP,List.mem_cons,List.not_mem_nil,or_false] at hu;rcases hu with rfl | rfl | rfl <;> rfl) (by omega) (by omega) aK.o.size ?_;rintro v7 w7 hS7;have dX:=bx hS7;have bW:=bx (dX.o.bel (n:=WR.heap.size) (W0:=WR) (by simp));clear hS7;refine ah.out _ _ (λ_=>dP.o _ bW.o) ?_;clear ah KK;refine kP 11 rfl λKK ah=>?_
     refine qE rfl _ _ 117 rfl nV (by decide) dX.o 1 rfl (by kernel_rfl) (by kernel_rfl) (m:=L) (cs:=(l.drop N).flatMap bP) (KI.o _ bW.o) (by rw [uJ,List.length_drop];have:=dM.o;have:=HN.o;omega) yu (by have:=dM.o;omega) (by omega) bW.o.size ?_;rintro v8 w8 jY;have kM:=bx jY;have eF:=bx (kM.o.bel (n:=WR.heap.size) (W0:=WR) (by simp));clear jY;refine ah.out _ _ (λ_=>dP.o _ eF.o) ?_;clear ah KK;refine kP 12 rfl λKK ah=>?_
     go_simp;refine ah.out _ _ (λh=>by cases h) ?_;clear ah KK;refine kD ?_ _;go_wp2_with fail;go_ret
     refine⟨⟨_,rfl,?_⟩,bt aF.o eF.o⟩;have hrow:=own_base (kM.o.row 1 rfl) (show w.heap.size<=WR.heap.size from aF.o.size);rw [show 0+N+1+L=N+1 by have:=dM.o;omega,List.nil_append] at hrow;rw [GH.o,List.flatMap_append,List.flatMap_cons,<- List.append_assoc];exact hrow
   ·have hkl:k<N:=by rw [<- HN.o];exact(List.getElem?_eq_some_iff.1 hy).1
    obtain⟨g,off,cap2,hg1,hg2,hg3,hg4,hg5⟩:=(HV.o.below aJ.o).get (by rintro rfl;simp at hy);rw [HN.o] at hg1;obtain⟨rfl,rfl⟩:a=some ⟨g,off,none⟩/\cap=cap2:=by injection hg1 with h1 h2 h3;exact⟨h1,h3⟩
    obtain⟨y0,y1,y2⟩:=hg5 k y hy;have e0:decide ((k:Int)<(N:Int))=true:=decide_eq_true (by omega);have e1:decide (y.1<xa)=false:=decide_eq_false hlt;unfold maxLen at hg3;clear hy hlt hg1 hg5;go_wp2_with fail
    go_quiet (fail)
    go_wp2_with fail;clear y0 y1 y2 e1;have aF:=bx (show Below w.heap.size w (wr.drewN nq).drew from aJ.o.trans (((jW wr nq).trans (show Below wr.heap.size (wr.drewN nq) (wr.drewN nq).drew from iD (wr.drewN nq) 1)).mono aJ.o.size));have au:=bx (show (λW=>W.cell? ⟨w.heap.size,0,none⟩=some (.int .i64 xa)/\W.cell? ⟨w.heap.size,1,none⟩=some (.int .i64 xb)/\W.cell? ⟨w.heap.size,2,none⟩=some (.int .i64 xc)) (wr.drewN nq).drew from⟨c0,c1,c2⟩);have uo:=bx (show w.heap.size<(wr.drewN nq).drew.heap.size from cl);refine fP 12 (λW=>W.cell? ⟨w.heap.size,0,none⟩=some (.int .i64 xa)/\W.cell? ⟨w.heap.size,1,none⟩=some (.int .i64 xb)/\W.cell? ⟨w.heap.size,2,none⟩=some (.int .i64 xc)) (by kernel_rfl) ?_;generalize (wr.drewN nq).drew=WR at aF au uo ⊢;have dP:=bx (show ∀ W,Below WR.heap.size WR W->(λW=>W.cell? ⟨w.heap.size,0,none⟩=some (.int .i64 xa)/\W.cell? ⟨w.heap.size,1,none⟩=some (.int .i64 xb)/\W.cell? ⟨w.heap.size,2,none⟩=some (.int .i64 xc)) W from λW h=>⟨(h.cell (p:=⟨w.heap.size,0,none⟩) uo.o).trans au.o.1,(h.cell (p:=⟨w.heap.size,1,none⟩) uo.o).trans au.o.2.1,(h.cell (p:=⟨w.heap.size,2,none⟩) uo.o).trans au.o.2.2⟩);have Jr:=bx (show ∀ W,Below WR.heap.size WR W->rV W (X) k ((l.take k).flatMap bP) from λW h=>(yP.o W (bt aF.o h)).1);have KI:=bx (show ∀ W,Below WR.heap.size WR W->rV W (Y) L ((l.drop k).flatMap bP) from λW h=>(yP.o W (bt aF.o h)).2);have aQ:=bx ((Sep.start WR).iW WR.heap.size 3 175);have htl:((l.take k).flatMap bP).length=k*3:=by rw [uJ,List.length_take,HN.o,Nat.min_eq_left DC.o]
    clear c0 c1 c2 cl;refine kS 0 ?_ rfl au.o ?_ ?_;rotate_left
    ·rintro w ⟨q1,q2,q3⟩;go_simp;try with_reducible rfl
    refine kS 1 ?_ rfl au.o ?_ ?_;rotate_left
    ·rintro w ⟨q1,q2,q3⟩;go_simp;try with_reducible rfl
    refine kS 2 ?_ rfl au.o ?_ ?_;rotate_left
    ·rintro w ⟨q1,q2,q3⟩;go_simp;try with_reducible rfl
    refine kS 3 ?_ rfl au.o ?_ ?_;rotate_left
    ·rintro w ⟨q1,q2,q3⟩;go_simp;try with_reducible rfl
    refine kS 8 ?_ rfl au.o ?_ ?_;rotate_left
    ·rintro w ⟨q1,q2,q3⟩;go_simp;try with_reducible rfl
    refine kS 9 ?_ rfl au.o ?_ ?_;rotate_left
    ·rintro w ⟨q1,q2,q3⟩;go_simp;try with_reducible rfl
    refine kS 10 ?_ rfl au.o ?_ ?_;rotate_left
    ·rintro w ⟨q1,q2,q3⟩;go_simp;try with_reducible rfl
    refine kS 5 ?_ rfl au.o ?_ ?_;rotate_left
    ·rintro w ⟨q1,q2,q3⟩;go_simp;try with_reducible rfl
    refine OW (rs:=[4,6]) (by kernel_rfl) (by simp) (qO.cons rfl (λKK ah=>?_) (qO.cons rfl (λKK ah=>?_) qO.nil))
    ·refine qE rfl _ _ 117 rfl nV (by decide) aQ.o 0 rfl (by kernel_rfl) (by kernel_rfl) (m:=k) (cs:=(l.take k).flatMap bP) (Jr.o _ (Below.refl _ _)) htl yu (by omega) (by omega) (Nat.le_refl _) ?_;rintro v4 w4 hS4;have aY:=bx hS4;have HB4:=bx (aY.o.bel (n:=WR.heap.size) (W0:=WR) (by simp));clear hS4;refine ah.out _ _ (λ_=>dP.o _ HB4.o) ?_;clear ah KK;refine kP 6 rfl λKK ah=>?_
     go_simp;have bU:=bx (aY.o.bM 175 #[.int .i64 xa, .int .i64 xb, .int .i64 xc]);refine ah.out _ _ (λ_=>dP.o _ (bU.o.bel (n:=WR.heap.size) (W0:=WR) (by simp))) ?_;clear ah KK;have aK:=bx (bU.o.bel (n:=WR.heap.size) (W0:=WR) (by simp));refine kP 7 rfl λKK ah=>?_
     refine qE rfl _ _ 117 rfl nV (by decide) bU.o 1 rfl (by kernel_rfl) (by kernel_rfl) (m:=1) (cs:=bP (xa,xb,xc)) (Fp (bU.o.blk 0 rfl)) rfl (by intro u hu;simp only [bP,List.mem_cons,List.not_mem_nil,or_false] at hu;rcases hu with rfl | rfl | rfl <;> rfl) (by omega) (by omega) aK.o.size ?_;rintro v7 w7 hS7;have dX:=bx hS7;have bW:=bx (dX.o.bel (n:=WR.heap.size) (W0:=WR) (by simp));clear hS7;refine ah.out _ _ (λ_=>dP.o _ bW.o) ?_;clear ah KK;refine kP 11 rfl λKK ah=>?_
     refine qE rfl _ _ 117 rfl nV (by decide) dX.o 1 rfl (by kernel_rfl) (by kernel_rfl) (m:=L) (cs:=(l.drop k).flatMap bP) (KI.o _ bW.o) (by rw [uJ,List.length_drop];have:=dM.o;have:=HN.o;omega) yu (by have:=dM.o;omega) (by omega) bW.o.size ?_;rintro v8 w8 jY;have kM:=bx jY;have eF:=bx (kM.o.bel (n:=WR.heap.size) (W0:=WR) (by simp));clear jY;refine ah.out _ _ (λ_=>dP.o _ eF.o) ?_;clear ah KK;refine kP 12 rfl λKK ah=>?_
     go_simp;refine ah.out _ _ (λh=>by cases h) ?_;clear ah KK;refine kD ?_ _;go_wp2_with fail;go_ret
     refine⟨⟨_,rfl,?_⟩,bt aF.o eF.o⟩;have hrow:=own_base (kM.o.row 1 rfl) (show w.heap.size<=WR.heap.size from aF.o.size);rw [show 0+k+1+L=N+1 by have:=dM.o;omega,List.nil_append] at hrow;rw [GH.o,List.flatMap_append,List.flatMap_cons,<- List.append_assoc];exact hrow
    ·go_simp;have bU:=bx (aQ.o.bM 175 #[.int .i64 xa, .int .i64 xb, .int .i64 xc]);have dO:=bx (bU.o.bel (n:=WR.heap.size) (W0:=WR) (by simp));refine ah.out _ _ (λ_=>dP.o _ dO.o) ?_;clear ah KK;refine kP 4 rfl λKK ah=>?_
     refine qE rfl _ _ 117 rfl nV (by decide) bU.o 1 rfl (by kernel_rfl) (by kernel_rfl) (m:=k) (cs:=(l.take k).flatMap bP) (Jr.o _ dO.o) htl yu (by omega) (by omega) dO.o.size ?_;rintro v4 w4 hS4;have aY:=bx hS4;have HB4:=bx (aY.o.bel (n:=WR.heap.size) (W0:=WR) (by simp));clear hS4;refine ah.out _ _ (λ_=>dP.o _ HB4.o) ?_;clear ah KK;have aK:=bx (aY.o.bel (n:=WR.heap.size) (W0:=WR) (by simp));refine kP 7 rfl λKK ah=>?_
     refine qE rfl _ _ 117 rfl nV (by decide) aY.o 1 rfl (by kernel_rfl) (by kernel_rfl) (m:=1) (cs:=bP (xa,xb,xc)) (Fp (aY.o.blk 0 rfl)) rfl (by intro u hu;simp only [bP,List.mem_cons,List.not_mem_nil,or_false] at hu;rcases hu with rfl | rfl | rfl <;> rfl) (by omega) (by omega) aK.o.size ?_;rintro v7 w7 hS7;have dX:=bx hS7;have bW:=bx (dX.o.bel (n:=WR.heap.size) (W0:=WR) (by simp));clear hS7;refine ah.out _ _ (λ_=>dP.o _ bW.o) ?_;clear ah KK;refine kP 11 rfl λKK ah=>?_
     refine qE rfl _ _ 117 rfl nV (by decide) dX.o 1 rfl (by kernel_rfl) (by kernel_rfl) (m:=L) (cs:=(l.drop k).flatMap bP) (KI.o _ bW.o) (by rw [uJ,List.length_drop];have:=dM.o;have:=HN.o;omega) yu (by have:=dM.o;omega) (by omega) bW.o.size ?_;rintro v8 w8 jY;have kM:=bx jY;have eF:=bx (kM.o.bel (n:=WR.heap.size) (W0:=WR) (by simp));clear jY;refine ah.out _ _ (λ_=>dP.o _ eF.o) ?_;clear ah KK;refine kP 12 rfl λKK ah=>?_
     go_simp;refine ah.out _ _ (λh=>by cases h) ?_;clear ah KK;refine kD ?_ _;go_wp2_with fail;go_ret
     refine⟨⟨_,rfl,?_⟩,bt aF.o eF.o⟩;have hrow:=own_base (kM.o.row 1 rfl) (show w.heap.size<=WR.heap.size from aF.o.size);rw [show 0+k+1+L=N+1 by have:=dM.o;omega,List.nil_append] at hrow;rw [GH.o,List.flatMap_append,List.flatMap_cons,<- List.append_assoc];exact hrow
theorem F.ZY {l:List F.aV} {k:Nat}:∀ {n:Nat} {r:List F.aV},k<=n->F.tK l n=some r->∃ q,F.tK l k=some q
 | 0,r,hk,h=>by obtain rfl:k=0:=(by omega);exact⟨r,h⟩
 | n+1,r,hk,h=>by
  rcases Nat.lt_or_ge k (n+1) with h1 | h1
  ·unfold F.tK at h
   cases hq:F.tK l n with
   | none=>rw [hq] at h;cases h
   | some q=>exact F.ZY (by omega) hq
  ·obtain rfl:k=n+1:=by omega
   exact⟨r,h⟩
theorem F.ant (l:List F.aV) (x:F.aV):(F.DV l x).length=l.length+1:=by
 unfold F.DV;rw [List.length_append,List.length_cons];have:=congrArg List.length (List.takeWhile_append_dropWhile (p:=λy:F.aV=>decide (y.1<x.1)) (l:=l));rw [List.length_append] at this;omega
theorem F.Yg {l:List F.aV}:∀ {n:Nat} {r:List F.aV},F.tK l n=some r->r.length=n
 | 0,r,h=>by cases h;rfl
 | n+1,r,h=>by
  unfold F.tK at h
  cases hq:F.tK l n with
  | none=>rw [hq] at h;cases h
  | some q =>
   rw [hq] at h;simp only at h
   split at h
   ·cases h
   ·cases h;rw [F.ant,F.Yg hq]
theorem F.afH {l:List F.aV} {k:Nat} {x:F.aV} {q r:List F.aV} (hx:l[k]?=some x) (hq:F.tK l k=some q) (hr:F.tK l (k+1)=some r):r=F.DV q x/\∀ (j:Nat) (y:F.aV),j<k->l[j]?=some y->¬ (x.1<=y.2.1/\y.1<=x.2.1):=by
 have hgd:l.getD k (0,0,0)=x:=by rw [List.getD_eq_getElem?_getD,hx];rfl
 unfold F.tK at hr;rw [hq,hgd] at hr;simp only at hr
 split at hr
 ·cases hr
 ·rename_i h
  cases hr;refine⟨rfl,λj y hj hy hl=>h ?_⟩;rw [List.any_eq_true];refine⟨j,List.mem_range.2 hj,?_⟩;rw [List.getD_eq_getElem?_getD,hy,Option.getD_some];unfold F.lap;rw [Bool.and_eq_true,decide_eq_true_eq,decide_eq_true_eq];exact hl
theorem acT (v:Value) (l m:List F.aV) (w:World) (hv:iM w v l) (hok:F.Fb l=some m) :
  Calls Tryz.prog 111 #[v] w λe w'=>(∃ v',e = .returned (.tuple #[v', .int .i64 0, .int .i64 0])/\iM w' v' m)/\Below w.heap.size w w':=by
 unfold F.Fb at hok
 split at hok
 rotate_left
 ·cases hok
 rename_i hc
 obtain⟨hall,Qc⟩:=hc;rw [List.all_eq_true] at hall;have qX:=bx hall;have mV:=bx hok;have HV:=bx hv;obtain⟨a,cap,rfl,hc1,hc2⟩:=hv.slice;obtain⟨N,hN⟩:∃ N,l.length=N:=⟨_,rfl⟩
 have HN:=bx hN;rw [hN] at HV mV hc1 Qc ⊢;clear hv hall hok hN
 go_enter Tryz.func111,Tryz.ntmps111
 go_wp2_with fail
 go_loopw [5] (λi wr=>∃ k:Nat,k<=N/\i = .int .i64 k/\Box (Below w.heap.size w wr)) (λi _=>N-(intOf i).toNat)
 case atStart=>exact⟨0,by omega,rfl,⟨Below.refl _ _⟩⟩
 case round =>
  obtain⟨k,hk,rfl,hb⟩:=hrel
  by_cases hlt:k<N
  ·obtain⟨x,hx⟩:∃ x,l[k]?=some x:=⟨_,List.getElem?_eq_getElem (by rw [HN.o];exact hlt)⟩
   have hr:=qX.o x (List.mem_of_getElem? hx);obtain⟨g,off,cap2,hg1,hg2,hg3,hg4,hg5⟩:=(HV.o.below hb.o).get (by rintro rfl;simp at hx);rw [HN.o] at hg1;obtain⟨rfl,rfl⟩:a=some ⟨g,off,none⟩/\cap=cap2:=by injection hg1 with h1 h2 h3;exact⟨h1,h3⟩
   obtain⟨x0,x1,x2⟩:=hg5 k x hx;have DF:=bx (λW=>Z9 x W);rw [hr] at DF;unfold maxLen at hg3;clear hx hr hg1 hg2 hg5;go_wp2_with fail;refine(DF.o _).mono ?_;rintro e w2 ⟨rfl,hb2⟩;have HB2:=bx (bt hb.o hb2);clear hb2 x0 x1 x2;go_wp2_with fail
   go_roundw
   case rel=>exact⟨k+1,hlt,by go_num,HB2⟩
   case measure=>simp [intOf];omega
  ·obtain rfl:k=N:=by omega
   go_wp2_with fail
   go_loopw [7,6] (λi o ws=>∃ (j:Nat) (q:List F.aV) (qa:Option Addr) (qc:Nat),j<=k/\i = .int .i64 j/\o = .slice qa j qc/\j<=qc/\qc<=9223372036854775807/\Box (q.length=j/\F.tK l j=some q)/\Box (iM ws (.slice qa j qc) q)/\Box (Below w.heap.size w ws)) (λi _ _=>k-(intOf i).toNat)
   case atStart=>exact⟨0,[],none,0,by omega,rfl,rfl,by omega,by omega,⟨rfl,rfl⟩,⟨.inl ⟨rfl,rfl⟩⟩,hb⟩
   case round =>
    obtain⟨j,q,qa,qc,hj,rfl,rfl,aoM,aon,hq,hqv,hbs⟩:=hrel;obtain⟨ws,rfl⟩:∃ W,W=wr:=⟨_,rfl⟩
    by_cases hjl:j<k
    ·obtain⟨x,hx⟩:∃ x,l[j]?=some x:=⟨_,List.getElem?_eq_getElem (by rw [HN.o];exact hjl)⟩
     obtain⟨r,hr⟩:=F.ZY (k:=j+1) (by omega) mV.o;obtain⟨hrq,hno⟩:=F.afH hx hq.o.2 hr;obtain⟨g,off,cap2,hg1,hg2,hg3,hg4,hg5⟩:=(HV.o.below hbs.o).get (by rintro rfl;simp at hx);rw [HN.o] at hg1;obtain⟨rfl,rfl⟩:a=some ⟨g,off,none⟩/\cap=cap2:=by injection hg1 with h1 h2 h3;exact⟨h1,h3⟩
     have HRQ:=bx (show r.length=j+1/\F.tK l (j+1)=some r from⟨F.Yg hr,hr⟩);have CO:=bx hrq;have iP:=bx hno;have HC:=bx (λ(i:Nat) (y:F.aV) (hy:l[i]?=some y) W (hW:Below ws.heap.size ws W)=>show W.cell? ⟨g,off+i*3,none⟩=some (.int .i64 y.1)/\W.cell? ⟨g,off+i*3+1,none⟩=some (.int .i64 y.2.1)/\W.cell? ⟨g,off+i*3+2,none⟩=some (.int .i64 y.2.2) from⟨(hW.cell (p:=⟨g,off+i*3,none⟩) hg4).trans (hg5 i y hy).1,(hW.cell (p:=⟨g,off+i*3+1,none⟩) hg4).trans (hg5 i y hy).2.1,(hW.cell (p:=⟨g,off+i*3+2,none⟩) hg4).trans (hg5 i y hy).2.2⟩);unfold maxLen at hg3;have HX:=bx hx;clear hx hr hrq hno hg1 hg2 hg5;go_wp2_with fail
     go_loopw [8] (λi wr=>∃ (u:Nat),u<=j/\i = .int .i64 u/\Box (Below ws.heap.size ws wr)) (λi _=>j-(intOf i).toNat)
     case atStart=>exact⟨0,by omega,rfl,⟨Below.refl _ _⟩⟩
     case round =>
      obtain⟨u,hu,rfl,hbw⟩:=hrel;obtain⟨x0,x1,x2⟩:=HC.o j x HX.o _ hbw.o;have HDR:=bx (λm=>hbw.o.trans ((jW wr m).mono hbw.o.size))
      by_cases Jl:u<j
      ·obtain⟨y,hy⟩:∃ y,l[u]?=some y:=⟨_,List.getElem?_eq_getElem (by rw [HN.o];omega)⟩
       obtain⟨y0,y1,y2⟩:=HC.o u y hy _ hbw.o;have hno:=iP.o u y Jl hy;clear hy
       by_cases h1:x.1<=y.2.1
       ·have e1:decide (x.1<=y.2.1)=true:=decide_eq_true h1;have e2:decide (y.1<=x.2.1)=false:=decide_eq_false (λh=>hno ⟨h1,h⟩);clear h1 hno;go_wp2_with fail
        go_quiet (fail)
        go_wp2_with fail
        go_roundw
        case rel=>exact⟨u+1,Jl,by go_num,⟨HDR.o _⟩⟩
        case measure=>simp [intOf];omega
       ·have e1:decide (x.1<=y.2.1)=false:=decide_eq_false h1;clear h1 hno;go_wp2_with fail
        go_quiet (fail)
        go_wp2_with fail
        go_roundw
        case rel=>exact⟨u+1,Jl,by go_num,⟨HDR.o _⟩⟩
        case measure=>simp [intOf];omega
      ·obtain rfl:u=j:=by omega
       have GH:=bx (anE (.slice qa u qc) q x wr (hqv.o.below hbw.o) (by rw [hq.o.1];omega));have HBM:=bx (bt hbs.o hbw.o);go_wp2_with fail;refine GH.o.mono ?_;rintro e w4 ⟨⟨v',rfl,hown⟩,hb4⟩;rw [<- CO.o,hq.o.1] at hown;obtain⟨va,vc,rfl,al5,afm⟩:=iU hown;have HR4:=bx (show iM w4 (.slice va (u+1) vc) r from iM.gK hown HRQ.o.1.symm);have HB4:=bx (bt HBM.o hb4);clear hown hb4 x0 x1 x2;go_wp2_with fail
       go_roundw
       case rel=>exact⟨u+1,r,va,vc,hjl,by go_num,rfl,al5,afm,HRQ,HR4,HB4⟩
       case measure=>simp [intOf];omega
    ·obtain rfl:j=k:=by omega
     have HM:=bx (show q=m by have:=hq.o.2.symm.trans mV.o;simpa using this);go_wp2_with fail
     go_ret3
     exact⟨⟨_,rfl,HM.o▸hqv.o⟩,hbs.o⟩
end
end Go.Proofs.YtdenoeakcflnmaaGreatDoor
