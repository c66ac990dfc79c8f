/- Texts of this claim. -/
import Derived.Laws.IdiomRangeMap
import Derived.Test.YtdenoeakcflnmaaGreatDoorH5
import Derived.Test.YtdenoeakcflnmaaGreatDoorH12

set_option maxHeartbeats 8000000
set_option maxRecDepth 100000
namespace Go.Proofs.YtdenoeakcflnmaaGreatDoor
section
open Go.RowKit
theorem NQ:vH Tryz.prog 22 3 1 8:=.mk' (z:=.int .i64 0) Tryz.underlying22 (by kernel_rfl) rfl
theorem QB {w:World} {v:Value} {xs:List Int} (h:aB w v xs):rV w v xs.length (xs.map (Value.int .i64)):=by
 rcases h with⟨h1,rfl⟩ | ⟨b,off,sp,cap,h1,h2,h3,h4⟩
 ·exact .inl ⟨h1,rfl,rfl⟩
 ·refine .inr ⟨_,cap,h1,λj u hu=>?_⟩;rw [List.getElem?_map] at hu
  cases hx:xs[j]? with
  | none=>rw [hx] at hu;cases hu
  | some x =>
   rw [hx] at hu
   cases hu;obtain⟨rfl,-,h6⟩:=h4 (by rintro rfl;simp at hx);rw [show (⟨b,off,none⟩:Addr).add j=⟨b,off+j,none⟩ by unfold Addr.add;by_cases h0:j=0 <;> simp [h0]];exact h6 j x hx
def nZ (mb:Nat):MapEntry:=⟨.int .i64 0, .func (.func 224) #[.pointer (some ⟨mb,0,none⟩)] #[],0⟩
def oM (mb:Nat):MapEntry:=⟨.int .i64 1, .func (.func 225) #[.pointer (some ⟨mb,0,none⟩)] #[],1⟩
def pR (mb:Nat):MapEntry:=⟨.int .i64 2, .func (.func 226) #[.pointer (some ⟨mb,0,none⟩)] #[],2⟩
def vM (xs:List Int):List Value:=xs.map (Value.int .i64)
theorem aiy (xs ys:List Int):vM (xs++ys)=vM xs++ys.map (Value.int .i64):=by simp [vM]
theorem Va (ys:List Int):∀ u∈ys.map (Value.int .i64),u.oneCell'=true:=by
 intro u hu;obtain⟨y,-,rfl⟩:=List.mem_map.1 hu
 rfl
theorem afd (cs:List Int) (x:N.Item) (O:List Int) (j:Nat) (b:Int) (h:O[j]?=some b):(O.take (j+1)).flatMap (jD cs x)=(O.take j).flatMap (jD cs x)++jD cs x b:=by
 rw [List.take_add_one,h,List.flatMap_append];simp
theorem anB (mb:Nat) (cv:Value) (cs:List Int) (iv:Value) (l:List N.Item) (a:Nat) (w:World) (hM:aj w mb 305 #[cv]) (hC:aB w cv cs) (hI:bQ w iv l) (hh:∀ x∈l,x.2=0\/x.2=1\/x.2=2)
  (hz:cs.length<=900) (hl:l.length<=1000) (ha:a<=cs.length) :
  Calls Tryz.prog 211 #[.pointer (some ⟨mb,0,none⟩),iv, .int .i64 a] w λe w'=>(∃ v,e = .returned v/\aB w' v (lZ cs l a l.length))/\Below w.heap.size w w':=by
 have HM:=bx hM;have HC:=bx hC;have HI:=bx hI;have HH:=bx hh;have hml:=hM.lt;have hmm:=@run_makeMap Tryz.prog;have Dp:=yQ (P:=Tryz.prog) Tryz.underlying325 Tryz.underlying3 w #[] 0 0 (nZ mb).val w.heap.size rfl rfl;have CG:=yQ (P:=Tryz.prog) Tryz.underlying325 Tryz.underlying3 w #[nZ mb] 1 1 (oM mb).val w.heap.size rfl rfl;have CV:=yQ (P:=Tryz.prog) Tryz.underlying325 Tryz.underlying3 w #[nZ mb,oM mb] 2 2 (pR mb).val w.heap.size rfl rfl;simp only [List.push_toArray,List.nil_append,List.cons_append,nZ,oM,pR,Nat.reduceAdd,Nat.zero_add] at Dp CG CV;obtain⟨io,ic,rfl⟩:=hI.slice;clear hM hC hI hh
 go_enter Tryz.func211,Tryz.ntmps211
 go_wp2_with fail;clear hmm Dp CG CV;have aQ:=bx (show Sep [Pc.row w.heap.size 3 1 (.slice (some ⟨w.heap.size+1,0,none⟩) (lZ cs l a 0).length 1) (lZ cs l a 0).length (vM (lZ cs l a 0)),Pc.obj w.heap.size (.map #[nZ mb,oM mb,pR mb] 3),Pc.old w.heap.size w] ((w.alloc (.map #[nZ mb,oM mb,pR mb] 3)).alloc (.cells #[.int .i64 (a:Int)] 3)) by
  have h1:Sep [Pc.obj w.heap.size (.map #[nZ mb,oM mb,pR mb] 3),Pc.old w.heap.size w] (w.alloc (.map #[nZ mb,oM mb,pR mb] 3)) :=
   (Sep.start w).add (Bj w _) (World.alloc_heap_new w _) (λk hk=>by rw [show k=w.heap.size from hk];exact Nat.le_refl _)
  have h2:=World.ownsRow_lit (base:=w.heap.size) (e:=3) (size:=1) (w.alloc (.map #[nZ mb,oM mb,pR mb] 3)) #[.int .i64 (a:Int)] 1 (by simp) (by unfold maxLen;omega) rfl;rw [show (w.alloc (.map #[nZ mb,oM mb,pR mb] 3)).heap.size=w.heap.size+1 from by simp] at h2;rw [Gv];exact h1.add (Bj _ _) h2 (λk hk=>by simp [Pc.row,Value.ownBlock] at hk;simp;omega))
 unfold nZ oM pR at aQ
 go_loopw [26,8] (λi o wr=>∃ (k:Nat) (oo:Option Addr) (oc:Nat),k<=l.length/\i = .int .i64 k/\o = .slice oo (lZ cs l a k).length oc/\Box (Sep [Pc.row w.heap.size 3 1 (.slice oo (lZ cs l a k).length oc) (lZ cs l a k).length (vM (lZ cs l a k)),Pc.obj w.heap.size (.map #[nZ mb,oM mb,pR mb] 3),Pc.old w.heap.size w] wr))
  (λi _ _=>l.length-(intOf i).toNat)
 case atStart=>exact⟨0,_,_,Nat.zero_le _,rfl,by rw [Gv];rfl,aQ⟩
 case round =>
  obtain⟨k,oo,oc,hk,rfl,rfl,hS⟩:=hrel;clear aQ;have aJ:=bx (hS.o.bel (n:=w.heap.size) (W0:=w) (by simp))
  by_cases hlt:k<l.length
  ·obtain⟨x,hx⟩:∃ x,l[k]?=some x:=⟨_,List.getElem?_eq_getElem hlt⟩
   obtain⟨g,off,cap2,hg1,hg2,hg3,hg4,hg5⟩:=(HI.o.below aJ.o).get (by rintro rfl;simp at hlt);obtain⟨rfl,rfl⟩:io=some ⟨g,off,none⟩/\ic=cap2:=by injection hg1 with h1 h2 h3;exact⟨h1,h3⟩
   obtain⟨hc1,hc2⟩:=hg5 k x hx;have ai6:=HH.o x (List.mem_of_getElem? hx);have HN:=bx (Iy cs l a k x hx);have TW:=Qx cs l a (by omega) (by omega) k hk;have hOl:=aiz cs l a (by omega) (by omega) k hk;obtain⟨O,hO⟩:∃ O,lZ cs l a k=O:=⟨_,rfl⟩
   rw [hO] at TW hOl HN hS ⊢;have UZ:=bx TW;unfold maxLen at hg3;obtain⟨set,how⟩:=x;have vJ:=bx ((hS.o.bM 292 #[.int .i64 set, .int .i64 how]).iW w.heap.size 1 3);obtain⟨ub,hub⟩:∃ ub,ub=wr.heap.size:=⟨_,rfl⟩
   have Bz:=bx hub;rw [<- hub] at vJ;clear hx hg1 hg5 hO TW hub;go_wp2_with fail;rw [<- Bz.o];clear Bz
   go_loopw [32,11] (λi nv wi=>∃ (j:Nat) (v2:Value),j<=O.length/\i = .int .i64 j/\v2=nv/\Box (Sep [Pc.row w.heap.size 3 1 v2 ((O.take j).flatMap (jD cs (set,how))).length (vM ((O.take j).flatMap (jD cs (set,how)))),Pc.blk ub 292 #[.int .i64 set, .int .i64 how],Pc.row w.heap.size 3 1 (.slice oo O.length oc) O.length (vM O),Pc.obj w.heap.size (.map #[nZ mb,oM mb,pR mb] 3),Pc.old w.heap.size w] wi))
    (λi _ _=>O.length-(intOf i).toNat)
   case atStart=>exact⟨0,_,Nat.zero_le _,rfl,rfl,vJ⟩
   case round =>
    obtain⟨j,v2,hj,rfl,rfl,Au⟩:=hrel;have jl:=bx (Au.o.bel (n:=w.heap.size) (W0:=w) (by simp));clear vJ hS
    by_cases hjl:j<O.length
    ·obtain⟨b,hb⟩:∃ b,O[j]?=some b:=⟨_,List.getElem?_eq_getElem hjl⟩
     obtain⟨b0,b1⟩:=UZ.o b (List.mem_of_getElem? hb);obtain⟨q,rfl⟩:=Int.eq_ofNat_of_zero_le b0;have hq:q<=cs.length:=by omega
     obtain⟨og,UQ,IV,k1,k2,k3,k4,k5⟩:=(aB.gK (Au.o.row 2 rfl) rfl).get (by rintro rfl;simp at hjl);obtain⟨rfl,rfl⟩:oo=some ⟨og,UQ,none⟩/\oc=IV:=by injection k1 with h1 h2 h3;exact⟨h1,h3⟩
     have c3:=k5 j _ hb;have hbk:=Au.o.blk 1 rfl;have c0:wr.cell? ⟨ub,0,none⟩=some (.int .i64 set):=(hbk.cell 0).trans rfl;have c1:wr.cell? ⟨ub,1,none⟩=some (.int .i64 how):=(hbk.cell 1).trans rfl;have hmp:=Au.o.at' 3 (p:=Pc.obj w.heap.size (.map #[nZ mb,oM mb,pR mb] 3)) rfl;have sQ:=bx hmp;have cu:=bx (afd cs (set,how) O j _ hb);have gq:=bx (WH cs (set,how) (O.take j) (λb hb=>UZ.o b (List.mem_of_mem_take hb)));have xW:=bx (Yq cs (set,how) (q:Int) b0 b1);have acH:aj wr mb 305 #[cv]:=HM.o.below jl.o hml;have hcs2:aB wr cv cs:=HC.o.below jl.o;have Vx:=bx acH;have VB:=bx hcs2;unfold maxLen at k3;clear k1 k5 hb hbk hmp acH hcs2 b0 b1;have key:∀ (w2:World) (xv:Value),aB w2 xv (jD cs (set,how) (q:Int))->Below wr.heap.size wr w2 ->
       ∀ v' w',Sep ([Pc.row w.heap.size 3 1 v2 ((O.take j).flatMap (jD cs (set,how))).length (vM ((O.take j).flatMap (jD cs (set,how)))),Pc.blk ub 292 #[.int .i64 set, .int .i64 how],Pc.row w.heap.size 3 1 (.slice (some ⟨og,UQ,none⟩) O.length oc) O.length (vM O),Pc.obj w.heap.size (.map #[nZ mb,oM mb,pR mb] 3),Pc.old w.heap.size w].set 0 (Pc.row w.heap.size 3 1 v' (((O.take j).flatMap (jD cs (set,how))).length+(jD cs (set,how) (q:Int)).length) (vM ((O.take j).flatMap (jD cs (set,how)))++(jD cs (set,how) (q:Int)).map (Value.int .i64)))) w' ->
       Sep [Pc.row w.heap.size 3 1 v' ((O.take (j+1)).flatMap (jD cs (set,how))).length (vM ((O.take (j+1)).flatMap (jD cs (set,how)))),Pc.blk ub 292 #[.int .i64 set, .int .i64 how],Pc.row w.heap.size 3 1 (.slice (some ⟨og,UQ,none⟩) O.length oc) O.length (vM O),Pc.obj w.heap.size (.map #[nZ mb,oM mb,pR mb] 3),Pc.old w.heap.size w] w':=λw2 xv _ _ v' w' h=>by
      rw [cu.o,aiy,List.length_append];exact h
     have KEY:=bx key;have hnb:((O.take j).flatMap (jD cs (set,how))).length<=900000:=by
      have h1:=gq.o;have h2:(O.take j).length<=901:=by rw [List.length_take];omega
      have h3:(O.take j).length*(cs.length+1)<=901*901:=Nat.mul_le_mul h2 (by omega);omega
     have hnm:(jD cs (set,how) (q:Int)).length<=901:=by have:=xW.o;omega
     clear key
     rcases ai6 with rfl | rfl | rfl
     ·have hlk:=Px (P:=Tryz.prog) Tryz.underlying325 Tryz.underlying3 wr #[nZ mb,oM mb,pR mb] 3 0 w.heap.size sQ.o 0 (nZ mb).val rfl;simp only [nZ] at hlk;have gG:=bx (ad2 mb cv cs set q wr Vx.o VB.o (by omega) hq);go_wp2_with (first
       | (go_at_call 224;refine gG.o.mono ?_;rintro e w2 ⟨⟨xv,rfl,hi⟩,hb2⟩;have hS2:=Au.o.below hb2;have hle2:=jl.o.size;have hle3:=hb2.size)
       | (at_builtin;refine P7 rfl _ _ 22 rfl NQ (by decide) hS2 0 rfl rfl rfl (QB hi) (by simp) (Va _) (by omega) (by omega) (by omega) ?_;intro v' w' hS3))
      have aC:=bx (KEY.o w2 xv hi hb2 v' w' hS3);clear hS3 hS2 hi hb2
      go_roundw
      case rel=>exact⟨j+1,v',hjl,by go_num,rfl,aC⟩
      case measure=>simp [intOf];omega
     ·have hlk:=Px (P:=Tryz.prog) Tryz.underlying325 Tryz.underlying3 wr #[nZ mb,oM mb,pR mb] 3 1 w.heap.size sQ.o 1 (oM mb).val rfl;simp only [oM] at hlk;have gG:=bx (ahy mb cv cs set q wr Vx.o VB.o (by omega) hq);go_wp2_with (first
       | (go_at_call 225;refine gG.o.mono ?_;rintro e w2 ⟨⟨xv,rfl,hi⟩,hb2⟩;have hS2:=Au.o.below hb2;have hle2:=jl.o.size;have hle3:=hb2.size)
       | (at_builtin;refine P7 rfl _ _ 22 rfl NQ (by decide) hS2 0 rfl rfl rfl (QB hi) (by simp) (Va _) (by omega) (by omega) (by omega) ?_;intro v' w' hS3))
      have aC:=bx (KEY.o w2 xv hi hb2 v' w' hS3);clear hS3 hS2 hi hb2
      go_roundw
      case rel=>exact⟨j+1,v',hjl,by go_num,rfl,aC⟩
      case measure=>simp [intOf];omega
     ·have hlk:=Px (P:=Tryz.prog) Tryz.underlying325 Tryz.underlying3 wr #[nZ mb,oM mb,pR mb] 3 2 w.heap.size sQ.o 2 (pR mb).val rfl;simp only [pR] at hlk;have gG:=bx (akc mb cv cs set q wr Vx.o VB.o (by omega) hq);go_wp2_with (first
       | (go_at_call 226;refine gG.o.mono ?_;rintro e w2 ⟨⟨xv,rfl,hi⟩,hb2⟩;have hS2:=Au.o.below hb2;have hle2:=jl.o.size;have hle3:=hb2.size)
       | (at_builtin;refine P7 rfl _ _ 22 rfl NQ (by decide) hS2 0 rfl rfl rfl (QB hi) (by simp) (Va _) (by omega) (by omega) (by omega) ?_;intro v' w' hS3))
      have aC:=bx (KEY.o w2 xv hi hb2 v' w' hS3);clear hS3 hS2 hi hb2
      go_roundw
      case rel=>exact⟨j+1,v',hjl,by go_num,rfl,aC⟩
      case measure=>simp [intOf];omega
    ·have hjl:j=O.length:=by omega
     have hfl:=WH cs (set,how) O UZ.o;have hO2:O.length*(cs.length+1)<=901*901:=Nat.mul_le_mul (by omega) (by omega);have hSz:=Au.o;rw [hjl,List.take_length] at hSz;have eY:=bx (ahs hSz 0 (zs:=O.flatMap (jD cs (set,how))) rfl rfl (by omega));clear hfl hO2 hSz;go_wp2_with fail;refine eY.o.mono ?_;rintro e w2 ⟨v',rfl,hS2⟩;have hS3:=(hS2.drop 1).drop 1;rw [<- HN.o] at hS3;obtain⟨oo2,Am,rfl⟩:=ownsRow_shape (hS3.row 0 rfl);have aC:=bx hS3;clear hS2 hS3;go_wp2_with fail
     go_roundw
     case rel=>exact⟨k+1,oo2,Am,hlt,by go_num,rfl,aC⟩
     case measure=>simp [intOf];omega
  ·have hkl:k=l.length:=by omega
   have HR:=bx (show aB wr (.slice oo (lZ cs l a k).length oc) (lZ cs l a l.length) by
    have:=aB.gK (hS.o.row 0 rfl) rfl
    rwa [hkl] at this ⊢)
   go_wp2_with fail;go_ret
   exact⟨⟨_,rfl,HR.o⟩,aJ.o⟩
theorem JM {l:List N.Item} (h:fQ l=true):∀ x∈l,x.2=0\/x.2=1\/x.2=2:=by
 intro x hx;obtain⟨i,hi,e⟩:=List.getElem_of_mem hx;have:=aaS h (i:=i) (x:=x) (by rw [List.getElem?_eq_getElem hi,e]);omega
end
namespace D
def cut (n:Nat) (c:Int):Int:=if c<0\/(n:Int)<=c then -1 else c
def cuts (n:Nat) (cs:List Int):List Int:=cs.map (cut n)
end D
section
open Go.RowKit
def kC (st:Bool) (l:List N.Item) (cs:List Int) (p:Int):Bool :=
 fQ l&&decide (0<=p)&&decide (p<=cs.length)&&!(st&&decide (0<p))&&decide (0<(lZ cs l p l.length).length)
namespace G
def hit (R:List D.Rule) (ks:List Int) (f:Nat) (p:Int) (i:Nat):Bool:=f.testBit i&&match R[i]? with | some x=>kC x.2.1.1 x.2.1.2 ks p | none=>false
def zB (R:List D.Rule) (ks:List Int) (f:Nat) (p:Int):Bool:=match (List.range R.length).find? (hit R ks f p) with | some i=>(R[i]?.map λx=>x.2.2).getD true | none=>true
theorem ac0 (q:Nat->Bool):∀ n k,k<n->q k=true->(∀ i,i<k->q i=false)->(List.range n).find? q=some k
 | 0,_,h,_,_=>by omega
 | n+1,k,h,hk,hi=>by
  rw [List.range_succ,List.find?_append]
  rcases Nat.lt_or_ge k n with h1 | h1
  ·rw [ac0 q n k h1 hk hi];rfl
  ·obtain rfl:k=n:=by omega
   have hn:(List.range k).find? q=none:=by
    rw [List.find?_eq_none];intro i hm;rw [hi i (List.mem_range.1 hm)];exact Bool.false_ne_true
   rw [hn,Option.none_or,List.find?_cons_of_pos hk]
theorem RQ {R:List D.Rule} {ks:List Int} {f:Nat} {p:Int} {k:Nat} {x:D.Rule} (hx:R[k]?=some x) (hk:hit R ks f p k=true) (hi:∀ i,i<k->hit R ks f p i=false):zB R ks f p=x.2.2:=by
 unfold zB;rw [ac0 _ _ k (List.getElem?_eq_some_iff.1 hx).1 hk hi];simp [hx]
theorem Ut {R:List D.Rule} {ks:List Int} {f:Nat} {p:Int} (hi:∀ i,i<R.length->hit R ks f p i=false):zB R ks f p=true:=by
 unfold zB;rw [List.find?_eq_none.2 (λi hm=>by rw [hi i (List.mem_range.1 hm)];exact Bool.false_ne_true)]
end G
def cutAt (R:List D.Rule) (M:D.bH) (nn:Nat) (L:List Int) (p:Nat):Bool:=G.zB R (D.cuts nn L) (mG M (stM nn M L p)).toNat (p:Int)
def wU (R:List D.Rule) (M:D.bH) (nn:Nat) (L:List Int) (k:Nat):List Nat:=((List.range k).map (·+1)).filter (cutAt R M nn L)
def pz (R:List D.Rule) (M:D.bH) (nn:Nat) (L:List Int):List Int:=(0::wU R M nn L (L.length-1)).map (λn:Nat=>(n:Int))++if 0<L.length then [(L.length:Int)] else []
theorem ahh (st:Bool) (v:Value) (l:List N.Item) (cv:Value) (cs:List Int) (p:Int) (w:World) (hv:bQ w v l) (hz:l.length<=16777216) (hc:aB w cv cs) (hcz:cs.length<=900) :
  Calls Tryz.prog 181 #[.agg #[.bool st,v],cv, .int .i64 p] w λe w'=>e = .returned (.bool (kC st l cs p))/\Below w.heap.size w w':=by
 obtain⟨W,hW⟩:∃ W,W=w.alloc (.cells #[.bool st,v] 182):=⟨_,rfl⟩
 have hbW:Below w.heap.size w W:=by rw [hW];exact Bj _ _
 have hbk:aj W w.heap.size 182 #[.bool st,v]:=by rw [hW];exact aj.new _ _ _
 have HP:=bx (ajV st v l W (hv.below hbW) hz);have HV:=bx (hv.below hbW);have HC:=bx (hc.below hbW);have bf:=bx hbk;have aJ:=bx hbW;obtain⟨ao,cap,rfl⟩:=hc.slice;have c0:W.cell? ⟨w.heap.size,0,none⟩=some (.bool st):=(hbk.cell 0).trans rfl;have c1:W.cell? ⟨w.heap.size,1,none⟩=some v:=(hbk.cell 1).trans rfl;have HW:=bx hW;clear hv hc hbk hbW hW
 go_enter Tryz.func181,Tryz.ntmps181
 go_upto_region 1 with(fail)
 rw [<- HW.o]
 cases hr:fQ l with
 | false =>
  have HR:=bx (show kC st l cs p=false by unfold kC;rw [hr];rfl);have HRR:=bx hr;clear hr;go_wp2_with fail;refine HP.o.mono ?_;rintro e w1 ⟨rfl,hb1⟩;rw [HRR.o];have HB1:=bx hb1;clear hb1;go_wp2_with fail;go_ret
  exact⟨aI HR.o.symm,bt aJ.o HB1.o⟩
 | true =>
  have HRR:=bx hr;clear hr
  rcases Int.lt_or_le p 0 with h0 | h0
  ·have HR:=bx (show kC st l cs p=false by unfold kC;rw [decide_eq_false (by omega:¬ 0<=p),Bool.and_false];rfl);go_wp2_with fail;refine HP.o.mono ?_;rintro e w1 ⟨rfl,hb1⟩;rw [HRR.o];have HB1:=bx hb1;clear hb1;go_wp2_with fail;go_ret
   exact⟨aI HR.o.symm,bt aJ.o HB1.o⟩
  rcases Int.lt_or_le cs.length p with h1 | h1
  ·have HR:=bx (show kC st l cs p=false by unfold kC;rw [decide_eq_false (by omega:¬ p<=cs.length),Bool.and_false];rfl);go_wp2_with fail;refine HP.o.mono ?_;rintro e w1 ⟨rfl,hb1⟩;rw [HRR.o];have HB1:=bx hb1;clear hb1;go_wp2_with fail;go_ret
   exact⟨aI HR.o.symm,bt aJ.o HB1.o⟩
  obtain⟨q,rfl⟩:=Int.eq_ofNat_of_zero_le h0;have hq:q<=cs.length:=by omega
  go_wp2_with fail;refine HP.o.mono ?_;rintro e w1 ⟨rfl,hb1⟩;rw [HRR.o];have hbk1:=bf.o.below hb1 bf.o.lt;have d0:w1.cell? ⟨w.heap.size,0,none⟩=some (.bool st):=(hbk1.cell 0).trans rfl;have d1:w1.cell? ⟨w.heap.size,1,none⟩=some v:=(hbk1.cell 1).trans rfl;have hl1:=hbk1.lt;have HB1:=bx (bt aJ.o hb1);have fH:=bx (HV.o.below hb1);have dV:=bx (HC.o.below hb1);clear hb1 hbk1 c0 c1
  by_cases hs:st=true/\0<q
  ·obtain⟨hs1,hs2⟩:=hs;have HR:=bx (show kC st l cs (q:Int)=false by unfold kC;rw [hs1,decide_eq_true (by omega:(0:Int)<(q:Int))];simp);rw [hs1] at d0;clear hs1;go_wp2_with fail;go_ret
   exact⟨aI HR.o.symm,HB1.o⟩
  ·have Ja:=bx (JM HRR.o);have ab3:=xC HRR.o;obtain⟨W2,hW2⟩:∃ W2,W2=w1.alloc (.cells #[.slice ao cs.length cap] 305):=⟨_,rfl⟩
   have hb2:Below w1.heap.size w1 W2:=by rw [hW2];exact Bj _ _
   have mF:=bx (anB w1.heap.size (.slice ao cs.length cap) cs v l q W2 (by rw [hW2];exact aj.new _ _ _) (dV.o.below hb2) (fH.o.below hb2) Ja.o hcz (by omega) hq);have HB2:=bx (bt HB1.o hb2);have HW2:=bx hW2;have HR:=bx (show kC st l cs (q:Int)=decide (0<(lZ cs l q l.length).length) by
    unfold kC;rw [HRR.o,decide_eq_true h0,decide_eq_true h1]
    rcases Bool.eq_false_or_eq_true st with e | e
    ·have:q=0:=by
      rcases Nat.eq_zero_or_pos q with h | h
      ·exact h
      ·exact absurd ⟨e,h⟩ hs
     subst this;rw [e];simp
    ·rw [e];simp)
   clear hb2 hW2;have fin:∀ (xv:Value) (w3:World),aB w3 xv (lZ cs l q l.length)->∃ a c,xv = .slice a (lZ cs l q l.length).length c:=λxv w3 h=>h.slice
   have FIN:=bx fin;clear fin
   rcases Bool.eq_false_or_eq_true st with e | e
   ·have hq0:q=0:=by
     rcases Nat.eq_zero_or_pos q with h | h
     ·exact h
     ·exact absurd ⟨e,h⟩ hs
    rw [e] at d0;subst hq0;clear e hs;go_wp2_with fail;rw [<- HW2.o];refine mF.o.mono ?_;rintro e w3 ⟨⟨xv,rfl,hi⟩,hb3⟩;obtain⟨a,c,rfl⟩:=FIN.o _ _ hi;have HB3:=bx (bt HB2.o hb3);clear hi hb3;go_wp2_with fail;go_ret
    exact⟨aI (by rw [HR.o];first | done | simp),HB3.o⟩
   ·rw [e] at d0;clear e hs;go_wp2_with fail;rw [<- HW2.o];refine mF.o.mono ?_;rintro e w3 ⟨⟨xv,rfl,hi⟩,hb3⟩;obtain⟨a,c,rfl⟩:=FIN.o _ _ hi;have HB3:=bx (bt HB2.o hb3);clear hi hb3;go_wp2_with fail;go_ret
    exact⟨aI (by rw [HR.o];first | done | simp),HB3.o⟩
def inB (L:Nat) (f:Int):Bool:=decide (f<2 ^ L)
theorem div_pow (q L:Nat):((q:Int) / 2 ^ L==0)=inB L (q:Int):=by
 unfold inB;rw [show (2:Int) ^ L=((2 ^ L:Nat):Int) by simp,Bool.eq_iff_iff,beq_iff_eq,decide_eq_true_iff];have hp:0<2 ^ L:=Nat.two_pow_pos L
 constructor
 ·intro h;have h1:((q / 2 ^ L:Nat):Int)=0:=by rw [<- h];simp
  have h2:q / 2 ^ L=0:=by omega
  have:=(Nat.div_eq_zero_iff_lt hp).1 h2;omega
 ·intro h;have h2:q<2 ^ L:=by omega
  have:=Nat.div_eq_of_lt h2;rw [show (q:Int) / ((2 ^ L:Nat):Int)=((q / 2 ^ L:Nat):Int) by simp,this]
  rfl
theorem akN (q:Nat) (_hq:q<1099511627776) (bm:Nat) (na:Option Addr) (L nc:Nat) (hL:L<=40) (w:World) (hc:w.cell? ⟨bm,0,none⟩=some (.slice na L nc)) (_hlt:bm<w.heap.size) :
  Calls Tryz.prog 177 #[.int .i64 q, .pointer (some ⟨bm,0,none⟩)] w λe w'=>e = .returned (.bool (!inB L q))/\w=w':=by
 have HD:=bx (div_pow q L)
 go_enter Tryz.func177,Tryz.ntmps177
 go_wp2_with fail;go_ret
 refine⟨aI ?_,rfl⟩;rw [<- HD.o];simp [bne]
theorem ajY (v:Value) (xs:List Int) (hx:∀ x∈xs,0<=x/\x<1099511627776) (bm:Nat) (na:Option Addr) (L nc:Nat) (hL:L<=40) (w:World) (hv:aB w v xs) (hz:xs.length<=16777216) (hc:w.cell? ⟨bm,0,none⟩=some (.slice na L nc)) (hlt:bm<w.heap.size) :
  Calls Tryz.prog 208 #[v, .func (.func 177) #[] #[.pointer (some ⟨bm,0,none⟩)]] w λe w'=>(∃ i:Int,e = .returned (.int .i64 i)/\decide (0<=i)=!xs.all (inB L))/\w=w':=by
 have oz:=bx hv;obtain⟨ao,cap,rfl⟩:=hv.slice;have HO:=bx (λt ht=>akN t ht bm na L nc hL w hc hlt);have HXX:=bx hx;clear hv hc hx
 go_enter Tryz.func208,Tryz.ntmps208
 go_wp2
 go_loop [8] (λi=>∃ k:Nat,k<=xs.length/\i = .int .i64 k/\Box ((xs.take k).all (inB L)=true)) (λi=>xs.length-(intOf i).toNat)
 case atStart=>exact⟨0,by omega,rfl,⟨rfl⟩⟩
 case round =>
  obtain⟨k,hk,rfl,ha⟩:=hrel
  by_cases hlt':k<xs.length
  ·obtain⟨x,hx⟩:∃ x,xs[k]?=some x:=⟨_,List.getElem?_eq_getElem hlt'⟩
   obtain⟨g,off,cap2,hg1,hg2,hg3,hg4,hg5⟩:=oz.o.get (by rintro rfl;simp at hlt');obtain⟨rfl,rfl⟩:ao=some ⟨g,off,none⟩/\cap=cap2:=by injection hg1 with h1 h2 h3;exact⟨h1,h3⟩
   obtain⟨x0,x1⟩:=HXX.o x (List.mem_of_getElem? hx);obtain⟨q,rfl⟩:=Int.eq_ofNat_of_zero_le x0;have hq:q<1099511627776:=by omega
   have hcx:=hg5 k _ hx;have HX:=bx hx;unfold maxLen at hg3;clear hx hg1 hg5 x0 x1
   cases hi:inB L (q:Int) with
   | true =>
    have HT:=bx (show (xs.take (k+1)).all (inB L)=true by rw [List.take_add_one,HX.o,List.all_append,ha.o];simp [hi]);have HI:=bx (show (!inB L (q:Int))=false by rw [hi];rfl);clear hi;go_wp2_with fail;refine(HO.o q hq).mono ?_;rintro e w1 ⟨rfl,rfl⟩;rw [HI.o];go_wp2_with fail
    go_round
    case rel=>exact⟨k+1,hlt',by go_num,HT⟩
    case measure=>simp [intOf];omega
   | false =>
    have HT:=bx (show xs.all (inB L)=false by
     rw [Bool.eq_false_iff];intro h;rw [List.all_eq_true] at h;rw [h _ (List.mem_of_getElem? HX.o)] at hi
     cases hi)
    have HI:=bx (show (!inB L (q:Int))=true by rw [hi];rfl);clear hi;go_wp2_with fail;refine(HO.o q hq).mono ?_;rintro e w1 ⟨rfl,rfl⟩;rw [HI.o];go_wp2_with fail;go_ret
    exact⟨⟨k,rfl,by rw [HT.o];simp⟩,rfl⟩
  ·have HT:=bx (show xs.all (inB L)=true by have:=ha.o;rwa [List.take_of_length_le (by omega)] at this);go_wp2_with fail;go_ret
   exact⟨⟨-1,rfl,by rw [HT.o];rfl⟩,rfl⟩
theorem ah3 (v:Value) (xs:List Int) (hx:∀ x∈xs,0<=x/\x<1099511627776) (bm:Nat) (na:Option Addr) (L nc:Nat) (hL:L<=40) (w:World) (hv:aB w v xs) (hz:xs.length<=16777216) (hc:w.cell? ⟨bm,0,none⟩=some (.slice na L nc)) (hlt:bm<w.heap.size) :
  Calls Tryz.prog 176 #[v, .func (.func 177) #[] #[.pointer (some ⟨bm,0,none⟩)]] w λe w'=>e = .returned (.bool (!xs.all (inB L)))/\w=w':=by
 have HI:=bx (ajY v xs hx bm na L nc hL w hv hz hc hlt);clear hv hc hx
 go_enter Tryz.func176,Tryz.ntmps176
 go_wp2_with fail;refine HI.o.mono ?_;rintro e w1 ⟨⟨i,rfl,hi⟩,rfl⟩;have HX:=bx hi;clear hi;go_wp2_with fail;go_ret
 exact⟨aI (by simpa using HX.o),rfl⟩
theorem XI (v:Value) (xs:List Int) (hx:∀ x∈xs,0<=x/\x<1099511627776) (na:Option Addr) (L nc:Nat) (hL:L<=40) (w:World) (hv:aB w v xs) (hz:xs.length<=16777216) :
  Calls Tryz.prog 136 #[v, .slice na L nc] w λe w'=>e = .returned (.bool (xs.all (inB L)))/\Below w.heap.size w w':=by
 obtain⟨W,hW⟩:∃ W,W=w.alloc (.cells #[.slice na L nc] 26):=⟨_,rfl⟩
 have hbW:Below w.heap.size w W:=by rw [hW];exact aO w _
 have hbk:aj W w.heap.size 26 #[.slice na L nc]:=by rw [hW];exact aj.new _ _ _
 have HC:=bx (ah3 v xs hx w.heap.size na L nc hL W (hv.below hbW) hz ((hbk.cell 0).trans rfl) hbk.lt);have HW:=bx hW;have HB:=bx hbW;obtain⟨ao,cap,rfl⟩:=hv.slice;clear hv hx hW hbW hbk
 go_enter Tryz.func136,Tryz.ntmps136
 go_wp2_with fail;rw [<- HW.o];refine HC.o.mono ?_;rintro e w1 ⟨rfl,rfl⟩;go_wp2_with fail;go_ret
 exact⟨aI (by simp),HB.o⟩
theorem CB {P:Program} {f:FuncId} {args:Array Value} {v v':Value} {W:World} {Inv:World->Prop} (h:Calls P f args W λe w'=>e = .returned v/\Below W.heap.size W w') (hv:v=v') (hI:∀ w',Below W.heap.size W w'->Inv w') :
  Calls P f args W λe w''=>e = .returned v'/\∃ m:CW Inv,w''=m.w:=hv▸rQ h hI
theorem FP {R:List D.Rule} {ks:List Int} {f:Nat} {p:Int} {k:Nat} {x:D.Rule} (hx:R[k]?=some x) (h:f.testBit k=false\/kC x.2.1.1 x.2.1.2 ks p=false):G.hit R ks f p k=false:=by
 unfold G.hit;rw [hx]
 rcases h with h | h <;> simp [h]
theorem VY {R:List D.Rule} {ks:List Int} {f:Nat} {p:Int} {k:Nat} {x:D.Rule} (hx:R[k]?=some x) (h:f.testBit k=true) (h2:kC x.2.1.1 x.2.1.2 ks p=true):G.hit R ks f p k=true:=by
 unfold G.hit;rw [hx];simp [h,h2]
theorem aew (cb:Nat) (nv fv rv lv:Value) (R:List D.Rule) (ks:List Int) (p:Int) (f:Nat) (w:World) (hC:aj w cb 210 #[nv,fv,rv,lv]) (hR:fA w rv R) (hL:aB w lv ks) (hf:∀ x∈R,nX x) (hks:ks.length<=900) (hfl:f<1099511627776) (hRl:R.length<=40) :
  Calls Tryz.prog 140 #[.pointer (some ⟨cb,0,none⟩), .int .i64 p, .int .i64 f] w λe w'=>e = .returned (.bool (G.zB R ks f p))/\Below w.heap.size w w':=by
 have HC:=bx hC;have HR:=bx hR;have HL:=bx hL;have HF:=bx hf;have hcl:=hC.lt;obtain⟨ro,rc,rfl⟩:=hR.slice;have c0:w.cell? ⟨cb,2,none⟩=some (.slice ro R.length rc):=(hC.cell 2).trans rfl;clear hC hR hL hf
 go_enter Tryz.func140,Tryz.ntmps140
 go_wp2_with fail
 go_loopw [14] (λi wr=>∃ k:Nat,k<=R.length/\i = .int .i64 k/\Box (∀ i,i<k->G.hit R ks f p i=false)/\Box (Below w.heap.size w wr)) (λi _=>R.length-(intOf i).toNat)
 case atStart=>exact⟨0,Nat.zero_le _,rfl,⟨λi hi=>by omega⟩,⟨Below.refl _ _⟩⟩
 case round =>
  obtain⟨k,hk,rfl,hno,hb⟩:=hrel;clear c0
  by_cases hlt:k<R.length
  ·obtain⟨x,hx⟩:∃ x,R[k]?=some x:=⟨_,List.getElem?_eq_getElem hlt⟩
   obtain⟨g,off,cap,k1,k2,k3,k4,k5⟩:=(HR.o.below hb.o).get (by rintro rfl;simp at hlt);obtain⟨rfl,rfl⟩:ro=some ⟨g,off,none⟩/\rc=cap:=by injection k1 with h1 h2 h3;exact⟨h1,h3⟩
   obtain⟨vl,vr,r0,r1,r2,r3,r4,hil,hir⟩:=k5 k x hx;obtain⟨al,acl,rfl⟩:=hil.slice;obtain⟨ar,vX,rfl⟩:=hir.slice;have hfit:=(HF.o x (List.mem_of_getElem? hx)).2;obtain⟨V,hV⟩:∃ V,V=wr.alloc (.cells #[.bool x.1.1,(.slice al x.1.2.length acl), .bool x.2.1.1,(.slice ar x.2.1.2.length vX), .bool x.2.2] 184):=⟨_,rfl⟩
   have Hl:Below wr.heap.size wr V:=by rw [hV];exact aO wr _
   have bf:=bx (show aj V wr.heap.size 184 #[.bool x.1.1,(.slice al x.1.2.length acl), .bool x.2.1.1,(.slice ar x.2.1.2.length vX), .bool x.2.2] by rw [hV];exact aj.new _ _ _);have bI:=bx (show Below w.heap.size w V from bt hb.o Hl);have Bh:=bx (λ(W:World) (h:Below V.heap.size V W)=>ahh x.2.1.1 (.slice ar x.2.1.2.length vX) x.2.1.2 lv ks p W ((hir.below Hl).below h) hfit ((HL.o.below bI.o).below h) hks);have HX:=bx hx;have ht:=Y9 f k (by omega);have iP:=bx (show G.hit R ks f p k=false->∀ i,i<k+1->G.hit R ks f p i=false from λh i hi=>by
    rcases Nat.lt_or_ge i k with h1 | h1
    ·exact hno.o i h1
    ·obtain rfl:i=k:=by omega
     exact h)
   have hcV:=HC.o.below bI.o hcl;have Nu:V.cell? ⟨cb,3,none⟩=some lv:=(hcV.cell 3).trans rfl;have b2:V.cell? ⟨wr.heap.size,2,none⟩=some (.bool x.2.1.1):=(bf.o.cell 2).trans rfl;have b3:V.cell? ⟨wr.heap.size,3,none⟩=some (.slice ar x.2.1.2.length vX):=(bf.o.cell 3).trans rfl;have rD:=bx hV;have gB:=bx hcV.lt;have agJ:k<40:=by omega
   unfold maxLen at k3;clear k1 k5 hx hil hir hV Hl hcV
   cases hbit:f.testBit k with
   | false =>
    have HN:=bx (iP.o (FP HX.o (.inl hbit)));have HDR:=bx (λm=>bI.o.trans ((below_drewN (Below.refl V.heap.size V) m).mono bI.o.size));rw [hbit] at ht;clear hbit
    go_upto_region 4 with(fail)
    rw [<- rD.o]
    go_quiet (fail)
    go_wp2_with fail
    go_roundw
    case rel=>exact⟨k+1,hlt,by go_num,HN,⟨HDR.o _⟩⟩
    case measure=>simp [intOf];omega
   | true =>
    rw [hbit] at ht
    cases hah:kC x.2.1.1 x.2.1.2 ks p with
    | false =>
     have HN:=bx (iP.o (FP HX.o (.inr hah)));obtain⟨Inv,hI1,hI2⟩:∃ Inv:World->Prop,(∀ W,Inv W->Below V.heap.size V W)/\(∀ W,Below V.heap.size V W->Inv W):=⟨_,λ_ h=>h,λ_ h=>h⟩
     have dQ:=bx (show ∀ q:CW Inv,Below V.heap.size V q.w from λq=>hI1 _ q.h);have qZ:=bx (show ∀ (q:CW Inv) w',Below q.w.heap.size q.w w'->Inv w' from λq w' h=>hI2 _ ((dQ.o q).trans (h.mono (dQ.o q).size)));have q0:∀ q:CW Inv,q.w.cell? ⟨cb,3,none⟩=some lv:=λq=>((dQ.o q).cell (p:=⟨cb,3,none⟩) gB.o).trans Nu
     have q1:∀ q:CW Inv,q.w.cell? ⟨wr.heap.size,2,none⟩=some (.bool x.2.1.1):=λq=>((dQ.o q).cell (p:=⟨wr.heap.size,2,none⟩) bf.o.lt).trans b2
     have q2:∀ q:CW Inv,q.w.cell? ⟨wr.heap.size,3,none⟩=some (.slice ar x.2.1.2.length vX):=λq=>((dQ.o q).cell (p:=⟨wr.heap.size,3,none⟩) bf.o.lt).trans b3
     have K1:=bx (λq:CW Inv=>CB (Bh.o q.w (dQ.o q)) (show Value.bool (kC x.2.1.1 x.2.1.2 ks p) = .bool false by rw [hah]) (qZ.o q));have HDR:=bx (hI2 _ (iD V 1));clear hbit hah hI1 hI2
     go_upto_region 4 with(fail)
     rw [<- rD.o];clear Nu b2 b3;refine uT Inv (by kernel_rfl) (by kernel_rfl) HDR.o (λhne=>?_)
     repeat (any_goals (first | go_big_quiet_step ((go_at_call 181;exact K1.o _)) | quiet_step ((go_at_call 181;exact K1.o _))))
     refine wpQuiet_nil ?_;rintro w7 ⟨q7,rfl⟩;have bW:=bx (bI.o.trans ((dQ.o q7).mono bI.o.size));clear q0 q1 q2 hne;go_wp2_with fail
     go_roundw
     case rel=>exact⟨k+1,hlt,by go_num,HN,bW⟩
     case measure=>simp [intOf];omega
    | true =>
     have HN:=bx (G.RQ HX.o (VY HX.o hbit hah) hno.o);obtain⟨Inv,hI1,hI2⟩:∃ Inv:World->Prop,(∀ W,Inv W->Below V.heap.size V W)/\(∀ W,Below V.heap.size V W->Inv W):=⟨_,λ_ h=>h,λ_ h=>h⟩
     have dQ:=bx (show ∀ q:CW Inv,Below V.heap.size V q.w from λq=>hI1 _ q.h);have qZ:=bx (show ∀ (q:CW Inv) w',Below q.w.heap.size q.w w'->Inv w' from λq w' h=>hI2 _ ((dQ.o q).trans (h.mono (dQ.o q).size)));have q0:∀ q:CW Inv,q.w.cell? ⟨cb,3,none⟩=some lv:=λq=>((dQ.o q).cell (p:=⟨cb,3,none⟩) gB.o).trans Nu
     have q1:∀ q:CW Inv,q.w.cell? ⟨wr.heap.size,2,none⟩=some (.bool x.2.1.1):=λq=>((dQ.o q).cell (p:=⟨wr.heap.size,2,none⟩) bf.o.lt).trans b2
     have q2:∀ q:CW Inv,q.w.cell? ⟨wr.heap.size,3,none⟩=some (.slice ar x.2.1.2.length vX):=λq=>((dQ.o q).cell (p:=⟨wr.heap.size,3,none⟩) bf.o.lt).trans b3
     have K1:=bx (λq:CW Inv=>CB (Bh.o q.w (dQ.o q)) (show Value.bool (kC x.2.1.1 x.2.1.2 ks p) = .bool true by rw [hah]) (qZ.o q));have HDR:=bx (hI2 _ (iD V 1));clear hbit hah hI1 hI2
     go_upto_region 4 with(fail)
     rw [<- rD.o];clear Nu b2 b3;refine uT Inv (by kernel_rfl) (by kernel_rfl) HDR.o (λhne=>?_)
     repeat (any_goals (first | go_big_quiet_step ((go_at_call 181;exact K1.o _)) | quiet_step ((go_at_call 181;exact K1.o _))))
     refine wpQuiet_nil ?_;rintro w7 ⟨q7,rfl⟩;have bW:=bx (bI.o.trans ((dQ.o q7).mono bI.o.size));have b4:q7.w.cell? ⟨wr.heap.size,4,none⟩=some (.bool x.2.2):=((dQ.o q7).cell (p:=⟨wr.heap.size,4,none⟩) bf.o.lt).trans ((bf.o.cell 4).trans rfl);clear q0 q1 q2 hne;go_wp2_with fail;go_ret
     exact⟨aI HN.o.symm,bW.o⟩
  ·have HN:=bx (G.Ut (R:=R) (ks:=ks) (f:=f) (p:=p) (λi hi=>hno.o i (by omega)));go_wp2_with fail;go_ret
   exact⟨aI HN.o.symm,hb.o⟩
end
section
open Go.RowKit
attribute [local go_sem] Oper.semAt_some
def bP (x:F.aV):List Value:=[.int .i64 x.1, .int .i64 x.2.1, .int .i64 x.2.2]
def iM (w:World) (v:Value) (l:List F.aV):Prop:=rF 3 w v (l.map bP)
theorem iM.below {w w':World} {v:Value} {l:List F.aV} (h:iM w v l) (hb:Below w.heap.size w w'):iM w' v l:=rF.below h hb
theorem iM.slice {w:World} {v:Value} {l:List F.aV} (h:iM w v l):∃ a cap,v = .slice a l.length cap/\l.length<=cap/\cap<=9223372036854775807:=by
 have:=rF.slice h
 rwa [List.length_map] at this
theorem iM.get {w:World} {v:Value} {l:List F.aV} (h:iM w v l) (hn:l≠[]) :
  ∃ b off cap,v = .slice (some ⟨b,off,none⟩) l.length cap/\l.length<=cap/\cap<=maxLen/\b<w.heap.size/\∀ i x,l[i]?=some x->w.cell? ⟨b,off+i*3,none⟩=some (.int .i64 x.1)/\w.cell? ⟨b,off+i*3+1,none⟩=some (.int .i64 x.2.1)/\w.cell? ⟨b,off+i*3+2,none⟩=some (.int .i64 x.2.2):=by
 obtain⟨b,off,cap,h1,h2,h3,h4,h5⟩:=rF.get h (by simpa using hn);rw [List.length_map] at h1 h2;refine⟨b,off,cap,h1,h2,h3,h4,λi x hx=>?_⟩;have hc:(l.map bP)[i]?=some (bP x):=by rw [List.getElem?_map,hx];rfl
 exact⟨h5 i _ hc 0 _ rfl,h5 i _ hc 1 _ rfl,h5 i _ hc 2 _ rfl⟩
theorem iM.gK {w:World} {base n:Nat} {T:TypeId} {v:Value} {l:List F.aV} (h:w.ownsRow base T 3 v n (l.flatMap bP)) (hn:n=l.length):iM w v l:=by
 rw [YB] at h;exact rF.gK h (by rw [List.length_map];exact hn) (λc hc=>by obtain⟨y,-,rfl⟩:=List.mem_map.1 hc;rfl)
theorem Z9 (x:F.aV) (w:World):Calls Tryz.prog 162 #[.agg #[.int .i64 x.1, .int .i64 x.2.1, .int .i64 x.2.2]] w λe w'=>e = .returned (.bool (F.BN x))/\Below w.heap.size w w':=by
 obtain⟨a,b,c⟩:=x;unfold F.BN;simp only;have hb:Below w.heap.size w (w.alloc (.cells #[.int .i64 a, .int .i64 b, .int .i64 c] 175)):=(Below.refl _ _).alloc (Nat.le_refl _) _;have HB:=bx hb;clear hb
 go_enter Tryz.func162,Tryz.ntmps162
 go_wp2_with fail
 all_goals go_returns
 all_goals exact⟨aI (by first | rfl | (rw [Bool.eq_iff_iff];simp;done) | (rw [Bool.eq_iff_iff];simp;omega)),HB.o⟩
theorem ZE (v:Value) (l:List F.aV) (w:World) (hv:iM w v l) (hok:F.vP l=true) :
  Calls Tryz.prog 121 #[v] w λe w'=>e = .returned (.bool true)/\Below w.heap.size w w':=by
 unfold F.vP at hok;rw [Bool.and_eq_true,decide_eq_true_eq,List.all_eq_true] at hok;obtain⟨hall,Qc⟩:=hok;have qX:=bx hall;have HV:=bx hv;obtain⟨a,cap,rfl,hc1,hc2⟩:=hv.slice;clear hv hall
 go_enter Tryz.func121,Tryz.ntmps121
 go_wp2_with fail
 go_loopw [3] (λi wr=>∃ k:Nat,k<=l.length/\i = .int .i64 k/\Box (Below w.heap.size w wr)) (λi _=>l.length-(intOf i).toNat)
 case atStart=>exact⟨0,by omega,rfl,⟨Below.refl _ _⟩⟩
 case round =>
  obtain⟨k,hk,rfl,hb⟩:=hrel
  by_cases hlt:k<l.length
  ·have hko:=qX.o k (List.mem_range.2 hlt);obtain⟨x,hx⟩:∃ x,l[k]?=some x:=⟨_,List.getElem?_eq_getElem hlt⟩
   have hgd:l.getD k (0,0,0)=x:=by rw [List.getD_eq_getElem?_getD,hx];rfl
   rw [hgd,Bool.and_eq_true,Bool.or_eq_true,decide_eq_true_eq,decide_eq_true_eq] at hko;obtain⟨hr,hlo⟩:=hko;obtain⟨g,off,cap2,hg1,hg2,hg3,hg4,hg5⟩:=(HV.o.below hb.o).get (by rintro rfl;simp at hlt);obtain⟨rfl,rfl⟩:a=some ⟨g,off,none⟩/\cap=cap2:=by injection hg1 with h1 h2 h3;exact⟨h1,h3⟩
   obtain⟨x0,x1,x2⟩:=hg5 k x hx;have DF:=bx (λW=>Z9 x W);rw [hr] at DF;have yj:=bx hlo;obtain⟨Inv,hI1,hI2⟩:∃ Inv:World->Prop,(∀ W,Inv W->Below wr.heap.size wr W)/\(∀ W,Below wr.heap.size wr W->Inv W):=⟨_,λ_ h=>h,λ_ h=>h⟩
   have dQ:=bx (show ∀ q:CW Inv,Below wr.heap.size wr q.w from λq=>hI1 _ q.h);have qZ:=bx (show ∀ (q:CW Inv) w',Below q.w.heap.size q.w w'->Inv w' from λq w' h=>hI2 _ ((dQ.o q).trans (h.mono (dQ.o q).size)));have q0:∀ q:CW Inv,q.w.cell? ⟨g,off+k*3,none⟩=some (.int .i64 x.1):=λq=>((dQ.o q).cell (p:=⟨g,off+k*3,none⟩) hg4).trans x0
   have q1:∀ q:CW Inv,q.w.cell? ⟨g,off+k*3+1,none⟩=some (.int .i64 x.2.1):=λq=>((dQ.o q).cell (p:=⟨g,off+k*3+1,none⟩) hg4).trans x1
   have q2:∀ q:CW Inv,q.w.cell? ⟨g,off+k*3+2,none⟩=some (.int .i64 x.2.2):=λq=>((dQ.o q).cell (p:=⟨g,off+k*3+2,none⟩) hg4).trans x2
   have K1:=bx (λq:CW Inv=>CB (DF.o q.w) rfl (qZ.o q));have HDR:=bx (hI2 _ (iD wr 1));unfold maxLen at hg3
   rcases Nat.eq_zero_or_pos k with h0 | h0
   ·have e0:decide (0<k)=false:=decide_eq_false (by omega);clear hx hgd hr hlo hg1 hg5 x0 x1 x2 hI1 hI2 h0;go_wp2_with fail;refine uT Inv (by kernel_rfl) (by kernel_rfl) HDR.o (λhne=>?_)
    repeat (any_goals (first | go_big_quiet_step ((go_at_call 162;exact K1.o _)) | quiet_step ((go_at_call 162;exact K1.o _))))
    refine wpQuiet_nil ?_;rintro w7 ⟨q7,rfl⟩;have bW:=bx (hb.o.trans ((dQ.o q7).mono hb.o.size));clear q0 q1 q2 hne;go_wp2_with fail
    go_roundw
    case rel=>exact⟨k+1,hlt,by go_num,bW⟩
    case measure=>simp [intOf];omega
   ·obtain⟨y,hy⟩:∃ y,l[k-1]?=some y:=⟨_,List.getElem?_eq_getElem (by omega)⟩
    have hyd:l.getD (k-1) (0,0,0)=y:=by rw [List.getD_eq_getElem?_getD,hy];rfl
    have hxy:y.2.1<x.1:=by
     rcases hlo with h | h
     ·omega
     ·rw [hyd] at h;exact h
    obtain⟨y0,y1,y2⟩:=hg5 (k-1) y hy;have q3:∀ q:CW Inv,q.w.cell? ⟨g,off+(k-1)*3+1,none⟩=some (.int .i64 y.2.1):=λq=>((dQ.o q).cell (p:=⟨g,off+(k-1)*3+1,none⟩) hg4).trans y1
    have e0:decide (0<k)=true:=decide_eq_true (by omega);have e1:decide (x.1<=y.2.1)=false:=decide_eq_false (by omega);have i0:(0:Int)<=(k:Int)-1:=by omega
    have i1:(k:Int)-1<(l.length:Int):=by omega
    have i2:((k:Int)-1).toNat=k-1:=by omega
    clear hx hgd hr hlo hg1 hg5 x0 x1 x2 hI1 hI2 hy hyd y0 y1 y2;go_wp2_with fail;refine uT Inv (by kernel_rfl) (by kernel_rfl) HDR.o (λhne=>?_)
    repeat (any_goals (first | go_big_quiet_step ((go_at_call 162;exact K1.o _)) | quiet_step ((go_at_call 162;exact K1.o _))))
    refine wpQuiet_nil ?_;rintro w7 ⟨q7,rfl⟩;have bW:=bx (hb.o.trans ((dQ.o q7).mono hb.o.size));clear q0 q1 q2 q3 hne;go_wp2_with fail
    go_roundw
    case rel=>exact⟨k+1,hlt,by go_num,bW⟩
    case measure=>simp [intOf];omega
  ·have oK:=bx hb.o;go_wp2_with fail;go_ret
   exact⟨aI (decide_eq_true (by omega)),oK.o⟩
theorem aic {w:World} {base n s:Nat} {e:TypeId} {v:Value} {xs:List Value} (h:w.ownsRow base e s v n xs) {g:Nat} (hg:v.ownBlock=some g) (i:Nat) (hi:i<n*s) (u:Value):(w.setCell ⟨g,i,none⟩ u).ownsRow base e s v n (xs.set i u):=by
 refine⟨by rw [List.length_set];exact h.1,?_⟩
 rcases h.2 with⟨-,h0⟩ | ⟨g',cap,cur,rfl,h2,h3,h4,h5,h6,h7⟩
 ·subst h0;omega
 ·simp [Value.ownBlock] at hg;subst hg;refine .inr ⟨g',cap,cur.setIfInBounds i u,rfl,h2,aj.dh (w:=w) (t:=e) h3 i u,h4,h5,by simpa using h6,?_⟩;rw [Array.toList_setIfInBounds,<- h7];generalize n*s=m at hi
  apply List.ext_getElem?
  intro j;rw [List.getElem?_take,List.getElem?_set,List.getElem?_set,List.getElem?_take,List.length_take]
  by_cases hj:j<m
  ·simp only [hj,if_true]
   by_cases e1:i=j
   ·subst e1;simp only [if_true];have:i<min m cur.toList.length↔i<cur.toList.length:=by omega
    simp only [this]
   ·simp [e1]
  ·simp only [hj,if_false]
   by_cases e1:i=j
   ·omega
   ·simp [e1]
theorem Sep.adP {W:World} {ps:List Pc} (h:Sep ps W) (k:Nat) {base n s:Nat} {e:TypeId} {v:Value} {xs:List Value} (hk:ps[k]?=some (Pc.row base e s v n xs)) {g:Nat} (hg:v.ownBlock=some g) (i:Nat) (hi:i<n*s) (u:Value) :
  Sep (ps.set k (Pc.row base e s v n (xs.set i u))) (W.setCell ⟨g,i,none⟩ u) :=
 h.upd (own:=λq=>q=g) k hk (Turns.setCell (own:=λq=>q=g) W (p:=⟨g,i,none⟩) rfl u) (λq hq _=>by subst hq;exact hg) (aic (h.row k hk) hg i hi u) (λq hq=>.inl hq)
theorem amw {w:World} {base n s:Nat} {e:TypeId} {v:Value} {xs:List Value} (h:w.ownsRow base e s v n xs) (hn:0<n):∃ (g cap:Nat) (cur:Array Value),v = .slice (some ⟨g,0,none⟩) n cap/\base<=g/\n<=cap/\cap<=9223372036854775807/\aj w g e cur/\∀ (i:Nat) (x:Value),xs[i]?=some x->cur[i]?=some x:=by
 rcases h.2 with⟨-,h0⟩ | ⟨g,cap,cur,rfl,h2,h3,h4,h5,h6,h7⟩
 ·omega
 ·refine⟨g,cap,cur,rfl,h2,h4,by unfold maxLen at h5;omega,h3,λi x hx=>?_⟩;rw [<- h7,List.getElem?_take] at hx
  split at hx
  ·rw [<- Array.getElem?_toList];exact hx
  ·cases hx
theorem nV:vH Tryz.prog 117 175 3 24:=.mk' (z:=.agg #[.int .i64 0, .int .i64 0, .int .i64 0]) Tryz.underlying117 (by kernel_rfl) rfl
theorem uJ (l:List F.aV):(l.flatMap bP).length=l.length*3:=by
 induction l with
 | nil=>rfl
 | cons x t ih=>rw [List.flatMap_cons,List.length_append,ih,List.length_cons];simp [bP];omega
theorem Tm (r:List F.aV) (y:F.aV) (j:Nat) (hj:j<3):((r++[y]).flatMap bP)[r.length*3+j]?=(bP y)[j]?:=by
 rw [List.flatMap_append,List.flatMap_singleton,List.getElem?_append_right (by rw [uJ];omega),uJ]
 congr 1
 omega
theorem adR (r:List F.aV) (y:F.aV) (u:Int):((r++[y]).flatMap bP).set (r.length*3+1) (.int .i64 u)=(r++[(y.1,u,y.2.2)]).flatMap bP:=by
 rw [List.flatMap_append,List.flatMap_append,List.flatMap_singleton,List.flatMap_singleton,List.set_append,if_neg (by rw [uJ];omega),uJ,show r.length*3+1-r.length*3=1 by omega]
 rfl
theorem ank {ps:List Pc} (i:Nat) (base:Nat) (v:Value) (l:List F.aV) (x:F.aV) (w:World) (hS:Sep ps w) (hi:ps[i]?=some (Pc.row base 175 3 v l.length (l.flatMap bP))) (hz:l.length<=100000) (hl:∀ y∈l,0<=y.2.1/\y.2.1<=1114111) (hbase:base<=w.heap.size) :
  Calls Tryz.prog 164 #[v, .agg #[.int .i64 x.1, .int .i64 x.2.1, .int .i64 x.2.2]] w λe w'=>∃ v',e = .returned v'/\Sep (ps.set i (Pc.row base 175 3 v' (F.uG l x).length ((F.uG l x).flatMap bP))) w':=by
 obtain⟨a,b,c⟩:=x;obtain⟨V,hV⟩:∃ V,V=w.alloc (.cells #[.int .i64 a, .int .i64 b, .int .i64 c] 175):=⟨_,rfl⟩
 have Vp:V.heap.size=w.heap.size+1:=by rw [hV];simp
 have Ij:Sep (Pc.blk w.heap.size 175 #[.int .i64 a, .int .i64 b, .int .i64 c]::ps) V:=by rw [hV];exact hS.bM _ _
 have hbk:=Ij.blk 0 rfl;have c0:V.cell? ⟨w.heap.size,0,none⟩=some (.int .i64 a):=(hbk.cell 0).trans rfl;have c1:V.cell? ⟨w.heap.size,1,none⟩=some (.int .i64 b):=(hbk.cell 1).trans rfl;have c2:V.cell? ⟨w.heap.size,2,none⟩=some (.int .i64 c):=(hbk.cell 2).trans rfl;have cl:=hbk.lt;have EK:=bx Ij;have HV:=bx hV;have HI:=bx hi;have hbs:base<=V.heap.size:=by omega
 -- one more behind them
 have anV:=bx (show ∀ W,Sep (Pc.blk w.heap.size 175 #[.int .i64 a, .int .i64 b, .int .i64 c]::ps) W->Sep ps W from λW h=>h.tail)
 rcases List.eq_nil_or_concat l with rfl | ⟨r,y,rfl⟩
 ·have HA:=bx (show F.uG [] (a,b,c)=[(a,b,c)] from rfl);obtain⟨oo,oc,rfl,-,-⟩:=iU (hS.row i hi);have HI:=bx (show (Pc.blk w.heap.size 175 #[.int .i64 a, .int .i64 b, .int .i64 c]::ps)[i+1]?=some (Pc.row base 175 3 (.slice oo 0 oc) 0 []) from hi);rw [List.length_nil];clear hS hi hV Ij hbk hl
  go_enter Tryz.func164,Tryz.ntmps164
  go_upto_region 1 with(fail)
  rw [<- HV.o];go_wp2_with fail
  go_quiet (fail)
  have jA:=bx (EK.o.drewN nq);have hbq:base<=(V.drewN nq).heap.size:=hbs;have MB:=bx (show (V.drewN nq).heap.size=w.heap.size+1 from Vp);go_wp2_with (at_builtin;refine AQ (cs:=bP (a,b,c)) rfl _ _ 117 rfl nV (by decide) jA.o (i+1) HI.o rfl (by rw [MB.o];rfl) rfl (by intro u hu;simp only [bP,List.mem_cons,List.not_mem_nil,or_false] at hu;rcases hu with rfl | rfl | rfl <;> rfl) (by omega) (by omega) hbq ?_;rintro v' w6 hS6 ⟨go',gc',rfl,-,-⟩)
  have aW:=bx hS6;clear hS6;go_wp2_with fail;go_ret
  refine⟨_,rfl,?_⟩;have h8:=aW.o.tail;rw [HA.o]
  skip
  exact h8
 ·rw [List.concat_eq_append] at *;have hlen:(r++[y]).length=r.length+1:=by simp
  rw [hlen] at hi hz;have hy:=hl y (by simp);obtain⟨g,cap,cur,rfl,r1,r2,r3,hbl,hcur⟩:=amw (Ij.row (i+1) hi) (by omega);have y0:V.cell? ⟨g,r.length*3,none⟩=some (.int .i64 y.1):=(hbl.cell _).trans (hcur _ _ (by have:=Tm r y 0 (by omega);rw [Nat.add_zero] at this;exact this));have y1:V.cell? ⟨g,r.length*3+1,none⟩=some (.int .i64 y.2.1):=(hbl.cell _).trans (hcur _ _ (Tm r y 1 (by omega)));have y2:V.cell? ⟨g,r.length*3+2,none⟩=some (.int .i64 y.2.2):=(hbl.cell _).trans (hcur _ _ (Tm r y 2 (by omega)));have yl:=hbl.lt;have yf:=hbl.frozen (r.length*3+1);have HI:=bx (show (Pc.blk w.heap.size 175 #[.int .i64 a, .int .i64 b, .int .i64 c]::ps)[i+1]?=some (Pc.row base 175 3 (.slice (some ⟨g,0,none⟩) (r.length+1) cap) (r.length+1) ((r++[y]).flatMap bP)) from hi);have HLEN:=bx hlen;obtain⟨ya,yb,yc⟩:=y;simp only at hy y0 y1 y2;have BP:=bx (show F.uG (r++[(ya,yb,yc)]) (a,b,c)=if yb+1=a/\yc=c then r++[(ya,b,yc)] else (r++[(ya,yb,yc)])++[(a,b,c)] by
   unfold F.uG;rw [List.getLast?_append,List.getLast?_singleton,Option.some_or,List.dropLast_concat])
  clear hS hi hV Ij hbk hl hbl hcur hlen
  go_enter Tryz.func164,Tryz.ntmps164
  go_upto_region 1 with(fail)
  rw [<- HV.o]
  by_cases hA:yb+1=a
  ·by_cases hB:yc=c
   ·have HA:=bx (show F.uG (r++[(ya,yb,yc)]) (a,b,c)=r++[(ya,b,yc)] by rw [BP.o,if_pos ⟨hA,hB⟩]);have e1:(yb+1==a)=true:=by rw [beq_iff_eq];exact hA
    have e2:(yc==c)=true:=by rw [beq_iff_eq];exact hB
    clear hA hB;go_wp2_with fail
    go_quiet (fail)
    have jA:=bx (EK.o.drewN nq);go_wp2_with fail;go_ret
    refine⟨_,rfl,?_⟩;have h8:=(jA.o.adP (i+1) HI.o (g:=g) rfl (r.length*3+1) (by omega) (.int .i64 b)).tail;rw [adR] at h8;rw [HA.o,List.length_append];exact h8
   ·have HA:=bx (show F.uG (r++[(ya,yb,yc)]) (a,b,c)=(r++[(ya,yb,yc)])++[(a,b,c)] by rw [BP.o,if_neg (λh=>hB h.2)]);have e1:(yb+1==a)=true:=by rw [beq_iff_eq];exact hA
    have e2:(yc==c)=false:=by rw [beq_eq_false_iff_ne];exact hB
    clear hA hB;go_wp2_with fail
    go_quiet (fail)
    have jA:=bx (EK.o.drewN nq);have hbq:base<=(V.drewN nq).heap.size:=hbs;have MB:=bx (show (V.drewN nq).heap.size=w.heap.size+1 from Vp);go_wp2_with (at_builtin;refine AQ (cs:=bP (a,b,c)) rfl _ _ 117 rfl nV (by decide) jA.o (i+1) HI.o rfl (by rw [MB.o];rfl) rfl (by intro u hu;simp only [bP,List.mem_cons,List.not_mem_nil,or_false] at hu;rcases hu with rfl | rfl | rfl <;> rfl) (by omega) (by omega) hbq ?_;rintro v' w6 hS6 ⟨go',gc',rfl,-,-⟩)
    have aW:=bx hS6;clear hS6;go_wp2_with fail;go_ret
    refine⟨_,rfl,?_⟩;have h8:=aW.o.tail;rw [HA.o];rw [List.length_append,HLEN.o,List.flatMap_append (xs:=r++[(ya,yb,yc)]),List.flatMap_singleton];exact h8
  ·have HA:=bx (show F.uG (r++[(ya,yb,yc)]) (a,b,c)=(r++[(ya,yb,yc)])++[(a,b,c)] by rw [BP.o,if_neg (λh=>hA h.1)]);have e1:(yb+1==a)=false:=by rw [beq_eq_false_iff_ne];exact hA
   clear hA;go_wp2_with fail
   go_quiet (fail)
   have jA:=bx (EK.o.drewN nq);have hbq:base<=(V.drewN nq).heap.size:=hbs;have MB:=bx (show (V.drewN nq).heap.size=w.heap.size+1 from Vp);go_wp2_with (at_builtin;refine AQ (cs:=bP (a,b,c)) rfl _ _ 117 rfl nV (by decide) jA.o (i+1) HI.o rfl (by rw [MB.o];rfl) rfl (by intro u hu;simp only [bP,List.mem_cons,List.not_mem_nil,or_false] at hu;rcases hu with rfl | rfl | rfl <;> rfl) (by omega) (by omega) hbq ?_;rintro v' w6 hS6 ⟨go',gc',rfl,-,-⟩)
   have aW:=bx hS6;clear hS6;go_wp2_with fail;go_ret
   refine⟨_,rfl,?_⟩;have h8:=aW.o.tail;rw [HA.o];rw [List.length_append,HLEN.o,List.flatMap_append (xs:=r++[(ya,yb,yc)]),List.flatMap_singleton];exact h8
theorem agF {l:List F.aV} {x:F.aV} (hl:∀ y∈l,0<=y.2.1/\y.2.1<=1114111) (hx:0<=x.2.1/\x.2.1<=1114111):(∀ y∈F.uG l x,0<=y.2.1/\y.2.1<=1114111)/\(F.uG l x).length<=l.length+1:=by
 unfold F.uG
 split
 ·exact⟨λy hy=>by
   rcases List.mem_append.1 hy with h | h
   ·exact hl y h
   ·rw [List.mem_singleton.1 h];exact hx,by simp⟩
 ·rename_i z hz
  split
  ·exact⟨λy hy=>by
    rcases List.mem_append.1 hy with h | h
    ·exact hl y (List.dropLast_subset l h)
    ·rw [List.mem_singleton.1 h];exact hx,by simp⟩
  ·exact⟨λy hy=>by
    rcases List.mem_append.1 hy with h | h
    ·exact hl y h
    ·rw [List.mem_singleton.1 h];exact hx,by simp⟩
theorem ait (v:Value) (l:List F.aV) (w:World) (hv:iM w v l) (hok:F.vP l=true) :
  Calls Tryz.prog 112 #[v] w λe w'=>(∃ v',e = .returned (.tuple #[v', .int .i64 0])/\iM w' v' (F.yS l l.length))/\Below w.heap.size w w':=by
 have eH:=bx (ZE v l w hv hok);have HV:=bx hv;unfold F.vP at hok;rw [Bool.and_eq_true,decide_eq_true_eq,List.all_eq_true] at hok;obtain⟨hall,Qc⟩:=hok;have qX:=bx (show ∀ (i:Nat) (x:F.aV),l[i]?=some x->0<=x.2.1/\x.2.1<=1114111 from λi x hx=>by
  have hi:=(List.getElem?_eq_some_iff.1 hx).1;have h:=hall i (List.mem_range.2 hi);have hgd:l.getD i (0,0,0)=x:=by rw [List.getD_eq_getElem?_getD,hx];rfl
  rw [hgd,Bool.and_eq_true] at h;have h2:=h.1;unfold F.BN at h2;simp only [Bool.and_eq_true,decide_eq_true_eq] at h2;omega)
 obtain⟨a,cap,rfl,hc1,hc2⟩:=hv.slice;clear hv hall
 go_enter Tryz.func112,Tryz.ntmps112
 go_wp2_with fail;refine eH.o.mono ?_;rintro e w1 ⟨rfl,hb1⟩;have HB1:=bx hb1;have fH:=bx (HV.o.below hb1);have aQ:=bx ((Sep.start w1).iW w1.heap.size 3 175);clear hb1;go_wp2_with fail
 go_loopw [5,4] (λi o wr=>∃ k:Nat,k<=l.length/\i = .int .i64 k/\(F.yS l k).length<=k/\Box (∀ y∈F.yS l k,0<=y.2.1/\y.2.1<=1114111)/\Box (Sep [Pc.row w1.heap.size 175 3 o (F.yS l k).length ((F.yS l k).flatMap bP),Pc.old w1.heap.size w1] wr)) (λi _ _=>l.length-(intOf i).toNat)
 case atStart=>exact⟨0,by omega,rfl,Nat.le_refl _,⟨λy hy=>absurd hy List.not_mem_nil⟩,aQ⟩
 case round =>
  obtain⟨k,hk,rfl,hln,hrg,hse⟩:=hrel;have aP:=bx (hse.o.bel (n:=w1.heap.size) (W0:=w1) (by simp));clear aQ;obtain⟨oo,oc,rfl,ho1,ho2⟩:=iU (hse.o.row 0 rfl)
  by_cases hlt:k<l.length
  ·obtain⟨x,hx⟩:∃ x,l[k]?=some x:=⟨_,List.getElem?_eq_getElem hlt⟩
   have hgd:l.getD k (0,0,0)=x:=by rw [List.getD_eq_getElem?_getD,hx];rfl
   have wS:=bx (qX.o k x hx);have HT:=bx (show F.yS l (k+1)=F.uG (F.yS l k) x by rw [<- hgd];rfl);obtain⟨g,off,cap2,hg1,hg2,hg3,hg4,hg5⟩:=(fH.o.below aP.o).get (by rintro rfl;simp at hlt);obtain⟨rfl,rfl⟩:a=some ⟨g,off,none⟩/\cap=cap2:=by injection hg1 with h1 h2 h3;exact⟨h1,h3⟩
   obtain⟨x0,x1,x2⟩:=hg5 k x hx;have HAD:=bx (ank 0 w1.heap.size _ (F.yS l k) x wr hse.o rfl (by omega) hrg.o aP.o.size);have JH:=bx (agF hrg.o wS.o);rw [<- HT.o] at HAD JH;unfold maxLen at hg3;clear hx hgd hg1 hg5;go_wp2_with fail;refine HAD.o.mono ?_;rintro e w2 ⟨v',rfl,hS2⟩;have HS2:=bx hS2;clear hS2;go_wp2_with fail
   go_roundw
   case rel=>exact⟨k+1,hlt,by go_num,by have:=JH.o.2;omega,⟨JH.o.1⟩,HS2⟩
   case measure=>simp [intOf];omega
  ·obtain rfl:k=l.length:=by omega
   have HO:=bx (iM.gK (hse.o.row 0 rfl) rfl);have oK:=bx (bt HB1.o aP.o);go_wp2_with fail;go_ret2
   exact⟨⟨_,rfl,HO.o⟩,oK.o⟩
end
end Go.Proofs.YtdenoeakcflnmaaGreatDoor
