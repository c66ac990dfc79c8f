/- Texts of this claim. -/
import Derived.Test.YtlmdjifffmofeaaGreatDoorH21

set_option maxRecDepth 100000
set_option maxHeartbeats 16000000
namespace Go.Proofs.YtlmdjifffmofeaaGreatDoor
section
open Go.RowKit
theorem ay.open {H:Type} {enc:TypeId×Value->H} {W:World} {base:Nat} {v:Value} {d:DataW H} {ps:List MemPlace} (hval:Value.okWide Tryz.prog W .any base 23 v)
  (hd:DataW.Trod enc Tryz.prog W 0 (λ_=>true) true 23 v d ps):∃ xs,ay W v xs:=by
 obtain⟨a0,len0,cap0,rfl⟩:=Go.WideShapes.okWide_slice Tryz.underlying23 hval;obtain⟨fuel,hf⟩:=hd
 rcases Go.ChangeShapes.open_ints Tryz.underlying23 Tryz.underlying3 (by kernel_rfl) hf with⟨h1,_⟩ | ⟨a,len,cap,zs,h1,_,h2,h3,h4,_,h5,_⟩
 ·simp [Value.cells] at h1;obtain⟨rfl,rfl,rfl⟩:=h1;exact⟨[], .nil⟩
 ·simp [Value.cells] at h1;obtain⟨rfl,rfl,rfl⟩:=h1;simp only [if_true] at h4;have hl:(zs.take len0).length=len0:=by rw [List.length_take];omega
  obtain⟨b,off,sp⟩:=a;refine⟨zs.take len0, .inr ⟨b,off,sp,cap0,by rw [hl],by rw [hl];exact h2,h3,λhn=>?_⟩⟩;have h0:0<zs.length:=by
   rcases Nat.eq_zero_or_pos zs.length with h | h
   ·exact absurd (by rw [List.eq_nil_of_length_eq_zero h];simp) hn
   ·exact h
  have hc0:=h5 0 h0;have hsp:sp=none:=World.cell?_spot (a:=(⟨b,off,sp⟩:Addr).add 0) hc0;subst hsp;refine⟨rfl,World.block_lt_of_cell? _ _ hc0,λi x hx=>?_⟩;rw [List.getElem?_take] at hx
  split at hx
  ·have hi:i<zs.length:=(List.getElem?_eq_some_iff.1 hx).1;have:=h5 i hi;rw [show (⟨b,off+i,none⟩:Addr)=(⟨b,off,none⟩:Addr).add i by unfold Addr.add;by_cases h0:i=0 <;> simp [h0],this,List.getD,hx]
   rfl
  ·cases hx
end
section
open Go.RowKit
attribute [local go_sem] Oper.semAt_some
theorem xA (a:Option Addr) (N cap i j:Nat) (xs:List Int) (hij:i<=j) (hj:j<=N) (hN:xs.length=N) (hz:N<=100000) {w0:World} (h0:ay w0 (.slice a N cap) xs) :
  ∃ Y,(∀ W,(Instr.slice 23 (.slice a N cap) (some (.int .i64 (i:Int))) (some (.int .i64 (j:Int))) none).run Tryz.prog W = .ok Y W)/\∀ W,ay W (.slice a N cap) xs->ay W Y ((xs.take j).drop i):=by
 subst hN
 rcases h0 with⟨h1,h2⟩ | ⟨b,off,sp,cap2,h1,h2,h3,h4⟩
 ·injection h1 with e1 e2 e3;subst e1 e3 h2;obtain rfl:j=0:=by simpa using hj
  obtain rfl:i=0:=by omega
  exact⟨.slice none 0 0,λW=>by go_simp,λW _=>by simpa using ay.nil⟩
 ·injection h1 with e1 e2 e3;subst e1 e3
  by_cases hn:xs=[]
  ·subst hn;obtain rfl:j=0:=by simpa using hj
   obtain rfl:i=0:=by omega
   refine⟨.slice (some ⟨b,off,sp⟩) 0 cap,λW=>?_,λW _=>?_⟩
   ·unfold maxLen at h3
    by_cases hc:cap=0
    ·subst hc;go_simp
    ·go_simp
   ·exact .inr ⟨b,off,sp,cap,by simp,by simp,h3,λh=>absurd (by simp) h⟩
  ·obtain⟨rfl,h5,h6⟩:=h4 hn;have hk:j<=cap:=by omega
   by_cases hc:cap=i
   ·obtain rfl:j=i:=by omega
    obtain rfl:cap=j:=hc;refine⟨.slice (some ⟨b,off,none⟩) (cap-cap) (cap-cap),λW=>?_,λW hW=>hW.part cap cap _ hij hj (by omega) (by omega) _ (λh=>by omega)⟩;unfold maxLen at h3;go_simp
   ·refine⟨.slice (some ((⟨b,off,none⟩:Addr).add i)) (j-i) (cap-i),λW=>?_,λW hW=>hW.part i j _ hij hj (by omega) (by omega) _ (λ_=>rfl)⟩;unfold maxLen at h3;go_simp
def fJ (n:Nat) (W0:World) (ov:Value) (l:List Int):List Pc:=[Pc.row n 3 1 ov l.length (l.map (Value.int .i64)),Pc.old n W0]
theorem kF {n:Nat} {W0 w:World} {ov:Value} {l:List Int} (h:Sep (fJ n W0 ov l) w):Below n W0 w:=Sep.bel (ps:=fJ n W0 ov l) h (by simp [fJ])
theorem wW {n:Nat} {W0 w:World} {ov:Value} {l:List Int} (h:Sep (fJ n W0 ov l) w):ay w ov l/\∀ g,ov.ownBlock=some g->n<=g/\g<w.heap.size :=
 ⟨ay.dL (h.row 0 rfl) rfl,(h.row 0 rfl).lt⟩
theorem pY {n:Nat} {W0 w:World} {ov:Value} {l m r:List Int} {k:Nat} (h:Sep ((fJ n W0 ov l).set 0 (Pc.row n 3 1 ov k (l.map (Value.int .i64)++m.map (Value.int .i64)))) w) (hk:k=l.length+m.length) (hr:r=l++m):Sep (fJ n W0 ov r) w:=by
 subst hr hk;rw [<- List.map_append,<- List.length_append] at h;exact h
end
section
open Go.RowKit Go.Shelf
attribute [local go_sem] Oper.semAt_some
theorem DW {P:Program} {f:FuncId} {args:Array Value} {w:World} {p:Prop} [Decidable p] (h:Calls P f args w λe w'=>e = .returned (.bool (decide p))/\Below w.heap.size w w') (hp:p):Calls P f args w λe w'=>e = .returned (.bool true)/\Below w.heap.size w w' :=
 h.mono λ_ _ ⟨h1,h2⟩=>⟨by rw [h1,decide_eq_true hp],h2⟩
def lu (l:List Int):List Int:=l.take 60
theorem ED (v:Value) (l:List Int) (w:World) (hv:ay w v l) :
  Calls Tryz.prog 13 #[v] w λe w'=>(∃ v',e = .returned v'/\ay w v' (lu l))/\w=w':=by
 obtain⟨ao,cap,rfl⟩:=hv.slice;obtain⟨hc1,hc2⟩:=vO hv;have HT:=bx (vT hv 60);clear hv;unfold lu
 rcases Nat.lt_or_ge 60 l.length with h | h
 ·go_enter Tryz.func13,Tryz.ntmps13
  go_wp2_with fail;go_ret
  refine⟨⟨_,rfl,?_⟩,rfl⟩;have:=HT.o;rw [show (l.take 60).length=60 by rw [List.length_take];omega] at this;show ay w (.slice ao (min (l.length:Int) 60).toNat cap) _
  rw [show (min (l.length:Int) 60).toNat=60 by omega];exact this
 ·go_enter Tryz.func13,Tryz.ntmps13
  go_wp2_with fail;go_ret
  refine⟨⟨_,rfl,?_⟩,rfl⟩;have:=HT.o;rw [List.take_of_length_le h] at this ⊢;show ay w (.slice ao (min (l.length:Int) 60).toNat cap) _
  rw [show (min (l.length:Int) 60).toNat=l.length by omega];exact this
end
section
open Go.RowKit
attribute [local go_sem] Oper.semAt_some
theorem EM (c:T.Cs) (xs:List Int) (a b:Int):(T.lM c xs a b).length<=3*xs.length:=by
 unfold T.lM
 split
 ·rename_i h
  unfold T.kK at h
  split at h
  ·rename_i h1;exact absurd h h1
  ·rename_i h1
   split at h
   ·have h2:=(T.NM (T.pI (by simpa using h1)).1 (T.pI (by simpa using h1)).2.2 a.toNat b.toNat (by omega)).1;omega
   ·cases h
 ·simp
end
section
open Go.Proofs.YtlmdjifffmofeaaGreatDoor Go.RowKit
theorem T.amk {c:T.Cs} {xs:List Int} {a b:Int} (h:T.kK c xs a b=0):∃ i j:Nat,a=i/\b=j/\i<=j/\j<=xs.length/\T.cu 600 c=true/\(∀ x∈xs,U.right x=true)/\T.lM c xs a b=T.word c xs i j:=by
 have h0:=h;unfold T.kK at h
 split at h
 ·rename_i h1;exact absurd h h1
 ·rename_i h1
  have h2:=T.pI (by simpa using h1)
  split at h
  ·rename_i h3
   refine⟨a.toNat,b.toNat,by omega,by omega,by omega,by omega,h2.1,h2.2.2,?_⟩;unfold T.lM;rw [if_pos h0]
  ·cases h
theorem T.ahn {c:T.Cs} {xs:List Int} {a b:Int} (h:T.kK c xs a b≠0):T.lM c xs a b=[]:=by
 unfold T.lM;rw [if_neg h]
theorem T.VL {c:T.Cs} {xs:List Int} {i j k:Nat} (h:T.kK c xs i j=0) (_hi:i<=k) (hk:k<=j):T.kK c xs k j=0/\T.lM c xs k j=T.word c xs k j:=by
 have h1:T.kK c xs k j=0:=by
  unfold T.kK at h ⊢
  split at h
  ·rename_i h1;exact absurd h h1
  ·rename_i h1
   rw [if_neg h1]
   split at h
   ·rw [if_pos (by omega)]
   ·cases h
 refine⟨h1,?_⟩;unfold T.lM;rw [if_pos h1]
 rfl
end
section
open Go.RowKit
attribute [local go_sem] Oper.semAt_some
attribute [local irreducible] T.word T.final T.part
theorem TN {w w':World} {v:Value} {m:Nat} {xs:List Int} (h:ay w v xs) (hb:Below w.heap.size w w') (hm:xs.length=m):qo w' v m (xs.map (Value.int .i64)):=by
 subst hm;exact pG (h.below hb)
theorem Xx (xs:List Int) (i q:Nat):(xs.take q).drop i=T.part xs i (q-i):=by unfold T.part;rw [List.drop_take]
theorem aeM (A:Nat->Addr) (B:Nat) (v vl:Value) (c:T.Cs) (l:List Int) (a b n:Int) (w:World) (hv:bC w v c) (hl:ay w vl l) (hS:Sw A B w) :
  Calls Tryz.prog 8 #[v,vl, .int .i64 a, .int .i64 b, .int .i64 n] w λe w'=>e = .returned (.bool true)/\Below w.heap.size w w':=by
 have HS:=bx hS;have iF:=bx hv;obtain⟨lv,tv,ci,cb,gi,gb,rfl,h1,h2,h3,h4,h5,h6⟩:=hv;obtain⟨a1,c1,rfl,-⟩:=h1.slice;obtain⟨a2,c2,rfl,-⟩:=h2.slice;obtain⟨a3,c3,rfl⟩:=h3.slice;obtain⟨a4,c4,rfl⟩:=h4.slice;obtain⟨a5,c5,rfl⟩:=h5.slice;obtain⟨a6,c6,rfl⟩:=h6.slice;clear h1 h2 h3 h4 h5 h6;generalize c.lo.length=n1,c.ti.length=n2,c.ca.1.length=n3,c.ca.2.length=n4,c.ig.1.length=n5,c.ig.2.length=n6 at iF ⊢;have kM:=bx hl;obtain⟨la,lc,rfl⟩:=hl.slice;clear hl;obtain⟨V,hV⟩:∃ V,V=w.alloc (.cells #[.slice a1 n1 c1, .slice a2 n2 c2, .slice a3 n3 c3, .slice a4 n4 c4, .slice a5 n5 c5, .slice a6 n6 c6] 28):=⟨_,rfl⟩
 have HB0:=bx (show Below w.heap.size w V by rw [hV];exact aS _ _);have jv:=bx (show Sep [Pc.blk w.heap.size 28 #[.slice a1 n1 c1, .slice a2 n2 c2, .slice a3 n3 c3, .slice a4 n4 c4, .slice a5 n5 c5, .slice a6 n6 c6],Pc.old w.heap.size w] V by rw [hV];exact(Sep.start w).dh _ _);have bK:=bx (show V.heap.size=w.heap.size+1 by rw [hV];simp);have HV:=bx hV;clear hS hV
 go_enter Tryz.func8,Tryz.ntmps8
 go_wp2_with fail;rw [<- HV.o];refine(zG A B V (HS.o.below HB0.o)).mono ?_;rintro e w1 ⟨rfl,hb1⟩;have HB1:=bx (bT HB0.o hb1);have iE:=bx (jv.o.below hb1);have bQ:=bx (show w.heap.size<w1.heap.size by have:=bK.o;have:=hb1.size;omega);clear hb1 HV;have hk:=iE.o.blk 0 rfl;have e0:=(hk.cell 0).trans (show _=some (Value.slice a1 n1 c1) from rfl);have e1:=(hk.cell 1).trans (show _=some (Value.slice a2 n2 c2) from rfl);have e2:=(hk.cell 2).trans (show _=some (Value.slice a3 n3 c3) from rfl);have e3:=(hk.cell 3).trans (show _=some (Value.slice a4 n4 c4) from rfl);have e4:=(hk.cell 4).trans (show _=some (Value.slice a5 n5 c5) from rfl);have e5:=(hk.cell 5).trans (show _=some (Value.slice a6 n6 c6) from rfl);have el:=hk.lt;clear hk;have bW:=bx (Au _ c w w1 iF.o HB1.o);go_wp2_with fail;refine bW.o.mono ?_;rintro e w2 ⟨hb2,v',rfl,bV⟩;clear e0 e1 e2 e3 e4 e5 el;have HB2:=bx (bT HB1.o hb2);have gq:=bx (iE.o.below hb2);obtain⟨lv,tv,ci,cb,gi,gb,rfl,h1,h2,h3,h4,h5,h6⟩:=bV w2 (Turns.refl _ _) HB2.o;obtain⟨b1,d1,rfl,-⟩:=h1.slice;obtain⟨b2,d2,rfl,-⟩:=h2.slice;obtain⟨b3,d3,rfl⟩:=h3.slice;obtain⟨b4,d4,rfl⟩:=h4.slice;obtain⟨b5,d5,rfl⟩:=h5.slice;obtain⟨b6,d6,rfl⟩:=h6.slice;clear h1 h2 h3 h4 h5 h6 hb2;have bD:=bx (zM c);generalize xI c=C at bV bD ⊢;generalize C.lo.length=m1,C.ti.length=m2,C.ca.1.length=m3,C.ca.2.length=m4,C.ig.1.length=m5,C.ig.2.length=m6 at bV ⊢;have kE:=bx bV;clear bV bW;have hk:=gq.o.blk 0 rfl;have e0:=(hk.cell 0).trans (show _=some (Value.slice a1 n1 c1) from rfl);have f0:=hk.frozen 0;have e1:=(hk.cell 1).trans (show _=some (Value.slice a2 n2 c2) from rfl);have f1:=hk.frozen 1;have e2:=(hk.cell 2).trans (show _=some (Value.slice a3 n3 c3) from rfl);have f2:=hk.frozen 2;have e3:=(hk.cell 3).trans (show _=some (Value.slice a4 n4 c4) from rfl);have f3:=hk.frozen 3;have e4:=(hk.cell 4).trans (show _=some (Value.slice a5 n5 c5) from rfl);have f4:=hk.frozen 4;have e5:=(hk.cell 5).trans (show _=some (Value.slice a6 n6 c6) from rfl);have f5:=hk.frozen 5;have el:=hk.lt;clear hk;have aO:=bx (show Sep [Pc.blk w.heap.size 28 #[.slice b1 m1 d1, .slice b2 m2 d2, .slice b3 m3 d3, .slice b4 m4 d4, .slice b5 m5 d5, .slice b6 m6 d6],Pc.old w.heap.size w] ((((((w2.setCell ⟨w.heap.size,0,none⟩ (.slice b1 m1 d1)).setCell ⟨w.heap.size,1,none⟩ (.slice b2 m2 d2)).setCell ⟨w.heap.size,2,none⟩ (.slice b3 m3 d3)).setCell ⟨w.heap.size,3,none⟩ (.slice b4 m4 d4)).setCell ⟨w.heap.size,4,none⟩ (.slice b5 m5 d5)).setCell ⟨w.heap.size,5,none⟩ (.slice b6 m6 d6)) from((((((gq.o.set 0 rfl 0 (.slice b1 m1 d1)).set 0 rfl 1 (.slice b2 m2 d2)).set 0 rfl 2 (.slice b3 m3 d3)).set 0 rfl 3 (.slice b4 m4 d4)).set 0 rfl 4 (.slice b5 m5 d5)).set 0 rfl 5 (.slice b6 m6 d6)));have HT3:=bx (show Turns (λq=>q=w.heap.size) w2 ((((((w2.setCell ⟨w.heap.size,0,none⟩ (.slice b1 m1 d1)).setCell ⟨w.heap.size,1,none⟩ (.slice b2 m2 d2)).setCell ⟨w.heap.size,2,none⟩ (.slice b3 m3 d3)).setCell ⟨w.heap.size,3,none⟩ (.slice b4 m4 d4)).setCell ⟨w.heap.size,4,none⟩ (.slice b5 m5 d5)).setCell ⟨w.heap.size,5,none⟩ (.slice b6 m6 d6)) from((((((Turns.setCell (own:=λq=>q=w.heap.size) w2 (p:=⟨w.heap.size,0,none⟩) rfl (.slice b1 m1 d1)).trans (Turns.setCell (own:=λq=>q=w.heap.size) _ (p:=⟨w.heap.size,1,none⟩) rfl (.slice b2 m2 d2))).trans (Turns.setCell (own:=λq=>q=w.heap.size) _ (p:=⟨w.heap.size,2,none⟩) rfl (.slice b3 m3 d3))).trans (Turns.setCell (own:=λq=>q=w.heap.size) _ (p:=⟨w.heap.size,3,none⟩) rfl (.slice b4 m4 d4))).trans (Turns.setCell (own:=λq=>q=w.heap.size) _ (p:=⟨w.heap.size,4,none⟩) rfl (.slice b5 m5 d5))).trans (Turns.setCell (own:=λq=>q=w.heap.size) _ (p:=⟨w.heap.size,5,none⟩) rfl (.slice b6 m6 d6))))
 go_upto_region 3 with(fail)
 generalize ((((((w2.setCell ⟨w.heap.size,0,none⟩ (.slice b1 m1 d1)).setCell ⟨w.heap.size,1,none⟩ (.slice b2 m2 d2)).setCell ⟨w.heap.size,2,none⟩ (.slice b3 m3 d3)).setCell ⟨w.heap.size,3,none⟩ (.slice b4 m4 d4)).setCell ⟨w.heap.size,4,none⟩ (.slice b5 m5 d5)).setCell ⟨w.heap.size,5,none⟩ (.slice b6 m6 d6))=w3 at aO HT3 ⊢;clear e0 f0 e1 f1 e2 f2 e3 f3 e4 f4 e5 f5 el;have HB3:=bx (aO.o.bel (n:=w.heap.size) (W0:=w) (by simp));have fA:=bx (show bC w3 (.agg #[.slice b1 m1 d1, .slice b2 m2 d2, .slice b3 m3 d3, .slice b4 m4 d4, .slice b5 m5 d5, .slice b6 m6 d6]) C from kE.o w3 (HT3.o.mono (λk hk=>by have:=bQ.o;omega)) HB3.o);have aK:=bx (HS.o.below HB3.o);have aB:=bx (λW (h:Below w3.heap.size w3 W)=>show W.cell? ⟨w.heap.size,0,none⟩=some (.slice b1 m1 d1)/\W.cell? ⟨w.heap.size,1,none⟩=some (.slice b2 m2 d2)/\W.cell? ⟨w.heap.size,2,none⟩=some (.slice b3 m3 d3)/\W.cell? ⟨w.heap.size,3,none⟩=some (.slice b4 m4 d4)/\W.cell? ⟨w.heap.size,4,none⟩=some (.slice b5 m5 d5)/\W.cell? ⟨w.heap.size,5,none⟩=some (.slice b6 m6 d6)/\w.heap.size<W.heap.size from⟨(((aO.o.blk 0 rfl).below h (aO.o.blk 0 rfl).lt).cell 0).trans rfl,(((aO.o.blk 0 rfl).below h (aO.o.blk 0 rfl).lt).cell 1).trans rfl,(((aO.o.blk 0 rfl).below h (aO.o.blk 0 rfl).lt).cell 2).trans rfl,(((aO.o.blk 0 rfl).below h (aO.o.blk 0 rfl).lt).cell 3).trans rfl,(((aO.o.blk 0 rfl).below h (aO.o.blk 0 rfl).lt).cell 4).trans rfl,(((aO.o.blk 0 rfl).below h (aO.o.blk 0 rfl).lt).cell 5).trans rfl,((aO.o.blk 0 rfl).below h (aO.o.blk 0 rfl).lt).lt⟩);clear jv iE gq aO HT3 kE HB0 HB1 HB2 bK iF HS;have uS:=bx (ED _ l w3 (kM.o.below HB3.o));go_wp2_with fail;refine uS.o.mono ?_;rintro e w3' ⟨⟨v',rfl,hf⟩,rfl⟩;have iK:=bx (show (lu l).length<=60 by unfold lu;rw [List.length_take];omega);generalize lu l=xs at hf iK;obtain⟨fa,fc,rfl⟩:=hf.slice;have HF:=bx hf;clear hf uS kM;obtain⟨N,hN⟩:∃ N,xs.length=N:=⟨_,rfl⟩
 have HN:=bx hN
 by_cases hwe:T.kK C xs a b=0
 ·obtain⟨i,j,rfl,rfl,hij,hjN,hcb,hsr,H9⟩:=T.amk hwe;have hx:=Gu A B _ _ C xs i j w3 fA.o bD.o HF.o (by have:=iK.o;omega) aK.o.e aK.o.le;rw [hwe,H9] at hx;have hal:=EM C xs i j;rw [H9] at hal;have jr:=bx (show (T.word C xs i j).length<=180 by have:=iK.o;omega);have LM:=bx hwe;rw [hN] at hx hjN HF ⊢;have iP:=bx hx;clear hx hal H9 hwe;have SX:N<=60:=by have:=iK.o;omega
  have mO:=bx hsr;have iG:=bx hcb;clear hN hsr hcb;obtain⟨e0,e1,e2,e3,e4,e5,el⟩:=aB.o w3 (Below.refl _ w3);go_wp2_with fail;refine iP.o.mono ?_;rintro e w4 ⟨⟨v4,rfl,hv4⟩,hb4⟩;clear e0 e1 e2 e3 e4 e5 el;have HB4:=bx hb4;have sJ:=bx (λW (h:Below w4.heap.size w4 W)=>hv4.below h);clear hb4 hv4 iP;go_wp2_with fail
  go_loopw [14] (λv14 wr=>∃ q:Nat,i<=q/\q<=j/\v14 = .int .i64 q/\Box (T.lV C xs i (q-i)=false)/\Box (Below w4.heap.size w4 wr)) (λv14 _=>j-(intOf v14).toNat)
  case atStart=>exact⟨i,Nat.le_refl _,hij,rfl,⟨by rw [Nat.sub_self];rfl⟩,⟨Below.refl _ _⟩⟩
  case round =>
   obtain⟨q,IZ,hqj,rfl,HM,rZ⟩:=hrel;have aV:=bx (bT HB4.o rZ.o)
   by_cases hlt:q<j
   ·have hsub:IntKind.i64.wrap ((q:Int)-(i:Int))=(q:Int)-(i:Int):=by rw [IntKind.wrap_i64];omega
    rcases Bool.eq_false_or_eq_true (decide ((q:Int)-(i:Int)<n)) with hd | hd
    ·obtain⟨g,off,cap,hg1,hg2,hg3,hg4,hg5⟩:=HF.o.get (by intro h;have:=congrArg List.length h;rw [HN.o] at this;simp at this;omega);rw [HN.o] at hg1 hg2;obtain⟨rfl,rfl⟩:fa=some ⟨g,off,none⟩/\fc=cap:=by injection hg1 with h1 h2 h3;exact⟨h1,h3⟩
     clear hg1;unfold maxLen at hg3;obtain⟨x,hx⟩:∃ x,xs[q]?=some x:=⟨_,List.getElem?_eq_getElem (by rw [HN.o];omega)⟩
     have hr:=mO.o x (List.mem_of_getElem? hx);have fO:=bx (show xs.getD q 0=x by rw [List.getD_eq_getElem?_getD,hx,Option.getD_some]);have hqN:q<N:=by omega
     have um:=bx (T.Iw C xs i (q-i));rw [show i+(q-i)=q by omega,fO.o,HM.o,Bool.false_or] at um;have tu:=bx (λW (h:Below w3.heap.size w3 W)=>show W.cell? ⟨w.heap.size,0,none⟩=some (.slice b1 m1 d1)/\W.cell? ⟨w.heap.size,1,none⟩=some (.slice b2 m2 d2)/\W.cell? ⟨w.heap.size,2,none⟩=some (.slice b3 m3 d3)/\W.cell? ⟨w.heap.size,3,none⟩=some (.slice b4 m4 d4)/\W.cell? ⟨w.heap.size,4,none⟩=some (.slice b5 m5 d5)/\W.cell? ⟨w.heap.size,5,none⟩=some (.slice b6 m6 d6)/\w.heap.size<W.heap.size/\W.cell? ⟨g,off+q,none⟩=some (.int .i64 x) from by
      obtain⟨q0,q1,q2,q3,q4,q5,ql⟩:=aB.o W h;exact⟨q0,q1,q2,q3,q4,q5,ql,(h.cell (p:=⟨g,off+q,none⟩) hg4).trans (hg5 q x hx)⟩)
     have uF:=bx (λW (h:Below w3.heap.size w3 W)=>PW _ C x W (fA.o.below h) bD.o iG.o hr);generalize T.aX C x=ig at uF;clear hg4 hg5 hx hr
     rcases Bool.eq_false_or_eq_true (T.cased C x) with hc | hc
     ·rw [hc] at uF;clear hc um fO;go_wp2_with fail;clear hsub hd;have aF:=bx (show Below w3.heap.size w3 wr.drew from bT aV.o (eu wr 1));have au:=bx (tu.o wr.drew aF.o);have dQ:=bx (show Below w4.heap.size w4 wr.drew from bT rZ.o (eu wr 1));refine dO 12 (λW'=>W'.cell? ⟨w.heap.size,0,none⟩=some (.slice b1 m1 d1)/\W'.cell? ⟨w.heap.size,1,none⟩=some (.slice b2 m2 d2)/\W'.cell? ⟨w.heap.size,2,none⟩=some (.slice b3 m3 d3)/\W'.cell? ⟨w.heap.size,3,none⟩=some (.slice b4 m4 d4)/\W'.cell? ⟨w.heap.size,4,none⟩=some (.slice b5 m5 d5)/\W'.cell? ⟨w.heap.size,5,none⟩=some (.slice b6 m6 d6)/\w.heap.size<W'.heap.size/\W'.cell? ⟨g,off+q,none⟩=some (.int .i64 x)) (by kernel_rfl) ?_;generalize wr.drew=WR at aF au dQ ⊢;refine kS 0 ?_ rfl au.o ?_ ?_;rotate_left
      ·rintro w ⟨q1,q2,q3,q4,q5,q6,q7,q8⟩;go_simp;try with_reducible rfl
      refine kS 1 ?_ rfl au.o ?_ ?_;rotate_left
      ·rintro w ⟨q1,q2,q3,q4,q5,q6,q7,q8⟩;go_simp;try with_reducible rfl
      refine kS 2 ?_ rfl au.o ?_ ?_;rotate_left
      ·rintro w ⟨q1,q2,q3,q4,q5,q6,q7,q8⟩;go_simp;try with_reducible rfl
      refine kS 3 ?_ rfl au.o ?_ ?_;rotate_left
      ·rintro w ⟨q1,q2,q3,q4,q5,q6,q7,q8⟩;go_simp;try with_reducible rfl
      refine kS 4 ?_ rfl au.o ?_ ?_;rotate_left
      ·rintro w ⟨q1,q2,q3,q4,q5,q6,q7,q8⟩;go_simp;try with_reducible rfl
      refine kP 5 rfl λKK aj=>?_
      go_simp;refine(uF.o WR aF.o).mono ?_;rintro e w5 ⟨rfl,hb5⟩;have aP:=bx (bT aF.o hb5);have aN:=bx (tu.o w5 aP.o);have Gw:=bx (bT dQ.o hb5);clear hb5;refine aj.out _ _ (λ_=>aN.o) ?_;clear aj KK;refine kP 6 rfl λKK aj=>?_
      go_simp;refine aj.out _ _ (λ_=>aN.o) ?_;clear aj KK;refine kS 7 ?_ rfl aN.o ?_ ?_;rotate_left
      ·rintro w ⟨q1,q2,q3,q4,q5,q6,q7,q8⟩;go_simp;try with_reducible rfl
      refine kS 8 ?_ rfl aN.o ?_ ?_;rotate_left
      ·rintro w ⟨q1,q2,q3,q4,q5,q6,q7,q8⟩;go_simp;try with_reducible rfl
      refine kS 9 ?_ rfl aN.o ?_ ?_;rotate_left
      ·rintro w ⟨q1,q2,q3,q4,q5,q6,q7,q8⟩;go_simp;try with_reducible rfl
      refine kP 10 rfl λKK aj=>?_
      go_simp;refine aj.out _ _ (λ_=>aN.o) ?_;clear aj KK;refine kP 11 rfl λKK aj=>?_
      go_simp;refine aj.out _ _ (λ_=>aN.o) ?_;clear aj KK;refine kP 12 rfl λKK aj=>?_
      go_simp;refine aj.out _ _ (λh=>by cases h) ?_;clear aj KK;refine kD ?_ _;clear aF au aN;have EC:=bx (T.VL (c:=C) (xs:=xs) (i:=i) (j:=j) (k:=q) LM.o IZ hqj);have hx:=Gu A B _ _ C xs q j w5 (fA.o.below aP.o) bD.o (HF.o.below aP.o) (by have:=iK.o;have:=HN.o;omega) (aK.o.below aP.o).e (aK.o.below aP.o).le;obtain⟨ws,hws⟩:∃ ws,T.word C xs q j=ws:=⟨_,rfl⟩
      have nR:=bx hws;have HW2:=bx (EC.o.2.trans hws);clear hws;rw [EC.o.1,HW2.o] at hx;have iL:=bx hx;clear hx;obtain⟨e0,e1,e2,e3,e4,e5,el⟩:=aB.o w5 aP.o;go_wp2_with fail;refine iL.o.mono ?_;rintro e w6 ⟨⟨v6,rfl,hv6⟩,hb6⟩;clear e0 e1 e2 e3 e4 e5 el;have cO:=bx (bT aP.o hb6);have vY:=bx (bT Gw.o hb6);have BQ:=bx hv6;have hmm:=EM C xs q j;rw [HW2.o] at hmm;have hqi:i+(q-i)=q:=by omega
      have jO:=bx (show T.word C xs i j=T.part xs i (q-i)++ws from(T.O7 (c:=C) (l:=xs) (a:=i) (k:=q-i) (b:=j) (by omega) (by have:=HN.o;omega) HM.o).trans (congrArg (λz=>T.part xs i (q-i)++z) (by rw [hqi];exact nR.o)));clear hqi;obtain⟨WL,yS⟩:∃ WL,ws.length=WL:=⟨_,rfl⟩
      rw [yS] at hmm;have yH:=bx yS;clear hb6 hv6 iL yS;obtain⟨Y,hsl,hY⟩:=xA (some ⟨g,off,none⟩) N fc i q xs IZ (by have:=hjN;omega) HN.o (by omega) HF.o;have yR:=bx (pG (hY w6 (HF.o.below cO.o)));have hyl:((xs.take q).drop i).length=q-i:=by rw [List.length_drop,List.length_take,HN.o];omega
      have Dt:=bx (Xx xs i q);generalize (xs.take q).drop i=ys at yR Dt hyl;obtain⟨YL,y9⟩:∃ YL,ys.length=YL:=⟨_,rfl⟩
      rw [y9] at yR hyl;have zo:=bx y9;have TF:YL<=60:=by omega
      have ZH:WL<=200:=by have:=HN.o;omega
      clear y9 hY hmm hyl;have aU:=bx (show Sep (fJ w6.heap.size w6 (.slice none 0 0) []) w6 from(Sep.start w6).fP w6.heap.size 1 3);have fM:=bx (show ([]:List Int).length+YL<=1000000000 by simp;omega);have hbs:=Nat.le_refl w6.heap.size;go_wp2_with (first | (at_builtin;have hq7:=bH.o;refine lX rfl _ _ 23 rfl lQ (by decide) hq7 0 rfl rfl rfl Me.o (by rw [List.length_map,Nat.mul_one,yH.o]) (by intro z hz;obtain⟨q,-,rfl⟩:=List.mem_map.1 hz;rfl) JJ.o (by omega) hbc ?_;rintro v8 w8 dW;have dS:=bx (pY (m:=ws) dW (by rw [yH.o]) rfl);clear hq7 dW) | (at_builtin;refine lX rfl _ _ 23 rfl lQ (by decide) aU.o 0 rfl rfl rfl yR.o (by rw [List.length_map,Nat.mul_one,zo.o]) (by intro z hz;obtain⟨q,-,rfl⟩:=List.mem_map.1 hz;rfl) fM.o (by omega) hbs ?_;rintro v7 w7 hS7;have bH:=bx (pY (m:=ys) hS7 (by rw [zo.o]) (List.nil_append ys).symm);have Me:=bx (TN BQ.o (kF bH.o) yH.o);have JJ:=bx (show ys.length+WL<=1000000000 by rw [zo.o];omega);have hbc:w6.heap.size<=w7.heap.size:=(kF bH.o).size;clear hS7))
      have aY:=bx (bT cO.o (kF dS.o));have Aj:=bx (wW dS.o).1;clear hsl hbs hbc;rw [Dt.o,<- jO.o] at Aj;have mV:=bx (DW (Dq _ _ (T.word C xs i j) (T.word C xs i j) w8 (sJ.o w8 (bT vY.o (kF dS.o))) Aj.o (by have:=jr.o;omega) (by have:=jr.o;omega)) rfl);go_wp2_with fail;refine mV.o.mono ?_;rintro e w9 ⟨rfl,dY⟩;have dM:=bx (bT HB3.o (bT aY.o dY));clear dY;go_wp2_with fail;go_ret
      exact⟨rfl,dM.o⟩
     ·rw [hc] at uF um;clear hc fO;go_wp2_with fail;clear hsub hd;have aF:=bx (show Below w3.heap.size w3 wr.drew from bT aV.o (eu wr 1));have au:=bx (tu.o wr.drew aF.o);have dQ:=bx (show Below w4.heap.size w4 wr.drew from bT rZ.o (eu wr 1));refine dO 12 (λW'=>W'.cell? ⟨w.heap.size,0,none⟩=some (.slice b1 m1 d1)/\W'.cell? ⟨w.heap.size,1,none⟩=some (.slice b2 m2 d2)/\W'.cell? ⟨w.heap.size,2,none⟩=some (.slice b3 m3 d3)/\W'.cell? ⟨w.heap.size,3,none⟩=some (.slice b4 m4 d4)/\W'.cell? ⟨w.heap.size,4,none⟩=some (.slice b5 m5 d5)/\W'.cell? ⟨w.heap.size,5,none⟩=some (.slice b6 m6 d6)/\w.heap.size<W'.heap.size/\W'.cell? ⟨g,off+q,none⟩=some (.int .i64 x)) (by kernel_rfl) ?_;generalize wr.drew=WR at aF au dQ ⊢;refine kS 0 ?_ rfl au.o ?_ ?_;rotate_left
      ·rintro w ⟨q1,q2,q3,q4,q5,q6,q7,q8⟩;go_simp;try with_reducible rfl
      refine kS 1 ?_ rfl au.o ?_ ?_;rotate_left
      ·rintro w ⟨q1,q2,q3,q4,q5,q6,q7,q8⟩;go_simp;try with_reducible rfl
      refine kS 2 ?_ rfl au.o ?_ ?_;rotate_left
      ·rintro w ⟨q1,q2,q3,q4,q5,q6,q7,q8⟩;go_simp;try with_reducible rfl
      refine kS 3 ?_ rfl au.o ?_ ?_;rotate_left
      ·rintro w ⟨q1,q2,q3,q4,q5,q6,q7,q8⟩;go_simp;try with_reducible rfl
      refine kS 4 ?_ rfl au.o ?_ ?_;rotate_left
      ·rintro w ⟨q1,q2,q3,q4,q5,q6,q7,q8⟩;go_simp;try with_reducible rfl
      refine kP 5 rfl λKK aj=>?_
      go_simp;refine(uF.o WR aF.o).mono ?_;rintro e w5 ⟨rfl,hb5⟩;have aP:=bx (bT aF.o hb5);have aN:=bx (tu.o w5 aP.o);have Gw:=bx (bT dQ.o hb5);clear hb5;refine aj.out _ _ (λ_=>aN.o) ?_;clear aj KK;refine kP 6 rfl λKK aj=>?_
      go_simp;refine aj.out _ _ (λ_=>aN.o) ?_;clear aj KK;refine kS 7 ?_ rfl aN.o ?_ ?_;rotate_left
      ·rintro w ⟨q1,q2,q3,q4,q5,q6,q7,q8⟩;go_simp;try with_reducible rfl
      refine kS 8 ?_ rfl aN.o ?_ ?_;rotate_left
      ·rintro w ⟨q1,q2,q3,q4,q5,q6,q7,q8⟩;go_simp;try with_reducible rfl
      refine kS 9 ?_ rfl aN.o ?_ ?_;rotate_left
      ·rintro w ⟨q1,q2,q3,q4,q5,q6,q7,q8⟩;go_simp;try with_reducible rfl
      refine kP 10 rfl λKK aj=>?_
      go_simp;refine aj.out _ _ (λ_=>aN.o) ?_;clear aj KK;refine kP 11 rfl λKK aj=>?_
      go_simp;refine aj.out _ _ (λ_=>aN.o) ?_;clear aj KK;refine kP 12 rfl λKK aj=>?_
      go_simp;refine aj.out _ _ (λh=>by cases h) ?_;clear aj KK;refine kD ?_ _;clear aF au aN;go_wp2_with fail
      go_roundw
      case rel=>exact⟨q+1,by omega,by omega,by go_num,by rw [show q+1-i=q-i+1 by omega];exact um,Gw⟩
      case measure=>simp [intOf];omega
    ·have NR:=bx hsub;clear hsub;have EC:=bx (T.VL (c:=C) (xs:=xs) (i:=i) (j:=j) (k:=q) LM.o IZ hqj);have hx:=Gu A B _ _ C xs q j wr (fA.o.below aV.o) bD.o (HF.o.below aV.o) (by have:=iK.o;have:=HN.o;omega) (aK.o.below aV.o).e (aK.o.below aV.o).le;obtain⟨ws,hws⟩:∃ ws,T.word C xs q j=ws:=⟨_,rfl⟩
     have nR:=bx hws;have HW2:=bx (EC.o.2.trans hws);clear hws;rw [EC.o.1,HW2.o] at hx;have iL:=bx hx;clear hx;obtain⟨e0,e1,e2,e3,e4,e5,el⟩:=aB.o wr aV.o;have hsub:=NR.o;go_wp2_with fail;clear hsub;refine iL.o.mono ?_;rintro e w6 ⟨⟨v6,rfl,hv6⟩,hb6⟩;clear e0 e1 e2 e3 e4 e5 el;have cO:=bx (bT aV.o hb6);have vY:=bx (bT rZ.o hb6);have BQ:=bx hv6;have hmm:=EM C xs q j;rw [HW2.o] at hmm;have hqi:i+(q-i)=q:=by omega
     have jO:=bx (show T.word C xs i j=T.part xs i (q-i)++ws from(T.O7 (c:=C) (l:=xs) (a:=i) (k:=q-i) (b:=j) (by omega) (by have:=HN.o;omega) HM.o).trans (congrArg (λz=>T.part xs i (q-i)++z) (by rw [hqi];exact nR.o)));clear hqi;obtain⟨WL,yS⟩:∃ WL,ws.length=WL:=⟨_,rfl⟩
     rw [yS] at hmm;have yH:=bx yS;clear hb6 hv6 iL yS;obtain⟨Y,hsl,hY⟩:=xA (fa) N fc i q xs IZ (by have:=hjN;omega) HN.o (by omega) HF.o;have yR:=bx (pG (hY w6 (HF.o.below cO.o)));have hyl:((xs.take q).drop i).length=q-i:=by rw [List.length_drop,List.length_take,HN.o];omega
     have Dt:=bx (Xx xs i q);generalize (xs.take q).drop i=ys at yR Dt hyl;obtain⟨YL,y9⟩:∃ YL,ys.length=YL:=⟨_,rfl⟩
     rw [y9] at yR hyl;have zo:=bx y9;have TF:YL<=60:=by omega
     have ZH:WL<=200:=by have:=HN.o;omega
     clear y9 hY hmm hyl;have aU:=bx (show Sep (fJ w6.heap.size w6 (.slice none 0 0) []) w6 from(Sep.start w6).fP w6.heap.size 1 3);have fM:=bx (show ([]:List Int).length+YL<=1000000000 by simp;omega);have hbs:=Nat.le_refl w6.heap.size;go_wp2_with (first | (at_builtin;have hq7:=bH.o;refine lX rfl _ _ 23 rfl lQ (by decide) hq7 0 rfl rfl rfl Me.o (by rw [List.length_map,Nat.mul_one,yH.o]) (by intro z hz;obtain⟨q,-,rfl⟩:=List.mem_map.1 hz;rfl) JJ.o (by omega) hbc ?_;rintro v8 w8 dW;have dS:=bx (pY (m:=ws) dW (by rw [yH.o]) rfl);clear hq7 dW) | (at_builtin;refine lX rfl _ _ 23 rfl lQ (by decide) aU.o 0 rfl rfl rfl yR.o (by rw [List.length_map,Nat.mul_one,zo.o]) (by intro z hz;obtain⟨q,-,rfl⟩:=List.mem_map.1 hz;rfl) fM.o (by omega) hbs ?_;rintro v7 w7 hS7;have bH:=bx (pY (m:=ys) hS7 (by rw [zo.o]) (List.nil_append ys).symm);have Me:=bx (TN BQ.o (kF bH.o) yH.o);have JJ:=bx (show ys.length+WL<=1000000000 by rw [zo.o];omega);have hbc:w6.heap.size<=w7.heap.size:=(kF bH.o).size;clear hS7))
     have aY:=bx (bT cO.o (kF dS.o));have Aj:=bx (wW dS.o).1;clear hsl hbs hbc;rw [Dt.o,<- jO.o] at Aj;have mV:=bx (DW (Dq _ _ (T.word C xs i j) (T.word C xs i j) w8 (sJ.o w8 (bT vY.o (kF dS.o))) Aj.o (by have:=jr.o;omega) (by have:=jr.o;omega)) rfl);go_wp2_with fail;refine mV.o.mono ?_;rintro e w9 ⟨rfl,dY⟩;have dM:=bx (bT HB3.o (bT aY.o dY));clear dY;go_wp2_with fail;go_ret
     exact⟨rfl,dM.o⟩
   ·obtain rfl:q=j:=by omega
    have EC:=bx (T.VL (c:=C) (xs:=xs) (i:=i) (j:=q) (k:=q) LM.o IZ hqj);have hx:=Gu A B _ _ C xs q q wr (fA.o.below aV.o) bD.o (HF.o.below aV.o) (by have:=iK.o;have:=HN.o;omega) (aK.o.below aV.o).e (aK.o.below aV.o).le;obtain⟨ws,hws⟩:∃ ws,T.word C xs q q=ws:=⟨_,rfl⟩
    have nR:=bx hws;have HW2:=bx (EC.o.2.trans hws);clear hws;rw [EC.o.1,HW2.o] at hx;have iL:=bx hx;clear hx;obtain⟨e0,e1,e2,e3,e4,e5,el⟩:=aB.o wr aV.o;go_wp2_with fail;refine iL.o.mono ?_;rintro e w6 ⟨⟨v6,rfl,hv6⟩,hb6⟩;clear e0 e1 e2 e3 e4 e5 el;have cO:=bx (bT aV.o hb6);have vY:=bx (bT rZ.o hb6);have BQ:=bx hv6;have hmm:=EM C xs q q;rw [HW2.o] at hmm;have hqi:i+(q-i)=q:=by omega
    have jO:=bx (show T.word C xs i q=T.part xs i (q-i)++ws from(T.O7 (c:=C) (l:=xs) (a:=i) (k:=q-i) (b:=q) (by omega) (by have:=HN.o;omega) HM.o).trans (congrArg (λz=>T.part xs i (q-i)++z) (by rw [hqi];exact nR.o)));clear hqi;obtain⟨WL,yS⟩:∃ WL,ws.length=WL:=⟨_,rfl⟩
    rw [yS] at hmm;have yH:=bx yS;clear hb6 hv6 iL yS;obtain⟨Y,hsl,hY⟩:=xA (fa) N fc i q xs IZ (by have:=hjN;omega) HN.o (by omega) HF.o;have yR:=bx (pG (hY w6 (HF.o.below cO.o)));have hyl:((xs.take q).drop i).length=q-i:=by rw [List.length_drop,List.length_take,HN.o];omega
    have Dt:=bx (Xx xs i q);generalize (xs.take q).drop i=ys at yR Dt hyl;obtain⟨YL,y9⟩:∃ YL,ys.length=YL:=⟨_,rfl⟩
    rw [y9] at yR hyl;have zo:=bx y9;have TF:YL<=60:=by omega
    have ZH:WL<=200:=by have:=HN.o;omega
    clear y9 hY hmm hyl;have aU:=bx (show Sep (fJ w6.heap.size w6 (.slice none 0 0) []) w6 from(Sep.start w6).fP w6.heap.size 1 3);have fM:=bx (show ([]:List Int).length+YL<=1000000000 by simp;omega);have hbs:=Nat.le_refl w6.heap.size;go_wp2_with (first | (at_builtin;have hq7:=bH.o;refine lX rfl _ _ 23 rfl lQ (by decide) hq7 0 rfl rfl rfl Me.o (by rw [List.length_map,Nat.mul_one,yH.o]) (by intro z hz;obtain⟨q,-,rfl⟩:=List.mem_map.1 hz;rfl) JJ.o (by omega) hbc ?_;rintro v8 w8 dW;have dS:=bx (pY (m:=ws) dW (by rw [yH.o]) rfl);clear hq7 dW) | (at_builtin;refine lX rfl _ _ 23 rfl lQ (by decide) aU.o 0 rfl rfl rfl yR.o (by rw [List.length_map,Nat.mul_one,zo.o]) (by intro z hz;obtain⟨q,-,rfl⟩:=List.mem_map.1 hz;rfl) fM.o (by omega) hbs ?_;rintro v7 w7 hS7;have bH:=bx (pY (m:=ys) hS7 (by rw [zo.o]) (List.nil_append ys).symm);have Me:=bx (TN BQ.o (kF bH.o) yH.o);have JJ:=bx (show ys.length+WL<=1000000000 by rw [zo.o];omega);have hbc:w6.heap.size<=w7.heap.size:=(kF bH.o).size;clear hS7))
    have aY:=bx (bT cO.o (kF dS.o));have Aj:=bx (wW dS.o).1;clear hsl hbs hbc;rw [Dt.o,<- jO.o] at Aj;have mV:=bx (DW (Dq _ _ (T.word C xs i q) (T.word C xs i q) w8 (sJ.o w8 (bT vY.o (kF dS.o))) Aj.o (by have:=jr.o;omega) (by have:=jr.o;omega)) rfl);go_wp2_with fail;refine mV.o.mono ?_;rintro e w9 ⟨rfl,dY⟩;have dM:=bx (bT HB3.o (bT aY.o dY));clear dY;go_wp2_with fail;go_ret
    exact⟨rfl,dM.o⟩
 ·have H9:=T.ahn hwe;have hx:=Gu A B _ _ C xs a b w3 fA.o bD.o HF.o (by have:=iK.o;omega) aK.o.e aK.o.le;obtain⟨r,hr⟩:∃ r,T.kK C xs a b=r:=⟨_,rfl⟩
  rw [hr] at hx hwe;rw [H9,HN.o] at hx;have iP:=bx hx;have er:(r != 0)=true:=by rw [bne_iff_ne];exact hwe
  clear hx hwe hr H9;obtain⟨e0,e1,e2,e3,e4,e5,el⟩:=aB.o w3 (Below.refl _ w3);go_wp2_with fail;refine iP.o.mono ?_;rintro e w4 ⟨⟨v4,rfl,hv4⟩,hb4⟩;obtain⟨o4,q4,rfl⟩:=hv4.slice;have HB4:=bx (bT HB3.o hb4);clear hb4 hv4 iP;go_wp2_with fail;go_ret
  exact⟨rfl,HB4.o⟩
end
end Go.Proofs.YtlmdjifffmofeaaGreatDoor
