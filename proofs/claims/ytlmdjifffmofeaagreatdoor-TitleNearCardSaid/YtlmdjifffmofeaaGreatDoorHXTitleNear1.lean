/- Texts of this claim. -/
import Derived.Test.YtlmdjifffmofeaaGreatDoorH21

set_option maxRecDepth 100000
set_option maxHeartbeats 16000000
namespace Go.Proofs.YtlmdjifffmofeaaGreatDoor
section
open Go.RowKit
theorem ay.open {H:Type} {enc:TypeId×Value->H} {W:World} {base:Nat} {v:Value} {d:DataW H} {ps:List MemPlace} (hval:Value.okWide Tryz.prog W .any base 23 v)
  (hd:DataW.Trod enc Tryz.prog W 0 (λ_=>true) true 23 v d ps):∃ xs,ay W v xs:=by
 obtain⟨a0,len0,cap0,rfl⟩:=Go.WideShapes.okWide_slice Tryz.underlying23 hval;obtain⟨fuel,hf⟩:=hd
 rcases Go.ChangeShapes.open_ints Tryz.underlying23 Tryz.underlying3 (by kernel_rfl) hf with⟨h1,_⟩ | ⟨a,len,cap,zs,h1,_,h2,h3,h4,_,h5,_⟩
 ·simp [Value.cells] at h1;obtain⟨rfl,rfl,rfl⟩:=h1;exact⟨[], .nil⟩
 ·simp [Value.cells] at h1;obtain⟨rfl,rfl,rfl⟩:=h1;simp only [if_true] at h4;have hl:(zs.take len0).length=len0:=by rw [List.length_take];omega
  obtain⟨b,off,sp⟩:=a;refine⟨zs.take len0, .inr ⟨b,off,sp,cap0,by rw [hl],by rw [hl];exact h2,h3,λhn=>?_⟩⟩;have h0:0<zs.length:=by
   rcases Nat.eq_zero_or_pos zs.length with h | h
   ·exact absurd (by rw [List.eq_nil_of_length_eq_zero h];simp) hn
   ·exact h
  have hc0:=h5 0 h0;have hsp:sp=none:=World.cell?_spot (a:=(⟨b,off,sp⟩:Addr).add 0) hc0;subst hsp;refine⟨rfl,World.block_lt_of_cell? _ _ hc0,λi x hx=>?_⟩;rw [List.getElem?_take] at hx
  split at hx
  ·have hi:i<zs.length:=(List.getElem?_eq_some_iff.1 hx).1;have:=h5 i hi;rw [show (⟨b,off+i,none⟩:Addr)=(⟨b,off,none⟩:Addr).add i by unfold Addr.add;by_cases h0:i=0 <;> simp [h0],this,List.getD,hx]
   rfl
  ·cases hx
end
namespace T
open Go.Proofs.YtlmdjifffmofeaaGreatDoor
theorem Yk {c:Cs} {l:List Int} {at':Nat} (h:at'<l.length) (h0:0<at') (hs:(cased c (l.getD (at'-1) 0)||!aX c (l.getD (at'-1) 0))=true):meets c (l.take at').reverse=cased c (l.getD (at'-1) 0):=by
 obtain⟨k,rfl⟩:∃ k,at'=k+1:=⟨at'-1,by omega⟩
 rw [Nat.add_sub_cancel] at hs ⊢;rw [List.take_succ_eq_append_getElem (by omega),List.reverse_append,List.reverse_singleton,List.singleton_append];rw [List.getD_eq_getElem?_getD,List.getElem?_eq_getElem (by omega),Option.getD_some] at hs ⊢;unfold meets
 cases hc:cased c l[k] with
 | true=>rfl
 | false =>
  rw [hc,Bool.false_or,Bool.not_eq_true'] at hs;rw [hs]
  rfl
theorem Yr {c:Cs} {l:List Int}:meets c (l.take 0).reverse=false:=rfl
theorem XO {c:Cs} {l:List Int} {at':Nat} (h:at'+1<l.length) (hs:(cased c (l.getD (at'+1) 0)||!aX c (l.getD (at'+1) 0))=true):meets c (l.drop (at'+1))=cased c (l.getD (at'+1) 0):=by
 rw [List.drop_eq_getElem_cons h];rw [List.getD_eq_getElem?_getD,List.getElem?_eq_getElem h,Option.getD_some] at hs ⊢;unfold meets
 cases hc:cased c l[at'+1] with
 | true=>rfl
 | false =>
  rw [hc,Bool.false_or,Bool.not_eq_true'] at hs;rw [hs]
  rfl
theorem aao {c:Cs} {l:List Int} {at':Nat} (h:l.length<=at'+1):meets c (l.drop (at'+1))=false:=by
 rw [List.drop_of_length_le h]
 rfl
end T
section
open Go.RowKit Go.Shelf
attribute [local go_sem] Oper.semAt_some
def lu (l:List Int):List Int:=l.take 60
theorem ED (v:Value) (l:List Int) (w:World) (hv:ay w v l) :
  Calls Tryz.prog 13 #[v] w λe w'=>(∃ v',e = .returned v'/\ay w v' (lu l))/\w=w':=by
 obtain⟨ao,cap,rfl⟩:=hv.slice;obtain⟨hc1,hc2⟩:=vO hv;have HT:=bx (vT hv 60);clear hv;unfold lu
 rcases Nat.lt_or_ge 60 l.length with h | h
 ·go_enter Tryz.func13,Tryz.ntmps13
  go_wp2_with fail;go_ret
  refine⟨⟨_,rfl,?_⟩,rfl⟩;have:=HT.o;rw [show (l.take 60).length=60 by rw [List.length_take];omega] at this;show ay w (.slice ao (min (l.length:Int) 60).toNat cap) _
  rw [show (min (l.length:Int) 60).toNat=60 by omega];exact this
 ·go_enter Tryz.func13,Tryz.ntmps13
  go_wp2_with fail;go_ret
  refine⟨⟨_,rfl,?_⟩,rfl⟩;have:=HT.o;rw [List.take_of_length_le h] at this ⊢;show ay w (.slice ao (min (l.length:Int) 60).toNat cap) _
  rw [show (min (l.length:Int) 60).toNat=l.length by omega];exact this
end
section
open Go.Proofs.YtlmdjifffmofeaaGreatDoor Go.RowKit
theorem T.ae6 {c:T.Cs} {xs:List Int} {a:Int} (h:T.jW c xs a=0):∃ k:Nat,a=k/\k<xs.length/\T.cu 600 c=true/\(∀ x∈xs,U.right x=true)/\T.jL c xs a=T.final c xs k:=by
 have h0:=h;unfold T.jW at h
 split at h
 ·rename_i h1;exact absurd h h1
 ·rename_i h1
  have h2:=T.pI (by simpa using h1)
  split at h
  ·rename_i h3
   refine⟨a.toNat,by omega,by omega,h2.1,h2.2.2,?_⟩;unfold T.jL;rw [h0]
   rfl
  ·cases h
theorem T.am8 {c:T.Cs} {xs:List Int} {a:Int} (h:T.jW c xs a≠0):T.jL c xs a=false:=by
 unfold T.jL;rw [decide_eq_false h,Bool.false_and]
theorem QO (v:Value) (c:T.Cs) (r:Int) (w:World) (hv:bC w v c) (hs:T.Small c) (hc:T.cu 600 c=true) (hr:U.right r=true) {p q:Bool} (h1:T.cased c r=p) (h2:T.aX c r=q) :
  Calls Tryz.prog 29 #[v, .int .i64 r] w λe w'=>e = .returned (.tuple #[.bool p, .bool q, .int .i64 0])/\Below w.heap.size w w':=by
 subst h1 h2;exact PW v c r w hv hs hc hr
end
section
open Go.RowKit
attribute [local go_sem] Oper.semAt_some
theorem aeZ (A:Nat->Addr) (B:Nat) (v vl:Value) (c:T.Cs) (l:List Int) (a:Int) (w:World) (hv:bC w v c) (hl:ay w vl l) (hS:Sw A B w) :
  Calls Tryz.prog 9 #[v,vl, .int .i64 a] w λe w'=>e = .returned (.bool true)/\Below w.heap.size w w':=by
 have HS:=bx hS;have iF:=bx hv;obtain⟨lv,tv,ci,cb,gi,gb,rfl,h1,h2,h3,h4,h5,h6⟩:=hv;obtain⟨a1,c1,rfl,-⟩:=h1.slice;obtain⟨a2,c2,rfl,-⟩:=h2.slice;obtain⟨a3,c3,rfl⟩:=h3.slice;obtain⟨a4,c4,rfl⟩:=h4.slice;obtain⟨a5,c5,rfl⟩:=h5.slice;obtain⟨a6,c6,rfl⟩:=h6.slice;clear h1 h2 h3 h4 h5 h6;generalize c.lo.length=n1,c.ti.length=n2,c.ca.1.length=n3,c.ca.2.length=n4,c.ig.1.length=n5,c.ig.2.length=n6 at iF ⊢;have kM:=bx hl;obtain⟨la,lc,rfl⟩:=hl.slice;clear hl;obtain⟨V,hV⟩:∃ V,V=w.alloc (.cells #[.slice a1 n1 c1, .slice a2 n2 c2, .slice a3 n3 c3, .slice a4 n4 c4, .slice a5 n5 c5, .slice a6 n6 c6] 28):=⟨_,rfl⟩
 have HB0:=bx (show Below w.heap.size w V by rw [hV];exact aS _ _);have jv:=bx (show Sep [Pc.blk w.heap.size 28 #[.slice a1 n1 c1, .slice a2 n2 c2, .slice a3 n3 c3, .slice a4 n4 c4, .slice a5 n5 c5, .slice a6 n6 c6],Pc.old w.heap.size w] V by rw [hV];exact(Sep.start w).dh _ _);have bK:=bx (show V.heap.size=w.heap.size+1 by rw [hV];simp);have HV:=bx hV;clear hS hV
 go_enter Tryz.func9,Tryz.ntmps9
 go_wp2_with fail;rw [<- HV.o];refine(zG A B V (HS.o.below HB0.o)).mono ?_;rintro e w1 ⟨rfl,hb1⟩;have HB1:=bx (bT HB0.o hb1);have iE:=bx (jv.o.below hb1);have bQ:=bx (show w.heap.size<w1.heap.size by have:=bK.o;have:=hb1.size;omega);clear hb1 HV;have hk:=iE.o.blk 0 rfl;have e0:=(hk.cell 0).trans (show _=some (Value.slice a1 n1 c1) from rfl);have e1:=(hk.cell 1).trans (show _=some (Value.slice a2 n2 c2) from rfl);have e2:=(hk.cell 2).trans (show _=some (Value.slice a3 n3 c3) from rfl);have e3:=(hk.cell 3).trans (show _=some (Value.slice a4 n4 c4) from rfl);have e4:=(hk.cell 4).trans (show _=some (Value.slice a5 n5 c5) from rfl);have e5:=(hk.cell 5).trans (show _=some (Value.slice a6 n6 c6) from rfl);have el:=hk.lt;clear hk;have bW:=bx (Au _ c w w1 iF.o HB1.o);go_wp2_with fail;refine bW.o.mono ?_;rintro e w2 ⟨hb2,v',rfl,bV⟩;clear e0 e1 e2 e3 e4 e5 el;have HB2:=bx (bT HB1.o hb2);have gq:=bx (iE.o.below hb2);obtain⟨lv,tv,ci,cb,gi,gb,rfl,h1,h2,h3,h4,h5,h6⟩:=bV w2 (Turns.refl _ _) HB2.o;obtain⟨b1,d1,rfl,-⟩:=h1.slice;obtain⟨b2,d2,rfl,-⟩:=h2.slice;obtain⟨b3,d3,rfl⟩:=h3.slice;obtain⟨b4,d4,rfl⟩:=h4.slice;obtain⟨b5,d5,rfl⟩:=h5.slice;obtain⟨b6,d6,rfl⟩:=h6.slice;clear h1 h2 h3 h4 h5 h6 hb2;have bD:=bx (zM c);generalize xI c=C at bV bD ⊢;generalize C.lo.length=m1,C.ti.length=m2,C.ca.1.length=m3,C.ca.2.length=m4,C.ig.1.length=m5,C.ig.2.length=m6 at bV ⊢;have kE:=bx bV;clear bV bW;have hk:=gq.o.blk 0 rfl;have e0:=(hk.cell 0).trans (show _=some (Value.slice a1 n1 c1) from rfl);have f0:=hk.frozen 0;have e1:=(hk.cell 1).trans (show _=some (Value.slice a2 n2 c2) from rfl);have f1:=hk.frozen 1;have e2:=(hk.cell 2).trans (show _=some (Value.slice a3 n3 c3) from rfl);have f2:=hk.frozen 2;have e3:=(hk.cell 3).trans (show _=some (Value.slice a4 n4 c4) from rfl);have f3:=hk.frozen 3;have e4:=(hk.cell 4).trans (show _=some (Value.slice a5 n5 c5) from rfl);have f4:=hk.frozen 4;have e5:=(hk.cell 5).trans (show _=some (Value.slice a6 n6 c6) from rfl);have f5:=hk.frozen 5;have el:=hk.lt;clear hk;have aO:=bx (show Sep [Pc.blk w.heap.size 28 #[.slice b1 m1 d1, .slice b2 m2 d2, .slice b3 m3 d3, .slice b4 m4 d4, .slice b5 m5 d5, .slice b6 m6 d6],Pc.old w.heap.size w] ((((((w2.setCell ⟨w.heap.size,0,none⟩ (.slice b1 m1 d1)).setCell ⟨w.heap.size,1,none⟩ (.slice b2 m2 d2)).setCell ⟨w.heap.size,2,none⟩ (.slice b3 m3 d3)).setCell ⟨w.heap.size,3,none⟩ (.slice b4 m4 d4)).setCell ⟨w.heap.size,4,none⟩ (.slice b5 m5 d5)).setCell ⟨w.heap.size,5,none⟩ (.slice b6 m6 d6)) from((((((gq.o.set 0 rfl 0 (.slice b1 m1 d1)).set 0 rfl 1 (.slice b2 m2 d2)).set 0 rfl 2 (.slice b3 m3 d3)).set 0 rfl 3 (.slice b4 m4 d4)).set 0 rfl 4 (.slice b5 m5 d5)).set 0 rfl 5 (.slice b6 m6 d6)));have HT3:=bx (show Turns (λq=>q=w.heap.size) w2 ((((((w2.setCell ⟨w.heap.size,0,none⟩ (.slice b1 m1 d1)).setCell ⟨w.heap.size,1,none⟩ (.slice b2 m2 d2)).setCell ⟨w.heap.size,2,none⟩ (.slice b3 m3 d3)).setCell ⟨w.heap.size,3,none⟩ (.slice b4 m4 d4)).setCell ⟨w.heap.size,4,none⟩ (.slice b5 m5 d5)).setCell ⟨w.heap.size,5,none⟩ (.slice b6 m6 d6)) from((((((Turns.setCell (own:=λq=>q=w.heap.size) w2 (p:=⟨w.heap.size,0,none⟩) rfl (.slice b1 m1 d1)).trans (Turns.setCell (own:=λq=>q=w.heap.size) _ (p:=⟨w.heap.size,1,none⟩) rfl (.slice b2 m2 d2))).trans (Turns.setCell (own:=λq=>q=w.heap.size) _ (p:=⟨w.heap.size,2,none⟩) rfl (.slice b3 m3 d3))).trans (Turns.setCell (own:=λq=>q=w.heap.size) _ (p:=⟨w.heap.size,3,none⟩) rfl (.slice b4 m4 d4))).trans (Turns.setCell (own:=λq=>q=w.heap.size) _ (p:=⟨w.heap.size,4,none⟩) rfl (.slice b5 m5 d5))).trans (Turns.setCell (own:=λq=>q=w.heap.size) _ (p:=⟨w.heap.size,5,none⟩) rfl (.slice b6 m6 d6))))
 go_upto_region 3 with(fail)
 generalize ((((((w2.setCell ⟨w.heap.size,0,none⟩ (.slice b1 m1 d1)).setCell ⟨w.heap.size,1,none⟩ (.slice b2 m2 d2)).setCell ⟨w.heap.size,2,none⟩ (.slice b3 m3 d3)).setCell ⟨w.heap.size,3,none⟩ (.slice b4 m4 d4)).setCell ⟨w.heap.size,4,none⟩ (.slice b5 m5 d5)).setCell ⟨w.heap.size,5,none⟩ (.slice b6 m6 d6))=w3 at aO HT3 ⊢;clear e0 f0 e1 f1 e2 f2 e3 f3 e4 f4 e5 f5 el;have HB3:=bx (aO.o.bel (n:=w.heap.size) (W0:=w) (by simp));have fA:=bx (show bC w3 (.agg #[.slice b1 m1 d1, .slice b2 m2 d2, .slice b3 m3 d3, .slice b4 m4 d4, .slice b5 m5 d5, .slice b6 m6 d6]) C from kE.o w3 (HT3.o.mono (λk hk=>by have:=bQ.o;omega)) HB3.o);have aK:=bx (HS.o.below HB3.o);have aB:=bx (λW (h:Below w3.heap.size w3 W)=>show W.cell? ⟨w.heap.size,0,none⟩=some (.slice b1 m1 d1)/\W.cell? ⟨w.heap.size,1,none⟩=some (.slice b2 m2 d2)/\W.cell? ⟨w.heap.size,2,none⟩=some (.slice b3 m3 d3)/\W.cell? ⟨w.heap.size,3,none⟩=some (.slice b4 m4 d4)/\W.cell? ⟨w.heap.size,4,none⟩=some (.slice b5 m5 d5)/\W.cell? ⟨w.heap.size,5,none⟩=some (.slice b6 m6 d6)/\w.heap.size<W.heap.size from⟨(((aO.o.blk 0 rfl).below h (aO.o.blk 0 rfl).lt).cell 0).trans rfl,(((aO.o.blk 0 rfl).below h (aO.o.blk 0 rfl).lt).cell 1).trans rfl,(((aO.o.blk 0 rfl).below h (aO.o.blk 0 rfl).lt).cell 2).trans rfl,(((aO.o.blk 0 rfl).below h (aO.o.blk 0 rfl).lt).cell 3).trans rfl,(((aO.o.blk 0 rfl).below h (aO.o.blk 0 rfl).lt).cell 4).trans rfl,(((aO.o.blk 0 rfl).below h (aO.o.blk 0 rfl).lt).cell 5).trans rfl,((aO.o.blk 0 rfl).below h (aO.o.blk 0 rfl).lt).lt⟩);clear jv iE gq aO HT3 kE HB0 HB1 HB2 bK iF HS;have uS:=bx (ED _ l w3 (kM.o.below HB3.o));go_wp2_with fail;refine uS.o.mono ?_;rintro e w3' ⟨⟨v',rfl,hf⟩,rfl⟩;have iK:=bx (show (lu l).length<=60 by unfold lu;rw [List.length_take];omega);generalize lu l=xs at hf iK;obtain⟨fa,fc,rfl⟩:=hf.slice;have HF:=bx hf;clear hf uS kM;obtain⟨N,hN⟩:∃ N,xs.length=N:=⟨_,rfl⟩
 have HN:=bx hN
 by_cases hfe:T.jW C xs a=0
 ·obtain⟨k,hak,hk,hcb,hsr,hfa⟩:=T.ae6 hfe;obtain⟨g,off,cap,hg1,hg2,hg3,hg4,hg5⟩:=HF.o.get (by rintro rfl;simp at hk);obtain⟨rfl,rfl⟩:fa=some ⟨g,off,none⟩/\fc=cap:=by injection hg1 with h1 h2 h3;exact⟨h1,h3⟩
  clear hg1;rw [hN] at hg2 ⊢;unfold maxLen at hg3;have SX:N<=60:=by have:=iK.o;omega
  have dd1:decide (a<0)=false:=decide_eq_false (by omega);have Y3:decide ((N:Int)<=a)=false:=decide_eq_false (by omega)
  by_cases h1:0<k
  ·have dd3:decide (0<a)=true:=decide_eq_true (by omega);obtain⟨k1,hk1⟩:∃ k1,k1=k-1:=⟨_,rfl⟩
   obtain⟨x1,hx1⟩:∃ x,xs.getD (k-1) 0=x:=⟨_,rfl⟩
   have hy1:xs[k1]?=some x1:=by rw [hk1,<- hx1,List.getD_eq_getElem?_getD,List.getElem?_eq_getElem (by omega),Option.getD_some]
   have hr1:U.right x1=true:=hsr x1 (List.mem_of_getElem? hy1);have NR:=bx (show IntKind.i64.wrap (a-1)=(k1:Int) by rw [IntKind.wrap_i64];have:=HN.o;omega);have hlt1:k1<N:=by omega
   clear hk1 hN
   by_cases h2:k+1<N
   ·obtain⟨k2,hk2⟩:∃ k2,k2=k+1:=⟨_,rfl⟩
    obtain⟨x2,hx2⟩:∃ x,xs.getD (k+1) 0=x:=⟨_,rfl⟩
    have hy2:xs[k2]?=some x2:=by rw [hk2,<- hx2,List.getD_eq_getElem?_getD,List.getElem?_eq_getElem (by have:=HN.o;omega),Option.getD_some]
    have hr2:U.right x2=true:=hsr x2 (List.mem_of_getElem? hy2);have HAD:=bx (show IntKind.i64.wrap (a+1)=(k2:Int) by rw [IntKind.wrap_i64];have:=HN.o;omega);have hlt2:k2<N:=by omega
    clear hk2 hak;obtain⟨fb,hfb⟩:∃ f,T.jL C xs a=f:=⟨_,rfl⟩
    obtain⟨p1,hp1⟩:∃ f,T.cased C x1=f:=⟨_,rfl⟩
    obtain⟨j1,hj1⟩:∃ f,T.aX C x1=f:=⟨_,rfl⟩
    obtain⟨p2,hp2⟩:∃ f,T.cased C x2=f:=⟨_,rfl⟩
    obtain⟨j2,hj2⟩:∃ f,T.aX C x2=f:=⟨_,rfl⟩
    have yK:=bx (show (p1||!j1)=true->(p2||!j2)=true->fb=(p1&&!p2) from by
     intro s1;intro s2;rw [<- hfb,hfa];unfold T.final;rw [T.Yk (c:=C) hk h1 (by rw [hx1,hp1,hj1];exact s1),hx1,hp1];rw [T.XO (c:=C) (by have:=HN.o;omega) (by rw [hx2,hp2,hj2];exact s2),hx2,hp2])
    have hx:=DY A B _ _ C xs a w3 fA.o bD.o HF.o (by have:=iK.o;omega) aK.o.e aK.o.le;rw [hfe,hfb,HN.o] at hx;have iP:=bx hx;clear hx;have tu:=bx (λW (h:Below w3.heap.size w3 W)=>show W.cell? ⟨w.heap.size,0,none⟩=some (.slice b1 m1 d1)/\W.cell? ⟨w.heap.size,1,none⟩=some (.slice b2 m2 d2)/\W.cell? ⟨w.heap.size,2,none⟩=some (.slice b3 m3 d3)/\W.cell? ⟨w.heap.size,3,none⟩=some (.slice b4 m4 d4)/\W.cell? ⟨w.heap.size,4,none⟩=some (.slice b5 m5 d5)/\W.cell? ⟨w.heap.size,5,none⟩=some (.slice b6 m6 d6)/\w.heap.size<W.heap.size/\W.cell? ⟨g,off+k1,none⟩=some (.int .i64 x1) from by
     obtain⟨q0,q1,q2,q3,q4,q5,ql⟩:=aB.o W h;exact⟨q0,q1,q2,q3,q4,q5,ql,(h.cell (p:=⟨g,off+k1,none⟩) hg4).trans (hg5 k1 x1 hy1)⟩)
    have uF:=bx (λW (h:Below w3.heap.size w3 W)=>QO _ C x1 W (fA.o.below h) bD.o hcb hr1 hp1 hj1);have HKB:=bx (λW (h:Below w3.heap.size w3 W)=>show W.cell? ⟨w.heap.size,0,none⟩=some (.slice b1 m1 d1)/\W.cell? ⟨w.heap.size,1,none⟩=some (.slice b2 m2 d2)/\W.cell? ⟨w.heap.size,2,none⟩=some (.slice b3 m3 d3)/\W.cell? ⟨w.heap.size,3,none⟩=some (.slice b4 m4 d4)/\W.cell? ⟨w.heap.size,4,none⟩=some (.slice b5 m5 d5)/\W.cell? ⟨w.heap.size,5,none⟩=some (.slice b6 m6 d6)/\w.heap.size<W.heap.size/\W.cell? ⟨g,off+k2,none⟩=some (.int .i64 x2) from by
     obtain⟨q0,q1,q2,q3,q4,q5,ql⟩:=aB.o W h;exact⟨q0,q1,q2,q3,q4,q5,ql,(h.cell (p:=⟨g,off+k2,none⟩) hg4).trans (hg5 k2 x2 hy2)⟩)
    have uZ:=bx (λW (h:Below w3.heap.size w3 W)=>QO _ C x2 W (fA.o.below h) bD.o hcb hr2 hp2 hj2);clear hfe hfa hcb hsr hk hg5 hfb h1 h2 hr1 hx1 hy1 hp1 hj1 hr2 hx2 hy2 hp2 hj2;obtain⟨e0,e1,e2,e3,e4,e5,el⟩:=aB.o w3 (Below.refl _ w3);go_wp2_with fail;refine iP.o.mono ?_;rintro e w4 ⟨rfl,hb4⟩;clear e0 e1 e2 e3 e4 e5 el;have HB4:=bx hb4;clear hb4 iP;go_wp2_with fail;have hsub:=NR.o;have aF:=bx (show Below w3.heap.size w3 w4.drew from bT HB4.o (eu w4 1));have au:=bx (tu.o w4.drew aF.o);refine dO 13 (λW'=>W'.cell? ⟨w.heap.size,0,none⟩=some (.slice b1 m1 d1)/\W'.cell? ⟨w.heap.size,1,none⟩=some (.slice b2 m2 d2)/\W'.cell? ⟨w.heap.size,2,none⟩=some (.slice b3 m3 d3)/\W'.cell? ⟨w.heap.size,3,none⟩=some (.slice b4 m4 d4)/\W'.cell? ⟨w.heap.size,4,none⟩=some (.slice b5 m5 d5)/\W'.cell? ⟨w.heap.size,5,none⟩=some (.slice b6 m6 d6)/\w.heap.size<W'.heap.size/\W'.cell? ⟨g,off+k1,none⟩=some (.int .i64 x1)) (by kernel_rfl) ?_;generalize w4.drew=WR at aF au ⊢;refine kS 0 ?_ rfl au.o ?_ ?_;rotate_left
    ·rintro w ⟨q1,q2,q3,q4,q5,q6,q7,q8⟩;go_simp;try with_reducible rfl
    refine kS 1 ?_ rfl au.o ?_ ?_;rotate_left
    ·rintro w ⟨q1,q2,q3,q4,q5,q6,q7,q8⟩;go_simp;try with_reducible rfl
    refine kS 2 ?_ rfl au.o ?_ ?_;rotate_left
    ·rintro w ⟨q1,q2,q3,q4,q5,q6,q7,q8⟩;go_simp;try with_reducible rfl
    refine kS 3 ?_ rfl au.o ?_ ?_;rotate_left
    ·rintro w ⟨q1,q2,q3,q4,q5,q6,q7,q8⟩;go_simp;try with_reducible rfl
    refine kS 4 ?_ rfl au.o ?_ ?_;rotate_left
    ·rintro w ⟨q1,q2,q3,q4,q5,q6,q7,q8⟩;go_simp;try with_reducible rfl
    refine kS 5 ?_ rfl au.o ?_ ?_;rotate_left
    ·rintro w ⟨q1,q2,q3,q4,q5,q6,q7,q8⟩;go_simp;try with_reducible rfl
    refine kP 6 rfl λKK aj=>?_
    go_simp;refine(uF.o WR aF.o).mono ?_;rintro e w5 ⟨rfl,hb5⟩;have aP:=bx (bT aF.o hb5);have aN:=bx (tu.o w5 aP.o);clear hb5;refine aj.out _ _ (λ_=>aN.o) ?_;clear aj KK;refine kP 7 rfl λKK aj=>?_
    go_simp;refine aj.out _ _ (λ_=>aN.o) ?_;clear aj KK;refine kS 8 ?_ rfl aN.o ?_ ?_;rotate_left
    ·rintro w ⟨q1,q2,q3,q4,q5,q6,q7,q8⟩;go_simp;try with_reducible rfl
    refine kS 9 ?_ rfl aN.o ?_ ?_;rotate_left
    ·rintro w ⟨q1,q2,q3,q4,q5,q6,q7,q8⟩;go_simp;try with_reducible rfl
    refine kS 10 ?_ rfl aN.o ?_ ?_;rotate_left
    ·rintro w ⟨q1,q2,q3,q4,q5,q6,q7,q8⟩;go_simp;try with_reducible rfl
    refine kP 11 rfl λKK aj=>?_
    go_simp;refine aj.out _ _ (λ_=>aN.o) ?_;clear aj KK;refine kP 12 rfl λKK aj=>?_
    go_simp;refine aj.out _ _ (λ_=>aN.o) ?_;clear aj KK;refine kP 13 rfl λKK aj=>?_
    go_simp;refine aj.out _ _ (λh=>by cases h) ?_;clear aj KK;refine kD ?_ _;clear aF au aN;clear hsub
    rcases (show (p1=true)\/(p1=false/\j1=true)\/(p1=false/\j1=false) by cases p1 <;> cases j1 <;> simp) with rfl | ⟨rfl,rfl⟩ | ⟨rfl,rfl⟩
    all_goals
     have hadd:=HAD.o;go_wp2_with fail;have aF:=bx (show Below w3.heap.size w3 w5.drew from bT aP.o (eu w5 1));have au:=bx (HKB.o w5.drew aF.o);refine dO 13 (λW'=>W'.cell? ⟨w.heap.size,0,none⟩=some (.slice b1 m1 d1)/\W'.cell? ⟨w.heap.size,1,none⟩=some (.slice b2 m2 d2)/\W'.cell? ⟨w.heap.size,2,none⟩=some (.slice b3 m3 d3)/\W'.cell? ⟨w.heap.size,3,none⟩=some (.slice b4 m4 d4)/\W'.cell? ⟨w.heap.size,4,none⟩=some (.slice b5 m5 d5)/\W'.cell? ⟨w.heap.size,5,none⟩=some (.slice b6 m6 d6)/\w.heap.size<W'.heap.size/\W'.cell? ⟨g,off+k2,none⟩=some (.int .i64 x2)) (by kernel_rfl) ?_;generalize w5.drew=WR at aF au ⊢;refine kS 0 ?_ rfl au.o ?_ ?_;rotate_left
     ·rintro w ⟨q1,q2,q3,q4,q5,q6,q7,q8⟩;go_simp;try with_reducible rfl
     refine kS 1 ?_ rfl au.o ?_ ?_;rotate_left
     ·rintro w ⟨q1,q2,q3,q4,q5,q6,q7,q8⟩;go_simp;try with_reducible rfl
     refine kS 2 ?_ rfl au.o ?_ ?_;rotate_left
     ·rintro w ⟨q1,q2,q3,q4,q5,q6,q7,q8⟩;go_simp;try with_reducible rfl
     refine kS 3 ?_ rfl au.o ?_ ?_;rotate_left
     ·rintro w ⟨q1,q2,q3,q4,q5,q6,q7,q8⟩;go_simp;try with_reducible rfl
     refine kS 4 ?_ rfl au.o ?_ ?_;rotate_left
     ·rintro w ⟨q1,q2,q3,q4,q5,q6,q7,q8⟩;go_simp;try with_reducible rfl
     refine kS 5 ?_ rfl au.o ?_ ?_;rotate_left
     ·rintro w ⟨q1,q2,q3,q4,q5,q6,q7,q8⟩;go_simp;try with_reducible rfl
     refine kP 6 rfl λKK aj=>?_
     go_simp;refine(uZ.o WR aF.o).mono ?_;rintro e w6 ⟨rfl,hb6⟩;have cO:=bx (bT aF.o hb6);have aN:=bx (HKB.o w6 cO.o);clear hb6;refine aj.out _ _ (λ_=>aN.o) ?_;clear aj KK;refine kP 7 rfl λKK aj=>?_
     go_simp;refine aj.out _ _ (λ_=>aN.o) ?_;clear aj KK;refine kS 8 ?_ rfl aN.o ?_ ?_;rotate_left
     ·rintro w ⟨q1,q2,q3,q4,q5,q6,q7,q8⟩;go_simp;try with_reducible rfl
     refine kS 9 ?_ rfl aN.o ?_ ?_;rotate_left
     ·rintro w ⟨q1,q2,q3,q4,q5,q6,q7,q8⟩;go_simp;try with_reducible rfl
     refine kS 10 ?_ rfl aN.o ?_ ?_;rotate_left
     ·rintro w ⟨q1,q2,q3,q4,q5,q6,q7,q8⟩;go_simp;try with_reducible rfl
     refine kP 11 rfl λKK aj=>?_
     go_simp;refine aj.out _ _ (λ_=>aN.o) ?_;clear aj KK;refine kP 12 rfl λKK aj=>?_
     go_simp;refine aj.out _ _ (λ_=>aN.o) ?_;clear aj KK;refine kP 13 rfl λKK aj=>?_
     go_simp;refine aj.out _ _ (λh=>by cases h) ?_;clear aj KK;refine kD ?_ _;clear aF au aN;clear hadd
     rcases (show (p2=true)\/(p2=false/\j2=true)\/(p2=false/\j2=false) by cases p2 <;> cases j2 <;> simp) with rfl | ⟨rfl,rfl⟩ | ⟨rfl,rfl⟩
     all_goals
      try obtain rfl:=yK.o rfl rfl
      clear yK;go_wp2_with fail;go_ret
      exact⟨rfl,bT HB3.o cO.o⟩
   ·obtain⟨k2,hk2⟩:∃ k2,k2=k+1:=⟨_,rfl⟩
    have HAD:=bx (show IntKind.i64.wrap (a+1)=(k2:Int) by rw [IntKind.wrap_i64];have:=HN.o;omega);have hlt2:¬ k2<N:=by omega
    clear hk2 hak;obtain⟨fb,hfb⟩:∃ f,T.jL C xs a=f:=⟨_,rfl⟩
    obtain⟨p1,hp1⟩:∃ f,T.cased C x1=f:=⟨_,rfl⟩
    obtain⟨j1,hj1⟩:∃ f,T.aX C x1=f:=⟨_,rfl⟩
    have yK:=bx (show (p1||!j1)=true->fb=(p1&&!false) from by
     intro s1;rw [<- hfb,hfa];unfold T.final;rw [T.Yk (c:=C) hk h1 (by rw [hx1,hp1,hj1];exact s1),hx1,hp1];rw [T.aao (c:=C) (by have:=HN.o;omega)])
    have hx:=DY A B _ _ C xs a w3 fA.o bD.o HF.o (by have:=iK.o;omega) aK.o.e aK.o.le;rw [hfe,hfb,HN.o] at hx;have iP:=bx hx;clear hx;have tu:=bx (λW (h:Below w3.heap.size w3 W)=>show W.cell? ⟨w.heap.size,0,none⟩=some (.slice b1 m1 d1)/\W.cell? ⟨w.heap.size,1,none⟩=some (.slice b2 m2 d2)/\W.cell? ⟨w.heap.size,2,none⟩=some (.slice b3 m3 d3)/\W.cell? ⟨w.heap.size,3,none⟩=some (.slice b4 m4 d4)/\W.cell? ⟨w.heap.size,4,none⟩=some (.slice b5 m5 d5)/\W.cell? ⟨w.heap.size,5,none⟩=some (.slice b6 m6 d6)/\w.heap.size<W.heap.size/\W.cell? ⟨g,off+k1,none⟩=some (.int .i64 x1) from by
     obtain⟨q0,q1,q2,q3,q4,q5,ql⟩:=aB.o W h;exact⟨q0,q1,q2,q3,q4,q5,ql,(h.cell (p:=⟨g,off+k1,none⟩) hg4).trans (hg5 k1 x1 hy1)⟩)
    have uF:=bx (λW (h:Below w3.heap.size w3 W)=>QO _ C x1 W (fA.o.below h) bD.o hcb hr1 hp1 hj1);clear hfe hfa hcb hsr hk hg5 hfb h1 h2 hr1 hx1 hy1 hp1 hj1;obtain⟨e0,e1,e2,e3,e4,e5,el⟩:=aB.o w3 (Below.refl _ w3);go_wp2_with fail;refine iP.o.mono ?_;rintro e w4 ⟨rfl,hb4⟩;clear e0 e1 e2 e3 e4 e5 el;have HB4:=bx hb4;clear hb4 iP;go_wp2_with fail;have hsub:=NR.o;have aF:=bx (show Below w3.heap.size w3 w4.drew from bT HB4.o (eu w4 1));have au:=bx (tu.o w4.drew aF.o);refine dO 13 (λW'=>W'.cell? ⟨w.heap.size,0,none⟩=some (.slice b1 m1 d1)/\W'.cell? ⟨w.heap.size,1,none⟩=some (.slice b2 m2 d2)/\W'.cell? ⟨w.heap.size,2,none⟩=some (.slice b3 m3 d3)/\W'.cell? ⟨w.heap.size,3,none⟩=some (.slice b4 m4 d4)/\W'.cell? ⟨w.heap.size,4,none⟩=some (.slice b5 m5 d5)/\W'.cell? ⟨w.heap.size,5,none⟩=some (.slice b6 m6 d6)/\w.heap.size<W'.heap.size/\W'.cell? ⟨g,off+k1,none⟩=some (.int .i64 x1)) (by kernel_rfl) ?_;generalize w4.drew=WR at aF au ⊢;refine kS 0 ?_ rfl au.o ?_ ?_;rotate_left
    ·rintro w ⟨q1,q2,q3,q4,q5,q6,q7,q8⟩;go_simp;try with_reducible rfl
    refine kS 1 ?_ rfl au.o ?_ ?_;rotate_left
    ·rintro w ⟨q1,q2,q3,q4,q5,q6,q7,q8⟩;go_simp;try with_reducible rfl
    refine kS 2 ?_ rfl au.o ?_ ?_;rotate_left
    ·rintro w ⟨q1,q2,q3,q4,q5,q6,q7,q8⟩;go_simp;try with_reducible rfl
    refine kS 3 ?_ rfl au.o ?_ ?_;rotate_left
    ·rintro w ⟨q1,q2,q3,q4,q5,q6,q7,q8⟩;go_simp;try with_reducible rfl
    refine kS 4 ?_ rfl au.o ?_ ?_;rotate_left
    ·rintro w ⟨q1,q2,q3,q4,q5,q6,q7,q8⟩;go_simp;try with_reducible rfl
    refine kS 5 ?_ rfl au.o ?_ ?_;rotate_left
    ·rintro w ⟨q1,q2,q3,q4,q5,q6,q7,q8⟩;go_simp;try with_reducible rfl
    refine kP 6 rfl λKK aj=>?_
    go_simp;refine(uF.o WR aF.o).mono ?_;rintro e w5 ⟨rfl,hb5⟩;have aP:=bx (bT aF.o hb5);have aN:=bx (tu.o w5 aP.o);clear hb5;refine aj.out _ _ (λ_=>aN.o) ?_;clear aj KK;refine kP 7 rfl λKK aj=>?_
    go_simp;refine aj.out _ _ (λ_=>aN.o) ?_;clear aj KK;refine kS 8 ?_ rfl aN.o ?_ ?_;rotate_left
    ·rintro w ⟨q1,q2,q3,q4,q5,q6,q7,q8⟩;go_simp;try with_reducible rfl
    refine kS 9 ?_ rfl aN.o ?_ ?_;rotate_left
    ·rintro w ⟨q1,q2,q3,q4,q5,q6,q7,q8⟩;go_simp;try with_reducible rfl
    refine kS 10 ?_ rfl aN.o ?_ ?_;rotate_left
    ·rintro w ⟨q1,q2,q3,q4,q5,q6,q7,q8⟩;go_simp;try with_reducible rfl
    refine kP 11 rfl λKK aj=>?_
    go_simp;refine aj.out _ _ (λ_=>aN.o) ?_;clear aj KK;refine kP 12 rfl λKK aj=>?_
    go_simp;refine aj.out _ _ (λ_=>aN.o) ?_;clear aj KK;refine kP 13 rfl λKK aj=>?_
    go_simp;refine aj.out _ _ (λh=>by cases h) ?_;clear aj KK;refine kD ?_ _;clear aF au aN;clear hsub
    rcases (show (p1=true)\/(p1=false/\j1=true)\/(p1=false/\j1=false) by cases p1 <;> cases j1 <;> simp) with rfl | ⟨rfl,rfl⟩ | ⟨rfl,rfl⟩
    all_goals
     have hadd:=HAD.o;go_wp2_with fail
     try obtain rfl:=yK.o rfl
     clear yK;go_wp2_with fail;go_ret
     exact⟨rfl,bT HB3.o aP.o⟩
  ·have dd3:decide (0<a)=false:=decide_eq_false (by omega);clear hN
   by_cases h2:k+1<N
   ·obtain⟨k2,hk2⟩:∃ k2,k2=k+1:=⟨_,rfl⟩
    obtain⟨x2,hx2⟩:∃ x,xs.getD (k+1) 0=x:=⟨_,rfl⟩
    have hy2:xs[k2]?=some x2:=by rw [hk2,<- hx2,List.getD_eq_getElem?_getD,List.getElem?_eq_getElem (by have:=HN.o;omega),Option.getD_some]
    have hr2:U.right x2=true:=hsr x2 (List.mem_of_getElem? hy2);have HAD:=bx (show IntKind.i64.wrap (a+1)=(k2:Int) by rw [IntKind.wrap_i64];have:=HN.o;omega);have hlt2:k2<N:=by omega
    clear hk2 hak;obtain⟨fb,hfb⟩:∃ f,T.jL C xs a=f:=⟨_,rfl⟩
    obtain⟨p2,hp2⟩:∃ f,T.cased C x2=f:=⟨_,rfl⟩
    obtain⟨j2,hj2⟩:∃ f,T.aX C x2=f:=⟨_,rfl⟩
    have yK:=bx (show (p2||!j2)=true->fb=(false&&!p2) from by
     intro s2;rw [<- hfb,hfa];unfold T.final;obtain rfl:k=0:=by omega
     rw [T.Yr];rw [T.XO (c:=C) (by have:=HN.o;omega) (by rw [hx2,hp2,hj2];exact s2),hx2,hp2])
    have hx:=DY A B _ _ C xs a w3 fA.o bD.o HF.o (by have:=iK.o;omega) aK.o.e aK.o.le;rw [hfe,hfb,HN.o] at hx;have iP:=bx hx;clear hx;have HKB:=bx (λW (h:Below w3.heap.size w3 W)=>show W.cell? ⟨w.heap.size,0,none⟩=some (.slice b1 m1 d1)/\W.cell? ⟨w.heap.size,1,none⟩=some (.slice b2 m2 d2)/\W.cell? ⟨w.heap.size,2,none⟩=some (.slice b3 m3 d3)/\W.cell? ⟨w.heap.size,3,none⟩=some (.slice b4 m4 d4)/\W.cell? ⟨w.heap.size,4,none⟩=some (.slice b5 m5 d5)/\W.cell? ⟨w.heap.size,5,none⟩=some (.slice b6 m6 d6)/\w.heap.size<W.heap.size/\W.cell? ⟨g,off+k2,none⟩=some (.int .i64 x2) from by
     obtain⟨q0,q1,q2,q3,q4,q5,ql⟩:=aB.o W h;exact⟨q0,q1,q2,q3,q4,q5,ql,(h.cell (p:=⟨g,off+k2,none⟩) hg4).trans (hg5 k2 x2 hy2)⟩)
    have uZ:=bx (λW (h:Below w3.heap.size w3 W)=>QO _ C x2 W (fA.o.below h) bD.o hcb hr2 hp2 hj2);clear hfe hfa hcb hsr hk hg5 hfb h1 h2 hr2 hx2 hy2 hp2 hj2;obtain⟨e0,e1,e2,e3,e4,e5,el⟩:=aB.o w3 (Below.refl _ w3);go_wp2_with fail;refine iP.o.mono ?_;rintro e w4 ⟨rfl,hb4⟩;clear e0 e1 e2 e3 e4 e5 el;have HB4:=bx hb4;clear hb4 iP;have hadd:=HAD.o;go_wp2_with fail;have aF:=bx (show Below w3.heap.size w3 w4.drew from bT HB4.o (eu w4 1));have au:=bx (HKB.o w4.drew aF.o);refine dO 13 (λW'=>W'.cell? ⟨w.heap.size,0,none⟩=some (.slice b1 m1 d1)/\W'.cell? ⟨w.heap.size,1,none⟩=some (.slice b2 m2 d2)/\W'.cell? ⟨w.heap.size,2,none⟩=some (.slice b3 m3 d3)/\W'.cell? ⟨w.heap.size,3,none⟩=some (.slice b4 m4 d4)/\W'.cell? ⟨w.heap.size,4,none⟩=some (.slice b5 m5 d5)/\W'.cell? ⟨w.heap.size,5,none⟩=some (.slice b6 m6 d6)/\w.heap.size<W'.heap.size/\W'.cell? ⟨g,off+k2,none⟩=some (.int .i64 x2)) (by kernel_rfl) ?_;generalize w4.drew=WR at aF au ⊢;refine kS 0 ?_ rfl au.o ?_ ?_;rotate_left
    ·rintro w ⟨q1,q2,q3,q4,q5,q6,q7,q8⟩;go_simp;try with_reducible rfl
    refine kS 1 ?_ rfl au.o ?_ ?_;rotate_left
    ·rintro w ⟨q1,q2,q3,q4,q5,q6,q7,q8⟩;go_simp;try with_reducible rfl
    refine kS 2 ?_ rfl au.o ?_ ?_;rotate_left
    ·rintro w ⟨q1,q2,q3,q4,q5,q6,q7,q8⟩;go_simp;try with_reducible rfl
    refine kS 3 ?_ rfl au.o ?_ ?_;rotate_left
    ·rintro w ⟨q1,q2,q3,q4,q5,q6,q7,q8⟩;go_simp;try with_reducible rfl
    refine kS 4 ?_ rfl au.o ?_ ?_;rotate_left
    ·rintro w ⟨q1,q2,q3,q4,q5,q6,q7,q8⟩;go_simp;try with_reducible rfl
    refine kS 5 ?_ rfl au.o ?_ ?_;rotate_left
    ·rintro w ⟨q1,q2,q3,q4,q5,q6,q7,q8⟩;go_simp;try with_reducible rfl
    refine kP 6 rfl λKK aj=>?_
    go_simp;refine(uZ.o WR aF.o).mono ?_;rintro e w5 ⟨rfl,hb5⟩;have aP:=bx (bT aF.o hb5);have aN:=bx (HKB.o w5 aP.o);clear hb5;refine aj.out _ _ (λ_=>aN.o) ?_;clear aj KK;refine kP 7 rfl λKK aj=>?_
    go_simp;refine aj.out _ _ (λ_=>aN.o) ?_;clear aj KK;refine kS 8 ?_ rfl aN.o ?_ ?_;rotate_left
    ·rintro w ⟨q1,q2,q3,q4,q5,q6,q7,q8⟩;go_simp;try with_reducible rfl
    refine kS 9 ?_ rfl aN.o ?_ ?_;rotate_left
    ·rintro w ⟨q1,q2,q3,q4,q5,q6,q7,q8⟩;go_simp;try with_reducible rfl
    refine kS 10 ?_ rfl aN.o ?_ ?_;rotate_left
    ·rintro w ⟨q1,q2,q3,q4,q5,q6,q7,q8⟩;go_simp;try with_reducible rfl
    refine kP 11 rfl λKK aj=>?_
    go_simp;refine aj.out _ _ (λ_=>aN.o) ?_;clear aj KK;refine kP 12 rfl λKK aj=>?_
    go_simp;refine aj.out _ _ (λ_=>aN.o) ?_;clear aj KK;refine kP 13 rfl λKK aj=>?_
    go_simp;refine aj.out _ _ (λh=>by cases h) ?_;clear aj KK;refine kD ?_ _;clear aF au aN;clear hadd
    rcases (show (p2=true)\/(p2=false/\j2=true)\/(p2=false/\j2=false) by cases p2 <;> cases j2 <;> simp) with rfl | ⟨rfl,rfl⟩ | ⟨rfl,rfl⟩
    all_goals
     try obtain rfl:=yK.o rfl
     clear yK;go_wp2_with fail;go_ret
     exact⟨rfl,bT HB3.o aP.o⟩
   ·obtain⟨k2,hk2⟩:∃ k2,k2=k+1:=⟨_,rfl⟩
    have HAD:=bx (show IntKind.i64.wrap (a+1)=(k2:Int) by rw [IntKind.wrap_i64];have:=HN.o;omega);have hlt2:¬ k2<N:=by omega
    clear hk2 hak;obtain⟨fb,hfb⟩:∃ f,T.jL C xs a=f:=⟨_,rfl⟩
    have yK:=bx (show fb=(false&&!false) from by
     rw [<- hfb,hfa];unfold T.final;obtain rfl:k=0:=by omega
     rw [T.Yr];rw [T.aao (c:=C) (by have:=HN.o;omega)])
    have hx:=DY A B _ _ C xs a w3 fA.o bD.o HF.o (by have:=iK.o;omega) aK.o.e aK.o.le;rw [hfe,hfb,HN.o] at hx;have iP:=bx hx;clear hx;clear hfe hfa hcb hsr hk hg5 hfb h1 h2;obtain⟨e0,e1,e2,e3,e4,e5,el⟩:=aB.o w3 (Below.refl _ w3);go_wp2_with fail;refine iP.o.mono ?_;rintro e w4 ⟨rfl,hb4⟩;clear e0 e1 e2 e3 e4 e5 el;have HB4:=bx hb4;clear hb4 iP;have hadd:=HAD.o;go_wp2_with fail
    try obtain rfl:=yK.o
    clear yK;go_wp2_with fail;go_ret
    exact⟨rfl,bT HB3.o HB4.o⟩
 ·have hfv:=T.am8 hfe;have hx:=DY A B _ _ C xs a w3 fA.o bD.o HF.o (by have:=iK.o;omega) aK.o.e aK.o.le;obtain⟨r,hr⟩:∃ r,T.jW C xs a=r:=⟨_,rfl⟩
  rw [hr] at hx hfe;rw [hfv,HN.o] at hx;have iP:=bx hx;have er:(r != 0)=true:=by rw [bne_iff_ne];exact hfe
  clear hx hfe hr hfv;obtain⟨e0,e1,e2,e3,e4,e5,el⟩:=aB.o w3 (Below.refl _ w3);go_wp2_with fail;refine iP.o.mono ?_;rintro e w4 ⟨rfl,hb4⟩;have HB4:=bx (bT HB3.o hb4);clear hb4 iP;go_wp2_with fail;go_ret
  exact⟨rfl,HB4.o⟩
end
end Go.Proofs.YtlmdjifffmofeaaGreatDoor
