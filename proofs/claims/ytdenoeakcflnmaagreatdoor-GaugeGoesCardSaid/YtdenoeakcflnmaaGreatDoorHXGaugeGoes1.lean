/- Texts of this claim. -/
import Derived.Test.YtdenoeakcflnmaaGreatDoorH24

set_option maxRecDepth 100000
set_option maxHeartbeats 16000000
namespace Go.Proofs.YtdenoeakcflnmaaGreatDoor
namespace C
open Go.Proofs.YtdenoeakcflnmaaGreatDoor
theorem LQ {g:Ga} {s e:List UInt8} {n:Int}:∀ {k i:Nat},qN g s e n k=some i->i<=k/\gV g (headA g.t s i) (M.fix e) n=true
 | 0,i,h=>by
  unfold qN at h
  split at h
  ·rename_i h1;cases h;exact⟨Nat.le_refl _,h1⟩
  ·cases h
 | k+1,i,h=>by
  unfold qN at h
  split at h
  ·rename_i h1;cases h;exact⟨Nat.le_refl _,h1⟩
  ·have:=LQ h;exact⟨by omega,this.2⟩
end C
namespace C
open Go.Proofs.YtdenoeakcflnmaaGreatDoor
theorem VZ {g:Ga} {s e:List UInt8} (h:jI g s e=0):bF g=true/\s.length<=600/\e.length<=60:=by
 unfold jI at h
 split at h
 ·omega
 ·rename_i h1
  split at h
  ·omega
  ·exact⟨by simpa using h1,by omega,by omega⟩
theorem afx {g:Ga} {s e:List UInt8} {n:Int} {k:Nat} (h:gu g s e n=some k):jI g s e=0/\k<=(cZ g.t s).length/\gV g (headA g.t s k) (M.fix e) n=true:=by
 unfold gu at h
 split at h
 ·rename_i h1
  exact⟨h1,LQ h⟩
 ·cases h
theorem QL (t:Tab) (s:List UInt8) {k:Nat} {x:List UInt8} (h:(cZ t s)[k]?=some x):headA t s (k+1)=headA t s k++x:=by
 unfold headA;rw [List.take_add_one,h,List.flatten_append];simp
end C
section
open Go.RowKit
attribute [local go_sem] Oper.semAt_some
theorem dR.parts {w:World} {tn pi pb rv nv fv iv bv wb gk:Value} {g:C.Ga} (h:dR w (.agg #[tn,pi,pb,rv,nv,fv,iv,bv,wb,gk]) g):TabAt w (.agg #[tn,pi,pb,rv,nv,fv]) g.t/\WideAt w (.agg #[iv,bv,wb]) g.w:=by
 obtain⟨_,_,_,_,_,_,_,h1,h2,h3⟩:=h;injection h1 with h1;simp only [Array.mk.injEq,List.cons.injEq] at h1;obtain⟨rfl,rfl,rfl,rfl,rfl,rfl,rfl,rfl,rfl,-⟩:=h1;exact⟨h2,h3⟩
theorem ai5 {g:C.Ga} {s e:List UInt8} {n:Int} (hs:s.length<=600) (he:e.length<=60) :
  (C.gu g s e n=none/\(C.jI g s e=0\/C.jI g s e=150))\/∃ k,C.gu g s e n=some k/\C.jI g s e=0/\C.bF g=true/\k<=(C.cZ g.t s).length/\C.isA g.t (C.headA g.t s k++M.fix e) (C.headA g.t s k).length=true/\C.eG g (C.headA g.t s k++M.fix e)<=n:=by
 cases hw:C.gu g s e n with
 | none =>
  refine .inl ⟨rfl,?_⟩
  cases hg:C.bF g with
  | false=>exact .inr (C.NZ hg)
  | true=>exact .inl (C.MS hg hs he)
 | some k =>
  obtain⟨h1,h2,h3⟩:=C.afx hw;obtain⟨h4,-,-⟩:=C.VZ h1;unfold C.gV at h3;rw [Bool.and_eq_true] at h3;exact .inr ⟨k,rfl,h1,h4,h2,h3.1,of_decide_eq_true h3.2⟩
theorem ajw (A:Nat->Addr) (B:Nat) (v:Value) (g:C.Ga) (s e:ByteArray) (n:Int) (w:World) (hv:dR w v g) (hzs:s.size<=9223372036854775807) (hze:e.size<=9223372036854775807) (hS:Sw A B w) :
  Calls Tryz.prog 5 #[v, .string s, .string e, .int .i64 n] w λx w'=>x = .returned (.bool true)/\Below w.heap.size w w':=by
 have HS:=bx hS;have jE:=bx hv;obtain⟨x1,z1,x2,z2,x3,z3,x4,z4,x5,z5,x6,z6,x7,z7,rfl⟩:=hv.slices;clear hv;generalize g.t.p.1.length=y1,g.t.p.2.length=y2,g.t.r.length=y3,g.t.m.1.length=y4,g.t.m.2.length=y5,g.w.p.1.length=y6,g.w.p.2.length=y7,g.t.n=nt,g.w.wide=wb,g.k=gk at jE ⊢;have jq:=bx (λW=>wI s 60 60 W rfl hzs (by decide));have nD:=bx (xR s 60);generalize qG s 60=cs at jq nD;clear hzs;have xk:=bx (λW=>wI e 20 20 W rfl hze (by decide));have BJ:=bx (xR e 20);generalize qG e 20=ce at xk BJ;clear hze;obtain⟨V,hV⟩:∃ V,V=w.alloc (.cells #[.int .i64 nt, .slice x1 y1 z1, .slice x2 y2 z2, .slice x3 y3 z3, .slice x4 y4 z4, .slice x5 y5 z5, .slice x6 y6 z6, .slice x7 y7 z7, .bool wb, .int .i64 gk] 35):=⟨_,rfl⟩
 have HB0:=bx (show Below w.heap.size w V by rw [hV];exact aO _ _);have nI:=bx (show Sep [Pc.blk w.heap.size 35 #[.int .i64 nt, .slice x1 y1 z1, .slice x2 y2 z2, .slice x3 y3 z3, .slice x4 y4 z4, .slice x5 y5 z5, .slice x6 y6 z6, .slice x7 y7 z7, .bool wb, .int .i64 gk],Pc.old w.heap.size w] V by rw [hV];exact(Sep.start w).bM _ _);have aU:=bx (show V.heap.size=w.heap.size+1 by rw [hV];simp);have HV:=bx hV;clear hS hV
 go_enter Tryz.func5,Tryz.ntmps5
 go_wp2_with fail;rw [<- HV.o];refine(Bd A B V (HS.o.below HB0.o)).mono ?_;rintro e w1 ⟨rfl,hb1⟩;have HB1:=bx (bT HB0.o hb1);have jr:=bx (nI.o.below hb1);have bG:=bx (show w.heap.size<w1.heap.size by have:=aU.o;have:=hb1.size;omega);clear hb1 HV;have hk:=jr.o.blk 0 rfl;have e0:=(hk.cell 0).trans (show _=some (Value.int .i64 nt) from rfl);have e1:=(hk.cell 1).trans (show _=some (Value.slice x1 y1 z1) from rfl);have e2:=(hk.cell 2).trans (show _=some (Value.slice x2 y2 z2) from rfl);have e3:=(hk.cell 3).trans (show _=some (Value.slice x3 y3 z3) from rfl);have e4:=(hk.cell 4).trans (show _=some (Value.slice x4 y4 z4) from rfl);have e5:=(hk.cell 5).trans (show _=some (Value.slice x5 y5 z5) from rfl);have e6:=(hk.cell 6).trans (show _=some (Value.slice x6 y6 z6) from rfl);have e7:=(hk.cell 7).trans (show _=some (Value.slice x7 y7 z7) from rfl);have e8:=(hk.cell 8).trans (show _=some (Value.bool wb) from rfl);have e9:=(hk.cell 9).trans (show _=some (Value.int .i64 gk) from rfl);have el:=hk.lt;clear hk;have bD:=bx (Ce _ g w w1 jE.o HB1.o);go_wp2_with fail;refine bD.o.mono ?_;rintro e w2 ⟨hb2,v',rfl,dG⟩;clear e0 e1 e2 e3 e4 e5 e6 e7 e8 e9 el;have HB2:=bx (bT HB1.o hb2);have iK:=bx (jr.o.below hb2);obtain⟨p1,r1,p2,r2,p3,r3,p4,r4,p5,r5,p6,r6,p7,r7,rfl⟩:=(dG w2 (Turns.refl _ _) HB2.o).slices;have dL:=bx (Aj g.t);have eP:=bx (Bv g.w);obtain⟨G,hG⟩:∃ G,G=zI g:=⟨_,rfl⟩
 have dL:=bx (show dZ G.t by rw [hG];exact dL.o);have eP:=bx (show fF G.w by rw [hG];exact eP.o);rw [<- hG] at dG ⊢;clear hb2 hG;obtain⟨gj,hgj⟩:∃ k,k=G.k:=⟨_,rfl⟩
 rw [<- hgj] at dG ⊢;have mW:=bx hgj;clear hgj;generalize G.t.p.1.length=q1,G.t.p.2.length=q2,G.t.r.length=q3,G.t.m.1.length=q4,G.t.m.2.length=q5,G.w.p.1.length=q6,G.w.p.2.length=q7,G.t.n=nu,G.w.wide=we at dG ⊢;have nM:=bx dG;clear dG bD;have hk:=iK.o.blk 0 rfl;have e0:=(hk.cell 0).trans (show _=some (Value.int .i64 nt) from rfl);have f0:=hk.frozen 0;have e1:=(hk.cell 1).trans (show _=some (Value.slice x1 y1 z1) from rfl);have f1:=hk.frozen 1;have e2:=(hk.cell 2).trans (show _=some (Value.slice x2 y2 z2) from rfl);have f2:=hk.frozen 2;have e3:=(hk.cell 3).trans (show _=some (Value.slice x3 y3 z3) from rfl);have f3:=hk.frozen 3;have e4:=(hk.cell 4).trans (show _=some (Value.slice x4 y4 z4) from rfl);have f4:=hk.frozen 4;have e5:=(hk.cell 5).trans (show _=some (Value.slice x5 y5 z5) from rfl);have f5:=hk.frozen 5;have e6:=(hk.cell 6).trans (show _=some (Value.slice x6 y6 z6) from rfl);have f6:=hk.frozen 6;have e7:=(hk.cell 7).trans (show _=some (Value.slice x7 y7 z7) from rfl);have f7:=hk.frozen 7;have e8:=(hk.cell 8).trans (show _=some (Value.bool wb) from rfl);have f8:=hk.frozen 8;have e9:=(hk.cell 9).trans (show _=some (Value.int .i64 gk) from rfl);have f9:=hk.frozen 9;have el:=hk.lt;clear hk;have S1:=bx (show Sep [Pc.blk w.heap.size 35 #[.int .i64 nu, .slice x1 y1 z1, .slice x2 y2 z2, .slice x3 y3 z3, .slice x4 y4 z4, .slice x5 y5 z5, .slice x6 y6 z6, .slice x7 y7 z7, .bool wb, .int .i64 gk],Pc.old w.heap.size w] _ from iK.o.set 0 rfl 0 (.int .i64 nu));have S2:=bx (show Sep [Pc.blk w.heap.size 35 #[.int .i64 nu, .slice p1 q1 r1, .slice x2 y2 z2, .slice x3 y3 z3, .slice x4 y4 z4, .slice x5 y5 z5, .slice x6 y6 z6, .slice x7 y7 z7, .bool wb, .int .i64 gk],Pc.old w.heap.size w] _ from S1.o.set 0 rfl 1 (.slice p1 q1 r1));have S3:=bx (show Sep [Pc.blk w.heap.size 35 #[.int .i64 nu, .slice p1 q1 r1, .slice p2 q2 r2, .slice x3 y3 z3, .slice x4 y4 z4, .slice x5 y5 z5, .slice x6 y6 z6, .slice x7 y7 z7, .bool wb, .int .i64 gk],Pc.old w.heap.size w] _ from S2.o.set 0 rfl 2 (.slice p2 q2 r2));have S4:=bx (show Sep [Pc.blk w.heap.size 35 #[.int .i64 nu, .slice p1 q1 r1, .slice p2 q2 r2, .slice p3 q3 r3, .slice x4 y4 z4, .slice x5 y5 z5, .slice x6 y6 z6, .slice x7 y7 z7, .bool wb, .int .i64 gk],Pc.old w.heap.size w] _ from S3.o.set 0 rfl 3 (.slice p3 q3 r3));have S5:=bx (show Sep [Pc.blk w.heap.size 35 #[.int .i64 nu, .slice p1 q1 r1, .slice p2 q2 r2, .slice p3 q3 r3, .slice p4 q4 r4, .slice x5 y5 z5, .slice x6 y6 z6, .slice x7 y7 z7, .bool wb, .int .i64 gk],Pc.old w.heap.size w] _ from S4.o.set 0 rfl 4 (.slice p4 q4 r4));have S6:=bx (show Sep [Pc.blk w.heap.size 35 #[.int .i64 nu, .slice p1 q1 r1, .slice p2 q2 r2, .slice p3 q3 r3, .slice p4 q4 r4, .slice p5 q5 r5, .slice x6 y6 z6, .slice x7 y7 z7, .bool wb, .int .i64 gk],Pc.old w.heap.size w] _ from S5.o.set 0 rfl 5 (.slice p5 q5 r5));have S7:=bx (show Sep [Pc.blk w.heap.size 35 #[.int .i64 nu, .slice p1 q1 r1, .slice p2 q2 r2, .slice p3 q3 r3, .slice p4 q4 r4, .slice p5 q5 r5, .slice p6 q6 r6, .slice x7 y7 z7, .bool wb, .int .i64 gk],Pc.old w.heap.size w] _ from S6.o.set 0 rfl 6 (.slice p6 q6 r6));have S8:=bx (show Sep [Pc.blk w.heap.size 35 #[.int .i64 nu, .slice p1 q1 r1, .slice p2 q2 r2, .slice p3 q3 r3, .slice p4 q4 r4, .slice p5 q5 r5, .slice p6 q6 r6, .slice p7 q7 r7, .bool wb, .int .i64 gk],Pc.old w.heap.size w] _ from S7.o.set 0 rfl 7 (.slice p7 q7 r7));have S9:=bx (show Sep [Pc.blk w.heap.size 35 #[.int .i64 nu, .slice p1 q1 r1, .slice p2 q2 r2, .slice p3 q3 r3, .slice p4 q4 r4, .slice p5 q5 r5, .slice p6 q6 r6, .slice p7 q7 r7, .bool we, .int .i64 gk],Pc.old w.heap.size w] _ from S8.o.set 0 rfl 8 (.bool we));have lV:=bx (show Sep [Pc.blk w.heap.size 35 #[.int .i64 nu, .slice p1 q1 r1, .slice p2 q2 r2, .slice p3 q3 r3, .slice p4 q4 r4, .slice p5 q5 r5, .slice p6 q6 r6, .slice p7 q7 r7, .bool we, .int .i64 gj],Pc.old w.heap.size w] _ from S9.o.set 0 rfl 9 (.int .i64 gj));have HT0:=bx (Turns.refl (λq=>q=w.heap.size) w2);have U1:=bx (aZ HT0.o (p:=⟨w.heap.size,0,none⟩) rfl (.int .i64 nu));have U2:=bx (aZ U1.o (p:=⟨w.heap.size,1,none⟩) rfl (.slice p1 q1 r1));have U3:=bx (aZ U2.o (p:=⟨w.heap.size,2,none⟩) rfl (.slice p2 q2 r2));have U4:=bx (aZ U3.o (p:=⟨w.heap.size,3,none⟩) rfl (.slice p3 q3 r3));have U5:=bx (aZ U4.o (p:=⟨w.heap.size,4,none⟩) rfl (.slice p4 q4 r4));have U6:=bx (aZ U5.o (p:=⟨w.heap.size,5,none⟩) rfl (.slice p5 q5 r5));have U7:=bx (aZ U6.o (p:=⟨w.heap.size,6,none⟩) rfl (.slice p6 q6 r6));have U8:=bx (aZ U7.o (p:=⟨w.heap.size,7,none⟩) rfl (.slice p7 q7 r7));have U9:=bx (aZ U8.o (p:=⟨w.heap.size,8,none⟩) rfl (.bool we));have mM:=bx (aZ U9.o (p:=⟨w.heap.size,9,none⟩) rfl (.int .i64 gj));have gI:=lV;have HT3:=mM;clear S1 S2 S3 S4 S5 S6 S7 S8 S9 lV HT0 U1 U2 U3 U4 U5 U6 U7 U8 U9 mM
 go_upto_region 3 with(fail)
 generalize ((((((((((w2.setCell ⟨w.heap.size,0,none⟩ (.int .i64 nu)).setCell ⟨w.heap.size,1,none⟩ (.slice p1 q1 r1)).setCell ⟨w.heap.size,2,none⟩ (.slice p2 q2 r2)).setCell ⟨w.heap.size,3,none⟩ (.slice p3 q3 r3)).setCell ⟨w.heap.size,4,none⟩ (.slice p4 q4 r4)).setCell ⟨w.heap.size,5,none⟩ (.slice p5 q5 r5)).setCell ⟨w.heap.size,6,none⟩ (.slice p6 q6 r6)).setCell ⟨w.heap.size,7,none⟩ (.slice p7 q7 r7)).setCell ⟨w.heap.size,8,none⟩ (.bool we)).setCell ⟨w.heap.size,9,none⟩ (.int .i64 gj))=w3 at gI HT3 ⊢;clear e0 f0 e1 f1 e2 f2 e3 f3 e4 f4 e5 f5 e6 f6 e7 f7 e8 f8 e9 f9 el;have HB3:=bx (gI.o.bel (n:=w.heap.size) (W0:=w) (by simp));have dN:=bx (show dR w3 (.agg #[.int .i64 nu, .slice p1 q1 r1, .slice p2 q2 r2, .slice p3 q3 r3, .slice p4 q4 r4, .slice p5 q5 r5, .slice p6 q6 r6, .slice p7 q7 r7, .bool we, .int .i64 gj]) G from nM.o w3 (HT3.o.mono (λk hk=>by have:=bG.o;omega)) HB3.o);have aC:=bx (HS.o.below HB3.o);have ay:=bx (λW (h:Below w3.heap.size w3 W)=>(gI.o.blk 0 rfl).c10 h);clear nI jr iK gI HT3 nM HB0 HB1 HB2 aU jE HS bG;go_wp2_with fail;refine(jq.o _).mono ?_;rintro ex w3' ⟨rfl,rfl⟩;clear jq;go_wp2_with fail;refine(xk.o _).mono ?_;rintro ex w3' ⟨rfl,rfl⟩;clear xk;have hcs:cs.size<=60:=nD.o;have hce:ce.size<=20:=BJ.o;have jg:=bx (λW (h:Below w3.heap.size w3 W)=>(dN.o.below h).parts.1);have X4:=bx (λW (h:Below w3.heap.size w3 W)=>Gi A B _ G cs ce n W (dN.o.below h) dL.o eP.o (by omega) (by omega) (aC.o.below h).e (aC.o.below h).d (aC.o.below h).g (aC.o.below h).le)
 rcases ai5 (g:=G) (s:=cs.data.toList) (e:=ce.data.toList) (n:=n) (by rw [<- size_eq];omega) (by rw [<- size_eq];omega) with⟨hw,he⟩ | ⟨K,hw,he,hgb,hk1,hia,hme⟩
 ·have X4:=bx (λW h=>show Calls Tryz.prog 13 #[.agg #[.int .i64 nu, .slice p1 q1 r1, .slice p2 q2 r2, .slice p3 q3 r3, .slice p4 q4 r4, .slice p5 q5 r5, .slice p6 q6 r6, .slice p7 q7 r7, .bool we, .int .i64 gj], .string cs, .string ce, .int .i64 n] W λen w'=>en = .returned (.tuple #[.int .i64 0, .bool false, .int .i64 (C.jI G cs.data.toList ce.data.toList)])/\Below W.heap.size W w' from by
   have h9:=X4.o W h;rw [hw] at h9;exact h9)
  rcases he with he | he
  ·rw [he] at X4;clear hw he hcs hce;obtain⟨e0,e1,e2,e3,e4,e5,e6,e7,e8,e9,el⟩:=ay.o w3 (Below.refl _ w3);go_wp2_with fail;refine(X4.o w3 (Below.refl _ w3)).mono ?_;rintro ex w4 ⟨rfl,hb4⟩;clear e0 e1 e2 e3 e4 e5 e6 e7 e8 e9 el;have HB4:=bx (bT (Below.refl _ w3) hb4);clear hb4;go_wp2_with fail;go_ret
   exact⟨rfl,bT HB3.o HB4.o⟩
  ·rw [he] at X4;clear hw he hcs hce;obtain⟨e0,e1,e2,e3,e4,e5,e6,e7,e8,e9,el⟩:=ay.o w3 (Below.refl _ w3);go_wp2_with fail;refine(X4.o w3 (Below.refl _ w3)).mono ?_;rintro ex w4 ⟨rfl,hb4⟩;clear e0 e1 e2 e3 e4 e5 e6 e7 e8 e9 el;have HB4:=bx (bT (Below.refl _ w3) hb4);clear hb4;go_wp2_with fail;go_ret
   exact⟨rfl,bT HB3.o HB4.o⟩
 ·have hge:=C.jL (s:=cs.data.toList) hgb (by rw [<- size_eq];omega);have hte:=C.nC (s:=cs.data.toList) hgb (by rw [<- size_eq];omega);have hf1:=C.sG ce.data.toList;have hf2:=C.Jd G cs.data.toList hge K;rw [<- size_eq] at hf1 hf2;have hal:(C.headA G.t cs.data.toList K++M.fix ce.data.toList).length<=240:=by
   rw [List.length_append];unfold C.headA;omega
  have hga:=C.jL (s:=C.headA G.t cs.data.toList K++M.fix ce.data.toList) hgb (by omega);have hta:=C.nC (s:=C.headA G.t cs.data.toList K++M.fix ce.data.toList) hgb (by omega);have X4:=bx (λW h=>show Calls Tryz.prog 13 #[.agg #[.int .i64 nu, .slice p1 q1 r1, .slice p2 q2 r2, .slice p3 q3 r3, .slice p4 q4 r4, .slice p5 q5 r5, .slice p6 q6 r6, .slice p7 q7 r7, .bool we, .int .i64 gj], .string cs, .string ce, .int .i64 n] W λen w'=>en = .returned (.tuple #[.int .i64 (K:Nat), .bool true, .int .i64 0])/\Below W.heap.size W w' from by
   have h9:=X4.o W h;rw [hw,he] at h9;exact h9)
  have XC:=bx (λW (h:Below w3.heap.size w3 W)=>Jt A B _ G.t cs W (jg.o W h) dL.o (by omega) (aC.o.below h).e (aC.o.below h).d (aC.o.below h).g (aC.o.below h).le hte);have X7:=bx (λW (h:Below w3.heap.size w3 W)=>show Calls Tryz.prog 20 #[.string ce] W λe' w'=>e' = .returned (.string (bs (M.fix ce.data.toList)))/\Below W.heap.size W w' from NT A B ce W (by omega) (aC.o.below h).e (aC.o.below h).le);have X8:=bx (λW (h:Below w3.heap.size w3 W)=>Dh A B _ G (bs (C.headA G.t cs.data.toList K++M.fix ce.data.toList)) W (dN.o.below h) dL.o eP.o (by rw [eU];omega) (aC.o.below h).e (aC.o.below h).d (aC.o.below h).g (aC.o.below h).le);have X9:=bx (λW (h:Below w3.heap.size w3 W)=>abw A B _ G.t (bs (C.headA G.t cs.data.toList K++M.fix ce.data.toList)) ((C.headA G.t cs.data.toList K).length:Int) W (jg.o W h) dL.o (by rw [eU];omega) (aC.o.below h).e (aC.o.below h).d (aC.o.below h).g (aC.o.below h).le (by rw [qP];exact hta));rw [qP,hga] at X8;rw [qP,hia] at X9;have HH0:=bx (show C.headA G.t cs.data.toList 0=[] by unfold C.headA;rw [List.take_zero];rfl);have EX:=bx (λ(k:Nat) (x:List UInt8) (hx:(C.cZ G.t cs.data.toList)[k]?=some x)=>C.QL G.t cs.data.toList hx);have Jq:=bx (λk=>show (C.headA G.t cs.data.toList k).length<=1000 from Nat.le_trans (C.Jd G cs.data.toList hge k) (by rw [<- size_eq];omega));have hmd:=decide_eq_true hme;generalize C.eG G (C.headA G.t cs.data.toList K++M.fix ce.data.toList)=M0 at X8 hmd;generalize C.headA G.t cs.data.toList=hd at X8 X9 HH0 EX Jq hal;generalize C.cZ G.t cs.data.toList=cl at XC EX hk1;generalize M.fix ce.data.toList=fe at X7 X8 X9 hal;have HMD:=bx hmd;have iI:=bx hal;obtain⟨Q,hQ⟩:∃ Q,cl.length=Q:=⟨_,rfl⟩
  have HQ:=bx hQ;rw [hQ] at hk1;clear hgb hge hte hcs hce hQ hf1 hf2 hga hta hia hme hw he hmd hal;obtain⟨e0,e1,e2,e3,e4,e5,e6,e7,e8,e9,el⟩:=ay.o w3 (Below.refl _ w3);go_wp2_with fail;refine(X4.o w3 (Below.refl _ w3)).mono ?_;rintro ex w4 ⟨rfl,hb4⟩;clear e0 e1 e2 e3 e4 e5 e6 e7 e8 e9 el;have HB4:=bx (bT (Below.refl _ w3) hb4);clear hb4;obtain⟨e0,e1,e2,e3,e4,e5,e6,e7,e8,e9,el⟩:=ay.o w4 HB4.o;go_wp2_with fail;refine(XC.o w4 HB4.o).mono ?_;rintro ex w5 ⟨⟨vl,rfl,hvl,-⟩,hb5⟩;clear e0 e1 e2 e3 e4 e5 e6 e7 e8 e9 el;have aK:=bx (bT HB4.o hb5);obtain⟨la,lc,rfl,-⟩:=hvl.slice;rw [HQ.o] at hvl ⊢;clear hb5;obtain⟨cg,dK,hla,hcs2⟩:∃ cg dK,(0<Q->la=some ⟨cg,dK,none⟩/\Q<=lc/\lc<=maxLen/\cg<w5.heap.size)/\∀ (i:Nat) (x:List UInt8),cl[i]?=some x->w5.cell? ⟨cg,dK+i,none⟩=some (.string (bs x)):=by
   by_cases h0:Q=0
   ·refine⟨0,0,λh=>absurd h (by omega),λi x hx=>?_⟩;have h9:=(List.getElem?_eq_some_iff.1 hx).1;rw [HQ.o] at h9;omega
   ·obtain⟨b,off,cap,e1,e2,e3,e4,e5⟩:=hvl.get (by intro h;have h9:=congrArg List.length h;rw [HQ.o,List.length_nil] at h9;omega);rw [HQ.o] at e1 e2;injection e1 with f1 f2 f3;subst f1 f3;exact⟨b,off,λ_=>⟨rfl,e2,e3,e4⟩,λi x hx=>e5 i x hx⟩
  have BQ:=bx hcs2;have zJ:=bx hla;clear hcs2 hla hvl;have d1:decide ((K:Int)<0)=false:=decide_eq_false (by omega);have d2:decide ((Q:Int)<(K:Int))=false:=decide_eq_false (by omega);go_wp2_with fail;clear d1 d2
  go_loopw [15,16] (λp i wr=>∃ k:Nat,k<=K/\p = .string (bs (hd k))/\i = .int .i64 k/\w5=wr) (λ_ i _=>K-(intOf i).toNat)
  case atStart=>exact⟨0,by omega,by rw [HH0.o];rfl,rfl,rfl⟩
  case round =>
   obtain⟨k,hk,rfl,rfl,rfl⟩:=hrel
   by_cases hlt:k<K
   ·obtain⟨x,hx⟩:∃ x,cl[k]?=some x:=⟨_,List.getElem?_eq_getElem (by rw [HQ.o];omega)⟩
    have cx:=BQ.o k x hx;have IG:=bx (KC (hd k) x);have Ik:=bx (EX.o k x hx);have e8:decide ((k:Int)<(K:Int))=true:=decide_eq_true (by omega);have EG:k<Q:=by omega
    obtain⟨rfl,hl1,hl2,hl3⟩:=zJ.o (by omega);unfold maxLen at hl2;have hap:=IG.o;rw [<- Ik.o] at hap;have hsm:(bs (hd k)).size+(bs x).size<=1000:=by
     have h1:=Jq.o (k+1);rw [Ik.o,List.length_append] at h1;rw [eU,eU];exact h1
    clear hx;go_wp2_with fail
    go_roundw
    case rel=>exact⟨k+1,by omega,rfl,by go_num,trivial⟩
    case measure=>simp [intOf];omega
   ·obtain rfl:k=K:=by omega
    have e8:decide ((k:Int)<(k:Int))=false:=decide_eq_false (by omega);go_wp2_with fail;refine(X7.o w5 aK.o).mono ?_;rintro ex w6 ⟨rfl,hb6⟩;have dO:=bx (bT aK.o hb6);clear hb6;have hap:=KC (hd k) fe;have hsh:=eU (hd k);have hsm:(bs (hd k)).size+(bs fe).size<=240:=by
     have h1:=iI.o;rw [List.length_append] at h1;rw [eU,eU];exact h1
    obtain⟨e0,e1,e2,e3,e4,e5,e6,e7,e8,e9,el⟩:=ay.o w6 dO.o;go_wp2_with fail
    try rw [hap]
    refine(X8.o w6 dO.o).mono ?_;rintro ex w7 ⟨rfl,hb7⟩;clear e0 e1 e2 e3 e4 e5 e6 e7 e8 e9 el;have bW:=bx (bT dO.o hb7);clear hb7;obtain⟨e0,e1,e2,e3,e4,e5,e6,e7,e8,e9,el⟩:=ay.o w7 bW.o;go_wp2_with fail
    try rw [hap]
    try rw [hsh]
    refine(X9.o w7 bW.o).mono ?_;rintro ex w8 ⟨rfl,hb8⟩;clear e0 e1 e2 e3 e4 e5 e6 e7 e8 e9 el;have eF:=bx (bT bW.o hb8);clear hb8;have hmd:=HMD.o;go_wp2_with fail;go_ret
    exact⟨rfl,bT HB3.o eF.o⟩
end
end Go.Proofs.YtdenoeakcflnmaaGreatDoor
