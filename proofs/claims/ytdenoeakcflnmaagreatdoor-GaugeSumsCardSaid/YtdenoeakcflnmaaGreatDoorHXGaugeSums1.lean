/- Texts of this claim. -/
import Derived.Test.YtdenoeakcflnmaaGreatDoorH24

set_option maxRecDepth 100000
set_option maxHeartbeats 16000000
namespace Go.Proofs.YtdenoeakcflnmaaGreatDoor
namespace C
open Go.Proofs.YtdenoeakcflnmaaGreatDoor
theorem uZ (g:Ga) (ls:List (List Int)):(marks g ls).length=ls.length+1:=by unfold marks;rw [List.length_map,List.length_range]
end C
namespace C
open Go.Proofs.YtdenoeakcflnmaaGreatDoor
theorem vC (g:Ga) (ls:List (List Int)) {i:Nat} (h:i<=ls.length):(marks g ls)[i]?=some (aS g ls i):=by
 unfold marks;rw [List.getElem?_map,List.getElem?_range (by omega)]
 rfl
end C
section
open Go.RowKit
attribute [local go_sem] Oper.semAt_some
theorem dR.parts {w:World} {tn pi pb rv nv fv iv bv wb gk:Value} {g:C.Ga} (h:dR w (.agg #[tn,pi,pb,rv,nv,fv,iv,bv,wb,gk]) g):TabAt w (.agg #[tn,pi,pb,rv,nv,fv]) g.t/\WideAt w (.agg #[iv,bv,wb]) g.w:=by
 obtain⟨_,_,_,_,_,_,_,h1,h2,h3⟩:=h;injection h1 with h1;simp only [Array.mk.injEq,List.cons.injEq] at h1;obtain⟨rfl,rfl,rfl,rfl,rfl,rfl,rfl,rfl,rfl,-⟩:=h1;exact⟨h2,h3⟩
theorem DT {g:C.Ga} {s:List UInt8} (h:s.length<=2000):(C.bF g=false/\C.bJ g s=150)\/(C.bF g=true/\C.bJ g s=0/\textE g.t s=0):=by
 cases hg:C.bF g with
 | false =>
  refine .inl ⟨rfl,?_⟩;unfold C.bJ;rw [if_pos hg]
 | true=>exact .inr ⟨rfl,C.jL hg h,C.nC hg h⟩
theorem akb (A:Nat->Addr) (B:Nat) (v:Value) (g:C.Ga) (s:ByteArray) (w:World) (hv:dR w v g) (hzs:s.size<=9223372036854775807) (hS:Sw A B w) :
  Calls Tryz.prog 4 #[v, .string s] w λx w'=>x = .returned (.bool true)/\Below w.heap.size w w':=by
 have HS:=bx hS;have jE:=bx hv;obtain⟨x1,z1,x2,z2,x3,z3,x4,z4,x5,z5,x6,z6,x7,z7,rfl⟩:=hv.slices;clear hv;generalize g.t.p.1.length=y1,g.t.p.2.length=y2,g.t.r.length=y3,g.t.m.1.length=y4,g.t.m.2.length=y5,g.w.p.1.length=y6,g.w.p.2.length=y7,g.t.n=nt,g.w.wide=wb,g.k=gk at jE ⊢;have jq:=bx (λW=>wI s 120 120 W rfl hzs (by decide));have nD:=bx (xR s 120);generalize qG s 120=cs at jq nD;clear hzs;obtain⟨V,hV⟩:∃ V,V=w.alloc (.cells #[.int .i64 nt, .slice x1 y1 z1, .slice x2 y2 z2, .slice x3 y3 z3, .slice x4 y4 z4, .slice x5 y5 z5, .slice x6 y6 z6, .slice x7 y7 z7, .bool wb, .int .i64 gk] 35):=⟨_,rfl⟩
 have HB0:=bx (show Below w.heap.size w V by rw [hV];exact aO _ _);have nI:=bx (show Sep [Pc.blk w.heap.size 35 #[.int .i64 nt, .slice x1 y1 z1, .slice x2 y2 z2, .slice x3 y3 z3, .slice x4 y4 z4, .slice x5 y5 z5, .slice x6 y6 z6, .slice x7 y7 z7, .bool wb, .int .i64 gk],Pc.old w.heap.size w] V by rw [hV];exact(Sep.start w).bM _ _);have aU:=bx (show V.heap.size=w.heap.size+1 by rw [hV];simp);have HV:=bx hV;clear hS hV
 go_enter Tryz.func4,Tryz.ntmps4
 go_wp2_with fail;rw [<- HV.o];refine(Bd A B V (HS.o.below HB0.o)).mono ?_;rintro e w1 ⟨rfl,hb1⟩;have HB1:=bx (bT HB0.o hb1);have jr:=bx (nI.o.below hb1);have bG:=bx (show w.heap.size<w1.heap.size by have:=aU.o;have:=hb1.size;omega);clear hb1 HV;have hk:=jr.o.blk 0 rfl;have e0:=(hk.cell 0).trans (show _=some (Value.int .i64 nt) from rfl);have e1:=(hk.cell 1).trans (show _=some (Value.slice x1 y1 z1) from rfl);have e2:=(hk.cell 2).trans (show _=some (Value.slice x2 y2 z2) from rfl);have e3:=(hk.cell 3).trans (show _=some (Value.slice x3 y3 z3) from rfl);have e4:=(hk.cell 4).trans (show _=some (Value.slice x4 y4 z4) from rfl);have e5:=(hk.cell 5).trans (show _=some (Value.slice x5 y5 z5) from rfl);have e6:=(hk.cell 6).trans (show _=some (Value.slice x6 y6 z6) from rfl);have e7:=(hk.cell 7).trans (show _=some (Value.slice x7 y7 z7) from rfl);have e8:=(hk.cell 8).trans (show _=some (Value.bool wb) from rfl);have e9:=(hk.cell 9).trans (show _=some (Value.int .i64 gk) from rfl);have el:=hk.lt;clear hk;have bD:=bx (Ce _ g w w1 jE.o HB1.o);go_wp2_with fail;refine bD.o.mono ?_;rintro e w2 ⟨hb2,v',rfl,dG⟩;clear e0 e1 e2 e3 e4 e5 e6 e7 e8 e9 el;have HB2:=bx (bT HB1.o hb2);have iK:=bx (jr.o.below hb2);obtain⟨p1,r1,p2,r2,p3,r3,p4,r4,p5,r5,p6,r6,p7,r7,rfl⟩:=(dG w2 (Turns.refl _ _) HB2.o).slices;have dL:=bx (Aj g.t);have eP:=bx (Bv g.w);obtain⟨G,hG⟩:∃ G,G=zI g:=⟨_,rfl⟩
 have dL:=bx (show dZ G.t by rw [hG];exact dL.o);have eP:=bx (show fF G.w by rw [hG];exact eP.o);rw [<- hG] at dG ⊢;clear hb2 hG;obtain⟨gj,hgj⟩:∃ k,k=G.k:=⟨_,rfl⟩
 rw [<- hgj] at dG ⊢;have mW:=bx hgj;clear hgj;generalize G.t.p.1.length=q1,G.t.p.2.length=q2,G.t.r.length=q3,G.t.m.1.length=q4,G.t.m.2.length=q5,G.w.p.1.length=q6,G.w.p.2.length=q7,G.t.n=nu,G.w.wide=we at dG ⊢;have nM:=bx dG;clear dG bD;have hk:=iK.o.blk 0 rfl;have e0:=(hk.cell 0).trans (show _=some (Value.int .i64 nt) from rfl);have f0:=hk.frozen 0;have e1:=(hk.cell 1).trans (show _=some (Value.slice x1 y1 z1) from rfl);have f1:=hk.frozen 1;have e2:=(hk.cell 2).trans (show _=some (Value.slice x2 y2 z2) from rfl);have f2:=hk.frozen 2;have e3:=(hk.cell 3).trans (show _=some (Value.slice x3 y3 z3) from rfl);have f3:=hk.frozen 3;have e4:=(hk.cell 4).trans (show _=some (Value.slice x4 y4 z4) from rfl);have f4:=hk.frozen 4;have e5:=(hk.cell 5).trans (show _=some (Value.slice x5 y5 z5) from rfl);have f5:=hk.frozen 5;have e6:=(hk.cell 6).trans (show _=some (Value.slice x6 y6 z6) from rfl);have f6:=hk.frozen 6;have e7:=(hk.cell 7).trans (show _=some (Value.slice x7 y7 z7) from rfl);have f7:=hk.frozen 7;have e8:=(hk.cell 8).trans (show _=some (Value.bool wb) from rfl);have f8:=hk.frozen 8;have e9:=(hk.cell 9).trans (show _=some (Value.int .i64 gk) from rfl);have f9:=hk.frozen 9;have el:=hk.lt;clear hk;have S1:=bx (show Sep [Pc.blk w.heap.size 35 #[.int .i64 nu, .slice x1 y1 z1, .slice x2 y2 z2, .slice x3 y3 z3, .slice x4 y4 z4, .slice x5 y5 z5, .slice x6 y6 z6, .slice x7 y7 z7, .bool wb, .int .i64 gk],Pc.old w.heap.size w] _ from iK.o.set 0 rfl 0 (.int .i64 nu));have S2:=bx (show Sep [Pc.blk w.heap.size 35 #[.int .i64 nu, .slice p1 q1 r1, .slice x2 y2 z2, .slice x3 y3 z3, .slice x4 y4 z4, .slice x5 y5 z5, .slice x6 y6 z6, .slice x7 y7 z7, .bool wb, .int .i64 gk],Pc.old w.heap.size w] _ from S1.o.set 0 rfl 1 (.slice p1 q1 r1));have S3:=bx (show Sep [Pc.blk w.heap.size 35 #[.int .i64 nu, .slice p1 q1 r1, .slice p2 q2 r2, .slice x3 y3 z3, .slice x4 y4 z4, .slice x5 y5 z5, .slice x6 y6 z6, .slice x7 y7 z7, .bool wb, .int .i64 gk],Pc.old w.heap.size w] _ from S2.o.set 0 rfl 2 (.slice p2 q2 r2));have S4:=bx (show Sep [Pc.blk w.heap.size 35 #[.int .i64 nu, .slice p1 q1 r1, .slice p2 q2 r2, .slice p3 q3 r3, .slice x4 y4 z4, .slice x5 y5 z5, .slice x6 y6 z6, .slice x7 y7 z7, .bool wb, .int .i64 gk],Pc.old w.heap.size w] _ from S3.o.set 0 rfl 3 (.slice p3 q3 r3));have S5:=bx (show Sep [Pc.blk w.heap.size 35 #[.int .i64 nu, .slice p1 q1 r1, .slice p2 q2 r2, .slice p3 q3 r3, .slice p4 q4 r4, .slice x5 y5 z5, .slice x6 y6 z6, .slice x7 y7 z7, .bool wb, .int .i64 gk],Pc.old w.heap.size w] _ from S4.o.set 0 rfl 4 (.slice p4 q4 r4));have S6:=bx (show Sep [Pc.blk w.heap.size 35 #[.int .i64 nu, .slice p1 q1 r1, .slice p2 q2 r2, .slice p3 q3 r3, .slice p4 q4 r4, .slice p5 q5 r5, .slice x6 y6 z6, .slice x7 y7 z7, .bool wb, .int .i64 gk],Pc.old w.heap.size w] _ from S5.o.set 0 rfl 5 (.slice p5 q5 r5));have S7:=bx (show Sep [Pc.blk w.heap.size 35 #[.int .i64 nu, .slice p1 q1 r1, .slice p2 q2 r2, .slice p3 q3 r3, .slice p4 q4 r4, .slice p5 q5 r5, .slice p6 q6 r6, .slice x7 y7 z7, .bool wb, .int .i64 gk],Pc.old w.heap.size w] _ from S6.o.set 0 rfl 6 (.slice p6 q6 r6));have S8:=bx (show Sep [Pc.blk w.heap.size 35 #[.int .i64 nu, .slice p1 q1 r1, .slice p2 q2 r2, .slice p3 q3 r3, .slice p4 q4 r4, .slice p5 q5 r5, .slice p6 q6 r6, .slice p7 q7 r7, .bool wb, .int .i64 gk],Pc.old w.heap.size w] _ from S7.o.set 0 rfl 7 (.slice p7 q7 r7));have S9:=bx (show Sep [Pc.blk w.heap.size 35 #[.int .i64 nu, .slice p1 q1 r1, .slice p2 q2 r2, .slice p3 q3 r3, .slice p4 q4 r4, .slice p5 q5 r5, .slice p6 q6 r6, .slice p7 q7 r7, .bool we, .int .i64 gk],Pc.old w.heap.size w] _ from S8.o.set 0 rfl 8 (.bool we));have lV:=bx (show Sep [Pc.blk w.heap.size 35 #[.int .i64 nu, .slice p1 q1 r1, .slice p2 q2 r2, .slice p3 q3 r3, .slice p4 q4 r4, .slice p5 q5 r5, .slice p6 q6 r6, .slice p7 q7 r7, .bool we, .int .i64 gj],Pc.old w.heap.size w] _ from S9.o.set 0 rfl 9 (.int .i64 gj));have HT0:=bx (Turns.refl (λq=>q=w.heap.size) w2);have U1:=bx (aZ HT0.o (p:=⟨w.heap.size,0,none⟩) rfl (.int .i64 nu));have U2:=bx (aZ U1.o (p:=⟨w.heap.size,1,none⟩) rfl (.slice p1 q1 r1));have U3:=bx (aZ U2.o (p:=⟨w.heap.size,2,none⟩) rfl (.slice p2 q2 r2));have U4:=bx (aZ U3.o (p:=⟨w.heap.size,3,none⟩) rfl (.slice p3 q3 r3));have U5:=bx (aZ U4.o (p:=⟨w.heap.size,4,none⟩) rfl (.slice p4 q4 r4));have U6:=bx (aZ U5.o (p:=⟨w.heap.size,5,none⟩) rfl (.slice p5 q5 r5));have U7:=bx (aZ U6.o (p:=⟨w.heap.size,6,none⟩) rfl (.slice p6 q6 r6));have U8:=bx (aZ U7.o (p:=⟨w.heap.size,7,none⟩) rfl (.slice p7 q7 r7));have U9:=bx (aZ U8.o (p:=⟨w.heap.size,8,none⟩) rfl (.bool we));have mM:=bx (aZ U9.o (p:=⟨w.heap.size,9,none⟩) rfl (.int .i64 gj));have gI:=lV;have HT3:=mM;clear S1 S2 S3 S4 S5 S6 S7 S8 S9 lV HT0 U1 U2 U3 U4 U5 U6 U7 U8 U9 mM
 go_upto_region 3 with(fail)
 generalize ((((((((((w2.setCell ⟨w.heap.size,0,none⟩ (.int .i64 nu)).setCell ⟨w.heap.size,1,none⟩ (.slice p1 q1 r1)).setCell ⟨w.heap.size,2,none⟩ (.slice p2 q2 r2)).setCell ⟨w.heap.size,3,none⟩ (.slice p3 q3 r3)).setCell ⟨w.heap.size,4,none⟩ (.slice p4 q4 r4)).setCell ⟨w.heap.size,5,none⟩ (.slice p5 q5 r5)).setCell ⟨w.heap.size,6,none⟩ (.slice p6 q6 r6)).setCell ⟨w.heap.size,7,none⟩ (.slice p7 q7 r7)).setCell ⟨w.heap.size,8,none⟩ (.bool we)).setCell ⟨w.heap.size,9,none⟩ (.int .i64 gj))=w3 at gI HT3 ⊢;clear e0 f0 e1 f1 e2 f2 e3 f3 e4 f4 e5 f5 e6 f6 e7 f7 e8 f8 e9 f9 el;have HB3:=bx (gI.o.bel (n:=w.heap.size) (W0:=w) (by simp));have dN:=bx (show dR w3 (.agg #[.int .i64 nu, .slice p1 q1 r1, .slice p2 q2 r2, .slice p3 q3 r3, .slice p4 q4 r4, .slice p5 q5 r5, .slice p6 q6 r6, .slice p7 q7 r7, .bool we, .int .i64 gj]) G from nM.o w3 (HT3.o.mono (λk hk=>by have:=bG.o;omega)) HB3.o);have aC:=bx (HS.o.below HB3.o);have ay:=bx (λW (h:Below w3.heap.size w3 W)=>(gI.o.blk 0 rfl).c10 h);clear nI jr iK gI HT3 nM HB0 HB1 HB2 aU jE HS bG;go_wp2_with fail;refine(jq.o _).mono ?_;rintro ex w3' ⟨rfl,rfl⟩;clear jq;have hcs:cs.size<=120:=nD.o;have jg:=bx (λW (h:Below w3.heap.size w3 W)=>(dN.o.below h).parts.1);have X4:=bx (λW (h:Below w3.heap.size w3 W)=>Nz A B _ G cs W (dN.o.below h) dL.o eP.o (by omega) (aC.o.below h).e (aC.o.below h).d (aC.o.below h).g (aC.o.below h).le);have X5:=bx (λW (h:Below w3.heap.size w3 W)=>Dh A B _ G cs W (dN.o.below h) dL.o eP.o (by omega) (aC.o.below h).e (aC.o.below h).d (aC.o.below h).g (aC.o.below h).le);have XC:=bx (λW (h:Below w3.heap.size w3 W)=>λ(he:textE G.t cs.data.toList=0)=>Jt A B _ G.t cs W (jg.o W h) dL.o (by omega) (aC.o.below h).e (aC.o.below h).d (aC.o.below h).g (aC.o.below h).le he);have XR:=bx (λW (h:Below w3.heap.size w3 W)=>Nv A B _ G W (dN.o.below h) dL.o eP.o (aC.o.below h).d (aC.o.below h).g (aC.o.below h).le)
 rcases DT (g:=G) (s:=cs.data.toList) (by rw [<- size_eq];omega) with⟨hgb,hge⟩ | ⟨hgb,hge,hte⟩
 ·have HR:=bx (show C.eG G cs.data.toList=0 by unfold C.eG;rw [hge,if_neg (by decide)]);have HF:=bx (show C.jO G cs.data.toList=[] by unfold C.jO;rw [hge,if_neg (by decide)]);rw [hge] at X4 X5;rw [HF.o] at X4;rw [HR.o] at X5;rw [hgb] at XR;clear XC hcs hgb hge HR HF;obtain⟨e0,e1,e2,e3,e4,e5,e6,e7,e8,e9,el⟩:=ay.o w3 (Below.refl _ w3);go_wp2_with fail;refine(X4.o w3 (Below.refl _ w3)).mono ?_;rintro ex w4 ⟨⟨mv,rfl,hmv⟩,hb4⟩;clear e0 e1 e2 e3 e4 e5 e6 e7 e8 e9 el;have HB4:=bx (bT (Below.refl _ w3) hb4);obtain⟨ma,mc,rfl⟩:=hmv.slice;rw [List.length_nil];clear hmv;clear hb4;obtain⟨e0,e1,e2,e3,e4,e5,e6,e7,e8,e9,el⟩:=ay.o w4 HB4.o;go_wp2_with fail;refine(X5.o w4 HB4.o).mono ?_;rintro ex w5 ⟨rfl,hb5⟩;clear e0 e1 e2 e3 e4 e5 e6 e7 e8 e9 el;have aK:=bx (bT HB4.o hb5);clear hb5;obtain⟨e0,e1,e2,e3,e4,e5,e6,e7,e8,e9,el⟩:=ay.o w5 aK.o;go_wp2_with fail;refine(XR.o w5 aK.o).mono ?_;rintro ex w6 ⟨rfl,hb6⟩;clear e0 e1 e2 e3 e4 e5 e6 e7 e8 e9 el;have dO:=bx (bT aK.o hb6);clear hb6;go_wp2_with fail;go_ret
  exact⟨rfl,bT HB3.o dO.o⟩
 ·have HR:=bx (show C.eG G cs.data.toList=C.aS G (C.aH G.t cs.data.toList) (C.aH G.t cs.data.toList).length by unfold C.eG;rw [if_pos hge]);have HF:=bx (show C.jO G cs.data.toList=C.marks G (C.aH G.t cs.data.toList) by unfold C.jO;rw [if_pos hge]);rw [hge] at X4 X5;rw [HF.o] at X4;rw [HR.o] at X5;have XC:=bx (λW h=>XC.o W h hte);rw [C.Ei hge] at XC;have lJ:=bx (λi (h:i<=(C.aH G.t cs.data.toList).length)=>C.vC G (C.aH G.t cs.data.toList) h);have iO:=bx (C.uZ G (C.aH G.t cs.data.toList));have qZ:=bx (λk=>C.Qp G (C.aH G.t cs.data.toList) (show k<=k+1 from Nat.le_succ k));have HZ:=bx (C.FQ G (C.aH G.t cs.data.toList));have pG:(C.aH G.t cs.data.toList).length<=1000:=by
   rw [C.tq];have h1:=(iq G.t cs.data.toList).2.len;have h2:=lM cs.data.toList;rw [<- size_eq] at h2;omega
  clear HR HF hgb hge hte hcs XR;generalize C.marks G (C.aH G.t cs.data.toList)=ms at X4 lJ iO;generalize C.aS G (C.aH G.t cs.data.toList)=sn at X5 lJ qZ HZ;obtain⟨cl,hcl⟩:∃ cl,cl=(C.aH G.t cs.data.toList).map U.textOf:=⟨_,rfl⟩
  have HQ:=bx (show cl.length=(C.aH G.t cs.data.toList).length by rw [hcl,List.length_map]);rw [<- hcl] at XC;generalize (C.aH G.t cs.data.toList).length=Q at X5 lJ iO HQ pG;clear hcl;obtain⟨e0,e1,e2,e3,e4,e5,e6,e7,e8,e9,el⟩:=ay.o w3 (Below.refl _ w3);go_wp2_with fail;refine(X4.o w3 (Below.refl _ w3)).mono ?_;rintro ex w4 ⟨⟨mv,rfl,hmv⟩,hb4⟩;clear e0 e1 e2 e3 e4 e5 e6 e7 e8 e9 el;have HB4:=bx (bT (Below.refl _ w3) hb4);clear hb4;obtain⟨mg,mo,aof,e1,e2,e3,e4,e5⟩:=hmv.get (by intro h;have h2:=iO.o;rw [h] at h2;simp at h2);rw [iO.o] at e1 e2;subst e1;have kZ:=bx (show mg<w4.heap.size/\∀ i,i<=Q->w4.cell? ⟨mg,mo+i,none⟩=some (.int .i64 (sn i)) from⟨e4,λi hi=>e5 i (sn i) (lJ.o i hi)⟩);unfold maxLen at e3;clear hmv e4 e5;obtain⟨e0,e1,e2,e3,e4,e5,e6,e7,e8,e9,el⟩:=ay.o w4 HB4.o;go_wp2_with fail;refine(X5.o w4 HB4.o).mono ?_;rintro ex w5 ⟨rfl,hb5⟩;clear e0 e1 e2 e3 e4 e5 e6 e7 e8 e9 el;have aK:=bx (bT HB4.o hb5);have HD5:=bx hb5;clear hb5;obtain⟨e0,e1,e2,e3,e4,e5,e6,e7,e8,e9,el⟩:=ay.o w5 aK.o;go_wp2_with fail;refine(XC.o w5 aK.o).mono ?_;rintro ex w6 ⟨⟨vl,rfl,hvl,-⟩,hb6⟩;clear e0 e1 e2 e3 e4 e5 e6 e7 e8 e9 el;have dO:=bx (bT aK.o hb6);obtain⟨la,lc,rfl,-⟩:=hvl.slice;rw [HQ.o] at hvl ⊢;have HD6:=bx (bT HD5.o hb6);clear hb6 hvl;have NW:=bx (λW (h:Below w6.heap.size w6 W) i (hi:i<=Q)=>show W.cell? ⟨mg,mo+i,none⟩=some (.int .i64 (sn i)) from((bT HD6.o h).cell (p:=⟨mg,mo+i,none⟩) kZ.o.1).trans (kZ.o.2 i hi));have c0:=NW.o w6 (Below.refl _ w6) 0 (Nat.zero_le _);have c1:=NW.o w6 (Below.refl _ w6) Q (Nat.le_refl _);rw [HZ.o] at c0;have c0:w6.cell? ⟨mg,mo,none⟩=some (.int .i64 0):=c0;have d1:((Q:Int)+1 != (Q:Int)+1)=false:=by simp
  have hk1:IntKind.i64.wrap ((Q:Int)+1)=(Q:Int)+1:=by rw [IntKind.wrap_i64];omega
  have EG:(Q:Int)<(Q:Int)+1:=by omega
  have hk0:(0:Int)<(Q:Int)+1:=by omega
  go_wp2_with fail;clear d1 hk1 EG hk0 c0 c1
  go_loopw [12] (λi wr=>∃ k:Nat,k<=Q/\i = .int .i64 k/\Box (Below w6.heap.size w6 wr)) (λi _=>Q-(intOf i).toNat)
  case atStart=>exact⟨0,by omega,rfl,⟨Below.refl _ _⟩⟩
  case round =>
   obtain⟨k,hk,rfl,hbr⟩:=hrel
   by_cases hlt:k<Q
   ·have aF:=bx (show Below w6.heap.size w6 wr.drew from bT hbr.o (iD wr 1));have c0:=NW.o wr.drew aF.o k hk;have c1:=NW.o wr.drew aF.o (k+1) (by omega);have au:=bx (show wr.drew.cell? ⟨mg,mo+(k+1),none⟩=some (.int .i64 (sn (k+1)))/\wr.drew.cell? ⟨mg,mo+k,none⟩=some (.int .i64 (sn k)) from⟨c1,c0⟩);have hup:=qZ.o k;have d1:decide (sn (k+1)<sn k)=false:=decide_eq_false (by show ¬ sn (k+1)<sn k;omega);clear c0 c1 hup;obtain⟨S0,hS0⟩:∃ S,S=sn k:=⟨_,rfl⟩
    obtain⟨S1,hS1⟩:∃ S,S=sn (k+1):=⟨_,rfl⟩
    rw [<- hS0,<- hS1] at au d1;clear hS0 hS1;have e8:decide ((k:Int)<(Q:Int))=true:=decide_eq_true (by omega);have EY:(k:Int)<(Q:Int)+1:=by omega
    have UM:(k:Int)+1<(Q:Int)+1:=by omega
    have hk1:IntKind.i64.wrap ((k:Int)+1)=(k:Int)+1:=by rw [IntKind.wrap_i64];omega
    have hk2:(0:Int)<=(k:Int)+1:=by omega
    have hk3:((k:Int)+1).toNat=k+1:=by omega
    go_wp2_with fail;refine fP 9 (λW'=>W'.cell? ⟨mg,mo+(k+1),none⟩=some (.int .i64 S1)/\W'.cell? ⟨mg,mo+k,none⟩=some (.int .i64 S0)) (by kernel_rfl) ?_;generalize wr.drew=WR at aF au ⊢;refine kS 0 ?_ rfl au.o ?_ ?_;rotate_left
    ·rintro w ⟨q1,q2⟩;go_simp;try with_reducible rfl
    refine kS 1 ?_ rfl au.o ?_ ?_;rotate_left
    ·rintro w ⟨q1,q2⟩;go_simp;try with_reducible rfl
    refine kS 2 ?_ rfl au.o ?_ ?_;rotate_left
    ·rintro w ⟨q1,q2⟩;go_simp;try with_reducible rfl
    refine kS 3 ?_ rfl au.o ?_ ?_;rotate_left
    ·rintro w ⟨q1,q2⟩;go_simp;try with_reducible rfl
    refine kS 4 ?_ rfl au.o ?_ ?_;rotate_left
    ·rintro w ⟨q1,q2⟩;go_simp;try with_reducible rfl
    refine kS 5 ?_ rfl au.o ?_ ?_;rotate_left
    ·rintro w ⟨q1,q2⟩;go_simp;try with_reducible rfl
    refine kS 6 ?_ rfl au.o ?_ ?_;rotate_left
    ·rintro w ⟨q1,q2⟩;go_simp;try with_reducible rfl
    refine kS 7 ?_ rfl au.o ?_ ?_;rotate_left
    ·rintro w ⟨q1,q2⟩;go_simp;try with_reducible rfl
    refine kS 8 ?_ rfl au.o ?_ ?_;rotate_left
    ·rintro w ⟨q1,q2⟩;go_simp;try with_reducible rfl
    refine kP 9 rfl λKK ah=>?_
    go_simp;refine ah.out _ _ (λh=>by cases h) ?_;clear ah KK;refine kD ?_ _;clear hk1 hk2 hk3;go_wp2_with fail
    go_roundw
    case rel=>exact⟨k+1,by omega,by go_num,aF⟩
    case measure=>simp [intOf];omega
   ·obtain rfl:k=Q:=by omega
    have e8:decide ((k:Int)<(k:Int))=false:=decide_eq_false (by omega);have IU:=bx (bT dO.o hbr.o);go_wp2_with fail;go_ret
    exact⟨rfl,bT HB3.o IU.o⟩
end
end Go.Proofs.YtdenoeakcflnmaaGreatDoor
