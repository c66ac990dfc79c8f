/- Texts of this claim. -/
import Derived.Test.YtdenoeakcflnmaaGreatDoorH24
import Derived.Test.YtdenoeakcflnmaaGreatDoorHXGaugeMeasures6

set_option maxRecDepth 100000
set_option maxHeartbeats 16000000
namespace Go.Proofs.YtdenoeakcflnmaaGreatDoor
section
open Go.RowKit
attribute [local go_sem] Oper.semAt_some
theorem al6 {g:C.Ga} {s:ByteArray} (h:s.size<=299):(C.jO g s.data.toList).length<=1000:=by
 unfold C.jO
 split
 ·rw [C.uZ,C.tq];have h1:=(iq g.t s.data.toList).2.len;have h2:=lM s.data.toList;rw [<- size_eq] at h2;omega
 ·simp
theorem ajS (A:Nat->Addr) (B:Nat) (v:Value) (g:C.Ga) (s:ByteArray) (n:Int) (w:World) (hv:dR w v g) (hzs:s.size<=9223372036854775807) (hS:Sw A B w) :
  Calls Tryz.prog 7 #[v, .string s, .int .i64 n] w λe w'=>e = .returned (.bool true)/\Below w.heap.size w w':=by
 have HS:=bx hS;have jE:=bx hv;obtain⟨x1,z1,x2,z2,x3,z3,x4,z4,x5,z5,x6,z6,x7,z7,rfl⟩:=hv.slices;clear hv;generalize g.t.p.1.length=y1,g.t.p.2.length=y2,g.t.r.length=y3,g.t.m.1.length=y4,g.t.m.2.length=y5,g.w.p.1.length=y6,g.w.p.2.length=y7,g.t.n=nt,g.w.wide=wb,g.k=gk at jE ⊢;have jq:=bx (λW=>wI s 120 120 W rfl hzs (by decide));have nD:=bx (xR s 120);generalize qG s 120=cs at jq nD;clear hzs;obtain⟨V,hV⟩:∃ V,V=w.alloc (.cells #[.int .i64 nt, .slice x1 y1 z1, .slice x2 y2 z2, .slice x3 y3 z3, .slice x4 y4 z4, .slice x5 y5 z5, .slice x6 y6 z6, .slice x7 y7 z7, .bool wb, .int .i64 gk] 35):=⟨_,rfl⟩
 have HB0:=bx (show Below w.heap.size w V by rw [hV];exact aO _ _);have nI:=bx (show Sep [Pc.blk w.heap.size 35 #[.int .i64 nt, .slice x1 y1 z1, .slice x2 y2 z2, .slice x3 y3 z3, .slice x4 y4 z4, .slice x5 y5 z5, .slice x6 y6 z6, .slice x7 y7 z7, .bool wb, .int .i64 gk],Pc.old w.heap.size w] V by rw [hV];exact(Sep.start w).bM _ _);have aU:=bx (show V.heap.size=w.heap.size+1 by rw [hV];simp);have HV:=bx hV;clear hS hV
 go_enter Tryz.func7,Tryz.ntmps7
 go_wp2_with fail;rw [<- HV.o];refine(Bd A B V (HS.o.below HB0.o)).mono ?_;rintro e w1 ⟨rfl,hb1⟩;have HB1:=bx (bT HB0.o hb1);have jr:=bx (nI.o.below hb1);have bG:=bx (show w.heap.size<w1.heap.size by have:=aU.o;have:=hb1.size;omega);clear hb1 HV;have hk:=jr.o.blk 0 rfl;have e0:=(hk.cell 0).trans (show _=some (Value.int .i64 nt) from rfl);have e1:=(hk.cell 1).trans (show _=some (Value.slice x1 y1 z1) from rfl);have e2:=(hk.cell 2).trans (show _=some (Value.slice x2 y2 z2) from rfl);have e3:=(hk.cell 3).trans (show _=some (Value.slice x3 y3 z3) from rfl);have e4:=(hk.cell 4).trans (show _=some (Value.slice x4 y4 z4) from rfl);have e5:=(hk.cell 5).trans (show _=some (Value.slice x5 y5 z5) from rfl);have e6:=(hk.cell 6).trans (show _=some (Value.slice x6 y6 z6) from rfl);have e7:=(hk.cell 7).trans (show _=some (Value.slice x7 y7 z7) from rfl);have e8:=(hk.cell 8).trans (show _=some (Value.bool wb) from rfl);have e9:=(hk.cell 9).trans (show _=some (Value.int .i64 gk) from rfl);have el:=hk.lt;clear hk;have bD:=bx (Ce _ g w w1 jE.o HB1.o);go_wp2_with fail;refine bD.o.mono ?_;rintro e w2 ⟨hb2,v',rfl,dG⟩;clear e0 e1 e2 e3 e4 e5 e6 e7 e8 e9 el;have HB2:=bx (bT HB1.o hb2);have iK:=bx (jr.o.below hb2);obtain⟨p1,r1,p2,r2,p3,r3,p4,r4,p5,r5,p6,r6,p7,r7,rfl⟩:=(dG w2 (Turns.refl _ _) HB2.o).slices;have dL:=bx (Aj g.t);have eP:=bx (Bv g.w);obtain⟨G,hG⟩:∃ G,G=zI g:=⟨_,rfl⟩
 have dL:=bx (show dZ G.t by rw [hG];exact dL.o);have eP:=bx (show fF G.w by rw [hG];exact eP.o);rw [<- hG] at dG ⊢;clear hb2 hG;obtain⟨gj,hgj⟩:∃ k,k=G.k:=⟨_,rfl⟩
 rw [<- hgj] at dG ⊢;have mW:=bx hgj;clear hgj;generalize G.t.p.1.length=q1,G.t.p.2.length=q2,G.t.r.length=q3,G.t.m.1.length=q4,G.t.m.2.length=q5,G.w.p.1.length=q6,G.w.p.2.length=q7,G.t.n=nu,G.w.wide=we at dG ⊢;have nM:=bx dG;clear dG bD;have hk:=iK.o.blk 0 rfl;have e0:=(hk.cell 0).trans (show _=some (Value.int .i64 nt) from rfl);have f0:=hk.frozen 0;have e1:=(hk.cell 1).trans (show _=some (Value.slice x1 y1 z1) from rfl);have f1:=hk.frozen 1;have e2:=(hk.cell 2).trans (show _=some (Value.slice x2 y2 z2) from rfl);have f2:=hk.frozen 2;have e3:=(hk.cell 3).trans (show _=some (Value.slice x3 y3 z3) from rfl);have f3:=hk.frozen 3;have e4:=(hk.cell 4).trans (show _=some (Value.slice x4 y4 z4) from rfl);have f4:=hk.frozen 4;have e5:=(hk.cell 5).trans (show _=some (Value.slice x5 y5 z5) from rfl);have f5:=hk.frozen 5;have e6:=(hk.cell 6).trans (show _=some (Value.slice x6 y6 z6) from rfl);have f6:=hk.frozen 6;have e7:=(hk.cell 7).trans (show _=some (Value.slice x7 y7 z7) from rfl);have f7:=hk.frozen 7;have e8:=(hk.cell 8).trans (show _=some (Value.bool wb) from rfl);have f8:=hk.frozen 8;have e9:=(hk.cell 9).trans (show _=some (Value.int .i64 gk) from rfl);have f9:=hk.frozen 9;have el:=hk.lt;clear hk;have S1:=bx (show Sep [Pc.blk w.heap.size 35 #[.int .i64 nu, .slice x1 y1 z1, .slice x2 y2 z2, .slice x3 y3 z3, .slice x4 y4 z4, .slice x5 y5 z5, .slice x6 y6 z6, .slice x7 y7 z7, .bool wb, .int .i64 gk],Pc.old w.heap.size w] _ from iK.o.set 0 rfl 0 (.int .i64 nu));have S2:=bx (show Sep [Pc.blk w.heap.size 35 #[.int .i64 nu, .slice p1 q1 r1, .slice x2 y2 z2, .slice x3 y3 z3, .slice x4 y4 z4, .slice x5 y5 z5, .slice x6 y6 z6, .slice x7 y7 z7, .bool wb, .int .i64 gk],Pc.old w.heap.size w] _ from S1.o.set 0 rfl 1 (.slice p1 q1 r1));have S3:=bx (show Sep [Pc.blk w.heap.size 35 #[.int .i64 nu, .slice p1 q1 r1, .slice p2 q2 r2, .slice x3 y3 z3, .slice x4 y4 z4, .slice x5 y5 z5, .slice x6 y6 z6, .slice x7 y7 z7, .bool wb, .int .i64 gk],Pc.old w.heap.size w] _ from S2.o.set 0 rfl 2 (.slice p2 q2 r2));have S4:=bx (show Sep [Pc.blk w.heap.size 35 #[.int .i64 nu, .slice p1 q1 r1, .slice p2 q2 r2, .slice p3 q3 r3, .slice x4 y4 z4, .slice x5 y5 z5, .slice x6 y6 z6, .slice x7 y7 z7, .bool wb, .int .i64 gk],Pc.old w.heap.size w] _ from S3.o.set 0 rfl 3 (.slice p3 q3 r3));have S5:=bx (show Sep [Pc.blk w.heap.size 35 #[.int .i64 nu, .slice p1 q1 r1, .slice p2 q2 r2, .slice p3 q3 r3, .slice p4 q4 r4, .slice x5 y5 z5, .slice x6 y6 z6, .slice x7 y7 z7, .bool wb, .int .i64 gk],Pc.old w.heap.size w] _ from S4.o.set 0 rfl 4 (.slice p4 q4 r4));have S6:=bx (show Sep [Pc.blk w.heap.size 35 #[.int .i64 nu, .slice p1 q1 r1, .slice p2 q2 r2, .slice p3 q3 r3, .slice p4 q4 r4, .slice p5 q5 r5, .slice x6 y6 z6, .slice x7 y7 z7, .bool wb, .int .i64 gk],Pc.old w.heap.size w] _ from S5.o.set 0 rfl 5 (.slice p5 q5 r5));have S7:=bx (show Sep [Pc.blk w.heap.size 35 #[.int .i64 nu, .slice p1 q1 r1, .slice p2 q2 r2, .slice p3 q3 r3, .slice p4 q4 r4, .slice p5 q5 r5, .slice p6 q6 r6, .slice x7 y7 z7, .bool wb, .int .i64 gk],Pc.old w.heap.size w] _ from S6.o.set 0 rfl 6 (.slice p6 q6 r6));have S8:=bx (show Sep [Pc.blk w.heap.size 35 #[.int .i64 nu, .slice p1 q1 r1, .slice p2 q2 r2, .slice p3 q3 r3, .slice p4 q4 r4, .slice p5 q5 r5, .slice p6 q6 r6, .slice p7 q7 r7, .bool wb, .int .i64 gk],Pc.old w.heap.size w] _ from S7.o.set 0 rfl 7 (.slice p7 q7 r7));have S9:=bx (show Sep [Pc.blk w.heap.size 35 #[.int .i64 nu, .slice p1 q1 r1, .slice p2 q2 r2, .slice p3 q3 r3, .slice p4 q4 r4, .slice p5 q5 r5, .slice p6 q6 r6, .slice p7 q7 r7, .bool we, .int .i64 gk],Pc.old w.heap.size w] _ from S8.o.set 0 rfl 8 (.bool we));have lV:=bx (show Sep [Pc.blk w.heap.size 35 #[.int .i64 nu, .slice p1 q1 r1, .slice p2 q2 r2, .slice p3 q3 r3, .slice p4 q4 r4, .slice p5 q5 r5, .slice p6 q6 r6, .slice p7 q7 r7, .bool we, .int .i64 gj],Pc.old w.heap.size w] _ from S9.o.set 0 rfl 9 (.int .i64 gj));have HT0:=bx (Turns.refl (λq=>q=w.heap.size) w2);have U1:=bx (aZ HT0.o (p:=⟨w.heap.size,0,none⟩) rfl (.int .i64 nu));have U2:=bx (aZ U1.o (p:=⟨w.heap.size,1,none⟩) rfl (.slice p1 q1 r1));have U3:=bx (aZ U2.o (p:=⟨w.heap.size,2,none⟩) rfl (.slice p2 q2 r2));have U4:=bx (aZ U3.o (p:=⟨w.heap.size,3,none⟩) rfl (.slice p3 q3 r3));have U5:=bx (aZ U4.o (p:=⟨w.heap.size,4,none⟩) rfl (.slice p4 q4 r4));have U6:=bx (aZ U5.o (p:=⟨w.heap.size,5,none⟩) rfl (.slice p5 q5 r5));have U7:=bx (aZ U6.o (p:=⟨w.heap.size,6,none⟩) rfl (.slice p6 q6 r6));have U8:=bx (aZ U7.o (p:=⟨w.heap.size,7,none⟩) rfl (.slice p7 q7 r7));have U9:=bx (aZ U8.o (p:=⟨w.heap.size,8,none⟩) rfl (.bool we));have mM:=bx (aZ U9.o (p:=⟨w.heap.size,9,none⟩) rfl (.int .i64 gj));have gI:=lV;have HT3:=mM;clear S1 S2 S3 S4 S5 S6 S7 S8 S9 lV HT0 U1 U2 U3 U4 U5 U6 U7 U8 U9 mM
 go_upto_region 3 with(fail)
 generalize ((((((((((w2.setCell ⟨w.heap.size,0,none⟩ (.int .i64 nu)).setCell ⟨w.heap.size,1,none⟩ (.slice p1 q1 r1)).setCell ⟨w.heap.size,2,none⟩ (.slice p2 q2 r2)).setCell ⟨w.heap.size,3,none⟩ (.slice p3 q3 r3)).setCell ⟨w.heap.size,4,none⟩ (.slice p4 q4 r4)).setCell ⟨w.heap.size,5,none⟩ (.slice p5 q5 r5)).setCell ⟨w.heap.size,6,none⟩ (.slice p6 q6 r6)).setCell ⟨w.heap.size,7,none⟩ (.slice p7 q7 r7)).setCell ⟨w.heap.size,8,none⟩ (.bool we)).setCell ⟨w.heap.size,9,none⟩ (.int .i64 gj))=w3 at gI HT3 ⊢;clear e0 f0 e1 f1 e2 f2 e3 f3 e4 f4 e5 f5 e6 f6 e7 f7 e8 f8 e9 f9 el;have HB3:=bx (gI.o.bel (n:=w.heap.size) (W0:=w) (by simp));have dN:=bx (show dR w3 (.agg #[.int .i64 nu, .slice p1 q1 r1, .slice p2 q2 r2, .slice p3 q3 r3, .slice p4 q4 r4, .slice p5 q5 r5, .slice p6 q6 r6, .slice p7 q7 r7, .bool we, .int .i64 gj]) G from nM.o w3 (HT3.o.mono (λk hk=>by have:=bG.o;omega)) HB3.o);have aC:=bx (HS.o.below HB3.o);have ay:=bx (λW (h:Below w3.heap.size w3 W)=>(gI.o.blk 0 rfl).c10 h);clear nI jr iK gI HT3 nM HB0 HB1 HB2 aU jE HS bG;go_wp2_with fail;refine(jq.o _).mono ?_;rintro e w3' ⟨rfl,rfl⟩;clear jq;have hcs:cs.size<=120:=nD.o;have Ef:=bx (Dh A B _ G cs w3 dN.o dL.o eP.o (by omega) (aC.o.below (Below.refl _ w3)).e (aC.o.below (Below.refl _ w3)).d (aC.o.below (Below.refl _ w3)).g (aC.o.below (Below.refl _ w3)).le);obtain⟨e0,e1,e2,e3,e4,e5,e6,e7,e8,e9,el⟩:=ay.o w3 (Below.refl _ w3);go_wp2_with fail;refine Ef.o.mono ?_;rintro e w4 ⟨rfl,hb4⟩;clear e0 e1 e2 e3 e4 e5 e6 e7 e8 e9 el;have HB4:=bx (bT (Below.refl _ w3) hb4);clear hb4 Ef;have Oj:=bx (VK _ G cs w4 (dN.o.below HB4.o) dL.o eP.o (by omega));obtain⟨e0,e1,e2,e3,e4,e5,e6,e7,e8,e9,el⟩:=ay.o w4 HB4.o;go_wp2_with fail;refine Oj.o.mono ?_;rintro e w5 ⟨rfl,hb5⟩;clear e0 e1 e2 e3 e4 e5 e6 e7 e8 e9 el;have aK:=bx (bT HB4.o hb5);clear hb5 Oj;have ZR:=bx (Nz A B _ G cs w5 (dN.o.below aK.o) dL.o eP.o (by omega) (aC.o.below aK.o).e (aC.o.below aK.o).d (aC.o.below aK.o).g (aC.o.below aK.o).le);obtain⟨e0,e1,e2,e3,e4,e5,e6,e7,e8,e9,el⟩:=ay.o w5 aK.o;go_wp2_with fail;refine ZR.o.mono ?_;rintro e w6 ⟨⟨v6,rfl,hv6⟩,hb6⟩;clear e0 e1 e2 e3 e4 e5 e6 e7 e8 e9 el;have dO:=bx (bT aK.o hb6);obtain⟨ma6,mc6,rfl⟩:=hv6.slice;have pO:=bx hv6;clear hv6;clear hb6 ZR;have XQ:=bx (Kq _ G cs w6 (dN.o.below dO.o) dL.o eP.o (by omega));obtain⟨e0,e1,e2,e3,e4,e5,e6,e7,e8,e9,el⟩:=ay.o w6 dO.o;go_wp2_with fail;refine XQ.o.mono ?_;rintro e w7 ⟨⟨v7,rfl,hv7⟩,hb7⟩;clear e0 e1 e2 e3 e4 e5 e6 e7 e8 e9 el;have bW:=bx (bT dO.o hb7);obtain⟨ma7,mc7,rfl⟩:=hv7.slice;have zK:=bx hv7;clear hv7;have pO:=bx (pO.o.below hb7);clear hb7 XQ;have Y3:=bx (Jm A B _ G cs n w7 (dN.o.below bW.o) dL.o eP.o (by omega) (aC.o.below bW.o).e (aC.o.below bW.o).d (aC.o.below bW.o).g (aC.o.below bW.o).le);obtain⟨e0,e1,e2,e3,e4,e5,e6,e7,e8,e9,el⟩:=ay.o w7 bW.o;go_wp2_with fail;refine Y3.o.mono ?_;rintro e w8 ⟨rfl,hb8⟩;clear e0 e1 e2 e3 e4 e5 e6 e7 e8 e9 el;have eF:=bx (bT bW.o hb8);have pO:=bx (pO.o.below hb8);have zK:=bx (zK.o.below hb8);clear hb8 Y3;have Y1:=bx (abv _ G cs n w8 (dN.o.below eF.o) dL.o eP.o (by omega));obtain⟨e0,e1,e2,e3,e4,e5,e6,e7,e8,e9,el⟩:=ay.o w8 eF.o;go_wp2_with fail;refine Y1.o.mono ?_;rintro e w9 ⟨rfl,tC⟩;clear e0 e1 e2 e3 e4 e5 e6 e7 e8 e9 el;have qJ:=bx (bT eF.o tC);have pO:=bx (pO.o.below tC);have zK:=bx (zK.o.below tC);clear tC Y1;have ZL:=bx (Vl A B _ G cs n w9 (dN.o.below qJ.o) dL.o eP.o (by omega) (aC.o.below qJ.o).e (aC.o.below qJ.o).d (aC.o.below qJ.o).g (aC.o.below qJ.o).le);obtain⟨e0,e1,e2,e3,e4,e5,e6,e7,e8,e9,el⟩:=ay.o w9 qJ.o;go_wp2_with fail;refine ZL.o.mono ?_;rintro e w10 ⟨rfl,OM⟩;clear e0 e1 e2 e3 e4 e5 e6 e7 e8 e9 el;have VT:=bx (bT qJ.o OM);have pO:=bx (pO.o.below OM);have zK:=bx (zK.o.below OM);clear OM ZL;have abr:=bx (al3 _ G cs n w10 (dN.o.below VT.o) dL.o eP.o (by omega));obtain⟨e0,e1,e2,e3,e4,e5,e6,e7,e8,e9,el⟩:=ay.o w10 VT.o;go_wp2_with fail;refine abr.o.mono ?_;rintro e wX ⟨rfl,NS⟩;clear e0 e1 e2 e3 e4 e5 e6 e7 e8 e9 el;have NR:=bx (bT VT.o NS);have pO:=bx (pO.o.below NS);have zK:=bx (zK.o.below NS);clear NS abr;have hml:(C.jO G cs.data.toList).length<=1000:=al6 (by omega);have BM:=bx (λW (h:Below w3.heap.size w3 W)=>Nv A B _ G W (dN.o.below h) dL.o eP.o (aC.o.below h).d (aC.o.below h).g (aC.o.below h).le);have HRR:=bx (λW (h:Below w3.heap.size w3 W)=>IL _ G W (dN.o.below h) dL.o eP.o);have dQ:=bx (λW (h:Below wX.heap.size wX W)=>RV _ _ _ _ W (pO.o.below h) (zK.o.below h) (by omega) (by omega));simp only [decide_true] at dQ;generalize C.bF G=gb at BM HRR;generalize C.eG G cs.data.toList=a1,C.bJ G cs.data.toList=a2,C.gy G cs.data.toList n=a3,C.qm G cs.data.toList n=a4 at *;generalize bs a4=a5 at *;generalize (a3:Int)=a6 at *;generalize (C.jO G cs.data.toList).length=ml at *;have aF:=bx (show Below wX.heap.size wX wX.drew from iD wX 1);have cu:=bx (λW (h:Below wX.heap.size wX W)=>ay.o W (bT NR.o h));have au:=bx (cu.o wX.drew aF.o)
 go_upto_region 12 with(fail)
 refine fP 5 (λW'=>W'.cell? ⟨w.heap.size,0,none⟩=some (.int .i64 nu)/\W'.cell? ⟨w.heap.size,1,none⟩=some (.slice p1 q1 r1)/\W'.cell? ⟨w.heap.size,2,none⟩=some (.slice p2 q2 r2)/\W'.cell? ⟨w.heap.size,3,none⟩=some (.slice p3 q3 r3)/\W'.cell? ⟨w.heap.size,4,none⟩=some (.slice p4 q4 r4)/\W'.cell? ⟨w.heap.size,5,none⟩=some (.slice p5 q5 r5)/\W'.cell? ⟨w.heap.size,6,none⟩=some (.slice p6 q6 r6)/\W'.cell? ⟨w.heap.size,7,none⟩=some (.slice p7 q7 r7)/\W'.cell? ⟨w.heap.size,8,none⟩=some (.bool we)/\W'.cell? ⟨w.heap.size,9,none⟩=some (.int .i64 gj)/\w.heap.size<W'.heap.size) (by kernel_rfl) ?_;generalize wX.drew=WR at aF au ⊢;refine kS 0 ?_ rfl au.o ?_ ?_;rotate_left
 ·rintro w ⟨q1,q2,q3,q4,q5,q6,q7,q8,q9,q10,q11⟩;go_simp;try with_reducible rfl
 refine kS 1 ?_ rfl au.o ?_ ?_;rotate_left
 ·rintro w ⟨q1,q2,q3,q4,q5,q6,q7,q8,q9,q10,q11⟩;go_simp;try with_reducible rfl
 refine kS 2 ?_ rfl au.o ?_ ?_;rotate_left
 ·rintro w ⟨q1,q2,q3,q4,q5,q6,q7,q8,q9,q10,q11⟩;go_simp;try with_reducible rfl
 refine kS 4 ?_ rfl au.o ?_ ?_;rotate_left
 ·rintro w ⟨q1,q2,q3,q4,q5,q6,q7,q8,q9,q10,q11⟩;go_simp;try with_reducible rfl
 refine kP 3 rfl λKK ah=>?_
 go_simp;refine(BM.o WR (bT NR.o aF.o)).mono ?_;rintro e x1 ⟨rfl,h1⟩;have LM:=bx (bT aF.o h1);have sZ:=bx (cu.o x1 LM.o);clear h1;refine ah.out _ _ (λ_=>sZ.o) ?_;clear ah KK;refine kP 5 rfl λKK ah=>?_
 go_simp;refine(HRR.o x1 (bT NR.o LM.o)).mono ?_;rintro e x2 ⟨rfl,h2⟩;have zy:=bx (bT LM.o h2);have HF2:=bx (cu.o x2 zy.o);clear h2;refine ah.out _ _ (λ_=>HF2.o) ?_;clear ah KK;refine kW ?_;refine kU 6 ?_ rfl ?_ ?_;rotate_left
 ·(intro w;go_simp;first | done | with_reducible rfl)
 refine kU 7 ?_ rfl ?_ ?_;rotate_left
 ·(intro w;go_simp;first | done | with_reducible rfl)
 refine kU 8 ?_ rfl ?_ ?_;rotate_left
 ·(intro w;go_simp;first | done | with_reducible rfl)
 refine kU 9 ?_ rfl ?_ ?_;rotate_left
 ·(intro w;go_simp;first | done | with_reducible rfl)
 refine kU 10 ?_ rfl ?_ ?_;rotate_left
 ·(intro w;go_simp;first | done | with_reducible rfl)
 refine kU 11 ?_ rfl ?_ ?_;rotate_left
 ·(intro w;go_simp;first | done | with_reducible rfl)
 refine kU 12 ?_ rfl ?_ ?_;rotate_left
 ·(intro w;go_simp;first | done | with_reducible rfl)
 refine kU 13 ?_ rfl ?_ ?_;rotate_left
 ·(intro w;go_simp;first | done | with_reducible rfl)
 go_simp;refine kN #[true,true,true,true,true,true,true,true,true,true,true,true,true,true,false,false,false,false,false,false,false,false,false,false,false,false,false,false,false,false,false,false,false,false,false,false,false,false,false,false,false,false,false,false,false,false,false,false,false] ?_;refine kU 14 ?_ rfl ?_ ?_;rotate_left
 ·(intro w;go_simp;first | done | with_reducible rfl)
 refine kU 15 ?_ rfl ?_ ?_;rotate_left
 ·(intro w;go_simp;first | done | with_reducible rfl)
 refine kU 16 ?_ rfl ?_ ?_;rotate_left
 ·(intro w;go_simp;first | done | with_reducible rfl)
 refine kU 17 ?_ rfl ?_ ?_;rotate_left
 ·(intro w;go_simp;first | done | with_reducible rfl)
 refine kU 18 ?_ rfl ?_ ?_;rotate_left
 ·(intro w;go_simp;first | done | with_reducible rfl)
 refine kU 19 ?_ rfl ?_ ?_;rotate_left
 ·(intro w;go_simp;first | done | with_reducible rfl)
 refine kU 20 ?_ rfl ?_ ?_;rotate_left
 ·(intro w;go_simp;first | done | with_reducible rfl)
 refine kP 21 rfl λKK ah=>?_
 go_simp;refine(dQ.o x2 zy.o).mono ?_;rintro e x3 ⟨rfl,h3⟩;have nS:=bx (bT zy.o h3);have HF3:=bx (cu.o x3 nS.o);clear h3;refine ah.out _ _ (λ_=>trivial) ?_;clear ah KK;refine kU 22 ?_ rfl ?_ ?_;rotate_left
 ·(intro w;go_simp;first | done | with_reducible rfl)
 refine kU 23 ?_ rfl ?_ ?_;rotate_left
 ·(intro w;go_simp;first | done | with_reducible rfl)
 refine kU 24 ?_ rfl ?_ ?_;rotate_left
 ·(intro w;go_simp;first | done | with_reducible rfl)
 refine kU 25 ?_ rfl ?_ ?_;rotate_left
 ·(intro w;go_simp;first | done | with_reducible rfl)
 refine kU 26 ?_ rfl ?_ ?_;rotate_left
 ·(intro w;go_simp;first | done | with_reducible rfl)
 refine kU 27 ?_ rfl ?_ ?_;rotate_left
 ·(intro w;go_simp;first | done | with_reducible rfl)
 refine kU 28 ?_ rfl ?_ ?_;rotate_left
 ·(intro w;go_simp;first | done | with_reducible rfl)
 refine kU 29 ?_ rfl ?_ ?_;rotate_left
 ·(intro w;go_simp;first | done | with_reducible rfl)
 go_simp;refine kN #[true,true,true,true,true,true,true,true,true,true,true,true,true,true,true,true,true,true,true,true,true,true,true,true,true,true,true,true,true,true,false,false,false,false,false,false,false,false,false,false,false,false,false,false,false,false,false,false,false] ?_;refine kU 30 ?_ rfl ?_ ?_;rotate_left
 ·(intro w;go_simp;first | done | with_reducible rfl)
 refine kU 31 ?_ rfl ?_ ?_;rotate_left
 ·(intro w;go_simp;first | done | with_reducible rfl)
 refine kU 32 ?_ rfl ?_ ?_;rotate_left
 ·(intro w;go_simp;first | done | with_reducible rfl)
 refine kU 33 ?_ rfl ?_ ?_;rotate_left
 ·(intro w;go_simp;first | done | with_reducible rfl)
 refine kU 34 ?_ rfl ?_ ?_;rotate_left
 ·(intro w;go_simp;first | done | with_reducible rfl)
 refine kU 35 ?_ rfl ?_ ?_;rotate_left
 ·(intro w;go_simp;first | done | with_reducible rfl)
 refine kU 36 ?_ rfl ?_ ?_;rotate_left
 ·(intro w;go_simp;first | done | with_reducible rfl)
 refine kU 37 ?_ rfl ?_ ?_;rotate_left
 ·(intro w;go_simp;first | done | with_reducible rfl)
 go_simp;refine kN #[true,true,true,true,true,true,true,true,true,true,true,true,true,true,true,true,true,true,true,true,true,true,true,true,true,true,true,true,true,true,true,true,true,true,true,true,true,true,false,false,false,false,false,false,false,false,false,false,false] ?_;refine kU 38 ?_ rfl ?_ ?_;rotate_left
 ·(intro w;go_simp;first | done | with_reducible rfl)
 refine kU 39 ?_ rfl ?_ ?_;rotate_left
 ·(intro w;go_simp;first | done | with_reducible rfl)
 refine kU 40 ?_ rfl ?_ ?_;rotate_left
 ·(intro w;go_simp;first | done | with_reducible rfl)
 refine kU 41 ?_ rfl ?_ ?_;rotate_left
 ·(intro w;go_simp;first | done | with_reducible rfl)
 refine kU 42 ?_ rfl ?_ ?_;rotate_left
 ·(intro w;go_simp;first | done | with_reducible rfl)
 refine kU 43 ?_ rfl ?_ ?_;rotate_left
 ·(intro w;go_simp;first | done | with_reducible rfl)
 refine kU 44 ?_ rfl ?_ ?_;rotate_left
 ·(intro w;go_simp;first | done | with_reducible rfl)
 refine kU 45 ?_ rfl ?_ ?_;rotate_left
 ·(intro w;go_simp;first | done | with_reducible rfl)
 go_simp;refine kN #[true,true,true,true,true,true,true,true,true,true,true,true,true,true,true,true,true,true,true,true,true,true,true,true,true,true,true,true,true,true,true,true,true,true,true,true,true,true,true,true,true,true,true,true,true,true,false,false,false] ?_;refine kU 46 ?_ rfl ?_ ?_;rotate_left
 ·(intro w;go_simp;first | done | with_reducible rfl)
 refine kU 47 ?_ rfl ?_ ?_;rotate_left
 ·(intro w;go_simp;first | done | with_reducible rfl)
 refine kP 48 rfl λKK ah=>?_
 go_simp;refine ah.out _ _ (λ_=>trivial) ?_;clear ah KK;refine kD ?_ _;have IU:=bx (bT HB3.o (bT NR.o nS.o));go_wp2_with fail;go_ret
 exact⟨rfl,IU.o⟩
end
end Go.Proofs.YtdenoeakcflnmaaGreatDoor
