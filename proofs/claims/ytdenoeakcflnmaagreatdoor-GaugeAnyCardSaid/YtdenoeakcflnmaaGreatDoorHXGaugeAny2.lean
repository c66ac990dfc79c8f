/- Texts of this claim. -/
import Derived.Test.YtdenoeakcflnmaaGreatDoorH24
import Derived.Test.YtdenoeakcflnmaaGreatDoorHXGaugeAny1

set_option maxRecDepth 100000
set_option maxHeartbeats 16000000
namespace Go.Proofs.YtdenoeakcflnmaaGreatDoor
namespace C
open Go.Proofs.YtdenoeakcflnmaaGreatDoor
theorem LQ {g:Ga} {s e:List UInt8} {n:Int}:∀ {k i:Nat},qN g s e n k=some i->i<=k/\gV g (headA g.t s i) (M.fix e) n=true
 | 0,i,h=>by
  unfold qN at h
  split at h
  ·rename_i h1;cases h;exact⟨Nat.le_refl _,h1⟩
  ·cases h
 | k+1,i,h=>by
  unfold qN at h
  split at h
  ·rename_i h1;cases h;exact⟨Nat.le_refl _,h1⟩
  ·have:=LQ h;exact⟨by omega,this.2⟩
theorem VG {g:Ga} {s e:List UInt8} {n:Int}:∀ {k j:Nat},j<=k->gV g (headA g.t s j) (M.fix e) n=true->∃ i,qN g s e n k=some i/\j<=i
 | 0,j,hj,h=>by
  obtain rfl:j=0:=by omega
  exact⟨0,by unfold qN;rw [if_pos h],Nat.le_refl _⟩
 | k+1,j,hj,h=>by
  unfold qN
  split
  ·exact⟨k+1,rfl,hj⟩
  ·rename_i h1
   rcases Nat.lt_or_ge j (k+1) with h2 | h2
   ·exact VG (by omega) h
   ·obtain rfl:j=k+1:=by omega
    exact absurd h h1
end C
namespace C
open Go.Proofs.YtdenoeakcflnmaaGreatDoor
theorem afN (s:List UInt8):M.fix (M.fix s)=M.fix s:=(M.aie _).2 (by
 unfold U.valid;rw [Fa]
 rfl)
theorem XP (s:List UInt8):aT (M.fix s)=aT s:=by unfold aT;rw [afN]
theorem aeU (t:Tab) (s:List UInt8):qI t (M.fix s)=qI t s:=by unfold qI;rw [XP]
theorem alV (t:Tab) (s:List UInt8):bK t (M.fix s)=bK t s:=by unfold bK;rw [aeU]
theorem ain (t:Tab) (s:List UInt8):aH t (M.fix s)=aH t s:=by unfold aH;rw [XP,alV]
def iR (xs:List Int) (ns:List Nat):List Int:=(places xs ns).map (λn:Nat=>(n:Int))
theorem aix (t:Tab) (s:List UInt8) (a:Int) (he:textE t s=0):isA t s a=(iR (aT s) (bK t s)).any (·==a):=by
 unfold isA eX iR;rw [if_pos he,List.any_map]
 rfl
theorem ags (t:Tab) (s:List UInt8) (he:textE t s=0):isA t s 0=true:=by
 rw [aix t s 0 he];have hr:=(iq t s).2;have h0:=XF (xs:=aT s) hr;unfold iR;rw [List.any_map,List.any_eq_true];have hl:0<(places (aT s) (bK t s)).length:=by rw [tu];exact hr.ne
 refine⟨(places (aT s) (bK t s))[0],List.getElem_mem hl,?_⟩;rw [List.getD_eq_getElem?_getD,List.getElem?_eq_getElem hl,Option.getD_some] at h0;rw [h0]
 rfl
theorem aiB (g:Ga) (s:List UInt8) (h:bF g=true) (hs:s.length<=2000) (hf:(M.fix s).length<=2000):eG g (M.fix s)=eG g s:=by
 unfold eG;rw [if_pos (jL h hs),if_pos (jL h hf),ain]
theorem goes_mono {g:Ga} {h t:List UInt8} {n m:Int} (hnm:n<=m) (hg:gV g h t n=true):gV g h t m=true:=by
 unfold gV at *;rw [Bool.and_eq_true] at *;exact⟨hg.1,by have:=of_decide_eq_true hg.2;exact decide_eq_true (by omega)⟩
theorem alx {g:Ga} {s e:List UInt8} {n m:Int} {k:Nat} (hnm:n<=m) (h:gu g s e n=some k):∃ i,gu g s e m=some i/\k<=i:=by
 unfold gu at *
 split at h
 ·rename_i h1
  rw [if_pos h1];obtain⟨h2,h3⟩:=LQ h;exact VG h2 (goes_mono hnm h3)
 ·cases h
theorem VZ {g:Ga} {s e:List UInt8} (h:jI g s e=0):bF g=true/\s.length<=600/\e.length<=60:=by
 unfold jI at h
 split at h
 ·omega
 ·rename_i h1
  split at h
  ·omega
  ·exact⟨by simpa using h1,by omega,by omega⟩
theorem afC {g:Ga} {s e:List UInt8} {n:Int} (h:jI g s e=0) (hn:eG g e<=n):∃ i,gu g s e n=some i:=by
 obtain⟨h1,h2,h3⟩:=VZ h;have hf:=sG e;unfold gu;rw [if_pos h];have hg:gV g (headA g.t s 0) (M.fix e) n=true:=by
  unfold gV headA;rw [List.take_zero,List.flatten_nil,List.nil_append,List.length_nil];rw [show ((0:Nat):Int)=0 from rfl,ags g.t _ (nC h1 (by omega)),Bool.true_and,aiB g e h1 (by omega) (by omega)];exact decide_eq_true hn
 obtain⟨i,hi,-⟩:=VG (k:=(cZ g.t s).length) (Nat.zero_le _) hg;exact⟨i,hi⟩
end C
section
open Go.RowKit
attribute [local go_sem] Oper.semAt_some
theorem amP {g:C.Ga} {s:List UInt8} (h:C.bF g=false):C.bJ g s=150:=by
 unfold C.bJ;rw [if_pos h]
theorem ah1 {g:C.Ga} {s e:List UInt8} {n m:Int} (hs:s.length<=600) (he:e.length<=60) (hnm:n<=m) :
  (C.jI g s e=150/\C.bJ g e=150)\/(C.jI g s e=0/\C.bJ g e=0/\(((C.gu g s e n).isSome=false/\(((C.gu g s e n).getD 0:Nat):Int)=0/\n<C.eG g e)\/((C.gu g s e n).isSome=true/\(C.gu g s e m).isSome=true/\(((C.gu g s e n).getD 0:Nat):Int)<=(((C.gu g s e m).getD 0:Nat):Int)))):=by
 cases hg:C.bF g with
 | false=>exact .inl ⟨C.NZ hg,amP hg⟩
 | true =>
  have h0:=C.MS (s:=s) (e:=e) hg hs he;refine .inr ⟨h0,C.jL hg (by omega),?_⟩
  cases hw:C.gu g s e n with
  | none =>
   refine .inl ⟨rfl,rfl,?_⟩
   rcases Int.lt_or_le n (C.eG g e) with h | h
   ·exact h
   ·obtain⟨i,hi⟩:=C.afC h0 h;rw [hw] at hi
    cases hi
  | some k =>
   obtain⟨i,hi,hki⟩:=C.alx hnm hw;rw [hi];exact .inr ⟨rfl,rfl,by simpa using hki⟩
theorem af2 (A:Nat->Addr) (B:Nat) (v:Value) (g:C.Ga) (s e:ByteArray) (n m:Int) (w:World) (hv:dR w v g) (hzs:s.size<=9223372036854775807) (hze:e.size<=9223372036854775807) (hS:Sw A B w) :
  Calls Tryz.prog 6 #[v, .string s, .string e, .int .i64 n, .int .i64 m] w λx w'=>x = .returned (.bool true)/\Below w.heap.size w w':=by
 have HS:=bx hS;have jE:=bx hv;obtain⟨x1,z1,x2,z2,x3,z3,x4,z4,x5,z5,x6,z6,x7,z7,rfl⟩:=hv.slices;clear hv;generalize g.t.p.1.length=y1,g.t.p.2.length=y2,g.t.r.length=y3,g.t.m.1.length=y4,g.t.m.2.length=y5,g.w.p.1.length=y6,g.w.p.2.length=y7,g.t.n=nt,g.w.wide=wb,g.k=gk at jE ⊢;have jq:=bx (λW=>wI s 60 60 W rfl hzs (by decide));have nD:=bx (xR s 60);generalize qG s 60=cs at jq nD;clear hzs;have xk:=bx (λW=>wI e 20 20 W rfl hze (by decide));have BJ:=bx (xR e 20);generalize qG e 20=ce at xk BJ;clear hze;obtain⟨V,hV⟩:∃ V,V=w.alloc (.cells #[.int .i64 nt, .slice x1 y1 z1, .slice x2 y2 z2, .slice x3 y3 z3, .slice x4 y4 z4, .slice x5 y5 z5, .slice x6 y6 z6, .slice x7 y7 z7, .bool wb, .int .i64 gk] 35):=⟨_,rfl⟩
 have HB0:=bx (show Below w.heap.size w V by rw [hV];exact aO _ _);have nI:=bx (show Sep [Pc.blk w.heap.size 35 #[.int .i64 nt, .slice x1 y1 z1, .slice x2 y2 z2, .slice x3 y3 z3, .slice x4 y4 z4, .slice x5 y5 z5, .slice x6 y6 z6, .slice x7 y7 z7, .bool wb, .int .i64 gk],Pc.old w.heap.size w] V by rw [hV];exact(Sep.start w).bM _ _);have aU:=bx (show V.heap.size=w.heap.size+1 by rw [hV];simp);have HV:=bx hV;clear hS hV
 go_enter Tryz.func6,Tryz.ntmps6
 go_wp2_with fail;rw [<- HV.o];refine(Bd A B V (HS.o.below HB0.o)).mono ?_;rintro e w1 ⟨rfl,hb1⟩;have HB1:=bx (bT HB0.o hb1);have jr:=bx (nI.o.below hb1);have bG:=bx (show w.heap.size<w1.heap.size by have:=aU.o;have:=hb1.size;omega);clear hb1 HV;have hk:=jr.o.blk 0 rfl;have e0:=(hk.cell 0).trans (show _=some (Value.int .i64 nt) from rfl);have e1:=(hk.cell 1).trans (show _=some (Value.slice x1 y1 z1) from rfl);have e2:=(hk.cell 2).trans (show _=some (Value.slice x2 y2 z2) from rfl);have e3:=(hk.cell 3).trans (show _=some (Value.slice x3 y3 z3) from rfl);have e4:=(hk.cell 4).trans (show _=some (Value.slice x4 y4 z4) from rfl);have e5:=(hk.cell 5).trans (show _=some (Value.slice x5 y5 z5) from rfl);have e6:=(hk.cell 6).trans (show _=some (Value.slice x6 y6 z6) from rfl);have e7:=(hk.cell 7).trans (show _=some (Value.slice x7 y7 z7) from rfl);have e8:=(hk.cell 8).trans (show _=some (Value.bool wb) from rfl);have e9:=(hk.cell 9).trans (show _=some (Value.int .i64 gk) from rfl);have el:=hk.lt;clear hk;have bD:=bx (Ce _ g w w1 jE.o HB1.o);go_wp2_with fail;refine bD.o.mono ?_;rintro e w2 ⟨hb2,v',rfl,dG⟩;clear e0 e1 e2 e3 e4 e5 e6 e7 e8 e9 el;have HB2:=bx (bT HB1.o hb2);have iK:=bx (jr.o.below hb2);obtain⟨p1,r1,p2,r2,p3,r3,p4,r4,p5,r5,p6,r6,p7,r7,rfl⟩:=(dG w2 (Turns.refl _ _) HB2.o).slices;have dL:=bx (Aj g.t);have eP:=bx (Bv g.w);obtain⟨G,hG⟩:∃ G,G=zI g:=⟨_,rfl⟩
 have dL:=bx (show dZ G.t by rw [hG];exact dL.o);have eP:=bx (show fF G.w by rw [hG];exact eP.o);rw [<- hG] at dG ⊢;clear hb2 hG;obtain⟨gj,hgj⟩:∃ k,k=G.k:=⟨_,rfl⟩
 rw [<- hgj] at dG ⊢;have mW:=bx hgj;clear hgj;generalize G.t.p.1.length=q1,G.t.p.2.length=q2,G.t.r.length=q3,G.t.m.1.length=q4,G.t.m.2.length=q5,G.w.p.1.length=q6,G.w.p.2.length=q7,G.t.n=nu,G.w.wide=we at dG ⊢;have nM:=bx dG;clear dG bD;have hk:=iK.o.blk 0 rfl;have e0:=(hk.cell 0).trans (show _=some (Value.int .i64 nt) from rfl);have f0:=hk.frozen 0;have e1:=(hk.cell 1).trans (show _=some (Value.slice x1 y1 z1) from rfl);have f1:=hk.frozen 1;have e2:=(hk.cell 2).trans (show _=some (Value.slice x2 y2 z2) from rfl);have f2:=hk.frozen 2;have e3:=(hk.cell 3).trans (show _=some (Value.slice x3 y3 z3) from rfl);have f3:=hk.frozen 3;have e4:=(hk.cell 4).trans (show _=some (Value.slice x4 y4 z4) from rfl);have f4:=hk.frozen 4;have e5:=(hk.cell 5).trans (show _=some (Value.slice x5 y5 z5) from rfl);have f5:=hk.frozen 5;have e6:=(hk.cell 6).trans (show _=some (Value.slice x6 y6 z6) from rfl);have f6:=hk.frozen 6;have e7:=(hk.cell 7).trans (show _=some (Value.slice x7 y7 z7) from rfl);have f7:=hk.frozen 7;have e8:=(hk.cell 8).trans (show _=some (Value.bool wb) from rfl);have f8:=hk.frozen 8;have e9:=(hk.cell 9).trans (show _=some (Value.int .i64 gk) from rfl);have f9:=hk.frozen 9;have el:=hk.lt;clear hk;have S1:=bx (show Sep [Pc.blk w.heap.size 35 #[.int .i64 nu, .slice x1 y1 z1, .slice x2 y2 z2, .slice x3 y3 z3, .slice x4 y4 z4, .slice x5 y5 z5, .slice x6 y6 z6, .slice x7 y7 z7, .bool wb, .int .i64 gk],Pc.old w.heap.size w] _ from iK.o.set 0 rfl 0 (.int .i64 nu));have S2:=bx (show Sep [Pc.blk w.heap.size 35 #[.int .i64 nu, .slice p1 q1 r1, .slice x2 y2 z2, .slice x3 y3 z3, .slice x4 y4 z4, .slice x5 y5 z5, .slice x6 y6 z6, .slice x7 y7 z7, .bool wb, .int .i64 gk],Pc.old w.heap.size w] _ from S1.o.set 0 rfl 1 (.slice p1 q1 r1));have S3:=bx (show Sep [Pc.blk w.heap.size 35 #[.int .i64 nu, .slice p1 q1 r1, .slice p2 q2 r2, .slice x3 y3 z3, .slice x4 y4 z4, .slice x5 y5 z5, .slice x6 y6 z6, .slice x7 y7 z7, .bool wb, .int .i64 gk],Pc.old w.heap.size w] _ from S2.o.set 0 rfl 2 (.slice p2 q2 r2));have S4:=bx (show Sep [Pc.blk w.heap.size 35 #[.int .i64 nu, .slice p1 q1 r1, .slice p2 q2 r2, .slice p3 q3 r3, .slice x4 y4 z4, .slice x5 y5 z5, .slice x6 y6 z6, .slice x7 y7 z7, .bool wb, .int .i64 gk],Pc.old w.heap.size w] _ from S3.o.set 0 rfl 3 (.slice p3 q3 r3));have S5:=bx (show Sep [Pc.blk w.heap.size 35 #[.int .i64 nu, .slice p1 q1 r1, .slice p2 q2 r2, .slice p3 q3 r3, .slice p4 q4 r4, .slice x5 y5 z5, .slice x6 y6 z6, .slice x7 y7 z7, .bool wb, .int .i64 gk],Pc.old w.heap.size w] _ from S4.o.set 0 rfl 4 (.slice p4 q4 r4));have S6:=bx (show Sep [Pc.blk w.heap.size 35 #[.int .i64 nu, .slice p1 q1 r1, .slice p2 q2 r2, .slice p3 q3 r3, .slice p4 q4 r4, .slice p5 q5 r5, .slice x6 y6 z6, .slice x7 y7 z7, .bool wb, .int .i64 gk],Pc.old w.heap.size w] _ from S5.o.set 0 rfl 5 (.slice p5 q5 r5));have S7:=bx (show Sep [Pc.blk w.heap.size 35 #[.int .i64 nu, .slice p1 q1 r1, .slice p2 q2 r2, .slice p3 q3 r3, .slice p4 q4 r4, .slice p5 q5 r5, .slice p6 q6 r6, .slice x7 y7 z7, .bool wb, .int .i64 gk],Pc.old w.heap.size w] _ from S6.o.set 0 rfl 6 (.slice p6 q6 r6));have S8:=bx (show Sep [Pc.blk w.heap.size 35 #[.int .i64 nu, .slice p1 q1 r1, .slice p2 q2 r2, .slice p3 q3 r3, .slice p4 q4 r4, .slice p5 q5 r5, .slice p6 q6 r6, .slice p7 q7 r7, .bool wb, .int .i64 gk],Pc.old w.heap.size w] _ from S7.o.set 0 rfl 7 (.slice p7 q7 r7));have S9:=bx (show Sep [Pc.blk w.heap.size 35 #[.int .i64 nu, .slice p1 q1 r1, .slice p2 q2 r2, .slice p3 q3 r3, .slice p4 q4 r4, .slice p5 q5 r5, .slice p6 q6 r6, .slice p7 q7 r7, .bool we, .int .i64 gk],Pc.old w.heap.size w] _ from S8.o.set 0 rfl 8 (.bool we));have lV:=bx (show Sep [Pc.blk w.heap.size 35 #[.int .i64 nu, .slice p1 q1 r1, .slice p2 q2 r2, .slice p3 q3 r3, .slice p4 q4 r4, .slice p5 q5 r5, .slice p6 q6 r6, .slice p7 q7 r7, .bool we, .int .i64 gj],Pc.old w.heap.size w] _ from S9.o.set 0 rfl 9 (.int .i64 gj));have HT0:=bx (Turns.refl (λq=>q=w.heap.size) w2);have U1:=bx (aZ HT0.o (p:=⟨w.heap.size,0,none⟩) rfl (.int .i64 nu));have U2:=bx (aZ U1.o (p:=⟨w.heap.size,1,none⟩) rfl (.slice p1 q1 r1));have U3:=bx (aZ U2.o (p:=⟨w.heap.size,2,none⟩) rfl (.slice p2 q2 r2));have U4:=bx (aZ U3.o (p:=⟨w.heap.size,3,none⟩) rfl (.slice p3 q3 r3));have U5:=bx (aZ U4.o (p:=⟨w.heap.size,4,none⟩) rfl (.slice p4 q4 r4));have U6:=bx (aZ U5.o (p:=⟨w.heap.size,5,none⟩) rfl (.slice p5 q5 r5));have U7:=bx (aZ U6.o (p:=⟨w.heap.size,6,none⟩) rfl (.slice p6 q6 r6));have U8:=bx (aZ U7.o (p:=⟨w.heap.size,7,none⟩) rfl (.slice p7 q7 r7));have U9:=bx (aZ U8.o (p:=⟨w.heap.size,8,none⟩) rfl (.bool we));have mM:=bx (aZ U9.o (p:=⟨w.heap.size,9,none⟩) rfl (.int .i64 gj));have gI:=lV;have HT3:=mM;clear S1 S2 S3 S4 S5 S6 S7 S8 S9 lV HT0 U1 U2 U3 U4 U5 U6 U7 U8 U9 mM
 go_upto_region 3 with(fail)
 generalize ((((((((((w2.setCell ⟨w.heap.size,0,none⟩ (.int .i64 nu)).setCell ⟨w.heap.size,1,none⟩ (.slice p1 q1 r1)).setCell ⟨w.heap.size,2,none⟩ (.slice p2 q2 r2)).setCell ⟨w.heap.size,3,none⟩ (.slice p3 q3 r3)).setCell ⟨w.heap.size,4,none⟩ (.slice p4 q4 r4)).setCell ⟨w.heap.size,5,none⟩ (.slice p5 q5 r5)).setCell ⟨w.heap.size,6,none⟩ (.slice p6 q6 r6)).setCell ⟨w.heap.size,7,none⟩ (.slice p7 q7 r7)).setCell ⟨w.heap.size,8,none⟩ (.bool we)).setCell ⟨w.heap.size,9,none⟩ (.int .i64 gj))=w3 at gI HT3 ⊢;clear e0 f0 e1 f1 e2 f2 e3 f3 e4 f4 e5 f5 e6 f6 e7 f7 e8 f8 e9 f9 el;have HB3:=bx (gI.o.bel (n:=w.heap.size) (W0:=w) (by simp));have dN:=bx (show dR w3 (.agg #[.int .i64 nu, .slice p1 q1 r1, .slice p2 q2 r2, .slice p3 q3 r3, .slice p4 q4 r4, .slice p5 q5 r5, .slice p6 q6 r6, .slice p7 q7 r7, .bool we, .int .i64 gj]) G from nM.o w3 (HT3.o.mono (λk hk=>by have:=bG.o;omega)) HB3.o);have aC:=bx (HS.o.below HB3.o);have ay:=bx (λW (h:Below w3.heap.size w3 W)=>(gI.o.blk 0 rfl).c10 h);clear nI jr iK gI HT3 nM HB0 HB1 HB2 aU jE HS bG;go_wp2_with fail;refine(jq.o _).mono ?_;rintro ex w3' ⟨rfl,rfl⟩;clear jq;go_wp2_with fail;refine(xk.o _).mono ?_;rintro ex w3' ⟨rfl,rfl⟩;clear xk;have hcs:cs.size<=60:=nD.o;have hce:ce.size<=20:=BJ.o;have X4:=bx (λW (h:Below w3.heap.size w3 W)=>Gi A B _ G cs ce n W (dN.o.below h) dL.o eP.o (by omega) (by omega) (aC.o.below h).e (aC.o.below h).d (aC.o.below h).g (aC.o.below h).le);have X5:=bx (λW (h:Below w3.heap.size w3 W)=>Gi A B _ G cs ce (max n m) W (dN.o.below h) dL.o eP.o (by omega) (by omega) (aC.o.below h).e (aC.o.below h).d (aC.o.below h).g (aC.o.below h).le);have X6:=bx (λW (h:Below w3.heap.size w3 W)=>Dh A B _ G ce W (dN.o.below h) dL.o eP.o (by omega) (aC.o.below h).e (aC.o.below h).d (aC.o.below h).g (aC.o.below h).le);have HL:=bx (ah1 (g:=G) (s:=cs.data.toList) (e:=ce.data.toList) (n:=n) (m:=max n m) (by rw [<- size_eq];omega) (by rw [<- size_eq];omega) (by omega));generalize (((C.gu G cs.data.toList ce.data.toList n).getD 0:Nat):Int)=K1 at X4 HL;have mJ:=bx (show (0:Int)<=(((C.gu G cs.data.toList ce.data.toList (max n m)).getD 0:Nat):Int) from Int.natCast_nonneg _);generalize (((C.gu G cs.data.toList ce.data.toList (max n m)).getD 0:Nat):Int)=K2 at X5 HL mJ;generalize (C.gu G cs.data.toList ce.data.toList n).isSome=I1 at X4 HL;generalize (C.gu G cs.data.toList ce.data.toList (max n m)).isSome=I2 at X5 HL;generalize C.jI G cs.data.toList ce.data.toList=E1 at X4 X5 HL;generalize C.bJ G ce.data.toList=E3 at X6 HL;generalize C.eG G ce.data.toList=M3 at X6 HL;obtain⟨e0,e1,e2,e3,e4,e5,e6,e7,e8,e9,el⟩:=ay.o w3 (Below.refl _ w3);go_wp2_with fail;refine(X4.o w3 (Below.refl _ w3)).mono ?_;rintro ex w4 ⟨rfl,hb4⟩;clear e0 e1 e2 e3 e4 e5 e6 e7 e8 e9 el;have HB4:=bx (bT (Below.refl _ w3) hb4);clear hb4;obtain⟨e0,e1,e2,e3,e4,e5,e6,e7,e8,e9,el⟩:=ay.o w4 HB4.o;go_wp2_with fail;refine(X5.o w4 HB4.o).mono ?_;rintro ex w5 ⟨rfl,hb5⟩;clear e0 e1 e2 e3 e4 e5 e6 e7 e8 e9 el;have aK:=bx (bT HB4.o hb5);clear hb5;obtain⟨e0,e1,e2,e3,e4,e5,e6,e7,e8,e9,el⟩:=ay.o w5 aK.o;go_wp2_with fail;refine(X6.o w5 aK.o).mono ?_;rintro ex w6 ⟨rfl,hb6⟩;clear e0 e1 e2 e3 e4 e5 e6 e7 e8 e9 el;have dO:=bx (bT aK.o hb6);clear hb6;clear X4 X5 X6
 rcases HL.o with⟨rfl,rfl⟩ | ⟨rfl,rfl,⟨rfl,rfl,h⟩ | ⟨rfl,rfl,h⟩⟩
 ·go_wp2_with fail;go_ret
  exact⟨rfl,bT HB3.o dO.o⟩
 ·have d1:=decide_eq_true h;have d2:=decide_eq_true mJ.o;clear h;go_wp2_with fail;go_ret
  exact⟨rfl,bT HB3.o dO.o⟩
 ·have d2:=decide_eq_true h;clear h
  by_cases hm:n<M3
  ·have d1:=decide_eq_true hm;clear hm;go_wp2_with fail;go_ret
   exact⟨rfl,bT HB3.o dO.o⟩
  ·have d1:=decide_eq_false hm;clear hm;go_wp2_with fail;go_ret
   exact⟨rfl,bT HB3.o dO.o⟩
end
end Go.Proofs.YtdenoeakcflnmaaGreatDoor
