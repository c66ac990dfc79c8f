/- Texts of this claim. -/
import Derived.Test.YtdenoeakcflnmaaGreatDoorH24

set_option maxRecDepth 100000
set_option maxHeartbeats 16000000
namespace Go.Proofs.YtdenoeakcflnmaaGreatDoor
namespace C
open Go.Proofs.YtdenoeakcflnmaaGreatDoor
theorem uZ (g:Ga) (ls:List (List Int)):(marks g ls).length=ls.length+1:=by unfold marks;rw [List.length_map,List.length_range]
theorem aaf (g:Ga) (ls:List (List Int)) (n:Int):∀ k,dD g ls n k=0\/aS g ls (dD g ls n k)<=n
 | 0=>.inl rfl
 | k+1=>by
  unfold dD
  split
  ·rename_i h;exact .inr h
  ·exact aaf g ls n k
theorem YG (g:Ga) (ls:List (List Int)) (n:Int):∀ k,dD g ls n k<k->n<aS g ls (dD g ls n k+1)
 | 0,h=>by simp [dD] at h
 | k+1,h=>by
  unfold dD at h ⊢
  split
  ·rename_i h1;rw [if_pos h1] at h;omega
  ·rename_i h1
   rw [if_neg h1] at h;have h2:=Cj g ls n k
   rcases Nat.lt_or_ge (dD g ls n k) k with h3 | h3
   ·exact YG g ls n k h3
   ·rw [show dD g ls n k=k by omega];omega
def gy (g:Ga) (s:List UInt8) (n:Int):Nat:=if bJ g s=0 then dD g (aH g.t s) n (aH g.t s).length else 0
end C
namespace C
open Go.Proofs.YtdenoeakcflnmaaGreatDoor
theorem ahV (g:Ga) (ls:List (List Int)) (n:Int) :
  (n<0/\dD g ls n ls.length=0\/0<=n/\aS g ls (dD g ls n ls.length)<=n)/\(dD g ls n ls.length=ls.length\/n<aS g ls (dD g ls n ls.length+1)):=by
 have h1:=aaf g ls n ls.length;have h2:=Cj g ls n ls.length;have h3:=YG g ls n ls.length;have h4:=Kt g ls (dD g ls n ls.length);have h5:=FQ g ls;refine⟨?_,?_⟩
 ·by_cases hn:n<0
  ·rcases h1 with h1 | h1
   ·exact .inl ⟨hn,h1⟩
   ·omega
  ·rcases h1 with h1 | h1
   ·exact .inr ⟨by omega,by rw [h1,h5];omega⟩
   ·exact .inr ⟨by omega,h1⟩
 ·by_cases h:dD g ls n ls.length<ls.length
  ·exact .inr (h3 h)
  ·exact .inl (by omega)
theorem vC (g:Ga) (ls:List (List Int)) {i:Nat} (h:i<=ls.length):(marks g ls)[i]?=some (aS g ls i):=by
 unfold marks;rw [List.getElem?_map,List.getElem?_range (by omega)]
 rfl
end C
section
namespace C
end C
open Go.RowKit
attribute [local go_sem] Oper.semAt_some
theorem Jm (A:Nat->Addr) (B:Nat) (v:Value) (g:C.Ga) (s:ByteArray) (nn:Int) (w:World) (hv:dR w v g) (hs:dZ g.t) (hw:fF g.w) (hz:s.size<=800) (hE:E A B w) (hD:Ed A B w) (hG:Eg A B w) (hB:B<=w.heap.size) :
  Calls Tryz.prog 24 #[v, .string s, .int .i64 nn] w λe w'=>e = .returned (.tuple #[.int .i64 (C.gy g s.data.toList nn:Nat), .int .i64 (C.bJ g s.data.toList)])/\Below w.heap.size w w':=by
 have dH:=bx (λW (h:Below w.heap.size w W)=>hv.below h);obtain⟨tn,hn⟩:∃ n,n=g.t.n:=⟨_,rfl⟩
 obtain⟨wd,hwd⟩:∃ b,b=g.w.wide:=⟨_,rfl⟩
 obtain⟨gk,hgk⟩:∃ k,k=g.k:=⟨_,rfl⟩
 obtain⟨pi,pb,rv,nv,fv,iv,bv,rfl,h1,h2⟩:=hv;rw [<- hn,<- hwd,<- hgk] at dH;rw [<- hn,<- hwd,<- hgk];obtain⟨V,hV⟩:∃ V,V=w.alloc (.cells #[.int .i64 tn,pi,pb,rv,nv,fv,iv,bv, .bool wd, .int .i64 gk] 35):=⟨_,rfl⟩
 have HB0:=bx (show Below w.heap.size w V by rw [hV];exact aO _ _);have HK:=bx (show aj V w.heap.size 35 #[.int .i64 tn,pi,pb,rv,nv,fv,iv,bv, .bool wd, .int .i64 gk] by rw [hV];exact aj.new _ _ _);have ay:=bx (λW (h:Below V.heap.size V W)=>show W.cell? ⟨w.heap.size,0,none⟩=some (.int .i64 tn)/\W.cell? ⟨w.heap.size,1,none⟩=some (pi)/\W.cell? ⟨w.heap.size,2,none⟩=some (pb)/\W.cell? ⟨w.heap.size,3,none⟩=some (rv)/\W.cell? ⟨w.heap.size,4,none⟩=some (nv)/\W.cell? ⟨w.heap.size,5,none⟩=some (fv)/\W.cell? ⟨w.heap.size,6,none⟩=some (iv)/\W.cell? ⟨w.heap.size,7,none⟩=some (bv)/\W.cell? ⟨w.heap.size,8,none⟩=some (.bool wd)/\W.cell? ⟨w.heap.size,9,none⟩=some (.int .i64 gk)/\w.heap.size<W.heap.size from
  ⟨((HK.o.below h HK.o.lt).cell 0).trans rfl,((HK.o.below h HK.o.lt).cell 1).trans rfl,((HK.o.below h HK.o.lt).cell 2).trans rfl,((HK.o.below h HK.o.lt).cell 3).trans rfl,((HK.o.below h HK.o.lt).cell 4).trans rfl,((HK.o.below h HK.o.lt).cell 5).trans rfl,((HK.o.below h HK.o.lt).cell 6).trans rfl,((HK.o.below h HK.o.lt).cell 7).trans rfl,((HK.o.below h HK.o.lt).cell 8).trans rfl,((HK.o.below h HK.o.lt).cell 9).trans rfl,(HK.o.below h HK.o.lt).lt⟩)
 have HV:=bx hV;have aG:=bx (HB0.o.trans ((aO V (.cells #[.string s, .int .i64 2000] 74)).mono HB0.o.size));have uN:=bx (Gq V s 2000 74);have oH:=hB;have hrest:∀ W,Below w.heap.size w W->E A B W/\Ed A B W/\Eg A B W/\B<=W.heap.size:=λW h=>⟨hE.below (h.mono hB),hD.below (h.mono hB),hG.below (h.mono hB),Nat.le_trans hB h.size⟩
 have gQ:=bx hrest;have gY:=bx (Dz A B _ (.slice (some ⟨V.heap.size,0,none⟩) 1 1) g [(s,2000)] _ (dH.o _ aG.o) hs hw (hrest _ aG.o).1 (hrest _ aG.o).2.1 (hrest _ aG.o).2.2.1 (hrest _ aG.o).2.2.2);have gG:=bx (Dc A B _ (.slice (some ⟨V.heap.size,0,none⟩) 1 1) g _ (dH.o _ aG.o) hs hw (hrest _ aG.o).1 (hrest _ aG.o).2.1 (hrest _ aG.o).2.2.1 (hrest _ aG.o).2.2.2);have uq:=bx (λW (h:Below w.heap.size w W)=>DZ A B 0 (by decide) W (hrest W h).1);obtain⟨k0,k1,k2,k3,k4,k5,k6,k7,k8,k9,kk⟩:=ay.o V (Below.refl _ _);have HCM:=bx (λ(hgb:C.bF g=true) W mg hm pi pb rv nv fv iv bv (h:Below w.heap.size w W) (hM:Mt W mg hm pi pb rv nv fv iv bv g)=>OA A B mg hm pi pb rv nv fv iv bv g s _ nn W hM hs hw hgb hz (hrest W h).1 (hrest W h).2.1 (hrest W h).2.2.1 (hrest W h).2.2.2 rfl)
 cases hgb:C.bF g with
 | false =>
  have HR:=bx (show C.gy g s.data.toList nn=0/\C.bJ g s.data.toList=150 by
   have h:=C.lW (s:=s.data.toList) hgb;unfold C.gy;rw [h];exact⟨rfl,rfl⟩)
  rw [HR.o.1,HR.o.2];have gG:=bx (gG.o hgb);clear gY HCM h1 h2 hV hs hw hn hwd hgk hE hD hG hB hgb hrest oH hz
  go_enter Tryz.func24,Tryz.ntmps24
  go_upto_region 1 with(fail)
  rw [<- HV.o];go_wp2_with fail;refine gG.o.mono ?_;rintro e w1 ⟨rfl,hb1⟩;have HB1:=bx (bt aG.o hb1);have HT1:=bx (uq.o w1 HB1.o);clear hb1 k0 k1 k2 k3 k4 k5 k6 k7 k8 k9 kk;unfold jZ at HT1 ⊢;go_wp2_with fail;refine HT1.o.mono ?_;rintro e w2 ⟨rfl,rfl⟩;go_wp2_with fail;go_ret2
  exact⟨rfl,HB1.o⟩
 | true =>
  have HR:=bx (show C.gy g s.data.toList nn=C.dD g (C.aH g.t s.data.toList) nn (C.aH g.t s.data.toList).length/\C.bJ g s.data.toList=0 by
   have h:=C.jL (s:=s.data.toList) hgb (by rw [<- size_eq];omega);unfold C.gy;rw [if_pos h];exact⟨rfl,h⟩)
  rw [HR.o.1,HR.o.2];have HCM:=bx (HCM.o hgb);generalize C.dD g (C.aH g.t s.data.toList) nn (C.aH g.t s.data.toList).length=res at HCM ⊢;have gY:=bx (gY.o hgb uN.o (by simp) (by intro x hx;rw [List.mem_singleton.1 hx];show (s.size:Int)<=2000;omega));clear gG h1 h2 hV hs hw hn hwd hgk hE hD hG hB hrest oH
  go_enter Tryz.func24,Tryz.ntmps24
  go_upto_region 1 with(fail)
  rw [<- HV.o];go_wp2_with fail;refine gY.o.mono ?_;rintro e w1 ⟨⟨mg,hm,qB,pb',rv',qj,qx,iH,iJ,rfl,hM⟩,hb1⟩;have HB1:=bx (bt aG.o hb1);have jf:=bx hM;clear hb1 hM k0 k1 k2 k3 k4 k5 k6 k7 k8 k9 kk;have dV:=bx (HCM.o w1 mg hm qB pb' rv' qj qx iH iJ HB1.o jf.o);clear HCM;go_wp2_with fail;refine dV.o.mono ?_;rintro e w2 ⟨rfl,hb2⟩;have HB2:=bx (bt HB1.o hb2);clear hb2;go_wp2_with fail;go_ret2
  exact⟨rfl,HB2.o⟩
end
section
open Go.RowKit
attribute [local go_sem] Oper.semAt_some
theorem DT {g:C.Ga} {s:List UInt8} (h:s.length<=2000):(C.bF g=false/\C.bJ g s=150)\/(C.bF g=true/\C.bJ g s=0/\textE g.t s=0):=by
 cases hg:C.bF g with
 | false =>
  refine .inl ⟨rfl,?_⟩;unfold C.bJ;rw [if_pos hg]
 | true=>exact .inr ⟨rfl,C.jL hg h,C.nC hg h⟩
theorem afi (A:Nat->Addr) (B:Nat) (v:Value) (g:C.Ga) (s:ByteArray) (n:Int) (w:World) (hv:dR w v g) (hzs:s.size<=9223372036854775807) (hS:Sw A B w) :
  Calls Tryz.prog 8 #[v, .string s, .int .i64 n] w λx w'=>x = .returned (.bool true)/\Below w.heap.size w w':=by
 have HS:=bx hS;have jE:=bx hv;obtain⟨x1,z1,x2,z2,x3,z3,x4,z4,x5,z5,x6,z6,x7,z7,rfl⟩:=hv.slices;clear hv;generalize g.t.p.1.length=y1,g.t.p.2.length=y2,g.t.r.length=y3,g.t.m.1.length=y4,g.t.m.2.length=y5,g.w.p.1.length=y6,g.w.p.2.length=y7,g.t.n=nt,g.w.wide=wb,g.k=gk at jE ⊢;have jq:=bx (λW=>wI s 120 120 W rfl hzs (by decide));have nD:=bx (xR s 120);generalize qG s 120=cs at jq nD;clear hzs;obtain⟨V,hV⟩:∃ V,V=w.alloc (.cells #[.int .i64 nt, .slice x1 y1 z1, .slice x2 y2 z2, .slice x3 y3 z3, .slice x4 y4 z4, .slice x5 y5 z5, .slice x6 y6 z6, .slice x7 y7 z7, .bool wb, .int .i64 gk] 35):=⟨_,rfl⟩
 have HB0:=bx (show Below w.heap.size w V by rw [hV];exact aO _ _);have nI:=bx (show Sep [Pc.blk w.heap.size 35 #[.int .i64 nt, .slice x1 y1 z1, .slice x2 y2 z2, .slice x3 y3 z3, .slice x4 y4 z4, .slice x5 y5 z5, .slice x6 y6 z6, .slice x7 y7 z7, .bool wb, .int .i64 gk],Pc.old w.heap.size w] V by rw [hV];exact(Sep.start w).bM _ _);have aU:=bx (show V.heap.size=w.heap.size+1 by rw [hV];simp);have HV:=bx hV;clear hS hV
 go_enter Tryz.func8,Tryz.ntmps8
 go_wp2_with fail;rw [<- HV.o];refine(Bd A B V (HS.o.below HB0.o)).mono ?_;rintro e w1 ⟨rfl,hb1⟩;have HB1:=bx (bT HB0.o hb1);have jr:=bx (nI.o.below hb1);have bG:=bx (show w.heap.size<w1.heap.size by have:=aU.o;have:=hb1.size;omega);clear hb1 HV;have hk:=jr.o.blk 0 rfl;have e0:=(hk.cell 0).trans (show _=some (Value.int .i64 nt) from rfl);have e1:=(hk.cell 1).trans (show _=some (Value.slice x1 y1 z1) from rfl);have e2:=(hk.cell 2).trans (show _=some (Value.slice x2 y2 z2) from rfl);have e3:=(hk.cell 3).trans (show _=some (Value.slice x3 y3 z3) from rfl);have e4:=(hk.cell 4).trans (show _=some (Value.slice x4 y4 z4) from rfl);have e5:=(hk.cell 5).trans (show _=some (Value.slice x5 y5 z5) from rfl);have e6:=(hk.cell 6).trans (show _=some (Value.slice x6 y6 z6) from rfl);have e7:=(hk.cell 7).trans (show _=some (Value.slice x7 y7 z7) from rfl);have e8:=(hk.cell 8).trans (show _=some (Value.bool wb) from rfl);have e9:=(hk.cell 9).trans (show _=some (Value.int .i64 gk) from rfl);have el:=hk.lt;clear hk;have bD:=bx (Ce _ g w w1 jE.o HB1.o);go_wp2_with fail;refine bD.o.mono ?_;rintro e w2 ⟨hb2,v',rfl,dG⟩;clear e0 e1 e2 e3 e4 e5 e6 e7 e8 e9 el;have HB2:=bx (bT HB1.o hb2);have iK:=bx (jr.o.below hb2);obtain⟨p1,r1,p2,r2,p3,r3,p4,r4,p5,r5,p6,r6,p7,r7,rfl⟩:=(dG w2 (Turns.refl _ _) HB2.o).slices;have dL:=bx (Aj g.t);have eP:=bx (Bv g.w);obtain⟨G,hG⟩:∃ G,G=zI g:=⟨_,rfl⟩
 have dL:=bx (show dZ G.t by rw [hG];exact dL.o);have eP:=bx (show fF G.w by rw [hG];exact eP.o);rw [<- hG] at dG ⊢;clear hb2 hG;obtain⟨gj,hgj⟩:∃ k,k=G.k:=⟨_,rfl⟩
 rw [<- hgj] at dG ⊢;have mW:=bx hgj;clear hgj;generalize G.t.p.1.length=q1,G.t.p.2.length=q2,G.t.r.length=q3,G.t.m.1.length=q4,G.t.m.2.length=q5,G.w.p.1.length=q6,G.w.p.2.length=q7,G.t.n=nu,G.w.wide=we at dG ⊢;have nM:=bx dG;clear dG bD;have hk:=iK.o.blk 0 rfl;have e0:=(hk.cell 0).trans (show _=some (Value.int .i64 nt) from rfl);have f0:=hk.frozen 0;have e1:=(hk.cell 1).trans (show _=some (Value.slice x1 y1 z1) from rfl);have f1:=hk.frozen 1;have e2:=(hk.cell 2).trans (show _=some (Value.slice x2 y2 z2) from rfl);have f2:=hk.frozen 2;have e3:=(hk.cell 3).trans (show _=some (Value.slice x3 y3 z3) from rfl);have f3:=hk.frozen 3;have e4:=(hk.cell 4).trans (show _=some (Value.slice x4 y4 z4) from rfl);have f4:=hk.frozen 4;have e5:=(hk.cell 5).trans (show _=some (Value.slice x5 y5 z5) from rfl);have f5:=hk.frozen 5;have e6:=(hk.cell 6).trans (show _=some (Value.slice x6 y6 z6) from rfl);have f6:=hk.frozen 6;have e7:=(hk.cell 7).trans (show _=some (Value.slice x7 y7 z7) from rfl);have f7:=hk.frozen 7;have e8:=(hk.cell 8).trans (show _=some (Value.bool wb) from rfl);have f8:=hk.frozen 8;have e9:=(hk.cell 9).trans (show _=some (Value.int .i64 gk) from rfl);have f9:=hk.frozen 9;have el:=hk.lt;clear hk;have S1:=bx (show Sep [Pc.blk w.heap.size 35 #[.int .i64 nu, .slice x1 y1 z1, .slice x2 y2 z2, .slice x3 y3 z3, .slice x4 y4 z4, .slice x5 y5 z5, .slice x6 y6 z6, .slice x7 y7 z7, .bool wb, .int .i64 gk],Pc.old w.heap.size w] _ from iK.o.set 0 rfl 0 (.int .i64 nu));have S2:=bx (show Sep [Pc.blk w.heap.size 35 #[.int .i64 nu, .slice p1 q1 r1, .slice x2 y2 z2, .slice x3 y3 z3, .slice x4 y4 z4, .slice x5 y5 z5, .slice x6 y6 z6, .slice x7 y7 z7, .bool wb, .int .i64 gk],Pc.old w.heap.size w] _ from S1.o.set 0 rfl 1 (.slice p1 q1 r1));have S3:=bx (show Sep [Pc.blk w.heap.size 35 #[.int .i64 nu, .slice p1 q1 r1, .slice p2 q2 r2, .slice x3 y3 z3, .slice x4 y4 z4, .slice x5 y5 z5, .slice x6 y6 z6, .slice x7 y7 z7, .bool wb, .int .i64 gk],Pc.old w.heap.size w] _ from S2.o.set 0 rfl 2 (.slice p2 q2 r2));have S4:=bx (show Sep [Pc.blk w.heap.size 35 #[.int .i64 nu, .slice p1 q1 r1, .slice p2 q2 r2, .slice p3 q3 r3, .slice x4 y4 z4, .slice x5 y5 z5, .slice x6 y6 z6, .slice x7 y7 z7, .bool wb, .int .i64 gk],Pc.old w.heap.size w] _ from S3.o.set 0 rfl 3 (.slice p3 q3 r3));have S5:=bx (show Sep [Pc.blk w.heap.size 35 #[.int .i64 nu, .slice p1 q1 r1, .slice p2 q2 r2, .slice p3 q3 r3, .slice p4 q4 r4, .slice x5 y5 z5, .slice x6 y6 z6, .slice x7 y7 z7, .bool wb, .int .i64 gk],Pc.old w.heap.size w] _ from S4.o.set 0 rfl 4 (.slice p4 q4 r4));have S6:=bx (show Sep [Pc.blk w.heap.size 35 #[.int .i64 nu, .slice p1 q1 r1, .slice p2 q2 r2, .slice p3 q3 r3, .slice p4 q4 r4, .slice p5 q5 r5, .slice x6 y6 z6, .slice x7 y7 z7, .bool wb, .int .i64 gk],Pc.old w.heap.size w] _ from S5.o.set 0 rfl 5 (.slice p5 q5 r5));have S7:=bx (show Sep [Pc.blk w.heap.size 35 #[.int .i64 nu, .slice p1 q1 r1, .slice p2 q2 r2, .slice p3 q3 r3, .slice p4 q4 r4, .slice p5 q5 r5, .slice p6 q6 r6, .slice x7 y7 z7, .bool wb, .int .i64 gk],Pc.old w.heap.size w] _ from S6.o.set 0 rfl 6 (.slice p6 q6 r6));have S8:=bx (show Sep [Pc.blk w.heap.size 35 #[.int .i64 nu, .slice p1 q1 r1, .slice p2 q2 r2, .slice p3 q3 r3, .slice p4 q4 r4, .slice p5 q5 r5, .slice p6 q6 r6, .slice p7 q7 r7, .bool wb, .int .i64 gk],Pc.old w.heap.size w] _ from S7.o.set 0 rfl 7 (.slice p7 q7 r7));have S9:=bx (show Sep [Pc.blk w.heap.size 35 #[.int .i64 nu, .slice p1 q1 r1, .slice p2 q2 r2, .slice p3 q3 r3, .slice p4 q4 r4, .slice p5 q5 r5, .slice p6 q6 r6, .slice p7 q7 r7, .bool we, .int .i64 gk],Pc.old w.heap.size w] _ from S8.o.set 0 rfl 8 (.bool we));have lV:=bx (show Sep [Pc.blk w.heap.size 35 #[.int .i64 nu, .slice p1 q1 r1, .slice p2 q2 r2, .slice p3 q3 r3, .slice p4 q4 r4, .slice p5 q5 r5, .slice p6 q6 r6, .slice p7 q7 r7, .bool we, .int .i64 gj],Pc.old w.heap.size w] _ from S9.o.set 0 rfl 9 (.int .i64 gj));have HT0:=bx (Turns.refl (λq=>q=w.heap.size) w2);have U1:=bx (aZ HT0.o (p:=⟨w.heap.size,0,none⟩) rfl (.int .i64 nu));have U2:=bx (aZ U1.o (p:=⟨w.heap.size,1,none⟩) rfl (.slice p1 q1 r1));have U3:=bx (aZ U2.o (p:=⟨w.heap.size,2,none⟩) rfl (.slice p2 q2 r2));have U4:=bx (aZ U3.o (p:=⟨w.heap.size,3,none⟩) rfl (.slice p3 q3 r3));have U5:=bx (aZ U4.o (p:=⟨w.heap.size,4,none⟩) rfl (.slice p4 q4 r4));have U6:=bx (aZ U5.o (p:=⟨w.heap.size,5,none⟩) rfl (.slice p5 q5 r5));have U7:=bx (aZ U6.o (p:=⟨w.heap.size,6,none⟩) rfl (.slice p6 q6 r6));have U8:=bx (aZ U7.o (p:=⟨w.heap.size,7,none⟩) rfl (.slice p7 q7 r7));have U9:=bx (aZ U8.o (p:=⟨w.heap.size,8,none⟩) rfl (.bool we));have mM:=bx (aZ U9.o (p:=⟨w.heap.size,9,none⟩) rfl (.int .i64 gj));have gI:=lV;have HT3:=mM;clear S1 S2 S3 S4 S5 S6 S7 S8 S9 lV HT0 U1 U2 U3 U4 U5 U6 U7 U8 U9 mM
 go_upto_region 3 with(fail)
 generalize ((((((((((w2.setCell ⟨w.heap.size,0,none⟩ (.int .i64 nu)).setCell ⟨w.heap.size,1,none⟩ (.slice p1 q1 r1)).setCell ⟨w.heap.size,2,none⟩ (.slice p2 q2 r2)).setCell ⟨w.heap.size,3,none⟩ (.slice p3 q3 r3)).setCell ⟨w.heap.size,4,none⟩ (.slice p4 q4 r4)).setCell ⟨w.heap.size,5,none⟩ (.slice p5 q5 r5)).setCell ⟨w.heap.size,6,none⟩ (.slice p6 q6 r6)).setCell ⟨w.heap.size,7,none⟩ (.slice p7 q7 r7)).setCell ⟨w.heap.size,8,none⟩ (.bool we)).setCell ⟨w.heap.size,9,none⟩ (.int .i64 gj))=w3 at gI HT3 ⊢;clear e0 f0 e1 f1 e2 f2 e3 f3 e4 f4 e5 f5 e6 f6 e7 f7 e8 f8 e9 f9 el;have HB3:=bx (gI.o.bel (n:=w.heap.size) (W0:=w) (by simp));have dN:=bx (show dR w3 (.agg #[.int .i64 nu, .slice p1 q1 r1, .slice p2 q2 r2, .slice p3 q3 r3, .slice p4 q4 r4, .slice p5 q5 r5, .slice p6 q6 r6, .slice p7 q7 r7, .bool we, .int .i64 gj]) G from nM.o w3 (HT3.o.mono (λk hk=>by have:=bG.o;omega)) HB3.o);have aC:=bx (HS.o.below HB3.o);have ay:=bx (λW (h:Below w3.heap.size w3 W)=>(gI.o.blk 0 rfl).c10 h);clear nI jr iK gI HT3 nM HB0 HB1 HB2 aU jE HS bG;go_wp2_with fail;refine(jq.o _).mono ?_;rintro ex w3' ⟨rfl,rfl⟩;clear jq;have hcs:cs.size<=120:=nD.o;have X4:=bx (λW (h:Below w3.heap.size w3 W)=>Jm A B _ G cs n W (dN.o.below h) dL.o eP.o (by omega) (aC.o.below h).e (aC.o.below h).d (aC.o.below h).g (aC.o.below h).le);have X5:=bx (λW (h:Below w3.heap.size w3 W)=>Nz A B _ G cs W (dN.o.below h) dL.o eP.o (by omega) (aC.o.below h).e (aC.o.below h).d (aC.o.below h).g (aC.o.below h).le)
 rcases DT (g:=G) (s:=cs.data.toList) (by rw [<- size_eq];omega) with⟨hgb,hge⟩ | ⟨hgb,hge,-⟩
 ·have HR:=bx (show C.gy G cs.data.toList n=0 by unfold C.gy;rw [hge,if_neg (by decide)]);rw [hge] at X4 X5;rw [HR.o] at X4;have HF:=bx (show C.jO G cs.data.toList=[] by unfold C.jO;rw [hge,if_neg (by decide)]);rw [HF.o] at X5;clear hcs hgb hge HR HF;obtain⟨e0,e1,e2,e3,e4,e5,e6,e7,e8,e9,el⟩:=ay.o w3 (Below.refl _ w3);go_wp2_with fail;refine(X4.o w3 (Below.refl _ w3)).mono ?_;rintro ex w4 ⟨rfl,hb4⟩;clear e0 e1 e2 e3 e4 e5 e6 e7 e8 e9 el;have HB4:=bx (bT (Below.refl _ w3) hb4);clear hb4;obtain⟨e0,e1,e2,e3,e4,e5,e6,e7,e8,e9,el⟩:=ay.o w4 HB4.o;go_wp2_with fail;refine(X5.o w4 HB4.o).mono ?_;rintro ex w5 ⟨⟨mv,rfl,hmv⟩,hb5⟩;clear e0 e1 e2 e3 e4 e5 e6 e7 e8 e9 el;have aK:=bx (bT HB4.o hb5);obtain⟨ma,mc,rfl⟩:=hmv.slice;clear hmv;clear hb5;go_wp2_with fail;go_ret
  exact⟨rfl,bT HB3.o aK.o⟩
 ·have hfl:=C.ahV G (C.aH G.t cs.data.toList) n;have hfk:=C.Cj G (C.aH G.t cs.data.toList) n (C.aH G.t cs.data.toList).length;have HR:=bx (show C.gy G cs.data.toList n=C.dD G (C.aH G.t cs.data.toList) n (C.aH G.t cs.data.toList).length by unfold C.gy;rw [if_pos hge]);have HF:=bx (show C.jO G cs.data.toList=C.marks G (C.aH G.t cs.data.toList) by unfold C.jO;rw [if_pos hge]);rw [hge] at X4 X5;rw [HR.o] at X4;rw [HF.o] at X5;have lJ:=bx (λi (h:i<=(C.aH G.t cs.data.toList).length)=>C.vC G (C.aH G.t cs.data.toList) h);have iO:=bx (C.uZ G (C.aH G.t cs.data.toList));have pG:(C.aH G.t cs.data.toList).length<=1000:=by
   rw [C.tq];have h1:=(iq G.t cs.data.toList).2.len;have h2:=lM cs.data.toList;rw [<- size_eq] at h2;omega
  clear HR HF hgb hge hcs;generalize C.dD G (C.aH G.t cs.data.toList) n (C.aH G.t cs.data.toList).length=K at X4 hfl hfk;generalize C.marks G (C.aH G.t cs.data.toList)=ms at X5 lJ iO;generalize C.aS G (C.aH G.t cs.data.toList)=sn at lJ hfl;generalize (C.aH G.t cs.data.toList).length=Q at lJ iO hfl hfk pG;obtain⟨e0,e1,e2,e3,e4,e5,e6,e7,e8,e9,el⟩:=ay.o w3 (Below.refl _ w3);go_wp2_with fail;refine(X4.o w3 (Below.refl _ w3)).mono ?_;rintro ex w4 ⟨rfl,hb4⟩;clear e0 e1 e2 e3 e4 e5 e6 e7 e8 e9 el;have HB4:=bx (bT (Below.refl _ w3) hb4);clear hb4;obtain⟨e0,e1,e2,e3,e4,e5,e6,e7,e8,e9,el⟩:=ay.o w4 HB4.o;go_wp2_with fail;refine(X5.o w4 HB4.o).mono ?_;rintro ex w5 ⟨⟨mv,rfl,hmv⟩,hb5⟩;clear e0 e1 e2 e3 e4 e5 e6 e7 e8 e9 el;have aK:=bx (bT HB4.o hb5);clear hb5;obtain⟨cg,dK,cap,e1,e2,e3,e4,e5⟩:=hmv.get (by intro h;have h2:=iO.o;rw [h] at h2;simp at h2);rw [iO.o] at e1 e2;subst e1;have c1:=e5 K (sn K) (lJ.o K hfk);have c2:K<Q->w5.cell? ⟨cg,dK+(K+1),none⟩=some (.int .i64 (sn (K+1))):=λh=>e5 (K+1) (sn (K+1)) (lJ.o (K+1) h)
  have HC2:=bx c2;have gq:=bx hfl;have d1:decide ((K:Int)<0)=false:=decide_eq_false (by omega);have d2:decide ((Q:Int)+1<=(K:Int))=false:=decide_eq_false (by omega);have hk1:IntKind.i64.wrap ((K:Int)+1)=(K:Int)+1:=by rw [IntKind.wrap_i64];omega
  have EG:(K:Int)<(Q:Int)+1:=by omega
  unfold maxLen at e3;generalize sn K=S0 at c1 gq;obtain⟨S1,hS1⟩:∃ S,S=sn (K+1):=⟨_,rfl⟩
  rw [<- hS1] at HC2 gq;clear hmv e5 c2 hfl hS1;have h2:(K=Q/\((K:Int)+1==(Q:Int)+1)=true)\/(K<Q/\((K:Int)+1==(Q:Int)+1)=false/\decide (n<S1)=true):=by
   rcases Nat.lt_or_ge K Q with h | h
   ·right
    refine⟨h,?_,?_⟩
    ·rw [beq_eq_false_iff_ne];omega
    ·rcases gq.o.2 with h3 | h3
     ·omega
     ·exact decide_eq_true h3
   ·left
    exact⟨by omega,by rw [beq_iff_eq];omega⟩
  rcases gq.o.1 with⟨h3,h4⟩ | ⟨h3,h4⟩
  ·have a1:=decide_eq_true h3;have a2:((K:Int)==0)=true:=by rw [beq_iff_eq];omega
   rcases h2 with⟨-,h2⟩ | ⟨hlt,h2,a5⟩
   ·clear gq HC2 h3 h4 hfk pG;go_wp2_with fail;go_ret
    exact⟨rfl,bT HB3.o aK.o⟩
   ·have c2:=HC2.o hlt;have hlI:(K:Int)+1<(Q:Int)+1:=by omega
    have hl3:((K:Int)+1).toNat=K+1:=by omega
    clear gq HC2 h3 h4 hfk pG;go_wp2_with fail;go_ret
    exact⟨rfl,bT HB3.o aK.o⟩
  ·have a1:decide (n<0)=false:=decide_eq_false (by omega);have a2:=decide_eq_true h3;have a3:=decide_eq_true h4
   rcases h2 with⟨-,h2⟩ | ⟨hlt,h2,a5⟩
   ·clear gq HC2 h3 h4 hfk pG;go_wp2_with fail;go_ret
    exact⟨rfl,bT HB3.o aK.o⟩
   ·have c2:=HC2.o hlt;have hlI:(K:Int)+1<(Q:Int)+1:=by omega
    have hl3:((K:Int)+1).toNat=K+1:=by omega
    clear gq HC2 h3 h4 hfk pG;go_wp2_with fail;go_ret
    exact⟨rfl,bT HB3.o aK.o⟩
end
end Go.Proofs.YtdenoeakcflnmaaGreatDoor
