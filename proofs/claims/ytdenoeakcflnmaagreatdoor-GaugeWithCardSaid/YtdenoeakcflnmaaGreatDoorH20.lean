/- Texts of this claim. -/
import Derived.Lib.OthersKept
import Derived.Test.YtdenoeakcflnmaaGreatDoorH19

set_option maxHeartbeats 16000000
set_option maxRecDepth 100000
namespace Go.Proofs.YtdenoeakcflnmaaGreatDoor
section
open Go.RowKit
attribute [local go_sem] Oper.semAt_some
def Ar (w:World) (v:Value) (ls:List (ByteArray×Int)):Prop:=∃ b off cap,v = .slice (some ⟨b,off,none⟩) ls.length cap/\ls.length<=cap/\cap<=maxLen/\b<w.heap.size /\
 ∀ i x,ls[i]?=some x->w.cell? ⟨b,off+i*2,none⟩=some (.string x.1)/\w.cell? ⟨b,off+i*2+1,none⟩=some (.int .i64 x.2)
theorem Ar.below {w w':World} {v:Value} {ls:List (ByteArray×Int)} (h:Ar w v ls) (hb:Below w.heap.size w w'):Ar w' v ls:=by
 obtain⟨b,off,cap,h1,h2,h3,h4,h5⟩:=h;exact⟨b,off,cap,h1,h2,h3,Nat.lt_of_lt_of_le h4 hb.size,λi x hx=>⟨(hb.cell (p:=⟨b,off+i*2,none⟩) h4).trans (h5 i x hx).1,(hb.cell (p:=⟨b,off+i*2+1,none⟩) h4).trans (h5 i x hx).2⟩⟩
theorem Gq (W:World) (s:ByteArray) (n:Int) (T:TypeId):Ar (W.alloc (.cells #[.string s, .int .i64 n] T)) (.slice (some ⟨W.heap.size,0,none⟩) 1 1) [(s,n)]:=by
 have h:=aj.new W T #[.string s, .int .i64 n];refine⟨W.heap.size,0,1,rfl,Nat.le_refl _,by unfold maxLen;omega,h.lt,λi x hx=>?_⟩
 cases i with
 | zero =>
  simp only [List.getElem?_cons_zero,Option.some.injEq] at hx;subst hx;exact⟨(h.cell 0).trans rfl,(h.cell 1).trans rfl⟩
 | succ i=>simp at hx
theorem aje (W:World) (s e:ByteArray) (n m:Int) (T:TypeId):Ar (W.alloc (.cells #[.string s, .int .i64 n, .string e, .int .i64 m] T)) (.slice (some ⟨W.heap.size,0,none⟩) 2 2) [(s,n),(e,m)]:=by
 have h:=aj.new W T #[.string s, .int .i64 n, .string e, .int .i64 m];refine⟨W.heap.size,0,2,rfl,Nat.le_refl _,by unfold maxLen;omega,h.lt,λi x hx=>?_⟩
 match i with
 | 0 =>
  simp only [List.getElem?_cons_zero,Option.some.injEq] at hx;subst hx;exact⟨(h.cell 0).trans rfl,(h.cell 1).trans rfl⟩
 | 1 =>
  simp only [List.getElem?_cons_succ,List.getElem?_cons_zero,Option.some.injEq] at hx;subst hx;exact⟨(h.cell 2).trans rfl,(h.cell 3).trans rfl⟩
 | i+2=>simp at hx
theorem afj (v:Value) (ls:List (ByteArray×Int)) (w:World) (hv:Ar w v ls) (hz:ls.length<=100) (hal:∀ x∈ls,(x.1.size:Int)<=x.2) :
  Calls Tryz.prog 125 #[v, .func (.func 73) #[] #[]] w λe w'=>e = .returned (.int .i64 (-1))/\Below w.heap.size w w':=by
 have HO:=bx (λW (x:ByteArray×Int) (hx:x∈ls)=>show Calls Tryz.prog 73 #[.agg #[.string x.1, .int .i64 x.2]] W λe w'=>e = .returned (.bool false)/\Below W.heap.size W w' from(ahe x.1 x.2 W).mono λe w' h=>by
  have h9:=hal x hx;rw [decide_eq_false (show ¬ x.2<(x.1.size:Int) by omega)] at h;exact h)
 obtain⟨b,off,cap,rfl,h2,h3,h4,h5⟩:=hv;obtain⟨N,hN⟩:∃ N,ls.length=N:=⟨_,rfl⟩
 rw [hN] at hz h2 ⊢;have HN:=bx hN;have H5:=bx h5;unfold maxLen at h3;clear hal hN h5
 go_enter Tryz.func125,Tryz.ntmps125
 go_wp2_with fail
 go_loopw [8] (λi wr=>∃ k:Nat,k<=N/\i = .int .i64 k/\Box (Below w.heap.size w wr)) (λi _=>N-(intOf i).toNat)
 case atStart=>exact⟨0,by omega,rfl,⟨Below.refl _ _⟩⟩
 case round =>
  obtain⟨k,hk,rfl,hb⟩:=hrel
  by_cases hlt:k<N
  ·obtain⟨x,hx⟩:∃ x,ls[k]?=some x:=⟨_,List.getElem?_eq_getElem (by rw [HN.o];exact hlt)⟩
   have cx:=(hb.o.cell (p:=⟨b,off+k*2,none⟩) h4).trans (H5.o k x hx).1;have cy:=(hb.o.cell (p:=⟨b,off+k*2+1,none⟩) h4).trans (H5.o k x hx).2;have wK:=bx (HO.o wr x (List.mem_of_getElem? hx));have hbl:=Nat.lt_of_lt_of_le h4 hb.o.size;clear hx;go_wp2_with fail;refine wK.o.mono ?_;rintro e w1 ⟨rfl,hb1⟩;have HB1:=bx (bt hb.o hb1);clear hb1 cx cy hbl;go_wp2_with fail
   go_roundw
   case rel=>exact⟨k+1,by omega,by go_num,HB1⟩
   case measure=>simp [intOf];omega
  ·go_wp2_with fail;go_ret
   exact⟨rfl,hb.o⟩
theorem ajr (v:Value) (ls:List (ByteArray×Int)) (w:World) (hv:Ar w v ls) (hz:ls.length<=100) (hal:∀ x∈ls,(x.1.size:Int)<=x.2) :
  Calls Tryz.prog 72 #[v, .func (.func 73) #[] #[]] w λe w'=>e = .returned (.bool false)/\Below w.heap.size w w':=by
 have HI:=bx (afj v ls w hv hz hal);clear hv hal
 go_enter Tryz.func72,Tryz.ntmps72
 go_wp2_with fail;refine HI.o.mono ?_;rintro e w1 ⟨rfl,hb1⟩;have HB1:=bx hb1;clear hb1;go_wp2_with fail;go_ret
 exact⟨rfl,HB1.o⟩
def ny (mg:Nat):MapEntry:=⟨.int .i64 0, .func (.func 74) #[.pointer (some ⟨mg,0,none⟩)] #[],0⟩
def nT (mg:Nat):MapEntry:=⟨.int .i64 1, .func (.func 75) #[.pointer (some ⟨mg,0,none⟩)] #[],1⟩
def oC (mg:Nat):MapEntry:=⟨.int .i64 2, .func (.func 76) #[.pointer (some ⟨mg,0,none⟩)] #[],2⟩
structure Mt (w:World) (mg hm:Nat) (pi pb rv nv fv iv bv:Value) (g:C.Ga):Prop where
 blk:aj w mg 133 #[.int .i64 g.t.n,pi,pb,rv,nv,fv,iv,bv, .bool g.w.wide, .int .i64 g.k, .map (some hm)]
 how:w.heap[hm]?=some (.map #[ny mg,nT mg,oC mg] 3)
 tab:TabAt w (.agg #[.int .i64 g.t.n,pi,pb,rv,nv,fv]) g.t
 wid:WideAt w (.agg #[iv,bv, .bool g.w.wide]) g.w
theorem Mt.below {w w':World} {mg hm:Nat} {pi pb rv nv fv iv bv:Value} {g:C.Ga} (h:Mt w mg hm pi pb rv nv fv iv bv g) (hb:Below w.heap.size w w'):Mt w' mg hm pi pb rv nv fv iv bv g :=
 ⟨h.blk.below hb h.blk.lt,(hb.block hm (Array.getElem?_eq_some_iff.1 h.how).1).trans h.how,h.tab.below hb,h.wid.below hb⟩
theorem Dc (A:Nat->Addr) (B:Nat) (v lv:Value) (g:C.Ga) (w:World) (hv:dR w v g) (hs:dZ g.t) (hw:fF g.w) (hE:E A B w) (hD:Ed A B w) (hG:Eg A B w) (hB:B<=w.heap.size) (hb:C.bF g=false) :
  Calls Tryz.prog 35 #[v,lv] w λe w'=>e = .returned (.tuple #[.pointer none,jZ A 0])/\Below w.heap.size w w':=by
 have BM:=bx (λW (h:Below w.heap.size w W)=>Nv A B v g W (hv.below h) hs hw (hD.below (h.mono hB)) (hG.below (h.mono hB)) (Nat.le_trans hB h.size));have HVV:=bx (λW (h:Below w.heap.size w W)=>hv.below h);have kK:=bx (λW (h:Below w.heap.size w W)=>show W.cell? ⟨0,0,none⟩=some (.iface 354 (.pointer (some (A 0))))/\W.cell? ⟨1,0,none⟩=some (.iface 354 (.pointer (some (A 1)))) from
  ⟨(hE.below (h.mono hB)).cell 0 (by decide),(hE.below (h.mono hB)).cell 1 (by decide)⟩)
 obtain⟨tn,hn⟩:∃ n,n=g.t.n:=⟨_,rfl⟩
 obtain⟨wd,hwd⟩:∃ b,b=g.w.wide:=⟨_,rfl⟩
 obtain⟨gk,hgk⟩:∃ k,k=g.k:=⟨_,rfl⟩
 obtain⟨pi,pb,rv,nv,fv,iv,bv,rfl,h1,h2⟩:=hv;rw [<- hn] at h1;rw [<- hwd] at h2;rw [<- hn,<- hwd,<- hgk];obtain⟨V,hV⟩:∃ V,V=w.alloc (.cells #[.int .i64 tn,pi,pb,rv,nv,fv,iv,bv, .bool wd, .int .i64 gk] 35):=⟨_,rfl⟩
 have HB0:=bx (show Below w.heap.size w V by rw [hV];exact aO _ _);have HK:=bx (show aj V w.heap.size 35 #[.int .i64 tn,pi,pb,rv,nv,fv,iv,bv, .bool wd, .int .i64 gk] by rw [hV];exact aj.new _ _ _);have Lr:=bx (λW (h:Below w.heap.size w W)=>show TabAt W (.agg #[.int .i64 tn,pi,pb,rv,nv,fv]) g.t/\WideAt W (.agg #[iv,bv, .bool wd]) g.w from⟨h1.below h,h2.below h⟩);have ay:=bx (λW (h:Below V.heap.size V W)=>show W.cell? ⟨w.heap.size,0,none⟩=some (.int .i64 tn)/\W.cell? ⟨w.heap.size,1,none⟩=some (pi)/\W.cell? ⟨w.heap.size,2,none⟩=some (pb)/\W.cell? ⟨w.heap.size,3,none⟩=some (rv)/\W.cell? ⟨w.heap.size,4,none⟩=some (nv)/\W.cell? ⟨w.heap.size,5,none⟩=some (fv)/\W.cell? ⟨w.heap.size,6,none⟩=some (iv)/\W.cell? ⟨w.heap.size,7,none⟩=some (bv)/\W.cell? ⟨w.heap.size,8,none⟩=some (.bool wd)/\W.cell? ⟨w.heap.size,9,none⟩=some (.int .i64 gk)/\w.heap.size<W.heap.size from
  ⟨((HK.o.below h HK.o.lt).cell 0).trans rfl,((HK.o.below h HK.o.lt).cell 1).trans rfl,((HK.o.below h HK.o.lt).cell 2).trans rfl,((HK.o.below h HK.o.lt).cell 3).trans rfl,((HK.o.below h HK.o.lt).cell 4).trans rfl,((HK.o.below h HK.o.lt).cell 5).trans rfl,((HK.o.below h HK.o.lt).cell 6).trans rfl,((HK.o.below h HK.o.lt).cell 7).trans rfl,((HK.o.below h HK.o.lt).cell 8).trans rfl,((HK.o.below h HK.o.lt).cell 9).trans rfl,(HK.o.below h HK.o.lt).lt⟩)
 have HV:=bx hV;rw [<- hn,<- hwd,<- hgk] at BM HVV;have aG:=bx (show Below V.heap.size V (V.alloc (.cells #[.int .i64 tn,pi,pb,rv,nv,fv,iv,bv, .bool wd, .int .i64 gk, .map none] 133)) from aO V _);have dB:=bx (bt HB0.o aG.o);have I8:=bx (aj.new V 133 #[.int .i64 tn,pi,pb,rv,nv,fv,iv,bv, .bool wd, .int .i64 gk, .map none]);have aU:=bx (show V.heap.size=w.heap.size+1 by rw [hV];simp);have HR1:=bx (BM.o _ dB.o);obtain⟨g0,g1⟩:=kK.o _ dB.o;obtain⟨k0,k1,k2,k3,k4,k5,k6,k7,k8,k9,kk⟩:=ay.o V (Below.refl _ _);obtain⟨l0,l1,l2,l3,l4,l5,l6,l7,l8,l9,ll⟩:=ay.o _ aG.o;have LD:=bx hb;clear h1 h2 hV hs hw hn hwd hgk hE hD hG hB hb
 go_enter Tryz.func35,Tryz.ntmps35
 go_upto_region 1 with(fail)
 rw [<- HV.o];go_wp2_with fail;refine wG 0 rfl ?_;go_wp2_with fail;refine HR1.o.mono ?_;rintro e w1 ⟨rfl,hb1⟩;rw [LD.o];have HB1:=bx (bt dB.o hb1);clear hb1 g0 g1 k0 k1 k2 k3 k4 k5 k6 k7 k8 k9 kk l0 l1 l2 l3 l4 l5 l6 l7 l8 l9 ll;go_wp2_with fail
 go_step3
 refine⟨rfl,?_⟩;go_wp2_with fail;rw [Exit.noGoto_ret];go_ret2
 exact⟨rfl,HB1.o⟩
theorem Dz (A:Nat->Addr) (B:Nat) (v lv:Value) (g:C.Ga) (ls:List (ByteArray×Int)) (w:World) (hv:dR w v g) (hs:dZ g.t) (hw:fF g.w) (hE:E A B w) (hD:Ed A B w) (hG:Eg A B w) (hB:B<=w.heap.size) (hb:C.bF g=true) (hl:Ar w lv ls) (hz:ls.length<=100) (hal:∀ x∈ls,(x.1.size:Int)<=x.2) :
  Calls Tryz.prog 35 #[v,lv] w λe w'=>(∃ mg hm pi pb rv nv fv iv bv,e = .returned (.tuple #[.pointer (some ⟨mg,0,none⟩), .nilIface])/\Mt w' mg hm pi pb rv nv fv iv bv g)/\Below w.heap.size w w':=by
 have BM:=bx (λW (h:Below w.heap.size w W)=>Nv A B v g W (hv.below h) hs hw (hD.below (h.mono hB)) (hG.below (h.mono hB)) (Nat.le_trans hB h.size));have HVV:=bx (λW (h:Below w.heap.size w W)=>hv.below h);have kK:=bx (λW (h:Below w.heap.size w W)=>show W.cell? ⟨0,0,none⟩=some (.iface 354 (.pointer (some (A 0))))/\W.cell? ⟨1,0,none⟩=some (.iface 354 (.pointer (some (A 1)))) from
  ⟨(hE.below (h.mono hB)).cell 0 (by decide),(hE.below (h.mono hB)).cell 1 (by decide)⟩)
 have gB:=bx (λW (h:Below w.heap.size w W)=>ajr lv ls W (hl.below h) hz hal);obtain⟨tn,hn⟩:∃ n,n=g.t.n:=⟨_,rfl⟩
 obtain⟨wd,hwd⟩:∃ b,b=g.w.wide:=⟨_,rfl⟩
 obtain⟨gk,hgk⟩:∃ k,k=g.k:=⟨_,rfl⟩
 obtain⟨pi,pb,rv,nv,fv,iv,bv,rfl,h1,h2⟩:=hv;rw [<- hn] at h1;rw [<- hwd] at h2;rw [<- hn,<- hwd,<- hgk];obtain⟨V,hV⟩:∃ V,V=w.alloc (.cells #[.int .i64 tn,pi,pb,rv,nv,fv,iv,bv, .bool wd, .int .i64 gk] 35):=⟨_,rfl⟩
 have HB0:=bx (show Below w.heap.size w V by rw [hV];exact aO _ _);have HK:=bx (show aj V w.heap.size 35 #[.int .i64 tn,pi,pb,rv,nv,fv,iv,bv, .bool wd, .int .i64 gk] by rw [hV];exact aj.new _ _ _);have Lr:=bx (λW (h:Below w.heap.size w W)=>show TabAt W (.agg #[.int .i64 tn,pi,pb,rv,nv,fv]) g.t/\WideAt W (.agg #[iv,bv, .bool wd]) g.w from⟨h1.below h,h2.below h⟩);have ay:=bx (λW (h:Below V.heap.size V W)=>show W.cell? ⟨w.heap.size,0,none⟩=some (.int .i64 tn)/\W.cell? ⟨w.heap.size,1,none⟩=some (pi)/\W.cell? ⟨w.heap.size,2,none⟩=some (pb)/\W.cell? ⟨w.heap.size,3,none⟩=some (rv)/\W.cell? ⟨w.heap.size,4,none⟩=some (nv)/\W.cell? ⟨w.heap.size,5,none⟩=some (fv)/\W.cell? ⟨w.heap.size,6,none⟩=some (iv)/\W.cell? ⟨w.heap.size,7,none⟩=some (bv)/\W.cell? ⟨w.heap.size,8,none⟩=some (.bool wd)/\W.cell? ⟨w.heap.size,9,none⟩=some (.int .i64 gk)/\w.heap.size<W.heap.size from
  ⟨((HK.o.below h HK.o.lt).cell 0).trans rfl,((HK.o.below h HK.o.lt).cell 1).trans rfl,((HK.o.below h HK.o.lt).cell 2).trans rfl,((HK.o.below h HK.o.lt).cell 3).trans rfl,((HK.o.below h HK.o.lt).cell 4).trans rfl,((HK.o.below h HK.o.lt).cell 5).trans rfl,((HK.o.below h HK.o.lt).cell 6).trans rfl,((HK.o.below h HK.o.lt).cell 7).trans rfl,((HK.o.below h HK.o.lt).cell 8).trans rfl,((HK.o.below h HK.o.lt).cell 9).trans rfl,(HK.o.below h HK.o.lt).lt⟩)
 have HV:=bx hV;rw [<- hn,<- hwd,<- hgk] at BM HVV;have aG:=bx (show Below V.heap.size V (V.alloc (.cells #[.int .i64 tn,pi,pb,rv,nv,fv,iv,bv, .bool wd, .int .i64 gk, .map none] 133)) from aO V _);have dB:=bx (bt HB0.o aG.o);have I8:=bx (aj.new V 133 #[.int .i64 tn,pi,pb,rv,nv,fv,iv,bv, .bool wd, .int .i64 gk, .map none]);have aU:=bx (show V.heap.size=w.heap.size+1 by rw [hV];simp);have HR1:=bx (BM.o _ dB.o);obtain⟨g0,g1⟩:=kK.o _ dB.o;obtain⟨k0,k1,k2,k3,k4,k5,k6,k7,k8,k9,kk⟩:=ay.o V (Below.refl _ _);obtain⟨l0,l1,l2,l3,l4,l5,l6,l7,l8,l9,ll⟩:=ay.o _ aG.o;have LD:=bx hb;have TU:=bx (show tn=g.t.n/\wd=g.w.wide/\gk=g.k from⟨hn,hwd,hgk⟩);obtain⟨lb,iE,kV,rfl,-⟩:=hl;generalize ls.length=Q at gB hz ⊢;obtain⟨mg,hmg⟩:∃ mg,mg=V.heap.size:=⟨_,rfl⟩
 have hmm:=@run_makeMap Tryz.prog;have Dp:=λ(W:World)=>yQ (P:=Tryz.prog) Tryz.underlying131 Tryz.underlying3 W #[] 0 0 (ny mg).val W.heap.size rfl rfl
 have CG:=λ(W:World)=>yQ (P:=Tryz.prog) Tryz.underlying131 Tryz.underlying3 W #[ny mg] 1 1 (nT mg).val W.heap.size rfl rfl
 have CV:=λ(W:World)=>yQ (P:=Tryz.prog) Tryz.underlying131 Tryz.underlying3 W #[ny mg,nT mg] 2 2 (oC mg).val W.heap.size rfl rfl
 simp only [List.push_toArray,List.nil_append,List.cons_append,ny,nT,oC,Nat.reduceAdd,Nat.zero_add] at Dp CG CV;rw [hmg] at Dp CG CV;clear h1 h2 hV hs hw hn hwd hgk hE hD hG hB hb
 go_enter Tryz.func35,Tryz.ntmps35
 go_upto_region 1 with(fail)
 rw [<- HV.o];go_wp2_with fail;refine wG 0 rfl ?_;go_wp2_with fail;refine HR1.o.mono ?_;rintro e w1 ⟨rfl,hb1⟩;rw [LD.o];have iQ:=bx (bt aG.o hb1);have HB1:=bx (bt dB.o hb1);have jf:=bx (I8.o.below hb1 I8.o.lt);clear hb1 g0 g1 k0 k1 k2 k3 k4 k5 k6 k7 k8 k9 kk l0 l1 l2 l3 l4 l5 l6 l7 l8 l9 ll;obtain⟨g0,g1⟩:=kK.o w1 HB1.o;go_wp2_with fail;refine(gB.o w1 HB1.o).mono ?_;rintro e w2 ⟨rfl,hb2⟩;have HB2:=bx (bt HB1.o hb2);have wO:=bx (jf.o.below hb2 jf.o.lt).lt;have vK:=bx ((jf.o.below hb2 jf.o.lt).alloc (.map #[ny V.heap.size,nT V.heap.size,oC V.heap.size] 3));have c10:(w2.alloc (.map #[ny V.heap.size,nT V.heap.size,oC V.heap.size] 3)).cell? ⟨V.heap.size,10,none⟩=some (.map none):=(vK.o.cell 10).trans rfl;have f10:=vK.o.frozen 10;have l10:=vK.o.lt;simp only [ny,nT,oC] at c10 f10 l10;clear hb2 g0 g1;go_wp2_with fail;rw [wC];go_ret2
 have hT:=Turns.setCell (own:=λq=>q=V.heap.size) (w2.alloc (.map #[ny V.heap.size,nT V.heap.size,oC V.heap.size] 3)) (p:=⟨V.heap.size,10,none⟩) rfl (.map (some w2.heap.size));have hVl:=wO.o;have ZT:Below w.heap.size w ((w2.alloc (.map #[ny V.heap.size,nT V.heap.size,oC V.heap.size] 3)).setCell ⟨V.heap.size,10,none⟩ (.map (some w2.heap.size))):=(HB2.o.alloc HB2.o.size _).trans (hT.below ((HB2.o.alloc HB2.o.size _).size) (λk hk=>by have:=aU.o;omega));obtain⟨e1,e2,e3⟩:=TU.o;obtain⟨q1,q2⟩:=Lr.o _ ZT;rw [e1] at q1;rw [e2] at q2;have hbk:=vK.o.dh 10 (.map (some w2.heap.size));rw [e1,e2,e3] at hbk;exact⟨⟨V.heap.size,w2.heap.size,pi,pb,rv,nv,fv,iv,bv,rfl,⟨hbk,(hT.block _ (by simp) (by omega)).trans (World.alloc_heap_new w2 _),q1,q2⟩⟩,ZT⟩
end
section
open Go.RowKit
def sV (es:Array MapEntry) (q:Int):Option Value:=match Instr.findNow (.int .i32) (.int .i32 q) es.toList 0 with | some (some p)=>some p.2 | _=>none
def zF (es:Array MapEntry):Prop:=∀ x∈es.toList,∃ k,x.key = .int .i32 k
def wE:Value->Int->Bool
 | .int .i32 k,q=>decide (k=q)
 | _,_=>false
theorem ajl (v:Value) (q:Int):wE v q=true↔v = .int .i32 q:=by
 constructor
 ·intro h;unfold wE at h
  split at h
  ·simp at h;subst h;rfl
  ·cases h
 ·rintro rfl;simp [wE]
def oP:List MapEntry->Int->Option Value
 | [],_=>none
 | e::es,q=>if wE e.key q=true then some e.val else oP es q
theorem MZ (q:Int):∀ (l:List MapEntry) (i:Nat),(∀ x∈l,∃ k,x.key = .int .i32 k) ->
  (Instr.findNow (.int .i32) (.int .i32 q) l i=some none/\oP l q=none)\/∃ j v,Instr.findNow (.int .i32) (.int .i32 q) l i=some (some (i+j,v))/\oP l q=some v/\∃ e,l[j]?=some e/\e.key = .int .i32 q/\e.val=v
 | [],_,_=>.inl ⟨rfl,rfl⟩
 | e::es,i,h=>by
  obtain⟨k,hk⟩:=h e (List.mem_cons_self ..)
  by_cases hq:q=k
  ·subst hq;refine .inr ⟨0,e.val,?_,?_,e,rfl,hk,rfl⟩
   ·simp [Instr.findNow,Instr.sameNow,hk]
   ·simp [oP,wE,hk]
  ·have hq':(q==k)=false:=by simpa using hq
   have hkq:¬ k=q:=λe=>hq e.symm
   rcases MZ q es (i+1) (λx hx=>h x (List.mem_cons_of_mem _ hx)) with⟨h1,h2⟩ | ⟨j,v,h1,h2,e',h3,h4⟩
   ·exact .inl ⟨by simp [Instr.findNow,Instr.sameNow,hk,hq',h1],by simp [oP,wE,hk,hkq,h2]⟩
   ·exact .inr ⟨j+1,v,by simp [Instr.findNow,Instr.sameNow,hk,hq',h1];omega,by simp [oP,wE,hk,hkq,h2],e',h3,h4⟩
theorem G6 {es:Array MapEntry} (h:zF es) (q:Int):sV es q=oP es.toList q:=by
 unfold sV
 rcases MZ q es.toList 0 h with⟨h1,h2⟩ | ⟨j,v,h1,h2,_⟩ <;> rw [h1,h2]
theorem aiT (l:List MapEntry) (e:MapEntry) (k q:Int) (hk:e.key = .int .i32 k) (hn:oP l k=none):oP (l++[e]) q=if q=k then some e.val else oP l q:=by
 induction l with
 | nil =>
  by_cases h:q=k
  ·subst h;simp [oP,wE,hk]
  ·have:¬ k=q:=λe=>h e.symm
   simp [oP,wE,hk,h,this]
 | cons x t ih =>
  simp only [oP] at hn
  split at hn
  ·cases hn
  ·rename_i hx
   simp only [List.cons_append,oP];rw [ih hn]
   by_cases h:q=k
   ·subst h;rw [if_neg hx,if_pos rfl,if_pos rfl]
   ·rw [if_neg h,if_neg h]
theorem aco (k q:Int) (v:Value):∀ (l:List MapEntry) (j:Nat) (e:MapEntry),l[j]?=some e->e.key = .int .i32 k->oP l k=some e.val->(∀ i x,i<j->l[i]?=some x->x.key≠.int .i32 k) ->
  oP (l.modify j (λe=>{ e with key:=.int .i32 k,val:=v })) q=if q=k then some v else oP l q
 | [],_,_,h,_,_,_=>by simp at h
 | x::t,0,e,h,hk,_,_=>by
  simp at h;subst h;simp only [List.modify_zero_cons,oP]
  by_cases hq:q=k
  ·subst hq;simp [wE]
  ·have:¬ k=q:=λe=>hq e.symm
   simp [hq,this,hk,wE]
 | x::t,j+1,e,h,hk,hl,hf=>by
  have hx:=hf 0 x (by omega) rfl;simp only [List.getElem?_cons_succ] at h;simp only [oP] at hl;have hx':¬ wE x.key k=true:=λe=>hx ((ajl _ _).mp e)
  rw [if_neg hx'] at hl;have ih:=aco k q v t j e h hk hl (λi y hi hy=>hf (i+1) y (by omega) (by simpa using hy));simp only [List.modify_succ_cons,oP];rw [ih]
  by_cases hq:q=k
  ·subst hq;rw [if_neg hx',if_pos rfl,if_pos rfl]
  ·rw [if_neg hq,if_neg hq]
theorem aaJ (k:Int):∀ (l:List MapEntry) (i j:Nat) (v:Value),(∀ x∈l,∃ k,x.key = .int .i32 k)->Instr.findNow (.int .i32) (.int .i32 k) l i=some (some (i+j,v))->∀ m x,m<j->l[m]?=some x->x.key≠.int .i32 k
 | [],_,_,_,_,h=>by simp [Instr.findNow] at h
 | e::es,i,j,v,hk,h=>by
  obtain⟨k',hk'⟩:=hk e (List.mem_cons_self ..)
  by_cases hq:k=k'
  ·subst hq;simp [Instr.findNow,Instr.sameNow,hk'] at h;intro m x hm;omega
  ·have hq':(k==k')=false:=by simpa using hq
   simp [Instr.findNow,Instr.sameNow,hk',hq'] at h;intro m x hm hx
   cases m with
   | zero =>
    simp at hx;subst hx;rw [hk'];intro e;injection e with _ e;exact hq e.symm
   | succ m =>
    exact aaJ k es (i+1) (j-1) v (λx hx=>hk x (List.mem_cons_of_mem _ hx)) (by rw [h];congr 3;omega) m x (by omega) (by simpa using hx)
section
variable {P:Program} {T K E:TypeId}
theorem Xv (hm:P.underlying T=some (.map K E)) (hk:P.underlying K=some (.int .i32)) (W:World) (es:Array MapEntry) (clk:Nat) (k:Int) (v:Value) (n:Nat) (hg:W.heap[n]?=some (.map es clk)) (hik:zF es) :
  ∃ es' nP,(Instr.mapUpdate T (.map (some n)) (.int .i32 k) v).run P W = .ok () (W.putObj n (.map es' nP))/\zF es'/\∀ q,sV es' q=if q=k then some v else sV es q:=by
 have h1:(Instr.checkKey false 10000 K (.int .i32 k)).run P W = .ok () W:=MapKept.run_checkKey hk (by simp [MapKept.IsKey]) false 9999
 rcases MZ k es.toList 0 hik with⟨hf,hl⟩ | ⟨j,v0,hf,hl,e,he,hek,hev⟩
 ·have h2:=MapKept.run_findKey (P:=P) (w:=W) hk hf;have hik':zF (es.push ⟨.int .i32 k,v,clk⟩):=by
   intro x hx;rw [Array.toList_push,List.mem_append,List.mem_singleton] at hx
   rcases hx with hx | rfl
   ·exact hik x hx
   ·exact⟨k,rfl⟩
  refine⟨es.push ⟨.int .i32 k,v,clk⟩,clk+1,?_,hik',λq=>?_⟩
  ·unfold Instr.mapUpdate;simp only [Sem.run_bind,run_underlying hm,Result.andThen,MapKept.run_getObj_map hg,h1,h2,MapKept.run_setObj_map _ hg]
   rfl
  ·rw [G6 hik',G6 hik,Array.toList_push,aiT _ _ k q rfl hl]
 ·have h2:=MapKept.run_findKey (P:=P) (w:=W) hk hf;rw [Nat.zero_add] at hf h2;have hje:es[j]?=some e:=by simpa using he
  have hik':zF (es.modify j (λe=>{ e with key:=.int .i32 k,val:=v })):=by
   intro x hx
   rcases MapFrom.mem_modify hx with hx | ⟨e',_,rfl⟩
   ·exact hik x hx
   ·exact⟨k,rfl⟩
  refine⟨es.modify j (λe=>{ e with key:=.int .i32 k,val:=v }),clk,?_,hik',λq=>?_⟩
  ·unfold Instr.mapUpdate;simp only [Sem.run_bind,run_underlying hm,Result.andThen,MapKept.run_getObj_map hg,h1,h2,hje,Option.map_some,Option.getD_some,hek,MapKept.run_keyThatStays (k:=.int .i32 k) (d:=.int .i32) (by simp [MapKept.IsKey]),MapKept.run_setObj_map _ hg]
   rfl
  ·rw [G6 hik',G6 hik,Array.toList_modify];exact aco k q v es.toList j e he hek (by rw [hl,hev]) (λi x hi hx=>aaJ k es.toList 0 j v0 hik (by rw [Nat.zero_add];exact hf) i x hi hx)
end
theorem YI {P:Program} {T K E:TypeId} (hm:P.underlying T=some (.map K E)) (hk:P.underlying K=some (.int .i32)) (W:World) (es:Array MapEntry) (clk:Nat) (k:Int) (n:Nat) (hg:W.heap[n]?=some (.map es clk)) (hik:zF es) (z:Value) (hz:(zeroValue E).run P W = .ok z W) :
  (Instr.lookup T (.map (some n)) (.int .i32 k) true).run P W = .ok (.tuple #[(sV es k).getD z, .bool (sV es k).isSome]) W:=by
 have h1:(Instr.checkKey es.isEmpty 10000 K (.int .i32 k)).run P W = .ok () W:=MapKept.run_checkKey hk (by simp [MapKept.IsKey]) _ 9999
 rcases MZ k es.toList 0 hik with⟨hf,hl⟩ | ⟨j,v,hf,hl,_⟩
 ·have h2:=MapKept.run_findKey (P:=P) (w:=W) hk hf;unfold Instr.lookup;rw [G6 hik,hl];simp only [Sem.run_bind,run_underlying hm,Result.andThen,MapKept.run_getObj_map hg,h1,h2,Sem.run_pure,if_true,hz,Option.getD_none,Option.isSome_none]
 ·have h2:=MapKept.run_findKey (P:=P) (w:=W) hk hf;unfold Instr.lookup;rw [G6 hik,hl];simp only [Sem.run_bind,run_underlying hm,Result.andThen,MapKept.run_getObj_map hg,h1,h2,Sem.run_pure,if_true,Option.getD_some,Option.isSome_some]
def vT (W:World) (km:Nat) (t:F.Trie):Prop:=∃ es clk,W.heap[km]?=some (.map es clk)/\zF es/\∀ q v,sV es q=some v->v = .int .i64 (F.says t q)
theorem vT.lt {W:World} {km:Nat} {t:F.Trie} (h:vT W km t):km<W.heap.size:=by
 obtain⟨es,clk,h,-⟩:=h;exact(Array.getElem?_eq_some_iff.1 h).1
theorem vT.block {W W':World} {km:Nat} {t:F.Trie} (h:vT W km t) (hb:W'.heap[km]?=W.heap[km]?):vT W' km t:=by
 obtain⟨es,clk,h1,h2,h3⟩:=h;exact⟨es,clk,hb.trans h1,h2,h3⟩
theorem vT.turns {own:Nat->Prop} {W W':World} {km:Nat} {t:F.Trie} (h:vT W km t) (ht:Turns own W W') (ho:¬ own km):vT W' km t:=h.block (ht.block _ h.lt ho)
def Pc.KX (km:Nat) (t:F.Trie):Pc where
 fp k:=k=km
 ok W:=vT W km t
 keep:=λ{_ _ _} h ht ho=>h.turns ht (ho km rfl)
 lt:=λ{_ _} h hk=>hk▸h.lt
theorem ZX (W:World):(zeroValue 3).run Tryz.prog W = .ok (.int .i64 0) W:=by kernel_rfl
theorem Sz (W:World) (it:Nat) (s:ByteArray) (p:Nat):Turns (λk=>k=it) W (W.iterAt it s p) :=
 ⟨rfl,rfl,rfl,by rw [Lib.iterAt_size];exact Nat.le_refl _,λk _ ho=>Lib.iterAt_other W it k s p (λe=>ho e)⟩
theorem acU {xs:List Int} {k:Nat} {x:Int} (h:xs[k]?=some x):(U.textOf xs).drop (U.textOf (xs.take k)).length=U.enc x++U.textOf (xs.drop (k+1))/\U.textOf (xs.take (k+1))=U.textOf (xs.take k)++U.enc x:=by
 have e:=List.drop_eq_getElem_cons (l:=xs) (i:=k) (List.getElem?_eq_some_iff.1 h).1;rw [(List.getElem?_eq_some_iff.1 h).2] at e;have e2:xs=xs.take k++x::xs.drop (k+1):=by rw [<- e];exact(List.take_append_drop k xs).symm
 constructor
 ·have e3:U.textOf xs=U.textOf (xs.take k)++(U.enc x++U.textOf (xs.drop (k+1))):=by
   have:U.textOf xs=U.textOf (xs.take k++x::xs.drop (k+1)):=by rw [<- e2]
   rw [this];unfold U.textOf;rw [List.flatMap_append,List.flatMap_cons]
  rw [e3,List.drop_left]
 ·unfold U.textOf;rw [List.take_add_one,h,List.flatMap_append];simp
end
section
open Go.RowKit
attribute [local go_sem] Oper.semAt_some
def pY (W:World) (km:Nat) (c:C.Wd):Prop:=∃ es clk,W.heap[km]?=some (.map es clk)/\zF es/\∀ q v,sV es q=some v->v = .int .i64 (C.jB c q)
theorem pY.lt {W:World} {km:Nat} {c:C.Wd} (h:pY W km c):km<W.heap.size:=by
 obtain⟨es,clk,h,-⟩:=h;exact(Array.getElem?_eq_some_iff.1 h).1
theorem pY.block {W W':World} {km:Nat} {c:C.Wd} (h:pY W km c) (hb:W'.heap[km]?=W.heap[km]?):pY W' km c:=by
 obtain⟨es,clk,h1,h2,h3⟩:=h;exact⟨es,clk,hb.trans h1,h2,h3⟩
theorem pY.turns {own:Nat->Prop} {W W':World} {km:Nat} {c:C.Wd} (h:pY W km c) (ht:Turns own W W') (ho:¬ own km):pY W' km c:=h.block (ht.block _ h.lt ho)
def Pc.Ep (km:Nat) (c:C.Wd):Pc where
 fp k:=k=km
 ok W:=pY W km c
 keep:=λ{_ _ _} h ht ho=>h.turns ht (ho km rfl)
 lt:=λ{_ _} h hk=>hk▸h.lt
def qM (rg km:Nat) (iv bv:Value) (c:C.Wd) (ps:List Pc):List Pc:=Pc.blk rg 166 #[iv,bv, .bool c.wide, .map (some km)]::Pc.Ep km c::ps
theorem adz (rg km:Nat) (iv bv:Value) (c:C.Wd) (ps:List Pc) (r:Nat) (hr:r<=1114111) (w:World) (hs:fF c) (ht:F.iw c.p=true) (hR:∀ W,Sep ps W->aB W iv c.p.1/\fJ W bv c.p.2) (hS:Sep (qM rg km iv bv c ps) w) :
  Calls Tryz.prog 159 #[.pointer (some ⟨rg,0,none⟩), .int .i32 (r:Int)] w λe w'=>e = .returned (.int .i64 (C.jB c (r:Int)))/\Turns (λk=>k=km) w w'/\pY w' km c:=by
 have iZ:=bx (show C.jB c (r:Int)=if F.says c.p (r:Int)=3\/F.says c.p (r:Int)=4\/(F.says c.p (r:Int)=1/\c.wide=true) then 2 else if F.says c.p (r:Int)=6 then 0 else 1 from rfl);have DC:=bx (show pY w km c from hS.at' 1 rfl);have bf:=bx (hS.blk 0 rfl);obtain⟨h1,h2⟩:=hR w hS.tail.tail;have Wq:=bx (adq (.agg #[iv,bv]) c.p r w ⟨iv,bv,rfl,h1,h2⟩ ⟨hs.p1,hs.p2,hs.p3⟩ ht hr);obtain⟨es,clk,hm,hik,hes⟩:=DC.o;have hlk:=YI Tryz.underlying147 Tryz.underlying21 w es clk (r:Int) km hm hik _ (ZX w);obtain⟨wd,hwd⟩:∃ b,b=c.wide:=⟨_,rfl⟩
 rw [<- hwd] at iZ bf;generalize F.says c.p (r:Int)=y at iZ Wq;have c0:w.cell? ⟨rg,0,none⟩=some iv:=(bf.o.cell 0).trans rfl;have c1:w.cell? ⟨rg,1,none⟩=some bv:=(bf.o.cell 1).trans rfl;have c3:w.cell? ⟨rg,3,none⟩=some (.map (some km)):=(bf.o.cell 3).trans rfl;have cl:=bf.o.lt;have Z8:IntKind.i64.wrap (r:Int)=(r:Int):=by rw [IntKind.wrap_i64];omega
 cases hq:sV es (r:Int) with
 | some v =>
  rw [hq,Option.getD_some,Option.isSome_some,hes _ v hq] at hlk;generalize C.jB c (r:Int)=res at hlk ⊢;clear hq hes hik hm h1 h2 hwd hR hS hs ht Wq iZ
  go_enter Tryz.func159,Tryz.ntmps159
  go_wp2_with fail;go_ret
  exact⟨rfl,Turns.refl _ _,DC.o⟩
 | none =>
  rw [hq,Option.getD_none,Option.isSome_none] at hlk;have qo:=bx (λ(w1:World) (hb:Below w.heap.size w w1) (n:Int) (hn:C.jB c (r:Int)=n) (es':Array MapEntry) (nP:Nat) (hk:zF es') (hg:∀ q,sV es' q=if q=(r:Int) then some (.int .i64 n) else sV es q) =>
   show Ending.returned (.int .i64 n) = .returned (.int .i64 (C.jB c (r:Int)))/\Turns (λk=>k=km) w (w1.putObj km (.map es' nP))/\pY (w1.putObj km (.map es' nP)) km c from by
    have hm1:w1.heap[km]?=some (.map es clk):=(hb.block km (Array.getElem?_eq_some_iff.1 hm).1).trans hm;refine⟨by rw [hn],(Turns.of_below hb).trans (Turns.putObj (own:=λk=>k=km) _ rfl _),es',nP,World.putObj_heap_same (abl hm1),hk,λq v hq=>?_⟩;rw [hg] at hq
    split at hq
    ·rename_i e;subst e;injection hq with hq;rw [<- hq,hn]
    ·exact hes q v hq)
  have sQ:=bx (λ(w1:World) (hb:Below w.heap.size w w1) (n:Int)=>Xv Tryz.underlying147 Tryz.underlying21 w1 es clk (r:Int) (.int .i64 n) km ((hb.block km (Array.getElem?_eq_some_iff.1 hm).1).trans hm) hik);have hcase:y=3\/y=4\/(y=1/\wd=true)\/(y=1/\wd=false)\/y=6\/(y≠3/\y≠4/\y≠1/\y≠6):=by
   cases wd <;> simp <;> omega
  generalize C.jB c (r:Int)=res at iZ qo ⊢;clear hq hes hik hm h1 h2 hwd hR hS hs ht
  go_enter Tryz.func159,Tryz.ntmps159
  go_wp2_with fail;refine Wq.o.mono ?_;rintro e w1 ⟨rfl,hb1⟩;have HB1:=bx hb1;have hbk:=bf.o.below hb1 bf.o.lt;have d2:w1.cell? ⟨rg,2,none⟩=some (.bool wd):=(hbk.cell 2).trans rfl;have d3:w1.cell? ⟨rg,3,none⟩=some (.map (some km)):=(hbk.cell 3).trans rfl;have dl:=hbk.lt;clear hb1 hbk c0 c1 c3 cl hlk
  rcases hcase with rfl | rfl | ⟨rfl,rfl⟩ | ⟨rfl,rfl⟩ | rfl | ⟨n3,n4,n1,n6⟩
  ·obtain⟨es',nP,hu,hik',hes'⟩:=sQ.o w1 HB1.o 2;have HF:=bx (qo.o w1 HB1.o 2 (by rw [iZ.o];simp) es' nP hik' hes');clear hik' hes';go_wp2_with fail;go_ret
   exact HF.o
  ·obtain⟨es',nP,hu,hik',hes'⟩:=sQ.o w1 HB1.o 2;have HF:=bx (qo.o w1 HB1.o 2 (by rw [iZ.o];simp) es' nP hik' hes');clear hik' hes';go_wp2_with fail;go_ret
   exact HF.o
  ·obtain⟨es',nP,hu,hik',hes'⟩:=sQ.o w1 HB1.o 2;have HF:=bx (qo.o w1 HB1.o 2 (by rw [iZ.o];simp) es' nP hik' hes');clear hik' hes';go_wp2_with fail;go_ret
   exact HF.o
  ·obtain⟨es',nP,hu,hik',hes'⟩:=sQ.o w1 HB1.o 1;have HF:=bx (qo.o w1 HB1.o 1 (by rw [iZ.o];simp) es' nP hik' hes');clear hik' hes';go_wp2_with fail;go_ret
   exact HF.o
  ·obtain⟨es',nP,hu,hik',hes'⟩:=sQ.o w1 HB1.o 0;have HF:=bx (qo.o w1 HB1.o 0 (by rw [iZ.o];simp) es' nP hik' hes');clear hik' hes';go_wp2_with fail;go_ret
   exact HF.o
  ·have e3:(y==3)=false:=by rw [beq_eq_false_iff_ne];exact n3
   have e4:(y==4)=false:=by rw [beq_eq_false_iff_ne];exact n4
   have e1:(y==1)=false:=by rw [beq_eq_false_iff_ne];exact n1
   have e6:(y != 6)=true:=by rw [bne_iff_ne];exact n6
   rw [if_neg (by omega),if_neg n6] at iZ;clear n3 n4 n1 n6;obtain⟨es',nP,hu,hik',hes'⟩:=sQ.o w1 HB1.o 1;have HF:=bx (qo.o w1 HB1.o 1 (by exact iZ.o) es' nP hik' hes');clear hik' hes';go_wp2_with fail;go_ret
   exact HF.o
theorem Vj {xs:List Int} {k:Nat} {x:Int} (hx:xs[k]?=some x):C.emoji (xs.take (k+1))=(C.emoji (xs.take k)||(decide (0<k)&&(x==65039))):=by
 unfold C.emoji;rw [List.take_add_one,hx,Option.toList_some,List.drop_append];have hk:(xs.take k).length=k:=by rw [List.length_take];have:=(List.getElem?_eq_some_iff.1 hx).1;omega
 rw [hk,List.any_append]
 cases k with
 | zero=>simp
 | succ k=>simp
theorem JU:∀ xs:List Int,xs.length<=(U.textOf xs).length
 | []=>Nat.le_refl _
 | x::t=>by
  unfold U.textOf;rw [List.flatMap_cons,List.length_append,List.length_cons];have h1:=(U.Kz x).1;have h2:=JU t;unfold U.textOf at h2;omega
theorem WM {c:C.Wd} {xs:List Int} {k:Nat} {x:Int} (hx:xs[k]?=some x):C.most c (xs.take (k+1))=max (C.most c (xs.take k)) (C.jB c x):=by
 rw [List.take_add_one,hx];exact C.ajy c _ x
def uh (n pb km it:Nat) (tn:Int) (pi Es rv nv fv:Value) (s:ByteArray) (pos:Nat) (ov:Value) (acc:List Int) (t:F.Trie) (W0:World):List Pc :=
 [Pc.obj it (.stringIter s pos),Pc.row n 3 1 ov acc.length (acc.map (Value.int .i64)),Pc.blk pb 150 #[.int .i64 tn,pi,Es,rv,nv,fv, .string s,ov],Pc.KX km t,Pc.old n W0]
theorem aaV {n pg km it:Nat} {tn:Int} {pi Es rv nv fv:Value} {s:ByteArray} {pos:Nat} {ov yE:Value} {acc r:List Int} {y:Int} {t:F.Trie} {W0 W:World}
  (h:Sep ((uh n pg km it tn pi Es rv nv fv s pos ov acc t W0).set 1 (Pc.row n 3 1 yE (acc.length+1) (acc.map (Value.int .i64)++[.int .i64 y]))) W) (hr:r=acc++[y]):Sep (uh n pg km it tn pi Es rv nv fv s pos yE r t W0) (W.setCell ⟨pg,7,none⟩ yE):=by
 subst hr;rw [show acc.map (Value.int .i64)++[.int .i64 y]=(acc++[y]).map (Value.int .i64) by simp,show acc.length+1=(acc++[y]).length by simp] at h;exact h.set 2 rfl 7 yE
theorem Zj (A:Nat->Addr) (B:Nat) (v:Value) (t:Tab) (s:ByteArray) (w:World) (hv:TabAt w v t) (hs:dZ t) (hz:s.size<=100000) (hE:E A B w) (hD:Ed A B w) (hG:Eg A B w) (hB:B<=w.heap.size) (he:textE t s.data.toList=0) :
  Calls Tryz.prog 47 #[v, .string s] w λe w'=>∃ pi Es rv nv fv pb ov,v = .agg #[.int .i64 t.n,pi,Es,rv,nv,fv]/\e = .returned (.tuple #[.pointer (some ⟨pb,0,none⟩), .nilIface]) /\
   aj w' pb 150 #[.int .i64 t.n,pi,Es,rv,nv,fv, .string ⟨(M.fix s.data.toList).toArray⟩,ov]/\aB w' ov (dW t.p (aT s.data.toList))/\Below w.heap.size w w':=by
 obtain⟨pi,pb,rv,nv,fv,rfl,h1,h2,h3,h4,h5⟩:=hv;obtain⟨V,hV⟩:∃ V,V=w.alloc (.cells #[.int .i64 t.n,pi,pb,rv,nv,fv] 31):=⟨_,rfl⟩
 have HB0:=bx (show Below w.heap.size w V by rw [hV];exact aO _ _);have HK:=bx (show aj V w.heap.size 31 #[.int .i64 t.n,pi,pb,rv,nv,fv] by rw [hV];exact aj.new _ _ _);have bD:=bx (λW (h:Below w.heap.size w W)=>show TabAt W (.agg #[.int .i64 t.n,pi,pb,rv,nv,fv]) t from⟨pi,pb,rv,nv,fv,rfl,h1.below h,h2.below h,h3.below h,h4.below h,h5.below h⟩);have ay:=bx (λW (h:Below V.heap.size V W)=>HK.o.c6 h);have HV:=bx hV;have eH:=bx (abj A B _ t V (bD.o V HB0.o) hs (hD.below (HB0.o.mono hB)) (hG.below (HB0.o.mono hB)) (Nat.le_trans hB HB0.o.size));have Zf:=bx (λn (hn:n≠0) W=>amE 0 n hn W);obtain⟨t1,t2⟩:=JA he;have t3:=t1;unfold jy at t3;rw [Bool.and_eq_true] at t3;rw [<- size_eq] at t2;have uQ:=bx t1;have Kv:=bx (λ(r:Nat) (hr:r<=1114111)=>GN h1 h2 t3.2 r hr);have Hq:=bx (λW (h:Below w.heap.size w W)=>NT A B s W hz (hE.below (h.mono hB)) (Nat.le_trans hB h.size));have hfl:=Ri s.data.toList;rw [<- size_eq] at hfl;have mQ:=bx (AB s.data.toList);have HST:=bx (af9 s.data.toList);have hsl:=lM s.data.toList;rw [<- size_eq] at hsl;obtain⟨s',hs'⟩:∃ s':ByteArray,s'=⟨(M.fix s.data.toList).toArray⟩:=⟨_,rfl⟩
 have HSL:=bx (show s'.data.toList=M.fix s.data.toList by rw [hs']);have hsz:s'.size<=8000:=by rw [size_eq,HSL.o];omega
 rw [<- HSL.o] at HST;rw [<- hs'] at Hq ⊢;generalize aT s.data.toList=xs at mQ HST hsl ⊢;obtain⟨N,hN⟩:∃ N,xs.length=N:=⟨_,rfl⟩
 rw [hN] at hsl;have HN:=bx hN;have e1:decide ((2000:Int)<(s.size:Int))=false:=decide_eq_false (by omega);have hmm:=@run_makeMap Tryz.prog;clear he t1 t3 hs' hN hE hfl;obtain⟨tn,hn⟩:∃ n,n=t.n:=⟨_,rfl⟩
 rw [<- hn] at HV HK bD ay eH ⊢;clear h1 h2 h3 h4 h5 hV hs hn hD hG hB;obtain⟨k0,k1,k2,k3,k4,k5,kk⟩:=ay.o V (Below.refl _ _)
 go_enter Tryz.func47,Tryz.ntmps47
 go_upto_region 1 with(fail)
 rw [<- HV.o];go_wp2_with fail;refine wG 0 rfl ?_;go_wp2_with fail;refine(Zf.o 120 (by decide) _).mono ?_;rintro e w1 ⟨rfl,rfl⟩;go_wp2_with fail;refine eH.o.mono ?_;rintro e w2 ⟨rfl,hb2⟩;rw [uQ.o];have iV:=bx hb2;have HB2:=bx (bt HB0.o hb2);clear hb2 k0 k1 k2 k3 k4 k5 kk;go_wp2_with fail;refine(Zf.o 121 (by decide) _).mono ?_;rintro e w3 ⟨rfl,rfl⟩;go_wp2_with fail;have hk:vT (w2.alloc (.map #[] 0)) w2.heap.size t.p:=⟨#[],0,World.alloc_heap_new w2 _,λx hx=>by simp at hx,λq v hq=>by simp [sV,Instr.findNow] at hq⟩
 have hs1:Sep (Pc.KX w2.heap.size t.p::[Pc.old w.heap.size w]) (w2.alloc (.map #[] 0)):=((Sep.start w).below HB2.o).add (aO w2 (.map #[] 0)) (p:=Pc.KX w2.heap.size t.p) hk (λk hk=>by rw [show k=w2.heap.size from hk];exact Nat.le_refl _);have bI:=bx (show Below V.heap.size V (w2.alloc (.map #[] 0)).drew from(iV.o.trans ((aO w2 _).mono iV.o.size)).trans ((iD _ 1).mono (iV.o.trans ((aO w2 _).mono iV.o.size)).size));have dY:=bx (show Sep (Pc.KX w2.heap.size t.p::[Pc.old w.heap.size w]) (w2.alloc (.map #[] 0)).drew from hs1.drewN 1);have au:=bx (ay.o _ bI.o);clear hk hs1;refine fP 5 (λW'=>W'.cell? ⟨w.heap.size,0,none⟩=some (.int .i64 tn)/\W'.cell? ⟨w.heap.size,1,none⟩=some pi/\W'.cell? ⟨w.heap.size,2,none⟩=some pb/\W'.cell? ⟨w.heap.size,3,none⟩=some rv/\W'.cell? ⟨w.heap.size,4,none⟩=some nv/\W'.cell? ⟨w.heap.size,5,none⟩=some fv/\w.heap.size<W'.heap.size) (by kernel_rfl) ?_;generalize (w2.alloc (.map #[] 0)).drew=WR at bI dY au ⊢;have CO:=bx (Hq.o WR (bt HB0.o bI.o));refine kS 0 ?_ rfl au.o ?_ ?_;rotate_left
 ·rintro w ⟨q1,q2,q3,q4,q5,q6,q7⟩;go_simp;try with_reducible rfl
 refine kS 1 ?_ rfl au.o ?_ ?_;rotate_left
 ·rintro w ⟨q1,q2,q3,q4,q5,q6,q7⟩;go_simp;try with_reducible rfl
 refine kP 2 rfl λKK ah=>?_
 go_simp;refine CO.o.mono ?_;rintro e w4 ⟨rfl,hb4⟩;have aY:=bx (dY.o.below hb4);have HB4:=bx (bt bI.o hb4);have yt:=bx (ay.o w4 HB4.o);clear hb4;refine ah.out _ _ (λ_=>yt.o) ?_;clear ah KK;refine kP 3 rfl λKK ah=>?_
 go_simp;refine ah.out _ _ (λ_=>yt.o) ?_;clear ah KK;refine kP 4 rfl λKK ah=>?_
 go_simp;refine ah.out _ _ (λ_=>ay.o _ (HB4.o.trans ((aO w4 _).mono HB4.o.size))) ?_;clear ah KK;refine kP 5 rfl λKK ah=>?_
 go_simp;refine ah.out _ _ (λh=>by cases h) ?_;clear ah KK;refine kD ?_ _;have bU:=bx ((aY.o.bM 150 #[.int .i64 tn,pi,pb,rv,nv,fv, .string s', .slice none 0 0]).iW w.heap.size 1 3);have x6:(w4.alloc (.cells #[.int .i64 tn,pi,pb,rv,nv,fv, .string s', .slice none 0 0] 150)).cell? ⟨w4.heap.size,6,none⟩=some (.string s'):=((bU.o.blk 1 rfl).cell 6).trans rfl;have xl:=(bU.o.blk 1 rfl).lt;generalize hw5:w4.alloc (.cells #[.int .i64 tn,pi,pb,rv,nv,fv, .string s', .slice none 0 0] 150)=w5 at bU x6 xl ⊢;clear hw5;generalize w4.heap.size=pg at bU x6 xl ⊢;go_wp2_with fail;have jl:=bx (show Below w5.heap.size w5 (w5.iter s' 0) from aO w5 _);have aW:=bx (show Sep (uh w.heap.size pg w2.heap.size w5.heap.size tn pi pb rv nv fv s' (U.textOf (xs.take 0)).length (.slice none 0 0) (dW t.p (xs.take 0)) t.p w) (w5.iter s' 0) from
  bU.o.add jl.o (p:=Pc.obj w5.heap.size (.stringIter s' 0)) (World.iter_heap w5 s' 0) (λk hk=>by rw [show k=w5.heap.size from hk];exact Nat.le_refl _))
 clear x6 xl hmm;generalize w5.iter s' 0=w7 at aW jl ⊢;generalize w5.heap.size=it at aW ⊢
 go_loopw [10,11,12] (λu1 u2 u3 wr=>∃ k:Nat,k<=N/\∃ ov,Box (Sep (uh w.heap.size pg w2.heap.size it tn pi pb rv nv fv s' (U.textOf (xs.take k)).length ov (dW t.p (xs.take k)) t.p w) wr)) (λ_ _ _ wr=>s'.size-wr.iterPos it)
 case atStart=>exact⟨0,by omega,_,aW⟩
 case round =>
  obtain⟨k,hk,u9,hsep⟩:=hrel;obtain⟨pos,hps⟩:∃ pos,pos=(U.textOf (xs.take k)).length:=⟨_,rfl⟩
  rw [<- hps] at hsep;have zS:=bx hps;have hit:wr.heap[it]?=some (.stringIter s' pos):=hsep.o.at' 0 rfl;have HIT:=bx hit;clear hps
  by_cases hlt:k<N
  ·obtain⟨z,hzx⟩:∃ z,xs[k]?=some z:=⟨_,List.getElem?_eq_getElem (by rw [HN.o];exact hlt)⟩
   have EO:=mQ.o z (List.mem_of_getElem? hzx);obtain⟨r,rfl,hrz⟩:=GY EO;obtain⟨hd1,hd2⟩:=acU hzx;rw [HST.o,<- zS.o] at hd1;have iL:=bx hd2;have hel:=U.Kz (r:Int);have hpl:pos+(U.enc (r:Int)).length<=s'.size:=by
    have h9:=congrArg List.length hd1;rw [List.length_drop,List.length_append,<- size_eq] at h9;omega
   have iO:=bx (show pos<s'.size/\1<=(U.enc (r:Int)).length/\pos+(U.enc (r:Int)).length<=s'.size from⟨by omega,hel.1,hpl⟩);have hnx:=λty=>Lib.run_next_any_at (P:=Tryz.prog) wr it s' pos ty hit (by omega)
   rw [Yk s' pos r _ EO hd1] at hnx;simp only at hnx;have FH:=bx (show dW t.p (xs.take (k+1))=dW t.p (xs.take k)++[F.says t.p (r:Int)] by unfold dW;rw [List.take_add_one,hzx,List.map_append];rfl);have iI:=bx (show (dW t.p (xs.take k)).length<=1000000000 by unfold dW;rw [List.length_map,List.length_take];omega);obtain⟨w6,hw6⟩:∃ w6,w6=wr.iterAt it s' (pos+(U.enc (r:Int)).length):=⟨_,rfl⟩
   rw [<- hw6] at hnx;have dX:=bx (show Sep (uh w.heap.size pg w2.heap.size it tn pi pb rv nv fv s' (pos+(U.enc (r:Int)).length) u9 (dW t.p (xs.take k)) t.p w) w6 by
    rw [hw6];exact Sep.upd (ps:=uh w.heap.size pg w2.heap.size it tn pi pb rv nv fv s' pos u9 (dW t.p (xs.take k)) t.p w) (own:=λq=>q=it) 0 hsep.o rfl (Sz wr it s' _) (λ_ h _=>h) (p':=Pc.obj it (.stringIter s' (pos+(U.enc (r:Int)).length))) (Lib.iterAt_heap wr it s' pos _ hit) (λ_ h=>.inl h))
   obtain⟨es,clk,hm,hik,hes⟩:vT w6 w2.heap.size t.p:=dX.o.at' 3 rfl;have hlk:=YI Tryz.underlying147 Tryz.underlying21 w6 es clk (r:Int) w2.heap.size hm hik _ (ZX w6);obtain⟨y,hy⟩:∃ y,y=F.says t.p (r:Int):=⟨_,rfl⟩
   rw [<- hy] at FH;have HY:=bx hy;generalize dW t.p (xs.take k)=acc at hsep dX FH iI;clear hit hd1 hd2 EO hzx hw6 hpl hel
   cases hq:sV es (r:Int) with
   | some v =>
    rw [hq,Option.getD_some,Option.isSome_some,hes _ v hq,<- hy] at hlk;clear hq hes hik hm hy;obtain⟨w9,FN⟩:∃ w9,w9=w6:=⟨_,rfl⟩
    have jo:=bx (show Sep (uh w.heap.size pg w2.heap.size it tn pi pb rv nv fv s' (pos+(U.enc (r:Int)).length) u9 acc t.p w) w9 by rw [FN];exact dX.o);rw [<- FN] at hnx hlk;clear FN;have BK:=bx (show pos+(U.enc (r:Int)).length=(U.textOf (xs.take (k+1))).length by rw [iL.o,List.length_append,<- zS.o]);rw [BK.o] at jo;have hbs:w.heap.size<=w9.heap.size:=(jo.o.bel (n:=w.heap.size) (W0:=w) (by simp [uh])).size;have p7:w9.cell? ⟨pg,7,none⟩=some u9:=((jo.o.blk 2 rfl).cell 7).trans rfl;have pl:=(jo.o.blk 2 rfl).lt;go_wp2_with (at_builtin;refine ji (u:=.int .i64 y) rfl _ _ 22 rfl iT jo.o 1 rfl rfl rfl rfl iI.o (by omega) hbs ?_;rintro v7 w8 jY ⟨go7,gc7,rfl,-,-⟩;have kM:=bx jY;have p8:w8.cell? ⟨pg,7,none⟩=some u9:=((jY.blk 2 rfl).cell 7).trans rfl;have f8:=(jY.blk 2 rfl).frozen 7;have l8:=(jY.blk 2 rfl).lt;clear jY p7 pl hbs)
    have jJ:=bx (aaV kM.o FH.o);clear p8 f8 l8
    go_roundw
    case rel=>exact⟨k+1,by omega,_,jJ⟩
    case measure =>
     have h1:=jJ.o.at' 0 rfl;have h2:=HIT.o;have h3:=iO.o;simp only [World.iterPos];rw [show _=some (Obj.stringIter s' (U.textOf (xs.take (k+1))).length) from h1,h2];simp only;rw [BK.o.symm];omega
   | none =>
    rw [hq,Option.getD_none,Option.isSome_none] at hlk;have qF:=bx hes;obtain⟨g,off,cap,n',g2,off2,cap2,g3,nH,cap3,hi,a2,a3,a4,a5,a6,hb,b2,b3,b4,b5,c2,c3,c4,c5⟩:=Kv.o r hrz;rw [<- hy] at c5;have hbw:=dX.o.bel (n:=w.heap.size) (W0:=w) (by simp [uh]);have p1:w6.cell? ⟨pg,1,none⟩=some (.slice (some ⟨g,off,none⟩) 4352 cap):=((dX.o.blk 2 rfl).cell 1).trans (by rw [hi];rfl);have p2:w6.cell? ⟨pg,2,none⟩=some (.slice (some ⟨g2,off2,none⟩) t.p.2.length cap2):=((dX.o.blk 2 rfl).cell 2).trans (by rw [hb];rfl);have pl0:=(dX.o.blk 2 rfl).lt;obtain⟨d,hd⟩:∃ d,r / 256=d:=⟨_,rfl⟩
    obtain⟨q,Rf⟩:∃ q,r % 256=q:=⟨_,rfl⟩
    have hd1:d<4352:=by omega
    have hq1:q<256:=by omega
    rw [hd] at a5;rw [Rf] at c5;have d1:w6.cell? ⟨g,off+d,none⟩=some (.int .i64 (n':Nat)):=(hbw.cell (p:=⟨g,off+d,none⟩) a4).trans a5;have d2:w6.cell? ⟨g2,off2+n',none⟩=some (.slice (some ⟨g3,nH,none⟩) 256 cap3):=(hbw.cell (p:=⟨g2,off2+n',none⟩) b4).trans b5;have d3:w6.cell? ⟨g3,nH+q,none⟩=some (.int .i64 y):=(hbw.cell (p:=⟨g3,nH+q,none⟩) c4).trans c5;obtain⟨M,hM⟩:∃ M,M=t.p.2.length:=⟨_,rfl⟩
    rw [<- hM] at p2 a6 b2;have td:(r:Int).tdiv 256=(d:Int):=by rw [<- hd];rfl
    have tm:(r:Int).tmod 256=(q:Int):=by rw [<- Rf];rfl
    have wd:IntKind.i64.wrap (d:Int)=(d:Int):=by rw [IntKind.wrap_i64];omega
    have wq:IntKind.i64.wrap (q:Int)=(q:Int):=by rw [IntKind.wrap_i64];omega
    have Z8:IntKind.i64.wrap (r:Int)=(r:Int):=by rw [IntKind.wrap_i64];omega
    have di:(d:Int)<4352:=by omega
    have qi:(q:Int)<256:=by omega
    have ni:(n':Int)<(M:Int):=by omega
    have HM:=bx hm;have HIK:=bx hik;clear hes hik hm hy a4 a5 b4 b5 c4 c5 hd hq Rf hi hb hbw hM;go_wp2_with fail
    go_quiet (fail)
    obtain⟨es',nP,hu,hik',hes'⟩:=Xv Tryz.underlying147 Tryz.underlying21 (w6.drewN nq) es clk (r:Int) (.int .i64 y) w2.heap.size HM.o HIK.o;have hkn:vT ((w6.drewN nq).putObj w2.heap.size (.map es' nP)) w2.heap.size t.p:=⟨es',nP,World.putObj_heap_same (abl (w:=w6.drewN nq) HM.o),hik',λq v hq=>by
     rw [hes'] at hq
     split at hq
     ·rename_i e;subst e;injection hq with hq;rw [<- hq,HY.o]
     ·exact qF.o q v hq⟩
    have jo:=bx (Sep.upd (ps:=uh w.heap.size pg w2.heap.size it tn pi pb rv nv fv s' (pos+(U.enc (r:Int)).length) u9 acc t.p w) (own:=λq=>q=w2.heap.size) 3 (dX.o.drewN nq) rfl (Turns.putObj (own:=λq=>q=w2.heap.size) _ rfl _) (λ_ h _=>h) (p':=Pc.KX w2.heap.size t.p) hkn (λ_ h=>.inl h));have jo:=bx (show Sep (uh w.heap.size pg w2.heap.size it tn pi pb rv nv fv s' (pos+(U.enc (r:Int)).length) u9 acc t.p w) ((w6.drewN nq).putObj w2.heap.size (.map es' nP)) from jo.o);obtain⟨w9,FN⟩:∃ w9,w9=(w6.drewN nq).putObj w2.heap.size (.map es' nP):=⟨_,rfl⟩
    rw [<- FN] at jo hu;clear FN hkn hik' hes' hnx hlk p1 p2 pl0 d1 d2 d3 td tm wd wq Z8 di qi ni;have BK:=bx (show pos+(U.enc (r:Int)).length=(U.textOf (xs.take (k+1))).length by rw [iL.o,List.length_append,<- zS.o]);rw [BK.o] at jo;have hbs:w.heap.size<=w9.heap.size:=(jo.o.bel (n:=w.heap.size) (W0:=w) (by simp [uh])).size;have p7:w9.cell? ⟨pg,7,none⟩=some u9:=((jo.o.blk 2 rfl).cell 7).trans rfl;have pl:=(jo.o.blk 2 rfl).lt;go_wp2_with (at_builtin;refine ji (u:=.int .i64 y) rfl _ _ 22 rfl iT jo.o 1 rfl rfl rfl rfl iI.o (by omega) hbs ?_;rintro v7 w8 jY ⟨go7,gc7,rfl,-,-⟩;have kM:=bx jY;have p8:w8.cell? ⟨pg,7,none⟩=some u9:=((jY.blk 2 rfl).cell 7).trans rfl;have f8:=(jY.blk 2 rfl).frozen 7;have l8:=(jY.blk 2 rfl).lt;clear jY p7 pl hbs)
    have jJ:=bx (aaV kM.o FH.o);clear p8 f8 l8
    go_roundw
    case rel=>exact⟨k+1,by omega,_,jJ⟩
    case measure =>
     have h1:=jJ.o.at' 0 rfl;have h2:=HIT.o;have h3:=iO.o;simp only [World.iterPos];rw [show _=some (Obj.stringIter s' (U.textOf (xs.take (k+1))).length) from h1,h2];simp only;rw [BK.o.symm];omega
  ·obtain rfl:k=N:=by omega
   have hpe:¬ pos<s'.size:=by
    have h9:=zS.o;rw [List.take_of_length_le (by rw [HN.o];exact Nat.le_refl _),HST.o,<- size_eq] at h9;omega
   have hnx:=λty=>Lib.run_next_end_at (P:=Tryz.prog) wr it s' pos ty hit hpe
   have hsp:=hsep.o;rw [List.take_of_length_le (by rw [HN.o];exact Nat.le_refl _)] at hsp;have HI:=bx (aB.gK (hsp.row 1 rfl) rfl);have bf:=bx (hsp.blk 2 rfl);have oK:=bx (hsp.bel (n:=w.heap.size) (W0:=w) (by simp [uh]));clear hit hpe hsp;go_wp2_with fail;rw [wC];go_ret2
   exact⟨pi,pb,rv,nv,fv,pg,u9,rfl,rfl,bf.o,HI.o,oK.o⟩
end
namespace C
open Go.Proofs.YtdenoeakcflnmaaGreatDoor
theorem qp (s:List UInt8):M.fix s=U.textOf (aT s):=((U.qK _ _).1 (Fa s)).1.symm
theorem Jw {g:Ga} {s:List UInt8} (h:bJ g s=0):bF g=true/\s.length<=2000:=by
 unfold bJ at h
 split at h
 ·omega
 ·rename_i h1
  split at h
  ·omega
  ·exact⟨by simpa using h1,by omega⟩
theorem jL {g:Ga} {s:List UInt8} (h:bF g=true) (hs:s.length<=2000):bJ g s=0:=by
 unfold bJ;rw [if_neg (by rw [h];simp),if_neg (by omega)]
theorem Hw {g:Ga} (h:bF g=true):jy g.t=true/\kL g.w=true/\0<=g.k/\g.k<=2:=by
 unfold bF at h;simp only [Bool.and_eq_true,decide_eq_true_eq] at h;exact⟨h.1.1.1,h.1.1.2,h.1.2,h.2⟩
theorem nC {g:Ga} {s:List UInt8} (h:bF g=true) (hs:s.length<=2000):textE g.t s=0:=by
 unfold textE;rw [if_neg (by rw [(Hw h).1];simp),if_neg (by omega)]
theorem OH {g:Ga} {s:List UInt8} (h:bJ g s=0):(cZ g.t s).length=(aH g.t s).length:=by
 obtain⟨h1,h2⟩:=Jw h;unfold cZ;rw [if_pos (nC h1 h2),<- NY,List.length_map]
theorem Ei {g:Ga} {s:List UInt8} (h:bJ g s=0):cZ g.t s=(aH g.t s).map U.textOf:=by
 obtain⟨h1,h2⟩:=Jw h;unfold cZ;rw [if_pos (nC h1 h2),<- NY]
theorem Kt (g:Ga) (ls:List (List Int)) (k:Nat):0<=aS g ls k:=by
 have:=Qp g ls (Nat.zero_le k);rw [FQ] at this;exact this
end C
section
open Go.RowKit
attribute [local go_sem] Oper.semAt_some
theorem Jy (t:Tab) (s:List UInt8):(C.eX t s).length<=s.length+1:=by
 unfold C.eX
 split
 ·rw [C.tu];have h1:=(iq t s).2.len;have h2:=lM s;omega
 ·simp
def lD (n:Nat) (W0:World) (ov:Value) (l:List (List UInt8)):List Pc:=[Pc.row n 9 1 ov l.length (l.map jK),Pc.old n W0]
theorem V8 {n:Nat} {W0 w:World} {ov:Value} {l:List (List UInt8)} (h:Sep (lD n W0 ov l) w):dI w ov l:=dI.gK (h.row 0 rfl) rfl
end
end Go.Proofs.YtdenoeakcflnmaaGreatDoor
