/- Texts of this claim. -/
import Derived.Test.YtdenoeakcflnmaaGreatDoorH21

set_option maxRecDepth 100000
set_option maxHeartbeats 16000000
namespace Go.Proofs.YtdenoeakcflnmaaGreatDoor
section
open Go.RowKit
attribute [local go_sem] Oper.semAt_some
theorem anm (p:Option Addr) (c:List UInt8) (w:World) :
  Calls Tryz.prog 74 #[.pointer p, .string (bs c)] w λe w'=>e = .returned (.int .i64 (c.length:Int))/\w=w':=by
 have HZ:=bx (eU c)
 go_enter Tryz.func74,Tryz.ntmps74
 go_wp2
 go_ret
 exact⟨iF (by rw [HZ.o]),rfl⟩
theorem agh (p:Option Addr) (c:List UInt8) (w:World) (hc:1<=c.length) :
  Calls Tryz.prog 75 #[.pointer p, .string (bs c)] w λe w'=>e = .returned (.int .i64 1)/\w=w':=by
 have HZ:=bx (eU c);have HC:=bx hc;clear hc
 go_enter Tryz.func75,Tryz.ntmps75
 go_wp2
 go_ret
 exact⟨iF (by rw [HZ.o];have:=HC.o;omega),rfl⟩
theorem aeL (A:Nat->Addr) (B mg hm:Nat) (pi pb rv nv fv iv bv:Value) (g:C.Ga) (c:List UInt8) (xs:List Int) (w:World) (hM:Mt w mg hm pi pb rv nv fv iv bv g) (hw:fF g.w) (hb:C.bF g=true) (hx:U.scalars c=some xs) (hz:c.length<=8000) (hE:E A B w) (hB:B<=w.heap.size) :
  Calls Tryz.prog 76 #[.pointer (some ⟨mg,0,none⟩), .string (bs c)] w λe w'=>e = .returned (.int .i64 (C.fZ g.w xs))/\Below w.heap.size w w':=by
 have gB:=bx (amA A B (.agg #[iv,bv, .bool g.w.wide]) g.w c xs w hM.wid hw (C.Hw hb).2.1 hx hz hE hB);have hk:=hM.blk;generalize g.t.n=tn at hk;generalize C.fZ g.w xs=res at gB ⊢;generalize g.w.wide=wd at hk gB;generalize g.k=gk at hk;have c6:w.cell? ⟨mg,6,none⟩=some iv:=(hk.cell 6).trans rfl;have c7:w.cell? ⟨mg,7,none⟩=some bv:=(hk.cell 7).trans rfl;have c8:w.cell? ⟨mg,8,none⟩=some (.bool wd):=(hk.cell 8).trans rfl;have cl:=hk.lt;clear hM hw hb hx hE hB hk
 go_enter Tryz.func76,Tryz.ntmps76
 go_wp2_with fail;refine gB.o.mono ?_;rintro e w1 ⟨rfl,hb1⟩;have HB1:=bx hb1;clear hb1 c6 c7 c8 cl;go_wp2_with fail;go_ret
 exact⟨rfl,HB1.o⟩
theorem WT (A:Nat->Addr) (B mg hm:Nat) (pi pb rv nv fv iv bv:Value) (g:C.Ga) (s:ByteArray) (w:World) (hM:Mt w mg hm pi pb rv nv fv iv bv g) (hs:dZ g.t) (hb:C.bF g=true) (hz:s.size<=800) (hE:E A B w) (hD:Ed A B w) (hG:Eg A B w) (hB:B<=w.heap.size) :
  Calls Tryz.prog 37 #[.pointer (some ⟨mg,0,none⟩), .string s] w λe w'=>(∃ v',e = .returned v'/\dI w' v' (C.cZ g.t s.data.toList)/\∀ q,v'.ownBlock=some q->w.heap.size<=q)/\Below w.heap.size w w':=by
 have gB:=bx (Jt A B (.agg #[.int .i64 g.t.n,pi,pb,rv,nv,fv]) g.t s w hM.tab hs hz hE hD hG hB (C.nC hb (by rw [<- size_eq];omega)));have hk:=hM.blk;generalize C.cZ g.t s.data.toList=cl at gB ⊢;generalize g.t.n=tn at hk gB;generalize g.w.wide=wd at hk;generalize g.k=gk at hk;have c0:w.cell? ⟨mg,0,none⟩=some (.int .i64 tn):=(hk.cell 0).trans rfl;have c1:w.cell? ⟨mg,1,none⟩=some pi:=(hk.cell 1).trans rfl;have c2:w.cell? ⟨mg,2,none⟩=some pb:=(hk.cell 2).trans rfl;have c3:w.cell? ⟨mg,3,none⟩=some rv:=(hk.cell 3).trans rfl;have c4:w.cell? ⟨mg,4,none⟩=some nv:=(hk.cell 4).trans rfl;have c5:w.cell? ⟨mg,5,none⟩=some fv:=(hk.cell 5).trans rfl;have UC:=hk.lt;clear hM hs hb hE hD hG hB hk hz
 go_enter Tryz.func37,Tryz.ntmps37
 go_wp2_with fail;refine gB.o.mono ?_;rintro e w1 ⟨⟨v1,rfl,hv1,hf1⟩,hb1⟩;have HB1:=bx hb1;have fH:=bx hv1;have sZ:=bx hf1;clear hb1 hv1 hf1 c0 c1 c2 c3 c4 c5 UC;go_wp2_with fail;go_ret
 exact⟨⟨_,rfl,fH.o,sZ.o⟩,HB1.o⟩
theorem VQ (p:Option Addr) (s:ByteArray) (w:World) :
  Calls Tryz.prog 43 #[.pointer p, .string s] w λe w'=>e = .returned (.func (.func 83) #[] #[.pointer (some ⟨w.heap.size,0,none⟩), .pointer (some ⟨w.heap.size+1,0,none⟩)])/\(w.alloc (.cells #[.pointer p] 68)).alloc (.cells #[.string s] 9)=w':=by
 go_enter Tryz.func43,Tryz.ntmps43
 go_wp2
 go_ret
 exact⟨rfl,rfl⟩
end
section
namespace C
def sums (g:Ga) (ls:List (List Int)):List (Nat×Int):=(List.range ls.length).map λi=>(i+1,aS g ls (i+1))
theorem zn (g:Ga) (ls:List (List Int)):(sums g ls).length=ls.length:=by unfold sums;rw [List.length_map,List.length_range]
theorem TY (g:Ga) (ls:List (List Int)) {i:Nat} (h:i<ls.length):(sums g ls)[i]?=some (i+1,aS g ls (i+1)):=by
 unfold sums;rw [List.getElem?_map,List.getElem?_range h]
 rfl
theorem abW (g:Ga) (ls:List (List Int)) {i:Nat} (h:i<ls.length):sums g ls=(sums g ls).take i++(i+1,aS g ls (i+1))::(sums g ls).drop (i+1):=by
 have hl:i<(sums g ls).length:=by rw [zn];exact h
 have e:=List.drop_eq_getElem_cons (l:=sums g ls) (i:=i) hl;have e2:=TY g ls h;rw [List.getElem?_eq_getElem hl] at e2;injection e2 with e2;rw [e2] at e;rw [<- e];exact(List.take_append_drop i _).symm
theorem UG (g:Ga) (ls:List (List Int)) {i:Nat} (h:i<ls.length):(sums g ls).take (i+1)=(sums g ls).take i++[(i+1,aS g ls (i+1))]:=by
 rw [List.take_add_one,TY g ls h]
 rfl
end C
open Go.RowKit
attribute [local go_sem] Oper.semAt_some
theorem OC {t:Tab} {s:ByteArray} (hz:s.size<=800):∀ y∈C.aH t s.data.toList,U.scalars (U.textOf y)=some y/\1<=(U.textOf y).length/\(U.textOf y).length<=8000:=by
 intro y hy;have hr:=(iq t s.data.toList).2;unfold C.aH at hy;obtain⟨i,hi,rfl⟩:=List.mem_map.1 hy;have hi2:i+1<(bK t s.data.toList).length:=by
  have:=List.mem_range.1 hi;omega
 have h1:=C.akx (AB s.data.toList) (bK t s.data.toList) i;have h2:=C.agH (xs:=aT s.data.toList) hr hi2;have h3:=C.NU (xs:=aT s.data.toList) hr hi2;have h4:=C.sS (xs:=aT s.data.toList) (ns:=bK t s.data.toList) hi2;rw [<- C.qp] at h4;have h5:=C.sG s.data.toList;rw [<- size_eq] at h5;unfold C.piece at h1 h2 h3;exact⟨h1,h2,by omega⟩
theorem amS (g:C.Ga) (y:List Int) (h:(U.textOf y).length<=8000):C.meas g y<=8000:=by
 have h1:=(C.Zg g.w y).2;unfold C.meas
 split
 ·omega
 ·split <;> omega
theorem Yu {g:C.Ga} {ls:List (List Int)} (h:∀ y∈ls,(U.textOf y).length<=8000):∀ k,k<=ls.length->C.aS g ls k<=8000*(k:Int)
 | 0,_=>by rw [C.FQ];omega
 | k+1,hk=>by
  have ih:=Yu (g:=g) h k (by omega);obtain⟨y,hy⟩:∃ y,ls[k]?=some y:=⟨_,List.getElem?_eq_getElem (by omega)⟩
  have h1:=C.FB g ls hy;have h2:=amS g y (h y (List.mem_of_getElem? hy));omega
theorem Nh {g:C.Ga} {ls:List (List Int)} (hl:ls.length<=1000) (h:∀ y∈ls,(U.textOf y).length<=8000) (k:Nat) (hk:k<=ls.length):C.aS g ls k<=8000000:=by
 have:=Yu (g:=g) h k hk;omega
theorem V7 (mg:Nat):WQ #[ny mg,nT mg,oC mg]:=by
 intro x hx;simp only [List.mem_cons,List.mem_nil_iff,or_false] at hx
 rcases hx with rfl | rfl | rfl <;> exact⟨_,rfl⟩
theorem QS (n:Nat) (A:Nat->Addr) (B ob wu Qw mg hm:Nat) (pi pb rv nv fv iv bv:Value) (g:C.Ga) (s:ByteArray) (ls:List (List Int)) (l:Nat) (W0 W1:World)
  (hob:W0.heap.size=ob) (h01:Below ob W0 W1) (hE:E A B W0) (hD:Ed A B W0) (hG:Eg A B W0) (hB:B<=ob) (hM:Mt W0 mg hm pi pb rv nv fv iv bv g) (hs:dZ g.t) (hw:fF g.w) (hb:C.bF g=true) (hz:s.size<=800)
  (hmx:aj W1 wu 68 #[.pointer (some ⟨mg,0,none⟩)]) (hsx:aj W1 Qw 9 #[.string s]) (hls:C.aH g.t s.data.toList=ls) :
  Sl (n+1) Tryz.prog 83 #[.pointer (some ⟨wu,0,none⟩), .pointer (some ⟨Qw,0,none⟩)] (λx:Nat×Int=>#[.int .i64 (x.1:Int), .int .i64 x.2]) (λ_=>False) (λk=>k<ob\/k=wu)
   (λpre x _=>∃ rest,C.sums g ls=pre++x::rest) (λys _=>ys=C.sums g ls) l W1:=by
 intro J Jx hJ hJx hY h0;have HY:=bx hY;have H0:=bx h0;have HJ:=bx hJ;have jQ:=bx (λW (h:Below ob W0 W)=>WT A B mg hm pi pb rv nv fv iv bv g s W (hM.below (by rw [hob];exact h)) hs hb hz (hE.below (h.mono hB)) (hD.below (h.mono hB)) (hG.below (h.mono hB)) (Nat.le_trans hB (by rw [<- hob];exact h.size)));have gB:=bx (show C.cZ g.t s.data.toList=ls.map U.textOf by rw [C.Ei (C.jL hb (by rw [<- size_eq];omega)),hls]);have Io:=bx (show ∀ y∈ls,U.scalars (U.textOf y)=some y/\1<=(U.textOf y).length/\(U.textOf y).length<=8000 from λy hy=>by
  subst hls;exact OC hz y hy)
 have lN:=bx (show ls.length<=1000 by
  rw [<- hls,C.tq];have h1:=(iq g.t s.data.toList).2.len;have h2:=lM s.data.toList;rw [<- size_eq] at h2;omega)
 have Tv:=bx (show ∀ k,k<=ls.length->0<=C.aS g ls k/\C.aS g ls k<=8000000 from λk hk=>⟨C.Kt g ls k,Nh lN.o (λy hy=>(Io.o y hy).2.2) k hk⟩);have adT:=bx (λ(y:List Int) (hy:y∈ls) W (h:Below ob W0 W)=>aeL A B mg hm pi pb rv nv fv iv bv g (U.textOf y) y W (hM.below (by rw [hob];exact h)) hw hb (Io.o y hy).1 (Io.o y hy).2.2 (hE.below (h.mono hB)) (Nat.le_trans hB (by rw [<- hob];exact h.size)));have HKK:=bx (show g.k=0\/g.k=1\/g.k=2 by have:=C.Hw hb;omega);have Qm:=bx (λW (h:Below ob W0 W)=>hM.below (w':=W) (by rw [hob];exact h));obtain⟨Q,hQ⟩:∃ Q,ls.length=Q:=⟨_,rfl⟩
 have HQ:=bx hQ;have pG:Q<=1000:=by rw [<- hQ];exact lN.o
 have acS:=bx h01;have BI:=bx hob;have abP:=bx hmx;have p0:W1.cell? ⟨wu,0,none⟩=some (.pointer (some ⟨mg,0,none⟩)):=(hmx.cell 0).trans rfl;have p1:W1.cell? ⟨Qw,0,none⟩=some (.string s):=(hsx.cell 0).trans rfl;have HC:=bx ((callsIn_wide (n:=n)).2 (jQ.o W1 h01));clear hY h0 hJ hJx hE hD hG hM hs hw hb hmx hsx hls hQ;refine callsIn_of_wp Tryz.func83 rfl trivial ?_;simp only [Tryz.ntmps83,List.size_toArray,List.length_cons,List.length_nil,Nat.reduceAdd,Nat.reduceSub,Array.replicate_succ,Array.replicate_zero,List.push_toArray,List.append_toArray,List.nil_append,List.cons_append]
 gi_wp2
 refine wpIn_wide.2 (wp_scope_straight ((wpIn_wide (n:=n+1)).1 ?_))
 gi_wp2
 refine wpIn_label ?_
 gi_wp2
 refine⟨trivial,HC.o.mono ?_⟩;rintro e w1 ⟨⟨v1,rfl,hv1,hf1⟩,hb1⟩;rw [gB.o] at hv1;have fH:=bx hv1;have sZ:=bx hf1;obtain⟨la,lc,rfl,-⟩:=hv1.slice;rw [List.length_map,HQ.o] at fH sZ ⊢;have HW1:=bx hb1;have hws:=hb1.size;have HB1:=bx (acS.o.trans (hb1.mono (by have:=acS.o.size;omega)));have LM:=bx (abP.o.below hb1 abP.o.lt);have Np:=bx (HJ.o w1.heap.size [] W1 w1 (H0.o w1.heap.size hb1.size) (Turns.of_below hb1));clear hv1 hf1 hb1 p0 p1
 gi_wp2
 obtain⟨cg,dK,hla,hcs⟩:∃ cg dK,(0<Q->la=some ⟨cg,dK,none⟩/\Q<=lc/\lc<=maxLen)/\∀ (i:Nat) (x:List UInt8),(ls.map U.textOf)[i]?=some x->cg<w1.heap.size/\W1.heap.size<=cg/\cg<w1.heap.size/\w1.cell? ⟨cg,dK+i,none⟩=some (.string (bs x)):=by
  by_cases h0:Q=0
  ·refine⟨0,0,λh=>absurd h (by omega),λi x hx=>?_⟩;have h9:=(List.getElem?_eq_some_iff.1 hx).1;rw [List.length_map,HQ.o] at h9;omega
  ·obtain⟨b,off,cap,e1,e2,e3,e4,e5⟩:=fH.o.get (by intro h;have h9:=congrArg List.length h;rw [List.length_map,HQ.o,List.length_nil] at h9;omega);rw [List.length_map,HQ.o] at e1 e2;injection e1 with f1 f2 f3;subst f1 f3;exact⟨b,off,λ_=>⟨rfl,e2,e3⟩,λi x hx=>⟨e4,sZ.o b rfl,e4,e5 i x hx⟩⟩
 have zJ:=bx hla;have FH:=bx hcs;clear hla hcs
 gi_loopw [4,11] (λsv iv wr=>∃ k:Nat,k<=Q/\sv = .int .i64 (C.aS g ls k)/\iv = .int .i64 k/\Box (w1.heap.size<=wr.heap.size)/\Box (Below ob W0 wr)/\Box (aj wr wu 68 #[.pointer (some ⟨mg,0,none⟩)]) /\
  Box (∀ (i:Nat) (x:List UInt8),(ls.map U.textOf)[i]?=some x->cg<wr.heap.size/\W1.heap.size<=cg/\cg<w1.heap.size/\wr.cell? ⟨cg,dK+i,none⟩=some (.string (bs x)))/\Box (J w1.heap.size ((C.sums g ls).take k) wr)) (λ_ iv _=>Q-(intOf iv).toNat)
 case atStart=>exact⟨0,Nat.zero_le _,by rw [C.FQ],rfl,⟨Nat.le_refl _⟩,HB1,LM,FH,by rw [List.take_zero];exact Np⟩
 case round =>
  obtain⟨k,hk,rfl,rfl,hsz,hbr,hmx,hcr,hj⟩:=hrel;obtain⟨WO,rfl⟩:∃ W,W=wr:=⟨_,rfl⟩
  by_cases hlt:k<Q
  ·obtain⟨y,hy⟩:∃ y,ls[k]?=some y:=⟨_,List.getElem?_eq_getElem (by rw [HQ.o];exact hlt)⟩
   obtain⟨rfl,hl1,hl2⟩:=zJ.o (by omega);have hcx:=hcr.o k (U.textOf y) (by rw [List.getElem?_map,hy];rfl);have cx:=hcx.2.2.2;have hcl:=hcx.1;have hyl:=Io.o y (List.mem_of_getElem? hy);have hy1:=hyl.2.1;have rG:=bx (λW (h:Below WO.heap.size WO W)=>adT.o y (List.mem_of_getElem? hy) W (hbr.o.trans (h.mono (by have:=hbr.o.size;have:=BI.o;omega))));have HIS:=bx (C.abW g ls (i:=k) (by rw [HQ.o];exact hlt));have HIT:=bx (C.UG g ls (i:=k) (by rw [HQ.o];exact hlt));have mP:=bx (C.FB g ls hy);have lu:=bx (show 0<=C.aS g ls (k+1)/\C.aS g ls (k+1)<=8000000 from Tv.o (k+1) (by rw [HQ.o];exact hlt));obtain⟨S0,hS0⟩:∃ S,S=C.aS g ls k:=⟨_,rfl⟩
   obtain⟨S1,hS1⟩:∃ S,S=C.aS g ls (k+1):=⟨_,rfl⟩
   have bG:=bx hS1;rw [<- hS0,<- hS1] at mP;rw [<- hS1] at lu HIS HIT;rw [<- hS0];have zk:=bx (λW (h:Below WO.heap.size WO W)=>show W.cell? ⟨wu,0,none⟩=some (.pointer (some ⟨mg,0,none⟩))/\W.cell? ⟨mg,10,none⟩=some (.map (some hm))/\W.cell? ⟨mg,9,none⟩=some (.int .i64 g.k)/\W.heap[hm]?=some (.map #[ny mg,nT mg,oC mg] 3) from by
    have QH:=Qm.o W (hbr.o.trans (h.mono (by have:=hbr.o.size;have:=BI.o;omega)));exact⟨((hmx.o.below h hmx.o.lt).cell 0).trans rfl,(QH.blk.cell 10).trans rfl,(QH.blk.cell 9).trans rfl,QH.how⟩)
   have e20:decide ((k:Int)<(Q:Int))=true:=decide_eq_true (by omega);unfold maxLen at hl2;clear hy hcx hyl hS0 hS1
   gi_wp2
   clear cx hcl;refine wpIn_wide.2 ?_
   rcases HKK.o with hkz | hkz | hkz
   ·skip
    have KH:=bx hkz;have kZ:=bx (show C.meas g y=((U.textOf y).length:Int) by unfold C.meas;rw [hkz];rfl);have hadd:IntKind.i64.wrap (S0+((U.textOf y).length:Int))=S1:=by
     have hS:=mP.o;rw [kZ.o] at hS;rw [IntKind.wrap_i64];have:=lu.o;omega
    have cu:=bx (λW (h:Below WO.heap.size WO W)=>show W.cell? ⟨wu,0,none⟩=some (.pointer (some ⟨mg,0,none⟩))/\W.cell? ⟨mg,10,none⟩=some (.map (some hm))/\W.cell? ⟨mg,9,none⟩=some (.int .i64 0)/\W.heap[hm]?=some (.map #[ny mg,nT mg,oC mg] 3) from by
     obtain⟨a1,a2,a3,a4⟩:=zk.o W h;rw [KH.o] at a3;exact⟨a1,a2,a3,a4⟩)
    have dM:=bx (λW (h:W.heap[hm]?=some (.map #[ny mg,nT mg,oC mg] 3))=>show (Instr.lookup 131 (.map (some hm)) (.int .i64 0) false).run Tryz.prog W = .ok (ny mg).val W from RN Tryz.underlying131 Tryz.underlying3 W _ 3 0 hm h (V7 mg) .nilFunc (by kernel_rfl));simp only [ny] at dM;have au:=bx (cu.o WO.drew (iD WO 1));have aF:=bx (show Below WO.heap.size WO WO.drew from iD WO 1);clear hkz;refine fP 14 (λW'=>W'.cell? ⟨wu,0,none⟩=some (.pointer (some ⟨mg,0,none⟩))/\W'.cell? ⟨mg,10,none⟩=some (.map (some hm))/\W'.cell? ⟨mg,9,none⟩=some (.int .i64 0)/\W'.heap[hm]?=some (.map #[ny mg,nT mg,oC mg] 3)) (by kernel_rfl) ?_;generalize WO.drew=WR at au aF ⊢;refine kS 0 ?_ rfl au.o ?_ ?_;rotate_left
    ·rintro w ⟨q1,q2,q3,q4⟩;have hlk:=dM.o w q4;go_simp;try with_reducible rfl
    refine kS 1 ?_ rfl au.o ?_ ?_;rotate_left
    ·rintro w ⟨q1,q2,q3,q4⟩;have hlk:=dM.o w q4;go_simp;try with_reducible rfl
    refine kS 2 ?_ rfl au.o ?_ ?_;rotate_left
    ·rintro w ⟨q1,q2,q3,q4⟩;have hlk:=dM.o w q4;go_simp;try with_reducible rfl
    refine kS 3 ?_ rfl au.o ?_ ?_;rotate_left
    ·rintro w ⟨q1,q2,q3,q4⟩;have hlk:=dM.o w q4;go_simp;try with_reducible rfl
    refine kS 4 ?_ rfl au.o ?_ ?_;rotate_left
    ·rintro w ⟨q1,q2,q3,q4⟩;have hlk:=dM.o w q4;go_simp;try with_reducible rfl
    refine kS 5 ?_ rfl au.o ?_ ?_;rotate_left
    ·rintro w ⟨q1,q2,q3,q4⟩;have hlk:=dM.o w q4;go_simp;try with_reducible rfl
    refine kS 6 ?_ rfl au.o ?_ ?_;rotate_left
    ·rintro w ⟨q1,q2,q3,q4⟩;have hlk:=dM.o w q4;go_simp;try with_reducible rfl
    refine kS 7 ?_ rfl au.o ?_ ?_;rotate_left
    ·rintro w ⟨q1,q2,q3,q4⟩;have hlk:=dM.o w q4;go_simp;try with_reducible rfl
    refine kS 8 ?_ rfl au.o ?_ ?_;rotate_left
    ·rintro w ⟨q1,q2,q3,q4⟩;have hlk:=dM.o w q4;go_simp;try with_reducible rfl
    refine kS 9 ?_ rfl au.o ?_ ?_;rotate_left
    ·rintro w ⟨q1,q2,q3,q4⟩;have hlk:=dM.o w q4;go_simp;try with_reducible rfl
    refine kS 10 ?_ rfl au.o ?_ ?_;rotate_left
    ·rintro w ⟨q1,q2,q3,q4⟩;have hlk:=dM.o w q4;go_simp;try with_reducible rfl
    refine kS 11 ?_ rfl au.o ?_ ?_;rotate_left
    ·rintro w ⟨q1,q2,q3,q4⟩;have hlk:=dM.o w q4;go_simp;try with_reducible rfl
    refine kP 12 rfl λKK ah=>?_
    go_simp;refine(anm _ (U.textOf y) WR).mono ?_;rintro e w5 ⟨rfl,rfl⟩;have aK:=bx (Below.refl WR.heap.size WR);have fB:=bx (cu.o WR (bt aF.o aK.o));refine ah.out _ _ (λ_=>fB.o) ?_;clear ah KK;refine kS 13 ?_ rfl fB.o ?_ ?_;rotate_left
    ·rintro w ⟨q1,q2,q3,q4⟩;have hlk:=dM.o w q4;go_simp;try with_reducible rfl
    refine kP 14 rfl λKK ah=>?_
    go_simp;refine ah.out _ _ (λh=>by cases h) ?_;clear ah KK;refine kD ?_ _;clear hadd;have iG:=bx (bt aF.o aK.o);have hy0:=HY.o w1.heap.size _ (k+1,S1) WO WR hws (Nat.le_trans hsz.o iG.o.size) hj.o (Turns.of_below iG.o) ⟨_,HIS.o⟩;simp only at hy0;rw [show ((k+1:Nat):Int)=(k:Int)+1 from by omega] at hy0;obtain⟨fn,tmps,assign,body,hy,mX⟩:=hy0;have sF:=bx mX;clear mX
    gi_wp2
    refine sF.o.mono ?_;rintro e W3 (⟨rfl,hj3,ht3⟩ | ⟨rfl,hx3⟩)
    ·have uY:=bx hj3;have hwd:=iG.o.size;have hso:=hsz.o;have HB3:=bx (show Below ob W0 W3 from hbr.o.trans ((iG.o.mono (by have:=hbr.o.size;have:=BI.o;omega)).trans (ht3.below (by have:=hbr.o.size;have:=BI.o;omega) (λq hq=>Nat.le_of_not_lt (λhlt=>hq (.inl (.inl hlt)))))));have Aw:=bx (ht3.blk (hmx.o.below iG.o hmx.o.lt) (λhn=>hn (.inl (.inr rfl))));have dN:=bx (show ∀ (i:Nat) (x:List UInt8),(ls.map U.textOf)[i]?=some x->cg<W3.heap.size/\W1.heap.size<=cg/\cg<w1.heap.size/\W3.cell? ⟨cg,dK+i,none⟩=some (.string (bs x)) from λi x hx=>by
      obtain⟨a1,a2,a3,a4⟩:=hcr.o i x hx;refine⟨Nat.lt_of_lt_of_le a3 (Nat.le_trans (Nat.le_trans hso hwd) ht3.size),a2,a3,?_⟩;exact(World.cell?_of_block (ht3.block cg (Nat.lt_of_lt_of_le a1 hwd) (λhn=>hn (.inr (.inl ⟨a2,a3⟩))))).trans ((iG.o.cell (p:=⟨cg,dK+i,none⟩) a1).trans a4))
     have aC:=bx (show w1.heap.size<=W3.heap.size from Nat.le_trans (Nat.le_trans hso hwd) ht3.size);clear hj3 ht3 hy hwd hso
     gi_wp2
     go_roundw
     case rel=>exact⟨k+1,by omega,by rw [<- bG.o],by go_num,aC,HB3,Aw,dN,by rw [HIT.o];exact uY⟩
     case measure=>simp [intOf];omega
    ·have nS:=bx hx3;clear hx3 hy
     gi_wp2
     rw [Exit.noGoto_normal]
     go_end0
     exact⟨⟨_,rfl⟩, .inr ⟨_,_,nS.o⟩⟩
   ·skip
    have KH:=bx hkz;have kZ:=bx (show C.meas g y=1 by unfold C.meas;rw [hkz];rfl);have hadd:IntKind.i64.wrap (S0+1)=S1:=by
     have hS:=mP.o;rw [kZ.o] at hS;rw [IntKind.wrap_i64];have:=lu.o;omega
    have cu:=bx (λW (h:Below WO.heap.size WO W)=>show W.cell? ⟨wu,0,none⟩=some (.pointer (some ⟨mg,0,none⟩))/\W.cell? ⟨mg,10,none⟩=some (.map (some hm))/\W.cell? ⟨mg,9,none⟩=some (.int .i64 1)/\W.heap[hm]?=some (.map #[ny mg,nT mg,oC mg] 3) from by
     obtain⟨a1,a2,a3,a4⟩:=zk.o W h;rw [KH.o] at a3;exact⟨a1,a2,a3,a4⟩)
    have dM:=bx (λW (h:W.heap[hm]?=some (.map #[ny mg,nT mg,oC mg] 3))=>show (Instr.lookup 131 (.map (some hm)) (.int .i64 1) false).run Tryz.prog W = .ok (nT mg).val W from RN Tryz.underlying131 Tryz.underlying3 W _ 3 1 hm h (V7 mg) .nilFunc (by kernel_rfl));simp only [nT] at dM;have au:=bx (cu.o WO.drew (iD WO 1));have aF:=bx (show Below WO.heap.size WO WO.drew from iD WO 1);clear hkz;refine fP 14 (λW'=>W'.cell? ⟨wu,0,none⟩=some (.pointer (some ⟨mg,0,none⟩))/\W'.cell? ⟨mg,10,none⟩=some (.map (some hm))/\W'.cell? ⟨mg,9,none⟩=some (.int .i64 1)/\W'.heap[hm]?=some (.map #[ny mg,nT mg,oC mg] 3)) (by kernel_rfl) ?_;generalize WO.drew=WR at au aF ⊢;refine kS 0 ?_ rfl au.o ?_ ?_;rotate_left
    ·rintro w ⟨q1,q2,q3,q4⟩;have hlk:=dM.o w q4;go_simp;try with_reducible rfl
    refine kS 1 ?_ rfl au.o ?_ ?_;rotate_left
    ·rintro w ⟨q1,q2,q3,q4⟩;have hlk:=dM.o w q4;go_simp;try with_reducible rfl
    refine kS 2 ?_ rfl au.o ?_ ?_;rotate_left
    ·rintro w ⟨q1,q2,q3,q4⟩;have hlk:=dM.o w q4;go_simp;try with_reducible rfl
    refine kS 3 ?_ rfl au.o ?_ ?_;rotate_left
    ·rintro w ⟨q1,q2,q3,q4⟩;have hlk:=dM.o w q4;go_simp;try with_reducible rfl
    refine kS 4 ?_ rfl au.o ?_ ?_;rotate_left
    ·rintro w ⟨q1,q2,q3,q4⟩;have hlk:=dM.o w q4;go_simp;try with_reducible rfl
    refine kS 5 ?_ rfl au.o ?_ ?_;rotate_left
    ·rintro w ⟨q1,q2,q3,q4⟩;have hlk:=dM.o w q4;go_simp;try with_reducible rfl
    refine kS 6 ?_ rfl au.o ?_ ?_;rotate_left
    ·rintro w ⟨q1,q2,q3,q4⟩;have hlk:=dM.o w q4;go_simp;try with_reducible rfl
    refine kS 7 ?_ rfl au.o ?_ ?_;rotate_left
    ·rintro w ⟨q1,q2,q3,q4⟩;have hlk:=dM.o w q4;go_simp;try with_reducible rfl
    refine kS 8 ?_ rfl au.o ?_ ?_;rotate_left
    ·rintro w ⟨q1,q2,q3,q4⟩;have hlk:=dM.o w q4;go_simp;try with_reducible rfl
    refine kS 9 ?_ rfl au.o ?_ ?_;rotate_left
    ·rintro w ⟨q1,q2,q3,q4⟩;have hlk:=dM.o w q4;go_simp;try with_reducible rfl
    refine kS 10 ?_ rfl au.o ?_ ?_;rotate_left
    ·rintro w ⟨q1,q2,q3,q4⟩;have hlk:=dM.o w q4;go_simp;try with_reducible rfl
    refine kS 11 ?_ rfl au.o ?_ ?_;rotate_left
    ·rintro w ⟨q1,q2,q3,q4⟩;have hlk:=dM.o w q4;go_simp;try with_reducible rfl
    refine kP 12 rfl λKK ah=>?_
    go_simp;refine(agh _ (U.textOf y) WR hy1).mono ?_;rintro e w5 ⟨rfl,rfl⟩;have aK:=bx (Below.refl WR.heap.size WR);have fB:=bx (cu.o WR (bt aF.o aK.o));refine ah.out _ _ (λ_=>fB.o) ?_;clear ah KK;refine kS 13 ?_ rfl fB.o ?_ ?_;rotate_left
    ·rintro w ⟨q1,q2,q3,q4⟩;have hlk:=dM.o w q4;go_simp;try with_reducible rfl
    refine kP 14 rfl λKK ah=>?_
    go_simp;refine ah.out _ _ (λh=>by cases h) ?_;clear ah KK;refine kD ?_ _;clear hadd;have iG:=bx (bt aF.o aK.o);have hy0:=HY.o w1.heap.size _ (k+1,S1) WO WR hws (Nat.le_trans hsz.o iG.o.size) hj.o (Turns.of_below iG.o) ⟨_,HIS.o⟩;simp only at hy0;rw [show ((k+1:Nat):Int)=(k:Int)+1 from by omega] at hy0;obtain⟨fn,tmps,assign,body,hy,mX⟩:=hy0;have sF:=bx mX;clear mX
    gi_wp2
    refine sF.o.mono ?_;rintro e W3 (⟨rfl,hj3,ht3⟩ | ⟨rfl,hx3⟩)
    ·have uY:=bx hj3;have hwd:=iG.o.size;have hso:=hsz.o;have HB3:=bx (show Below ob W0 W3 from hbr.o.trans ((iG.o.mono (by have:=hbr.o.size;have:=BI.o;omega)).trans (ht3.below (by have:=hbr.o.size;have:=BI.o;omega) (λq hq=>Nat.le_of_not_lt (λhlt=>hq (.inl (.inl hlt)))))));have Aw:=bx (ht3.blk (hmx.o.below iG.o hmx.o.lt) (λhn=>hn (.inl (.inr rfl))));have dN:=bx (show ∀ (i:Nat) (x:List UInt8),(ls.map U.textOf)[i]?=some x->cg<W3.heap.size/\W1.heap.size<=cg/\cg<w1.heap.size/\W3.cell? ⟨cg,dK+i,none⟩=some (.string (bs x)) from λi x hx=>by
      obtain⟨a1,a2,a3,a4⟩:=hcr.o i x hx;refine⟨Nat.lt_of_lt_of_le a3 (Nat.le_trans (Nat.le_trans hso hwd) ht3.size),a2,a3,?_⟩;exact(World.cell?_of_block (ht3.block cg (Nat.lt_of_lt_of_le a1 hwd) (λhn=>hn (.inr (.inl ⟨a2,a3⟩))))).trans ((iG.o.cell (p:=⟨cg,dK+i,none⟩) a1).trans a4))
     have aC:=bx (show w1.heap.size<=W3.heap.size from Nat.le_trans (Nat.le_trans hso hwd) ht3.size);clear hj3 ht3 hy hwd hso
     gi_wp2
     go_roundw
     case rel=>exact⟨k+1,by omega,by rw [<- bG.o],by go_num,aC,HB3,Aw,dN,by rw [HIT.o];exact uY⟩
     case measure=>simp [intOf];omega
    ·have nS:=bx hx3;clear hx3 hy
     gi_wp2
     rw [Exit.noGoto_normal]
     go_end0
     exact⟨⟨_,rfl⟩, .inr ⟨_,_,nS.o⟩⟩
   ·skip
    have KH:=bx hkz;have kZ:=bx (show C.meas g y=C.fZ g.w y by unfold C.meas;rw [hkz];rfl);have hadd:IntKind.i64.wrap (S0+C.fZ g.w y)=S1:=by
     have hS:=mP.o;rw [kZ.o] at hS;rw [IntKind.wrap_i64];have:=lu.o;omega
    have cu:=bx (λW (h:Below WO.heap.size WO W)=>show W.cell? ⟨wu,0,none⟩=some (.pointer (some ⟨mg,0,none⟩))/\W.cell? ⟨mg,10,none⟩=some (.map (some hm))/\W.cell? ⟨mg,9,none⟩=some (.int .i64 2)/\W.heap[hm]?=some (.map #[ny mg,nT mg,oC mg] 3) from by
     obtain⟨a1,a2,a3,a4⟩:=zk.o W h;rw [KH.o] at a3;exact⟨a1,a2,a3,a4⟩)
    have dM:=bx (λW (h:W.heap[hm]?=some (.map #[ny mg,nT mg,oC mg] 3))=>show (Instr.lookup 131 (.map (some hm)) (.int .i64 2) false).run Tryz.prog W = .ok (oC mg).val W from RN Tryz.underlying131 Tryz.underlying3 W _ 3 2 hm h (V7 mg) .nilFunc (by kernel_rfl));simp only [oC] at dM;have au:=bx (cu.o WO.drew (iD WO 1));have aF:=bx (show Below WO.heap.size WO WO.drew from iD WO 1);clear hkz;refine fP 14 (λW'=>W'.cell? ⟨wu,0,none⟩=some (.pointer (some ⟨mg,0,none⟩))/\W'.cell? ⟨mg,10,none⟩=some (.map (some hm))/\W'.cell? ⟨mg,9,none⟩=some (.int .i64 2)/\W'.heap[hm]?=some (.map #[ny mg,nT mg,oC mg] 3)) (by kernel_rfl) ?_;generalize WO.drew=WR at au aF ⊢;refine kS 0 ?_ rfl au.o ?_ ?_;rotate_left
    ·rintro w ⟨q1,q2,q3,q4⟩;have hlk:=dM.o w q4;go_simp;try with_reducible rfl
    refine kS 1 ?_ rfl au.o ?_ ?_;rotate_left
    ·rintro w ⟨q1,q2,q3,q4⟩;have hlk:=dM.o w q4;go_simp;try with_reducible rfl
    refine kS 2 ?_ rfl au.o ?_ ?_;rotate_left
    ·rintro w ⟨q1,q2,q3,q4⟩;have hlk:=dM.o w q4;go_simp;try with_reducible rfl
    refine kS 3 ?_ rfl au.o ?_ ?_;rotate_left
    ·rintro w ⟨q1,q2,q3,q4⟩;have hlk:=dM.o w q4;go_simp;try with_reducible rfl
    refine kS 4 ?_ rfl au.o ?_ ?_;rotate_left
    ·rintro w ⟨q1,q2,q3,q4⟩;have hlk:=dM.o w q4;go_simp;try with_reducible rfl
    refine kS 5 ?_ rfl au.o ?_ ?_;rotate_left
    ·rintro w ⟨q1,q2,q3,q4⟩;have hlk:=dM.o w q4;go_simp;try with_reducible rfl
    refine kS 6 ?_ rfl au.o ?_ ?_;rotate_left
    ·rintro w ⟨q1,q2,q3,q4⟩;have hlk:=dM.o w q4;go_simp;try with_reducible rfl
    refine kS 7 ?_ rfl au.o ?_ ?_;rotate_left
    ·rintro w ⟨q1,q2,q3,q4⟩;have hlk:=dM.o w q4;go_simp;try with_reducible rfl
    refine kS 8 ?_ rfl au.o ?_ ?_;rotate_left
    ·rintro w ⟨q1,q2,q3,q4⟩;have hlk:=dM.o w q4;go_simp;try with_reducible rfl
    refine kS 9 ?_ rfl au.o ?_ ?_;rotate_left
    ·rintro w ⟨q1,q2,q3,q4⟩;have hlk:=dM.o w q4;go_simp;try with_reducible rfl
    refine kS 10 ?_ rfl au.o ?_ ?_;rotate_left
    ·rintro w ⟨q1,q2,q3,q4⟩;have hlk:=dM.o w q4;go_simp;try with_reducible rfl
    refine kS 11 ?_ rfl au.o ?_ ?_;rotate_left
    ·rintro w ⟨q1,q2,q3,q4⟩;have hlk:=dM.o w q4;go_simp;try with_reducible rfl
    refine kP 12 rfl λKK ah=>?_
    go_simp;refine(rG.o WR aF.o).mono ?_;rintro e w5 ⟨rfl,hb5⟩;have aK:=bx hb5;have fB:=bx (cu.o w5 (bt aF.o aK.o));clear hb5;refine ah.out _ _ (λ_=>fB.o) ?_;clear ah KK;refine kS 13 ?_ rfl fB.o ?_ ?_;rotate_left
    ·rintro w ⟨q1,q2,q3,q4⟩;have hlk:=dM.o w q4;go_simp;try with_reducible rfl
    refine kP 14 rfl λKK ah=>?_
    go_simp;refine ah.out _ _ (λh=>by cases h) ?_;clear ah KK;refine kD ?_ _;clear hadd;have iG:=bx (bt aF.o aK.o);have hy0:=HY.o w1.heap.size _ (k+1,S1) WO w5 hws (Nat.le_trans hsz.o iG.o.size) hj.o (Turns.of_below iG.o) ⟨_,HIS.o⟩;simp only at hy0;rw [show ((k+1:Nat):Int)=(k:Int)+1 from by omega] at hy0;obtain⟨fn,tmps,assign,body,hy,mX⟩:=hy0;have sF:=bx mX;clear mX
    gi_wp2
    refine sF.o.mono ?_;rintro e W3 (⟨rfl,hj3,ht3⟩ | ⟨rfl,hx3⟩)
    ·have uY:=bx hj3;have hwd:=iG.o.size;have hso:=hsz.o;have HB3:=bx (show Below ob W0 W3 from hbr.o.trans ((iG.o.mono (by have:=hbr.o.size;have:=BI.o;omega)).trans (ht3.below (by have:=hbr.o.size;have:=BI.o;omega) (λq hq=>Nat.le_of_not_lt (λhlt=>hq (.inl (.inl hlt)))))));have Aw:=bx (ht3.blk (hmx.o.below iG.o hmx.o.lt) (λhn=>hn (.inl (.inr rfl))));have dN:=bx (show ∀ (i:Nat) (x:List UInt8),(ls.map U.textOf)[i]?=some x->cg<W3.heap.size/\W1.heap.size<=cg/\cg<w1.heap.size/\W3.cell? ⟨cg,dK+i,none⟩=some (.string (bs x)) from λi x hx=>by
      obtain⟨a1,a2,a3,a4⟩:=hcr.o i x hx;refine⟨Nat.lt_of_lt_of_le a3 (Nat.le_trans (Nat.le_trans hso hwd) ht3.size),a2,a3,?_⟩;exact(World.cell?_of_block (ht3.block cg (Nat.lt_of_lt_of_le a1 hwd) (λhn=>hn (.inr (.inl ⟨a2,a3⟩))))).trans ((iG.o.cell (p:=⟨cg,dK+i,none⟩) a1).trans a4))
     have aC:=bx (show w1.heap.size<=W3.heap.size from Nat.le_trans (Nat.le_trans hso hwd) ht3.size);clear hj3 ht3 hy hwd hso
     gi_wp2
     go_roundw
     case rel=>exact⟨k+1,by omega,by rw [<- bG.o],by go_num,aC,HB3,Aw,dN,by rw [HIT.o];exact uY⟩
     case measure=>simp [intOf];omega
    ·have nS:=bx hx3;clear hx3 hy
     gi_wp2
     rw [Exit.noGoto_normal]
     go_end0
     exact⟨⟨_,rfl⟩, .inr ⟨_,_,nS.o⟩⟩
  ·obtain rfl:k=Q:=by omega
   have mF:=bx (show (C.sums g ls).take k=C.sums g ls from List.take_of_length_le (by rw [C.zn,HQ.o];exact Nat.le_refl _));rw [mF.o] at hj;have e20:decide ((k:Int)<(k:Int))=false:=decide_eq_false (by omega)
   gi_wp2
   rw [Exit.noGoto_normal]
   go_end0
   exact⟨⟨_,rfl⟩, .inl ⟨_,_,rfl,hj.o⟩⟩
end
section
namespace C
def vW (pre:List (Nat×Int)):Int:=pre.foldl (λ_ x=>x.2) 0
theorem Qd (pre:List (Nat×Int)) (x:Nat×Int):vW (pre++[x])=x.2:=by
 unfold vW;rw [List.foldl_append]
 rfl
theorem aaT (g:Ga) (ls:List (List Int)):vW (sums g ls)=aS g ls ls.length:=by
 cases hl:ls.length with
 | zero =>
  have:sums g ls=[]:=List.eq_nil_of_length_eq_zero (by rw [zn,hl]);rw [this]
  rfl
 | succ k =>
  have h:=UG g ls (i:=k) (by omega);rw [List.take_of_length_le (by rw [zn];omega)] at h;rw [h,Qd]
end C
open Go.RowKit
attribute [local go_sem] Oper.semAt_some
theorem XH (w:World) (cs cs1 cs2:Array Value) (T0 T1 T2:TypeId) (W:World) (hW:W=((w.alloc (.cells cs T0)).alloc (.cells cs1 T1)).alloc (.cells cs2 T2)) :
  aj W w.heap.size T0 cs/\aj W (w.heap.size+1) T1 cs1/\aj W (w.heap.size+1+1) T2 cs2/\Below w.heap.size w W/\W.heap.size=w.heap.size+3:=by
 rw [hW];exact three w cs cs1 cs2 T0 T1 T2
theorem abY (A:Nat->Addr) (B mg hm:Nat) (pi pb rv nv fv iv bv:Value) (g:C.Ga) (s:ByteArray) (ls:List (List Int)) (w:World) (hM:Mt w mg hm pi pb rv nv fv iv bv g) (hs:dZ g.t) (hw:fF g.w) (hb:C.bF g=true) (hz:s.size<=800) (hE:E A B w) (hD:Ed A B w) (hG:Eg A B w) (hB:B<=w.heap.size) (hls:C.aH g.t s.data.toList=ls) :
  Calls Tryz.prog 44 #[.pointer (some ⟨mg,0,none⟩), .string s] w λe w'=>e = .returned (.int .i64 (C.aS g ls ls.length))/\Below w.heap.size w w':=by
 have HIT:=bx (λ(W1:World) (l:Nat) (h1:Below w.heap.size w W1) (h2:aj W1 (w.heap.size+1) 68 #[.pointer (some ⟨mg,0,none⟩)]) (h3:aj W1 (w.heap.size+1+1) 9 #[.string s])=>QS 7 A B w.heap.size (w.heap.size+1) (w.heap.size+1+1) mg hm pi pb rv nv fv iv bv g s ls l w W1 rfl h1 hE hD hG hB hM hs hw hb hz h2 h3 hls);have Du:=bx (C.aaT g ls);clear hM hs hw hb hE hD hG hB hls;refine(callsIn_wide (n:=9)).1 (callsIn_of_wp_marks Tryz.func44 rfl trivial (wpIn_wide.2 ?_));simp only [Tryz.ntmps44,List.size_toArray,List.length_cons,List.length_nil,Nat.reduceAdd,Nat.reduceSub,Array.replicate_succ,Array.replicate_zero,List.push_toArray,List.append_toArray,List.nil_append,List.cons_append];go_wp2_with fail;refine(VQ _ _ _).mono ?_;rintro e w2 ⟨rfl,rfl⟩;go_wp2_with fail;obtain⟨wL,pV⟩:∃ W,W=((w.alloc (.cells #[.int .i64 0] 3)).alloc (.cells #[.pointer (some ⟨mg,0,none⟩)] 68)).alloc (.cells #[.string s] 9):=⟨_,rfl⟩
 obtain⟨hb0,hb1,hb2,hbL,oJ⟩:=XH w _ _ _ _ _ _ wL pV;rw [<- pV];have HB0:=bx hb0;have HB1:=bx hb1;have HB2:=bx hb2;have aG:=bx hbL;clear hb0 hb1 hb2 hbL pV;refine(wpIn_wide (n:=9)).1 (JI (α:=Nat×Int) (gf:=83) (lb:=#[.pointer (some ⟨w.heap.size+1,0,none⟩), .pointer (some ⟨w.heap.size+1+1,0,none⟩)]) rfl (enters_of Tryz.func83 (by kernel_rfl) rfl)
  (encs:=λx:Nat×Int=>#[.int .i64 (x.1:Int), .int .i64 x.2]) (own:=λ_=>False) (keep:=λk=>k<w.heap.size\/k=w.heap.size+1) (ok:=λpre x _=>∃ rest,C.sums g ls=pre++x::rest) (S:=λys _=>ys=C.sums g ls)
  (λk hk=>by rcases hk with h | h | h;exact h.elim;omega;omega)
  (λW1 ht=>by
   have hwl:=ht.below (Nat.le_refl _) (λ_ h=>h.elim);exact HIT.o W1 _ (bt aG.o hwl) (HB1.o.below hwl HB1.o.lt) (HB2.o.below hwl HB2.o.lt))
  (λ_=>rfl)
  (λN1 pre W=>aj W w.heap.size 3 #[.int .i64 (C.vW pre)]/\Below w.heap.size w W)
  (λ_ _ _ _=>False) ?hI (λ_ _ _ _ _ h _=>h) (λ_ _ _ _ h _=>h) (λN1 h=>⟨HB0.o,aG.o⟩)
  (λx a1 W=>a1={ tmps:=#[.pointer (some ⟨mg,0,none⟩), .string s,undef,undef, .int .i64 0, .pointer (some ⟨w.heap.size,0,none⟩),undef, .int .i64 x.2, .pointer (some ⟨mg,0,none⟩), .string s, .func (.func 83) #[] #[.pointer (some ⟨w.heap.size+1,0,none⟩), .pointer (some ⟨w.heap.size+1+1,0,none⟩)], .int .i64 (x.1:Int), .int .i64 x.2,undef,undef],defers:=[] })
  (λ_ _ _ _ h _=>h) ?assign ?body ?done (λ_ _ _ _ _ h _=>h.elim) (λ_ _ _ h _=>h))
 case hI =>
  rintro N1 pre W W' ⟨h1,h2⟩ ht;exact⟨ht.blk h1 (by rintro(h | h);exact h;omega),h2.trans (ht.below h2.size (λk hk=>by rcases hk with h | h;exact h.elim;omega))⟩
 case assign =>
  intro x W K hW hK
  gi_wp2
  exact hK _ _ (Turns.refl _ _) rfl
 case body =>
  rintro N1 pre x a1 W0 W N hN1 F6 hW0 ⟨h1,h2⟩ ht hN-rfl;have hb:=ht.blk h1 (by rintro(h | h);exact h;omega);have h2':=h2.trans (ht.below h2.size (λk hk=>by rcases hk with h | h;exact h.elim;omega));have HB:=bx hb;have H2:=bx h2';have c0:W.cell? ⟨w.heap.size,0,none⟩=some (.int .i64 (C.vW pre)):=(hb.cell 0).trans rfl;have f0:=hb.frozen 0;have l0:=hb.lt;clear h1 h2 hb h2'
  gi_wp2
  have hT:Turns (λk=>k=w.heap.size) W (W.setCell ⟨w.heap.size,0,none⟩ (.int .i64 x.2)):=Turns.setCell (own:=λk=>k=w.heap.size) W (p:=⟨w.heap.size,0,none⟩) rfl _;refine⟨hT.mono (λk hk hh=>?_),by rw [C.Qd];exact HB.o.dh 0 _,H2.o.trans (hT.below H2.o.size (λk hk=>by omega))⟩;subst hk
  rcases hh with((h | h) | h | h) | h | h <;> omega
 case done =>
  intro N1 xs W hW hS ⟨h1,h2⟩ hD;have c0:W.cell? ⟨w.heap.size,0,none⟩=some (.int .i64 (C.vW xs)):=(h1.cell 0).trans rfl;have H2:=bx h2;have HD:=bx hD;have hwl:=oJ;have HV:=bx (show C.vW xs=C.aS g ls ls.length by rw [hS];exact Du.o);clear h1 h2 hD hS oJ;go_wp2_with fail;refine⟨by simp, .inl ⟨_,_,rfl,run_takeDeferred HD.o,?_⟩⟩;refine⟨_,results_tmp rfl _ _ _,?_⟩;exact⟨by rw [<- HV.o];rfl,H2.o.trans ((Turns.putObj (own:=λk=>k=wL.heap.size) W rfl _).below H2.o.size (λk hk=>by omega))⟩
end
section
namespace C
theorem aha {g:Ga} {ls:List (List Int)} {pre rest:List (Nat×Int)} {x:Nat×Int} (h:sums g ls=pre++x::rest):x=(pre.length+1,aS g ls (pre.length+1))/\pre.length<ls.length:=by
 have hl:pre.length<ls.length:=by
  have:=congrArg List.length h;rw [zn,List.length_append,List.length_cons] at this;omega
 have h1:=TY g ls hl;rw [h,List.getElem?_append_right (Nat.le_refl _),Nat.sub_self] at h1;simp at h1;exact⟨h1,hl⟩
theorem anC (g:Ga) (ls:List (List Int)) (n:Int) (k:Nat) (hk:k<=ls.length) (h1:k=0\/aS g ls k<=n) (h2:k=ls.length\/n<aS g ls (k+1)):dD g ls n ls.length=k:=by
 have e:dD g ls n k=k:=by
  rcases h1 with rfl | h1
  ·rfl
  ·exact ai9 g ls n k h1
 rcases h2 with h2 | h2
 ·rw [<- h2];exact e
 ·have:=ab4 g ls n h2 (ls.length-k);rw [show k+(ls.length-k)=ls.length by omega,e] at this;exact this
end C
open Go.RowKit
attribute [local go_sem] Oper.semAt_some
theorem agP (w:World) (c0 c1 c2 c3:Array Value) (T0 T1 T2 T3:TypeId) (W:World) (hW:W=(((w.alloc (.cells c0 T0)).alloc (.cells c1 T1)).alloc (.cells c2 T2)).alloc (.cells c3 T3)) :
  aj W w.heap.size T0 c0/\aj W (w.heap.size+1) T1 c1/\aj W (w.heap.size+1+1) T2 c2/\aj W (w.heap.size+1+1+1) T3 c3/\Below (w.heap.size+1) (w.alloc (.cells c0 T0)) W/\W.heap.size=w.heap.size+4:=by
 rw [hW];obtain⟨h0,h1,h2,h3,h4,h5⟩:=four w c0 c1 c2 c3 T0 T1 T2 T3;refine⟨h0,h1,h2,h3,?_,h5⟩;have e:(w.alloc (.cells c0 T0)).heap.size=w.heap.size+1:=by simp
 obtain⟨_,_,_,h6,_⟩:=three (w.alloc (.cells c0 T0)) c1 c2 c3 T1 T2 T3;rw [e] at h6;exact h6
theorem OA (A:Nat->Addr) (B mg hm:Nat) (pi pb rv nv fv iv bv:Value) (g:C.Ga) (s:ByteArray) (ls:List (List Int)) (nn:Int) (w:World) (hM:Mt w mg hm pi pb rv nv fv iv bv g) (hs:dZ g.t) (hw:fF g.w) (hb:C.bF g=true) (hz:s.size<=800) (hE:E A B w) (hD:Ed A B w) (hG:Eg A B w) (hB:B<=w.heap.size) (hls:C.aH g.t s.data.toList=ls) :
  Calls Tryz.prog 58 #[.pointer (some ⟨mg,0,none⟩), .string s, .int .i64 nn] w λe w'=>e = .returned (.int .i64 (C.dD g ls nn ls.length:Nat))/\Below w.heap.size w w':=by
 obtain⟨V,hV⟩:∃ V,V=w.alloc (.cells #[.int .i64 nn] 3):=⟨_,rfl⟩
 have bI:=bx (show Below w.heap.size w V by rw [hV];exact aO _ _);have rD:=bx (show V.heap.size=w.heap.size+1 by rw [hV];simp);have HIT:=bx (λ(W1:World) (l:Nat) (h1:Below (w.heap.size+1) V W1) (h2:aj W1 (w.heap.size+1+1) 68 #[.pointer (some ⟨mg,0,none⟩)]) (h3:aj W1 (w.heap.size+1+1+1) 9 #[.string s])=>QS 7 A B (w.heap.size+1) (w.heap.size+1+1) (w.heap.size+1+1+1) mg hm pi pb rv nv fv iv bv g s ls l V W1 rD.o h1 (hE.below (bI.o.mono hB)) (hD.below (bI.o.mono hB)) (hG.below (bI.o.mono hB)) (by omega) (hM.below bI.o) hs hw hb hz h2 h3 hls);have Q9:=bx (λk hk h1 h2=>C.anC g ls nn k hk h1 h2);generalize C.dD g ls nn ls.length=res at Q9 ⊢;clear hM hs hw hb hE hD hG hB hls;refine(callsIn_wide (n:=9)).1 (callsIn_of_wp_marks Tryz.func58 rfl trivial (wpIn_wide.2 ?_));simp only [Tryz.ntmps58,List.size_toArray,List.length_cons,List.length_nil,Nat.reduceAdd,Nat.reduceSub,Array.replicate_succ,Array.replicate_zero,List.push_toArray,List.append_toArray,List.nil_append,List.cons_append];go_wp2_with fail;refine(VQ _ _ _).mono ?_;rintro e w2 ⟨rfl,rfl⟩;go_wp2_with fail;obtain⟨wL,pV⟩:∃ W,W=(((w.alloc (.cells #[.int .i64 nn] 3)).alloc (.cells #[.int .i64 0] 3)).alloc (.cells #[.pointer (some ⟨mg,0,none⟩)] 68)).alloc (.cells #[.string s] 9):=⟨_,rfl⟩
 obtain⟨hn0,hb0,hb1,hb2,hbL,oJ⟩:=agP w _ _ _ _ _ _ _ _ wL pV;rw [<- pV];rw [<- hV] at hbL;have HN0:=bx hn0;have HB0:=bx hb0;have HB1:=bx hb1;have HB2:=bx hb2;have aG:=bx hbL;clear hn0 hb0 hb1 hb2 hbL pV hV;refine(wpIn_wide (n:=9)).1 (JI (α:=Nat×Int) (gf:=83) (lb:=#[.pointer (some ⟨w.heap.size+1+1,0,none⟩), .pointer (some ⟨w.heap.size+1+1+1,0,none⟩)]) rfl (enters_of Tryz.func83 (by kernel_rfl) rfl)
  (encs:=λx:Nat×Int=>#[.int .i64 (x.1:Int), .int .i64 x.2]) (own:=λ_=>False) (keep:=λk=>k<w.heap.size+1\/k=w.heap.size+1+1) (ok:=λpre x _=>∃ rest,C.sums g ls=pre++x::rest) (S:=λys _=>ys=C.sums g ls)
  (λk hk=>by rcases hk with h | h | h;exact h.elim;omega;omega)
  (λW1 ht=>by
   have hwl:=ht.below (Nat.le_refl _) (λ_ h=>h.elim);exact HIT.o W1 _ (aG.o.trans (hwl.mono (by omega))) (HB1.o.below hwl HB1.o.lt) (HB2.o.below hwl HB2.o.lt))
  (λ_=>rfl)
  (λN1 pre W=>aj W (w.heap.size+1) 3 #[.int .i64 (pre.length:Nat)]/\Below (w.heap.size+1) wL W/\(pre.length=0\/C.aS g ls pre.length<=nn))
  (λN1 c pre W=>c = .exit 0/\aj W (w.heap.size+1) 3 #[.int .i64 (res:Nat)]/\Below (w.heap.size+1) wL W) ?hI ?hIx (λ_ _ _ _ h _=>h) (λN1 h=>⟨HB0.o,Below.refl _ _, .inl rfl⟩)
  (λx a1 W=>a1={ tmps:=#[.pointer (some ⟨mg,0,none⟩), .string s, .int .i64 nn,undef,undef, .pointer (some ⟨w.heap.size,0,none⟩), .int .i64 0, .pointer (some ⟨w.heap.size+1,0,none⟩), .int .i64 (x.1:Int), .int .i64 x.2, .pointer (some ⟨mg,0,none⟩), .string s, .func (.func 83) #[] #[.pointer (some ⟨w.heap.size+1+1,0,none⟩), .pointer (some ⟨w.heap.size+1+1+1,0,none⟩)], .int .i64 (x.1:Int), .int .i64 x.2,undef,undef,undef,undef,undef],defers:=[] })
  (λ_ _ _ _ h _=>h) ?assign ?body ?done ?stop (λ_ _ _ h _=>h))
 case hI =>
  rintro N1 pre W W' ⟨h1,h2,h3⟩ ht;exact⟨ht.blk h1 (by rintro(h | h);exact h;omega),h2.trans (ht.below (by have:=h2.size;omega) (λk hk=>by rcases hk with h | h;exact h.elim;omega)),h3⟩
 case hIx =>
  rintro N1 c pre W W' ⟨h1,h2,h3⟩ ht;exact⟨h1,ht.blk h2 (by omega),h3.trans (ht.below (by have:=h3.size;omega) (λk hk=>by omega))⟩
 case assign =>
  intro x W K hW hK
  gi_wp2
  exact hK _ _ (Turns.refl _ _) rfl
 case body =>
  rintro N1 pre x a1 W0 W N hN1 F6 hW0 ⟨h1,h2,h3⟩ ht hN ⟨rest,hx⟩ rfl;have hb:=ht.blk h1 (by rintro(h | h);exact h;omega);have h2':=h2.trans (ht.below (by have:=h2.size;omega) (λk hk=>by rcases hk with h | h;exact h.elim;omega));obtain⟨hxe,hlt⟩:=C.aha hx;subst hxe;have hn:=HN0.o.below h2' (by omega);have HB:=bx hb;have H2:=bx h2';have H3:=bx h3;have HL:=bx hlt;have c0:W.cell? ⟨w.heap.size+1,0,none⟩=some (.int .i64 (pre.length:Nat)):=(hb.cell 0).trans rfl;have cn:W.cell? ⟨w.heap.size,0,none⟩=some (.int .i64 nn):=(hn.cell 0).trans rfl;have f0:=hb.frozen 0;have l0:=hb.lt;obtain⟨S1,hS1⟩:∃ S,S=C.aS g ls (pre.length+1):=⟨_,rfl⟩
  rw [<- hS1];have bG:=bx hS1;clear h1 h2 h3 hb h2' hn hx hS1 hlt
  by_cases hle:S1<=nn
  ·have hd:decide (nn<S1)=false:=decide_eq_false (by omega);have GU:=bx hle;clear hle
   gi_wp2
   have hT:Turns (λk=>k=w.heap.size+1) W (W.setCell ⟨w.heap.size+1,0,none⟩ (.int .i64 ((pre.length+1:Nat):Int))):=Turns.setCell (own:=λk=>k=w.heap.size+1) W (p:=⟨w.heap.size+1,0,none⟩) rfl _;have hlen:(pre++[(pre.length+1,S1)]).length=pre.length+1:=by rw [List.length_append];rfl
   refine⟨hT.mono (λk hk hh=>?_),by rw [hlen];exact HB.o.dh 0 _,H2.o.trans (hT.below (by have:=H2.o.size;omega) (λk hk=>by omega)), .inr (by rw [hlen,<- bG.o];exact GU.o)⟩;subst hk
   rcases hh with((h | h) | h | h) | h | h <;> omega
  ·have hd:decide (nn<S1)=true:=decide_eq_true (by omega);have HR:=bx (Q9.o pre.length (Nat.le_of_lt HL.o) H3.o (.inr (by rw [<- bG.o];omega)));clear hle
   gi_wp2
   refine⟨Holds.xJ (Turns.refl (own:=λk=>k=w.heap.size+1) W) (λk hk=>by omega) (λk hk=>by omega),rfl,?_,H2.o⟩;rw [HR.o];exact HB.o
 case done =>
  intro N1 xs W hW hS ⟨h1,h2,h3⟩ hD;subst hS;have hr:=Q9.o (C.sums g ls).length (by rw [C.zn];exact Nat.le_refl _) h3 (.inl (C.zn _ _));rw [<- hr] at h1;have c0:W.cell? ⟨w.heap.size+1,0,none⟩=some (.int .i64 (res:Nat)):=(h1.cell 0).trans rfl;have H2:=bx h2;have HD:=bx hD;have hwl:=oJ;clear h1 h2 hD h3 oJ hr;go_wp2_with fail;refine⟨by simp, .inl ⟨_,_,rfl,run_takeDeferred HD.o,?_⟩⟩;refine⟨_,results_tmp rfl _ _ _,?_⟩;exact⟨rfl,(bI.o.trans (aG.o.mono (by omega))).trans ((H2.o.mono (by omega)).trans ((Turns.putObj (own:=λk=>k=wL.heap.size) W rfl _).below (by have:=H2.o.size;omega) (λk hk=>by omega)))⟩
 case stop =>
  rintro N1 c pre W hW ⟨rfl,h1,h2⟩ hD;have c0:W.cell? ⟨w.heap.size+1,0,none⟩=some (.int .i64 (res:Nat)):=(h1.cell 0).trans rfl;have H2:=bx h2;have HD:=bx hD;have hwl:=oJ;clear h1 h2 hD oJ;refine wpIn_wide.2 ?_;go_wp2_with fail;refine⟨by simp, .inl ⟨_,_,rfl,run_takeDeferred HD.o,?_⟩⟩;refine⟨_,results_tmp rfl _ _ _,?_⟩;exact⟨rfl,(bI.o.trans (aG.o.mono (by omega))).trans ((H2.o.mono (by omega)).trans ((Turns.putObj (own:=λk=>k=wL.heap.size) W rfl _).below (by have:=H2.o.size;omega) (λk hk=>by omega)))⟩
end
section
namespace C
theorem lW {g:Ga} {s:List UInt8} (h:bF g=false):bJ g s=150:=by
 unfold bJ;rw [if_pos h]
end C
open Go.RowKit
attribute [local go_sem] Oper.semAt_some
theorem Dh (A:Nat->Addr) (B:Nat) (v:Value) (g:C.Ga) (s:ByteArray) (w:World) (hv:dR w v g) (hs:dZ g.t) (hw:fF g.w) (hz:s.size<=800) (hE:E A B w) (hD:Ed A B w) (hG:Eg A B w) (hB:B<=w.heap.size) :
  Calls Tryz.prog 17 #[v, .string s] w λe w'=>e = .returned (.tuple #[.int .i64 (C.eG g s.data.toList), .int .i64 (C.bJ g s.data.toList)])/\Below w.heap.size w w':=by
 have dH:=bx (λW (h:Below w.heap.size w W)=>hv.below h);obtain⟨tn,hn⟩:∃ n,n=g.t.n:=⟨_,rfl⟩
 obtain⟨wd,hwd⟩:∃ b,b=g.w.wide:=⟨_,rfl⟩
 obtain⟨gk,hgk⟩:∃ k,k=g.k:=⟨_,rfl⟩
 obtain⟨pi,pb,rv,nv,fv,iv,bv,rfl,h1,h2⟩:=hv;rw [<- hn,<- hwd,<- hgk] at dH;rw [<- hn,<- hwd,<- hgk];obtain⟨V,hV⟩:∃ V,V=w.alloc (.cells #[.int .i64 tn,pi,pb,rv,nv,fv,iv,bv, .bool wd, .int .i64 gk] 35):=⟨_,rfl⟩
 have HB0:=bx (show Below w.heap.size w V by rw [hV];exact aO _ _);have HK:=bx (show aj V w.heap.size 35 #[.int .i64 tn,pi,pb,rv,nv,fv,iv,bv, .bool wd, .int .i64 gk] by rw [hV];exact aj.new _ _ _);have ay:=bx (λW (h:Below V.heap.size V W)=>show W.cell? ⟨w.heap.size,0,none⟩=some (.int .i64 tn)/\W.cell? ⟨w.heap.size,1,none⟩=some (pi)/\W.cell? ⟨w.heap.size,2,none⟩=some (pb)/\W.cell? ⟨w.heap.size,3,none⟩=some (rv)/\W.cell? ⟨w.heap.size,4,none⟩=some (nv)/\W.cell? ⟨w.heap.size,5,none⟩=some (fv)/\W.cell? ⟨w.heap.size,6,none⟩=some (iv)/\W.cell? ⟨w.heap.size,7,none⟩=some (bv)/\W.cell? ⟨w.heap.size,8,none⟩=some (.bool wd)/\W.cell? ⟨w.heap.size,9,none⟩=some (.int .i64 gk)/\w.heap.size<W.heap.size from
  ⟨((HK.o.below h HK.o.lt).cell 0).trans rfl,((HK.o.below h HK.o.lt).cell 1).trans rfl,((HK.o.below h HK.o.lt).cell 2).trans rfl,((HK.o.below h HK.o.lt).cell 3).trans rfl,((HK.o.below h HK.o.lt).cell 4).trans rfl,((HK.o.below h HK.o.lt).cell 5).trans rfl,((HK.o.below h HK.o.lt).cell 6).trans rfl,((HK.o.below h HK.o.lt).cell 7).trans rfl,((HK.o.below h HK.o.lt).cell 8).trans rfl,((HK.o.below h HK.o.lt).cell 9).trans rfl,(HK.o.below h HK.o.lt).lt⟩)
 have HV:=bx hV;have aG:=bx (HB0.o.trans ((aO V (.cells #[.string s, .int .i64 2000] 74)).mono HB0.o.size));have uN:=bx (Gq V s 2000 74);have oH:=hB;have hrest:∀ W,Below w.heap.size w W->E A B W/\Ed A B W/\Eg A B W/\B<=W.heap.size:=λW h=>⟨hE.below (h.mono hB),hD.below (h.mono hB),hG.below (h.mono hB),Nat.le_trans hB h.size⟩
 have gQ:=bx hrest;have gY:=bx (Dz A B _ (.slice (some ⟨V.heap.size,0,none⟩) 1 1) g [(s,2000)] _ (dH.o _ aG.o) hs hw (hrest _ aG.o).1 (hrest _ aG.o).2.1 (hrest _ aG.o).2.2.1 (hrest _ aG.o).2.2.2);have gG:=bx (Dc A B _ (.slice (some ⟨V.heap.size,0,none⟩) 1 1) g _ (dH.o _ aG.o) hs hw (hrest _ aG.o).1 (hrest _ aG.o).2.1 (hrest _ aG.o).2.2.1 (hrest _ aG.o).2.2.2);have uq:=bx (λW (h:Below w.heap.size w W)=>DZ A B 0 (by decide) W (hrest W h).1);obtain⟨k0,k1,k2,k3,k4,k5,k6,k7,k8,k9,kk⟩:=ay.o V (Below.refl _ _);have HCM:=bx (λ(hgb:C.bF g=true) W mg hm pi pb rv nv fv iv bv (h:Below w.heap.size w W) (hM:Mt W mg hm pi pb rv nv fv iv bv g)=>abY A B mg hm pi pb rv nv fv iv bv g s _ W hM hs hw hgb hz (hrest W h).1 (hrest W h).2.1 (hrest W h).2.2.1 (hrest W h).2.2.2 rfl)
 cases hgb:C.bF g with
 | false =>
  have HR:=bx (show C.eG g s.data.toList=0/\C.bJ g s.data.toList=150 by
   have h:=C.lW (s:=s.data.toList) hgb;unfold C.eG;rw [h];exact⟨rfl,rfl⟩)
  rw [HR.o.1,HR.o.2];have gG:=bx (gG.o hgb);clear gY HCM h1 h2 hV hs hw hn hwd hgk hE hD hG hB hgb hrest oH hz
  go_enter Tryz.func17,Tryz.ntmps17
  go_upto_region 1 with(fail)
  rw [<- HV.o];go_wp2_with fail;refine gG.o.mono ?_;rintro e w1 ⟨rfl,hb1⟩;have HB1:=bx (bt aG.o hb1);have HT1:=bx (uq.o w1 HB1.o);clear hb1 k0 k1 k2 k3 k4 k5 k6 k7 k8 k9 kk;unfold jZ at HT1 ⊢;go_wp2_with fail;refine HT1.o.mono ?_;rintro e w2 ⟨rfl,rfl⟩;go_wp2_with fail;go_ret2
  exact⟨rfl,HB1.o⟩
 | true =>
  have HR:=bx (show C.eG g s.data.toList=C.aS g (C.aH g.t s.data.toList) (C.aH g.t s.data.toList).length/\C.bJ g s.data.toList=0 by
   have h:=C.jL (s:=s.data.toList) hgb (by rw [<- size_eq];omega);unfold C.eG;rw [if_pos h];exact⟨rfl,h⟩)
  rw [HR.o.1,HR.o.2];have HCM:=bx (HCM.o hgb);generalize C.aS g (C.aH g.t s.data.toList) (C.aH g.t s.data.toList).length=res at HCM ⊢;have gY:=bx (gY.o hgb uN.o (by simp) (by intro x hx;rw [List.mem_singleton.1 hx];show (s.size:Int)<=2000;omega));clear gG h1 h2 hV hs hw hn hwd hgk hE hD hG hB hrest oH
  go_enter Tryz.func17,Tryz.ntmps17
  go_upto_region 1 with(fail)
  rw [<- HV.o];go_wp2_with fail;refine gY.o.mono ?_;rintro e w1 ⟨⟨mg,hm,qB,pb',rv',qj,qx,iH,iJ,rfl,hM⟩,hb1⟩;have HB1:=bx (bt aG.o hb1);have jf:=bx hM;clear hb1 hM k0 k1 k2 k3 k4 k5 k6 k7 k8 k9 kk;have dV:=bx (HCM.o w1 mg hm qB pb' rv' qj qx iH iJ HB1.o jf.o);clear HCM;go_wp2_with fail;refine dV.o.mono ?_;rintro e w2 ⟨rfl,hb2⟩;have HB2:=bx (bt HB1.o hb2);clear hb2;go_wp2_with fail;go_ret2
  exact⟨rfl,HB2.o⟩
end
section
namespace C
theorem Jd (g:Ga) (s:List UInt8) (h:bJ g s=0) (k:Nat):(((cZ g.t s).take k).flatten).length<=3*s.length:=by
 obtain⟨h1,h2⟩:=Jw h;have e:(cZ g.t s).flatten=M.fix s:=by
  unfold cZ;rw [if_pos (nC h1 h2),Yh (iq g.t s).2,qp]
 have h3:((cZ g.t s).take k).flatten++((cZ g.t s).drop k).flatten=(cZ g.t s).flatten:=by rw [<- List.flatten_append,List.take_append_drop]
 have h4:=congrArg List.length h3;rw [List.length_append,e] at h4;have h5:=sG s;omega
end C
open Go.RowKit
attribute [local go_sem] Oper.semAt_some
theorem Vl (A:Nat->Addr) (B:Nat) (v:Value) (g:C.Ga) (s:ByteArray) (nn:Int) (w:World) (hv:dR w v g) (hs:dZ g.t) (hw:fF g.w) (hz:s.size<=800) (hE:E A B w) (hD:Ed A B w) (hG:Eg A B w) (hB:B<=w.heap.size) :
  Calls Tryz.prog 26 #[v, .string s, .int .i64 nn] w λe w'=>e = .returned (.tuple #[.string (bs (C.qm g s.data.toList nn)), .int .i64 (C.bJ g s.data.toList)])/\Below w.heap.size w w':=by
 have dH:=bx (λW (h:Below w.heap.size w W)=>hv.below h);obtain⟨tn,hn⟩:∃ n,n=g.t.n:=⟨_,rfl⟩
 obtain⟨wd,hwd⟩:∃ b,b=g.w.wide:=⟨_,rfl⟩
 obtain⟨gk,hgk⟩:∃ k,k=g.k:=⟨_,rfl⟩
 obtain⟨pi,pb,rv,nv,fv,iv,bv,rfl,h1,h2⟩:=hv;rw [<- hn,<- hwd,<- hgk] at dH;rw [<- hn,<- hwd,<- hgk];obtain⟨V,hV⟩:∃ V,V=w.alloc (.cells #[.int .i64 tn,pi,pb,rv,nv,fv,iv,bv, .bool wd, .int .i64 gk] 35):=⟨_,rfl⟩
 have HB0:=bx (show Below w.heap.size w V by rw [hV];exact aO _ _);have HK:=bx (show aj V w.heap.size 35 #[.int .i64 tn,pi,pb,rv,nv,fv,iv,bv, .bool wd, .int .i64 gk] by rw [hV];exact aj.new _ _ _);have ay:=bx (λW (h:Below V.heap.size V W)=>show W.cell? ⟨w.heap.size,0,none⟩=some (.int .i64 tn)/\W.cell? ⟨w.heap.size,1,none⟩=some (pi)/\W.cell? ⟨w.heap.size,2,none⟩=some (pb)/\W.cell? ⟨w.heap.size,3,none⟩=some (rv)/\W.cell? ⟨w.heap.size,4,none⟩=some (nv)/\W.cell? ⟨w.heap.size,5,none⟩=some (fv)/\W.cell? ⟨w.heap.size,6,none⟩=some (iv)/\W.cell? ⟨w.heap.size,7,none⟩=some (bv)/\W.cell? ⟨w.heap.size,8,none⟩=some (.bool wd)/\W.cell? ⟨w.heap.size,9,none⟩=some (.int .i64 gk)/\w.heap.size<W.heap.size from
  ⟨((HK.o.below h HK.o.lt).cell 0).trans rfl,((HK.o.below h HK.o.lt).cell 1).trans rfl,((HK.o.below h HK.o.lt).cell 2).trans rfl,((HK.o.below h HK.o.lt).cell 3).trans rfl,((HK.o.below h HK.o.lt).cell 4).trans rfl,((HK.o.below h HK.o.lt).cell 5).trans rfl,((HK.o.below h HK.o.lt).cell 6).trans rfl,((HK.o.below h HK.o.lt).cell 7).trans rfl,((HK.o.below h HK.o.lt).cell 8).trans rfl,((HK.o.below h HK.o.lt).cell 9).trans rfl,(HK.o.below h HK.o.lt).lt⟩)
 have HV:=bx hV;have aG:=bx (HB0.o.trans ((aO V (.cells #[.string s, .int .i64 2000] 74)).mono HB0.o.size));have uN:=bx (Gq V s 2000 74);have oH:=hB;have hrest:∀ W,Below w.heap.size w W->E A B W/\Ed A B W/\Eg A B W/\B<=W.heap.size:=λW h=>⟨hE.below (h.mono hB),hD.below (h.mono hB),hG.below (h.mono hB),Nat.le_trans hB h.size⟩
 have gQ:=bx hrest;have gY:=bx (Dz A B _ (.slice (some ⟨V.heap.size,0,none⟩) 1 1) g [(s,2000)] _ (dH.o _ aG.o) hs hw (hrest _ aG.o).1 (hrest _ aG.o).2.1 (hrest _ aG.o).2.2.1 (hrest _ aG.o).2.2.2);have gG:=bx (Dc A B _ (.slice (some ⟨V.heap.size,0,none⟩) 1 1) g _ (dH.o _ aG.o) hs hw (hrest _ aG.o).1 (hrest _ aG.o).2.1 (hrest _ aG.o).2.2.1 (hrest _ aG.o).2.2.2);have uq:=bx (λW (h:Below w.heap.size w W)=>DZ A B 0 (by decide) W (hrest W h).1);obtain⟨k0,k1,k2,k3,k4,k5,k6,k7,k8,k9,kk⟩:=ay.o V (Below.refl _ _);have HCM:=bx (λ(hgb:C.bF g=true) W mg hm pi pb rv nv fv iv bv (h:Below w.heap.size w W) (hM:Mt W mg hm pi pb rv nv fv iv bv g)=>OA A B mg hm pi pb rv nv fv iv bv g s _ nn W hM hs hw hgb hz (hrest W h).1 (hrest W h).2.1 (hrest W h).2.2.1 (hrest W h).2.2.2 rfl);have jQ:=bx (λ(hgb:C.bF g=true) W mg hm pi pb rv nv fv iv bv (h:Below w.heap.size w W) (hM:Mt W mg hm pi pb rv nv fv iv bv g)=>WT A B mg hm pi pb rv nv fv iv bv g s W hM hs hgb hz (hrest W h).1 (hrest W h).2.1 (hrest W h).2.2.1 (hrest W h).2.2.2)
 cases hgb:C.bF g with
 | false =>
  have HR:=bx (show C.qm g s.data.toList nn=[]/\C.bJ g s.data.toList=150 by
   have h:=C.lW (s:=s.data.toList) hgb;unfold C.qm;rw [h];exact⟨rfl,rfl⟩)
  rw [HR.o.1,HR.o.2];clear jQ;have gG:=bx (gG.o hgb);clear gY HCM h1 h2 hV hs hw hn hwd hgk hE hD hG hB hgb hrest oH hz
  go_enter Tryz.func26,Tryz.ntmps26
  go_upto_region 1 with(fail)
  rw [<- HV.o];go_wp2_with fail;refine gG.o.mono ?_;rintro e w1 ⟨rfl,hb1⟩;have HB1:=bx (bt aG.o hb1);have HT1:=bx (uq.o w1 HB1.o);clear hb1 k0 k1 k2 k3 k4 k5 k6 k7 k8 k9 kk;unfold jZ at HT1 ⊢;go_wp2_with fail;refine HT1.o.mono ?_;rintro e w2 ⟨rfl,rfl⟩;go_wp2_with fail;go_ret2
  exact⟨rfl,HB1.o⟩
 | true =>
  have hge:=C.jL (s:=s.data.toList) hgb (by rw [<- size_eq];omega);have HR:=bx (show C.qm g s.data.toList nn=((C.cZ g.t s.data.toList).take (C.dD g (C.aH g.t s.data.toList) nn (C.aH g.t s.data.toList).length)).flatten/\C.bJ g s.data.toList=0 by
   unfold C.qm;rw [if_pos hge,C.Ei hge];exact⟨rfl,hge⟩)
  rw [HR.o.1,HR.o.2];have gq:=bx (C.Jd g s.data.toList hge (C.dD g (C.aH g.t s.data.toList) nn (C.aH g.t s.data.toList).length));have hfl:C.dD g (C.aH g.t s.data.toList) nn (C.aH g.t s.data.toList).length<=(C.cZ g.t s.data.toList).length:=by
   rw [C.OH hge];exact C.Cj g (C.aH g.t s.data.toList) nn (C.aH g.t s.data.toList).length
  have lN:=bx (show (C.cZ g.t s.data.toList).length<=1000 by
   rw [C.OH hge,C.tq];have h1:=(iq g.t s.data.toList).2.len;have h2:=lM s.data.toList;rw [<- size_eq] at h2;omega)
  have HCM:=bx (HCM.o hgb);have jQ:=bx (jQ.o hgb);have aU:=bx (show s.data.toList.length<=800 by rw [<- size_eq];exact hz);clear hge HR;generalize C.dD g (C.aH g.t s.data.toList) nn (C.aH g.t s.data.toList).length=res at *;generalize C.cZ g.t s.data.toList=cl at *;have gY:=bx (gY.o hgb uN.o (by simp) (by intro x hx;rw [List.mem_singleton.1 hx];show (s.size:Int)<=2000;omega));clear gG h1 h2 hV hs hw hn hwd hgk hE hD hG hB hrest oH
  go_enter Tryz.func26,Tryz.ntmps26
  go_upto_region 1 with(fail)
  rw [<- HV.o];go_wp2_with fail;refine gY.o.mono ?_;rintro e w1 ⟨⟨mg,hm,qB,pb',rv',qj,qx,iH,iJ,rfl,hM⟩,hb1⟩;have HB1:=bx (bt aG.o hb1);have jf:=bx hM;clear hb1 hM k0 k1 k2 k3 k4 k5 k6 k7 k8 k9 kk;have dV:=bx (jQ.o w1 mg hm qB pb' rv' qj qx iH iJ HB1.o jf.o);have HC2:=bx (λW (h:Below w1.heap.size w1 W)=>HCM.o W mg hm qB pb' rv' qj qx iH iJ (bt HB1.o h) (jf.o.below h));clear HCM jQ;obtain⟨n,hn⟩:∃ n,n=cl.length:=⟨_,rfl⟩
  rw [<- hn] at hfl;have HN:=bx hn;have qo:=bx hfl;clear hn hfl;go_wp2_with fail;refine dV.o.mono ?_;rintro e w2 ⟨⟨v2,rfl,hv2,-⟩,hb2⟩;have HB2:=bx hb2;have iV:=bx hv2;clear hb2 hv2;go_wp2_with fail;refine(HC2.o w2 HB2.o).mono ?_;rintro e w3 ⟨rfl,hb3⟩;have HB3:=bx (bt HB2.o hb3);obtain⟨la,lc,rfl,hl1,hl2⟩:=iV.o.slice;rw [<- HN.o] at hl1 ⊢;have hfl:=qo.o;have htl:(cl.take res).length=res:=by rw [List.length_take];have:=HN.o;omega
  have hv3:=dI.take (iV.o.below hb3) res lc (by omega) (Nat.le_refl _);rw [htl] at hv3;have rX:=bx hv3;clear htl hv3;have HJ:=bx (ace _ _ w3 rX.o (by have:=gq.o;have:=aU.o;omega) (by rw [List.length_take];have:=lN.o;omega));clear hb3 HC2;go_wp2_with fail;refine HJ.o.mono ?_;rintro e w4 ⟨rfl,hb4⟩;have HB4:=bx (HB1.o.trans ((bt HB3.o hb4).mono HB1.o.size));clear hb4;go_wp2_with fail;go_ret2
  exact⟨rfl,HB4.o⟩
end
end Go.Proofs.YtdenoeakcflnmaaGreatDoor
