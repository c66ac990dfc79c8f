/- Texts of this claim. -/
import Derived.Test.YtdenoeakcflnmaaGreatDoorH22

set_option maxRecDepth 100000
set_option maxHeartbeats 16000000
namespace Go.Proofs.YtdenoeakcflnmaaGreatDoor
section
namespace C
theorem ak5 {xs:List Int} {ns:List Nat} (hr:tJ xs.length ns):places xs ns=(items xs ns).map (·.1)++[(U.textOf xs).length]:=by
 have hn:=hr.ne;have hl:=Zv (xs:=xs) hr;refine List.ext_getElem (by rw [tu,List.length_append,List.length_map,zf];simp;omega) (λi h1 h2=>?_);rw [tu] at h1;have e1:(places xs ns)[i]'(by rw [tu];exact h1)=(places xs ns).getD i 0:=by rw [List.getD_eq_getElem?_getD,List.getElem?_eq_getElem (by rw [tu];exact h1),Option.getD_some]
 rw [e1]
 by_cases hi:i+1<ns.length
 ·have e2:=RF xs ns hi;rw [List.getElem_append_left (by rw [List.length_map,zf];omega),List.getElem_map,yU xs ns (by omega)];rw [List.getElem?_eq_getElem (by rw [zf];omega)] at e2;injection e2 with e2;rw [e2]
 ·have e3:i=ns.length-1:=by omega
  subst e3;rw [List.getElem_append_right (by rw [List.length_map,zf];omega),hl];simp
end C
open Go.RowKit Go.Shelf
attribute [local go_sem] Oper.semAt_some
def tV (ob:Nat) (W0:World) (v:Value) (l:List Int):List Pc:=Pc.blk ob 22 #[v]::fK ob W0 v l
theorem acA {ob:Nat} {W0 W W':World} {v:Value} {l:List Int} {own:Nat->Prop} (h:Sep (tV ob W0 v l) W) (ht:Turns own W W') (h1:¬ own ob) (h2:∀ g,v.ownBlock=some g->¬ own g) (h3:∀ k,k<ob->¬ own k):Sep (tV ob W0 v l) W':=h.keep ht (λp hp k hk=>by
 unfold tV fK at hp;simp only [List.mem_cons,List.mem_nil_iff,or_false] at hp
 rcases hp with rfl | rfl | rfl
 ·rw [show k=ob from hk];exact h1
 ·exact h2 k hk
 ·exact h3 k hk)
theorem anH (A:Nat->Addr) (B:Nat) (v:Value) (t:Tab) (s:ByteArray) (w:World) (hv:TabAt w v t) (hs:dZ t) (hz:s.size<=800) (hE:E A B w) (hD:Ed A B w) (hG:Eg A B w) (hB:B<=w.heap.size) (he:textE t s.data.toList=0) :
  Calls Tryz.prog 54 #[v, .string s] w λe w'=>(∃ v',e = .returned (.tuple #[v', .int .i64 0])/\aB w' v' ((C.eX t s.data.toList).map λn:Nat=>(n:Int)))/\Below w.heap.size w w':=by
 obtain⟨pi,pb,rv,nv,fv,rfl,h1,h2,h3,h4,h5⟩:=hv;obtain⟨V,hV⟩:∃ V,V=w.alloc (.cells #[.int .i64 t.n,pi,pb,rv,nv,fv] 31):=⟨_,rfl⟩
 have HB0:=bx (show Below w.heap.size w V by rw [hV];exact aO _ _);have HK:=bx (show aj V w.heap.size 31 #[.int .i64 t.n,pi,pb,rv,nv,fv] by rw [hV];exact aj.new _ _ _);have bD:=bx (λW (h:Below w.heap.size w W)=>show TabAt W (.agg #[.int .i64 t.n,pi,pb,rv,nv,fv]) t from⟨pi,pb,rv,nv,fv,rfl,h1.below h,h2.below h,h3.below h,h4.below h,h5.below h⟩);have ay:=bx (λW (h:Below V.heap.size V W)=>HK.o.c6 h);have HV:=bx hV;have wW:=bx hs;have kK:=bx (λW (h:Below w.heap.size w W)=>show E A B W/\Ed A B W/\Eg A B W/\B<=W.heap.size from⟨hE.below (h.mono hB),hD.below (h.mono hB),hG.below (h.mono hB),Nat.le_trans hB h.size⟩);have HO:=bx (Zj A B _ t s V (bD.o V HB0.o) hs (by omega) (kK.o V HB0.o).1 (kK.o V HB0.o).2.1 (kK.o V HB0.o).2.2.1 (kK.o V HB0.o).2.2.2 he);have xX:=bx (λW (h:Below w.heap.size w W)=>show fA W rv t.r/\kQ W (.agg #[nv,fv]) t.m from⟨h3.below h,nv,fv,rfl,h4.below h,h5.below h⟩);have HSL:=bx (show (dW t.p (aT s.data.toList)).length<=900 by unfold dW;rw [List.length_map];have:=lM s.data.toList;rw [<- size_eq] at this;omega);have xP:=bx (show jd t.r t.m t.n=true by
  have h:=(JA he).1;unfold jy at h;rw [Bool.and_eq_true] at h;exact h.1)
 have zQ:=bx (show pz t.r t.m t.n.toNat (dW t.p (aT s.data.toList))=(bK t s.data.toList).map (λn:Nat=>(n:Int)) from(iq t s.data.toList).1);have eH:=bx (iq t s.data.toList).2;have wS:=bx (AB s.data.toList);have AA:=bx (C.qp s.data.toList);have gq:=bx (show (M.fix s.data.toList).length<=8000 by have:=C.sG s.data.toList;rw [<- size_eq] at this;omega);have jX:=bx (show (C.eX t s.data.toList).map (λn:Nat=>(n:Int))=(C.items (aT s.data.toList) (bK t s.data.toList)).map (λy=>(y.1:Int))++[((M.fix s.data.toList).length:Int)] by
  unfold C.eX;rw [if_pos he,C.ak5 (iq t s.data.toList).2,List.map_append,List.map_map,<- C.qp]
  rfl)
 have F8:=bx (show (C.items (aT s.data.toList) (bK t s.data.toList)).length<=1000000 by
  rw [C.zf];have h1:=(iq t s.data.toList).2.len;have h2:=lM s.data.toList;rw [<- size_eq] at h2;omega)
 clear h1 h2 h3 h4 h5 hV hs he hE hD hG hB;obtain⟨tn,hn⟩:∃ n,n=t.n:=⟨_,rfl⟩
 rw [<- hn] at HV HK bD ay HO xP zQ ⊢;clear hn;obtain⟨k0,k1,k2,k3,k4,k5,kk⟩:=ay.o V (Below.refl _ _);refine(callsIn_wide (n:=9)).1 (callsIn_of_wp_marks Tryz.func54 rfl trivial (wpIn_wide.2 ?_));simp only [Tryz.ntmps54,List.size_toArray,List.length_cons,List.length_nil,Nat.reduceAdd,Nat.reduceSub,Array.replicate_succ,Array.replicate_zero,List.push_toArray,List.append_toArray,List.nil_append,List.cons_append]
 go_upto_region 1 with(fail)
 rw [<- HV.o];go_wp2_with fail;refine HO.o.mono ?_;rintro e w1 ⟨qB,pb',rv',qj,qx,pg,ov,JC,rfl,hbk,hov,hb1⟩;obtain⟨rfl,rfl,rfl,rfl,rfl⟩:pi=qB/\pb=pb'/\rv=rv'/\nv=qj/\fv=qx:=by simpa using JC
 have bf:=bx hbk;have Ql:=bx hov;have HB1:=bx (bt HB0.o hb1);clear JC hbk hov hb1 k0 k1 k2 k3 k4 k5 kk;go_wp2_with fail;refine(aao _ _).mono ?_;rintro e w2 ⟨rfl,rfl⟩;go_wp2_with fail;have aQ:=bx (show Sep (Pc.blk (w1.heap.size+1) 86 #[.pointer (some ⟨pg,0,none⟩)]::tV w1.heap.size w1 (.slice none 0 0) []) ((w1.alloc (.cells #[.slice none 0 0] 22)).alloc (.cells #[.pointer (some ⟨pg,0,none⟩)] 86)) by
  have h:=((Sep.start w1).bM 22 #[.slice none 0 0]).iW w1.heap.size 1 3;have h2:=(Sep.perm (List.Perm.swap _ _ _) h).bM 86 #[.pointer (some ⟨pg,0,none⟩)];rw [World.size_alloc] at h2;exact h2)
 have oJ:((w1.alloc (.cells #[.slice none 0 0] 22)).alloc (.cells #[.pointer (some ⟨pg,0,none⟩)] 86)).heap.size=w1.heap.size+2:=by simp
 generalize (w1.alloc (.cells #[.slice none 0 0] 22)).alloc (.cells #[.pointer (some ⟨pg,0,none⟩)] 86)=wL at aQ oJ ⊢;have aU:=bx oJ;have aG:=bx (show Below w1.heap.size w1 wL from aQ.o.tail.bel (n:=w1.heap.size) (W0:=w1) (by simp [tV,fK]));have aJ:=bx (bt HB1.o aG.o);have hbz:=bf.o.lt;have OB:=HB1.o.size;have Qv:=bx (kK.o w1 HB1.o).2.2.2;refine(wpIn_wide (n:=9)).1 (JI (α:=Nat×List UInt8) (gf:=91) (lb:=#[.pointer (some ⟨w1.heap.size+1,0,none⟩)]) rfl (enters_of Tryz.func91 (by kernel_rfl) rfl)
  (encs:=λx:Nat×List UInt8=>#[.int .i64 (x.1:Int), .string (bs x.2)]) (own:=λ_=>False) (keep:=λk=>k<wL.heap.size/\k≠w1.heap.size) (ok:=λpre x _=>∃ rest,C.items (aT s.data.toList) (bK t s.data.toList)=pre++x::rest) (S:=λys _=>ys=C.items (aT s.data.toList) (bK t s.data.toList))
  (λk hk=>by rcases hk with h | h;exact h.elim;exact h.1)
  (λW1 ht=>by
   have hwl:=ht.below (Nat.le_refl _) (λ_ h=>h.elim);have hbw:=bt aJ.o hwl;have Ew:=bt aG.o hwl;have hcut:=abp A B pg tn pi pb rv nv fv (.string (bs (M.fix s.data.toList))) ov t.r t.m _ W1 (bf.o.below Ew bf.o.lt) (xX.o W1 hbw).1 wW.o.r1 wW.o.r2 (xX.o W1 hbw).2 wW.o.m (Ql.o.below Ew) HSL.o (kK.o W1 hbw).2.1 (kK.o W1 hbw).2.2.1 (kK.o W1 hbw).2.2.2 xP.o;rw [zQ.o] at hcut;exact ZC 7 A B w1.heap.size wL.heap.size (w1.heap.size+1) pg _ _ _ _ _ _ _ _ _ _ _ W1 ht.size Qv.o (by omega) (kK.o W1 hbw).1 ((aQ.o.blk 0 rfl).below hwl (aQ.o.blk 0 rfl).lt) (bf.o.below Ew bf.o.lt) ⟨by omega,by omega,by omega,by omega⟩ hcut AA.o wS.o eH.o gq.o)
  (λ_=>rfl)
  (λN1 pre W=>∃ v,Sep (tV w1.heap.size w1 v (pre.map (λy=>(y.1:Int)))) W/\(∀ g,v.ownBlock=some g->N1<=g)/\wL.heap.size+2<=N1)
  (λ_ _ _ _=>False) ?hI (λ_ _ _ _ _ h _=>h) (λ_ _ _ _ h _=>h) (λN1 h=>⟨.slice none 0 0,aQ.o.tail,λg hg=>(by cases hg),h⟩)
  (λx a1 W=>a1={ tmps:=#[.agg #[.int .i64 tn,pi,pb,rv,nv,fv], .string s, .pointer (some ⟨w.heap.size,0,none⟩),undef, .slice none 0 0, .int .i64 0, .pointer (some ⟨pg,0,none⟩), .nilIface, .pointer (some ⟨w1.heap.size,0,none⟩), .int .i64 (x.1:Int), .tuple #[.pointer (some ⟨pg,0,none⟩), .nilIface], .agg #[.int .i64 tn,pi,pb,rv,nv,fv], .string s, .tuple #[.pointer (some ⟨pg,0,none⟩), .nilIface], .pointer (some ⟨pg,0,none⟩), .nilIface, .nilIface, .bool false,undef,undef, .pointer (some ⟨pg,0,none⟩), .func (.func 91) #[] #[.pointer (some ⟨w1.heap.size+1,0,none⟩)], .int .i64 (x.1:Int), .string (bs x.2),undef,undef,undef,undef,undef,undef,undef,undef,undef,undef,undef,undef],defers:=[] })
  (λ_ _ _ _ h _=>h) ?assign ?body ?done (λ_ _ _ _ _ h _=>h.elim) (λ_ _ _ h _=>h))
 case hI =>
  rintro N1 pre W W' ⟨v,h1,h2,h3⟩ ht;exact⟨v,acA h1 ht (by rintro(h | h);exact h;omega) (λg hg=>by have:=h2 g hg;rintro(h | h);exact h;omega) (λk hk=>by rintro(h | h);exact h;omega),h2,h3⟩
 case assign =>
  intro x W K hW hK
  gi_wp2
  exact hK _ _ (Turns.refl _ _) rfl
 case body =>
  rintro N1 pre x a1 W0 W N hN1 F6 hW0 ⟨v,h1,h2,h3⟩ ht hN ⟨rest,hok⟩ rfl;have hts:=ht.size;have hlt1:∀ g,v.ownBlock=some g->g<W0.heap.size:=λg hg=>((h1.row 1 rfl).lt g hg).2
  have lu:=bx (acA h1 ht (by rintro(h | h);exact h;omega) (λg hg=>by have:=h2 g hg;rintro(h | h);exact h;omega) (λk hk=>by rintro(h | h);exact h;omega));have HH:=bx (λg hg=>show N1<=g/\g<W0.heap.size from⟨h2 g hg,hlt1 g hg⟩);have c0:W.cell? ⟨w1.heap.size,0,none⟩=some v:=((lu.o.blk 0 rfl).cell 0).trans rfl;have f0:=(lu.o.blk 0 rfl).frozen 0;have l0:=(lu.o.blk 0 rfl).lt;have hln:(pre.map (λy=>(y.1:Int))).length<=1000000000:=by
   have h:=F8.o;rw [hok,List.length_append,List.length_cons] at h;rw [List.length_map];omega
  have mV:=bx hok;have HT0:=bx ht;clear h1 h2 ht hok hlt1
  gi_wp2_with (gi_at_builtin;refine P8 (u:=.int .i64 (x.1:Int)) rfl _ _ 22 rfl iT lu.o 1 rfl rfl rfl rfl hln (by omega) (by omega) ?_;rintro v' w3 hS3 ⟨g',c',rfl,-,-⟩ xA BZ;have aC:=bx hS3;have HT3:=bx xA;have JQ:=bx BZ;have c3:w3.cell? ⟨w1.heap.size,0,none⟩=some v:=((hS3.blk 0 rfl).cell 0).trans rfl;have f3:=(hS3.blk 0 rfl).frozen 0;have l3:=(hS3.blk 0 rfl).lt;clear hS3 xA BZ)
  have hT:=(HT3.o.mono (own':=λk=>v.ownBlock=some k\/k=w1.heap.size) (λk h=>Or.inl h)).trans ((Turns.setCell (own:=λq=>q=w1.heap.size) w3 (p:=⟨w1.heap.size,0,none⟩) rfl (.slice (some ⟨g',0,none⟩) (pre.length+1) c')).mono (λk h=>Or.inr h));refine⟨hT.mono (λk hk hh=>?_), .slice (some ⟨g',0,none⟩) ((pre.map (λy=>(y.1:Int))).length+1) c',?_,λg hg=>?_,h3⟩
  ·rcases hk with hk | hk
   ·have h9:=HH.o k hk
    rcases hh with(h | h | h) | h | h <;> omega
   ·subst hk
    rcases hh with(h | h | h) | h | h
    ·exact h.2 rfl
    all_goals omega
  ·have h:=aC.o.set 0 rfl 0 (.slice (some ⟨g',0,none⟩) (pre.length+1) c');have e:(pre++[x]).map (λy=>(y.1:Int))=pre.map (λy=>(y.1:Int))++[(x.1:Int)]:=by simp
   rw [e];unfold tV fK;rw [List.length_append,List.map_append];simp only [List.length_map,List.length_cons,List.length_nil] at h ⊢;exact h
  ·rcases JQ.o with h | h
   ·rw [h] at hg;exact(HH.o g hg).1
   ·rw [h] at hg;injection hg with hg;omega
 case done =>
  intro N1 xs W hW hS ⟨v,h1,h2,h3⟩ hD;have c0:W.cell? ⟨w1.heap.size,0,none⟩=some v:=((h1.blk 0 rfl).cell 0).trans rfl;have HD:=bx hD;have HW:=bx (show Sep (tV w1.heap.size w1 v ((C.items (aT s.data.toList) (bK t s.data.toList)).map (λy=>(y.1:Int)))) W by
   rw [<- hS];exact h1)
  have H2:=bx h2;clear h1 h2 hD hS;have oK:=bx (HW.o.tail.bel (n:=w1.heap.size) (W0:=w1) (by simp [fK]));have dY:=bx (show Sep (Pc.obj wL.heap.size (.deferred (some []))::tV w1.heap.size w1 v ((C.items (aT s.data.toList) (bK t s.data.toList)).map (λy=>(y.1:Int)))) W.drew from Sep.drew (ps:=Pc.obj wL.heap.size (.deferred (some []))::tV w1.heap.size w1 v _) ⟨HD.o,λq hq k hk hqk=>by
   have hk:k=wL.heap.size:=hk;unfold tV fK at hq;simp only [List.mem_cons,List.mem_nil_iff,or_false] at hq
   rcases hq with rfl | rfl | rfl
   ·have:k=w1.heap.size:=hqk;omega
   ·have:=H2.o k hqk;omega
   ·have:k<w1.heap.size:=hqk;omega,HW.o⟩)
  have CU:=bx (show aj W.drew pg 150 #[.int .i64 tn,pi,pb,rv,nv,fv, .string (bs (M.fix s.data.toList)),ov] from(bf.o.below oK.o bf.o.lt).below (iD W 1) (bf.o.below oK.o bf.o.lt).lt);have hbs:w1.heap.size<=W.drew.heap.size:=(dY.o.bel (n:=w1.heap.size) (W0:=w1) (by simp [tV,fK])).size;have cu:=bx (λ(W':World) (h:Below W.drew.heap.size W.drew W')=>show W'.cell? ⟨w1.heap.size,0,none⟩=some v/\W'.cell? ⟨pg,6,none⟩=some (.string (bs (M.fix s.data.toList))) from⟨(h.cell (p:=⟨w1.heap.size,0,none⟩) (dY.o.blk 1 rfl).lt).trans (((dY.o.blk 1 rfl).cell 0).trans rfl),(h.cell (p:=⟨pg,6,none⟩) CU.o.lt).trans ((CU.o.cell 6).trans rfl)⟩);have au:=bx (cu.o W.drew (Below.refl _ _));have iI:=bx (show ((C.items (aT s.data.toList) (bK t s.data.toList)).map (λy=>(y.1:Int))).length<=1000000000 by rw [List.length_map];have:=F8.o;omega);have z1:(bs (M.fix s.data.toList)).size=(M.fix s.data.toList).length:=eU _;generalize (C.items (aT s.data.toList) (bK t s.data.toList)).map (λy=>(y.1:Int))=acc at jX HW dY iI;clear c0 oJ;go_wp2_with fail;refine fP 9 (λW'=>W'.cell? ⟨w1.heap.size,0,none⟩=some v/\W'.cell? ⟨pg,6,none⟩=some (.string (bs (M.fix s.data.toList)))) (by kernel_rfl) ?_;generalize W.drew=WR at dY CU hbs cu au ⊢;refine kS 0 ?_ rfl au.o ?_ ?_;rotate_left
  ·rintro w ⟨q1,q2⟩;go_simp;try with_reducible rfl
  refine kS 1 ?_ rfl au.o ?_ ?_;rotate_left
  ·rintro w ⟨q1,q2⟩;go_simp;try with_reducible rfl
  refine kS 2 ?_ rfl au.o ?_ ?_;rotate_left
  ·rintro w ⟨q1,q2⟩;go_simp;try with_reducible rfl
  refine kS 3 ?_ rfl au.o ?_ ?_;rotate_left
  ·rintro w ⟨q1,q2⟩;go_simp;try with_reducible rfl
  refine kS 4 ?_ rfl au.o ?_ ?_;rotate_left
  ·rintro w ⟨q1,q2⟩;go_simp;try with_reducible rfl
  refine kS 5 ?_ rfl au.o ?_ ?_;rotate_left
  ·rintro w ⟨q1,q2⟩;go_simp;try with_reducible rfl
  refine kP 6 rfl λKK ah=>?_
  go_simp;refine ah.out _ _ (λ_=>cu.o _ (aO WR _)) ?_;clear ah KK;refine kP 7 rfl λKK ah=>?_
  refine uF (u:=.int .i64 ((M.fix s.data.toList).length:Int)) rfl _ _ 22 rfl iT dY.o 2 rfl rfl (by kernel_rfl) rfl iI.o (by omega) hbs ?_;rintro v6 w6 hS6 -;have aW:=bx hS6;have dO:=bx (hS6.bel (n:=w1.heap.size) (W0:=w1) (by simp [tV,fK]));have HF6:=bx (show w6.cell? ⟨w1.heap.size,0,none⟩=some v/\w6.cell? ⟨pg,6,none⟩=some (.string (bs (M.fix s.data.toList))) from⟨((hS6.blk 1 rfl).cell 0).trans rfl,((bf.o.below dO.o bf.o.lt).cell 6).trans rfl⟩);clear hS6;refine ah.out _ _ (λ_=>HF6.o) ?_;clear ah KK;refine kP 8 rfl λKK ah=>?_
  go_simp;refine ah.out _ _ (λ_=>HF6.o) ?_;clear ah KK;refine kP 9 rfl λKK ah=>?_
  go_simp;refine ah.out _ _ (λh=>by cases h) ?_;clear ah KK;refine kD ?_ _;go_wp2_with fail;have hd6:w6.heap[wL.heap.size]?=some (.deferred (some [])):=aW.o.at' 0 rfl;refine⟨by simp, .inl ⟨_,_,rfl,run_takeDeferred hd6,?_⟩⟩;refine⟨_,results_tmp2 rfl _ _ _,?_⟩;have uH:Turns (λk=>k=wL.heap.size) w6 (w6.putObj wL.heap.size (.deferred none)):=Turns.putObj (own:=λk=>k=wL.heap.size) w6 rfl (.deferred none);have kY:=aW.o.tail.keep uH (λq hq k hk e=>aW.o.2.1 q hq k e hk);have hI9:aB (w6.putObj wL.heap.size (.deferred none)) v6 (acc++[((M.fix s.data.toList).length:Int)]):=aB.gK (n:=acc.length+1) (T:=3) (base:=w1.heap.size) (by
   have h:=kY.row 1 rfl;rw [List.map_append];exact h) (by simp)
  exact⟨⟨_,rfl,by rw [jX.o];exact hI9⟩,HB1.o.trans ((kY.bel (n:=w1.heap.size) (W0:=w1) (by simp [tV,fK])).mono HB1.o.size)⟩
end
section
open Go.RowKit
attribute [local go_sem] Oper.semAt_some
theorem abw (A:Nat->Addr) (B:Nat) (v:Value) (t:Tab) (s:ByteArray) (a:Int) (w:World) (hv:TabAt w v t) (hs:dZ t) (hz:s.size<=800) (hE:E A B w) (hD:Ed A B w) (hG:Eg A B w) (hB:B<=w.heap.size) (he:textE t s.data.toList=0) :
  Calls Tryz.prog 21 #[v, .string s, .int .i64 a] w λe w'=>e = .returned (.tuple #[.bool (C.isA t s.data.toList a), .int .i64 0])/\Below w.heap.size w w':=by
 obtain⟨pi,pb,rv,nv,fv,rfl,h1,h2,h3,h4,h5⟩:=hv;obtain⟨V,hV⟩:∃ V,V=w.alloc (.cells #[.int .i64 t.n,pi,pb,rv,nv,fv] 31):=⟨_,rfl⟩
 have HB0:=bx (show Below w.heap.size w V by rw [hV];exact aO _ _);have HK:=bx (show aj V w.heap.size 31 #[.int .i64 t.n,pi,pb,rv,nv,fv] by rw [hV];exact aj.new _ _ _);have bD:=bx (λW (h:Below w.heap.size w W)=>show TabAt W (.agg #[.int .i64 t.n,pi,pb,rv,nv,fv]) t from⟨pi,pb,rv,nv,fv,rfl,h1.below h,h2.below h,h3.below h,h4.below h,h5.below h⟩);have ay:=bx (λW (h:Below V.heap.size V W)=>HK.o.c6 h);have HV:=bx hV;have eY:=bx (anH A B _ t s V (bD.o V HB0.o) hs hz (hE.below (HB0.o.mono hB)) (hD.below (HB0.o.mono hB)) (hG.below (HB0.o.mono hB)) (Nat.le_trans hB HB0.o.size) he);have HIS:=bx (show C.isA t s.data.toList a=((C.eX t s.data.toList).map (λn:Nat=>(n:Int))).any (·==a) by unfold C.isA;rw [List.any_map];rfl);have hpl:=Jy t s.data.toList;rw [<- size_eq,<- List.length_map (f:=λn:Nat=>(n:Int))] at hpl;generalize (C.eX t s.data.toList).map (λn:Nat=>(n:Int))=ps at eY HIS hpl;generalize C.isA t s.data.toList a=res at HIS ⊢;have HIM:=bx (show decide (a∈ps)=res by
  rw [HIS.o,Bool.eq_iff_iff,decide_eq_true_iff,List.any_eq_true];exact⟨λh=>⟨a,h,by simp⟩,λ⟨x,h,e⟩=>by rw [beq_iff_eq] at e;rw [<- e];exact h⟩)
 obtain⟨tn,hn⟩:∃ n,n=t.n:=⟨_,rfl⟩
 rw [<- hn] at HV HK bD ay eY ⊢;clear h1 h2 h3 h4 h5 hV hs hn hE hD hG hB he;obtain⟨k0,k1,k2,k3,k4,k5,kk⟩:=ay.o V (Below.refl _ _)
 go_enter Tryz.func21,Tryz.ntmps21
 go_upto_region 1 with(fail)
 rw [<- HV.o];go_wp2_with fail;refine eY.o.mono ?_;rintro e w1 ⟨⟨v1,rfl,hv1⟩,hb1⟩;have rG:=bx (ae8 v1 ps a w1 hv1 (by omega));have HB1:=bx (bt HB0.o hb1);clear hb1 hv1 k0 k1 k2 k3 k4 k5 kk;go_wp2_with fail;refine rG.o.mono ?_;rintro e w2 ⟨rfl,rfl⟩;go_wp2_with fail;go_ret2
 exact⟨rC (MK HIM.o) rfl,HB1.o⟩
theorem KC (a b:List UInt8):bs a++bs b=bs (a++b):=by
 rw [aat (bs a++bs b)]
 congr 1
theorem ahb (A:Nat->Addr) (B mg hm:Nat) (pi pb rv nv fv iv bv:Value) (g:C.Ga) (h t:List UInt8) (nn:Int) (w:World) (hM:Mt w mg hm pi pb rv nv fv iv bv g) (hs:dZ g.t) (hw:fF g.w) (hb:C.bF g=true) (hz:h.length+t.length<=800) (hE:E A B w) (hD:Ed A B w) (hG:Eg A B w) (hB:B<=w.heap.size) :
  Calls Tryz.prog 38 #[.pointer (some ⟨mg,0,none⟩), .string (bs h), .string (bs t), .int .i64 nn] w λe w'=>e = .returned (.bool (C.gV g h t nn))/\Below w.heap.size w w':=by
 have hsz:(bs (h++t)).size<=800:=by rw [eU,List.length_append];exact hz
 have HIS:=bx (abw A B (.agg #[.int .i64 g.t.n,pi,pb,rv,nv,fv]) g.t (bs (h++t)) (h.length:Int) w hM.tab hs hsz hE hD hG hB (C.nC hb (by rw [qP,List.length_append];omega)));have qg:=bx (λW (hW:Below w.heap.size w W)=>abY A B mg hm pi pb rv nv fv iv bv g (bs (h++t)) _ W (hM.below hW) hs hw hb hsz (hE.below (hW.mono hB)) (hD.below (hW.mono hB)) (hG.below (hW.mono hB)) (Nat.le_trans hB hW.size) rfl);have HR:=bx (show C.gV g h t nn=(C.isA g.t (h++t) (h.length:Int)&&decide (C.aS g (C.aH g.t (h++t)) (C.aH g.t (h++t)).length<=nn)) by
  unfold C.gV C.eG;rw [if_pos (C.jL hb (by rw [List.length_append];omega))])
 rw [HR.o];rw [qP] at HIS qg;have hk:=hM.blk;have hap:=KC h t;have hsh:=eU h;have hcs:(bs h).size+(bs t).size<=800:=by rw [eU,eU];exact hz
 generalize C.isA g.t (h++t) (h.length:Int)=is at *;generalize C.aS g (C.aH g.t (h++t)) (C.aH g.t (h++t)).length=sm at *;generalize g.t.n=tn at hk HIS;generalize g.w.wide=wd at hk;generalize g.k=gk at hk;have c0:w.cell? ⟨mg,0,none⟩=some (.int .i64 tn):=(hk.cell 0).trans rfl;have c1:w.cell? ⟨mg,1,none⟩=some pi:=(hk.cell 1).trans rfl;have c2:w.cell? ⟨mg,2,none⟩=some pb:=(hk.cell 2).trans rfl;have c3:w.cell? ⟨mg,3,none⟩=some rv:=(hk.cell 3).trans rfl;have c4:w.cell? ⟨mg,4,none⟩=some nv:=(hk.cell 4).trans rfl;have c5:w.cell? ⟨mg,5,none⟩=some fv:=(hk.cell 5).trans rfl;have UC:=hk.lt;clear hM hs hb hE hD hG hB hk hz hsz hw HR
 go_enter Tryz.func38,Tryz.ntmps38
 go_wp2_with fail
 try rw [hap]
 try rw [hsh]
 refine HIS.o.mono ?_;rintro e w1 ⟨rfl,hb1⟩;have HB1:=bx hb1;clear hb1 c0 c1 c2 c3 c4 c5 UC
 cases is with
 | false =>
  go_wp2_with fail;go_ret
  exact⟨rfl,HB1.o⟩
 | true =>
  have jf:=bx (qg.o w1 HB1.o);go_wp2_with fail
  try rw [hap]
  refine jf.o.mono ?_;rintro e w2 ⟨rfl,hb2⟩;have HB2:=bx (bt HB1.o hb2);clear hb2;go_wp2_with fail;go_ret
  exact⟨aI (by rw [Bool.true_and];try rfl),HB2.o⟩
end
section
namespace C
def wn (g:Ga) (s e:List UInt8) (n:Int):Nat->Option Nat
 | 0=>none
 | k+1=>qN g s e n k
theorem Z5 {g:Ga} {s e:List UInt8} {n:Int} {k:Nat} (h:gV g (headA g.t s k) (M.fix e) n=true):wn g s e n (k+1)=some k:=by
 cases k with
 | zero =>
  show (if gV g (headA g.t s 0) (M.fix e) n=true then some 0 else none)=some 0
  rw [if_pos h]
 | succ k =>
  show (if gV g (headA g.t s (k+1)) (M.fix e) n=true then some (k+1) else qN g s e n k)=some (k+1)
  rw [if_pos h]
theorem Zb {g:Ga} {s e:List UInt8} {n:Int} {k:Nat} (h:gV g (headA g.t s k) (M.fix e) n=false):wn g s e n (k+1)=wn g s e n k:=by
 cases k with
 | zero =>
  show (if gV g (headA g.t s 0) (M.fix e) n=true then some 0 else none)=none
  rw [if_neg (by rw [h];simp)]
 | succ k =>
  show (if gV g (headA g.t s (k+1)) (M.fix e) n=true then some (k+1) else qN g s e n k)=qN g s e n k
  rw [if_neg (by rw [h];simp)]
theorem NZ {g:Ga} {s e:List UInt8} (h:bF g=false):jI g s e=150:=by
 unfold jI;rw [if_pos h]
theorem MS {g:Ga} {s e:List UInt8} (h:bF g=true) (h1:s.length<=600) (h2:e.length<=60):jI g s e=0:=by
 unfold jI;rw [if_neg (by rw [h];simp),if_neg (by omega)]
end C
open Go.RowKit
attribute [local go_sem] Oper.semAt_some
theorem Gi (A:Nat->Addr) (B:Nat) (v:Value) (g:C.Ga) (s e:ByteArray) (nn:Int) (w:World) (hv:dR w v g) (hs:dZ g.t) (hw:fF g.w) (hz:3*s.size+3*e.size<=800) (hze:e.size<=60) (hE:E A B w) (hD:Ed A B w) (hG:Eg A B w) (hB:B<=w.heap.size) :
  Calls Tryz.prog 13 #[v, .string s, .string e, .int .i64 nn] w λen w'=>en = .returned (.tuple #[.int .i64 ((C.gu g s.data.toList e.data.toList nn).getD 0:Nat), .bool (C.gu g s.data.toList e.data.toList nn).isSome, .int .i64 (C.jI g s.data.toList e.data.toList)])/\Below w.heap.size w w':=by
 have dH:=bx (λW (h:Below w.heap.size w W)=>hv.below h);obtain⟨tn,hn⟩:∃ n,n=g.t.n:=⟨_,rfl⟩
 obtain⟨wd,hwd⟩:∃ b,b=g.w.wide:=⟨_,rfl⟩
 obtain⟨gk,hgk⟩:∃ k,k=g.k:=⟨_,rfl⟩
 obtain⟨pi,pb,rv,nv,fv,iv,bv,rfl,h1,h2⟩:=hv;rw [<- hn,<- hwd,<- hgk] at dH;rw [<- hn,<- hwd,<- hgk];obtain⟨V,hV⟩:∃ V,V=w.alloc (.cells #[.int .i64 tn,pi,pb,rv,nv,fv,iv,bv, .bool wd, .int .i64 gk] 35):=⟨_,rfl⟩
 have HB0:=bx (show Below w.heap.size w V by rw [hV];exact aO _ _);have HK:=bx (show aj V w.heap.size 35 #[.int .i64 tn,pi,pb,rv,nv,fv,iv,bv, .bool wd, .int .i64 gk] by rw [hV];exact aj.new _ _ _);have ay:=bx (λW (h:Below V.heap.size V W)=>show W.cell? ⟨w.heap.size,0,none⟩=some (.int .i64 tn)/\W.cell? ⟨w.heap.size,1,none⟩=some (pi)/\W.cell? ⟨w.heap.size,2,none⟩=some (pb)/\W.cell? ⟨w.heap.size,3,none⟩=some (rv)/\W.cell? ⟨w.heap.size,4,none⟩=some (nv)/\W.cell? ⟨w.heap.size,5,none⟩=some (fv)/\W.cell? ⟨w.heap.size,6,none⟩=some (iv)/\W.cell? ⟨w.heap.size,7,none⟩=some (bv)/\W.cell? ⟨w.heap.size,8,none⟩=some (.bool wd)/\W.cell? ⟨w.heap.size,9,none⟩=some (.int .i64 gk)/\w.heap.size<W.heap.size from
  ⟨((HK.o.below h HK.o.lt).cell 0).trans rfl,((HK.o.below h HK.o.lt).cell 1).trans rfl,((HK.o.below h HK.o.lt).cell 2).trans rfl,((HK.o.below h HK.o.lt).cell 3).trans rfl,((HK.o.below h HK.o.lt).cell 4).trans rfl,((HK.o.below h HK.o.lt).cell 5).trans rfl,((HK.o.below h HK.o.lt).cell 6).trans rfl,((HK.o.below h HK.o.lt).cell 7).trans rfl,((HK.o.below h HK.o.lt).cell 8).trans rfl,((HK.o.below h HK.o.lt).cell 9).trans rfl,(HK.o.below h HK.o.lt).lt⟩)
 have HV:=bx hV;have aG:=bx (HB0.o.trans ((aO V (.cells #[.string s, .int .i64 600, .string e, .int .i64 60] 74)).mono HB0.o.size));have uN:=bx (aje V s e 600 60 74);have oH:=hB;have hrest:∀ W,Below w.heap.size w W->E A B W/\Ed A B W/\Eg A B W/\B<=W.heap.size:=λW h=>⟨hE.below (h.mono hB),hD.below (h.mono hB),hG.below (h.mono hB),Nat.le_trans hB h.size⟩
 have gQ:=bx hrest;have gY:=bx (Dz A B _ (.slice (some ⟨V.heap.size,0,none⟩) 2 2) g [(s,600),(e,60)] _ (dH.o _ aG.o) hs hw (hrest _ aG.o).1 (hrest _ aG.o).2.1 (hrest _ aG.o).2.2.1 (hrest _ aG.o).2.2.2);have gG:=bx (Dc A B _ (.slice (some ⟨V.heap.size,0,none⟩) 2 2) g _ (dH.o _ aG.o) hs hw (hrest _ aG.o).1 (hrest _ aG.o).2.1 (hrest _ aG.o).2.2.1 (hrest _ aG.o).2.2.2);have uq:=bx (λW (h:Below w.heap.size w W)=>DZ A B 0 (by decide) W (hrest W h).1);obtain⟨k0,k1,k2,k3,k4,k5,k6,k7,k8,k9,kk⟩:=ay.o V (Below.refl _ _);have jQ:=bx (λ(hgb:C.bF g=true) W mg hm pi pb rv nv fv iv bv (h:Below w.heap.size w W) (hM:Mt W mg hm pi pb rv nv fv iv bv g)=>WT A B mg hm pi pb rv nv fv iv bv g s W hM hs hgb (by omega) (hrest W h).1 (hrest W h).2.1 (hrest W h).2.2.1 (hrest W h).2.2.2);have HCM:=bx (λ(hgb:C.bF g=true) W mg hm pi pb rv nv fv iv bv (hd tl:List UInt8) (h:Below w.heap.size w W) (hM:Mt W mg hm pi pb rv nv fv iv bv g) (hz:hd.length+tl.length<=800)=>ahb A B mg hm pi pb rv nv fv iv bv g hd tl nn W hM hs hw hgb hz (hrest W h).1 (hrest W h).2.1 (hrest W h).2.2.1 (hrest W h).2.2.2);have CO:=bx (λW (h:Below w.heap.size w W)=>NT A B e W (by omega) (hrest W h).1 (hrest W h).2.2.2)
 cases hgb:C.bF g with
 | false =>
  have HR:=bx (show C.gu g s.data.toList e.data.toList nn=none/\C.jI g s.data.toList e.data.toList=150 by
   have h:=C.NZ (s:=s.data.toList) (e:=e.data.toList) hgb;unfold C.gu;rw [h];exact⟨rfl,rfl⟩)
  rw [HR.o.1,HR.o.2];clear jQ CO;have gG:=bx (gG.o hgb);clear gY HCM h1 h2 hV hs hw hn hwd hgk hE hD hG hB hgb hrest oH hz
  go_enter Tryz.func13,Tryz.ntmps13
  go_upto_region 1 with(fail)
  rw [<- HV.o];go_wp2_with fail;refine gG.o.mono ?_;rintro e0 w1 ⟨rfl,hb1⟩;have HB1:=bx (bt aG.o hb1);have HT1:=bx (uq.o w1 HB1.o);clear hb1 k0 k1 k2 k3 k4 k5 k6 k7 k8 k9 kk;unfold jZ at HT1 ⊢;go_wp2_with fail;refine HT1.o.mono ?_;rintro e0 w2 ⟨rfl,rfl⟩;go_wp2_with fail
  go_ret3
  exact⟨rfl,HB1.o⟩
 | true =>
  have hge:=C.jL (s:=s.data.toList) hgb (by rw [<- size_eq];omega);have hE0:=C.MS (s:=s.data.toList) (e:=e.data.toList) hgb (by rw [<- size_eq];omega) (by rw [<- size_eq];omega);have HR:=bx (show C.gu g s.data.toList e.data.toList nn=C.wn g s.data.toList e.data.toList nn ((C.cZ g.t s.data.toList).length+1)/\C.jI g s.data.toList e.data.toList=0 by
   unfold C.gu;rw [if_pos hE0];exact⟨rfl,hE0⟩)
  rw [HR.o.1,HR.o.2];have gq:=bx (λk=>show (C.headA g.t s.data.toList k).length<=3*s.size by
   have h:=C.Jd g s.data.toList hge k;rw [<- size_eq] at h;exact h)
  have WJ:=bx (show (M.fix e.data.toList).length<=3*e.size by have:=C.sG e.data.toList;rw [<- size_eq] at this;exact this);have lN:=bx (show (C.cZ g.t s.data.toList).length<=1000 by
   rw [C.OH hge,C.tq];have h1:=(iq g.t s.data.toList).2.len;have h2:=lM s.data.toList;rw [<- size_eq] at h2;omega)
  have ZQ:=bx (λk=>show ((C.cZ g.t s.data.toList).take k).flatten=C.headA g.t s.data.toList k from rfl);have HCM:=bx (HCM.o hgb);have jQ:=bx (jQ.o hgb);have aU:=bx (show 3*s.size+3*e.size<=800 from hz);have HHI:=bx (λk=>C.Z5 (g:=g) (s:=s.data.toList) (e:=e.data.toList) (n:=nn) (k:=k));have HMI:=bx (λk=>C.Zb (g:=g) (s:=s.data.toList) (e:=e.data.toList) (n:=nn) (k:=k));have HW0:=bx (show C.wn g s.data.toList e.data.toList nn 0=none from rfl);clear hge HR hE0;generalize C.wn g s.data.toList e.data.toList nn=wn at *;generalize C.headA g.t s.data.toList=hda at *;generalize C.cZ g.t s.data.toList=cl at *;generalize M.fix e.data.toList=fe at *;obtain⟨n,hn⟩:∃ n,n=cl.length:=⟨_,rfl⟩
  have HN:=bx hn;rw [<- hn];clear hn;have gY:=bx (gY.o hgb uN.o (by simp) (by intro x hx;simp only [List.mem_cons,List.mem_nil_iff,or_false] at hx;rcases hx with rfl | rfl <;> dsimp only <;> omega));clear gG h1 h2 hV hs hw hn hwd hgk hE hD hG hB hrest oH
  go_enter Tryz.func13,Tryz.ntmps13
  go_upto_region 1 with(fail)
  rw [<- HV.o];go_wp2_with fail;refine gY.o.mono ?_;rintro e w1 ⟨⟨mg,hm,qB,pb',rv',qj,qx,iH,iJ,rfl,hM⟩,hb1⟩;have HB1:=bx (bt aG.o hb1);have jf:=bx hM;clear hb1 hM k0 k1 k2 k3 k4 k5 k6 k7 k8 k9 kk;have dV:=bx (jQ.o w1 mg hm qB pb' rv' qj qx iH iJ HB1.o jf.o);have jC:=bx (λW hd (h:Below w1.heap.size w1 W) (hz:hd.length+fe.length<=800)=>HCM.o W mg hm qB pb' rv' qj qx iH iJ hd fe (bt HB1.o h) (jf.o.below h) hz);clear HCM jQ;clear hz hze;go_wp2_with fail;refine dV.o.mono ?_;rintro e0 w2 ⟨⟨v2,rfl,hv2,-⟩,hb2⟩;have HB2:=bx hb2;have iV:=bx hv2;clear hb2;obtain⟨la,lc,rfl,hl1,hl2⟩:=hv2.slice;rw [<- HN.o] at hl1 iV ⊢;clear hv2;go_wp2_with fail
  go_loopw [14] (λkv wr=>∃ z:Int,kv = .int .i64 z/\-1<=z/\z<=n/\Box (wn (n+1)=wn (z+1).toNat)/\Box (Below w2.heap.size w2 wr)) (λkv _=>(intOf kv+1).toNat)
  case atStart=>exact⟨_,rfl,by omega,by omega,⟨by rw [show ((n:Int)+1).toNat=n+1 by omega]⟩,⟨Below.refl _ _⟩⟩
  case round =>
   obtain⟨z,rfl,hz1,hz2,hwn,hb⟩:=hrel
   by_cases hlt:0<=z
   ·obtain⟨k,rfl⟩:∃ k:Nat,z=k:=⟨z.toNat,by omega⟩
    have hkn:k<=n:=by omega
    have e1:((k:Int)+1).toNat=k+1:=by omega
    rw [e1] at hwn;have htl:(cl.take k).length=k:=by rw [List.length_take];have:=HN.o;omega
    have QX:=bx (λW (h:Below w2.heap.size w2 W)=>show Calls Tryz.prog 39 #[.slice la k lc, .string (bs [])] W λe w'=>e = .returned (.string (bs (cl.take k).flatten))/\Below W.heap.size W w' by
     have h3:=iV.o.below h;rw [HN.o] at h3;have h2:=dI.take h3 k lc (by rw [htl];omega) (Nat.le_refl _);rw [htl] at h2;exact ace _ _ W h2 (by rw [ZQ.o];have:=gq.o k;have:=aU.o;omega) (by rw [htl];have:=HN.o;have:=lN.o;omega))
    have hkl:k<=lc:=by omega
    rw [ZQ.o] at QX;have aP:=bx hb.o;have aJ:=bx (bt HB2.o hb.o);have jH:=bx (show (hda k).length+fe.length<=800 by have:=gq.o k;have:=WJ.o;have:=aU.o;omega);have I7:=bx hwn.o;have HZ:=bx hz2
    cases hgo:C.gV g (hda k) fe nn with
    | true =>
     have xB:=bx (hgo▸λW h=>jC.o W (hda k) h jH.o);have Bl:=bx (I7.o.trans (HHI.o k hgo));clear e1 htl hgo hb hwn hz1 hz2;go_wp2_with fail;refine(QX.o wr aP.o).mono ?_;rintro e1 w3 ⟨rfl,hb3⟩;have HB3:=bx (bt aJ.o hb3);clear hb3;go_wp2_with fail;refine(CO.o w3 (bt HB1.o HB3.o)).mono ?_;rintro e1 w4 ⟨rfl,hb4⟩;have HB4:=bx (bt HB3.o hb4);clear hb4;go_wp2_with fail;refine(xB.o w4 HB4.o).mono ?_;rintro e1 w5 ⟨rfl,hb5⟩;have aK:=bx (bt HB4.o hb5);clear hb5;go_wp2_with fail
     go_ret3
     exact⟨by rw [Bl.o];rfl,bt HB1.o aK.o⟩
    | false =>
     have xB:=bx (hgo▸λW h=>jC.o W (hda k) h jH.o);have Bl:=bx (I7.o.trans (HMI.o k hgo));clear e1 htl hgo hb hwn hz1 hz2;go_wp2_with fail;refine(QX.o wr aP.o).mono ?_;rintro e1 w3 ⟨rfl,hb3⟩;have HB3:=bx (bt aJ.o hb3);have nS:=bx hb3;clear hb3;go_wp2_with fail;refine(CO.o w3 (bt HB1.o HB3.o)).mono ?_;rintro e1 w4 ⟨rfl,hb4⟩;have HB4:=bx (bt HB3.o hb4);have Ef:=bx hb4;clear hb4;go_wp2_with fail;refine(xB.o w4 HB4.o).mono ?_;rintro e1 w5 ⟨rfl,hb5⟩;have aK:=bx (bt HB4.o hb5);have Oj:=bx hb5;have akg:=bx (show Below w2.heap.size w2 w5 from aP.o.trans ((nS.o.trans ((bt Ef.o Oj.o).mono nS.o.size)).mono aP.o.size));clear hb5;go_wp2_with fail
     go_roundw
     case rel=>exact⟨(k:Int)-1,rfl,by omega,by have:=HZ.o;omega,⟨by rw [show ((k:Int)-1+1).toNat=k by omega];exact Bl.o⟩,akg⟩
     case measure=>simp [intOf]
   ·obtain rfl:z=-1:=by omega
    have I7:=bx (hwn.o.trans HW0.o);rw [I7.o];clear hwn;have aJ:=bx (HB1.o.trans ((bt HB2.o hb.o).mono HB1.o.size));clear hb;go_wp2_with fail
    go_ret3
    exact⟨by rw [I7.o];rfl,aJ.o⟩
end
section
namespace C
theorem alI (g:Ga) (ls:List (List Int)):marks g ls=0::(sums g ls).map (·.2):=by
 unfold marks sums;rw [List.range_succ_eq_map,List.map_cons,List.map_map,List.map_map]
 rfl
end C
open Go.RowKit Go.Shelf
attribute [local go_sem] Oper.semAt_some
def BF (n:Nat) (W0:World) (v:Value) (l:List Int):List Pc:=Pc.blk (n+1) 22 #[v]::fK n W0 v l
theorem PX {n:Nat} {W0 W W':World} {v:Value} {l:List Int} {own:Nat->Prop} (h:Sep (BF n W0 v l) W) (ht:Turns own W W') (h1:¬ own (n+1)) (h2:∀ g,v.ownBlock=some g->¬ own g) (h3:∀ k,k<n->¬ own k):Sep (BF n W0 v l) W':=h.keep ht (λp hp k hk=>by
 unfold BF fK at hp;simp only [List.mem_cons,List.mem_nil_iff,or_false] at hp
 rcases hp with rfl | rfl | rfl
 ·rw [show k=n+1 from hk];exact h1
 ·exact h2 k hk
 ·exact h3 k hk)
theorem Nz (A:Nat->Addr) (B:Nat) (v:Value) (g:C.Ga) (s:ByteArray) (w:World) (hv:dR w v g) (hs:dZ g.t) (hw:fF g.w) (hz:s.size<=800) (hE:E A B w) (hD:Ed A B w) (hG:Eg A B w) (hB:B<=w.heap.size) :
  Calls Tryz.prog 16 #[v, .string s] w λe w'=>(∃ v',e = .returned (.tuple #[v', .int .i64 (C.bJ g s.data.toList)])/\aB w' v' (C.jO g s.data.toList))/\Below w.heap.size w w':=by
 have dH:=bx (λW (h:Below w.heap.size w W)=>hv.below h);obtain⟨tn,hn⟩:∃ n,n=g.t.n:=⟨_,rfl⟩
 obtain⟨wd,hwd⟩:∃ b,b=g.w.wide:=⟨_,rfl⟩
 obtain⟨gk,hgk⟩:∃ k,k=g.k:=⟨_,rfl⟩
 obtain⟨pi,pb,rv,nv,fv,iv,bv,rfl,h1,h2⟩:=hv;rw [<- hn,<- hwd,<- hgk] at dH;rw [<- hn,<- hwd,<- hgk];obtain⟨V,hV⟩:∃ V,V=w.alloc (.cells #[.int .i64 tn,pi,pb,rv,nv,fv,iv,bv, .bool wd, .int .i64 gk] 35):=⟨_,rfl⟩
 have HB0:=bx (show Below w.heap.size w V by rw [hV];exact aO _ _);have HK:=bx (show aj V w.heap.size 35 #[.int .i64 tn,pi,pb,rv,nv,fv,iv,bv, .bool wd, .int .i64 gk] by rw [hV];exact aj.new _ _ _);have ay:=bx (λW (h:Below V.heap.size V W)=>show W.cell? ⟨w.heap.size,0,none⟩=some (.int .i64 tn)/\W.cell? ⟨w.heap.size,1,none⟩=some (pi)/\W.cell? ⟨w.heap.size,2,none⟩=some (pb)/\W.cell? ⟨w.heap.size,3,none⟩=some (rv)/\W.cell? ⟨w.heap.size,4,none⟩=some (nv)/\W.cell? ⟨w.heap.size,5,none⟩=some (fv)/\W.cell? ⟨w.heap.size,6,none⟩=some (iv)/\W.cell? ⟨w.heap.size,7,none⟩=some (bv)/\W.cell? ⟨w.heap.size,8,none⟩=some (.bool wd)/\W.cell? ⟨w.heap.size,9,none⟩=some (.int .i64 gk)/\w.heap.size<W.heap.size from
  ⟨((HK.o.below h HK.o.lt).cell 0).trans rfl,((HK.o.below h HK.o.lt).cell 1).trans rfl,((HK.o.below h HK.o.lt).cell 2).trans rfl,((HK.o.below h HK.o.lt).cell 3).trans rfl,((HK.o.below h HK.o.lt).cell 4).trans rfl,((HK.o.below h HK.o.lt).cell 5).trans rfl,((HK.o.below h HK.o.lt).cell 6).trans rfl,((HK.o.below h HK.o.lt).cell 7).trans rfl,((HK.o.below h HK.o.lt).cell 8).trans rfl,((HK.o.below h HK.o.lt).cell 9).trans rfl,(HK.o.below h HK.o.lt).lt⟩)
 have HV:=bx hV;have aG:=bx (HB0.o.trans ((aO V (.cells #[.string s, .int .i64 2000] 74)).mono HB0.o.size));have uN:=bx (Gq V s 2000 74);have oH:=hB;have hrest:∀ W,Below w.heap.size w W->E A B W/\Ed A B W/\Eg A B W/\B<=W.heap.size:=λW h=>⟨hE.below (h.mono hB),hD.below (h.mono hB),hG.below (h.mono hB),Nat.le_trans hB h.size⟩
 have gQ:=bx hrest;have gY:=bx (Dz A B _ (.slice (some ⟨V.heap.size,0,none⟩) 1 1) g [(s,2000)] _ (dH.o _ aG.o) hs hw (hrest _ aG.o).1 (hrest _ aG.o).2.1 (hrest _ aG.o).2.2.1 (hrest _ aG.o).2.2.2);have gG:=bx (Dc A B _ (.slice (some ⟨V.heap.size,0,none⟩) 1 1) g _ (dH.o _ aG.o) hs hw (hrest _ aG.o).1 (hrest _ aG.o).2.1 (hrest _ aG.o).2.2.1 (hrest _ aG.o).2.2.2);have uq:=bx (λW (h:Below w.heap.size w W)=>DZ A B 0 (by decide) W (hrest W h).1);obtain⟨k0,k1,k2,k3,k4,k5,k6,k7,k8,k9,kk⟩:=ay.o V (Below.refl _ _);have HIT:=bx (λ(hgb:C.bF g=true) mg hm pi pb rv nv fv iv bv (W0 W1:World) (l:Nat) (h:Below w.heap.size w W0) (h1:Below W0.heap.size W0 W1) (hM:Mt W0 mg hm pi pb rv nv fv iv bv g) (h2:aj W1 (W0.heap.size+2) 68 #[.pointer (some ⟨mg,0,none⟩)]) (h3:aj W1 (W0.heap.size+3) 9 #[.string s])=>QS 7 A B W0.heap.size (W0.heap.size+2) (W0.heap.size+3) mg hm pi pb rv nv fv iv bv g s _ l W0 W1 rfl h1 (hrest W0 h).1 (hrest W0 h).2.1 (hrest W0 h).2.2.1 (hrest W0 h).2.2.2 hM hs hw hgb hz h2 h3 rfl);have HCM:=bx (show True from trivial)
 cases hgb:C.bF g with
 | false =>
  have HR:=bx (show C.jO g s.data.toList=[]/\C.bJ g s.data.toList=150 by
   have h:=C.lW (s:=s.data.toList) hgb;unfold C.jO;rw [h];exact⟨rfl,rfl⟩)
  rw [HR.o.1,HR.o.2];clear HIT;have gG:=bx (gG.o hgb);clear gY HCM h1 h2 hV hs hw hn hwd hgk hE hD hG hB hgb hrest oH hz
  go_enter Tryz.func16,Tryz.ntmps16
  go_upto_region 1 with(fail)
  rw [<- HV.o];go_wp2_with fail;refine gG.o.mono ?_;rintro e w1 ⟨rfl,hb1⟩;have HB1:=bx (bt aG.o hb1);have HT1:=bx (uq.o w1 HB1.o);clear hb1 k0 k1 k2 k3 k4 k5 k6 k7 k8 k9 kk;unfold jZ at HT1 ⊢;go_wp2_with fail;refine HT1.o.mono ?_;rintro e w2 ⟨rfl,rfl⟩;go_wp2_with fail;go_ret2
  exact⟨⟨_,rfl, .inl ⟨rfl,rfl⟩⟩,HB1.o⟩
 | true =>
  have hge:=C.jL (s:=s.data.toList) hgb (by rw [<- size_eq];omega);have HR:=bx (show C.jO g s.data.toList=0::(C.sums g (C.aH g.t s.data.toList)).map (·.2)/\C.bJ g s.data.toList=0 by
   unfold C.jO;rw [if_pos hge,C.alI];exact⟨rfl,hge⟩)
  rw [HR.o.1,HR.o.2];have HIT:=bx (HIT.o hgb);have lN:=bx (show (C.sums g (C.aH g.t s.data.toList)).length<=1000 by
   rw [C.zn,C.tq];have h1:=(iq g.t s.data.toList).2.len;have h2:=lM s.data.toList;rw [<- size_eq] at h2;omega)
  clear hge HR;generalize C.sums g (C.aH g.t s.data.toList)=ss at *;have gY:=bx (gY.o hgb uN.o (by simp) (by intro x hx;rw [List.mem_singleton.1 hx];show (s.size:Int)<=2000;omega));clear gG HCM h1 h2 hV hs hw hn hwd hgk hE hD hG hB hrest oH;refine(callsIn_wide (n:=9)).1 (callsIn_of_wp_marks Tryz.func16 rfl trivial (wpIn_wide.2 ?_));simp only [Tryz.ntmps16,List.size_toArray,List.length_cons,List.length_nil,Nat.reduceAdd,Nat.reduceSub,Array.replicate_succ,Array.replicate_zero,List.push_toArray,List.append_toArray,List.nil_append,List.cons_append]
  go_upto_region 1 with(fail)
  rw [<- HV.o];go_wp2_with fail;refine gY.o.mono ?_;rintro e w1 ⟨⟨mg,hm,qB,pb',rv',qj,qx,iH,iJ,rfl,hM⟩,hb1⟩;have HB1:=bx (bt aG.o hb1);have jf:=bx hM;clear hb1 hM k0 k1 k2 k3 k4 k5 k6 k7 k8 k9 kk;go_wp2_with fail;refine(VQ _ _ _).mono ?_;rintro e w2 ⟨rfl,rfl⟩;go_wp2_with fail;have aQ:=bx (show Sep (Pc.blk (w1.heap.size+3) 9 #[.string s]::Pc.blk (w1.heap.size+2) 68 #[.pointer (some ⟨mg,0,none⟩)]::BF w1.heap.size w1 (.slice (some ⟨w1.heap.size,0,none⟩) 1 1) [0]) ((((w1.alloc (.cells #[.int .i64 0] 3)).alloc (.cells #[.slice (some ⟨w1.heap.size,0,none⟩) 1 1] 22)).alloc (.cells #[.pointer (some ⟨mg,0,none⟩)] 68)).alloc (.cells #[.string s] 9)) by
   have h0:Sep (fK w1.heap.size w1 (.slice (some ⟨w1.heap.size,0,none⟩) 1 1) [0]) (w1.alloc (.cells #[.int .i64 0] 3)) :=
    (Sep.start w1).got (base:=w1.heap.size) (aO w1 _) (World.ownsRow_lit (base:=w1.heap.size) (e:=3) (size:=1) w1 #[.int .i64 0] 1 (Nat.le_refl _) (by unfold maxLen;omega) rfl) (Nat.le_refl _)
   have h:=((h0.bM 22 #[.slice (some ⟨w1.heap.size,0,none⟩) 1 1]).bM 68 #[.pointer (some ⟨mg,0,none⟩)]).bM 9 #[.string s];simp only [World.size_alloc] at h;exact h)
  have oJ:((((w1.alloc (.cells #[.int .i64 0] 3)).alloc (.cells #[.slice (some ⟨w1.heap.size,0,none⟩) 1 1] 22)).alloc (.cells #[.pointer (some ⟨mg,0,none⟩)] 68)).alloc (.cells #[.string s] 9)).heap.size=w1.heap.size+4:=by simp
  generalize (((w1.alloc (.cells #[.int .i64 0] 3)).alloc (.cells #[.slice (some ⟨w1.heap.size,0,none⟩) 1 1] 22)).alloc (.cells #[.pointer (some ⟨mg,0,none⟩)] 68)).alloc (.cells #[.string s] 9)=wL at aQ oJ ⊢;have aU:=bx oJ;have aif:=bx (show Below w1.heap.size w1 wL from aQ.o.bel (n:=w1.heap.size) (W0:=w1) (by simp [BF,fK]));refine(wpIn_wide (n:=9)).1 (JI (α:=Nat×Int) (gf:=83) (lb:=#[.pointer (some ⟨w1.heap.size+1+1,0,none⟩), .pointer (some ⟨w1.heap.size+1+1+1,0,none⟩)]) rfl (enters_of Tryz.func83 (by kernel_rfl) rfl)
   (encs:=λx:Nat×Int=>#[.int .i64 (x.1:Int), .int .i64 x.2]) (own:=λ_=>False) (keep:=λk=>k<w1.heap.size\/k=w1.heap.size+2) (ok:=λpre x _=>∃ rest,ss=pre++x::rest) (S:=λys _=>ys=ss)
   (λk hk=>by rcases hk with h | h | h;exact h.elim;omega;omega)
   (λW1 ht=>by
    have hwl:=ht.below (Nat.le_refl _) (λ_ h=>h.elim);exact HIT.o mg hm _ _ _ _ _ _ _ w1 W1 _ HB1.o (bt aif.o hwl) jf.o ((aQ.o.blk 1 rfl).below hwl (aQ.o.blk 1 rfl).lt) ((aQ.o.blk 0 rfl).below hwl (aQ.o.blk 0 rfl).lt))
   (λ_=>rfl)
   (λN1 pre W=>∃ v,Sep (BF w1.heap.size w1 v (0::pre.map (·.2))) W/\(∀ g,v.ownBlock=some g->g=w1.heap.size\/N1<=g)/\wL.heap.size+2<=N1)
   (λ_ _ _ _=>False) ?hI (λ_ _ _ _ _ h _=>h) (λ_ _ _ _ h _=>h) (λN1 h=>⟨.slice (some ⟨w1.heap.size,0,none⟩) 1 1,aQ.o.tail.tail,λg hg=>.inl (by simpa [Value.ownBlock] using hg.symm),h⟩)
   (λx a1 W=>a1={ tmps:=#[.agg #[.int .i64 tn,pi,pb,rv,nv,fv,iv,bv, .bool wd, .int .i64 gk], .string s, .pointer (some ⟨w.heap.size,0,none⟩),undef, .slice none 0 0, .int .i64 0, .pointer (some ⟨mg,0,none⟩), .nilIface, .pointer (some ⟨w1.heap.size+1,0,none⟩),undef, .int .i64 x.2, .tuple #[.pointer (some ⟨mg,0,none⟩), .nilIface], .agg #[.int .i64 tn,pi,pb,rv,nv,fv,iv,bv, .bool wd, .int .i64 gk], .string s, .agg #[.string s, .int .i64 2000], .slice (some ⟨V.heap.size,0,none⟩) 1 1, .tuple #[.pointer (some ⟨mg,0,none⟩), .nilIface], .pointer (some ⟨mg,0,none⟩), .nilIface, .nilIface, .bool false,undef,undef, .slice (some ⟨w1.heap.size,0,none⟩) 1 1, .pointer (some ⟨mg,0,none⟩), .string s, .func (.func 83) #[] #[.pointer (some ⟨w1.heap.size+1+1,0,none⟩), .pointer (some ⟨w1.heap.size+1+1+1,0,none⟩)], .int .i64 (x.1:Int), .int .i64 x.2,undef,undef,undef,undef,undef],defers:=[] })
   (λ_ _ _ _ h _=>h) ?assign ?body ?done (λ_ _ _ _ _ h _=>h.elim) (λ_ _ _ h _=>h))
  case hI =>
   rintro N1 pre W W' ⟨v,h1,h2,h3⟩ ht;exact⟨v,PX h1 ht (by rintro(h | h);exact h;omega) (λg hg=>by have:=h2 g hg;rintro(h | h);exact h;omega) (λk hk=>by rintro(h | h);exact h;omega),h2,h3⟩
  case assign =>
   intro x W K hW hK
   gi_wp2
   exact hK _ _ (Turns.refl _ _) rfl
  case body =>
   rintro N1 pre x a1 W0 W N hN1 F6 hW0 ⟨v,h1,h2,h3⟩ ht hN ⟨rest,hok⟩ rfl;have hts:=ht.size;have hlt1:∀ g,v.ownBlock=some g->g<W0.heap.size:=λg hg=>((h1.row 1 rfl).lt g hg).2
   have lu:=bx (PX h1 ht (by rintro(h | h);exact h;omega) (λg hg=>by have:=h2 g hg;rintro(h | h);exact h;omega) (λk hk=>by rintro(h | h);exact h;omega));have HH:=bx (λg hg=>show (g=w1.heap.size\/N1<=g)/\g<W0.heap.size from⟨h2 g hg,hlt1 g hg⟩);have c0:W.cell? ⟨w1.heap.size+1,0,none⟩=some v:=((lu.o.blk 0 rfl).cell 0).trans rfl;have f0:=(lu.o.blk 0 rfl).frozen 0;have l0:=(lu.o.blk 0 rfl).lt;have hln:((0:Int)::pre.map (·.2)).length<=1000000000:=by
    have h:=lN.o;rw [hok,List.length_append,List.length_cons] at h;rw [List.length_cons,List.length_map];omega
   have mV:=bx hok;have HT0:=bx ht;clear h1 h2 ht hok hlt1
   gi_wp2_with (gi_at_builtin;refine P8 (u:=.int .i64 x.2) rfl _ _ 22 rfl iT lu.o 1 rfl rfl rfl rfl hln (by omega) (by omega) ?_;rintro v' w3 hS3 ⟨g',c',rfl,-,-⟩ xA BZ;have aC:=bx hS3;have HT3:=bx xA;have JQ:=bx BZ;have c3:w3.cell? ⟨w1.heap.size+1,0,none⟩=some v:=((hS3.blk 0 rfl).cell 0).trans rfl;have f3:=(hS3.blk 0 rfl).frozen 0;have l3:=(hS3.blk 0 rfl).lt;clear hS3 xA BZ)
   have hT:=(HT3.o.mono (own':=λk=>v.ownBlock=some k\/k=w1.heap.size+1) (λk h=>Or.inl h)).trans ((Turns.setCell (own:=λq=>q=w1.heap.size+1) w3 (p:=⟨w1.heap.size+1,0,none⟩) rfl (.slice (some ⟨g',0,none⟩) (pre.length+1+1) c')).mono (λk h=>Or.inr h));refine⟨hT.mono (λk hk hh=>?_), .slice (some ⟨g',0,none⟩) (((0:Int)::pre.map (·.2)).length+1) c',?_,λg hg=>?_,h3⟩
   ·rcases hk with hk | hk
    ·have h9:=HH.o k hk
     rcases hh with((h | h) | h | h) | h | h <;> omega
    ·subst hk
     rcases hh with((h | h) | h | h) | h | h
     all_goals omega
   ·have h:=aC.o.set 0 rfl 0 (.slice (some ⟨g',0,none⟩) (pre.length+1+1) c');have e:(0:Int)::(pre++[x]).map (·.2)=(0::pre.map (·.2))++[x.2]:=by simp
    rw [e];unfold BF fK;rw [List.length_append,List.map_append];simp only [List.length_map,List.length_cons,List.length_nil] at h ⊢;exact h
   ·rcases JQ.o with h | h
    ·rw [h] at hg;exact(HH.o g hg).1
    ·rw [h] at hg;injection hg with hg;omega
  case done =>
   intro N1 xs W hW hS ⟨v,h1,h2,h3⟩ hD;have c0:W.cell? ⟨w1.heap.size+1,0,none⟩=some v:=((h1.blk 0 rfl).cell 0).trans rfl;have HD:=bx hD;have HW:=bx (show Sep (BF w1.heap.size w1 v (0::ss.map (·.2))) W by
    rw [<- hS];exact h1)
   have H2:=bx h2;clear h1 h2 hD hS;go_wp2_with fail;refine⟨by simp, .inl ⟨_,_,rfl,run_takeDeferred HD.o,?_⟩⟩;refine⟨_,results_tmp2 rfl _ _ _,?_⟩;have uH:Turns (λk=>k=wL.heap.size) W (W.putObj wL.heap.size (.deferred none)):=Turns.putObj (own:=λk=>k=wL.heap.size) W rfl (.deferred none);have kY:=PX HW.o uH (by omega) (λg hg=>by have:=H2.o g hg;omega) (λk hk=>by omega);exact⟨⟨v,rfl,(zL kY.tail).1⟩,HB1.o.trans ((kY.tail.bel (n:=w1.heap.size) (W0:=w1) (by simp [fK])).mono HB1.o.size)⟩
end
section
open Go.RowKit
attribute [local go_sem] Oper.semAt_some
structure Sw (A:Nat->Addr) (B:Nat) (w:World):Prop where
 e:E A B w
 d:Ed A B w
 g:Eg A B w
 t:Qr w
 le:B<=w.heap.size
theorem Sw.below {A:Nat->Addr} {B:Nat} {w w':World} (h:Sw A B w) (hb:Below w.heap.size w w'):Sw A B w':=⟨h.e.below (hb.mono h.le),h.d.below (hb.mono h.le),h.g.below (hb.mono h.le),(hb.cell (p:=⟨9,0,none⟩) (World.block_lt_of_cell? w _ h.t)).trans h.t,Nat.le_trans h.le hb.size⟩
theorem bT {a b c:World} (h:Below a.heap.size a b) (k:Below b.heap.size b c):Below a.heap.size a c:=bt h k
theorem dR.slices {w:World} {v:Value} {g:C.Ga} (h:dR w v g):∃ x1 z1 x2 z2 x3 z3 x4 z4 x5 z5 x6 z6 x7 z7,v = .agg #[.int .i64 g.t.n, .slice x1 g.t.p.1.length z1, .slice x2 g.t.p.2.length z2, .slice x3 g.t.r.length z3, .slice x4 g.t.m.1.length z4, .slice x5 g.t.m.2.length z5, .slice x6 g.w.p.1.length z6, .slice x7 g.w.p.2.length z7, .bool g.w.wide, .int .i64 g.k]:=by
 obtain⟨pi,pb,rv,nv,fv,iv,bv,rfl,⟨_,_,_,_,_,h1,t1,t2,t3,t4,t5⟩,⟨_,_,h2,t6,t7⟩⟩:=h;injection h1 with h1;injection h2 with h2;simp only [Array.mk.injEq,List.cons.injEq] at h1 h2;obtain⟨-,rfl,rfl,rfl,rfl,rfl,-⟩:=h1;obtain⟨rfl,rfl,-⟩:=h2;obtain⟨a1,c1,rfl⟩:=t1.slice;obtain⟨a2,c2,rfl⟩:=t2.slice;obtain⟨a3,c3,rfl⟩:=t3.slice;obtain⟨a4,c4,rfl⟩:=t4.slice;obtain⟨a5,c5,rfl⟩:=t5.slice;obtain⟨a6,c6,rfl⟩:=t6.slice;obtain⟨a7,c7,rfl⟩:=t7.slice;exact⟨a1,c1,a2,c2,a3,c3,a4,c4,a5,c5,a6,c6,a7,c7,rfl⟩
theorem F5 (t:F.Trie):(qh t).1.length<=4360/\(qh t).2.length<=30/\∀ r∈(qh t).2,r.length<=260:=by
 refine⟨?_,?_,λr hr=>?_⟩
 ·show (t.1.take 4360).length<=_;rw [List.length_take];omega
 ·show ((t.2.take 30).map AL).length<=_;rw [List.length_map,List.length_take];omega
 ·obtain⟨y,-,rfl⟩:=List.mem_map.1 hr;unfold AL;rw [List.length_take];omega
theorem Aj (t:Tab):dZ (bV t) where
 p1:=by have:=(F5 t.p).1;show (qh t.p).1.length<=_;omega
 p2:=by have:=(F5 t.p).2.1;show (qh t.p).2.length<=_;omega
 p3:=λr hr=>by have:=(F5 t.p).2.2 r hr;omega
 r1:=λx hx=>by
  have hx2:=List.mem_of_mem_take hx;unfold Ej at hx2;obtain⟨y,-,rfl⟩:=List.mem_map.1 hx2;unfold nX EW;simp only [List.length_take];exact⟨by omega,by omega⟩
 r2:=by show ((Ej t.r).take 12).length<=_;rw [List.length_take];omega
 m:=alh t.m
theorem Bv (c:C.Wd):fF (oq c) where
 p1:=by have:=(F5 c.p).1;show (qh c.p).1.length<=_;omega
 p2:=by have:=(F5 c.p).2.1;show (qh c.p).2.length<=_;omega
 p3:=λr hr=>by have:=(F5 c.p).2.2 r hr;omega
def qG (s:ByteArray) (n:Nat):ByteArray:=s.extract 0 (min s.size n)
theorem wI (s:ByteArray) (n:Nat) (m:Int) (w:World) (hm:m=n) (hz:s.size<=9223372036854775807) (hn:n<=1000) :
  Calls Tryz.prog 14 #[.string s, .int .i64 m] w λe w'=>e = .returned (.string (qG s n))/\w=w':=by
 have HC:=bx (show s.extract 0 (min (s.size:Int) m).toNat=qG s n by unfold qG;rw [show (min (s.size:Int) m).toNat=min s.size n by omega]);have hm0:0<=m:=by omega
 have hm1:m<=1000:=by omega
 clear hm hn
 go_enter Tryz.func14,Tryz.ntmps14
 go_wp2
 go_ret
 exact⟨by rw [<- HC.o];rfl,rfl⟩
theorem akS (s:ByteArray) (n:Nat):(qG s n).data.toList=s.data.toList.take n:=by
 unfold qG;rw [Lib.extract_data];have h:s.data.toList.length=s.size:=by rw [size_eq]
 show (s.data.toList.drop 0).take (min s.size n-0)=_
 rw [List.drop_zero,Nat.sub_zero]
 rcases Nat.le_total s.size n with h1 | h1
 ·rw [Nat.min_eq_left h1,List.take_of_length_le (by omega),List.take_of_length_le (by omega)]
 ·rw [Nat.min_eq_right h1]
theorem xR (s:ByteArray) (n:Nat):(qG s n).size<=n:=by rw [size_eq,akS,List.length_take];omega
end
end Go.Proofs.YtdenoeakcflnmaaGreatDoor
