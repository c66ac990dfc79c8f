/- Texts of this claim. -/
import Derived.Test.YtdenoeakcflnmaaGreatDoorH24
import Derived.Test.YtdenoeakcflnmaaGreatDoorHXGaugeKinds2

set_option maxRecDepth 100000
set_option maxHeartbeats 16000000
namespace Go.Proofs.YtdenoeakcflnmaaGreatDoor
section
open Go.RowKit
attribute [local go_sem] Oper.semAt_some
theorem toList_mk (l:List UInt8):(⟨l.toArray⟩:ByteArray).data.toList=l:=rfl
theorem size_mk (l:List UInt8):(⟨l.toArray⟩:ByteArray).size=l.length:=by rw [size_eq,toList_mk]
end
namespace C
open Go.Proofs.YtdenoeakcflnmaaGreatDoor
theorem ade (g:Ga) (hk:g.k=0):∀ ls:List (List Int),(ls.map (meas g)).sum=(((ls.map U.textOf).flatten).length:Int)
 | []=>rfl
 | l::t=>by
  rw [List.map_cons,List.sum_cons,ade g hk t,List.map_cons,List.flatten_cons,List.length_append];unfold meas;rw [if_pos hk];omega
theorem ab7 (g:Ga) (hk:g.k=1):∀ ls:List (List Int),(ls.map (meas g)).sum=(ls.length:Int)
 | []=>rfl
 | l::t=>by
  rw [List.map_cons,List.sum_cons,ab7 g hk t,List.length_cons];unfold meas;rw [if_neg (by omega),if_pos hk];omega
theorem aaz (g:Ga) (ls:List (List Int)):aS g ls ls.length=(ls.map (meas g)).sum:=by unfold aS;rw [List.take_length]
theorem afz (g:Ga) (hk:g.k=0) (s:List UInt8):aS g (aH g.t s) (aH g.t s).length=((M.fix s).length:Int):=by
 rw [aaz,ade g hk,NY,Yh (iq g.t s).2,<- qp]
theorem alU (g:Ga) (hk:g.k=1) (s:List UInt8):aS g (aH g.t s) (aH g.t s).length=((aH g.t s).length:Int):=by
 rw [aaz,ab7 g hk]
end C
section
open Go.RowKit
attribute [local go_sem] Oper.semAt_some
theorem dR.parts {w:World} {tn pi pb rv nv fv iv bv wb gk:Value} {g:C.Ga} (h:dR w (.agg #[tn,pi,pb,rv,nv,fv,iv,bv,wb,gk]) g):TabAt w (.agg #[tn,pi,pb,rv,nv,fv]) g.t/\WideAt w (.agg #[iv,bv,wb]) g.w:=by
 obtain⟨_,_,_,_,_,_,_,h1,h2,h3⟩:=h;injection h1 with h1;simp only [Array.mk.injEq,List.cons.injEq] at h1;obtain⟨rfl,rfl,rfl,rfl,rfl,rfl,rfl,rfl,rfl,-⟩:=h1;exact⟨h2,h3⟩
theorem DT {g:C.Ga} {s:List UInt8} (h:s.length<=2000):(C.bF g=false/\C.bJ g s=150)\/(C.bF g=true/\C.bJ g s=0/\textE g.t s=0):=by
 cases hg:C.bF g with
 | false =>
  refine .inl ⟨rfl,?_⟩;unfold C.bJ;rw [if_pos hg]
 | true=>exact .inr ⟨rfl,C.jL hg h,C.nC hg h⟩
theorem akR (p a:Option Addr) (n c:Nat) (w:World) :
  Calls Tryz.prog 63 #[.pointer p, .slice a n c] w λe w'=>e = .returned (.func (.func 106) #[] #[.pointer (some ⟨w.heap.size+1,0,none⟩), .pointer (some ⟨w.heap.size,0,none⟩)]) /\
   (w.alloc (.cells #[.pointer p] 113)).alloc (.cells #[.slice a n c] 48)=w':=by
 go_enter Tryz.func63,Tryz.ntmps63
 go_wp2
 go_ret
 exact⟨rfl,rfl⟩
def vO (lb yb rg km:Nat) (iv bv lv:Value) (c:C.Wd) (ps:List Pc):List Pc:=Pc.blk lb 48 #[lv]::Pc.blk yb 113 #[.pointer (some ⟨rg,0,none⟩)]::qM rg km iv bv c ps
def acW (lb yb rg km:Nat) (iv bv lv:Value) (g:C.Ga) (ps:List Pc) (ys:List (List Int)) (pre:List (Nat×Int)) (x:Nat×Int) (W:World):Prop:=(∃ rest,C.sums g ys=pre++x::rest)/\Sep (vO lb yb rg km iv bv lv g.w ps) W
def Ug (lb yb rg km:Nat) (iv bv lv:Value) (g:C.Ga) (ps:List Pc) (ys:List (List Int)) (xs:List (Nat×Int)) (W:World):Prop:=xs=C.sums g ys/\Sep (vO lb yb rg km iv bv lv g.w ps) W
theorem aeY (n:Nat) (lb yb rg km:Nat) (iv bv:Value) (la:Option Addr) (lc:Nat) (g:C.Ga) (ps:List Pc) (ys:List (List Int)) (hs:fF g.w) (ht:F.iw g.w.p=true) (hk2:g.k=2) (hys:∀ y∈ys,U.scalars (U.textOf y)=some y/\(U.textOf y).length<=8000) (hz:ys.length<=1000)
  (hR:∀ W,Sep ps W->aB W iv g.w.p.1/\fJ W bv g.w.p.2/\dI W (.slice la ys.length lc) (ys.map U.textOf)) (l:Nat) (W1:World) (hS:Sep (vO lb yb rg km iv bv (.slice la ys.length lc) g.w ps) W1) :
  adn (n+1) Tryz.prog 106 #[.pointer (some ⟨lb,0,none⟩), .pointer (some ⟨yb,0,none⟩)] (λx:Nat×Int=>#[.int .i64 (x.1:Int), .int .i64 x.2]) (λk=>k=km) (Pg (vO lb yb rg km iv bv (.slice la ys.length lc) g.w ps))
   (acW lb yb rg km iv bv (.slice la ys.length lc) g ps ys) (Ug lb yb rg km iv bv (.slice la ys.length lc) g ps ys) l W1:=by
 intro J Jx hJ hJx hY h0;obtain⟨PP,Ia⟩:∃ PP,PP=vO lb yb rg km iv bv (.slice la ys.length lc) g.w ps:=⟨_,rfl⟩
 have mP:=bx (λxs W (h1:xs=C.sums g ys) (h:Sep PP W)=>show Ug lb yb rg km iv bv (.slice la ys.length lc) g ps ys xs W from⟨h1,by rw [<- Ia];exact h⟩);rw [<- Ia] at hS hY;have HYY:=bx (λpre x (W0 W:World) (hj:J pre W0) (hu:Turns (λk=>k=km) W0 W) (h1:∃ rest,C.sums g ys=pre++x::rest) (h3:Sep PP W)=>hY pre x W0 W hj hu ⟨h1,by rw [<- Ia];exact h3⟩);have HJ:=bx hJ;have Io:=bx hys;have Tv:=bx (show ∀ k,k<=ys.length->0<=C.aS g ys k/\C.aS g ys k<=8000000 from λk hk=>⟨C.Kt g ys k,Nh hz (λy hy=>(hys y hy).2) k hk⟩);have kZ:=bx (show ∀ y,C.meas g y=C.fZ g.w y from λy=>by unfold C.meas;rw [hk2,if_neg (by decide),if_neg (by decide)]);have HG:=bx (λW (h:Sep PP W)=>show aj W lb 48 #[.slice la ys.length lc]/\aj W yb 113 #[.pointer (some ⟨rg,0,none⟩)]/\Sep (qM rg km iv bv g.w ps) W/\dI W (.slice la ys.length lc) (ys.map U.textOf) from by
  rw [Ia] at h;exact⟨h.blk 0 rfl,h.blk 1 rfl,h.tail.tail,(hR W h.tail.tail.tail.tail).2.2⟩)
 have qZ:=bx (λW W' (h:Sep PP W) (hu:Turns (λk=>k=km) W W') (hk:pY W' km g.w)=>show Sep PP W' from by
  rw [Ia] at h ⊢;exact h.upd (own:=λk=>k=km) 3 rfl hu (λ_ h _=>h) (p':=Pc.Ep km g.w) hk (λ_ h=>.inl h))
 have gB:=bx (λ(y:List Int) (hy:y∈ys) W (h:Sep (qM rg km iv bv g.w ps) W)=>aaH rg km iv bv g.w ps (bs (U.textOf y)) y W hs ht (by rw [qP];exact(hys y hy).1) (by rw [eU];exact(hys y hy).2) (λW h=>⟨(hR W h).1,(hR W h).2.1⟩) h);obtain⟨Q,hQ⟩:∃ Q,ys.length=Q:=⟨_,rfl⟩
 rw [hQ] at HG hz;have HQ:=bx hQ;have aQ:=bx hS;have H0:=bx h0;obtain⟨q1,q2,q3,q4⟩:=HG.o W1 hS;have c1:W1.cell? ⟨lb,0,none⟩=some (.slice la Q lc):=(q1.cell 0).trans rfl;clear hs ht hk2 hys hR hS Ia hY hJ hJx h0 hQ q1 q2 q3 q4;refine callsIn_of_wp Tryz.func106 rfl trivial ?_;simp only [Tryz.ntmps106,List.size_toArray,List.length_cons,List.length_nil,Nat.reduceAdd,Nat.reduceSub,Array.replicate_succ,Array.replicate_zero,List.push_toArray,List.append_toArray,List.nil_append,List.cons_append]
 gi_wp2
 refine wpIn_wide.2 (wp_scope_straight ((wpIn_wide (n:=n+1)).1 ?_))
 gi_wp2
 refine wpIn_label ?_
 gi_wp2
 clear c1
 gi_loopw [4,9] (λsv iv wr=>∃ k:Nat,k<=Q/\sv = .int .i64 (C.aS g ys k)/\iv = .int .i64 k/\Box (Sep PP wr)/\Box (J ((C.sums g ys).take k) wr)) (λ_ iv _=>Q-(intOf iv).toNat)
 case atStart=>exact⟨0,Nat.zero_le _,by rw [C.FQ],rfl,aQ,by rw [List.take_zero];exact H0⟩
 case round =>
  obtain⟨k,hk,rfl,rfl,hsep,hj⟩:=hrel;obtain⟨q1,q2,q3,q4⟩:=HG.o wr hsep.o
  by_cases hlt:k<Q
  ·obtain⟨y,hy⟩:∃ y,ys[k]?=some y:=⟨_,List.getElem?_eq_getElem (by rw [HQ.o];exact hlt)⟩
   obtain⟨cg,dK,cap,e1,e2,e3,e4,e5⟩:=q4.get (by intro h;have h9:=congrArg List.length h;rw [List.length_map,HQ.o,List.length_nil] at h9;omega);rw [List.length_map,HQ.o] at e1 e2;obtain⟨rfl,rfl⟩:la=some ⟨cg,dK,none⟩/\lc=cap:=by injection e1 with h1 h2 h3;exact⟨h1,h3⟩
   have cx:=e5 k (U.textOf y) (by rw [List.getElem?_map,hy];rfl);have cy:wr.cell? ⟨yb,0,none⟩=some (.pointer (some ⟨rg,0,none⟩)):=(q2.cell 0).trans rfl;have jQ:=bx (gB.o y (List.mem_of_getElem? hy) wr q3);have HIS:=bx (C.abW g ys (i:=k) (by rw [HQ.o];exact hlt));have HIT:=bx (C.UG g ys (i:=k) (by rw [HQ.o];exact hlt));have aah:=bx (C.FB g ys hy);have lu:=bx (Tv.o (k+1) (by rw [HQ.o];exact hlt));have HMY:=bx (kZ.o y);obtain⟨S0,hS0⟩:∃ S,S=C.aS g ys k:=⟨_,rfl⟩
   obtain⟨S1,hS1⟩:∃ S,S=C.aS g ys (k+1):=⟨_,rfl⟩
   have bG:=bx hS1;rw [<- hS0,<- hS1,HMY.o] at aah;rw [<- hS1] at lu HIS HIT;rw [<- hS0];have hadd:IntKind.i64.wrap (S0+C.fZ g.w y)=S1:=by
    have h1:=aah.o;have h2:=lu.o;rw [IntKind.wrap_i64];omega
   generalize C.fZ g.w y=M0 at jQ hadd;have e20:decide ((k:Int)<(Q:Int))=true:=decide_eq_true (by omega);have hC:=bx ((callsIn_wide (n:=n)).2 jQ.o);unfold maxLen at e3;clear hy e1 e5 q1 q2 q3 q4 hS0 hS1 jQ
   gi_wp2
   refine⟨trivial,hC.o.mono ?_⟩;rintro e w5 ⟨rfl,DJ,hk5⟩;have BL:=bx DJ;have XU:=bx (qZ.o wr w5 hsep.o DJ hk5);clear DJ hk5 cx cy e4;have hy0:=HYY.o _ (k+1,S1) wr w5 hj.o BL.o ⟨_,HIS.o⟩ XU.o;simp only at hy0;rw [show ((k+1:Nat):Int)=(k:Int)+1 from by omega] at hy0;obtain⟨fn,tmps,assign,body,hy,mX⟩:=hy0;have sF:=bx mX;clear mX
   gi_wp2
   clear hadd;refine sF.o.mono ?_;rintro e W3 (⟨rfl,hj3,ht3⟩ | ⟨rfl,hx3⟩)
   ·have uY:=bx hj3;have aC:=bx (Sep.kept XU.o ht3 (λk hk hkk=>hk (.inl hkk)));clear hj3 ht3 hy
    gi_wp2
    go_roundw
    case rel=>exact⟨k+1,by omega,by rw [<- bG.o],by go_num,aC,by rw [HIT.o];exact uY⟩
    case measure=>simp [intOf];omega
   ·have nS:=bx hx3;clear hx3 hy
    gi_wp2
    rw [Exit.noGoto_normal]
    go_end0
    exact⟨⟨_,rfl⟩, .inr ⟨_,nS.o⟩⟩
  ·obtain rfl:k=Q:=by omega
   have mF:=bx (show (C.sums g ys).take k=C.sums g ys from List.take_of_length_le (by rw [C.zn,HQ.o];exact Nat.le_refl _));rw [mF.o] at hj;have e20:decide ((k:Int)<(k:Int))=false:=decide_eq_false (by omega);have Hg:=bx (mP.o _ wr rfl hsep.o);clear q1 q2 q3 q4
   gi_wp2
   rw [Exit.noGoto_normal]
   go_end0
   exact⟨⟨_,rfl⟩, .inl ⟨_,Hg.o,hj.o⟩⟩
theorem aj8 (A:Nat->Addr) (B:Nat) (v lv:Value) (g:C.Ga) (ys:List (List Int)) (w:World) (hv:WideAt w v g.w) (hs:fF g.w) (hc:C.kL g.w=true) (hk2:g.k=2) (hl:dI w lv (ys.map U.textOf)) (hys:∀ y∈ys,U.scalars (U.textOf y)=some y/\(U.textOf y).length<=8000) (hz:ys.length<=1000) (hE:E A B w) (hB:B<=w.heap.size) :
  Calls Tryz.prog 30 #[v,lv] w λe w'=>e = .returned (.tuple #[.int .i64 (C.aS g ys ys.length), .int .i64 0])/\Below w.heap.size w w':=by
 have hti:F.iw g.w.p=true:=by
  unfold C.kL at hc;rw [Bool.and_eq_true] at hc;exact hc.1
 obtain⟨iv,bv,rfl,hi,hb⟩:=hv;obtain⟨wd,hwd⟩:∃ b,b=g.w.wide:=⟨_,rfl⟩
 rw [<- hwd];obtain⟨la,lc,rfl,-⟩:=hl.slice;rw [List.length_map] at hl ⊢;obtain⟨V,hV⟩:∃ V,V=w.alloc (.cells #[iv,bv, .bool wd] 33):=⟨_,rfl⟩
 have HB0:=bx (show Below w.heap.size w V by rw [hV];exact aO _ _);have HK:=bx (show aj V w.heap.size 33 #[iv,bv, .bool wd] by rw [hV];exact aj.new _ _ _);have tH:=bx (λW (h:Below w.heap.size w W)=>show WideAt W (.agg #[iv,bv, .bool wd]) g.w from⟨iv,bv,by rw [hwd],hi.below h,hb.below h⟩);have Eh:=bx (λW (h:Below w.heap.size w W)=>show dI W (.slice la ys.length lc) (ys.map U.textOf) from hl.below h);have HV:=bx hV;have ay:=bx (λW (h:Below V.heap.size V W)=>show W.cell? ⟨w.heap.size,0,none⟩=some iv/\W.cell? ⟨w.heap.size,1,none⟩=some bv/\W.cell? ⟨w.heap.size,2,none⟩=some (.bool wd)/\w.heap.size<W.heap.size from
  ⟨((HK.o.below h HK.o.lt).cell 0).trans rfl,((HK.o.below h HK.o.lt).cell 1).trans rfl,((HK.o.below h HK.o.lt).cell 2).trans rfl,(HK.o.below h HK.o.lt).lt⟩)
 have gY:=bx (Zt A B _ (.slice la ys.length lc) g.w (ys.map U.textOf) V (tH.o V HB0.o) hs hc (Eh.o V HB0.o) (by rw [List.length_map];omega) (λq hq=>by
  obtain⟨y,hy,rfl⟩:=List.mem_map.1 hq;have h:=hys y hy;exact⟨by unfold U.valid;rw [h.1];rfl,by omega⟩) (hE.below (HB0.o.mono hB)) (Nat.le_trans hB HB0.o.size))
 have HIT:=bx (λlb yb rg km iH iJ (he:(.agg #[iv,bv, .bool wd]:Value) = .agg #[iH,iJ, .bool g.w.wide]) l W1 (h:Sep (vO lb yb rg km iH iJ (.slice la ys.length lc) g.w [Pc.old V.heap.size V]) W1)=>aeY 7 lb yb rg km iH iJ la lc g [Pc.old V.heap.size V] ys hs hti hk2 hys hz (λW h'=>by
  have hb':=h'.bel (n:=V.heap.size) (W0:=V) (by simp);have hb2:=HB0.o.trans (hb'.mono HB0.o.size);obtain⟨i',b',e1,e2,e3⟩:=tH.o W hb2;rw [he] at e1;injection e1 with e1;simp only [Array.mk.injEq,List.cons.injEq,and_true] at e1;obtain⟨rfl,rfl,-⟩:=e1;exact⟨e2,e3,Eh.o W hb2⟩) l W1 h)
 have Du:=bx (C.aaT g ys);clear hs hc hk2 hl hys hE hB hti hV hwd hi hb;refine(callsIn_wide (n:=9)).1 (callsIn_of_wp_marks Tryz.func30 rfl trivial (wpIn_wide.2 ?_));simp only [Tryz.ntmps30,List.size_toArray,List.length_cons,List.length_nil,Nat.reduceAdd,Nat.reduceSub,Array.replicate_succ,Array.replicate_zero,List.push_toArray,List.append_toArray,List.nil_append,List.cons_append];obtain⟨k0,k1,k2,kk⟩:=ay.o V (Below.refl _ _)
 go_upto_region 1 with(fail)
 rw [<- HV.o];go_wp2_with fail;refine gY.o.mono ?_;rintro e w1 ⟨iH,iJ,rg,km,he,rfl,hs1⟩;have HIT:=bx (λlb yb=>HIT.o lb yb rg km iH iJ he);have bG:=bx hs1;clear hs1 he k0 k1 k2 kk;go_wp2_with fail;refine(akR _ _ _ _ _).mono ?_;rintro e w2 ⟨rfl,rfl⟩;go_wp2_with fail;obtain⟨wL,pV⟩:∃ W,W=((w1.alloc (.cells #[.int .i64 0] 3)).alloc (.cells #[.pointer (some ⟨rg,0,none⟩)] 113)).alloc (.cells #[.slice la ys.length lc] 48):=⟨_,rfl⟩
 obtain⟨hb0,-,-,hbL,oJ⟩:=XH w1 _ _ _ _ _ _ wL pV;have HSL:=bx (show Sep (vO (w1.heap.size+1+1) (w1.heap.size+1) rg km iH iJ (.slice la ys.length lc) g.w [Pc.old V.heap.size V]) wL by
  rw [pV];have h:=((bG.o.alloc (.cells #[.int .i64 0] 3)).bM 113 #[.pointer (some ⟨rg,0,none⟩)]).bM 48 #[.slice la ys.length lc];simp only [World.size_alloc] at h;exact h)
 have yA:=bx (show km<w1.heap.size from(bG.o.at' 1 (p:=Pc.Ep km g.w) rfl:pY w1 km g.w).lt);have HNK:=bx (show ¬ Pg (vO (w1.heap.size+1+1) (w1.heap.size+1) rg km iH iJ (.slice la ys.length lc) g.w [Pc.old V.heap.size V]) w1.heap.size by
  rintro⟨p,hp,hk⟩;unfold vO at hp
  rcases List.mem_cons.1 hp with rfl | hp
  ·have:w1.heap.size=w1.heap.size+1+1:=hk;omega
  ·rcases List.mem_cons.1 hp with rfl | hp
   ·have:w1.heap.size=w1.heap.size+1:=hk;omega
   ·have:=bG.o.lt hp hk;omega)
 rw [<- pV];have jh:=bx hb0;clear hb0 hbL pV;refine(wpIn_wide (n:=9)).1 (ajB (α:=Nat×Int) (gf:=106) (lb:=#[.pointer (some ⟨w1.heap.size+1+1,0,none⟩), .pointer (some ⟨w1.heap.size+1,0,none⟩)]) rfl (enters_of Tryz.func106 (by kernel_rfl) rfl)
  (encs:=λx:Nat×Int=>#[.int .i64 (x.1:Int), .int .i64 x.2]) (own:=λk=>k=km) (keep:=Pg (vO (w1.heap.size+1+1) (w1.heap.size+1) rg km iH iJ (.slice la ys.length lc) g.w [Pc.old V.heap.size V]))
  (ok:=acW (w1.heap.size+1+1) (w1.heap.size+1) rg km iH iJ (.slice la ys.length lc) g [Pc.old V.heap.size V] ys) (S:=Ug (w1.heap.size+1+1) (w1.heap.size+1) rg km iH iJ (.slice la ys.length lc) g [Pc.old V.heap.size V] ys)
  (λk hk=>by
   rcases hk with rfl | ⟨p,hp,hk⟩
   ·have:=yA.o;omega
   ·exact HSL.o.lt hp hk)
  (λW1 ht=>HIT.o _ _ _ W1 (HSL.o.keep ht (λ_ _ _ _ h=>h)))
  (λ_=>rfl)
  (λpre W=>aj W w1.heap.size 3 #[.int .i64 (C.vW pre)])
  (λ_ _ _=>False) ?hI (λ_ _ _ _ h _=>h) ?hokS jh.o
  (λx a1 W=>a1={ tmps:=#[.agg #[iv,bv, .bool wd], .slice la ys.length lc, .pointer (some ⟨w.heap.size,0,none⟩),undef, .int .i64 0, .int .i64 0, .pointer (some ⟨rg,0,none⟩), .nilIface, .pointer (some ⟨w1.heap.size,0,none⟩),undef, .int .i64 x.2, .tuple #[.pointer (some ⟨rg,0,none⟩), .nilIface], .agg #[iv,bv, .bool wd], .slice la ys.length lc, .tuple #[.pointer (some ⟨rg,0,none⟩), .nilIface], .pointer (some ⟨rg,0,none⟩), .nilIface, .nilIface, .bool false,undef,undef, .pointer (some ⟨rg,0,none⟩), .slice la ys.length lc, .func (.func 106) #[] #[.pointer (some ⟨w1.heap.size+1+1,0,none⟩), .pointer (some ⟨w1.heap.size+1,0,none⟩)], .int .i64 (x.1:Int), .int .i64 x.2,undef,undef],defers:=[] })
  (λ_ _ _ _ h _=>h) ?assign ?body ?done (λ_ _ _ _ h _=>h.elim) ?hS)
 case hI =>
  intro pre W W' h1 ht;exact ht.blk h1 (by have:=yA.o;omega)
 case hokS =>
  rintro pre x W W' ⟨h1,h3⟩ ht;exact⟨h1,h3.keep ht (λp hp k hk e=>by have:=HSL.o.lt hp hk;omega)⟩
 case hS =>
  rintro ys W W' ⟨h1,h2⟩ ht;exact⟨h1,h2.keep ht (λp hp k hk e=>by have:=HSL.o.lt hp hk;omega)⟩
 case assign =>
  intro x W K hle hK
  gi_wp2
  exact hK _ _ (Turns.refl _ _) rfl
 case body =>
  rintro pre x a1 W0 W N hW0 hi ht hN-rfl;have i2:=ht.blk hi (by have:=yA.o;omega);have I2:=bx i2;have r0:W.cell? ⟨w1.heap.size,0,none⟩=some (.int .i64 (C.vW pre)):=(i2.cell 0).trans rfl;have f0:=i2.frozen 0;have rl:=i2.lt;clear hi ht i2
  gi_wp2
  have hT:=Turns.setCell (own:=λk=>k=w1.heap.size) W (p:=⟨w1.heap.size,0,none⟩) rfl (.int .i64 x.2);refine⟨hT.mono (λk hk hh=>?_),by show aj _ _ _ #[.int .i64 (C.vW (pre++[x]))];rw [C.Qd];exact I2.o.dh 0 _⟩;subst hk
  rcases hh with(h | h) | h | h
  ·exact HNK.o h
  ·omega
  ·omega
  ·omega
 case done =>
  rintro xs W hW ⟨hS,h1⟩ h2 hD;have c0:W.cell? ⟨w1.heap.size,0,none⟩=some (.int .i64 (C.vW xs)):=(h2.cell 0).trans rfl;have HD:=bx hD;have iV:=bx (show C.vW xs=C.aS g ys ys.length by rw [hS];exact Du.o);have H1:=bx (show Sep (vO (w1.heap.size+1+1) (w1.heap.size+1) rg km iH iJ (.slice la ys.length lc) g.w [Pc.old V.heap.size V]) W from h1);clear h1 h2 hD hS;go_wp2_with fail;refine⟨by simp, .inl ⟨_,_,rfl,run_takeDeferred HD.o,?_⟩⟩;refine⟨_,results_tmp2 rfl _ _ _,?_⟩;have uH:Turns (λk=>k=wL.heap.size) W (W.putObj wL.heap.size (.deferred none)):=Turns.putObj (own:=λk=>k=wL.heap.size) W rfl (.deferred none);have kY:=H1.o.keep uH (λp hp k hk e=>by have:=HSL.o.lt hp hk;omega);exact⟨by rw [<- iV.o];rfl,HB0.o.trans ((kY.bel (n:=V.heap.size) (W0:=V) (by simp [vO,qM])).mono HB0.o.size)⟩
theorem akM {g:C.Ga} (h:g.k=2) (ls:List (List Int)) (k:Nat):C.aS ⟨g.t,g.w,2⟩ ls k=C.aS g ls k:=by
 cases g with
 | mk t w k =>
  have h:k=2:=h;subst h
  rfl
theorem amm (A:Nat->Addr) (B:Nat) (v:Value) (g:C.Ga) (s:ByteArray) (w:World) (hv:dR w v g) (hzs:s.size<=9223372036854775807) (hS:Sw A B w) :
  Calls Tryz.prog 10 #[v, .string s] w λx w'=>x = .returned (.bool true)/\Below w.heap.size w w':=by
 have HS:=bx hS;have jE:=bx hv;obtain⟨x1,z1,x2,z2,x3,z3,x4,z4,x5,z5,x6,z6,x7,z7,rfl⟩:=hv.slices;clear hv;generalize g.t.p.1.length=y1,g.t.p.2.length=y2,g.t.r.length=y3,g.t.m.1.length=y4,g.t.m.2.length=y5,g.w.p.1.length=y6,g.w.p.2.length=y7,g.t.n=nt,g.w.wide=wb,g.k=gk at jE ⊢;have jq:=bx (λW=>wI s 120 120 W rfl hzs (by decide));have nD:=bx (xR s 120);generalize qG s 120=cs at jq nD;clear hzs;obtain⟨V,hV⟩:∃ V,V=w.alloc (.cells #[.int .i64 nt, .slice x1 y1 z1, .slice x2 y2 z2, .slice x3 y3 z3, .slice x4 y4 z4, .slice x5 y5 z5, .slice x6 y6 z6, .slice x7 y7 z7, .bool wb, .int .i64 gk] 35):=⟨_,rfl⟩
 have HB0:=bx (show Below w.heap.size w V by rw [hV];exact aO _ _);have nI:=bx (show Sep [Pc.blk w.heap.size 35 #[.int .i64 nt, .slice x1 y1 z1, .slice x2 y2 z2, .slice x3 y3 z3, .slice x4 y4 z4, .slice x5 y5 z5, .slice x6 y6 z6, .slice x7 y7 z7, .bool wb, .int .i64 gk],Pc.old w.heap.size w] V by rw [hV];exact(Sep.start w).bM _ _);have aU:=bx (show V.heap.size=w.heap.size+1 by rw [hV];simp);have HV:=bx hV;clear hS hV
 go_enter Tryz.func10,Tryz.ntmps10
 go_wp2_with fail;rw [<- HV.o];refine(Bd A B V (HS.o.below HB0.o)).mono ?_;rintro e w1 ⟨rfl,hb1⟩;have HB1:=bx (bT HB0.o hb1);have jr:=bx (nI.o.below hb1);have bG:=bx (show w.heap.size<w1.heap.size by have:=aU.o;have:=hb1.size;omega);clear hb1 HV;have hk:=jr.o.blk 0 rfl;have e0:=(hk.cell 0).trans (show _=some (Value.int .i64 nt) from rfl);have e1:=(hk.cell 1).trans (show _=some (Value.slice x1 y1 z1) from rfl);have e2:=(hk.cell 2).trans (show _=some (Value.slice x2 y2 z2) from rfl);have e3:=(hk.cell 3).trans (show _=some (Value.slice x3 y3 z3) from rfl);have e4:=(hk.cell 4).trans (show _=some (Value.slice x4 y4 z4) from rfl);have e5:=(hk.cell 5).trans (show _=some (Value.slice x5 y5 z5) from rfl);have e6:=(hk.cell 6).trans (show _=some (Value.slice x6 y6 z6) from rfl);have e7:=(hk.cell 7).trans (show _=some (Value.slice x7 y7 z7) from rfl);have e8:=(hk.cell 8).trans (show _=some (Value.bool wb) from rfl);have e9:=(hk.cell 9).trans (show _=some (Value.int .i64 gk) from rfl);have el:=hk.lt;clear hk;have bD:=bx (Ce _ g w w1 jE.o HB1.o);go_wp2_with fail;refine bD.o.mono ?_;rintro e w2 ⟨hb2,v',rfl,dG⟩;clear e0 e1 e2 e3 e4 e5 e6 e7 e8 e9 el;have HB2:=bx (bT HB1.o hb2);have iK:=bx (jr.o.below hb2);obtain⟨p1,r1,p2,r2,p3,r3,p4,r4,p5,r5,p6,r6,p7,r7,rfl⟩:=(dG w2 (Turns.refl _ _) HB2.o).slices;have dL:=bx (Aj g.t);have eP:=bx (Bv g.w);obtain⟨G,hG⟩:∃ G,G=zI g:=⟨_,rfl⟩
 have dL:=bx (show dZ G.t by rw [hG];exact dL.o);have eP:=bx (show fF G.w by rw [hG];exact eP.o);rw [<- hG] at dG ⊢;clear hb2 hG;obtain⟨gj,hgj⟩:∃ k,k=G.k:=⟨_,rfl⟩
 rw [<- hgj] at dG ⊢;have mW:=bx hgj;clear hgj;generalize G.t.p.1.length=q1,G.t.p.2.length=q2,G.t.r.length=q3,G.t.m.1.length=q4,G.t.m.2.length=q5,G.w.p.1.length=q6,G.w.p.2.length=q7,G.t.n=nu,G.w.wide=we at dG ⊢;have nM:=bx dG;clear dG bD;have hk:=iK.o.blk 0 rfl;have e0:=(hk.cell 0).trans (show _=some (Value.int .i64 nt) from rfl);have f0:=hk.frozen 0;have e1:=(hk.cell 1).trans (show _=some (Value.slice x1 y1 z1) from rfl);have f1:=hk.frozen 1;have e2:=(hk.cell 2).trans (show _=some (Value.slice x2 y2 z2) from rfl);have f2:=hk.frozen 2;have e3:=(hk.cell 3).trans (show _=some (Value.slice x3 y3 z3) from rfl);have f3:=hk.frozen 3;have e4:=(hk.cell 4).trans (show _=some (Value.slice x4 y4 z4) from rfl);have f4:=hk.frozen 4;have e5:=(hk.cell 5).trans (show _=some (Value.slice x5 y5 z5) from rfl);have f5:=hk.frozen 5;have e6:=(hk.cell 6).trans (show _=some (Value.slice x6 y6 z6) from rfl);have f6:=hk.frozen 6;have e7:=(hk.cell 7).trans (show _=some (Value.slice x7 y7 z7) from rfl);have f7:=hk.frozen 7;have e8:=(hk.cell 8).trans (show _=some (Value.bool wb) from rfl);have f8:=hk.frozen 8;have e9:=(hk.cell 9).trans (show _=some (Value.int .i64 gk) from rfl);have f9:=hk.frozen 9;have el:=hk.lt;clear hk;have S1:=bx (show Sep [Pc.blk w.heap.size 35 #[.int .i64 nu, .slice x1 y1 z1, .slice x2 y2 z2, .slice x3 y3 z3, .slice x4 y4 z4, .slice x5 y5 z5, .slice x6 y6 z6, .slice x7 y7 z7, .bool wb, .int .i64 gk],Pc.old w.heap.size w] _ from iK.o.set 0 rfl 0 (.int .i64 nu));have S2:=bx (show Sep [Pc.blk w.heap.size 35 #[.int .i64 nu, .slice p1 q1 r1, .slice x2 y2 z2, .slice x3 y3 z3, .slice x4 y4 z4, .slice x5 y5 z5, .slice x6 y6 z6, .slice x7 y7 z7, .bool wb, .int .i64 gk],Pc.old w.heap.size w] _ from S1.o.set 0 rfl 1 (.slice p1 q1 r1));have S3:=bx (show Sep [Pc.blk w.heap.size 35 #[.int .i64 nu, .slice p1 q1 r1, .slice p2 q2 r2, .slice x3 y3 z3, .slice x4 y4 z4, .slice x5 y5 z5, .slice x6 y6 z6, .slice x7 y7 z7, .bool wb, .int .i64 gk],Pc.old w.heap.size w] _ from S2.o.set 0 rfl 2 (.slice p2 q2 r2));have S4:=bx (show Sep [Pc.blk w.heap.size 35 #[.int .i64 nu, .slice p1 q1 r1, .slice p2 q2 r2, .slice p3 q3 r3, .slice x4 y4 z4, .slice x5 y5 z5, .slice x6 y6 z6, .slice x7 y7 z7, .bool wb, .int .i64 gk],Pc.old w.heap.size w] _ from S3.o.set 0 rfl 3 (.slice p3 q3 r3));have S5:=bx (show Sep [Pc.blk w.heap.size 35 #[.int .i64 nu, .slice p1 q1 r1, .slice p2 q2 r2, .slice p3 q3 r3, .slice p4 q4 r4, .slice x5 y5 z5, .slice x6 y6 z6, .slice x7 y7 z7, .bool wb, .int .i64 gk],Pc.old w.heap.size w] _ from S4.o.set 0 rfl 4 (.slice p4 q4 r4));have S6:=bx (show Sep [Pc.blk w.heap.size 35 #[.int .i64 nu, .slice p1 q1 r1, .slice p2 q2 r2, .slice p3 q3 r3, .slice p4 q4 r4, .slice p5 q5 r5, .slice x6 y6 z6, .slice x7 y7 z7, .bool wb, .int .i64 gk],Pc.old w.heap.size w] _ from S5.o.set 0 rfl 5 (.slice p5 q5 r5));have S7:=bx (show Sep [Pc.blk w.heap.size 35 #[.int .i64 nu, .slice p1 q1 r1, .slice p2 q2 r2, .slice p3 q3 r3, .slice p4 q4 r4, .slice p5 q5 r5, .slice p6 q6 r6, .slice x7 y7 z7, .bool wb, .int .i64 gk],Pc.old w.heap.size w] _ from S6.o.set 0 rfl 6 (.slice p6 q6 r6));have S8:=bx (show Sep [Pc.blk w.heap.size 35 #[.int .i64 nu, .slice p1 q1 r1, .slice p2 q2 r2, .slice p3 q3 r3, .slice p4 q4 r4, .slice p5 q5 r5, .slice p6 q6 r6, .slice p7 q7 r7, .bool wb, .int .i64 gk],Pc.old w.heap.size w] _ from S7.o.set 0 rfl 7 (.slice p7 q7 r7));have S9:=bx (show Sep [Pc.blk w.heap.size 35 #[.int .i64 nu, .slice p1 q1 r1, .slice p2 q2 r2, .slice p3 q3 r3, .slice p4 q4 r4, .slice p5 q5 r5, .slice p6 q6 r6, .slice p7 q7 r7, .bool we, .int .i64 gk],Pc.old w.heap.size w] _ from S8.o.set 0 rfl 8 (.bool we));have lV:=bx (show Sep [Pc.blk w.heap.size 35 #[.int .i64 nu, .slice p1 q1 r1, .slice p2 q2 r2, .slice p3 q3 r3, .slice p4 q4 r4, .slice p5 q5 r5, .slice p6 q6 r6, .slice p7 q7 r7, .bool we, .int .i64 gj],Pc.old w.heap.size w] _ from S9.o.set 0 rfl 9 (.int .i64 gj));have HT0:=bx (Turns.refl (λq=>q=w.heap.size) w2);have U1:=bx (aZ HT0.o (p:=⟨w.heap.size,0,none⟩) rfl (.int .i64 nu));have U2:=bx (aZ U1.o (p:=⟨w.heap.size,1,none⟩) rfl (.slice p1 q1 r1));have U3:=bx (aZ U2.o (p:=⟨w.heap.size,2,none⟩) rfl (.slice p2 q2 r2));have U4:=bx (aZ U3.o (p:=⟨w.heap.size,3,none⟩) rfl (.slice p3 q3 r3));have U5:=bx (aZ U4.o (p:=⟨w.heap.size,4,none⟩) rfl (.slice p4 q4 r4));have U6:=bx (aZ U5.o (p:=⟨w.heap.size,5,none⟩) rfl (.slice p5 q5 r5));have U7:=bx (aZ U6.o (p:=⟨w.heap.size,6,none⟩) rfl (.slice p6 q6 r6));have U8:=bx (aZ U7.o (p:=⟨w.heap.size,7,none⟩) rfl (.slice p7 q7 r7));have U9:=bx (aZ U8.o (p:=⟨w.heap.size,8,none⟩) rfl (.bool we));have mM:=bx (aZ U9.o (p:=⟨w.heap.size,9,none⟩) rfl (.int .i64 gj));have gI:=lV;have HT3:=mM;clear S1 S2 S3 S4 S5 S6 S7 S8 S9 lV HT0 U1 U2 U3 U4 U5 U6 U7 U8 U9 mM
 go_upto_region 3 with(fail)
 generalize ((((((((((w2.setCell ⟨w.heap.size,0,none⟩ (.int .i64 nu)).setCell ⟨w.heap.size,1,none⟩ (.slice p1 q1 r1)).setCell ⟨w.heap.size,2,none⟩ (.slice p2 q2 r2)).setCell ⟨w.heap.size,3,none⟩ (.slice p3 q3 r3)).setCell ⟨w.heap.size,4,none⟩ (.slice p4 q4 r4)).setCell ⟨w.heap.size,5,none⟩ (.slice p5 q5 r5)).setCell ⟨w.heap.size,6,none⟩ (.slice p6 q6 r6)).setCell ⟨w.heap.size,7,none⟩ (.slice p7 q7 r7)).setCell ⟨w.heap.size,8,none⟩ (.bool we)).setCell ⟨w.heap.size,9,none⟩ (.int .i64 gj))=w3 at gI HT3 ⊢;clear e0 f0 e1 f1 e2 f2 e3 f3 e4 f4 e5 f5 e6 f6 e7 f7 e8 f8 e9 f9 el;have HB3:=bx (gI.o.bel (n:=w.heap.size) (W0:=w) (by simp));have dN:=bx (show dR w3 (.agg #[.int .i64 nu, .slice p1 q1 r1, .slice p2 q2 r2, .slice p3 q3 r3, .slice p4 q4 r4, .slice p5 q5 r5, .slice p6 q6 r6, .slice p7 q7 r7, .bool we, .int .i64 gj]) G from nM.o w3 (HT3.o.mono (λk hk=>by have:=bG.o;omega)) HB3.o);have aC:=bx (HS.o.below HB3.o);have ay:=bx (λW (h:Below w3.heap.size w3 W)=>(gI.o.blk 0 rfl).c10 h);clear nI jr iK gI HT3 nM HB0 HB1 HB2 aU jE HS bG;go_wp2_with fail;refine(jq.o _).mono ?_;rintro ex w3' ⟨rfl,rfl⟩;clear jq;have hcs:cs.size<=120:=nD.o;have jg:=bx (λW (h:Below w3.heap.size w3 W)=>(dN.o.below h).parts.1);have uK:=bx (λW (h:Below w3.heap.size w3 W)=>(dN.o.below h).parts.2);have X4:=bx (λW (h:Below w3.heap.size w3 W)=>Dh A B _ G cs W (dN.o.below h) dL.o eP.o (by omega) (aC.o.below h).e (aC.o.below h).d (aC.o.below h).g (aC.o.below h).le);have XC:=bx (λW (h:Below w3.heap.size w3 W)=>λ(he:textE G.t cs.data.toList=0)=>Jt A B _ G.t cs W (jg.o W h) dL.o (by omega) (aC.o.below h).e (aC.o.below h).d (aC.o.below h).g (aC.o.below h).le he);have X7:=bx (λW (h:Below w3.heap.size w3 W)=>NT A B cs W (by omega) (aC.o.below h).e (aC.o.below h).le)
 rcases DT (g:=G) (s:=cs.data.toList) (by rw [<- size_eq];omega) with⟨hgb,hge⟩ | ⟨hgb,hge,hte⟩
 ·rw [hge] at X4;generalize C.eG G cs.data.toList=M0 at X4;clear XC hcs hgb hge;obtain⟨e0,e1,e2,e3,e4,e5,e6,e7,e8,e9,el⟩:=ay.o w3 (Below.refl _ w3);go_wp2_with fail;refine(X4.o w3 (Below.refl _ w3)).mono ?_;rintro ex w4 ⟨rfl,hb4⟩;clear e0 e1 e2 e3 e4 e5 e6 e7 e8 e9 el;have HB4:=bx (bT (Below.refl _ w3) hb4);clear hb4;go_wp2_with fail;go_ret
  exact⟨rfl,bT HB3.o HB4.o⟩
 ·have HR:=bx (show C.eG G cs.data.toList=C.aS G (C.aH G.t cs.data.toList) (C.aH G.t cs.data.toList).length by unfold C.eG;rw [if_pos hge]);rw [hge,HR.o] at X4;have XC:=bx (λW h=>XC.o W h hte);rw [C.Ei hge] at XC;have pG:(C.aH G.t cs.data.toList).length<=1000:=by
   rw [C.tq];have h1:=(iq G.t cs.data.toList).2.len;have h2:=lM cs.data.toList;rw [<- size_eq] at h2;omega
  have hgp:=C.Hw hgb;have wH:=bx (λy hy=>OC (t:=G.t) (s:=cs) (by omega) y hy);have XW:=bx (λW (h:Below w3.heap.size w3 W) (lv:Value) (hl:dI W lv ((C.aH G.t cs.data.toList).map U.textOf))=>aj8 A B _ lv ⟨G.t,G.w,2⟩ (C.aH G.t cs.data.toList) W (uK.o W h) eP.o hgp.2.1 rfl hl (λy hy=>⟨(wH.o y hy).1,(wH.o y hy).2.2⟩) pG (aC.o.below h).e (aC.o.below h).le);have H0:=bx (λh:G.k=0=>C.afz G h cs.data.toList);have H1:=bx (λh:G.k=1=>C.alU G h cs.data.toList);have H2:=bx (λh:G.k=2=>akM h (C.aH G.t cs.data.toList) (C.aH G.t cs.data.toList).length);have HKK:gj=0\/gj=1\/gj=2:=by rw [mW.o];omega
  have hsf:(⟨(M.fix cs.data.toList).toArray⟩:ByteArray).size=(M.fix cs.data.toList).length:=size_mk _;have Et:=bx hsf;generalize C.aS ⟨G.t,G.w,2⟩ (C.aH G.t cs.data.toList) (C.aH G.t cs.data.toList).length=C2 at XW H2;generalize C.aS G (C.aH G.t cs.data.toList) (C.aH G.t cs.data.toList).length=M0 at X4 H0 H1 H2;generalize (⟨(M.fix cs.data.toList).toArray⟩:ByteArray)=fx at X7 Et;generalize (M.fix cs.data.toList).length=FL at H0 Et;obtain⟨cl,hcl⟩:∃ cl,cl=(C.aH G.t cs.data.toList).map U.textOf:=⟨_,rfl⟩
  have HQ:=bx (show cl.length=(C.aH G.t cs.data.toList).length by rw [hcl,List.length_map]);rw [<- hcl] at XC XW;generalize (C.aH G.t cs.data.toList).length=Q at H1 HQ;clear hgb hge hte hcs hgp wH HR hcl hsf pG
  rcases HKK with hk | hk | hk
  ·have sO:=bx (show G.k=0 by rw [<- mW.o];exact hk);subst hk;obtain⟨e0,e1,e2,e3,e4,e5,e6,e7,e8,e9,el⟩:=ay.o w3 (Below.refl _ w3);go_wp2_with fail;refine(X4.o w3 (Below.refl _ w3)).mono ?_;rintro ex w4 ⟨rfl,hb4⟩;clear e0 e1 e2 e3 e4 e5 e6 e7 e8 e9 el;have HB4:=bx (bT (Below.refl _ w3) hb4);clear hb4;obtain⟨e0,e1,e2,e3,e4,e5,e6,e7,e8,e9,el⟩:=ay.o w4 HB4.o;go_wp2_with fail;refine(XC.o w4 HB4.o).mono ?_;rintro ex w5 ⟨⟨vl,rfl,hvl,-⟩,hb5⟩;clear e0 e1 e2 e3 e4 e5 e6 e7 e8 e9 el;have aK:=bx (bT HB4.o hb5);obtain⟨la,lc,rfl,-⟩:=hvl.slice;rw [HQ.o] at hvl ⊢;have HV5:=bx hvl;clear hb5 hvl;obtain⟨e0,e1,e2,e3,e4,e5,e6,e7,e8,e9,el⟩:=ay.o w5 aK.o;go_wp2_with fail;refine(XW.o w5 aK.o _ HV5.o).mono ?_;rintro ex w6 ⟨rfl,hb6⟩;clear e0 e1 e2 e3 e4 e5 e6 e7 e8 e9 el;have dO:=bx (bT aK.o hb6);clear hb6;obtain⟨e0,e1,e2,e3,e4,e5,e6,e7,e8,e9,el⟩:=ay.o w6 dO.o;go_wp2_with fail;refine(X7.o w6 dO.o).mono ?_;rintro ex w7 ⟨rfl,hb7⟩;clear e0 e1 e2 e3 e4 e5 e6 e7 e8 e9 el;have bW:=bx (bT dO.o hb7);clear hb7;have uI:=bx (show (M0:Int)=(fx.size:Int) by rw [Et.o];exact H0.o sO.o);have heq:=uI.o;clear H0 H1 H2 sO;have d1:(M0==(fx.size:Int))=true:=by rw [beq_iff_eq];exact heq
   clear heq;go_wp2_with fail;go_ret
   exact⟨rfl,bT HB3.o bW.o⟩
  ·have sO:=bx (show G.k=1 by rw [<- mW.o];exact hk);subst hk;obtain⟨e0,e1,e2,e3,e4,e5,e6,e7,e8,e9,el⟩:=ay.o w3 (Below.refl _ w3);go_wp2_with fail;refine(X4.o w3 (Below.refl _ w3)).mono ?_;rintro ex w4 ⟨rfl,hb4⟩;clear e0 e1 e2 e3 e4 e5 e6 e7 e8 e9 el;have HB4:=bx (bT (Below.refl _ w3) hb4);clear hb4;obtain⟨e0,e1,e2,e3,e4,e5,e6,e7,e8,e9,el⟩:=ay.o w4 HB4.o;go_wp2_with fail;refine(XC.o w4 HB4.o).mono ?_;rintro ex w5 ⟨⟨vl,rfl,hvl,-⟩,hb5⟩;clear e0 e1 e2 e3 e4 e5 e6 e7 e8 e9 el;have aK:=bx (bT HB4.o hb5);obtain⟨la,lc,rfl,-⟩:=hvl.slice;rw [HQ.o] at hvl ⊢;have HV5:=bx hvl;clear hb5 hvl;obtain⟨e0,e1,e2,e3,e4,e5,e6,e7,e8,e9,el⟩:=ay.o w5 aK.o;go_wp2_with fail;refine(XW.o w5 aK.o _ HV5.o).mono ?_;rintro ex w6 ⟨rfl,hb6⟩;clear e0 e1 e2 e3 e4 e5 e6 e7 e8 e9 el;have dO:=bx (bT aK.o hb6);clear hb6;obtain⟨e0,e1,e2,e3,e4,e5,e6,e7,e8,e9,el⟩:=ay.o w6 dO.o;have d1:(M0==(Q:Int))=true:=by rw [beq_iff_eq];exact H1.o sO.o
   clear H0 H1 H2 sO;go_wp2_with fail;go_ret
   exact⟨rfl,bT HB3.o dO.o⟩
  ·have sO:=bx (show G.k=2 by rw [<- mW.o];exact hk);subst hk;obtain⟨e0,e1,e2,e3,e4,e5,e6,e7,e8,e9,el⟩:=ay.o w3 (Below.refl _ w3);go_wp2_with fail;refine(X4.o w3 (Below.refl _ w3)).mono ?_;rintro ex w4 ⟨rfl,hb4⟩;clear e0 e1 e2 e3 e4 e5 e6 e7 e8 e9 el;have HB4:=bx (bT (Below.refl _ w3) hb4);clear hb4;obtain⟨e0,e1,e2,e3,e4,e5,e6,e7,e8,e9,el⟩:=ay.o w4 HB4.o;go_wp2_with fail;refine(XC.o w4 HB4.o).mono ?_;rintro ex w5 ⟨⟨vl,rfl,hvl,-⟩,hb5⟩;clear e0 e1 e2 e3 e4 e5 e6 e7 e8 e9 el;have aK:=bx (bT HB4.o hb5);obtain⟨la,lc,rfl,-⟩:=hvl.slice;rw [HQ.o] at hvl ⊢;have HV5:=bx hvl;clear hb5 hvl;obtain⟨e0,e1,e2,e3,e4,e5,e6,e7,e8,e9,el⟩:=ay.o w5 aK.o;go_wp2_with fail;refine(XW.o w5 aK.o _ HV5.o).mono ?_;rintro ex w6 ⟨rfl,hb6⟩;clear e0 e1 e2 e3 e4 e5 e6 e7 e8 e9 el;have dO:=bx (bT aK.o hb6);clear hb6;obtain⟨e0,e1,e2,e3,e4,e5,e6,e7,e8,e9,el⟩:=ay.o w6 dO.o;have d1:(M0==C2)=true:=by rw [beq_iff_eq];exact(H2.o sO.o).symm
   clear H0 H1 H2 sO;go_wp2_with fail;go_ret
   exact⟨rfl,bT HB3.o dO.o⟩
end
end Go.Proofs.YtdenoeakcflnmaaGreatDoor
