/- Texts of this claim. -/
import Derived.Test.YtdponihkpomheaaGreatDoorH20

set_option maxRecDepth 100000
set_option maxHeartbeats 16000000
namespace Go.Proofs.YtdponihkpomheaaGreatDoor
open Go.RowKit
attribute [local go_sem] Oper.semAt_some
open Tryz
section
open Go.Shelf
theorem ady {P:Program} {F:Fence} {nF:Nat} {ops:Array Oper} {rest:List Oper} {o:Oper} {a:Act} {Q:Exit->Act->World->Prop} {w0:World} (hgd:o.guard=none) (s x:Operand) (t:TypeId)
  (ho:o.op = .call { callee:=.builtin .append,args:=#[s,x],argTypes:=#[t,t] }) {base:Nat} {e te:TypeId} {bytes:Nat} (hP:Pushes P t e bytes) {ps:List Pc} (hS:Sep ps w0) (k:Nat) {v u:Value} {n:Nat} {xs:List Value}
  (hk:ps[k]?=some (Pc.row base e 1 v n xs)) (hs:a.eval s=v) (hx:a.eval x = .slice (some ⟨w0.heap.size,0,none⟩) 1 1) (h1:u.oneCell'=true) (hn:n<=1000000000) (hby:bytes<=1000) (hbase:base<=w0.heap.size)
  (h:∀ v' w',Sep (ps.set k (Pc.row base e 1 v' (n+1) (xs++[u]))) w'->(∃ g c,v' = .slice (some ⟨g,0,none⟩) (n+1) c/\n+1<=c/\c<=9223372036854775807)->Turns (λq=>v.ownBlock=some q) w0 w'->(v'.ownBlock=v.ownBlock\/v'.ownBlock=some (w0.heap.size+1))->wpListIn F nF P ops Q rest (a.put o.dst v') w') :
  wpListIn F nF P ops Q (o::rest) a (w0.alloc (.cells #[u] te)):=by
 obtain⟨i,z,ht,hi,hz0,hz1,hz2,hz3⟩:=hP.o;have hb:(n+1)*bytes<=1000000001*1000:=zA (by omega) hby;refine wpListIn_append_own_at _ hgd s x t ho base e i z 1 bytes ht hi hz0 hz1 hz2 hz3 (by decide) v n xs hs ((hS.row k hk).alloc _) ⟨w0.heap.size,0,none⟩ 1 1 [u] hx rfl (cell_one_new _ _ _) (by simpa using h1) (by unfold maxLen;omega) (by omega) (by simp;omega) ?_;intro v' w' hown hgrow _ hat
 have hS':=(hS.alloc (.cells #[u] te)).grow k hk hgrow hown (by
  rcases hat with e1 | e1
  ·exact .inl e1
  exact .inr (λq hq=>by rw [e1] at hq;simp only [iQ] at hq;omega))
 refine h v' w' hS' ?_ ((Turns.alloc w0 (.cells #[u] te)).trans (Hw hgrow (λ_ hq=>hq))) (by simpa using hat)
 rcases hown.2 with⟨_,h2⟩ | ⟨g,cap,cur,h2,_,_,h3,h4,_⟩
 ·omega
 exact⟨g,cap,h2,h3,by unfold maxLen at h4;omega⟩
theorem auE {w:World} {base base' n s:Nat} {e:TypeId} {v:Value} {xs:List Value} (h:w.ownsRow base e s v n xs) (hb:base'<=base):w.ownsRow base' e s v n xs :=
 ⟨h.1,h.2.imp id λ⟨g,cap,cur,h1,h2,h3⟩=>⟨g,cap,cur,h1,bP hb h2,h3⟩⟩
def uF (ob:Nat) (W0:World) (v:Value) (l:List (List UInt8)):List Pc:=Pc.blk ob 49 #[v]::nV ob W0 v l
theorem aaH {ob:Nat} {W0 W W':World} {v:Value} {l:List (List UInt8)} {own:Nat->Prop} (h:Sep (uF ob W0 v l) W) (ht:Turns own W W') (h1:¬ own ob) (h2:∀ g,v.ownBlock=some g->¬ own g) (h3:∀ k,k<ob->¬ own k):Sep (uF ob W0 v l) W':=h.keep ht (λp hp k hk=>by
 unfold uF nV at hp;simp only [fB,qV,or_false] at hp
 rcases hp with rfl | rfl | rfl
 ·rw [show k=ob from hk];exact h1
 ·exact h2 k hk
 exact h3 k hk)
theorem afu (A:Nat->Addr) (B:Nat) (v:Value) (t:Tab) (s:ByteArray) (w:World) (hv:TabAt w v t) (hs:nN t) (hz:s.size<=800) (hE:E A B w) (hD:Ed A B w) (hG:Eg A B w) (hB:B<=w.heap.size) (he:textE t s.data.toList=0) :
  Calls prog 34 #[v, .string s] w λe w'=>(∃ v',e = .returned (.tuple #[v', ah 0])/\w'.ownsRow w.heap.size 9 1 v' (C.bf t s.data.toList).length ((C.bf t s.data.toList).map gW))/\ak w w':=by
 have gG:=bx (λW (h:ak w W)=>hv.below h);obtain⟨pi,pb,rv,nv,fv,rfl,h1,h2,h3,h4,h5⟩:=hv;obtain⟨V,hV⟩:∃ V,V=w.alloc (.cells #[ah t.n,pi,pb,rv,nv,fv] 31):=⟨_,rfl⟩
 have HB0:=bx (aB hV);have HK:=bx (aK hV);have aI:=bx (λW (h:ak V W)=>HK.o.d6 h);have HV:=bx hV;have nG:=bx hs;have jW:=bx (λW (h:ak w W)=>show E A B W/\Ed A B W/\Eg A B W/\B<=W.heap.size from⟨hE.below (h.mono hB),hD.below (h.mono hB),hG.below (h.mono hB),bP hB h.size⟩);have HO:=bx (Vk A B _ t s V (gG.o V HB0.o) hs (by omega) (jW.o V HB0.o).1 (jW.o V HB0.o).2.1 (jW.o V HB0.o).2.2.1 (jW.o V HB0.o).2.2.2 he);have GL:=bx (λW (h:ak w W)=>show iD W rv t.r/\tZ W (.agg #[nv,fv]) t.m from⟨h3.below h,nv,fv,rfl,h4.below h,h5.below h⟩);have HSL:=bx (show (jU t.p (dF s.data.toList)).length<=900 by unfold jU;rw [aV];have:=uJ s.data.toList;rw [<- size_eq] at this;omega);have Gm:=bx (show xI t.r t.m t.n=true by
  have h:=(Rz he).1;unfold nD at h;rw [dD] at h;exact h.1)
 have Jb:=bx (show Af t.r t.m t.n.toNat (jU t.p (dF s.data.toList))=(dZ t s.data.toList).map (λn:Nat=>(n:Int)) from(qg t s.data.toList).1);have jX:=bx (qg t s.data.toList).2;have BG:=bx (Dx s.data.toList);have FU:=bx (C.Jc s.data.toList);have lG:=bx (show (M.fix s.data.toList).length<=8000 by have:=C.qJ s.data.toList;rw [<- size_eq] at this;omega);have lu:=bx (show (C.items (dF s.data.toList) (dZ t s.data.toList)).map (·.2)=C.bf t s.data.toList by
  unfold C.items C.bf C.pieces;rw [aG he,EX]
  rfl)
 have zq:=bx (show (C.items (dF s.data.toList) (dZ t s.data.toList)).length<=1000000 by
  rw [C.Fp];have h1:=(qg t s.data.toList).2.len;have h2:=uJ s.data.toList;rw [<- size_eq] at h2;omega)
 clear h1 h2 h3 h4 h5 hV hs he hE hD hG hB;obtain⟨tn,hn⟩:∃ n,n=t.n:=⟨_,rfl⟩
 rw [<- hn] at HV HK gG aI HO Gm Jb ⊢;clear hn;obtain⟨k0,k1,k2,k3,k4,k5,kk⟩:=aI.o V aZ;refine(callsIn_wide (n:=9)).1 (callsIn_of_wp_marks func34 rfl trivial (wpIn_wide.2 ?_));simp only [ntmps34,qH,dY,iG,Nat.reduceAdd,Nat.reduceSub,rE,qW,ou,qQ,iJ,jd]
 go_upto_region 1 with(fail)
 rw [<- HV.o];go_wp2_with fail;refine HO.o.mono ?_;rintro e w1 ⟨zf,pb',rv',yU,zi,pg,ov,BR,rfl,hbk,hov,hb1⟩;obtain⟨rfl,rfl,rfl,rfl,rfl⟩:pi=zf/\pb=pb'/\rv=rv'/\nv=yU/\fv=zi:=by simpa using BR
 have dn:=bx hbk;have Vp:=bx hov;have HB1:=aJ HB0 hb1;clear BR hbk hov hb1 k0 k1 k2 k3 k4 k5 kk;go_wp2_with fail;refine aP (ac0 _ _) ?_;go_wp2_with fail;have bQ:=bx (show Sep (Pc.blk (w1.heap.size+1) 142 #[aA pg]::uF w1.heap.size w1 (aj) []) ((w1.alloc (.cells #[aj] 49)).alloc (.cells #[aA pg] 142)) by
  have h:=((Sep.start w1).eu 49 #[aj]).kV w1.heap.size 1 9;have h2:=(Sep.perm (List.Perm.swap _ _ _) h).eu 142 #[aA pg];rw [World.size_alloc] at h2;exact h2)
 have rU:((w1.alloc (.cells #[aj] 49)).alloc (.cells #[aA pg] 142)).heap.size=w1.heap.size+2:=by simp
 generalize (w1.alloc (.cells #[aj] 49)).alloc (.cells #[aA pg] 142)=wL at bQ rU ⊢;have dU:=bx rU;have cu:=bx (show ak w1 wL from bQ.o.tail.bel (n:=w1.heap.size) (W0:=w1) (by simp [uF,nV]));have bM:=bx (bt HB1.o cu.o);have hbz:=dn.o.lt;have Ut:=HB1.o.size;have Wq:=bx (jW.o w1 HB1.o).2.2.2;refine(wpIn_wide (n:=9)).1 (Nz (α:=Nat×List UInt8) (gf:=157) (lb:=#[aA (w1.heap.size+1)]) rfl (enters_of func157 (by kernel_rfl) rfl)
  (encs:=λx:Nat×List UInt8=>#[ah (x.1:Int), .string (bs x.2)]) (own:=λ_=>False) (keep:=λk=>k<wL.heap.size/\k≠w1.heap.size) (ok:=λpre x _=>∃ rest,C.items (dF s.data.toList) (dZ t s.data.toList)=pre++x::rest) (S:=λys _=>ys=C.items (dF s.data.toList) (dZ t s.data.toList))
  (λk hk=>by rcases hk with h | h;exact h.elim;exact h.1)
  (λW1 ht=>by
   have hwl:=ht.below aU (λ_ h=>h.elim);have hbw:=bt bM.o hwl;have JO:=bt cu.o hwl;have hcut:=Zr A B pg tn pi pb rv nv fv (.string (bs (M.fix s.data.toList))) ov t.r t.m _ W1 (dn.o.below JO dn.o.lt) (GL.o W1 hbw).1 nG.o.r1 nG.o.r2 (GL.o W1 hbw).2 nG.o.m (Vp.o.below JO) HSL.o (jW.o W1 hbw).2.1 (jW.o W1 hbw).2.2.1 (jW.o W1 hbw).2.2.2 Gm.o;rw [Jb.o] at hcut;exact abg 7 A B w1.heap.size wL.heap.size (w1.heap.size+1) pg _ _ _ _ _ _ _ _ _ _ _ W1 ht.size Wq.o (by omega) (jW.o W1 hbw).1 ((bQ.o.blk 0 rfl).below hwl (bQ.o.blk 0 rfl).lt) (dn.o.below JO dn.o.lt) ⟨by omega,by omega,by omega,by omega⟩ hcut FU.o BG.o jX.o lG.o)
  (λ_=>rfl)
  (λN1 pre W=>∃ v,Sep (uF w1.heap.size w1 v (pre.map (·.2))) W/\(∀ g,v.ownBlock=some g->N1<=g)/\wL.heap.size+2<=N1)
  (λ_ _ _ _=>False) ?hI (λ_ _ _ _ _ h _=>h) (λ_ _ _ _ h _=>h) (λN1 h=>⟨aj,bQ.o.tail,λg hg=>(by cases hg),h⟩)
  (λx a1 W=>a1={ tmps:=#[.agg #[ah tn,pi,pb,rv,nv,fv], .string s, aA (w.heap.size),undef, aj, ah 0, aA pg, .nilIface, aA (w1.heap.size),undef, .string (bs x.2), .tuple #[aA pg, .nilIface], .agg #[ah tn,pi,pb,rv,nv,fv], .string s, .tuple #[aA pg, .nilIface], aA pg, .nilIface, .nilIface, .bool false,undef,undef, aA pg, .func (.func 157) #[] #[aA (w1.heap.size+1)], ah (x.1:Int), .string (bs x.2),undef,undef,undef,undef,undef],defers:=[] })
  (λ_ _ _ _ h _=>h) ?assign ?body ?done (λ_ _ _ _ _ h _=>h.elim) (λ_ _ _ h _=>h))
 case hI =>
  rintro N1 pre W W' ⟨v,h1,h2,h3⟩ ht;exact⟨v,aaH h1 ht (by rintro(h | h);exact h;omega) (λg hg=>by have:=h2 g hg;rintro(h | h);exact h;omega) (λk hk=>by rintro(h | h);exact h;omega),h2,h3⟩
 case assign =>
  intro x W K hW hK
  gi_wp2
  exact hK _ _ (Turns.refl _ _) rfl
 case body =>
  rintro N1 pre x a1 W0 W N hN1 Ld hW0 ⟨v,h1,h2,h3⟩ ht hN ⟨rest,hok⟩ rfl;have hts:=ht.size;have hlt1:∀ g,v.ownBlock=some g->g<W0.heap.size:=λg hg=>((h1.row 1 rfl).lt g hg).2
  have oK:=bx (aaH h1 ht (by rintro(h | h);exact h;omega) (λg hg=>by have:=h2 g hg;rintro(h | h);exact h;omega) (λk hk=>by rintro(h | h);exact h;omega));have HH:=bx (λg hg=>show N1<=g/\g<W0.heap.size from⟨h2 g hg,hlt1 g hg⟩);have c0:ay W w1.heap.size 0=some v:=((oK.o.blk 0 rfl).cell 0).trans rfl;have f0:=(oK.o.blk 0 rfl).frozen 0;have l0:=(oK.o.blk 0 rfl).lt;have hln:(pre.map (·.2)).length<=1000000000:=by
   have h:=zq.o;rw [hok,bC,dY] at h;rw [aV];omega
  have nX:=bx hok;have HT0:=bx ht;clear h1 h2 ht hok hlt1
  gi_wp2_with (gi_at_builtin;refine ady (u:=gW x.2) rfl _ _ 49 rfl Em oK.o 1 rfl rfl rfl rfl hln (by omega) (by omega) ?_;rintro v' w3 hS3 ⟨g',c',rfl,-,-⟩ GX Np;have aS:=bx hS3;have HT3:=bx GX;have U7:=bx Np;have c3:w3.cell? ⟨w1.heap.size,0,none⟩=some v:=((hS3.blk 0 rfl).cell 0).trans rfl;have f3:=(hS3.blk 0 rfl).frozen 0;have l3:=(hS3.blk 0 rfl).lt;clear hS3 GX Np)
  have hT:=(HT3.o.mono (own':=λk=>v.ownBlock=some k\/k=w1.heap.size) (λk h=>Or.inl h)).trans ((Turns.setCell (own:=λq=>q=w1.heap.size) w3 (p:=⟨w1.heap.size,0,none⟩) rfl (.slice (some ⟨g',0,none⟩) (pre.length+1) c')).mono (λk h=>Or.inr h));refine⟨hT.mono (λk hk hh=>?_), .slice (some ⟨g',0,none⟩) ((pre.map (·.2)).length+1) c',?_,λg hg=>?_,h3⟩
  ·rcases hk with hk | hk
   ·have h9:=HH.o k hk
    rcases hh with(h | h | h) | h | h <;> omega
   subst hk
   rcases hh with(h | h | h) | h | h
   ·exact h.2 rfl
   all_goals omega
  ·have h:=aS.o.set 0 rfl 0 (.slice (some ⟨g',0,none⟩) (pre.length+1) c');have e:(pre++[x]).map (·.2)=pre.map (·.2)++[x.2]:=by simp
   rw [e];unfold uF nV;rw [bC,gX];simp only [aV,dY,iG] at h ⊢;exact h
  rcases U7.o with h | h
  ·rw [h] at hg;exact(HH.o g hg).1
  rw [h] at hg;injection hg with hg;omega
 case done =>
  intro N1 xs W hW hS ⟨v,h1,h2,h3⟩ hD;have c0:ay W w1.heap.size 0=some v:=((h1.blk 0 rfl).cell 0).trans rfl;have HD:=bx hD;have HW:=bx (show Sep (uF w1.heap.size w1 v (C.bf t s.data.toList)) W by
   rw [<- lu.o,<- hS];exact h1)
  have H2:=bx h2;clear h1 h2 hD hS;go_wp2_with fail;refine⟨by simp, .inl ⟨_,_,rfl,run_takeDeferred HD.o,?_⟩⟩;refine⟨_,results_tmp2 rfl _ _ _,?_⟩;have CO:Turns (λk=>k=wL.heap.size) W (W.putObj wL.heap.size (.deferred none)):=Turns.putObj (own:=λk=>k=wL.heap.size) W rfl (.deferred none);have mF:=aaH HW.o CO (by omega) (λg hg=>by have:=H2.o g hg;omega) (λk hk=>by omega);exact⟨⟨v,rfl,auE (mF.tail.row 0 rfl) (by have:=bM.o.size;have:=HB1.o.size;omega)⟩,HB1.o.trans ((mF.tail.bel (n:=w1.heap.size) (W0:=w1) (by simp [nV])).mono HB1.o.size)⟩
theorem Pj (A:Nat->Addr) (B:Nat) (v:Value) (t:Tab) (s:ByteArray) (w:World) (hv:TabAt w v t) (hs:nN t) (hz:s.size<=800) (hE:E A B w) (hD:Ed A B w) (hG:Eg A B w) (hB:B<=w.heap.size) (he:textE t s.data.toList=0) :
  Calls prog 34 #[v, .string s] w λe w'=>(∃ v',e = .returned (.tuple #[v', ah 0])/\cZ w' v' (C.bf t s.data.toList)/\∀ g,v'.ownBlock=some g->w.heap.size<=g)/\ak w w' :=
 (afu A B v t s w hv hs hz hE hD hG hB he).mono (by rintro e w' ⟨⟨v',rfl,h⟩,hb⟩;exact⟨⟨v',rfl,cZ.iy h rfl,λg hg=>(h.lt g hg).1⟩,hb⟩)
end
theorem alZ (p:Option Addr) (c:List UInt8) (w:World) :
  Calls prog 145 #[.pointer p, .string (bs c)] w λe w'=>e = .returned (ah (c.length:Int))/\w=w':=by
 have HZ:=bx (dN c)
 go_in
 go_wp2
 go_ret
 exact⟨Bv (by rw [HZ.o]),rfl⟩
theorem asE (p:Option Addr) (c:List UInt8) (w:World) (hc:1<=c.length) :
  Calls prog 146 #[.pointer p, .string (bs c)] w λe w'=>e = .returned (ah 1)/\w=w':=by
 have HZ:=bx (dN c);have HC:=bx hc;clear hc
 go_in
 go_wp2
 go_ret
 exact⟨Bv (by rw [HZ.o];have:=HC.o;omega),rfl⟩
theorem aso (A:Nat->Addr) (B mg hm:Nat) (pi pb rv nv fv iv bv:Value) (g:C.Ga) (c:List UInt8) (xs:List Int) (w:World) (hM:Mt w mg hm pi pb rv nv fv iv bv g) (hw:rY g.w) (hb:C.jF g=true) (hx:U.scalars c=some xs) (hz:c.length<=8000) (hE:E A B w) (hB:B<=w.heap.size) :
  Calls prog 147 #[aA mg, .string (bs c)] w λe w'=>e = .returned (ah (C.iq g.w xs))/\ak w w':=by
 have kK:=bx (ai5 A B (.agg #[iv,bv, .bool g.w.wide]) g.w c xs w hM.wid hw (C.Vq hb).2.1 hx hz hE hB);have hk:=hM.blk;generalize g.t.n=tn at hk;generalize C.iq g.w xs=res at kK ⊢;generalize g.w.wide=wd at hk kK;generalize g.k=gk at hk;have c6:w.cell? ⟨mg,6,none⟩=some iv:=(hk.cell 6).trans rfl;have c7:w.cell? ⟨mg,7,none⟩=some bv:=(hk.cell 7).trans rfl;have c8:w.cell? ⟨mg,8,none⟩=some (.bool wd):=(hk.cell 8).trans rfl;have cl:=hk.lt;clear hM hw hb hx hE hB hk
 go_in
 go_wp2_with fail;refine aT kK.o λw1 hb1=>?_
 have HB1:=bx hb1;clear hb1 c6 c7 c8 cl
 go_wp2
 go_ret
 exact⟨rfl,HB1.o⟩
theorem XF (A:Nat->Addr) (B mg hm:Nat) (pi pb rv nv fv iv bv:Value) (g:C.Ga) (s:ByteArray) (w:World) (hM:Mt w mg hm pi pb rv nv fv iv bv g) (hs:nN g.t) (hb:C.jF g=true) (hz:s.size<=800) (hE:E A B w) (hD:Ed A B w) (hG:Eg A B w) (hB:B<=w.heap.size) :
  Calls prog 96 #[aA mg, .string s] w λe w'=>(∃ v',e = .returned v'/\cZ w' v' (C.bf g.t s.data.toList)/\∀ q,v'.ownBlock=some q->w.heap.size<=q)/\ak w w':=by
 have kK:=bx (Pj A B (.agg #[ah g.t.n,pi,pb,rv,nv,fv]) g.t s w hM.tab hs hz hE hD hG hB (C.wG hb (by rw [<- size_eq];omega)));have hk:=hM.blk;generalize C.bf g.t s.data.toList=cl at kK ⊢;generalize g.t.n=tn at hk kK;generalize g.w.wide=wd at hk;generalize g.k=gk at hk;have c0:w.cell? ⟨mg,0,none⟩=some (ah tn):=(hk.cell 0).trans rfl;have c1:w.cell? ⟨mg,1,none⟩=some pi:=(hk.cell 1).trans rfl;have c2:w.cell? ⟨mg,2,none⟩=some pb:=(hk.cell 2).trans rfl;have c3:w.cell? ⟨mg,3,none⟩=some rv:=(hk.cell 3).trans rfl;have c4:w.cell? ⟨mg,4,none⟩=some nv:=(hk.cell 4).trans rfl;have c5:w.cell? ⟨mg,5,none⟩=some fv:=(hk.cell 5).trans rfl;have Xb:=hk.lt;clear hM hs hb hE hD hG hB hk hz
 go_in
 go_wp2_with fail;refine kK.o.mono ?_;rintro e w1 ⟨⟨v1,rfl,hv1,hf1⟩,hb1⟩;have HB1:=bx hb1;have mV:=bx hv1;have Aw:=bx hf1;clear hb1 hv1 hf1 c0 c1 c2 c3 c4 c5 Xb
 go_wp2
 go_ret
 exact⟨⟨_,rfl,mV.o,Aw.o⟩,HB1.o⟩
theorem adE (p:Option Addr) (s:ByteArray) (w:World) :
  Calls prog 149 #[.pointer p, .string s] w λe w'=>e = .returned (.func (.func 234) #[] #[aA (w.heap.size), aA (w.heap.size+1)])/\(w.alloc (.cells #[.pointer p] 118)).alloc (.cells #[.string s] 9)=w':=by
 go_in
 go_wp2
 go_ret
 exact⟨rfl,rfl⟩
namespace C
def sums (g:Ga) (ls:List (List Int)):List (Nat×Int):=(List.range ls.length).map λi=>(i+1,dX g ls (i+1))
theorem JL (g:Ga) (ls:List (List Int)):(sums g ls).length=ls.length:=by unfold sums;rw [aV,wF]
theorem XA (g:Ga) (ls:List (List Int)) {i:Nat} (h:i<ls.length):(sums g ls)[i]?=some (i+1,dX g ls (i+1)):=by
 unfold sums;rw [eX,yj h]
 rfl
theorem aqV (g:Ga) (ls:List (List Int)) {i:Nat} (h:i<ls.length):sums g ls=(sums g ls).take i++(i+1,dX g ls (i+1))::(sums g ls).drop (i+1):=by
 have hl:i<(sums g ls).length:=by rw [JL];exact h
 have e:=zS (l:=sums g ls) (i:=i) hl;have e2:=XA g ls h;rw [dW hl] at e2;injection e2 with e2;rw [e2] at e;rw [<- e];exact(oN i _).symm
theorem acS (g:Ga) (ls:List (List Int)) {i:Nat} (h:i<ls.length):(sums g ls).take (i+1)=(sums g ls).take i++[(i+1,dX g ls (i+1))]:=by
 rw [jw,XA g ls h]
 rfl
end C
theorem Uk {t:Tab} {s:ByteArray} (hz:s.size<=800):∀ y∈C.aO t s.data.toList,U.scalars (U.textOf y)=some y/\1<=(U.textOf y).length/\(U.textOf y).length<=8000:=by
 intro y hy;have hr:=(qg t s.data.toList).2;unfold C.aO at hy;obtain⟨i,hi,rfl⟩:=jM.1 hy;have hi2:i+1<(dZ t s.data.toList).length:=by
  have:=oM.1 hi;omega
 have h1:=C.amj (Dx s.data.toList) (dZ t s.data.toList) i;have h2:=C.alk (xs:=dF s.data.toList) hr hi2;have h3:=C.ajs (xs:=dF s.data.toList) hr hi2;have h4:=C.Ns (xs:=dF s.data.toList) (ns:=dZ t s.data.toList) hi2;rw [<- C.Jc] at h4;have h5:=C.qJ s.data.toList;rw [<- size_eq] at h5;unfold C.piece at h1 h2 h3;exact⟨h1,h2,by omega⟩
theorem ank (g:C.Ga) (y:List Int) (h:(U.textOf y).length<=8000):C.meas g y<=8000:=by
 have h1:=(C.RV g.w y).2;unfold C.meas
 split
 ·omega
 split <;> omega
theorem aic {g:C.Ga} {ls:List (List Int)} (h:∀ y∈ls,(U.textOf y).length<=8000):∀ k,k<=ls.length->C.dX g ls k<=8000*(k:Int)
 | 0,_=>by rw [C.SS];omega
 | k+1,hk=>by
  have ih:=aic (g:=g) h k (by omega);obtain⟨y,hy⟩:=bV ls k (by omega);have h1:=C.XV g ls hy;have h2:=ank g y (h y (dB hy));omega
theorem aeG {g:C.Ga} {ls:List (List Int)} (hl:ls.length<=1000) (h:∀ y∈ls,(U.textOf y).length<=8000) (k:Nat) (hk:k<=ls.length):C.dX g ls k<=8000000:=by
 have:=aic (g:=g) h k hk;omega
theorem UY (mg:Nat):DJ #[oQ mg,qo mg,qE mg]:=by
 intro x hx;simp only [fB,qV,or_false] at hx
 rcases hx with rfl | rfl | rfl <;> exact⟨_,rfl⟩
theorem aeo (n:Nat) (A:Nat->Addr) (B ob Bg WU mg hm:Nat) (pi pb rv nv fv iv bv:Value) (g:C.Ga) (s:ByteArray) (ls:List (List Int)) (l:Nat) (W0 W1:World)
  (hob:W0.heap.size=ob) (h01:Below ob W0 W1) (hE:E A B W0) (hD:Ed A B W0) (hG:Eg A B W0) (hB:B<=ob) (hM:Mt W0 mg hm pi pb rv nv fv iv bv g) (hs:nN g.t) (hw:rY g.w) (hb:C.jF g=true) (hz:s.size<=800)
  (hmx:aC W1 Bg 118 #[aA mg]) (hsx:aC W1 WU 9 #[.string s]) (hls:C.aO g.t s.data.toList=ls) :
  QC (n+1) prog 234 #[aA Bg, aA WU] (λx:Nat×Int=>#[ah (x.1:Int), ah x.2]) (λ_=>False) (λk=>k<ob\/k=Bg)
   (λpre x _=>∃ rest,C.sums g ls=pre++x::rest) (λys _=>ys=C.sums g ls) l W1:=by
 intro J Jx hJ hJx hY h0;have HY:=bx hY;have H0:=bx h0;have HJ:=bx hJ;have ng:=bx (λW (h:Below ob W0 W)=>XF A B mg hm pi pb rv nv fv iv bv g s W (hM.below (by subst hob;exact h)) hs hb hz (hE.below (h.mono hB)) (hD.below (h.mono hB)) (hG.below (h.mono hB)) (bP hB (by rw [<- hob];exact h.size)));have kK:=bx (show C.bf g.t s.data.toList=ls.map U.textOf by rw [C.aiJ (C.nU hb (by rw [<- size_eq];omega)),hls]);have Tc:=bx (show ∀ y∈ls,U.scalars (U.textOf y)=some y/\1<=(U.textOf y).length/\(U.textOf y).length<=8000 from λy hy=>by
  subst hls;exact Uk hz y hy)
 have qj:=bx (show ls.length<=1000 by
  rw [<- hls,C.Gt];have h1:=(qg g.t s.data.toList).2.len;have h2:=uJ s.data.toList;rw [<- size_eq] at h2;omega)
 have auq:=bx (show ∀ k,k<=ls.length->0<=C.dX g ls k/\C.dX g ls k<=8000000 from λk hk=>⟨C.N9 g ls k,aeG qj.o (λy hy=>(Tc.o y hy).2.2) k hk⟩);have akU:=bx (λ(y:List Int) (hy:y∈ls) W (h:Below ob W0 W)=>aso A B mg hm pi pb rv nv fv iv bv g (U.textOf y) y W (hM.below (by subst hob;exact h)) hw hb (Tc.o y hy).1 (Tc.o y hy).2.2 (hE.below (h.mono hB)) (bP hB (by rw [<- hob];exact h.size)));have HKK:=bx (show g.k=0\/g.k=1\/g.k=2 by have:=C.Vq hb;omega);have JX:=bx (λW (h:Below ob W0 W)=>hM.below (w':=W) (by subst hob;exact h));obtain⟨Q,hQ⟩:∃ Q,ls.length=Q:=⟨_,rfl⟩
 have HQ:=bx hQ;have hQz:Q<=1000:=by rw [<- hQ];exact qj.o
 have agr:=bx h01;have Bd:=bx hob;have ata:=bx hmx;have p0:W1.cell? ⟨Bg,0,none⟩=some (aA mg):=(hmx.cell 0).trans rfl;have p1:W1.cell? ⟨WU,0,none⟩=some (.string s):=(hsx.cell 0).trans rfl;have HC:=bx ((callsIn_wide (n:=n)).2 (ng.o W1 h01));clear hY h0 hJ hJx hE hD hG hM hs hw hb hmx hsx hls hQ;refine callsIn_of_wp func234 rfl trivial ?_;simp only [ntmps234,qH,dY,iG,Nat.reduceAdd,Nat.reduceSub,rE,qW,ou,qQ,iJ,jd]
 gi_wp2
 refine wpIn_wide.2 (wp_scope_straight ((wpIn_wide (n:=n+1)).1 ?_))
 gi_wp2
 refine wpIn_label ?_
 gi_wp2
 refine⟨trivial,HC.o.mono ?_⟩;rintro e w1 ⟨⟨v1,rfl,hv1,hf1⟩,hb1⟩;rw [kK.o] at hv1;have mV:=bx hv1;have Aw:=bx hf1;obtain⟨la,lc,rfl,-⟩:=hv1.slice;rw [aV,HQ.o] at mV Aw ⊢;have HW1:=bx hb1;have hws:=hb1.size;have HB1:=bx (agr.o.trans (hb1.mono (by have:=agr.o.size;omega)));have Ql:=ata.ub hb1;have Mc:=bx (HJ.o w1.heap.size [] W1 w1 (H0.o w1.heap.size hb1.size) (Turns.of_below hb1));clear hv1 hf1 hb1 p0 p1
 gi_wp2
 obtain⟨cg,kN,hla,hcs⟩:∃ cg kN,(0<Q->la=some ⟨cg,kN,none⟩/\Q<=lc/\lc<=maxLen)/\∀ (i:Nat) (x:List UInt8),(ls.map U.textOf)[i]?=some x->cg<w1.heap.size/\W1.heap.size<=cg/\cg<w1.heap.size/\w1.cell? ⟨cg,kN+i,none⟩=some (.string (bs x)):=by
  by_cases h0:Q=0
  ·refine⟨0,0,λh=>absurd h (by omega),λi x hx=>?_⟩;have h9:=(dO hx).1;rw [aV,HQ.o] at h9;omega
  obtain⟨b,off,cap,e1,e2,e3,e4,e5⟩:=mV.o.get (by intro h;have h9:=congrArg List.length h;rw [aV,HQ.o,iG] at h9;omega);rw [aV,HQ.o] at e1 e2;injection e1 with f1 f2 f3;subst f1 f3;exact⟨b,off,λ_=>⟨rfl,e2,e3⟩,λi x hx=>⟨e4,Aw.o b rfl,e4,e5 i x hx⟩⟩
 have uf:=bx hla;have yQ:=bx hcs;clear hla hcs
 gi_loopw [4,11] (λsv iv wr=>∃ k:Nat,k<=Q/\sv = ah (C.dX g ls k)/\iv = ah k/\Box (w1.heap.size<=wr.heap.size)/\Box (Below ob W0 wr)/\Box (aC wr Bg 118 #[aA mg]) /\
  Box (∀ (i:Nat) (x:List UInt8),(ls.map U.textOf)[i]?=some x->cg<wr.heap.size/\W1.heap.size<=cg/\cg<w1.heap.size/\wr.cell? ⟨cg,kN+i,none⟩=some (.string (bs x)))/\Box (J w1.heap.size ((C.sums g ls).take k) wr)) (λ_ iv _=>Q-(intOf iv).toNat)
 ·exact⟨0,nK _,by rw [C.SS],rfl,⟨bK _⟩,HB1,Ql,yQ,by rw [qN];exact Mc⟩
 obtain⟨k,hk,rfl,rfl,hsz,hbr,hmx,hcr,hj⟩:=hrel;obtain⟨WO,rfl⟩:∃ W,W=wr:=⟨_,rfl⟩
 by_cases hlt:k<Q
 ·obtain⟨y,hy⟩:=bV ls k (by rw [HQ.o];exact hlt);obtain⟨rfl,hl1,hl2⟩:=uf.o (by omega);have hcx:=hcr.o k (U.textOf y) (by rw [eX,hy];rfl);have cx:=hcx.2.2.2;have hcl:=hcx.1;have hyl:=Tc.o y (dB hy);have hy1:=hyl.2.1;have oD:=bx (λW (h:ak WO W)=>akU.o y (dB hy) W (hbr.o.trans (h.mono (by have:=hbr.o.size;have:=Bd.o;omega))));have HIS:=bx (C.aqV g ls (i:=k) (by rw [HQ.o];exact hlt));have HIT:=bx (C.acS g ls (i:=k) (by rw [HQ.o];exact hlt));have dK:=bx (C.XV g ls hy);have oK:=bx (show 0<=C.dX g ls (k+1)/\C.dX g ls (k+1)<=8000000 from auq.o (k+1) (by rw [HQ.o];exact hlt));obtain⟨S0,hS0⟩:∃ S,S=C.dX g ls k:=⟨_,rfl⟩
  obtain⟨S1,hS1⟩:∃ S,S=C.dX g ls (k+1):=⟨_,rfl⟩
  have eG:=bx hS1;rw [<- hS0,<- hS1] at dK;rw [<- hS1] at oK HIS HIT;rw [<- hS0];have D7:=bx (λW (h:ak WO W)=>show ay W Bg 0=some (aA mg)/\ay W mg 10=some (.map (some hm))/\ay W mg 9=some (ah g.k)/\W.heap[hm]?=some (.map #[oQ mg,qo mg,qE mg] 3) from by
   have Yu:=JX.o W (hbr.o.trans (h.mono (by have:=hbr.o.size;have:=Bd.o;omega)));exact⟨((hmx.o.below h hmx.o.lt).cell 0).trans rfl,(Yu.blk.cell 10).trans rfl,(Yu.blk.cell 9).trans rfl,Yu.how⟩)
  have e20:decide ((k:Int)<(Q:Int))=true:=bD (by omega);unfold maxLen at hl2;clear hy hcx hyl hS0 hS1
  gi_wp2
  clear cx hcl;refine wpIn_wide.2 ?_
  rcases HKK.o with hkz | hkz | hkz
  ·skip
   have OH:=bx hkz;have lF:=bx (show C.meas g y=((U.textOf y).length:Int) by unfold C.meas;rw [hkz];rfl);have hadd:IntKind.i64.wrap (S0+((U.textOf y).length:Int))=S1:=by
    have hS:=dK.o;rw [lF.o] at hS;rw [yC];have:=oK.o;omega
   have qL:=bx (λW (h:ak WO W)=>show ay W Bg 0=some (aA mg)/\ay W mg 10=some (.map (some hm))/\ay W mg 9=some (ah 0)/\W.heap[hm]?=some (.map #[oQ mg,qo mg,qE mg] 3) from by
    obtain⟨a1,a2,a3,a4⟩:=D7.o W h;rw [OH.o] at a3;exact⟨a1,a2,a3,a4⟩)
   have kG:=bx (λW (h:W.heap[hm]?=some (.map #[oQ mg,qo mg,qE mg] 3))=>show (Instr.lookup 203 (.map (some hm)) (ah 0) false).run prog W = .ok (oQ mg).val W from U6 underlying203 underlying3 W _ 3 0 hm h (UY mg) .nilFunc (by kernel_rfl));simp only [oQ] at kG;have dH:=bx (qL.o WO.drew (jg WO 1));have aX:=bx (show ak WO WO.drew from jg WO 1);clear hkz;refine jl 14 (λW'=>ay W' Bg 0=some (aA mg)/\ay W' mg 10=some (.map (some hm))/\ay W' mg 9=some (ah 0)/\W'.heap[hm]?=some (.map #[oQ mg,qo mg,qE mg] 3)) (by kernel_rfl) ?_;generalize WO.drew=WR at dH aX ⊢;refine jB [0,1,2,3,4,5,6,7,8,9,10,11] ?_
   iterate 12 (refine jA ?_ rfl dH.o ?_ ?_;rotate_left;·rintro w ⟨q1,q2,q3,q4⟩;have hlk:=kG.o w q4;go_simp;try with_reducible rfl)
   refine jr ?_;refine kP 12 rfl λKK au=>?_
   go_simp;refine aP (alZ _ (U.textOf y) WR) ?_;have bU:=bx (Below.refl WR.heap.size WR);have lS:=bx (qL.o WR (bt aX.o bU.o));refine au.out _ _ (λ_=>lS.o) ?_;clear au KK;refine kS 13 ?_ rfl lS.o ?_ ?_;rotate_left
   ·rintro w ⟨q1,q2,q3,q4⟩;have hlk:=kG.o w q4;go_simp;try with_reducible rfl
   refine kP 14 rfl λKK au=>?_
   go_simp;refine au.out _ _ (λh=>by cases h) ?_;clear au KK;refine kD ?_ _;clear hadd;have jR:=bx (bt aX.o bU.o);have hy0:=HY.o w1.heap.size _ (k+1,S1) WO WR hws (bP hsz.o jR.o.size) hj.o (Turns.of_below jR.o) ⟨_,HIS.o⟩;simp only at hy0;rw [show ((k+1:Nat):Int)=(k:Int)+1 from by omega] at hy0;obtain⟨fn,tmps,assign,body,hy,lT⟩:=hy0;have rV:=bx lT;clear lT
   gi_wp2
   refine rV.o.mono ?_;rintro e W3 (⟨rfl,hj3,ht3⟩ | ⟨rfl,hx3⟩)
   ·have sK:=bx hj3;have hwd:=jR.o.size;have hso:=hsz.o;have HB3:=bx (show Below ob W0 W3 from hbr.o.trans ((jR.o.mono (by have:=hbr.o.size;have:=Bd.o;omega)).trans (ht3.below (by have:=hbr.o.size;have:=Bd.o;omega) (λq hq=>Nat.le_of_not_lt (λhlt=>hq (.inl (.inl hlt)))))));have F6:=bx (ht3.blk (hmx.o.below jR.o hmx.o.lt) (λhn=>hn (.inl (.inr rfl))));have iw:=bx (show ∀ (i:Nat) (x:List UInt8),(ls.map U.textOf)[i]?=some x->cg<W3.heap.size/\W1.heap.size<=cg/\cg<w1.heap.size/\W3.cell? ⟨cg,kN+i,none⟩=some (.string (bs x)) from λi x hx=>by
     obtain⟨a1,a2,a3,a4⟩:=hcr.o i x hx;refine⟨fC a3 (bP (bP hso hwd) ht3.size),a2,a3,?_⟩;exact(World.cell?_of_block (ht3.block cg (fC a1 hwd) (λhn=>hn (.inr (.inl ⟨a2,a3⟩))))).trans ((jR.o.cell (p:=⟨cg,kN+i,none⟩) a1).trans a4))
    have aS:=bx (show w1.heap.size<=W3.heap.size from bP (bP hso hwd) ht3.size);clear hj3 ht3 hy hwd hso
    gi_wp2
    go_roundw
    ·exact⟨k+1,by omega,by rw [<- eG.o],by go_num,aS,HB3,F6,iw,by rw [HIT.o];exact sK⟩
    simp [intOf];omega
   have pG:=bx hx3;clear hx3 hy
   gi_wp2
   rw [Exit.noGoto_normal]
   go_end0
   exact⟨⟨_,rfl⟩, .inr ⟨_,_,pG.o⟩⟩
  ·skip
   have OH:=bx hkz;have lF:=bx (show C.meas g y=1 by unfold C.meas;rw [hkz];rfl);have hadd:IntKind.i64.wrap (S0+1)=S1:=by
    have hS:=dK.o;rw [lF.o] at hS;rw [yC];have:=oK.o;omega
   have qL:=bx (λW (h:ak WO W)=>show ay W Bg 0=some (aA mg)/\ay W mg 10=some (.map (some hm))/\ay W mg 9=some (ah 1)/\W.heap[hm]?=some (.map #[oQ mg,qo mg,qE mg] 3) from by
    obtain⟨a1,a2,a3,a4⟩:=D7.o W h;rw [OH.o] at a3;exact⟨a1,a2,a3,a4⟩)
   have kG:=bx (λW (h:W.heap[hm]?=some (.map #[oQ mg,qo mg,qE mg] 3))=>show (Instr.lookup 203 (.map (some hm)) (ah 1) false).run prog W = .ok (qo mg).val W from U6 underlying203 underlying3 W _ 3 1 hm h (UY mg) .nilFunc (by kernel_rfl));simp only [qo] at kG;have dH:=bx (qL.o WO.drew (jg WO 1));have aX:=bx (show ak WO WO.drew from jg WO 1);clear hkz;refine jl 14 (λW'=>ay W' Bg 0=some (aA mg)/\ay W' mg 10=some (.map (some hm))/\ay W' mg 9=some (ah 1)/\W'.heap[hm]?=some (.map #[oQ mg,qo mg,qE mg] 3)) (by kernel_rfl) ?_;generalize WO.drew=WR at dH aX ⊢;refine jB [0,1,2,3,4,5,6,7,8,9,10,11] ?_
   iterate 12 (refine jA ?_ rfl dH.o ?_ ?_;rotate_left;·rintro w ⟨q1,q2,q3,q4⟩;have hlk:=kG.o w q4;go_simp;try with_reducible rfl)
   refine jr ?_;refine kP 12 rfl λKK au=>?_
   go_simp;refine aP (asE _ (U.textOf y) WR hy1) ?_;have bU:=bx (Below.refl WR.heap.size WR);have lS:=bx (qL.o WR (bt aX.o bU.o));refine au.out _ _ (λ_=>lS.o) ?_;clear au KK;refine kS 13 ?_ rfl lS.o ?_ ?_;rotate_left
   ·rintro w ⟨q1,q2,q3,q4⟩;have hlk:=kG.o w q4;go_simp;try with_reducible rfl
   refine kP 14 rfl λKK au=>?_
   go_simp;refine au.out _ _ (λh=>by cases h) ?_;clear au KK;refine kD ?_ _;clear hadd;have jR:=bx (bt aX.o bU.o);have hy0:=HY.o w1.heap.size _ (k+1,S1) WO WR hws (bP hsz.o jR.o.size) hj.o (Turns.of_below jR.o) ⟨_,HIS.o⟩;simp only at hy0;rw [show ((k+1:Nat):Int)=(k:Int)+1 from by omega] at hy0;obtain⟨fn,tmps,assign,body,hy,lT⟩:=hy0;have rV:=bx lT;clear lT
   gi_wp2
   refine rV.o.mono ?_;rintro e W3 (⟨rfl,hj3,ht3⟩ | ⟨rfl,hx3⟩)
   ·have sK:=bx hj3;have hwd:=jR.o.size;have hso:=hsz.o;have HB3:=bx (show Below ob W0 W3 from hbr.o.trans ((jR.o.mono (by have:=hbr.o.size;have:=Bd.o;omega)).trans (ht3.below (by have:=hbr.o.size;have:=Bd.o;omega) (λq hq=>Nat.le_of_not_lt (λhlt=>hq (.inl (.inl hlt)))))));have F6:=bx (ht3.blk (hmx.o.below jR.o hmx.o.lt) (λhn=>hn (.inl (.inr rfl))));have iw:=bx (show ∀ (i:Nat) (x:List UInt8),(ls.map U.textOf)[i]?=some x->cg<W3.heap.size/\W1.heap.size<=cg/\cg<w1.heap.size/\W3.cell? ⟨cg,kN+i,none⟩=some (.string (bs x)) from λi x hx=>by
     obtain⟨a1,a2,a3,a4⟩:=hcr.o i x hx;refine⟨fC a3 (bP (bP hso hwd) ht3.size),a2,a3,?_⟩;exact(World.cell?_of_block (ht3.block cg (fC a1 hwd) (λhn=>hn (.inr (.inl ⟨a2,a3⟩))))).trans ((jR.o.cell (p:=⟨cg,kN+i,none⟩) a1).trans a4))
    have aS:=bx (show w1.heap.size<=W3.heap.size from bP (bP hso hwd) ht3.size);clear hj3 ht3 hy hwd hso
    gi_wp2
    go_roundw
    ·exact⟨k+1,by omega,by rw [<- eG.o],by go_num,aS,HB3,F6,iw,by rw [HIT.o];exact sK⟩
    simp [intOf];omega
   have pG:=bx hx3;clear hx3 hy
   gi_wp2
   rw [Exit.noGoto_normal]
   go_end0
   exact⟨⟨_,rfl⟩, .inr ⟨_,_,pG.o⟩⟩
  skip
  have OH:=bx hkz;have lF:=bx (show C.meas g y=C.iq g.w y by unfold C.meas;rw [hkz];rfl);have hadd:IntKind.i64.wrap (S0+C.iq g.w y)=S1:=by
   have hS:=dK.o;rw [lF.o] at hS;rw [yC];have:=oK.o;omega
  have qL:=bx (λW (h:ak WO W)=>show ay W Bg 0=some (aA mg)/\ay W mg 10=some (.map (some hm))/\ay W mg 9=some (ah 2)/\W.heap[hm]?=some (.map #[oQ mg,qo mg,qE mg] 3) from by
   obtain⟨a1,a2,a3,a4⟩:=D7.o W h;rw [OH.o] at a3;exact⟨a1,a2,a3,a4⟩)
  have kG:=bx (λW (h:W.heap[hm]?=some (.map #[oQ mg,qo mg,qE mg] 3))=>show (Instr.lookup 203 (.map (some hm)) (ah 2) false).run prog W = .ok (qE mg).val W from U6 underlying203 underlying3 W _ 3 2 hm h (UY mg) .nilFunc (by kernel_rfl));simp only [qE] at kG;have dH:=bx (qL.o WO.drew (jg WO 1));have aX:=bx (show ak WO WO.drew from jg WO 1);clear hkz;refine jl 14 (λW'=>ay W' Bg 0=some (aA mg)/\ay W' mg 10=some (.map (some hm))/\ay W' mg 9=some (ah 2)/\W'.heap[hm]?=some (.map #[oQ mg,qo mg,qE mg] 3)) (by kernel_rfl) ?_;generalize WO.drew=WR at dH aX ⊢;refine jB [0,1,2,3,4,5,6,7,8,9,10,11] ?_
  iterate 12 (refine jA ?_ rfl dH.o ?_ ?_;rotate_left;·rintro w ⟨q1,q2,q3,q4⟩;have hlk:=kG.o w q4;go_simp;try with_reducible rfl)
  refine jr ?_;refine kP 12 rfl λKK au=>?_
  go_simp;refine aT (oD.o WR aX.o) λw5 hb5=>?_
  have bU:=bx hb5;have lS:=bx (qL.o w5 (bt aX.o bU.o));clear hb5;refine au.out _ _ (λ_=>lS.o) ?_;clear au KK;refine kS 13 ?_ rfl lS.o ?_ ?_;rotate_left
  ·rintro w ⟨q1,q2,q3,q4⟩;have hlk:=kG.o w q4;go_simp;try with_reducible rfl
  refine kP 14 rfl λKK au=>?_
  go_simp;refine au.out _ _ (λh=>by cases h) ?_;clear au KK;refine kD ?_ _;clear hadd;have jR:=bx (bt aX.o bU.o);have hy0:=HY.o w1.heap.size _ (k+1,S1) WO w5 hws (bP hsz.o jR.o.size) hj.o (Turns.of_below jR.o) ⟨_,HIS.o⟩;simp only at hy0;rw [show ((k+1:Nat):Int)=(k:Int)+1 from by omega] at hy0;obtain⟨fn,tmps,assign,body,hy,lT⟩:=hy0;have rV:=bx lT;clear lT
  gi_wp2
  refine rV.o.mono ?_;rintro e W3 (⟨rfl,hj3,ht3⟩ | ⟨rfl,hx3⟩)
  ·have sK:=bx hj3;have hwd:=jR.o.size;have hso:=hsz.o;have HB3:=bx (show Below ob W0 W3 from hbr.o.trans ((jR.o.mono (by have:=hbr.o.size;have:=Bd.o;omega)).trans (ht3.below (by have:=hbr.o.size;have:=Bd.o;omega) (λq hq=>Nat.le_of_not_lt (λhlt=>hq (.inl (.inl hlt)))))));have F6:=bx (ht3.blk (hmx.o.below jR.o hmx.o.lt) (λhn=>hn (.inl (.inr rfl))));have iw:=bx (show ∀ (i:Nat) (x:List UInt8),(ls.map U.textOf)[i]?=some x->cg<W3.heap.size/\W1.heap.size<=cg/\cg<w1.heap.size/\W3.cell? ⟨cg,kN+i,none⟩=some (.string (bs x)) from λi x hx=>by
    obtain⟨a1,a2,a3,a4⟩:=hcr.o i x hx;refine⟨fC a3 (bP (bP hso hwd) ht3.size),a2,a3,?_⟩;exact(World.cell?_of_block (ht3.block cg (fC a1 hwd) (λhn=>hn (.inr (.inl ⟨a2,a3⟩))))).trans ((jR.o.cell (p:=⟨cg,kN+i,none⟩) a1).trans a4))
   have aS:=bx (show w1.heap.size<=W3.heap.size from bP (bP hso hwd) ht3.size);clear hj3 ht3 hy hwd hso
   gi_wp2
   go_roundw
   ·exact⟨k+1,by omega,by rw [<- eG.o],by go_num,aS,HB3,F6,iw,by rw [HIT.o];exact sK⟩
   simp [intOf];omega
  have pG:=bx hx3;clear hx3 hy
  gi_wp2
  rw [Exit.noGoto_normal]
  go_end0
  exact⟨⟨_,rfl⟩, .inr ⟨_,_,pG.o⟩⟩
 obtain rfl:k=Q:=by omega
 have Bz:=bx (show (C.sums g ls).take k=C.sums g ls from gq (by rw [C.JL,HQ.o];exact bK _));rw [Bz.o] at hj;have e20:decide ((k:Int)<(k:Int))=false:=dh (by omega)
 gi_wp2
 rw [Exit.noGoto_normal]
 go_end0
 exact⟨⟨_,rfl⟩, .inl ⟨_,_,rfl,hj.o⟩⟩
namespace C
def Jg (pre:List (Nat×Int)):Int:=pre.foldl (λ_ x=>x.2) 0
theorem abu (pre:List (Nat×Int)) (x:Nat×Int):Jg (pre++[x])=x.2:=by
 unfold Jg;rw [List.foldl_append]
 rfl
theorem asf (g:Ga) (ls:List (List Int)):Jg (sums g ls)=dX g ls ls.length:=by
 cases hl:ls.length with
 | zero =>
  have:sums g ls=[]:=nR (by rw [JL,hl]);rw [this]
  rfl
 | succ k =>
  have h:=acS g ls (i:=k) (by omega);rw [gq (by rw [JL];omega)] at h;rw [h,abu]
end C
theorem avM (w:World) (cs cs1 cs2:Array Value) (T0 T1 T2:TypeId) (W:World) (hW:W=((w.alloc (.cells cs T0)).alloc (.cells cs1 T1)).alloc (.cells cs2 T2)) :
  aC W w.heap.size T0 cs/\aC W (w.heap.size+1) T1 cs1/\aC W (w.heap.size+1+1) T2 cs2/\ak w W/\W.heap.size=w.heap.size+3:=by
 rw [hW];exact three w cs cs1 cs2 T0 T1 T2
theorem ag7 (A:Nat->Addr) (B mg hm:Nat) (pi pb rv nv fv iv bv:Value) (g:C.Ga) (s:ByteArray) (ls:List (List Int)) (w:World) (hM:Mt w mg hm pi pb rv nv fv iv bv g) (hs:nN g.t) (hw:rY g.w) (hb:C.jF g=true) (hz:s.size<=800) (hE:E A B w) (hD:Ed A B w) (hG:Eg A B w) (hB:B<=w.heap.size) (hls:C.aO g.t s.data.toList=ls) :
  Calls prog 81 #[aA mg, .string s] w λe w'=>e = .returned (ah (C.dX g ls ls.length))/\ak w w':=by
 have HIT:=bx (λ(W1:World) (l:Nat) (h1:ak w W1) (h2:aC W1 (w.heap.size+1) 118 #[aA mg]) (h3:aC W1 (w.heap.size+1+1) 9 #[.string s])=>aeo 7 A B w.heap.size (w.heap.size+1) (w.heap.size+1+1) mg hm pi pb rv nv fv iv bv g s ls l w W1 rfl h1 hE hD hG hB hM hs hw hb hz h2 h3 hls);have Jt:=bx (C.asf g ls);clear hM hs hw hb hE hD hG hB hls;refine(callsIn_wide (n:=9)).1 (callsIn_of_wp_marks func81 rfl trivial (wpIn_wide.2 ?_));simp only [ntmps81,qH,dY,iG,Nat.reduceAdd,Nat.reduceSub,rE,qW,ou,qQ,iJ,jd];go_wp2_with fail;refine aP (adE _ _ _) ?_;go_wp2_with fail;obtain⟨wL,xQ⟩:∃ W,W=((w.alloc (.cells #[ah 0] 3)).alloc (.cells #[aA mg] 118)).alloc (.cells #[.string s] 9):=⟨_,rfl⟩
 obtain⟨hb0,hb1,hb2,hbL,rU⟩:=avM w _ _ _ _ _ _ wL xQ;rw [<- xQ];have HB0:=bx hb0;have HB1:=bx hb1;have HB2:=bx hb2;have cu:=bx hbL;clear hb0 hb1 hb2 hbL xQ;refine(wpIn_wide (n:=9)).1 (Nz (α:=Nat×Int) (gf:=234) (lb:=#[aA (w.heap.size+1), aA (w.heap.size+1+1)]) rfl (enters_of func234 (by kernel_rfl) rfl)
  (encs:=λx:Nat×Int=>#[ah (x.1:Int), ah x.2]) (own:=λ_=>False) (keep:=λk=>k<w.heap.size\/k=w.heap.size+1) (ok:=λpre x _=>∃ rest,C.sums g ls=pre++x::rest) (S:=λys _=>ys=C.sums g ls)
  (λk hk=>by rcases hk with h | h | h;exact h.elim;omega;omega)
  (λW1 ht=>by
   have hwl:=ht.below aU (λ_ h=>h.elim);exact HIT.o W1 _ (bt cu.o hwl) (HB1.o.below hwl HB1.o.lt) (HB2.o.below hwl HB2.o.lt))
  (λ_=>rfl)
  (λN1 pre W=>aC W w.heap.size 3 #[ah (C.Jg pre)]/\ak w W)
  (λ_ _ _ _=>False) ?hI (λ_ _ _ _ _ h _=>h) (λ_ _ _ _ h _=>h) (λN1 h=>⟨HB0.o,cu.o⟩)
  (λx a1 W=>a1={ tmps:=#[aA mg, .string s,undef,undef, ah 0, aA (w.heap.size),undef, ah x.2, aA mg, .string s, .func (.func 234) #[] #[aA (w.heap.size+1), aA (w.heap.size+1+1)], ah (x.1:Int), ah x.2,undef,undef],defers:=[] })
  (λ_ _ _ _ h _=>h) ?assign ?body ?done (λ_ _ _ _ _ h _=>h.elim) (λ_ _ _ h _=>h))
 case hI =>
  rintro N1 pre W W' ⟨h1,h2⟩ ht;exact⟨ht.blk h1 (by rintro(h | h);exact h;omega),h2.trans (ht.below h2.size (λk hk=>by rcases hk with h | h;exact h.elim;omega))⟩
 case assign =>
  intro x W K hW hK
  gi_wp2
  exact hK _ _ (Turns.refl _ _) rfl
 case body =>
  rintro N1 pre x a1 W0 W N hN1 Ld hW0 ⟨h1,h2⟩ ht hN-rfl;have hb:=ht.blk h1 (by rintro(h | h);exact h;omega);have h2':=h2.trans (ht.below h2.size (λk hk=>by rcases hk with h | h;exact h.elim;omega));have HB:=bx hb;have H2:=bx h2';have c0:ay W w.heap.size 0=some (ah (C.Jg pre)):=(hb.cell 0).trans rfl;have f0:=hb.frozen 0;have l0:=hb.lt;clear h1 h2 hb h2'
  gi_wp2
  have hT:Turns (λk=>k=w.heap.size) W (W.setCell ⟨w.heap.size,0,none⟩ (ah x.2)):=Turns.setCell (own:=λk=>k=w.heap.size) W (p:=⟨w.heap.size,0,none⟩) rfl _;refine⟨hT.mono (λk hk hh=>?_),by rw [C.abu];exact HB.o.bJ 0 _,H2.o.trans (hT.below H2.o.size (λk hk=>by omega))⟩;subst hk
  rcases hh with((h | h) | h | h) | h | h <;> omega
 case done =>
  intro N1 xs W hW hS ⟨h1,h2⟩ hD;have c0:ay W w.heap.size 0=some (ah (C.Jg xs)):=(h1.cell 0).trans rfl;have H2:=bx h2;have HD:=bx hD;have hwl:=rU;have HV:=bx (show C.Jg xs=C.dX g ls ls.length by rw [hS];exact Jt.o);clear h1 h2 hD hS rU;go_wp2_with fail;refine⟨by simp, .inl ⟨_,_,rfl,run_takeDeferred HD.o,?_⟩⟩;refine⟨_,results_tmp rfl _ _ _,?_⟩;exact⟨by rw [<- HV.o];rfl,H2.o.trans ((Turns.putObj (own:=λk=>k=wL.heap.size) W rfl _).below H2.o.size (λk hk=>by omega))⟩
namespace C
theorem agp {g:Ga} {s:List UInt8} (h:jF g=false):kM g s=150:=by
 unfold kM;rw [aG h]
end C
theorem ahS (A:Nat->Addr) (B:Nat) (v:Value) (g:C.Ga) (s:ByteArray) (w:World) (hv:rM w v g) (hs:nN g.t) (hw:rY g.w) (hz:s.size<=800) (hE:E A B w) (hD:Ed A B w) (hG:Eg A B w) (hB:B<=w.heap.size) :
  Calls prog 31 #[v, .string s] w λe w'=>e = .returned (.tuple #[ah (C.bZ g s.data.toList), ah (C.kM g s.data.toList)])/\ak w w':=by
 have BM:=bx (λW (h:ak w W)=>hv.below h);obtain⟨tn,hn⟩:∃ n,n=g.t.n:=⟨_,rfl⟩
 obtain⟨wd,hwd⟩:∃ b,b=g.w.wide:=⟨_,rfl⟩
 obtain⟨gk,hgk⟩:∃ k,k=g.k:=⟨_,rfl⟩
 obtain⟨pi,pb,rv,nv,fv,iv,bv,rfl,h1,h2⟩:=hv;rw [<- hn,<- hwd,<- hgk] at BM;rw [<- hn,<- hwd,<- hgk];obtain⟨V,hV⟩:∃ V,V=w.alloc (.cells #[ah tn,pi,pb,rv,nv,fv,iv,bv, .bool wd, ah gk] 57):=⟨_,rfl⟩
 have HB0:=bx (aB hV);have HK:=bx (aK hV);have aI:=bx (λW (h:ak V W)=>HK.o.d10 h);have HV:=bx hV;have cu:=bx (HB0.o.trans ((dA V (.cells #[.string s, ah 2000] 122)).mono HB0.o.size));have pX:=bx (ai6 V s 2000 122);have Gx:=hB;have hrest:∀ W,ak w W->E A B W/\Ed A B W/\Eg A B W/\B<=W.heap.size:=λW h=>⟨hE.below (h.mono hB),hD.below (h.mono hB),hG.below (h.mono hB),bP hB h.size⟩
 have qF:=bx hrest;have vO:=bx (XZ A B _ (.slice (some ⟨V.heap.size,0,none⟩) 1 1) g [(s,2000)] _ (BM.o _ cu.o) hs hw (hrest _ cu.o).1 (hrest _ cu.o).2.1 (hrest _ cu.o).2.2.1 (hrest _ cu.o).2.2.2);have iM:=bx (Yb A B _ (.slice (some ⟨V.heap.size,0,none⟩) 1 1) g _ (BM.o _ cu.o) hs hw (hrest _ cu.o).1 (hrest _ cu.o).2.1 (hrest _ cu.o).2.2.1 (hrest _ cu.o).2.2.2);have NR:=bx (λW (h:ak w W)=>VD A B 0 (by decide) W (hrest W h).1);obtain⟨k0,k1,k2,k3,k4,k5,k6,k7,k8,k9,kk⟩:=aI.o V aZ;have HCM:=bx (λ(hgb:C.jF g=true) W mg hm pi pb rv nv fv iv bv (h:ak w W) (hM:Mt W mg hm pi pb rv nv fv iv bv g)=>ag7 A B mg hm pi pb rv nv fv iv bv g s _ W hM hs hw hgb hz (hrest W h).1 (hrest W h).2.1 (hrest W h).2.2.1 (hrest W h).2.2.2 rfl)
 cases hgb:C.jF g with
 | false =>
  have HR:=bx (show C.bZ g s.data.toList=0/\C.kM g s.data.toList=150 by
   have h:=C.agp (s:=s.data.toList) hgb;unfold C.bZ;rw [h];exact⟨rfl,rfl⟩)
  rw [HR.o.1,HR.o.2];have iM:=bx (iM.o hgb);clear vO HCM h1 h2 hV hs hw hn hwd hgk hE hD hG hB hgb hrest Gx hz
  go_in
  go_upto_region 1 with(fail)
  rw [<- HV.o];go_wp2_with fail;refine dI iM.o cu.o λw1 HB1=>?_
  have HT1:=bx (NR.o w1 HB1.o);clear k0 k1 k2 k3 k4 k5 k6 k7 k8 k9 kk;unfold oZ at HT1 ⊢;go_wp2_with fail;refine aP HT1.o ?_
  go_wp2
  go_ret2
  exact⟨rfl,HB1.o⟩
 | true =>
  have HR:=bx (show C.bZ g s.data.toList=C.dX g (C.aO g.t s.data.toList) (C.aO g.t s.data.toList).length/\C.kM g s.data.toList=0 by
   have h:=C.nU (s:=s.data.toList) hgb (by rw [<- size_eq];omega);unfold C.bZ;rw [aG h];exact⟨rfl,h⟩)
  rw [HR.o.1,HR.o.2];have HCM:=bx (HCM.o hgb);generalize C.dX g (C.aO g.t s.data.toList) (C.aO g.t s.data.toList).length=res at HCM ⊢;have vO:=bx (vO.o hgb pX.o (by simp) (by intro x hx;rw [fU.1 hx];show (s.size:Int)<=2000;omega));clear iM h1 h2 hV hs hw hn hwd hgk hE hD hG hB hrest Gx
  go_in
  go_upto_region 1 with(fail)
  rw [<- HV.o];go_wp2_with fail;refine vO.o.mono ?_;rintro e w1 ⟨⟨mg,hm,zf,pb',rv',yU,zi,uG,vJ,rfl,hM⟩,hb1⟩;have HB1:=aJ cu hb1;have pF:=bx hM;clear hb1 hM k0 k1 k2 k3 k4 k5 k6 k7 k8 k9 kk;have pU:=bx (HCM.o w1 mg hm zf pb' rv' yU zi uG vJ HB1.o pF.o);clear HCM;go_wp2_with fail;refine dI pU.o HB1.o λw2 HB2=>?_
  go_wp2
  go_ret2
  exact⟨rfl,HB2.o⟩
namespace C
theorem aaR (g:Ga) (s:List UInt8) (h:kM g s=0) (k:Nat):(((bf g.t s).take k).flatten).length<=3*s.length:=by
 obtain⟨h1,h2⟩:=TS h;have e:(bf g.t s).flatten=M.fix s:=by
  unfold bf;rw [aG (wG h1 h2),abl (qg g.t s).2,Jc]
 have h3:((bf g.t s).take k).flatten++((bf g.t s).drop k).flatten=(bf g.t s).flatten:=by rw [<- rH,oN]
 have h4:=congrArg List.length h3;rw [bC,e] at h4;have h5:=qJ s;omega
end C
namespace C
theorem arG {xs:List Int} {ns:List Nat} (hr:wS xs.length ns):places xs ns=(items xs ns).map (·.1)++[(U.textOf xs).length]:=by
 have hn:=hr.ne;have hl:=aiW (xs:=xs) hr;refine List.ext_getElem (by rw [IQ,bC,aV,Fp];simp;omega) (λi h1 h2=>?_);rw [IQ] at h1;have e1:(places xs ns)[i]'(by rw [IQ];exact h1)=(places xs ns).getD i 0:=by rw [fO,dW (by rw [IQ];exact h1),jE]
 rw [e1]
 by_cases hi:i+1<ns.length
 ·have e2:=UJ xs ns hi;rw [List.getElem_append_left (by rw [aV,Fp];omega),List.getElem_map,CZ xs ns (by omega)];rw [dW (by rw [Fp];omega)] at e2;injection e2 with e2;rw [e2]
 have e3:i=ns.length-1:=by omega
 subst e3;rw [List.getElem_append_right (by rw [aV,Fp];omega),hl];simp
end C
open Go.Shelf
def yK (ob:Nat) (W0:World) (v:Value) (l:List Int):List Pc:=Pc.blk ob 22 #[v]::ED ob W0 v l
theorem ahV {ob:Nat} {W0 W W':World} {v:Value} {l:List Int} {own:Nat->Prop} (h:Sep (yK ob W0 v l) W) (ht:Turns own W W') (h1:¬ own ob) (h2:∀ g,v.ownBlock=some g->¬ own g) (h3:∀ k,k<ob->¬ own k):Sep (yK ob W0 v l) W':=h.keep ht (λp hp k hk=>by
 unfold yK ED at hp;simp only [fB,qV,or_false] at hp
 rcases hp with rfl | rfl | rfl
 ·rw [show k=ob from hk];exact h1
 ·exact h2 k hk
 exact h3 k hk)
theorem asz (A:Nat->Addr) (B:Nat) (v:Value) (t:Tab) (s:ByteArray) (w:World) (hv:TabAt w v t) (hs:nN t) (hz:s.size<=800) (hE:E A B w) (hD:Ed A B w) (hG:Eg A B w) (hB:B<=w.heap.size) (he:textE t s.data.toList=0) :
  Calls prog 94 #[v, .string s] w λe w'=>(∃ v',e = .returned (.tuple #[v', ah 0])/\aN w' v' ((C.BD t s.data.toList).map λn:Nat=>(n:Int)))/\ak w w':=by
 have gG:=bx (λW (h:ak w W)=>hv.below h);obtain⟨pi,pb,rv,nv,fv,rfl,h1,h2,h3,h4,h5⟩:=hv;obtain⟨V,hV⟩:∃ V,V=w.alloc (.cells #[ah t.n,pi,pb,rv,nv,fv] 31):=⟨_,rfl⟩
 have HB0:=bx (aB hV);have HK:=bx (aK hV);have aI:=bx (λW (h:ak V W)=>HK.o.d6 h);have HV:=bx hV;have nG:=bx hs;have jW:=bx (λW (h:ak w W)=>show E A B W/\Ed A B W/\Eg A B W/\B<=W.heap.size from⟨hE.below (h.mono hB),hD.below (h.mono hB),hG.below (h.mono hB),bP hB h.size⟩);have HO:=bx (Vk A B _ t s V (gG.o V HB0.o) hs (by omega) (jW.o V HB0.o).1 (jW.o V HB0.o).2.1 (jW.o V HB0.o).2.2.1 (jW.o V HB0.o).2.2.2 he);have GL:=bx (λW (h:ak w W)=>show iD W rv t.r/\tZ W (.agg #[nv,fv]) t.m from⟨h3.below h,nv,fv,rfl,h4.below h,h5.below h⟩);have HSL:=bx (show (jU t.p (dF s.data.toList)).length<=900 by unfold jU;rw [aV];have:=uJ s.data.toList;rw [<- size_eq] at this;omega);have Gm:=bx (show xI t.r t.m t.n=true by
  have h:=(Rz he).1;unfold nD at h;rw [dD] at h;exact h.1)
 have Jb:=bx (show Af t.r t.m t.n.toNat (jU t.p (dF s.data.toList))=(dZ t s.data.toList).map (λn:Nat=>(n:Int)) from(qg t s.data.toList).1);have jX:=bx (qg t s.data.toList).2;have BG:=bx (Dx s.data.toList);have FU:=bx (C.Jc s.data.toList);have lG:=bx (show (M.fix s.data.toList).length<=8000 by have:=C.qJ s.data.toList;rw [<- size_eq] at this;omega);have lu:=bx (show (C.BD t s.data.toList).map (λn:Nat=>(n:Int))=(C.items (dF s.data.toList) (dZ t s.data.toList)).map (λy=>(y.1:Int))++[((M.fix s.data.toList).length:Int)] by
  unfold C.BD;rw [aG he,C.arG (qg t s.data.toList).2,gX,EX,<- C.Jc]
  rfl)
 have zq:=bx (show (C.items (dF s.data.toList) (dZ t s.data.toList)).length<=1000000 by
  rw [C.Fp];have h1:=(qg t s.data.toList).2.len;have h2:=uJ s.data.toList;rw [<- size_eq] at h2;omega)
 clear h1 h2 h3 h4 h5 hV hs he hE hD hG hB;obtain⟨tn,hn⟩:∃ n,n=t.n:=⟨_,rfl⟩
 rw [<- hn] at HV HK gG aI HO Gm Jb ⊢;clear hn;obtain⟨k0,k1,k2,k3,k4,k5,kk⟩:=aI.o V aZ;refine(callsIn_wide (n:=9)).1 (callsIn_of_wp_marks func94 rfl trivial (wpIn_wide.2 ?_));simp only [ntmps94,qH,dY,iG,Nat.reduceAdd,Nat.reduceSub,rE,qW,ou,qQ,iJ,jd]
 go_upto_region 1 with(fail)
 rw [<- HV.o];go_wp2_with fail;refine HO.o.mono ?_;rintro e w1 ⟨zf,pb',rv',yU,zi,pg,ov,BR,rfl,hbk,hov,hb1⟩;obtain⟨rfl,rfl,rfl,rfl,rfl⟩:pi=zf/\pb=pb'/\rv=rv'/\nv=yU/\fv=zi:=by simpa using BR
 have dn:=bx hbk;have Vp:=bx hov;have HB1:=aJ HB0 hb1;clear BR hbk hov hb1 k0 k1 k2 k3 k4 k5 kk;go_wp2_with fail;refine aP (ac0 _ _) ?_;go_wp2_with fail;have bQ:=bx (show Sep (Pc.blk (w1.heap.size+1) 142 #[aA pg]::yK w1.heap.size w1 (aj) []) ((w1.alloc (.cells #[aj] 22)).alloc (.cells #[aA pg] 142)) by
  have h:=((Sep.start w1).eu 22 #[aj]).kV w1.heap.size 1 3;have h2:=(Sep.perm (List.Perm.swap _ _ _) h).eu 142 #[aA pg];rw [World.size_alloc] at h2;exact h2)
 have rU:((w1.alloc (.cells #[aj] 22)).alloc (.cells #[aA pg] 142)).heap.size=w1.heap.size+2:=by simp
 generalize (w1.alloc (.cells #[aj] 22)).alloc (.cells #[aA pg] 142)=wL at bQ rU ⊢;have dU:=bx rU;have cu:=bx (show ak w1 wL from bQ.o.tail.bel (n:=w1.heap.size) (W0:=w1) (by simp [yK,ED]));have bM:=bx (bt HB1.o cu.o);have hbz:=dn.o.lt;have Ut:=HB1.o.size;have Wq:=bx (jW.o w1 HB1.o).2.2.2;refine(wpIn_wide (n:=9)).1 (Nz (α:=Nat×List UInt8) (gf:=157) (lb:=#[aA (w1.heap.size+1)]) rfl (enters_of func157 (by kernel_rfl) rfl)
  (encs:=λx:Nat×List UInt8=>#[ah (x.1:Int), .string (bs x.2)]) (own:=λ_=>False) (keep:=λk=>k<wL.heap.size/\k≠w1.heap.size) (ok:=λpre x _=>∃ rest,C.items (dF s.data.toList) (dZ t s.data.toList)=pre++x::rest) (S:=λys _=>ys=C.items (dF s.data.toList) (dZ t s.data.toList))
  (λk hk=>by rcases hk with h | h;exact h.elim;exact h.1)
  (λW1 ht=>by
   have hwl:=ht.below aU (λ_ h=>h.elim);have hbw:=bt bM.o hwl;have JO:=bt cu.o hwl;have hcut:=Zr A B pg tn pi pb rv nv fv (.string (bs (M.fix s.data.toList))) ov t.r t.m _ W1 (dn.o.below JO dn.o.lt) (GL.o W1 hbw).1 nG.o.r1 nG.o.r2 (GL.o W1 hbw).2 nG.o.m (Vp.o.below JO) HSL.o (jW.o W1 hbw).2.1 (jW.o W1 hbw).2.2.1 (jW.o W1 hbw).2.2.2 Gm.o;rw [Jb.o] at hcut;exact abg 7 A B w1.heap.size wL.heap.size (w1.heap.size+1) pg _ _ _ _ _ _ _ _ _ _ _ W1 ht.size Wq.o (by omega) (jW.o W1 hbw).1 ((bQ.o.blk 0 rfl).below hwl (bQ.o.blk 0 rfl).lt) (dn.o.below JO dn.o.lt) ⟨by omega,by omega,by omega,by omega⟩ hcut FU.o BG.o jX.o lG.o)
  (λ_=>rfl)
  (λN1 pre W=>∃ v,Sep (yK w1.heap.size w1 v (pre.map (λy=>(y.1:Int)))) W/\(∀ g,v.ownBlock=some g->N1<=g)/\wL.heap.size+2<=N1)
  (λ_ _ _ _=>False) ?hI (λ_ _ _ _ _ h _=>h) (λ_ _ _ _ h _=>h) (λN1 h=>⟨aj,bQ.o.tail,λg hg=>(by cases hg),h⟩)
  (λx a1 W=>a1={ tmps:=#[.agg #[ah tn,pi,pb,rv,nv,fv], .string s, aA (w.heap.size),undef, aj, ah 0, aA pg, .nilIface, aA (w1.heap.size), ah (x.1:Int), .tuple #[aA pg, .nilIface], .agg #[ah tn,pi,pb,rv,nv,fv], .string s, .tuple #[aA pg, .nilIface], aA pg, .nilIface, .nilIface, .bool false,undef,undef, aA pg, .func (.func 157) #[] #[aA (w1.heap.size+1)], ah (x.1:Int), .string (bs x.2),undef,undef,undef,undef,undef,undef,undef,undef,undef,undef,undef,undef],defers:=[] })
  (λ_ _ _ _ h _=>h) ?assign ?body ?done (λ_ _ _ _ _ h _=>h.elim) (λ_ _ _ h _=>h))
 case hI =>
  rintro N1 pre W W' ⟨v,h1,h2,h3⟩ ht;exact⟨v,ahV h1 ht (by rintro(h | h);exact h;omega) (λg hg=>by have:=h2 g hg;rintro(h | h);exact h;omega) (λk hk=>by rintro(h | h);exact h;omega),h2,h3⟩
 case assign =>
  intro x W K hW hK
  gi_wp2
  exact hK _ _ (Turns.refl _ _) rfl
 case body =>
  rintro N1 pre x a1 W0 W N hN1 Ld hW0 ⟨v,h1,h2,h3⟩ ht hN ⟨rest,hok⟩ rfl;have hts:=ht.size;have hlt1:∀ g,v.ownBlock=some g->g<W0.heap.size:=λg hg=>((h1.row 1 rfl).lt g hg).2
  have oK:=bx (ahV h1 ht (by rintro(h | h);exact h;omega) (λg hg=>by have:=h2 g hg;rintro(h | h);exact h;omega) (λk hk=>by rintro(h | h);exact h;omega));have HH:=bx (λg hg=>show N1<=g/\g<W0.heap.size from⟨h2 g hg,hlt1 g hg⟩);have c0:ay W w1.heap.size 0=some v:=((oK.o.blk 0 rfl).cell 0).trans rfl;have f0:=(oK.o.blk 0 rfl).frozen 0;have l0:=(oK.o.blk 0 rfl).lt;have hln:(pre.map (λy=>(y.1:Int))).length<=1000000000:=by
   have h:=zq.o;rw [hok,bC,dY] at h;rw [aV];omega
  have nX:=bx hok;have HT0:=bx ht;clear h1 h2 ht hok hlt1
  gi_wp2_with (gi_at_builtin;refine ady (u:=ah (x.1:Int)) rfl _ _ 22 rfl yO oK.o 1 rfl rfl rfl rfl hln (by omega) (by omega) ?_;rintro v' w3 hS3 ⟨g',c',rfl,-,-⟩ GX Np;have aS:=bx hS3;have HT3:=bx GX;have U7:=bx Np;have c3:w3.cell? ⟨w1.heap.size,0,none⟩=some v:=((hS3.blk 0 rfl).cell 0).trans rfl;have f3:=(hS3.blk 0 rfl).frozen 0;have l3:=(hS3.blk 0 rfl).lt;clear hS3 GX Np)
  have hT:=(HT3.o.mono (own':=λk=>v.ownBlock=some k\/k=w1.heap.size) (λk h=>Or.inl h)).trans ((Turns.setCell (own:=λq=>q=w1.heap.size) w3 (p:=⟨w1.heap.size,0,none⟩) rfl (.slice (some ⟨g',0,none⟩) (pre.length+1) c')).mono (λk h=>Or.inr h));refine⟨hT.mono (λk hk hh=>?_), .slice (some ⟨g',0,none⟩) ((pre.map (λy=>(y.1:Int))).length+1) c',?_,λg hg=>?_,h3⟩
  ·rcases hk with hk | hk
   ·have h9:=HH.o k hk
    rcases hh with(h | h | h) | h | h <;> omega
   subst hk
   rcases hh with(h | h | h) | h | h
   ·exact h.2 rfl
   all_goals omega
  ·have h:=aS.o.set 0 rfl 0 (.slice (some ⟨g',0,none⟩) (pre.length+1) c');have e:(pre++[x]).map (λy=>(y.1:Int))=pre.map (λy=>(y.1:Int))++[(x.1:Int)]:=by simp
   rw [e];unfold yK ED;rw [bC,gX];simp only [aV,dY,iG] at h ⊢;exact h
  rcases U7.o with h | h
  ·rw [h] at hg;exact(HH.o g hg).1
  rw [h] at hg;injection hg with hg;omega
 case done =>
  intro N1 xs W hW hS ⟨v,h1,h2,h3⟩ hD;have c0:ay W w1.heap.size 0=some v:=((h1.blk 0 rfl).cell 0).trans rfl;have HD:=bx hD;have HW:=bx (show Sep (yK w1.heap.size w1 v ((C.items (dF s.data.toList) (dZ t s.data.toList)).map (λy=>(y.1:Int)))) W by
   rw [<- hS];exact h1)
  have H2:=bx h2;clear h1 h2 hD hS;have lK:=bx (HW.o.tail.bel (n:=w1.heap.size) (W0:=w1) (by simp [ED]));have dP:=bx (show Sep (Pc.obj wL.heap.size (.deferred (some []))::yK w1.heap.size w1 v ((C.items (dF s.data.toList) (dZ t s.data.toList)).map (λy=>(y.1:Int)))) W.drew from Sep.drew (ps:=Pc.obj wL.heap.size (.deferred (some []))::yK w1.heap.size w1 v _) ⟨HD.o,λq hq k hk hqk=>by
   have hk:k=wL.heap.size:=hk;unfold yK ED at hq;simp only [fB,qV,or_false] at hq
   rcases hq with rfl | rfl | rfl
   ·have:k=w1.heap.size:=hqk;omega
   ·have:=H2.o k hqk;omega
   have:k<w1.heap.size:=hqk;omega,HW.o⟩)
  have Ij:=bx (show aC W.drew pg 218 #[ah tn,pi,pb,rv,nv,fv, .string (bs (M.fix s.data.toList)),ov] from(dn.o.below lK.o dn.o.lt).below (jg W 1) (dn.o.below lK.o dn.o.lt).lt);have hbs:w1.heap.size<=W.drew.heap.size:=(dP.o.bel (n:=w1.heap.size) (W0:=w1) (by simp [yK,ED])).size;have qL:=bx (λ(W':World) (h:Below W.drew.heap.size W.drew W')=>show ay W' w1.heap.size 0=some v/\ay W' pg 6=some (.string (bs (M.fix s.data.toList))) from⟨(h.cell (p:=⟨w1.heap.size,0,none⟩) (dP.o.blk 1 rfl).lt).trans (((dP.o.blk 1 rfl).cell 0).trans rfl),(h.cell (p:=⟨pg,6,none⟩) Ij.o.lt).trans ((Ij.o.cell 6).trans rfl)⟩);have dH:=bx (qL.o W.drew aZ);have qB:=bx (show ((C.items (dF s.data.toList) (dZ t s.data.toList)).map (λy=>(y.1:Int))).length<=1000000000 by rw [aV];have:=zq.o;omega);have z1:(bs (M.fix s.data.toList)).size=(M.fix s.data.toList).length:=dN _;generalize (C.items (dF s.data.toList) (dZ t s.data.toList)).map (λy=>(y.1:Int))=acc at lu HW dP qB;clear c0 rU;go_wp2_with fail;refine jl 9 (λW'=>ay W' w1.heap.size 0=some v/\ay W' pg 6=some (.string (bs (M.fix s.data.toList)))) (by kernel_rfl) ?_;generalize W.drew=WR at dP Ij hbs qL dH ⊢;refine jB [0,1,2,3,4,5] ?_
  iterate 6 (refine jA ?_ rfl dH.o ?_ ?_;rotate_left;·rintro w ⟨q1,q2⟩;go_simp;try with_reducible rfl)
  refine jr ?_;refine kP 6 rfl λKK au=>?_
  go_simp;refine au.out _ _ (λ_=>qL.o _ (dA WR _)) ?_;clear au KK;refine kP 7 rfl λKK au=>?_
  refine KU (u:=ah ((M.fix s.data.toList).length:Int)) rfl _ _ 22 rfl yO dP.o 2 rfl rfl (by kernel_rfl) rfl qB.o (by omega) hbs ?_;rintro v6 w6 hS6 -;have dV:=bx hS6;have eY:=bx (hS6.bel (n:=w1.heap.size) (W0:=w1) (by simp [yK,ED]));have HF6:=bx (show w6.cell? ⟨w1.heap.size,0,none⟩=some v/\w6.cell? ⟨pg,6,none⟩=some (.string (bs (M.fix s.data.toList))) from⟨((hS6.blk 1 rfl).cell 0).trans rfl,((dn.o.below eY.o dn.o.lt).cell 6).trans rfl⟩);clear hS6;refine au.out _ _ (λ_=>HF6.o) ?_;clear au KK;refine kP 8 rfl λKK au=>?_
  go_simp;refine au.out _ _ (λ_=>HF6.o) ?_;clear au KK;refine kP 9 rfl λKK au=>?_
  go_simp;refine au.out _ _ (λh=>by cases h) ?_;clear au KK;refine kD ?_ _;go_wp2_with fail;have hd6:w6.heap[wL.heap.size]?=some (.deferred (some [])):=dV.o.at' 0 rfl;refine⟨by simp, .inl ⟨_,_,rfl,run_takeDeferred hd6,?_⟩⟩;refine⟨_,results_tmp2 rfl _ _ _,?_⟩;have CO:Turns (λk=>k=wL.heap.size) w6 (w6.putObj wL.heap.size (.deferred none)):=Turns.putObj (own:=λk=>k=wL.heap.size) w6 rfl (.deferred none);have mF:=dV.o.tail.keep CO (λq hq k hk e=>dV.o.2.1 q hq k e hk);have hI9:aN (w6.putObj wL.heap.size (.deferred none)) v6 (acc++[((M.fix s.data.toList).length:Int)]):=aN.iy (n:=acc.length+1) (T:=3) (base:=w1.heap.size) (by
   have h:=mF.row 1 rfl;rw [gX];exact h) (by simp)
  exact⟨⟨_,rfl,by rw [lu.o];exact hI9⟩,HB1.o.trans ((mF.bel (n:=w1.heap.size) (W0:=w1) (by simp [yK,ED])).mono HB1.o.size)⟩
theorem ag5 (A:Nat->Addr) (B:Nat) (v:Value) (t:Tab) (s:ByteArray) (a:Int) (w:World) (hv:TabAt w v t) (hs:nN t) (hz:s.size<=800) (hE:E A B w) (hD:Ed A B w) (hG:Eg A B w) (hB:B<=w.heap.size) (he:textE t s.data.toList=0) :
  Calls prog 37 #[v, .string s, ah a] w λe w'=>e = .returned (.tuple #[.bool (C.isA t s.data.toList a), ah 0])/\ak w w':=by
 have gG:=bx (λW (h:ak w W)=>hv.below h);obtain⟨pi,pb,rv,nv,fv,rfl,h1,h2,h3,h4,h5⟩:=hv;obtain⟨V,hV⟩:∃ V,V=w.alloc (.cells #[ah t.n,pi,pb,rv,nv,fv] 31):=⟨_,rfl⟩
 have HB0:=bx (aB hV);have HK:=bx (aK hV);have aI:=bx (λW (h:ak V W)=>HK.o.d6 h);have HV:=bx hV;have jq:=bx (asz A B _ t s V (gG.o V HB0.o) hs hz (hE.below (HB0.o.mono hB)) (hD.below (HB0.o.mono hB)) (hG.below (HB0.o.mono hB)) (bP hB HB0.o.size) he);have HIS:=bx (show C.isA t s.data.toList a=((C.BD t s.data.toList).map (λn:Nat=>(n:Int))).any (·==a) by unfold C.isA;rw [List.any_map];rfl);have hpl:=awS t s.data.toList;rw [<- size_eq,<- aV (f:=λn:Nat=>(n:Int))] at hpl;generalize (C.BD t s.data.toList).map (λn:Nat=>(n:Int))=ps at jq HIS hpl;generalize C.isA t s.data.toList a=res at HIS ⊢;have HIM:=bx (show decide (a∈ps)=res by
  rw [HIS.o,ny,decide_eq_true_iff,zO];exact⟨λh=>⟨a,h,by simp⟩,λ⟨x,h,e⟩=>by rw [lN] at e;rw [<- e];exact h⟩)
 obtain⟨tn,hn⟩:∃ n,n=t.n:=⟨_,rfl⟩
 rw [<- hn] at HV HK gG aI jq ⊢;clear h1 h2 h3 h4 h5 hV hs hn hE hD hG hB he;obtain⟨k0,k1,k2,k3,k4,k5,kk⟩:=aI.o V aZ
 go_in
 go_upto_region 1 with(fail)
 rw [<- HV.o];go_wp2_with fail;refine jq.o.mono ?_;rintro e w1 ⟨⟨v1,rfl,hv1⟩,hb1⟩;have oD:=bx (arj v1 ps a w1 hv1 (by omega));have HB1:=aJ HB0 hb1;clear hb1 hv1 k0 k1 k2 k3 k4 k5 kk;go_wp2_with fail;refine aP oD.o ?_
 go_wp2
 go_ret2
 exact⟨Nw (ai1 HIM.o) rfl,HB1.o⟩
end Go.Proofs.YtdponihkpomheaaGreatDoor
