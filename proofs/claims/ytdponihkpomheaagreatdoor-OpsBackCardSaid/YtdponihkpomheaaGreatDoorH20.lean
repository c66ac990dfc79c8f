/- Texts of this claim. -/
import Derived.Test.YtdponihkpomheaaGreatDoorH19

set_option maxRecDepth 100000
set_option maxHeartbeats 16000000
namespace Go.Proofs.YtdponihkpomheaaGreatDoor
open Go.RowKit
attribute [local go_sem] Oper.semAt_some
open Tryz
theorem acO (A:Nat->Addr) (B:Nat) (v:Value) (t:Tab) (s:ByteArray) (w:World) (hv:TabAt w v t) (hs:nN t) (hz:s.size<=100000) (hD:Ed A B w) (hG:Eg A B w) (hB:B<=w.heap.size) (he:textE t s.data.toList≠0) :
  Calls prog 86 #[v, .string s] w λe w'=>e = .returned (.tuple #[.pointer none, .iface 320 (.agg #[ah 0, ah (textE t s.data.toList)])])/\ak w w':=by
 have gG:=bx (λW (h:ak w W)=>hv.below h);obtain⟨pi,pb,rv,nv,fv,rfl,h1,h2,h3,h4,h5⟩:=hv;obtain⟨V,hV⟩:∃ V,V=w.alloc (.cells #[ah t.n,pi,pb,rv,nv,fv] 31):=⟨_,rfl⟩
 have HB0:=bx (aB hV);have HK:=bx (aK hV);have aI:=bx (λW (h:ak V W)=>HK.o.d6 h);have HV:=bx hV;have jX:=bx (NQ A B _ t V (gG.o V HB0.o) hs (hD.below (HB0.o.mono hB)) (hG.below (HB0.o.mono hB)) (bP hB HB0.o.size));have JU:=bx (λn (hn:n≠0) W=>afz 0 n hn W);have iP:=bx (show textE t s.data.toList=if nD t=false then 120 else if 2000<s.size then 121 else 0 by unfold textE;rw [size_eq]);obtain⟨tn,hn⟩:∃ n,n=t.n:=⟨_,rfl⟩
 rw [<- hn] at HV HK gG aI jX ⊢;clear h1 h2 h3 h4 h5 hV hs hn hD hG hB;obtain⟨k0,k1,k2,k3,k4,k5,kk⟩:=aI.o V aZ
 cases htb:nD t with
 | false =>
  have Ju:=bx htb;have HE:=bx (show textE t s.data.toList=120 by rw [iP.o,aG htb]);clear htb he
  go_in
  go_upto_region 1 with(fail)
  rw [<- HV.o];go_wp2_with fail;refine uz 0 rfl ?_;go_wp2_with fail;refine aP (JU.o 120 (by decide) _) ?_;go_wp2_with fail;refine aT jX.o λw2 hb2=>?_
  rw [Ju.o];have iV:=bx hb2;have HB2:=aJ HB0 hb2;clear hb2 k0 k1 k2 k3 k4 k5 kk;go_wp2_with fail
  go_step3
  refine⟨rfl,?_⟩;go_wp2_with fail;rw [Exit.noGoto_ret];go_ret2;exact⟨by rw [HE.o];rfl,HB2.o⟩
 | true =>
  have Ju:=bx htb;have agH:2000<s.size:=by
   have h9:=iP.o;rw [htb,aF (by simp)] at h9
   rcases gZ 2000 s.size with h | h
   ·exact h
   exact absurd (h9.trans (aF (by omega))) he
  have HE:=bx (show textE t s.data.toList=121 by rw [iP.o,htb,aF (by simp),aG agH]);have e1:decide ((2000:Int)<(s.size:Int))=true:=bD (by omega);clear htb he agH
  go_in
  go_upto_region 1 with(fail)
  rw [<- HV.o];go_wp2_with fail;refine uz 0 rfl ?_;go_wp2_with fail;refine aP (JU.o 120 (by decide) _) ?_;go_wp2_with fail;refine aT jX.o λw2 hb2=>?_
  rw [Ju.o];have iV:=bx hb2;have HB2:=aJ HB0 hb2;clear hb2 k0 k1 k2 k3 k4 k5 kk;go_wp2_with fail;refine aP (JU.o 121 (by decide) _) ?_;go_wp2_with fail
  go_step3
  refine⟨rfl,?_⟩;go_wp2_with fail;rw [Exit.noGoto_ret];go_ret2;exact⟨by rw [HE.o];rfl,HB2.o⟩
def zC (n pb km it:Nat) (tn:Int) (pi I7 rv nv fv:Value) (s:ByteArray) (pos:Nat) (ov:Value) (acc:List Int) (t:F.Trie) (W0:World):List Pc :=
 [Pc.obj it (.stringIter s pos),Pc.row n 3 1 ov acc.length (acc.map (Value.int .i64)),Pc.blk pb 218 #[ah tn,pi,I7,rv,nv,fv, .string s,ov],Pc.PZ km t,Pc.old n W0]
theorem ajq {n pg km it:Nat} {tn:Int} {pi I7 rv nv fv:Value} {s:ByteArray} {pos:Nat} {ov jy:Value} {acc r:List Int} {y:Int} {t:F.Trie} {W0 W:World}
  (h:Sep ((zC n pg km it tn pi I7 rv nv fv s pos ov acc t W0).set 1 (Pc.row n 3 1 jy (acc.length+1) (acc.map (Value.int .i64)++[ah y]))) W) (hr:r=acc++[y]):Sep (zC n pg km it tn pi I7 rv nv fv s pos jy r t W0) (W.setCell ⟨pg,7,none⟩ jy):=by
 subst hr;rw [show acc.map (Value.int .i64)++[ah y]=(acc++[y]).map (Value.int .i64) by simp,show acc.length+1=(acc++[y]).length by simp] at h;exact h.set 2 rfl 7 jy
theorem Vk (A:Nat->Addr) (B:Nat) (v:Value) (t:Tab) (s:ByteArray) (w:World) (hv:TabAt w v t) (hs:nN t) (hz:s.size<=100000) (hE:E A B w) (hD:Ed A B w) (hG:Eg A B w) (hB:B<=w.heap.size) (he:textE t s.data.toList=0) :
  Calls prog 86 #[v, .string s] w λe w'=>∃ pi I7 rv nv fv pb ov,v = .agg #[ah t.n,pi,I7,rv,nv,fv]/\e = .returned (.tuple #[aA pb, .nilIface]) /\
   aC w' pb 218 #[ah t.n,pi,I7,rv,nv,fv, .string ⟨(M.fix s.data.toList).toArray⟩,ov]/\aN w' ov (jU t.p (dF s.data.toList))/\ak w w':=by
 have gG:=bx (λW (h:ak w W)=>hv.below h);obtain⟨pi,pb,rv,nv,fv,rfl,h1,h2,h3,h4,h5⟩:=hv;obtain⟨V,hV⟩:∃ V,V=w.alloc (.cells #[ah t.n,pi,pb,rv,nv,fv] 31):=⟨_,rfl⟩
 have HB0:=bx (aB hV);have HK:=bx (aK hV);have aI:=bx (λW (h:ak V W)=>HK.o.d6 h);have HV:=bx hV;have jX:=bx (NQ A B _ t V (gG.o V HB0.o) hs (hD.below (HB0.o.mono hB)) (hG.below (HB0.o.mono hB)) (bP hB HB0.o.size));have JU:=bx (λn (hn:n≠0) W=>afz 0 n hn W);obtain⟨t1,t2⟩:=Rz he;have t3:=t1;unfold nD at t3;rw [dD] at t3;rw [<- size_eq] at t2;have Ju:=bx t1;have HPI:=bx (λ(r:Nat) (hr:r<=1114111)=>agt h1 h2 t3.2 r hr);have tX:=bx (λW (h:ak w W)=>wZ A B s W hz (hE.below (h.mono hB)) (bP hB h.size));have hfl:=adS s.data.toList;rw [<- size_eq] at hfl;have vG:=bx (Dx s.data.toList);have HST:=bx (avr s.data.toList);have hsl:=uJ s.data.toList;rw [<- size_eq] at hsl;obtain⟨s',hs'⟩:∃ s':ByteArray,s'=⟨(M.fix s.data.toList).toArray⟩:=⟨_,rfl⟩
 have HSL:=bx (show s'.data.toList=M.fix s.data.toList by rw [hs']);have hsz:s'.size<=8000:=by rw [size_eq,HSL.o];omega
 rw [<- HSL.o] at HST;rw [<- hs'] at tX ⊢;generalize dF s.data.toList=xs at vG HST hsl ⊢;obtain⟨N,hN⟩:∃ N,xs.length=N:=⟨_,rfl⟩
 rw [hN] at hsl;have HN:=bx hN;have e1:decide ((2000:Int)<(s.size:Int))=false:=dh (by omega);have hmm:=@run_makeMap prog;clear he t1 t3 hs' hN hE hfl;obtain⟨tn,hn⟩:∃ n,n=t.n:=⟨_,rfl⟩
 rw [<- hn] at HV HK gG aI jX ⊢;clear h1 h2 h3 h4 h5 hV hs hn hD hG hB;obtain⟨k0,k1,k2,k3,k4,k5,kk⟩:=aI.o V aZ
 go_in
 go_upto_region 1 with(fail)
 rw [<- HV.o];go_wp2_with fail;refine uz 0 rfl ?_;go_wp2_with fail;refine aP (JU.o 120 (by decide) _) ?_;go_wp2_with fail;refine aT jX.o λw2 hb2=>?_
 rw [Ju.o];have iV:=bx hb2;have HB2:=aJ HB0 hb2;clear hb2 k0 k1 k2 k3 k4 k5 kk;go_wp2_with fail;refine aP (JU.o 121 (by decide) _) ?_;go_wp2_with fail;have hk:AX (w2.alloc (.map #[] 0)) w2.heap.size t.p:=⟨#[],0,World.alloc_heap_new w2 _,λx hx=>by simp at hx,λq v hq=>by simp [yx,Instr.findNow] at hq⟩
 have hs1:Sep (Pc.PZ w2.heap.size t.p::[Pc.old w.heap.size w]) (w2.alloc (.map #[] 0)):=((Sep.start w).below HB2.o).add (dA w2 (.map #[] 0)) (p:=Pc.PZ w2.heap.size t.p) hk (λk hk=>by rw [show k=w2.heap.size from hk];exact bK _);have fV:=bx (show ak V (w2.alloc (.map #[] 0)).drew from(iV.o.trans ((dA w2 _).mono iV.o.size)).trans ((jg _ 1).mono (iV.o.trans ((dA w2 _).mono iV.o.size)).size));have dP:=bx (show Sep (Pc.PZ w2.heap.size t.p::[Pc.old w.heap.size w]) (w2.alloc (.map #[] 0)).drew from hs1.drewN 1);have dH:=bx (aI.o _ fV.o);clear hk hs1;refine jl 5 (λW'=>ay W' w.heap.size 0=some (ah tn)/\ay W' w.heap.size 1=some pi/\ay W' w.heap.size 2=some pb/\ay W' w.heap.size 3=some rv/\ay W' w.heap.size 4=some nv/\ay W' w.heap.size 5=some fv/\w.heap.size<W'.heap.size) (by kernel_rfl) ?_;generalize (w2.alloc (.map #[] 0)).drew=WR at fV dP dH ⊢;have vP:=bx (tX.o WR (bt HB0.o fV.o));refine kS 0 ?_ rfl dH.o ?_ ?_;rotate_left
 ·rintro w ⟨q1,q2,q3,q4,q5,q6,q7⟩;go_simp;try with_reducible rfl
 refine kS 1 ?_ rfl dH.o ?_ ?_;rotate_left
 ·rintro w ⟨q1,q2,q3,q4,q5,q6,q7⟩;go_simp;try with_reducible rfl
 refine kP 2 rfl λKK au=>?_
 go_simp;refine aT vP.o λw4 hb4=>?_
 have dJ:=bx (dP.o.below hb4);have HB4:=aJ fV hb4;have HF4:=bx (aI.o w4 HB4.o);clear hb4;refine au.out _ _ (λ_=>HF4.o) ?_;clear au KK;refine kP 3 rfl λKK au=>?_
 go_simp;refine au.out _ _ (λ_=>HF4.o) ?_;clear au KK;refine kP 4 rfl λKK au=>?_
 go_simp;refine au.out _ _ (λ_=>aI.o _ (HB4.o.trans ((dA w4 _).mono HB4.o.size))) ?_;clear au KK;refine kP 5 rfl λKK au=>?_
 go_simp;refine au.out _ _ (λh=>by cases h) ?_;clear au KK;refine kD ?_ _;have bG:=bx ((dJ.o.eu 218 #[ah tn,pi,pb,rv,nv,fv, .string s', aj]).kV w.heap.size 1 3);have x6:(w4.alloc (.cells #[ah tn,pi,pb,rv,nv,fv, .string s', aj] 218)).cell? ⟨w4.heap.size,6,none⟩=some (.string s'):=((bG.o.blk 1 rfl).cell 6).trans rfl;have xl:=(bG.o.blk 1 rfl).lt;generalize hw5:w4.alloc (.cells #[ah tn,pi,pb,rv,nv,fv, .string s', aj] 218)=w5 at bG x6 xl ⊢;clear hw5;generalize w4.heap.size=pg at bG x6 xl ⊢;go_wp2_with fail;have tV:=bx (show ak w5 (w5.iter s' 0) from dA w5 _);have dV:=bx (show Sep (zC w.heap.size pg w2.heap.size w5.heap.size tn pi pb rv nv fv s' (U.textOf (xs.take 0)).length (aj) (jU t.p (xs.take 0)) t.p w) (w5.iter s' 0) from
  bG.o.add tV.o (p:=Pc.obj w5.heap.size (.stringIter s' 0)) (World.iter_heap w5 s' 0) (λk hk=>by rw [show k=w5.heap.size from hk];exact bK _))
 clear x6 xl hmm;generalize w5.iter s' 0=w7 at dV tV ⊢;generalize w5.heap.size=it at dV ⊢
 go_loopw [10,11,12] (λu1 u2 u3 wr=>∃ k:Nat,k<=N/\∃ ov,Box (Sep (zC w.heap.size pg w2.heap.size it tn pi pb rv nv fv s' (U.textOf (xs.take k)).length ov (jU t.p (xs.take k)) t.p w) wr)) (λ_ _ _ wr=>s'.size-wr.iterPos it)
 ·exact⟨0,by omega,_,dV⟩
 obtain⟨k,hk,u9,hsep⟩:=hrel;obtain⟨pos,hps⟩:∃ pos,pos=(U.textOf (xs.take k)).length:=⟨_,rfl⟩
 rw [<- hps] at hsep;have yh:=bx hps;have hit:wr.heap[it]?=some (.stringIter s' pos):=hsep.o.at' 0 rfl;have HIT:=bx hit;clear hps
 by_cases hlt:k<N
 ·obtain⟨z,hzx⟩:=bV xs k (by rw [HN.o];exact hlt);have JA:=vG.o z (dB hzx);obtain⟨r,rfl,hrz⟩:=Xd JA;obtain⟨hd1,hd2⟩:=aik hzx;rw [HST.o,<- yh.o] at hd1;have yt:=bx hd2;have hel:=U.Jo (r:Int);have hpl:pos+(U.enc (r:Int)).length<=s'.size:=by
   have h9:=congrArg List.length hd1;rw [gy,bC,<- size_eq] at h9;omega
  have UC:=bx (show pos<s'.size/\1<=(U.enc (r:Int)).length/\pos+(U.enc (r:Int)).length<=s'.size from⟨by omega,hel.1,hpl⟩);have hnx:=λty=>Lib.run_next_any_at (P:=prog) wr it s' pos ty hit (by omega)
  rw [afa s' pos r _ JA hd1] at hnx;simp only at hnx;have yQ:=bx (show jU t.p (xs.take (k+1))=jU t.p (xs.take k)++[F.says t.p (r:Int)] by unfold jU;rw [jw,hzx,gX];rfl);have qB:=bx (show (jU t.p (xs.take k)).length<=1000000000 by unfold jU;rw [aV,dw];omega);obtain⟨w6,hw6⟩:∃ w6,w6=wr.iterAt it s' (pos+(U.enc (r:Int)).length):=⟨_,rfl⟩
  rw [<- hw6] at hnx;have cO:=bx (show Sep (zC w.heap.size pg w2.heap.size it tn pi pb rv nv fv s' (pos+(U.enc (r:Int)).length) u9 (jU t.p (xs.take k)) t.p w) w6 by
   rw [hw6];exact Sep.upd (ps:=zC w.heap.size pg w2.heap.size it tn pi pb rv nv fv s' pos u9 (jU t.p (xs.take k)) t.p w) (own:=λq=>q=it) 0 hsep.o rfl (Xh wr it s' _) (λ_ h _=>h) (p':=Pc.obj it (.stringIter s' (pos+(U.enc (r:Int)).length))) (Lib.iterAt_heap wr it s' pos _ hit) (λ_ h=>.inl h))
  obtain⟨es,clk,hm,hik,hes⟩:AX w6 w2.heap.size t.p:=cO.o.at' 3 rfl;have hlk:=aja underlying215 underlying21 w6 es clk (r:Int) w2.heap.size hm hik _ (aiY w6);obtain⟨y,hy⟩:∃ y,y=F.says t.p (r:Int):=⟨_,rfl⟩
  rw [<- hy] at yQ;have HY:=bx hy;generalize jU t.p (xs.take k)=acc at hsep cO yQ qB;clear hit hd1 hd2 JA hzx hw6 hpl hel
  cases hq:yx es (r:Int) with
  | some v =>
   rw [hq,jE,Option.isSome_some,hes _ v hq,<- hy] at hlk;clear hq hes hik hm hy;obtain⟨w9,Lc⟩:∃ w9,w9=w6:=⟨_,rfl⟩
   have gV:=bx (show Sep (zC w.heap.size pg w2.heap.size it tn pi pb rv nv fv s' (pos+(U.enc (r:Int)).length) u9 acc t.p w) w9 by rw [Lc];exact cO.o);rw [<- Lc] at hnx hlk;clear Lc;have Gl:=bx (show pos+(U.enc (r:Int)).length=(U.textOf (xs.take (k+1))).length by rw [yt.o,bC,<- yh.o]);rw [Gl.o] at gV;have hbs:w.heap.size<=w9.heap.size:=(gV.o.bel (n:=w.heap.size) (W0:=w) (by simp [zC])).size;have p7:w9.cell? ⟨pg,7,none⟩=some u9:=((gV.o.blk 2 rfl).cell 7).trans rfl;have pl:=(gV.o.blk 2 rfl).lt;go_wp2_with (at_builtin;refine vM (u:=ah y) rfl _ _ 22 rfl yO gV.o 1 rfl rfl rfl rfl qB.o (by omega) hbs ?_;rintro v7 w8 fZ ⟨JM,JB,rfl,-,-⟩;have fM:=bx fZ;have p8:w8.cell? ⟨pg,7,none⟩=some u9:=((fZ.blk 2 rfl).cell 7).trans rfl;have f8:=(fZ.blk 2 rfl).frozen 7;have l8:=(fZ.blk 2 rfl).lt;clear fZ p7 pl hbs)
   have nC:=bx (ajq fM.o yQ.o);clear p8 f8 l8
   go_roundw
   ·exact⟨k+1,by omega,_,nC⟩
   have h1:=nC.o.at' 0 rfl;have h2:=HIT.o;have h3:=UC.o;simp only [World.iterPos];rw [show _=some (Obj.stringIter s' (U.textOf (xs.take (k+1))).length) from h1,h2];simp only;rw [Gl.o.symm];omega
  | none =>
   rw [hq,Option.getD_none,Option.isSome_none] at hlk;have EO:=bx hes;obtain⟨g,off,cap,n',g2,off2,cap2,g3,Eb,cap3,hi,a2,a3,a4,a5,a6,hb,b2,b3,b4,b5,c2,c3,c4,c5⟩:=HPI.o r hrz;rw [<- hy] at c5;have hbw:=cO.o.bel (n:=w.heap.size) (W0:=w) (by simp [zC]);have p1:w6.cell? ⟨pg,1,none⟩=some (.slice (some ⟨g,off,none⟩) 4352 cap):=((cO.o.blk 2 rfl).cell 1).trans (by rw [hi];rfl);have p2:w6.cell? ⟨pg,2,none⟩=some (.slice (some ⟨g2,off2,none⟩) t.p.2.length cap2):=((cO.o.blk 2 rfl).cell 2).trans (by rw [hb];rfl);have pl0:=(cO.o.blk 2 rfl).lt;obtain⟨d,hd⟩:∃ d,r / 256=d:=⟨_,rfl⟩
   obtain⟨q,ZP⟩:∃ q,r % 256=q:=⟨_,rfl⟩
   have hd1:d<4352:=by omega
   have hq1:q<256:=by omega
   rw [hd] at a5;rw [ZP] at c5;have d1:w6.cell? ⟨g,off+d,none⟩=some (ah (n':Nat)):=(hbw.cell (p:=⟨g,off+d,none⟩) a4).trans a5;have d2:w6.cell? ⟨g2,off2+n',none⟩=some (.slice (some ⟨g3,Eb,none⟩) 256 cap3):=(hbw.cell (p:=⟨g2,off2+n',none⟩) b4).trans b5;have d3:w6.cell? ⟨g3,Eb+q,none⟩=some (ah y):=(hbw.cell (p:=⟨g3,Eb+q,none⟩) c4).trans c5;obtain⟨M,hM⟩:∃ M,M=t.p.2.length:=⟨_,rfl⟩
   rw [<- hM] at p2 a6 b2;have td:(r:Int).tdiv 256=(d:Int):=by rw [<- hd];rfl
   have tm:(r:Int).tmod 256=(q:Int):=by rw [<- ZP];rfl
   have wd:IntKind.i64.wrap (d:Int)=(d:Int):=by rw [yC];omega
   have wq:IntKind.i64.wrap (q:Int)=(q:Int):=by rw [yC];omega
   have wr9:IntKind.i64.wrap (r:Int)=(r:Int):=by rw [yC];omega
   have di:(d:Int)<4352:=by omega
   have qi:(q:Int)<256:=by omega
   have ni:(n':Int)<(M:Int):=by omega
   have HM:=bx hm;have HIK:=bx hik;clear hes hik hm hy a4 a5 b4 b5 c4 c5 hd hq ZP hi hb hbw hM;go_wp2_with fail
   go_quiet (fail)
   obtain⟨es',lV,hu,hik',hes'⟩:=acd underlying215 underlying21 (w6.drewN nq) es clk (r:Int) (ah y) w2.heap.size HM.o HIK.o;have hkn:AX ((w6.drewN nq).putObj w2.heap.size (.map es' lV)) w2.heap.size t.p:=⟨es',lV,World.putObj_heap_same (LH (w:=w6.drewN nq) HM.o),hik',λq v hq=>by
    rw [hes'] at hq
    split at hq
    ·rename_i e;subst e;injection hq with hq;rw [<- hq,HY.o]
    exact EO.o q v hq⟩
   have gV:=bx (Sep.upd (ps:=zC w.heap.size pg w2.heap.size it tn pi pb rv nv fv s' (pos+(U.enc (r:Int)).length) u9 acc t.p w) (own:=λq=>q=w2.heap.size) 3 (cO.o.drewN nq) rfl (Turns.putObj (own:=λq=>q=w2.heap.size) _ rfl _) (λ_ h _=>h) (p':=Pc.PZ w2.heap.size t.p) hkn (λ_ h=>.inl h));have gV:=bx (show Sep (zC w.heap.size pg w2.heap.size it tn pi pb rv nv fv s' (pos+(U.enc (r:Int)).length) u9 acc t.p w) ((w6.drewN nq).putObj w2.heap.size (.map es' lV)) from gV.o);obtain⟨w9,Lc⟩:∃ w9,w9=(w6.drewN nq).putObj w2.heap.size (.map es' lV):=⟨_,rfl⟩
   rw [<- Lc] at gV hu;clear Lc hkn hik' hes' hnx hlk p1 p2 pl0 d1 d2 d3 td tm wd wq wr9 di qi ni;have Gl:=bx (show pos+(U.enc (r:Int)).length=(U.textOf (xs.take (k+1))).length by rw [yt.o,bC,<- yh.o]);rw [Gl.o] at gV;have hbs:w.heap.size<=w9.heap.size:=(gV.o.bel (n:=w.heap.size) (W0:=w) (by simp [zC])).size;have p7:w9.cell? ⟨pg,7,none⟩=some u9:=((gV.o.blk 2 rfl).cell 7).trans rfl;have pl:=(gV.o.blk 2 rfl).lt;go_wp2_with (at_builtin;refine vM (u:=ah y) rfl _ _ 22 rfl yO gV.o 1 rfl rfl rfl rfl qB.o (by omega) hbs ?_;rintro v7 w8 fZ ⟨JM,JB,rfl,-,-⟩;have fM:=bx fZ;have p8:w8.cell? ⟨pg,7,none⟩=some u9:=((fZ.blk 2 rfl).cell 7).trans rfl;have f8:=(fZ.blk 2 rfl).frozen 7;have l8:=(fZ.blk 2 rfl).lt;clear fZ p7 pl hbs)
   have nC:=bx (ajq fM.o yQ.o);clear p8 f8 l8
   go_roundw
   ·exact⟨k+1,by omega,_,nC⟩
   have h1:=nC.o.at' 0 rfl;have h2:=HIT.o;have h3:=UC.o;simp only [World.iterPos];rw [show _=some (Obj.stringIter s' (U.textOf (xs.take (k+1))).length) from h1,h2];simp only;rw [Gl.o.symm];omega
 obtain rfl:k=N:=by omega
 have hpe:¬ pos<s'.size:=by
  have h9:=yh.o;rw [gq (by rw [HN.o];exact bK _),HST.o,<- size_eq] at h9;omega
 have hnx:=λty=>Lib.run_next_end_at (P:=prog) wr it s' pos ty hit hpe
 have hsp:=hsep.o;rw [gq (by rw [HN.o];exact bK _)] at hsp;have HI:=bx (aN.iy (hsp.row 1 rfl) rfl);have dn:=bx (hsp.blk 2 rfl);have lK:=bx (hsp.bel (n:=w.heap.size) (W0:=w) (by simp [zC]));clear hit hpe hsp;go_wp2_with fail;rw [yE];go_ret2;exact⟨pi,pb,rv,nv,fv,pg,u9,rfl,rfl,dn.o,HI.o,lK.o⟩
namespace C
open Go.Proofs.YtdponihkpomheaaGreatDoor
theorem Jc (s:List UInt8):M.fix s=U.textOf (dF s):=((U.zJ _ _).1 (Et s)).1.symm
theorem avL (g:Ga) (ls:List (List Int)):dX g ls ls.length=(ls.map (meas g)).sum:=by unfold dX;rw [mQ]
theorem TS {g:Ga} {s:List UInt8} (h:kM g s=0):jF g=true/\s.length<=2000:=by
 unfold kM at h
 split at h
 ·omega
 rename_i h1
 split at h
 ·omega
 exact⟨by simpa using h1,by omega⟩
theorem nU {g:Ga} {s:List UInt8} (h:jF g=true) (hs:s.length<=2000):kM g s=0:=by
 unfold kM;rw [aF (by rw [h];simp),aF (by omega)]
theorem Vq {g:Ga} (h:jF g=true):nD g.t=true/\vZ g.w=true/\0<=g.k/\g.k<=2:=by
 unfold jF at h;simp only [dD,fD] at h;exact⟨h.1.1.1,h.1.1.2,h.1.2,h.2⟩
theorem wG {g:Ga} {s:List UInt8} (h:jF g=true) (hs:s.length<=2000):textE g.t s=0:=by
 unfold textE;rw [aF (by rw [(Vq h).1];simp),aF (by omega)]
theorem Ru {g:Ga} {s:List UInt8} (h:kM g s=0):(bf g.t s).length=(aO g.t s).length:=by
 obtain⟨h1,h2⟩:=TS h;unfold bf;rw [aG (wG h1 h2),<- VG,aV]
theorem aiJ {g:Ga} {s:List UInt8} (h:kM g s=0):bf g.t s=(aO g.t s).map U.textOf:=by
 obtain⟨h1,h2⟩:=TS h;unfold bf;rw [aG (wG h1 h2),<- VG]
theorem N9 (g:Ga) (ls:List (List Int)) (k:Nat):0<=dX g ls k:=by
 have:=abS g ls (nK k);rw [SS] at this;exact this
end C
theorem awS (t:Tab) (s:List UInt8):(C.BD t s).length<=s.length+1:=by
 unfold C.BD
 split
 ·rw [C.IQ];have h1:=(qg t s).2.len;have h2:=uJ s;omega
 simp
def nV (n:Nat) (W0:World) (ov:Value) (l:List (List UInt8)):List Pc:=[Pc.row n 9 1 ov l.length (l.map gW),Pc.old n W0]
theorem GR {n:Nat} {W0 w:World} {ov:Value} {l:List (List UInt8)} (h:Sep (nV n W0 ov l) w):Below n W0 w:=Sep.bel (ps:=nV n W0 ov l) h (by simp [nV])
theorem VR {n:Nat} {W0 w:World} {ov:Value} {l:List (List UInt8)} (h:Sep (nV n W0 ov l) w):cZ w ov l:=cZ.iy (h.row 0 rfl) rfl
theorem abk (n:Nat) (W0:World) (h:n=W0.heap.size):Sep (nV n W0 (aj) []) W0:=by
 subst h;exact(Sep.start W0).kV W0.heap.size 1 9
theorem akb (A:Nat->Addr) (B:Nat) (s:List UInt8) (w:World) (hz:s.length<=16777216) (hs:U.valid s=true) (hE:E A B w) (hB:B<=w.heap.size) :
  Calls prog 286 #[.string (bs s)] w λe w'=>e = .returned (.bool false)/\ak w w':=by
 have HV:=bx (show Calls prog 32 #[.string (bs s)] w λe w'=>e = .returned (.bool true)/\ak w w' by
  have h:=adU A B (bs s) w (by rw [dN];exact hz) hE hB;rw [xZ,hs] at h;exact h)
 clear hE hs
 go_in
 go_wp2_with fail;refine aT HV.o λw1 hb1=>?_
 go_wp2
 go_ret
 exact⟨rfl,hb1⟩
theorem aps (A:Nat->Addr) (B:Nat) (v:Value) (ls:List (List UInt8)) (w:World) (hv:cZ w v ls) (hz:ls.length<=16777216) (hal:∀ s∈ls,U.valid s=true/\s.length<=16777216) (hE:E A B w) (hB:B<=w.heap.size) :
  Calls prog 162 #[v, .func (.func 286) #[] #[]] w λe w'=>e = .returned (ah (-1))/\ak w w':=by
 have HO:=bx (λW (h:ak w W) s (hs:s∈ls)=>akb A B s W (hal s hs).2 (hal s hs).1 (hE.below (h.mono hB)) (bP hB h.size));have HV:=bx hv;obtain⟨N,hN⟩:∃ N,ls.length=N:=⟨_,rfl⟩
 obtain⟨ao,cap,rfl,-⟩:=hv.slice;rw [hN] at hz HV ⊢;have HN:=bx hN;clear hv hal hE hB hN
 go_in
 go_wp2_with fail
 go_loopw [8] (λi wr=>∃ k:Nat,k<=N/\i = ah k/\Box (ak w wr)) (λi _=>N-(intOf i).toNat)
 ·exact⟨0,by omega,rfl,⟨Below.refl _ _⟩⟩
 obtain⟨k,hk,rfl,hb⟩:=hrel
 by_cases hlt:k<N
 ·obtain⟨x,hx⟩:=bV ls k (by rw [HN.o];exact hlt);obtain⟨g,off,cap2,hg1,hg2,hg3,hg4,hg5⟩:=HV.o.get (by rintro rfl;simp at hx);rw [HN.o] at hg1 hg2;obtain⟨rfl,rfl⟩:=dQ hg1;have cx:=(hb.o.cell (p:=⟨g,off+k,none⟩) hg4).trans (hg5 k x hx);have tC:=bx (HO.o wr hb.o x (dB hx));unfold maxLen at hg3;clear hx hg1 hg4 hg5;go_wp2_with fail;refine dI tC.o hb.o λw1 HB1=>?_
  clear cx
  go_wp2
  go_roundw
  ·exact⟨k+1,by omega,by go_num,HB1⟩
  simp [intOf];omega
 go_wp2
 go_ret
 exact⟨rfl,hb.o⟩
theorem awG (A:Nat->Addr) (B:Nat) (v:Value) (ls:List (List UInt8)) (w:World) (hv:cZ w v ls) (hz:ls.length<=16777216) (hal:∀ s∈ls,U.valid s=true/\s.length<=16777216) (hE:E A B w) (hB:B<=w.heap.size) :
  Calls prog 93 #[v, .func (.func 286) #[] #[]] w λe w'=>e = .returned (.bool false)/\ak w w':=by
 have HI:=bx (aps A B v ls w hv hz hal hE hB);clear hv hal hE hB
 go_in
 go_wp2_with fail;refine aT HI.o λw1 hb1=>?_
 have HB1:=bx hb1;clear hb1
 go_wp2
 go_ret
 exact⟨rfl,HB1.o⟩
theorem akO (A:Nat->Addr) (B:Nat) (v lv:Value) (c:C.Wd) (ls:List (List UInt8)) (w:World) (hv:WideAt w v c) (hs:rY c) (hc:C.vZ c=true) (hl:cZ w lv ls) (hz:ls.length<=16777216) (hal:∀ s∈ls,U.valid s=true/\s.length<=16777216) (hE:E A B w) (hB:B<=w.heap.size) :
  Calls prog 227 #[v,lv] w λe w'=>∃ iv bv rg km,v = .agg #[iv,bv, .bool c.wide]/\e = .returned (.tuple #[aA rg, .nilIface])/\Sep (yM rg km iv bv c [Pc.old w.heap.size w]) w':=by
 have Ci:=bx (λW (h:ak w W)=>hv.below h);obtain⟨iv,bv,rfl,hi,hb⟩:=hv;obtain⟨V,hV⟩:∃ V,V=w.alloc (.cells #[iv,bv, .bool c.wide] 33):=⟨_,rfl⟩
 have HB0:=bx (aB hV);have HK:=bx (aK hV);obtain⟨wd,hwd⟩:∃ b,b=c.wide:=⟨_,rfl⟩
 rw [<- hwd] at HK hV Ci;have yJ:=bx hwd;have HV:=bx hV;have aI:=bx (λW (h:ak V W)=>HK.o.d3 h);clear hV hwd hi hb;have Ur:=bx (show Calls prog 64 #[.agg #[iv,bv, .bool wd]] V λe w'=>e = .returned (.bool true)/\ak V w' by
  have h:=aag _ c V (Ci.o V HB0.o) hs;rw [hc] at h;exact h)
 have oD:=bx (λW (h:ak w W)=>awG A B lv ls W (hl.below h) hz hal (hE.below (h.mono hB)) (bP hB h.size));have jW:=bx (λW (h:ak w W)=>show ay W 11 0=some (.iface 448 (.pointer (some (A 11))))/\ay W 12 0=some (.iface 448 (.pointer (some (A 12)))) from
  ⟨(hE.below (h.mono hB)).cell 11 (by decide),(hE.below (h.mono hB)).cell 12 (by decide)⟩)
 rw [<- yJ.o];obtain⟨la,lc,rfl,-⟩:=hl.slice;generalize ls.length=Q at oD hz ⊢;have hmm:=@run_makeMap prog;obtain⟨k0,k1,k2,kk⟩:=aI.o V aZ;obtain⟨g0,g1⟩:=jW.o V HB0.o;clear hs hc hl hz hal hE hB
 go_in
 go_upto_region 1 with(fail)
 rw [<- HV.o];go_wp2_with fail;refine uz 0 rfl ?_;go_wp2_with fail;refine aT Ur.o λw1 hb1=>?_
 have mV:=bx hb1;have HB1:=aJ HB0 hb1;clear k0 k1 k2 kk g0 g1 hb1;obtain⟨g0,g1⟩:=jW.o w1 HB1.o;go_wp2_with fail;refine aT (oD.o w1 HB1.o) λw2 hb2=>?_
 have iV:=aJ mV hb2;have HB2:=aJ HB1 hb2;obtain⟨k0,k1,k2,kk⟩:=aI.o w2 iV.o;have hk:wz (w2.alloc (.map #[] 0)) w2.heap.size c:=⟨#[],0,World.alloc_heap_new w2 _,λx hx=>by simp at hx,λq v hq=>by simp [yx,Instr.findNow] at hq⟩
 have hs1:Sep (Pc.P9 w2.heap.size c::[Pc.old w.heap.size w]) (w2.alloc (.map #[] 0)):=((Sep.start w).below HB2.o).add (dA w2 (.map #[] 0)) (p:=Pc.P9 w2.heap.size c) hk (λk hk=>by rw [show k=w2.heap.size from hk];exact bK _);have HS2:=bx (show Sep (Pc.blk (w2.heap.size+1) 373 #[iv,bv, .bool wd, .map (some w2.heap.size)]::Pc.P9 w2.heap.size c::[Pc.old w.heap.size w]) ((w2.alloc (.map #[] 0)).alloc (.cells #[iv,bv, .bool wd, .map (some w2.heap.size)] 373)) by
  have h:=hs1.eu 373 #[iv,bv, .bool wd, .map (some w2.heap.size)];rw [World.size_alloc] at h;exact h)
 clear hk hs1 hb2 g0 g1;go_wp2_with fail;rw [yE];go_ret2;exact⟨iv,bv,_,w2.heap.size,rfl,rfl,by unfold yM;rw [<- yJ.o];exact HS2.o⟩
theorem ard (rg km:Nat) (iv bv:Value) (c:C.Wd) (ps:List Pc) (s:ByteArray) (xs:List Int) (w:World) (hs:rY c) (ht:F.nT c.p=true) (hx:U.scalars s.data.toList=some xs) (hz:s.size<=8000) (hR:∀ W,Sep ps W->aN W iv c.p.1/\iF W bv c.p.2) (hS:Sep (yM rg km iv bv c ps) w) :
  Calls prog 229 #[aA rg, .string s] w λe w'=>e = .returned (ah (C.iq c xs))/\Turns (λk=>k=km) w w'/\wz w' km c:=by
 have vG:=bx ((U.zJ _ _).1 hx).2;have HST:=bx ((U.zJ _ _).1 hx).1;have Ih:=bx (show C.iq c xs=if (C.emoji xs&&decide (0<C.most c xs))=true then 2 else C.most c xs from rfl);have YC:=bx (λ(r:Nat) (hr:r<=1114111) W (h:Sep (yM rg km iv bv c ps) W)=>auW rg km iv bv c ps r hr W hs ht hR h);obtain⟨N,hN⟩:∃ N,xs.length=N:=⟨_,rfl⟩
 have hNz:N<=8000:=by
  have h1:=TW xs;rw [HST.o,<- size_eq] at h1;omega
 have HN:=bx hN;have tV:=bx (show ak w (w.iter s 0) from dA w _);have dV:=bx (show Sep (Pc.obj w.heap.size (.stringIter s (U.textOf (xs.take 0)).length)::yM rg km iv bv c ps) (w.iter s 0) from
  hS.add tV.o (p:=Pc.obj w.heap.size (.stringIter s 0)) (World.iter_heap w s 0) (λk hk=>by rw [show k=w.heap.size from hk];exact bK _))
 have Ho:=bx (show km<w.heap.size from(hS.at' 1 rfl:wz w km c).lt);clear hx hs ht hR hS hN
 go_in
 go_wp2_with fail;have wU:=bx (Turns.of_below (own:=λk=>k=km\/k=w.heap.size) tV.o);generalize w.iter s 0=w7 at dV wU ⊢;obtain⟨it,hit0⟩:∃ it,it=w.heap.size:=⟨_,rfl⟩
 rw [<- hit0] at dV wU ⊢;have aq3:=bx hit0;clear tV hit0
 go_loopw [5,6,7,8] (λn em u3 u4 wr=>∃ k:Nat,k<=N/\n = ah (C.most c (xs.take k))/\em = .bool (C.emoji (xs.take k))/\Box (Sep (Pc.obj it (.stringIter s (U.textOf (xs.take k)).length)::yM rg km iv bv c ps) wr)/\Box (Turns (λk=>k=km\/k=it) w wr)) (λ_ _ _ _ wr=>s.size-wr.iterPos it)
 ·exact⟨0,by omega,rfl,rfl,dV,wU⟩
 obtain⟨k,hk,rfl,rfl,hsep,htr⟩:=hrel;obtain⟨pos,hps⟩:∃ pos,pos=(U.textOf (xs.take k)).length:=⟨_,rfl⟩
 rw [<- hps] at hsep;have yh:=bx hps;have hit:wr.heap[it]?=some (.stringIter s pos):=hsep.o.at' 0 rfl;have HIT:=bx hit;clear hps
 by_cases hlt:k<N
 ·obtain⟨z,hzx⟩:=bV xs k (by rw [HN.o];exact hlt);have JA:=vG.o z (dB hzx);obtain⟨r,rfl,hrz⟩:=Xd JA;obtain⟨hd1,hd2⟩:=aik hzx;rw [HST.o,<- yh.o] at hd1;have yt:=bx hd2;have hel:=U.Jo (r:Int);have hpl:pos+(U.enc (r:Int)).length<=s.size:=by
   have h9:=congrArg List.length hd1;rw [gy,bC,<- size_eq] at h9;omega
  have UC:=bx (show pos<s.size/\1<=(U.enc (r:Int)).length/\pos+(U.enc (r:Int)).length<=s.size from⟨by omega,hel.1,hpl⟩);have hnx:=λty=>Lib.run_next_any_at (P:=prog) wr it s pos ty hit (by omega)
  rw [afa s pos r _ JA hd1] at hnx;simp only at hnx;have qX:=bx (aqc (c:=c) hzx);have EO:=bx (aw8 hzx);obtain⟨mo,hmo⟩:∃ m,C.most c (xs.take k)=m:=⟨_,rfl⟩
  obtain⟨em,hem⟩:∃ m,C.emoji (xs.take k)=m:=⟨_,rfl⟩
  rw [hmo] at qX;rw [hem] at EO;rw [hmo,hem];have QX:=bx (show (0<pos)=(0<k) by
   rw [yh.o]
   apply propext
   constructor
   ·intro h
    rcases Ah k with h0 | h0
    ·subst h0;simp [U.textOf] at h
    exact h0
   intro h;exact C.aij (by intro h0;have:=congrArg List.length h0;rw [dw,HN.o] at this;simp at this;omega))
  obtain⟨w6,hw6⟩:∃ w6,w6=wr.iterAt it s (pos+(U.enc (r:Int)).length):=⟨_,rfl⟩
  rw [<- hw6] at hnx;have cO:=bx (show Sep (Pc.obj it (.stringIter s (pos+(U.enc (r:Int)).length))::yM rg km iv bv c ps) w6 by
   rw [hw6];exact Sep.upd (ps:=Pc.obj it (.stringIter s pos)::yM rg km iv bv c ps) (own:=λq=>q=it) 0 hsep.o rfl (Xh wr it s _) (λ_ h _=>h) (p':=Pc.obj it (.stringIter s (pos+(U.enc (r:Int)).length))) (Lib.iterAt_heap wr it s pos _ hit) (λ_ h=>.inl h))
  have PD:=bx (show Turns (λk=>k=km\/k=it) w w6 by
   rw [hw6];exact htr.o.trans ((Xh wr it s _).mono (λq h=>.inr h)))
  have Gl:=bx (show pos+(U.enc (r:Int)).length=(U.textOf (xs.take (k+1))).length by rw [yt.o,bC,<- yh.o]);rw [Gl.o] at cO;have xC:=bx (show s.size-(U.textOf (xs.take (k+1))).length<s.size-pos by have:=UC.o;rw [<- Gl.o];omega);have IJ:=bx (show wr.iterPos it=pos by simp only [World.iterPos];rw [hit]);have tC:=bx (YC.o r hrz w6 cO.o.tail);have ayO:pos<=8000:=by omega
  clear hit hd1 hd2 JA hzx hw6 hpl hel hmo hem;go_wp2_with fail;refine tC.o.mono ?_;rintro e w8 ⟨rfl,ZH,hk8⟩;have fM:=bx (Sep.upd (ps:=Pc.obj it (.stringIter s (U.textOf (xs.take (k+1))).length)::yM rg km iv bv c ps) (own:=λq=>q=km) 2 cO.o rfl ZH (λ_ h _=>h) (p':=Pc.P9 km c) hk8 (λ_ h=>.inl h));have fM:=bx (show Sep (Pc.obj it (.stringIter s (U.textOf (xs.take (k+1))).length)::yM rg km iv bv c ps) w8 from fM.o);have Hq:=bx (PD.o.trans (ZH.mono (λq h=>.inl h)));have Si:=bx (show w8.iterPos it=(U.textOf (xs.take (k+1))).length by
   have h:=fM.o.at' 0 rfl;simp only [World.iterPos];rw [show _=some (Obj.stringIter s (U.textOf (xs.take (k+1))).length) from h])
  clear ZH hk8 hnx
  cases em with
  | true =>
   have yH:=bx (show C.emoji (xs.take (k+1))=true by rw [EO.o];rfl)
   go_wp2
   go_roundw
   ·exact⟨k+1,by omega,by rw [qX.o],by rw [yH.o],fM,Hq⟩
   rw [Si.o,IJ.o];exact xC.o
  | false =>
   by_cases h0:0<pos
   ·have d0:decide ((0:Int)<(pos:Int))=true:=bD (by omega);have d1:decide (0<pos)=true:=bD h0;have hI:(0:Int)<(pos:Int):=by omega
    have hk0:0<k:=by rw [<- QX.o];exact h0
    cases hr9:((r:Int)==65039) with
    | true =>
     have yH:=bx (show C.emoji (xs.take (k+1))=true by rw [EO.o,hr9,bD hk0];rfl)
     go_wp2
     go_roundw
     ·exact⟨k+1,by omega,by rw [qX.o],by rw [yH.o],fM,Hq⟩
     rw [Si.o,IJ.o];exact xC.o
    | false =>
     have yH:=bx (show C.emoji (xs.take (k+1))=false by rw [EO.o,hr9];simp)
     go_wp2
     go_roundw
     ·exact⟨k+1,by omega,by rw [qX.o],by rw [yH.o],fM,Hq⟩
     rw [Si.o,IJ.o];exact xC.o
   have d0:decide ((0:Int)<(pos:Int))=false:=dh (by omega);have d1:decide (0<pos)=false:=dh h0;have hI:¬ (0:Int)<(pos:Int):=by omega
   have yH:=bx (show C.emoji (xs.take (k+1))=false by rw [EO.o,dh (by rw [<- QX.o];exact h0)];rfl)
   go_wp2
   go_roundw
   ·exact⟨k+1,by omega,by rw [qX.o],by rw [yH.o],fM,Hq⟩
   rw [Si.o,IJ.o];exact xC.o
 obtain rfl:k=N:=by omega
 have hpe:¬ pos<s.size:=by
  have h9:=yh.o;rw [gq (by rw [HN.o];exact bK _),HST.o,<- size_eq] at h9;omega
 have hnx:=λty=>Lib.run_next_end_at (P:=prog) wr it s pos ty hit hpe
 rw [gq (by rw [HN.o];exact bK _)];have LG:=bx (show wz wr km c from hsep.o.at' 2 rfl);have iP:=bx (show Turns (λk=>k=km) w wr from Vo htr.o (λq h1 h2=>by
  rcases h1 with h1 | h1
  ·exact h1
  have:=aq3.o;omega))
 generalize C.emoji xs=em at Ih ⊢;generalize C.most c xs=mo at Ih ⊢;clear hit hpe
 cases em with
 | false =>
  go_wp2
  go_ret
  exact⟨Bv (by rw [Ih.o];simp),iP.o,LG.o⟩
 | true =>
  by_cases h:0<mo
  ·have d0:=bD h;have HR:=bx (show C.iq c xs=2 by rw [Ih.o,d0];rfl);clear h
   go_wp2
   go_ret
   exact⟨Bv HR.o.symm,iP.o,LG.o⟩
  have d0:=dh h;have HR:=bx (show C.iq c xs=mo by rw [Ih.o,d0];rfl);clear h
  go_wp2
  go_ret
  exact⟨Bv HR.o.symm,iP.o,LG.o⟩
theorem ai5 (A:Nat->Addr) (B:Nat) (v:Value) (c:C.Wd) (s:List UInt8) (xs:List Int) (w:World) (hv:WideAt w v c) (hs:rY c) (hc:C.vZ c=true) (hx:U.scalars s=some xs) (hz:s.length<=8000) (hE:E A B w) (hB:B<=w.heap.size) :
  Calls prog 140 #[v, .string (bs s)] w λe w'=>e = .returned (.tuple #[ah (C.iq c xs), ah 0])/\ak w w':=by
 have hti:F.nT c.p=true:=by
  unfold C.vZ at hc;rw [dD] at hc;exact hc.1
 have Ci:=bx (λW (h:ak w W)=>hv.below h);obtain⟨iv,bv,rfl,hi,hb⟩:=hv;obtain⟨V,hV⟩:∃ V,V=w.alloc (.cells #[iv,bv, .bool c.wide] 33):=⟨_,rfl⟩
 have HB0:=bx (aB hV);have HK:=bx (aK hV);obtain⟨wd,hwd⟩:∃ b,b=c.wide:=⟨_,rfl⟩
 rw [<- hwd] at HK hV Ci;have yJ:=bx hwd;have HV:=bx hV;have aI:=bx (λW (h:ak V W)=>HK.o.d3 h);clear hV hwd hi hb;have hval:U.valid s=true:=by unfold U.valid;rw [hx];rfl
 have vO:=bx (λW (h:ak w W) (lv:Value) (hl:cZ W lv [s])=>akO A B _ lv c [s] W (Ci.o W h) hs hc hl (by simp) (λq hq=>by rw [fU.1 hq];exact⟨hval,by omega⟩) (hE.below (h.mono hB)) (bP hB h.size));have kK:=bx (λrg km uG vJ (W0 W:World) (h0:ak w W0) (he:(.agg #[iv,bv, .bool wd]:Value) = .agg #[uG,vJ, .bool c.wide]) (h:Sep (yM rg km uG vJ c [Pc.old W0.heap.size W0]) W)=>ard rg km uG vJ c [Pc.old W0.heap.size W0] (bs s) xs W hs hti (by rw [xZ];exact hx) (by rw [dN];exact hz) (λW' h'=>by
  have hb':=h'.bel (n:=W0.heap.size) (W0:=W0) (by simp);obtain⟨i',b',e1,e2,e3⟩:=Ci.o W' (h0.trans (hb'.mono h0.size));rw [he] at e1;injection e1 with e1;simp only [Array.mk.injEq,jm,and_true] at e1;obtain⟨rfl,rfl,-⟩:=e1;exact⟨e2,e3⟩) h)
 generalize C.iq c xs=res at kK ⊢;rw [<- yJ.o];obtain⟨k0,k1,k2,kk⟩:=aI.o V aZ;clear hs hc hx hE hB hval hti
 go_in
 go_upto_region 1 with(fail)
 rw [<- HV.o];have cu:=bx (HB0.o.trans ((dA V (.cells #[.string (bs s)] 9)).mono HB0.o.size));have Jt:=bx (show cZ (V.alloc (.cells #[.string (bs s)] 9)) (.slice (some ⟨V.heap.size,0,none⟩) 1 1) [s] from gB.Q9 (xs:=[s].map gW) (aC.new V 9 #[.string (bs s)]) (by simp));have HOO:=bx (vO.o _ cu.o _ Jt.o);go_wp2_with fail;refine HOO.o.mono ?_;rintro e w1 ⟨uG,vJ,rg,km,he,rfl,hs1⟩;have ng:=bx (kK.o rg km uG vJ _ w1 cu.o he hs1);have HB1:=bx (cu.o.trans ((hs1.bel (n:=(V.alloc (.cells #[.string (bs s)] 9)).heap.size) (W0:=V.alloc (.cells #[.string (bs s)] 9)) (by simp [yM])).mono cu.o.size));have HKF:=bx (show (V.alloc (.cells #[.string (bs s)] 9)).heap.size<=km from Nat.not_lt.1 (hs1.tail.apart (q:=Pc.old (V.alloc (.cells #[.string (bs s)] 9)).heap.size (V.alloc (.cells #[.string (bs s)] 9))) (by simp) (k:=km) rfl));clear hs1 he k0 k1 k2 kk;go_wp2_with fail;refine ng.o.mono ?_;rintro e w2 ⟨rfl,ht2,-⟩;have HB2:=bx (HB1.o.trans (ht2.below HB1.o.size (λq hq=>by have h1:=HKF.o;have h2:=cu.o.size;omega)));clear ht2
 go_wp2
 go_ret2
 exact⟨rfl,HB2.o⟩
theorem Zr (A:Nat->Addr) (B pg:Nat) (tn:Int) (pi pb rv nv fv sv ov:Value) (R:List D.Rule) (M:D.gJ) (L:List Int) (w:World) (hb:aC w pg 218 #[ah tn,pi,pb,rv,nv,fv,sv,ov]) (hR:iD w rv R) (hf:∀ x∈R,uS x) (zV:R.length<=16777216) (hM:tZ w (.agg #[nv,fv]) M) (zy:Dk M) (hL:aN w ov L) (hLz:L.length<=900) (hD:Ed A B w) (hG:Eg A B w) (hB:B<=w.heap.size) (hyes:xI R M tn=true) :
  Calls prog 158 #[aA pg] w λe w'=>(∃ v,e = .returned v/\aN w' v (Af R M tn.toNat L)/\∀ g,v.ownBlock=some g->w.heap.size<=g)/\ak w w':=by
 have aI:=bx (λW (h:ak w W)=>show ay W pg 0=some (ah tn)/\ay W pg 3=some rv/\ay W pg 4=some nv/\ay W pg 5=some fv/\ay W pg 7=some ov/\pg<W.heap.size from
  ⟨((hb.below h hb.lt).cell 0).trans rfl,((hb.below h hb.lt).cell 3).trans rfl,((hb.below h hb.lt).cell 4).trans rfl,((hb.below h hb.lt).cell 5).trans rfl,((hb.below h hb.lt).cell 7).trans rfl,(hb.below h hb.lt).lt⟩)
 have CG:=bx (λW (h:ak w W)=>adQ A B rv R (.agg #[nv,fv]) M tn ov L W (hR.below h) hf zV (hM.below h) zy (hL.below h) hLz (hD.below (h.mono hB)) (hG.below (h.mono hB)) (bP hB h.size) hyes);clear hb hR hf zV hM zy hL hLz hD hG hB hyes
 go_in
 go_wp2_with fail;have aX:=bx (show ak w w.drew from jg w 1);have dH:=bx (aI.o w.drew aX.o);refine jl 24 (λW'=>ay W' pg 0=some (ah tn)/\ay W' pg 3=some rv/\ay W' pg 4=some nv/\ay W' pg 5=some fv/\ay W' pg 7=some ov/\pg<W'.heap.size) (by kernel_rfl) ?_;generalize w.drew=WR at aX dH ⊢;refine jB [0,1,2,3,4,5,6,7,8,9,10,11,12,13,14,15,16,17,18] ?_
 iterate 19 (refine jA ?_ rfl dH.o ?_ ?_;rotate_left;·rintro w ⟨q1,q2,q3,q4,q5,q6⟩;go_simp;try with_reducible rfl)
 refine jr ?_;refine kP 19 rfl λKK au=>?_
 go_simp;refine(CG.o WR aX.o).mono ?_;rintro e w6 ⟨⟨v6,rfl,hv6,hf6⟩,hb6⟩;have Dz:=bx (λg hg=>bP aX.o.size (hf6 g hg));have Qe:=bx hv6;have eY:=aJ aX hb6;have HF6:=bx (aI.o w6 eY.o);clear hv6 hb6 hf6;refine au.out _ _ (λ_=>HF6.o) ?_;clear au KK;refine kP 20 rfl λKK au=>?_
 go_simp;refine au.out _ _ (λ_=>HF6.o) ?_;clear au KK;refine kS 21 ?_ rfl HF6.o ?_ ?_;rotate_left
 ·rintro w ⟨q1,q2,q3,q4,q5,q6⟩;go_simp;try with_reducible rfl
 refine kS 22 ?_ rfl HF6.o ?_ ?_;rotate_left
 ·rintro w ⟨q1,q2,q3,q4,q5,q6⟩;go_simp;try with_reducible rfl
 refine kP 23 rfl λKK au=>?_
 go_simp;refine au.out _ _ (λ_=>HF6.o) ?_;clear au KK;refine kP 24 rfl λKK au=>?_
 go_simp;refine au.out _ _ (λh=>by cases h) ?_;clear au KK;refine kD ?_ _
 go_wp2
 go_ret
 exact⟨⟨_,rfl,Qe.o,Dz.o⟩,eY.o⟩
theorem awf (A:Nat->Addr) (B:Nat) (v:Value) (t:Tab) (s:ByteArray) (w:World) (hv:TabAt w v t) (hs:nN t) (hz:s.size<=800) (hE:E A B w) (hD:Ed A B w) (hG:Eg A B w) (hT:zW w) (hB:B<=w.heap.size) :
  Calls prog 166 #[v, .string s] w λe w'=>(∃ v',e = .returned (.tuple #[v', ah (textE t s.data.toList)])/\aN w' v' (Ip t s.data.toList))/\ak w w':=by
 have gG:=bx (λW (h:ak w W)=>hv.below h);obtain⟨pi,pb,rv,nv,fv,rfl,h1,h2,h3,h4,h5⟩:=hv;obtain⟨V,hV⟩:∃ V,V=w.alloc (.cells #[ah t.n,pi,pb,rv,nv,fv] 31):=⟨_,rfl⟩
 have HB0:=bx (aB hV);have HK:=bx (aK hV);have aI:=bx (λW (h:ak V W)=>HK.o.d6 h);have HV:=bx hV;have nG:=bx hs;have HTY:=bx (λW (h:ak w W)=>show zW W from(h.cell (p:=⟨6,0,none⟩) (World.block_lt_of_cell? w _ hT)).trans hT);have xq:=bx (λW (h:ak w W)=>show Ed A B W/\Eg A B W/\B<=W.heap.size from⟨hD.below (h.mono hB),hG.below (h.mono hB),bP hB h.size⟩);have iM:=bx (λhe=>acO A B _ t s V (gG.o V HB0.o) hs (by omega) (xq.o V HB0.o).1 (xq.o V HB0.o).2.1 (xq.o V HB0.o).2.2 he);have fH:=bx (λhe=>Vk A B _ t s V (gG.o V HB0.o) hs (by omega) (hE.below (HB0.o.mono hB)) (xq.o V HB0.o).1 (xq.o V HB0.o).2.1 (xq.o V HB0.o).2.2 he);have HSL:=bx (show (jU t.p (dF s.data.toList)).length<=900 by unfold jU;rw [aV];have:=uJ s.data.toList;rw [<- size_eq] at this;omega)
 by_cases he:textE t s.data.toList=0
 ·obtain⟨t1,t2⟩:=Rz he;have t3:=t1;unfold nD at t3;rw [dD] at t3;have Gm:=bx t3.1;have HO:=bx (fH.o he);have lu:=bx (show Ip t s.data.toList=Af t.r t.m t.n.toNat (jU t.p (dF s.data.toList)) by unfold Ip rX;rw [aG he]);have HEZ:=bx he;have GL:=bx (λW (h:ak w W)=>show iD W rv t.r/\tZ W (.agg #[nv,fv]) t.m from⟨h3.below h,nv,fv,rfl,h4.below h,h5.below h⟩);clear h1 h2 h3 h4 h5 hV hs he t1 t2 t3 iM fH hD hE hG hB hT;obtain⟨tn,hn⟩:∃ n,n=t.n:=⟨_,rfl⟩
  rw [<- hn] at HV HK gG aI HO Gm lu ⊢;clear hn;obtain⟨k0,k1,k2,k3,k4,k5,kk⟩:=aI.o V aZ
  go_in
  go_upto_region 1 with(fail)
  rw [<- HV.o];go_wp2_with fail;refine HO.o.mono ?_;rintro e w1 ⟨zf,pb',rv',yU,zi,pg,ov,BR,rfl,hbk,hov,hb1⟩;obtain⟨rfl,rfl,rfl,rfl,rfl⟩:pi=zf/\pb=pb'/\rv=rv'/\nv=yU/\fv=zi:=by simpa using BR
  have HB1:=aJ HB0 hb1;have HC:=bx (Zr A B pg tn pi pb rv nv fv _ ov t.r t.m _ w1 hbk (GL.o w1 HB1.o).1 nG.o.r1 nG.o.r2 (GL.o w1 HB1.o).2 nG.o.m hov HSL.o (xq.o w1 HB1.o).1 (xq.o w1 HB1.o).2.1 (xq.o w1 HB1.o).2.2 Gm.o);clear BR hbk hov hb1 k0 k1 k2 k3 k4 k5 kk;go_wp2_with fail;refine HC.o.mono ?_;rintro e w2 ⟨⟨v2,rfl,hv2,-⟩,hb2⟩;have iV:=bx hv2;have HB2:=aJ HB1 hb2;clear hv2 hb2
  go_wp2
  go_ret2
  exact⟨⟨_,Nw rfl (Dy HEZ.o.symm),by rw [lu.o];exact iV.o⟩,HB2.o⟩
 have lu:=bx (show Ip t s.data.toList=[] by unfold Ip;rw [aF he]);have HO:=bx (iM.o he);obtain⟨r,hr⟩:∃ r,r=textE t s.data.toList:=⟨_,rfl⟩
 have HR:=bx hr;rw [<- hr] at HO;clear h1 h2 h3 h4 h5 hV hs he iM fH hD hE hG hB hT hr;obtain⟨tn,hn⟩:∃ n,n=t.n:=⟨_,rfl⟩
 rw [<- hn] at HV HK gG aI HO ⊢;clear hn;obtain⟨k0,k1,k2,k3,k4,k5,kk⟩:=aI.o V aZ
 go_in
 go_upto_region 1 with(fail)
 rw [<- HV.o];go_wp2_with fail;refine dI HO.o HB0.o λw1 HB1=>?_
 have HW:=bx (aeR 0 r w1 (HTY.o w1 HB1.o));clear k0 k1 k2 k3 k4 k5 kk;go_wp2_with fail;refine dI HW.o HB1.o λw2 HB2=>?_
 go_wp2
 go_ret2
 exact⟨⟨_,Nw rfl (Dy HR.o),by rw [lu.o];exact .nil⟩,HB2.o⟩
namespace C
def items (xs:List Int) (ns:List Nat):List (Nat×List UInt8):=(List.range (ns.length-1)).map λi=>(gQ xs (ns.getD i 0),piece xs ns i)
theorem Fp (xs:List Int) (ns:List Nat):(items xs ns).length=ns.length-1:=by unfold items;rw [aV,wF]
theorem UJ (xs:List Int) (ns:List Nat) {i:Nat} (h:i+1<ns.length):(items xs ns)[i]?=some (gQ xs (ns.getD i 0),piece xs ns i):=by
 unfold items;rw [eX,yj (by omega)]
 rfl
theorem avy (xs:List Int) (ns:List Nat) {i:Nat} (h:i+1<ns.length):items xs ns=(items xs ns).take i++(gQ xs (ns.getD i 0),piece xs ns i)::(items xs ns).drop (i+1):=by
 have hl:i<(items xs ns).length:=by rw [Fp];omega
 have e:=zS (l:=items xs ns) (i:=i) hl;have e2:=UJ xs ns h;rw [dW hl] at e2;injection e2 with e2;rw [e2] at e;rw [<- e];exact(oN i _).symm
theorem auy (xs:List Int) (ns:List Nat) {i:Nat} (h:i+1<ns.length):(items xs ns).take (i+1)=(items xs ns).take i++[(gQ xs (ns.getD i 0),piece xs ns i)]:=by
 rw [jw,UJ xs ns h]
 rfl
end C
theorem ac0 (p:Option Addr) (w:World) :
  Calls prog 88 #[.pointer p] w λe w'=>e = .returned (.func (.func 157) #[] #[aA (w.heap.size)])/\w.alloc (.cells #[.pointer p] 142)=w':=by
 go_in
 go_wp2
 go_ret
 exact⟨rfl,rfl⟩
theorem abg (n:Nat) (A:Nat->Addr) (B ob m Je pg:Nat) (c0 c1 c2 c3 c4 c5 c7:Value) (fx:List UInt8) (xs:List Int) (ns:List Nat) (l:Nat) (W1:World)
  (hm:m<=W1.heap.size) (hBo:B<=ob) (hom:ob<m) (hE:E A B W1) (hpx:aC W1 Je 142 #[aA pg]) (hpg:aC W1 pg 218 #[c0,c1,c2,c3,c4,c5, .string (bs fx),c7])
  (hpm:Je<m/\pg<m/\Je≠ob/\pg≠ob)
  (hcut:Calls prog 158 #[aA pg] W1 λe w'=>(∃ v,e = .returned v/\aN w' v (ns.map λn:Nat=>(n:Int))/\∀ g,v.ownBlock=some g->W1.heap.size<=g)/\ak W1 w')
  (hfx:fx=U.textOf xs) (hxr:∀ x∈xs,U.right x=true) (hr:wS xs.length ns) (hz:fx.length<=8000) :
  QC (n+1) prog 157 #[aA Je] (λx:Nat×List UInt8=>#[ah (x.1:Int), .string (bs x.2)]) (λ_=>False) (λk=>k<m/\k≠ob)
   (λpre x _=>∃ rest,C.items xs ns=pre++x::rest) (λys _=>ys=C.items xs ns) l W1:=by
 intro J Jx hJ hJx hY h0;have HY:=bx hY;have H0:=bx h0;have HJ:=bx hJ;have FU:=bx hfx;have BG:=bx hxr;have jX:=bx hr;have Vf:=bx (λ(s:ByteArray) W (hs:s.size<=maxLen) (hE:E A B W) (hB:B<=W.heap.size)=>(callsIn_wide (n:=n)).2 (QK A B s W hs hE hB));obtain⟨Q,hQ⟩:∃ Q,ns.length=Q:=⟨_,rfl⟩
 have HQ:=bx hQ;have YP:0<Q:=by rw [<- hQ];exact hr.ne
 have hxl:xs.length<=8000:=by have:=TW xs;rw [<- hfx] at this;omega
 have hQz:Q<=8001:=by have:=hr.len;omega
 have lG:=bx (show ∀ k,C.gQ xs k<=fx.length from λk=>by rw [hfx];exact C.aex xs k);have HEW:=bx hE;have HPX:=bx hpx;have HPG:=bx hpg;have SY:=bx hpm;have HC:=bx ((callsIn_wide (n:=n)).2 hcut);have p0:W1.cell? ⟨Je,0,none⟩=some (aA pg):=(hpx.cell 0).trans rfl;have p6:W1.cell? ⟨pg,6,none⟩=some (.string (bs fx)):=(hpg.cell 6).trans rfl;clear hY h0 hJ hJx hfx hxr hr hQ hE hpx hpg hpm hcut;refine callsIn_of_wp func157 rfl trivial ?_;simp only [ntmps157,qH,dY,iG,Nat.reduceAdd,Nat.reduceSub,rE,qW,ou,qQ,iJ,jd]
 gi_wp2
 refine wpIn_wide.2 (wp_scope_straight ((wpIn_wide (n:=n+1)).1 ?_))
 gi_wp2
 refine⟨trivial,HC.o.mono ?_⟩;rintro e w1 ⟨⟨v1,rfl,hv1,hfr⟩,hb1⟩;obtain⟨cg,kN,ag9,hcv,e2,e3,e4,e5⟩:=hv1.get (by intro h;have:=congrArg List.length h;rw [aV,HQ.o] at this;simp at this;omega);subst hcv;rw [aV,HQ.o] at e2 ⊢;have HE5:=bx e5;have aeA:W1.heap.size<=cg:=hfr cg rfl;have Jf:=bx (show cg<w1.heap.size/\W1.heap.size<=cg from⟨e4,aeA⟩);have HB1:=bx hb1;have yH:=bx (HEW.o.below (hb1.mono (by omega)));have Ky:=HPX.ub hb1;have tY:=HPG.ub hb1;have Mc:=bx (HJ.o w1.heap.size [] W1 w1 (H0.o w1.heap.size hb1.size) (Turns.of_below hb1));have hws:=hb1.size;unfold maxLen at e3;clear hv1 e5 hb1 aeA hfr p0 p6
 by_cases hc1:ag9=1
 ·subst hc1;obtain rfl:Q=1:=by omega
  have Bz:=bx (show C.items xs ns=[] by
   have h:=C.Fp xs ns;rw [HQ.o] at h;exact nR h)
  gi_wp2
  refine wpIn_label ?_
  gi_wp2
  gi_loopw [19] (λiv wr=>iv = ah 0/\wr=w1) (λ_ _=>0)
  ·exact⟨rfl,rfl⟩
  obtain⟨rfl,rfl⟩:=hrel
  gi_wp2
  rw [Exit.noGoto_normal]
  go_end0
  exact⟨⟨_,rfl⟩, .inl ⟨_,_,Bz.o.symm,Mc.o⟩⟩
 gi_wp2
 refine wpIn_label ?_
 gi_wp2
 gi_loopw [3,19] (λrv iv wr=>∃ k:Nat,k+1<=Q/\rv = .string (bs (fx.drop (C.gQ xs (ns.getD k 0))))/\iv = ah k/\Box (w1.heap.size<=wr.heap.size)/\Box (E A B wr)/\Box (aC wr Je 142 #[aA pg])/\Box (aC wr pg 218 #[c0,c1,c2,c3,c4,c5, .string (bs fx),c7]) /\
  Box (∀ (i:Nat) (x:Int),(ns.map λn:Nat=>(n:Int))[i]?=some x->wr.cell? ⟨cg,kN+i,none⟩=some (ah x))/\Box (J w1.heap.size ((C.items xs ns).take k) wr)) (λ_ iv _=>Q-(intOf iv).toNat)
 ·exact⟨0,YP,by rw [jX.o.first,C.asU,List.drop_zero],rfl,⟨bK _⟩,yH,Ky,tY,HE5,by rw [qN];exact Mc⟩
 obtain⟨k,hk,rfl,rfl,hsz,hEr,hpr,hgr,hcr,hj⟩:=hrel;obtain⟨WO,rfl⟩:∃ W,W=wr:=⟨_,rfl⟩
 by_cases hlt:k+1<Q
 ·obtain⟨a,ha⟩:=bV ns k (by rw [HQ.o];omega);obtain⟨b,hb⟩:=bV ns (k+1) (by rw [HQ.o];omega);have hga:ns.getD k 0=a:=by rw [fO,ha,jE]
  have hgb:ns.getD (k+1) 0=b:=by rw [fO,hb,jE]
  have hab:a<b:=by have:=jX.o.up k (by rw [HQ.o];exact hlt);rw [hga,hgb] at this;exact this
  have hbN:b<=xs.length:=by have:=jX.o.le (k+1) (by rw [HQ.o];exact hlt);rw [hgb] at this;exact this
  have HIS:=bx (C.avy xs ns (i:=k) (by rw [HQ.o];exact hlt));have HIT:=bx (C.auy xs ns (i:=k) (by rw [HQ.o];exact hlt));have ND:=bx (show C.piece xs ns k=(fx.drop (C.gQ xs a)).take (C.gQ xs b-C.gQ xs a) by
   unfold C.piece;rw [hga,hgb,FU.o,C.aiH xs (G9 hab)])
  rw [hga] at HIS HIT ⊢;have PE:=bx hgb;have ca1:=hcr.o k (a:Int) (by rw [eX,ha];rfl);have cb1:=hcr.o (k+1) (b:Int) (by rw [eX,hb];rfl);have qL:=bx (λW (h:ak WO W)=>show ay W cg (kN+k)=some (ah (a:Nat))/\ay W cg (kN+(k+1))=some (ah (b:Nat)) from⟨(h.cell (p:=⟨cg,kN+k,none⟩) (fC Jf.o.1 hsz.o)).trans ca1,(h.cell (p:=⟨cg,kN+(k+1),none⟩) (fC Jf.o.1 hsz.o)).trans cb1⟩);have hcl:cg<WO.heap.size:=fC Jf.o.1 hsz.o;have e20:decide (k<Q-1)=true:=bD (by omega);have e21:decide ((k:Int)<((Q-1:Nat):Int))=true:=bD (by omega);have hkQ:(k:Int)<(Q:Int):=by omega
  have hkJ:(k:Int)+1<(Q:Int):=by omega
  have hk1:IntKind.i64.wrap ((k:Int)+1)=(k:Int)+1:=by rw [yC];omega
  have hk2:(0:Int)<=(k:Int)+1:=by omega
  have hk3:((k:Int)+1).toNat=k+1:=by omega
  clear ha hb hga hgb
  gi_wp2
  refine wpIn_wide.2 ?_
  go_quiet (fail)
  have aX:=bx (uT WO nq);generalize WO.drewN nq=WR at aX ⊢;clear ca1 cb1;clear hk1 hk2 hk3;obtain⟨A0,hA0⟩:∃ A0,A0=C.gQ xs a:=⟨_,rfl⟩
  obtain⟨B0,hB0⟩:∃ B0,B0=C.gQ xs b:=⟨_,rfl⟩
  rw [<- hA0,<- hB0] at ND;rw [<- hA0] at HIS HIT ⊢;have XO:=bx hA0;have HB0:=bx hB0;obtain⟨R,hR⟩:∃ R,R=fx.drop A0:=⟨_,rfl⟩
  have HR:=bx hR;rw [<- hR] at ND ⊢;have hmn:=C.YG xs (G9 hab);rw [<- hA0,<- hB0] at hmn;have hfl:=lG.o b;rw [<- hB0] at hfl;have DY:=bx (show R.length=fx.length-A0 by rw [hR,gy]);have TF:=bx (show ∀ q,a+q<=b->C.gQ xs (a+q)-A0<=B0-A0/\A0<=C.gQ xs (a+q) from λq hq=>by
   have h1:=C.YG xs hq;have h2:=C.YG xs (Nat.le_add_right a q);rw [<- XO.o] at h2;rw [<- HB0.o] at h1;omega)
  have Xc:=bx hmn;have zV:R.length<=8000:=by rw [DY.o];omega
  have CX:B0-A0<=R.length:=by rw [DY.o];omega
  obtain⟨D,hD⟩:∃ D,b=a+D:=Nat.exists_eq_add_of_le (G9 hab);have adl:(b:Int)-(a:Int)=(D:Int):=by omega
  have ay1:D<=8000:=by omega
  have xq:=bx hD;have Ce:=bx (hEr.o.below (aX.o.mono (by have:=hsz.o;omega)));have HDE:=bx (show ∀ q,q<D->∃ d:Nat,AB (R.drop (C.gQ xs (a+q)-A0)) = .tuple #[ah (xs.getD (a+q) 0), ah (d:Int), .bool true]/\C.gQ xs (a+(q+1))-A0=(C.gQ xs (a+q)-A0)+d from λq hq=>by
   have hk:a+q<xs.length:=by have:=xq.o;omega
   have h1:=C.av2 xs BG.o hk;have h2:=TF.o q (by have:=xq.o;omega);have h4:=C.awc xs hk;refine⟨(U.enc (xs.getD (a+q) 0)).length,?_,by rw [show a+(q+1)=a+q+1 by omega];omega⟩;rw [HR.o,List.drop_drop,show A0+(C.gQ xs (a+q)-A0)=C.gQ xs (a+q) by omega,FU.o];unfold AB;rw [h1]
   rfl)
  rw [adl];clear hA0 hB0 hR hmn hfl adl hD
  gi_wp2
  gi_loopw [6,32] (λnv jv wx=>∃ q:Nat,q<=D/\nv = ah ((C.gQ xs (a+q)-A0:Nat):Int)/\jv = ah q/\Box (ak WR wx)) (λ_ jv _=>(D)-(intOf jv).toNat)
  ·exact⟨0,nK _,by rw [Nat.add_zero,<- XO.o,Nat.sub_self];rfl,rfl,⟨Below.refl _ _⟩⟩
  obtain⟨q,hq,rfl,rfl,hbx⟩:=hrel
  by_cases Kq:q<D
  ·obtain⟨d,hdv,hd⟩:=HDE.o q Kq;have hn1:=(TF.o q (by have:=xq.o;omega)).1;have hn2:=(TF.o (q+1) (by have:=xq.o;omega)).1;have HD2:=bx hd;obtain⟨nq,hnq⟩:∃ nq,nq=C.gQ xs (a+q)-A0:=⟨_,rfl⟩
   rw [<- hnq] at hdv hd hn1 ⊢;have HDV:=bx hdv;have hsl:=Gq (P:=prog) (T:=9) underlying9 R nq nq rfl (by omega);have HEX:=bx (Vf.o (bs (R.drop nq)) wr (by rw [dN,gy];unfold maxLen;omega) (Ce.o.below (hbx.o.mono (by have:=aX.o.size;have:=hsz.o;omega))) (by have:=hbx.o.size;have:=aX.o.size;have:=hsz.o;omega));have hds:nq+d<=8000:=by rw [<- hd];omega
   have HD2:=bx hd;clear hdv hd hn1 hn2 hnq
   gi_wp2
   refine⟨trivial,HEX.o.mono ?_⟩;rintro e w5 ⟨rfl,hb5⟩;rw [xZ,HDV.o];have bU:=aJ hbx hb5;clear hb5 hsl
   gi_wp2
   go_roundw
   ·exact⟨q+1,by omega,Dy (by have:=HD2.o;omega),by go_num,bU⟩
   simp [intOf];omega
  obtain rfl:q=D:=by omega
  have hpl:C.gQ xs (a+q)-A0=B0-A0:=by rw [<- xq.o,<- HB0.o]
  rw [hpl];obtain⟨PL,ZY⟩:∃ PL,PL=B0-A0:=⟨_,rfl⟩
  have jq:=bx ZY;rw [<- ZY] at ND CX ⊢;obtain⟨X,hX⟩:∃ X,X=R.take PL:=⟨_,rfl⟩
  have hup:=Ef (P:=prog) (T:=9) underlying9 R PL PL rfl CX;rw [<- hX] at ND hup;rw [ND.o] at HIS HIT;have HXP:=bx (bt aX.o hbx.o);clear hpl ZY hX
  gi_wp2
  refine wpIn_region_any (by kernel_rfl) ?_;show wpAnyIn _ _ _ _ _ _ _ _ _ wr.drew
  have jR:=bx (show ak WO wr.drew from HXP.o.trans ((jg wr 1).mono HXP.o.size));have Ij:=hpr.ub jR.o;have MX:=hgr.ub jR.o;have p0:wr.drew.cell? ⟨Je,0,none⟩=some (aA pg):=(Ij.o.cell 0).trans rfl;have p6:wr.drew.cell? ⟨pg,6,none⟩=some (.string (bs fx)):=(MX.o.cell 6).trans rfl;generalize wr.drew=WD at jR Ij MX p0 p6 ⊢;have z1:(bs fx).size=fx.length:=dN fx;have z2:(bs R).size=R.length:=dN R;have z3:=DY.o;have z4:=lG.o b;have z5:A0<=fx.length:=by have:=TF.o 0 (by omega);have:=lG.o a;rw [<- XO.o] at this;exact this
  have amw:fx.length<=8000:=hz;refine wpAnyIn_take (i:=0) (v:=.func (.yield l) #[] #[]) rfl rfl (by kernel_rfl) (by kernel_rfl) (by kernel_rfl) (λ_ _ _ h=>h) ⟨Or.inl ⟨by kernel_rfl,?_⟩,λ_=>rfl⟩ ?_
  ·intro w;rfl
  refine wpAnyIn_take (i:=6) (v:=.string (bs R)) rfl rfl (by kernel_rfl) (by kernel_rfl) (by kernel_rfl) (λ_ _ _ h=>h) ⟨Or.inl ⟨by kernel_rfl,?_⟩,λ_=>rfl⟩ ?_
  ·intro w;rfl
  refine wpAnyIn_take (i:=7) (v:=ah ((bs R).size:Int)) rfl rfl (by kernel_rfl) (by kernel_rfl) (by kernel_rfl) (λ_ _ _ h=>h) ⟨Or.inl ⟨by kernel_rfl,?_⟩,λ_=>rfl⟩ ?_
  ·intro w;go_simp
  refine wpAnyIn_take (i:=9) (v:=.string (bs R)) rfl rfl (by kernel_rfl) (by kernel_rfl) (by kernel_rfl) (λ_ _ _ h=>h) ⟨Or.inl ⟨by kernel_rfl,?_⟩,λ_=>rfl⟩ ?_
  ·intro w;rfl
  refine wpAnyIn_take (i:=10) (v:=ah (PL:Nat)) rfl rfl (by kernel_rfl) (by kernel_rfl) (by kernel_rfl) (λ_ _ _ h=>h) ⟨Or.inl ⟨by kernel_rfl,?_⟩,λ_=>rfl⟩ ?_
  ·intro w;rfl
  refine wpAnyIn_take (i:=11) (v:=.string (bs X)) rfl rfl (by kernel_rfl) (by kernel_rfl) (by kernel_rfl) (λ_ _ _ h=>h) ⟨Or.inl ⟨by kernel_rfl,?_⟩,λ_=>rfl⟩ ?_
  ·intro w;have q1:=hup w;go_simp
  refine wpAnyIn_ready (rs:=[1]) (by kernel_rfl) (by simp) (AllReadyIn.cons rfl (λKK hK=>?_) AllReadyIn.nil);have mD:=bx hK;clear hK;go_simp;refine mD.o _ _ ?_;clear mD KK;refine wpAnyIn_ready (rs:=[2]) (by kernel_rfl) (by simp) (AllReadyIn.cons rfl (λKK hK=>?_) AllReadyIn.nil);have mD:=bx hK;clear hK;go_simp;refine mD.o _ _ ?_;clear mD KK;refine wpAnyIn_ready (rs:=[3]) (by kernel_rfl) (by simp) (AllReadyIn.cons rfl (λKK hK=>?_) AllReadyIn.nil);have mD:=bx hK;clear hK;go_simp;refine mD.o _ _ ?_;clear mD KK;refine wpAnyIn_ready (rs:=[4]) (by kernel_rfl) (by simp) (AllReadyIn.cons rfl (λKK hK=>?_) AllReadyIn.nil);have mD:=bx hK;clear hK;go_simp;refine mD.o _ _ ?_;clear mD KK;refine wpAnyIn_ready (rs:=[5]) (by kernel_rfl) (by simp) (AllReadyIn.cons rfl (λKK hK=>?_) AllReadyIn.nil);have mD:=bx hK;clear hK;go_simp;refine mD.o _ _ ?_;clear mD KK;refine wpAnyIn_ready (rs:=[8]) (by kernel_rfl) (by simp) (AllReadyIn.cons rfl (λKK hK=>?_) AllReadyIn.nil);have mD:=bx hK;clear hK;go_simp;refine mD.o _ _ ?_;clear mD KK;have e54:IntKind.i64.wrap ((fx.length:Int)-((fx.length-A0:Nat):Int))=(A0:Int):=by rw [yC];omega
  rw [e54];have hy0:=HY.o w1.heap.size _ (A0,X) WO WD hws (bP hsz.o jR.o.size) hj.o (Turns.of_below jR.o) ⟨_,HIS.o⟩;obtain⟨fn,tmps,assign,body,hy,lT⟩:=hy0;have rV:=bx lT;clear lT p0 p6 z1 z2 z3 z4 z5 amw e54;refine wpAnyIn_ready (rs:=[12]) (by kernel_rfl) (by simp) (AllReadyIn.cons rfl (λKK hK=>?_) AllReadyIn.nil);have mD:=bx hK;clear hK;go_simp;refine rV.o.mono ?_;rintro e W3 (⟨rfl,hj3,ht3⟩ | ⟨rfl,hx3⟩)
  ·have sK:=bx hj3;have hwd:=jR.o.size;have hso:=hsz.o;have HB3:=bx (show Below B WD W3 from ht3.below (by omega) (λq hq=>Nat.le_of_not_lt (λhlt=>hq (.inl ⟨by omega,by omega⟩))));have Rf:=bx (show E A B W3 from(hEr.o.below (jR.o.mono (by omega))).below HB3.o);have HP3:=bx (ht3.blk Ij.o (λhn=>hn (.inl ⟨SY.o.1,SY.o.2.2.1⟩)));have qR:=bx (ht3.blk MX.o (λhn=>hn (.inl ⟨SY.o.2.1,SY.o.2.2.2⟩)));have iw:=bx (show ∀ (i:Nat) (x:Int),(ns.map λn:Nat=>(n:Int))[i]?=some x->W3.cell? ⟨cg,kN+i,none⟩=some (ah x) from λi x hx =>
    (World.cell?_of_block (ht3.block cg (by have:=Jf.o.1;omega) (λhn=>hn (.inr (.inl ⟨Jf.o.2,Jf.o.1⟩))))).trans ((jR.o.cell (p:=⟨cg,kN+i,none⟩) (by have:=Jf.o.1;omega)).trans (hcr.o i x hx)))
   have aS:=bx (show w1.heap.size<=W3.heap.size from bP (bP hso hwd) ht3.size);have hdr:=Gq (P:=prog) (T:=9) underlying9 R PL PL rfl CX;have NP:=bx (show R.drop PL=fx.drop (C.gQ xs (ns.getD (k+1) 0)) by rw [HR.o,List.drop_drop,PE.o,<- HB0.o,jq.o];congr 1;have:=Xc.o;omega);clear hj3 ht3 hy hwd hso hup;refine mD.o _ _ ?_;clear mD KK;refine wpAnyIn_ready (rs:=[13]) (by kernel_rfl) (by simp) (AllReadyIn.cons rfl (λKK hK=>?_) AllReadyIn.nil);have mD:=bx hK;clear hK;go_simp;refine mD.o _ _ ?_;clear mD KK;refine wpAnyIn_done (by kernel_rfl) ?_ _
   gi_wp2
   go_roundw
   ·exact⟨k+1,by omega,by rw [NP.o],by go_num,aS,Rf,HP3,qR,iw,by rw [HIT.o];exact sK⟩
   simp [intOf];omega
  have pG:=bx hx3;clear hx3 hy hup;refine mD.o _ _ ?_;clear mD KK;refine wpAnyIn_ready (rs:=[13]) (by kernel_rfl) (by simp) (AllReadyIn.cons rfl (λKK hK=>?_) AllReadyIn.nil);have mD:=bx hK;clear hK;go_simp;refine mD.o _ _ ?_;clear mD KK;refine wpAnyIn_done (by kernel_rfl) ?_ _
  gi_wp2
  rw [Exit.noGoto_normal]
  go_end0
  exact⟨⟨_,rfl⟩, .inr ⟨_,_,pG.o⟩⟩
 obtain rfl:k+1=Q:=by omega
 have Bz:=bx (show (C.items xs ns).take k=C.items xs ns from gq (by rw [C.Fp,HQ.o];omega));rw [Bz.o] at hj;have e20:decide (k<k+1-1)=false:=dh (by omega);have e21:decide ((k:Int)<((k+1-1:Nat):Int))=false:=dh (by omega)
 gi_wp2
 rw [Exit.noGoto_normal]
 go_end0
 exact⟨⟨_,rfl⟩, .inl ⟨_,_,rfl,hj.o⟩⟩
end Go.Proofs.YtdponihkpomheaaGreatDoor
