/- Texts of this claim. -/
import Derived.Lib.Strings
import Derived.Test.YtdponihkpomheaaGreatDoorH5

set_option maxHeartbeats 16000000
set_option maxRecDepth 100000
namespace Go.Proofs.YtdponihkpomheaaGreatDoor
open Go.RowKit
open Tryz
def amT:Option (Int×Nat)->Value
 | none=>.tuple #[ah 0, ah 0, .bool false]
 | some (r,n)=>.tuple #[ah r, ah (n:Int), .bool true]
def AB (l:List UInt8):Value:=amT (U.dec l)
theorem afC (r:Int) (w:World) :
  Calls prog 191 #[ah r] w λe w'=>e = .returned (.bool (U.right r))/\w=w':=by
 go_in
 go_wp2
 all_goals go_ret
 all_goals exact⟨aY (by first | (simp [U.right, *];done) | (simp [U.right];omega)),rfl⟩
theorem isEmpty_nil {s:ByteArray} (h:s.data.toList=[]):s.toList.isEmpty=true:=by rw [MV,h];rfl
theorem isEmpty_cons {s:ByteArray} {c:UInt8} {t:List UInt8} (h:s.data.toList=c::t):s.toList.isEmpty=false:=by rw [MV,h];rfl
def En (r:Int):Value:=if U.right r=true then .tuple #[.string ⟨(U.enc r).toArray⟩, ah 0] else .tuple #[.string ⟨#[]⟩, ah 10]
theorem aco {r:Int} (h:U.right r=false):En r = .tuple #[.string ⟨#[]⟩, ah 10]:=by unfold En;rw [aF (by rw [h];decide)]
theorem amG {r:Int} {l:List Int} (h:U.right r=true) (hl:l.map U.byte=U.enc r):Value.tuple #[.string (strOfNums l), ah 0]=En r:=by
 unfold En;rw [aG h,<- hl];rfl
section
open Go.Shelf
attribute [local go_sem] Oper.semAt_some
theorem auC (v:Value) (M:D.gJ) (w0 w:World) (hv:tZ w0 v M) (hb0:ak w0 w) :
  Calls prog 112 #[v] w λe w'=>ak w w'/\∃ nv fv vs,e = .returned (.agg #[nv,fv])/\Ba w0 vs (FB M).1/\w'.ownsRow w.heap.size 22 1 nv vs.length vs/\aN w0 fv (FB M).2:=by
 obtain⟨na,fa,rfl,hra,hia⟩:=hv;have zY:=bx hra;have HB0:=bx hb0;obtain⟨aa,ca,rfl⟩:=hra.slice;obtain⟨fo,fc,rfl⟩:=hia.slice;obtain⟨hf1,hf2⟩:=Nl hia;have AZ:=bx (Nh hia 302);obtain⟨nf,hnf⟩:∃ nf,(M.2.take 302).length=nf:=⟨_,rfl⟩
 have Lm:=bx (show nf=min 302 M.2.length by rw [<- hnf,dw]);rw [hnf] at AZ;have amM:=bx hnf;obtain⟨m,hm⟩:∃ m,m=min M.1.length 302:=⟨_,rfl⟩
 have HM:=bx hm;have hm1:m<=M.1.length:=by omega
 have hm2:m<=302:=by omega
 obtain⟨w3,hw3⟩:∃ w3,w3=((w.alloc (.cells #[.slice aa M.1.length ca, .slice fo M.2.length fc] 29)).alloc (.cells #[aj, aj] 29)).alloc (.cells #[aj, .slice fo nf fc] 29):=⟨_,rfl⟩
 have aS:=bx (show ∃ vs,Ba w0 vs ((M.1.take 0).map Pv)/\Sep [Pc.row w.heap.size 22 1 (aj) 0 vs,Pc.blk (w.heap.size+1+1) 29 #[aj, .slice fo nf fc],Pc.blk (w.heap.size+1) 29 #[aj, aj],Pc.blk w.heap.size 29 #[.slice aa M.1.length ca, .slice fo M.2.length fc],Pc.old w.heap.size w] w3 by
  have h1:=(((Sep.start w).eu 29 #[.slice aa M.1.length ca, .slice fo M.2.length fc]).eu 29 #[aj, aj]).eu 29 #[aj, .slice fo nf fc];refine⟨[],⟨rfl,λi r h=>by simp at h⟩,?_⟩;rw [hw3];have h2:=h1.kV w.heap.size 1 22
  simpa using h2)
 have HW3:=bx hw3;clear hb0 hra hia hm hnf hw3
 go_in
 rcases (show (302<M.2.length/\nf=302)\/(M.2.length<=302/\nf=M.2.length) by have:=Lm.o;omega) with⟨hq,hq2⟩ | ⟨hq,hq2⟩
 all_goals
  have hw3:=HW3.o;have RD:min (M.2.length:Int) 302=(nf:Int):=by omega
  go_upto_region 2 with(fail)
  first | rw [hq2] at hw3 | skip
  rw [<- hw3];clear hw3 RD hq hq2;go_wp2_with fail
  go_loopw [4] (λi wr=>∃ k:Nat,k<=m/\i = ah k/\Box (∃ nv vs,Ba w0 vs ((M.1.take k).map Pv)/\Sep [Pc.row w.heap.size 22 1 nv k vs,Pc.blk (w.heap.size+1+1) 29 #[nv, .slice fo nf fc],Pc.blk (w.heap.size+1) 29 #[aj, aj],Pc.blk w.heap.size 29 #[.slice aa M.1.length ca, .slice fo M.2.length fc],Pc.old w.heap.size w] wr)) (λi _=>m-(intOf i).toNat)
  ·obtain⟨vs,h1,h2⟩:=aS.o;exact⟨0,by omega,rfl,⟨_,vs,h1,h2⟩⟩
  obtain⟨k,hk,rfl,hbox⟩:=hrel;obtain⟨nv,vs,hvs,hsep⟩:=hbox.o;have AV:=bx (HB0.o.trans ((hsep.bel (n:=w.heap.size) (W0:=w) (by simp)).mono HB0.o.size));have vT:=bx hvs;have BZ:=bx hsep;have dL:=bx (show ak w wr from hsep.bel (by simp));obtain⟨no,nc,rfl,hn1,hn2⟩:=gI (hsep.row 0 rfl);have qR:=bx (hsep.blk 1 rfl);have HG2:=bx (hsep.blk 2 rfl);have tY:=bx (hsep.blk 3 rfl);have g1:wr.cell? ⟨w.heap.size,0,none⟩=some (.slice aa M.1.length ca):=(tY.o.cell 0).trans rfl;have l1:=tY.o.lt;clear hvs hsep hbox
  by_cases hlt:k<m
  ·obtain⟨x,hx⟩:=bV M.1 k (by omega);obtain⟨pa,oa,ca',ha0,ha1,ha2,pK,kQ⟩:=zY.o.get (by intro e;rw [e] at hx;simp at hx);obtain⟨rfl,rfl⟩:=dQ ha0;obtain⟨xv,hxc,hxi⟩:=kQ k x hx;obtain⟨xo,xc,rfl⟩:=hxi.slice;obtain⟨hx1,hx2⟩:=Nl hxi;have Oh:=bx (Nh hxi 34);obtain⟨q,hq⟩:∃ q,(x.take 34).length=q:=⟨_,rfl⟩
   have HQ:=bx (show q=min 34 x.length by rw [<- hq,dw]);rw [hq] at Oh;have nH:=bx (QB M.1 k x hx);have iE:=bx (show ∀ W,ak wr W->ay W (w.heap.size+1+1) 0=some (.slice no k nc)/\ay W w.heap.size 0=some (.slice (some ⟨pa,oa,none⟩) M.1.length ca)/\ay W pa (oa+k)=some (.slice xo x.length xc) from λW h =>
    ⟨((qR.o.below h qR.o.lt).cell 0).trans rfl,((tY.o.below h tY.o.lt).cell 0).trans rfl,((bt AV.o h).cell (p:=⟨pa,oa+k,none⟩) pK).trans hxc⟩)
   have aX:=bx (show ak wr wr.drew from⟨rfl,rfl,rfl,bK _,λ_ _=>rfl⟩);have dP:=bx BZ.o.drew;have Py:w.heap.size<=wr.drew.heap.size:=dL.o.size;have ayu:k<302:=by omega
   have hkl:k<M.1.length:=by omega
   have hkc:k<ca:=by omega
   have l3:=qR.o.lt;unfold maxLen at ha2;clear ha0 kQ hx hxc hxi hq;go_wp2_with fail
   rcases (show ((34:Int)<(x.length:Int)/\(34:Int)<=(xc:Int)/\q=34)\/(¬ (34:Int)<(x.length:Int)/\(x.length:Int)<=(xc:Int)/\q=x.length) by have:=HQ.o;omega) with⟨hq1,hq3,rfl⟩ | ⟨hq1,hq3,rfl⟩
   all_goals
    refine jl 16 (λW=>ay W (w.heap.size+1+1) 0=some (.slice no k nc)/\ay W w.heap.size 0=some (.slice (some ⟨pa,oa,none⟩) M.1.length ca)/\ay W pa (oa+k)=some (.slice xo x.length xc)) (by kernel_rfl) ?_;have gK:=bx (iE.o _ aX.o);have yG:=bx (λo=>iE.o _ (aX.o.alloc aX.o.size o));generalize wr.drew=WR at *;refine jB [0,1,2,3,4,5,6,7,8,9,10,11,12,13,14] ?_
    iterate 15 (refine jA ?_ rfl gK.o ?_ ?_;rotate_left;·rintro w ⟨q1,q2,q3⟩;go_simp;try with_reducible rfl)
    refine jr ?_;refine kP 15 rfl λKK au=>?_
    go_simp;refine au.out _ _ (λ_=>yG.o _) ?_;clear au KK;refine kP 16 rfl λKK au=>?_
    refine KU rfl _ _ 23 rfl TA dP.o 0 rfl (by kernel_rfl) (by kernel_rfl) rfl (by omega) (by omega) Py ?_;rintro v' w9 mF ⟨g9,c9,rfl,h91,h92⟩;refine au.out _ _ (λh=>by cases h) ?_;clear au KK;have fA:=bx (mF.blk 1 rfl);have z0:=(fA.o.cell 0).trans (show _=some (Value.slice no k nc) from rfl);have z1:=fA.o.frozen 0;have z2:=fA.o.lt;have Z5:=bx (mF.set 1 rfl 0 (.slice (some ⟨g9,0,none⟩) (k+1) c9));clear mF;refine kP 17 rfl λKK au=>?_
    go_simp;refine au.out _ _ (λh=>by cases h) ?_;clear au KK;refine kP 18 rfl λKK au=>?_
    go_simp;refine au.out _ _ (λh=>by cases h) ?_;clear au KK;refine kD ?_ _;have HN:=bx (show ∃ nv vs,Ba w0 vs ((M.1.take (k+1)).map Pv)/\Sep [Pc.row w.heap.size 22 1 nv (k+1) vs,Pc.blk (w.heap.size+1+1) 29 #[nv, .slice fo nf fc],Pc.blk (w.heap.size+1) 29 #[aj, aj],Pc.blk w.heap.size 29 #[.slice (some ⟨pa,oa,none⟩) M.1.length ca, .slice fo M.2.length fc],Pc.old w.heap.size w] _ by
     refine⟨_,_,?_,Z5.o⟩;rw [nH.o,gX];exact vT.o.snoc Oh.o)
    go_wp2
    go_roundw
    ·exact⟨k+1,hlt,by go_num,HN⟩
    simp [intOf];omega
  have hkm:k=m:=by omega
  have Ho:=bx hkm;have hd:M.1.length<=k\/(k<M.1.length/\302<=k):=by have:=HM.o;omega
  have z0:wr.cell? ⟨w.heap.size+1+1,0,none⟩=some (.slice no k nc):=(qR.o.cell 0).trans rfl;have z1:wr.cell? ⟨w.heap.size+1+1,1,none⟩=some (.slice fo nf fc):=(qR.o.cell 1).trans rfl;have z2:=qR.o.lt;have y0:=(HG2.o.cell 0).trans (show _=some (Value.slice none 0 0) from rfl);have y1:=(HG2.o.cell 1).trans (show _=some (Value.slice none 0 0) from rfl);have f0:=HG2.o.frozen 0;have f1:=HG2.o.frozen 1;have y2:=HG2.o.lt;have gV:=bx ((BZ.o.set 2 rfl 0 (.slice no k nc)).set 2 rfl 1 (.slice fo nf fc));have Zt:=bx (show (M.1.take k).map Pv=(FB M).1 by
   unfold FB;simp only;rw [Ho.o,HM.o]
   rcases Nat.le_total M.1.length 302 with h | h
   ·rw [sH h,mQ,gq h];rfl
   rw [Nat.min_eq_right h];rfl)
  have CU:=bx (show k=((M.1.take k).map Pv).length by rw [aV,dw];have:=HM.o;omega);clear hkm
  rcases hd with hd | ⟨hd,hd2⟩
  all_goals
   go_wp2_with fail;have Ak:=gV.o.bel (n:=w.heap.size) (W0:=w) (by simp);refine bodyPost_ret (v:=.agg #[.slice no k nc, .slice fo nf fc]) (results_cell_row results112 _ _ (w.heap.size+1) 29 _ (0,0) _ rfl (gV.o.blk 2 rfl) underlying29 rfl Rt) rfl ⟨Ak,_,_,vs,rfl,?_,?_,AZ.o⟩
   ·rw [<- Zt.o];exact vT.o
   rw [vT.o.1,<- CU.o];exact gV.o.row 0 rfl
theorem av8 (v:Value) (l:List D.Rule) (w0 w:World) (hv:iD w0 v l) (hb0:ak w0 w) :
  Calls prog 110 #[v] w λe w'=>ak w w'/\∃ v',e = .returned v'/\∃ L:List (D.Rule×Value×Value),L.map (·.1)=Ic l/\JV w0 L/\w'.ownsRow w.heap.size 254 5 v' L.length (L.flatMap Ag):=by
 have HR:=bx hv;have HB0:=bx hb0;obtain⟨ao,cap,rfl⟩:=hv.slice;obtain⟨m,hm⟩:∃ m,m=min l.length 42:=⟨_,rfl⟩
 have HM:=bx hm;have hm1:m<=l.length:=by omega
 have hm2:m<=42:=by omega
 have bQ:=bx (show ∃ L:List (D.Rule×Value×Value),L.length=0/\L.map (·.1)=(l.take 0).map Ik/\JV w0 L/\Sep [Pc.row w.heap.size 254 5 (aj) 0 (L.flatMap Ag),Pc.old w.heap.size w] w from
  ⟨[],rfl,rfl,λy hy=>absurd hy iH,(Sep.start w).kV _ _ _⟩)
 clear hv hm hb0
 go_in
 go_wp2_with fail
 go_loopw [3,4] (λo i wr=>∃ k:Nat,k<=m/\i = ah k/\Box (∃ L:List (D.Rule×Value×Value),L.length=k/\L.map (·.1)=(l.take k).map Ik/\JV w0 L/\Sep [Pc.row w.heap.size 254 5 o k (L.flatMap Ag),Pc.old w.heap.size w] wr)) (λ_ i _=>m-(intOf i).toNat)
 ·exact⟨0,by omega,rfl,bQ⟩
 obtain⟨k,hk,rfl,hbox⟩:=hrel;obtain⟨L,hL1,hL2,hL3,hsep⟩:=hbox.o;have dL:=bx (show ak w wr from hsep.bel (by simp));have AV:=bx (bt HB0.o dL.o);have nM:=bx hL1;have HL2:=bx hL2;have zI:=bx hL3;have BZ:=bx hsep;obtain⟨oo,oc,rfl,ho1,ho2⟩:=gI (hsep.row 0 rfl);clear hbox hL1 hL2 hL3 hsep
 by_cases hlt:k<m
 ·obtain⟨x,hx⟩:=bV l k (by omega);obtain⟨bg,off,cap2,hg1,hg2,hg3,hg4,hg5⟩:=(HR.o.below AV.o).get (by rintro rfl;simp at hm1;omega);obtain⟨rfl,rfl⟩:=dQ hg1;obtain⟨vl,vr,hc0,hc1,hc2,hc3,hc4,hil,hir⟩:=hg5 k x hx;obtain⟨bg',off',aya,kg1,kg2,kg3,kg4,kg5⟩:=HR.o.get (by rintro rfl;simp at hm1;omega);obtain⟨rfl,rfl⟩:bg=bg'/\off=off':=by injection kg1 with h1 h2 h3;injection h1 with h1;injection h1 with h1 h2;exact⟨h1,h2⟩
  obtain⟨vl',vr',kc0,kc1,kc2,kc3,kc4,QW,Ro⟩:=kg5 k x hx;obtain rfl:vl=vl':=by
   have:=(AV.o.cell (p:=⟨bg,off+k*5+1,none⟩) kg4).trans kc1;rw [hc1] at this;simpa using this
  obtain rfl:vr=vr':=by
   have:=(AV.o.cell (p:=⟨bg,off+k*5+3,none⟩) kg4).trans kc3;rw [hc3] at this;simpa using this
  have kK:=bx (λW (h:ak w0 W)=>aiy x.1.1 vl x.1.2 W (QW.below h));have HCR:=bx (λW (h:ak w0 W)=>aiy x.2.1.1 vr x.2.1.2 W (Ro.below h));have CU:=bx QW;have HKR:=bx Ro;have nH:=bx (QB l k x hx);have axV:k<42:=by omega
  have hkl:k<l.length:=by omega
  have hkc:k<cap:=by omega
  unfold maxLen at hg3;obtain⟨al,cl,rfl⟩:=QW.slice;obtain⟨ar,cr,rfl⟩:=Ro.slice;obtain⟨⟨vV,il⟩,⟨str,ir⟩,br⟩:=x;simp only at hc0 hc1 hc2 hc3 hc4 kK HCR CU HKR;have iE:=bx (show ∀ W,ak wr W->ay W bg (off+k*5)=some (.bool vV)/\ay W bg (off+k*5+1)=some (.slice al il.length cl)/\ay W bg (off+k*5+2)=some (.bool str)/\ay W bg (off+k*5+3)=some (.slice ar ir.length cr)/\ay W bg (off+k*5+4)=some (.bool br) from λW h =>
   ⟨(h.cell (p:=⟨bg,off+k*5,none⟩) hg4).trans hc0,(h.cell (p:=⟨bg,off+k*5+1,none⟩) hg4).trans hc1,(h.cell (p:=⟨bg,off+k*5+2,none⟩) hg4).trans hc2,(h.cell (p:=⟨bg,off+k*5+3,none⟩) hg4).trans hc3,(h.cell (p:=⟨bg,off+k*5+4,none⟩) hg4).trans hc4⟩)
  have aX:=bx (show ak wr wr.drew from⟨rfl,rfl,rfl,bK _,λ_ _=>rfl⟩);clear hg1 hg5 kg1 kg5 hil hir QW Ro kc0 kc1 kc2 kc3 kc4 hc0 hc1 hc2 hc3 hc4 hx kg2 kg3;go_wp2_with fail;refine jl 20 (λW=>ay W bg (off+k*5)=some (.bool vV)/\ay W bg (off+k*5+1)=some (.slice al il.length cl)/\ay W bg (off+k*5+2)=some (.bool str)/\ay W bg (off+k*5+3)=some (.slice ar ir.length cr)/\ay W bg (off+k*5+4)=some (.bool br)) (by kernel_rfl) ?_;have gK:=bx (iE.o _ aX.o);refine jB [0,1,2,3,4,5,7,8,9,10,11,13,14,15,16,17] ?_
  iterate 16 (refine jA ?_ rfl gK.o ?_ ?_;rotate_left;·rintro w ⟨q1,q2,q3,q4,q5⟩;go_simp;try with_reducible rfl)
  refine jr ?_;refine kP 6 rfl λKK au=>?_
  go_simp;go_wp2_with (go_at_call 197;refine(kK.o _ (bt AV.o aX.o)).mono ?_;rintro e w7 ⟨⟨vl2,rfl,hvl⟩,hb7⟩)
  have bW:=bx (show ak wr w7 from aX.o.trans (hb7.mono aU));have wV:=bx (hvl w0 CU.o);clear hb7 hvl;refine au.out _ _ (λ_=>iE.o _ bW.o) ?_;clear au KK;refine kP 12 rfl λKK au=>?_
  go_simp;go_wp2_with (go_at_call 197;refine(HCR.o _ (bt AV.o bW.o)).mono ?_;rintro e w8 ⟨⟨vr2,rfl,yw⟩,hb8⟩)
  have eU:=bx (show ak wr w8 from bt bW.o hb8);have TU:=bx (yw w0 HKR.o);clear hb8 yw;refine au.out _ _ (λ_=>iE.o _ eU.o) ?_;clear au KK;obtain⟨al2,cl2,hv2⟩:=wV.o.slice;obtain⟨ar2,cr2,hv3⟩:=TU.o.slice;generalize (il.take 12).length=nl at hv2;generalize (ir.take 12).length=nr at hv3;subst hv2;subst hv3;refine kP 18 rfl λKK au=>?_
  go_simp;refine au.out _ _ (λ_=>iE.o _ eU.o) ?_;clear au KK;refine kP 19 rfl λKK au=>?_
  go_simp;refine au.out _ _ (λ_=>iE.o _ (eU.o.alloc eU.o.size _)) ?_;clear au KK;have fM:=bx (BZ.o.below eU.o);have ap4:w.heap.size<=w8.heap.size:=bP dL.o.size eU.o.size;refine kP 20 rfl λKK au=>?_
  refine aaZ (cs:=Ag (Ik ((vV,il),(str,ir),br), .slice al2 nl cl2, .slice ar2 nr cr2)) rfl _ _ 26 rfl adh (by decide) fM.o 0 rfl (by kernel_rfl) (by kernel_rfl) rfl (by intro u hu;simp only [Ag,fB,iH,or_false] at hu;rcases hu with rfl | rfl | rfl | rfl | rfl <;> rfl) (by omega) (by omega) ap4 ?_;rintro v' w9 mF -;refine au.out _ _ (λh=>by cases h) ?_;clear au KK;refine kP 21 rfl λKK au=>?_
  go_simp;refine au.out _ _ (λh=>by cases h) ?_;clear au KK;refine kD ?_ _;have HN:=bx (show ∃ L:List (D.Rule×Value×Value),L.length=k+1/\L.map (·.1)=(l.take (k+1)).map Ik/\JV w0 L/\Sep [Pc.row w.heap.size 254 5 v' (k+1) (L.flatMap Ag),Pc.old w.heap.size w] w9 by
   refine⟨L++[(Ik ((vV,il),(str,ir),br), .slice al2 nl cl2, .slice ar2 nr cr2)],?_,?_,?_,?_⟩
   ·rw [bC,nM.o];rfl
   ·rw [gX,HL2.o,nH.o,gX];rfl
   ·intro y hy
    rcases lM.1 hy with h | h
    ·exact zI.o y h
    rw [fU.1 h];exact⟨wV.o,TU.o⟩
   rw [oz,List.flatMap_singleton];exact mF)
  clear mF
  go_wp2
  go_roundw
  ·exact⟨k+1,hlt,by go_num,HN⟩
  simp [intOf];omega
 have hkm:k=m:=by omega
 have Ho:=bx hkm;have hd:l.length<=k\/(k<l.length/\42<=k):=by have:=HM.o;omega
 clear hkm
 rcases hd with hd | ⟨hd,hd2⟩
 all_goals
  go_wp2
  go_ret
  refine⟨dL.o,_,rfl,L,?_,zI.o,by rw [nM.o];exact BZ.o.row 0 rfl⟩;rw [HL2.o];unfold Ic;rw [Ho.o,HM.o]
  rcases Nat.le_total l.length 42 with h | h
  ·rw [sH h,gq h,mQ]
  rw [Nat.min_eq_right h]
end
section
attribute [local go_sem] XC aaO
def vC (n:Int):Nat :=
 if n=0 then 0 else if n=128 then 4638707616191610880 else if n=143 then 4639235381772943360 else if n=144 then 4639270566145032192
 else if n=159 then 4639798331726364672 else if n=160 then 4639833516098453504 else 4640924231633207296
def Ea (c:Int):Int:=if U.dG c<0 then 0 else U.dG c
def GN (c:Int):Value:=.agg #[.int .u8 (U.iK c), ah (Ea c), .complex .f64 (vC (U.iO c)) (vC (U.iI c))]
theorem agy {c m n lo hi:Int} {a b:Nat} (h1:U.iK c=m) (h2:Ea c=n) (h3:U.iO c=lo) (h4:U.iI c=hi) (h5:vC lo=a) (h6:vC hi=b) :
  Value.agg #[.int .u8 m, ah n, .complex .f64 a b]=GN c:=by subst h1 h2 h3 h4 h5 h6;rfl
theorem Oe {c m n lo hi:Int} {a b:Nat} (h2:U.dG c=n) (hn:0<=n) (h1:U.iK c=m) (h3:U.iO c=lo) (h4:U.iI c=hi) (h5:vC lo=a) (h6:vC hi=b) :
  Value.agg #[.int .u8 m, ah n, .complex .f64 a b]=GN c:=agy h1 (by unfold Ea;rw [h2,aF (by omega)]) h3 h4 h5 h6
theorem alT (w:World):(zeroValue 324).run prog w = .ok (.agg #[.int .u8 0, ah 0, .complex .f64 0 0]) w:=by kernel_rfl
def e1:MapEntry:=⟨.int .u8 224, .agg #[.int .u8 224, ah 2, .complex .f64 4639833516098453504 4640924231633207296],0⟩
def e2:MapEntry:=⟨.int .u8 237, .agg #[.int .u8 224, ah 2, .complex .f64 4638707616191610880 4639798331726364672],1⟩
def e3:MapEntry:=⟨.int .u8 240, .agg #[.int .u8 240, ah 3, .complex .f64 4639270566145032192 4640924231633207296],2⟩
def e4:MapEntry:=⟨.int .u8 244, .agg #[.int .u8 240, ah 3, .complex .f64 4638707616191610880 4639235381772943360],3⟩
theorem av4 (c:Int) (h:¬ c=224/\¬ c=237/\¬ c=240/\¬ c=244):Instr.findNow (.int .u8) (.int .u8 c) [e1,e2,e3,e4] 0=some none:=by
 obtain⟨h1,h2,h3,h4⟩:=h
 replace h1:=fG.2 h1
 replace h2:=fG.2 h2
 replace h3:=fG.2 h3
 replace h4:=fG.2 h4
 simp only [Instr.findNow,Instr.sameNow,e1,e2,e3,e4,h1,h2,h3,h4,if_true]
theorem akG (c:Int) (h0:0<=c) (h1:c<256) (w:World) :
  Calls prog 237 #[.int .u8 c] w λe w'=>e = .returned (GN c)/\ak w w':=by
 have hmm:=@run_makeMap prog;have Fv:=λ(W:World) (o:Obj)=>yN (P:=prog) underlying378 underlying5 (W.alloc o) #[] 0 224 e1.val (W.heap.size+1) (by simp) rfl
 have Es:=λ(W:World) (o:Obj)=>yN (P:=prog) underlying378 underlying5 (W.alloc o) #[e1] 1 237 e2.val (W.heap.size+1) (by simp) rfl
 have Fg:=λ(W:World) (o:Obj)=>yN (P:=prog) underlying378 underlying5 (W.alloc o) #[e1,e2] 2 240 e3.val (W.heap.size+1) (by simp) rfl
 have aw5:=λ(W:World) (o:Obj)=>yN (P:=prog) underlying378 underlying5 (W.alloc o) #[e1,e2,e3] 3 244 e4.val (W.heap.size+1) (by simp) rfl
 simp only [ou,iJ,jd,e1,e2,e3,e4,Nat.reduceAdd,Nat.zero_add] at Fv Es Fg aw5
 by_cases hs:¬ c=224/\¬ c=237/\¬ c=240/\¬ c=244
 ·have hlk:=λ(W:World) (o:Obj)=>aqL (P:=prog) underlying378 underlying5 ((W.alloc o).alloc (.map #[e1,e2,e3,e4] 4)) #[e1,e2,e3,e4] 4 c (W.heap.size+1) (JW _ _ _ (by simp)) _ (alT _) (av4 c hs)
  simp only [e1,e2,e3,e4] at hlk;obtain⟨n1,n2,n3,n4⟩:=hs
  go_in
  go_wp2
  all_goals go_returns
  all_goals first
   | exact⟨zu (Oe (lo:=128) (hi:=191) (by unfold U.dG;repeat' (first | omega | split)) (by omega) (by unfold U.iK U.dG;repeat' (first | omega | split)) (by unfold U.iO U.dG;repeat' (first | omega | split)) (by unfold U.iI U.dG;repeat' (first | omega | split)) rfl rfl),((aZ.alloc aU _).alloc (by simp) _).alloc (by simp;omega) _⟩
   | exact⟨zu (agy (lo:=0) (hi:=0) (by unfold U.iK U.dG;repeat' (first | omega | split)) (by unfold Ea U.dG;repeat' (first | omega | split)) (by unfold U.iO U.dG;repeat' (first | omega | split)) (by unfold U.iI U.dG;repeat' (first | omega | split)) rfl rfl),((aZ.alloc aU _).alloc (by simp) _).alloc (by simp;omega) _⟩
 have hs:c=224\/c=237\/c=240\/c=244:=by omega
 rcases hs with hs | hs | hs | hs
 ·subst hs;have hlk:=λ(W:World) (o:Obj)=>RH (P:=prog) underlying378 underlying5 ((W.alloc o).alloc (.map #[e1,e2,e3,e4] 4)) #[e1,e2,e3,e4] 4 224 (W.heap.size+1) (JW _ _ _ (by simp)) 0 e1.val rfl
  simp only [e1,e2,e3,e4] at hlk
  go_in
  go_wp2
  go_returns
  exact⟨zu (Oe (lo:=160) (hi:=191) rfl (by decide) rfl rfl rfl rfl rfl),((aZ.alloc aU _).alloc (by simp) _).alloc (by simp;omega) _⟩
 ·subst hs;have hlk:=λ(W:World) (o:Obj)=>RH (P:=prog) underlying378 underlying5 ((W.alloc o).alloc (.map #[e1,e2,e3,e4] 4)) #[e1,e2,e3,e4] 4 237 (W.heap.size+1) (JW _ _ _ (by simp)) 1 e2.val rfl
  simp only [e1,e2,e3,e4] at hlk
  go_in
  go_wp2
  go_returns
  exact⟨zu (Oe (lo:=128) (hi:=159) rfl (by decide) rfl rfl rfl rfl rfl),((aZ.alloc aU _).alloc (by simp) _).alloc (by simp;omega) _⟩
 ·subst hs;have hlk:=λ(W:World) (o:Obj)=>RH (P:=prog) underlying378 underlying5 ((W.alloc o).alloc (.map #[e1,e2,e3,e4] 4)) #[e1,e2,e3,e4] 4 240 (W.heap.size+1) (JW _ _ _ (by simp)) 2 e3.val rfl
  simp only [e1,e2,e3,e4] at hlk
  go_in
  go_wp2
  go_returns
  exact⟨zu (Oe (lo:=144) (hi:=191) rfl (by decide) rfl rfl rfl rfl rfl),((aZ.alloc aU _).alloc (by simp) _).alloc (by simp;omega) _⟩
 subst hs;have hlk:=λ(W:World) (o:Obj)=>RH (P:=prog) underlying378 underlying5 ((W.alloc o).alloc (.map #[e1,e2,e3,e4] 4)) #[e1,e2,e3,e4] 4 244 (W.heap.size+1) (JW _ _ _ (by simp)) 3 e4.val rfl
 simp only [e1,e2,e3,e4] at hlk
 go_in
 go_wp2
 go_returns
 exact⟨zu (Oe (lo:=128) (hi:=143) rfl (by decide) rfl rfl rfl rfl rfl),((aZ.alloc aU _).alloc (by simp) _).alloc (by simp;omega) _⟩
theorem axC:∀ d:Fin 256,∀ n∈[(0:Int),128,143,144,159,160,191],
  ((FloatKind.f64.format.order (FloatKind.f64.nearest (d.val:Int)) (vC n)==some .gt)||(FloatKind.f64.format.order (FloatKind.f64.nearest (d.val:Int)) (vC n)==some .eq))=decide (n<=(d.val:Int)):=by decide +kernel
theorem awQ:∀ d:Fin 256,∀ n∈[(0:Int),128,143,144,159,160,191],
  ((FloatKind.f64.format.order (FloatKind.f64.nearest (d.val:Int)) (vC n)==some .lt)||(FloatKind.f64.format.order (FloatKind.f64.nearest (d.val:Int)) (vC n)==some .eq))=decide ((d.val:Int)<=n):=by decide +kernel
theorem adi:∀ n∈[(0:Int),128,143,144,159,160,191],(FloatKind.f64.format.order (vC n) 0==some .eq)=decide (n=0):=by decide +kernel
theorem aff (c:Int):U.iO c∈[(0:Int),128,143,144,159,160,191]:=by unfold U.iO;repeat' (first | simp;done | split)
theorem adr (c:Int):U.iI c∈[(0:Int),128,143,144,159,160,191]:=by unfold U.iI;repeat' (first | simp;done | split)
end
section
attribute [local go_sem] XC aaO
theorem arZ (c:Int):U.iO c=0↔U.dG c<0:=by unfold U.iO;repeat' (first | omega | split)
theorem aoE (c:Int):U.iI c=0↔U.dG c<0:=by unfold U.iI;repeat' (first | omega | split)
theorem axb {P:Program} {T:TypeId} (hT:P.underlying T=some (.complex .f64)) (a b x y:Nat) (W:World) (d:Nat) :
  (Op.equalIn (d+1) T (.complex .f64 a b) (.complex .f64 x y)).run P W = .ok ((FloatKind.f64.format.order a x==some .eq)&&(FloatKind.f64.format.order b y==some .eq)) W:=by
 simp [Op.equalIn,run_underlying hT,Op.floatEq]
theorem arN (c:Int) (W:World) :
  (Op.equalIn 9999 322 (.complex .f64 (vC (U.iO c)) (vC (U.iI c))) (.complex .f64 0 0)).run prog W = .ok (decide (U.dG c<0)) W:=by
 rw [axb (d:=9998) underlying322,adi _ (aff c),adi _ (adr c)]
 congr 1
 rw [ny];simp [arZ,aoE]
theorem avo (c:Int) (w:World) :
  Calls prog 238 #[GN c] w λe w'=>e = .returned (.bool (decide (0<=U.dG c)))/\ak w w':=by
 unfold GN;have he:=arN c;have hm:¬ U.iK c=0->0<=U.dG c:=by unfold U.iK;repeat' (first | omega | split)
 have hn:¬ Ea c=0->0<=U.dG c:=by unfold Ea;repeat' (first | omega | split)
 have HM:=bx hm;have HN:=bx hn;clear hm hn
 go_in
 go_wp2
 all_goals go_returns
 all_goals
  have a1:=HM.o;have a2:=HN.o;exact⟨aY (by first | (rw [eq_comm,fD];omega) | (rw [eq_comm,yX];omega)),(aZ.alloc aU _).alloc (by simp) _⟩
theorem awI (c d:Int) (h0:0<=d) (h1:d<256) (w:World) :
  Calls prog 239 #[GN c, .int .u8 d] w λe w'=>e = .returned (.bool (decide (U.iO c<=d)&&decide (d<=U.iI c)))/\ak w w':=by
 unfold GN;have e1:=axC ⟨d.toNat,by omega⟩ _ (aff c);have e2:=awQ ⟨d.toNat,by omega⟩ _ (adr c);have e3:((d.toNat:Nat):Int)=d:=by omega
 simp only [e3] at e1 e2;have hf:floatOfInt FloatKind.f64 d=FloatKind.f64.nearest d:=rfl;clear e3
 go_in
 go_wp2
 all_goals go_returns
 all_goals exact⟨aY (by first | (simp [*];done) | (simp;omega)),aZ.alloc aU _⟩
theorem am0 (A:Nat->Addr) (B:Nat) (w:World) (hE:E A B w) :
  Calls prog 90 #[oZ A 2] w λe w'=>e = .returned (ah 10)/\w=w':=by
 have c0:=hE.cell 2 (by decide);have c1:=hE.cell 3 (by decide);unfold oZ
 go_in
 go_wp2_with fail;refine aP (is_same _ _) ?_
 go_wp2
 go_ret
 exact⟨rfl,rfl⟩
theorem asr (A:Nat->Addr) (B:Nat) (w:World) (hE:E A B w) :
  Calls prog 90 #[oZ A 3] w λe w'=>e = .returned (ah 11)/\w=w':=by
 have c0:=hE.cell 2 (by decide);have c1:=hE.cell 3 (by decide);have H:=bx (arK hE 3 2 (by decide) (by decide));unfold oZ
 go_in
 go_wp2_with fail;refine aP H.o ?_;go_wp2_with fail;refine aP (is_same _ _) ?_
 go_wp2
 go_ret
 exact⟨rfl,rfl⟩
theorem take_any (b o:Nat) (s:ByteArray) (n:Nat) (w:World) (hn:n<=s.size) (_hs:s.size<=maxLen) (hc:w.cell? ⟨b,o,none⟩=some (.string s)) (hf:w.frozen? ⟨b,o,none⟩=false) :
  Calls prog 240 #[.pointer (some ⟨b,o,none⟩), ah (n:Int)] w λe w'=>e = .returned (.string (s.extract 0 n))/\w.setCell ⟨b,o,none⟩ (.string (s.extract n s.size))=w':=by
 unfold maxLen at _hs
 go_in
 go_wp2
 all_goals go_ways
 go_ret
 exact⟨rfl,rfl⟩
end
section
attribute [local go_sem] XC aaO
structure RS (w0:World) (b xb:Nat) (s:ByteArray) (ev:Value) (m n:Int) (p q:Nat) (w:World):Prop where
 r:aC w b 152 #[.string s,ev]
 x:aC w xb 324 #[.int .u8 m, ah n, .complex .f64 p q]
 g:w0.grownBy w (some b)
 lt:b<w0.heap.size
 xb:w0.heap.size<=xb
section
variable {w0 w w':World} {b xb:Nat} {s s':ByteArray} {ev ev':Value} {m n m' n':Int} {p q p' q':Nat}
theorem RS.below (h:RS w0 b xb s ev m n p q w) (hb:ak w w'):RS w0 b xb s ev m n p q w' :=
 ⟨h.r.below hb h.r.lt,h.x.below hb h.x.lt,afj h.g (aeE hb _),h.lt,h.xb⟩
theorem RS.drew (h:RS w0 b xb s ev m n p q w):RS w0 b xb s ev m n p q w.drew:=⟨h.r,h.x,anE h.g,h.lt,h.xb⟩
theorem RS.alloc (h:RS w0 b xb s ev m n p q w) (o:Obj):RS w0 b xb s ev m n p q (w.alloc o):=⟨h.r.alloc o,h.x.alloc o,Zv h.g o,h.lt,h.xb⟩
theorem RS.ne (h:RS w0 b xb s ev m n p q w):xb≠b:=by have:=h.lt;have:=h.xb;omega
theorem RS.alF (h:RS w0 b xb s ev m n p q w):RS w0 b xb s' ev m n p q (w.setCell ⟨b,0,none⟩ (.string s')) :=
 ⟨h.r.bJ 0 _,h.x.far (p:=⟨b,0,none⟩) h.ne _,KI h.g (.inl rfl) _,h.lt,h.xb⟩
theorem RS.DI (h:RS w0 b xb s ev m n p q w):RS w0 b xb s ev' m n p q (w.setCell ⟨b,1,none⟩ ev') :=
 ⟨h.r.bJ 1 _,h.x.far (p:=⟨b,1,none⟩) h.ne _,KI h.g (.inl rfl) _,h.lt,h.xb⟩
theorem RS.ajL (h:RS w0 b xb s ev m n p q w):RS w0 b xb s ev m' n' p' q' (((w.setCell ⟨xb,0,none⟩ (.int .u8 m')).setCell ⟨xb,1,none⟩ (ah n')).setCell ⟨xb,2,none⟩ (.complex .f64 p' q')) :=
 ⟨((h.r.far (p:=⟨xb,0,none⟩) h.ne.symm _).far (p:=⟨xb,1,none⟩) h.ne.symm _).far (p:=⟨xb,2,none⟩) h.ne.symm _,
  ((h.x.bJ 0 _).bJ 1 _).bJ 2 _,
  KI (KI (KI h.g (.inr h.xb) _) (.inr h.xb) _) (.inr h.xb) _,h.lt,h.xb⟩
theorem RS.new {ty:TypeId} (hb:aC w b 152 #[.string s,ev]) (h:Below (w.alloc (.cells #[.int .u8 m, ah n, .complex .f64 p q] ty)).heap.size (w.alloc (.cells #[.int .u8 m, ah n, .complex .f64 p q] ty)) w') (ht:ty=324):RS w b w.heap.size s ev m n p q w':=by
 subst ht;exact⟨(hb.alloc _).below h (hb.alloc _).lt,(aC.new w _ _).below h (aC.new w _ _).lt,afj (Zv (World.grownBy.refl w _) _) (aeE h _),hb.lt,bK _⟩
theorem RS.facts (h:RS w0 b xb s ev m n p q w):w.cell? ⟨b,0,none⟩=some (.string s)/\w.cell? ⟨b,1,none⟩=some ev/\w.frozen? ⟨b,0,none⟩=false/\w.frozen? ⟨b,1,none⟩=false /\
  w.cell? ⟨xb,0,none⟩=some (.int .u8 m)/\w.cell? ⟨xb,1,none⟩=some (ah n)/\w.cell? ⟨xb,2,none⟩=some (.complex .f64 p q) /\
  w.frozen? ⟨xb,0,none⟩=false/\w.frozen? ⟨xb,1,none⟩=false/\w.frozen? ⟨xb,2,none⟩=false :=
 ⟨(h.r.cell 0).trans rfl,(h.r.cell 1).trans rfl,h.r.frozen 0,h.r.frozen 1,(h.x.cell 0).trans rfl,(h.x.cell 1).trans rfl,(h.x.cell 2).trans rfl,h.x.frozen 0,h.x.frozen 1,h.x.frozen 2⟩
end
def IL (A:Nat->Addr) (b:Nat) (s:ByteArray) (ev:Value) (w:World) (e:Ending) (w':World):Prop :=
 match U.dec s.data.toList with
 | none=>e = .returned (.tuple #[ah 0, ah 0])/\aC w' b 152 #[.string s,oZ A 3]/\w.grownBy w' (some b)
 | some (r,n)=>e = .returned (.tuple #[ah r, ah (n:Int)])/\aC w' b 152 #[.string (s.extract n s.size),ev]/\w.grownBy w' (some b)
theorem KC {A:Nat->Addr} {b:Nat} {s:ByteArray} {ev:Value} {w w':World} {e:Ending} (h:U.dec s.data.toList=none)
  (he:e = .returned (.tuple #[ah 0, ah 0])) (hb:aC w' b 152 #[.string s,oZ A 3]) (hg:w.grownBy w' (some b)):IL A b s ev w e w':=by
 unfold IL;rw [h];exact⟨he,hb,hg⟩
theorem aoa {A:Nat->Addr} {b:Nat} {s:ByteArray} {ev:Value} {w w':World} {e:Ending} {r:Int} {n:Nat} (h:U.dec s.data.toList=some (r,n))
  (he:e = .returned (.tuple #[ah r, ah (n:Int)])) (hb:aC w' b 152 #[.string (s.extract n s.size),ev]) (hg:w.grownBy w' (some b)):IL A b s ev w e w':=by
 unfold IL;rw [h];exact⟨he,hb,hg⟩
theorem next_any (A:Nat->Addr) (B b:Nat) (ev:Value) (s:ByteArray) (w:World) (hs:s.size<=maxLen) (hE:E A B w) (hB:B<=b) (hb:aC w b 152 #[.string s,ev]) :
  Calls prog 161 #[aA b] w (IL A b s ev w):=by
 unfold maxLen at hs;have HE:=bx hE;have HB:=bx hb;have hc0:w.cell? ⟨b,0,none⟩=some (.string s):=(hb.cell 0).trans rfl;have hc1:w.cell? ⟨b,1,none⟩=some ev:=(hb.cell 1).trans rfl;have hf1:=hb.frozen 1;have hblt:=hb.lt;have e1:=hE.cell 3 (by decide);have hlt1:3<w.heap.size:=by have:=(hE.lt 3 (by decide)).1;omega
 clear hE hb
 cases hl:s.data.toList with
 | nil =>
  have hz:=isEmpty_nil hl;have HD:=bx (show U.dec s.data.toList=none by rw [hl];rfl);clear hl
  go_in
  go_wp2_with fail;refine uz 0 rfl ?_;go_wp2_with fail
  go_step3
  refine⟨rfl,?_⟩;go_wp2_with fail;rw [Exit.noGoto_ret];go_ret2;exact KC HD.o rfl ((HB.o.bJ 1 _).alloc _) (Zv (KI (World.grownBy.refl w _) (.inl rfl) _) _)
 | cons c t =>
 clear hc1 hf1 e1 hlt1;have hz:=isEmpty_cons hl;have i0:=WT underlying9 s 0 (d:=c) (by rw [hl];rfl) 0 rfl;have hsz:(s.size:Int)=t.length+1:=by rw [size_eq,hl];simp
 have HV:=bx (show GN (U.aH c) = .agg #[.int .u8 (U.iK (U.aH c)), ah (Ea (U.aH c)), .complex .f64 (vC (U.iO (U.aH c))) (vC (U.iI (U.aH c)))] from rfl);have hR:=λW=>akG (U.aH c) (U.G8 c) (U.Jq c) W
 have hI:=λW=>avo (U.aH c) W
 have hS:=λd W=>awI (U.aH c) (U.aH d) (U.G8 d) (U.Jq d) W
 rw [HV.o] at hR hI;simp only [HV.o] at hS;have HN:=bx (show Ea (U.aH c)=if U.dG (U.aH c)<0 then 0 else U.dG (U.aH c) from rfl);have HL:=bx hl;have hcl:=U.Jq c;have hcg:=U.G8 c;have HM:=bx (U.aqr (U.aH c) hcg hcl);generalize vC (U.iO (U.aH c))=p at *;generalize vC (U.iI (U.aH c))=q at *;generalize hm:U.iK (U.aH c)=m at *;generalize hn:Ea (U.aH c)=n at *;have JX:=bx hm;have HR:=bx hR;have HI:=bx hI;have HS:=bx hS;have HZ:=bx hsz;clear hl hR hI hS hm hn hsz HV
 go_in
 go_wp2_with fail;refine uz 0 rfl ?_;go_wp2_with fail;refine(HR.o _).mono ?_;rintro e w1 ⟨rfl,hb1⟩;have R1:=RS.new HB.o hb1 rfl;clear hb1 hc0;obtain⟨-,-,-,-,x0,x1,x2,g0,g1,g2⟩:=R1.facts;go_wp2_with fail;clear x0 x1 x2 g0 g1 g2;have R5:=R1.ajL (m':=m) (n':=n) (p':=p) (q':=q);generalize ((w1.setCell ⟨w.heap.size,0,none⟩ (.int .u8 m)).setCell ⟨w.heap.size,1,none⟩ (ah n)).setCell ⟨w.heap.size,2,none⟩ (.complex .f64 p q)=w5 at R5 ⊢;clear R1;have q0:∀ k:CW (RS w b w.heap.size s ev m n p q),k.w.cell? ⟨b,0,none⟩=some (.string s):=λk=>k.h.facts.1
 have q1:∀ k:CW (RS w b w.heap.size s ev m n p q),k.w.cell? ⟨w.heap.size,0,none⟩=some (.int .u8 m):=λk=>k.h.facts.2.2.2.2.1
 have q2:∀ k:CW (RS w b w.heap.size s ev m n p q),k.w.cell? ⟨w.heap.size,1,none⟩=some (ah n):=λk=>k.h.facts.2.2.2.2.2.1
 have q3:∀ k:CW (RS w b w.heap.size s ev m n p q),k.w.cell? ⟨w.heap.size,2,none⟩=some (.complex .f64 p q):=λk=>k.h.facts.2.2.2.2.2.2.1
 by_cases hN:U.dG (U.aH c)<0
 ·have h1:decide (0<=U.dG (U.aH c))=false:=by rw [yX];omega
  have I9:=HI.o;rw [h1] at I9;have HI2:=bx I9;have HD:=bx (show U.dec s.data.toList=none by rw [HL.o];exact U.PU hN);clear I9 h1;refine Aq (RS w b w.heap.size s ev m n p q) (by kernel_rfl) (by kernel_rfl) R5.drew (λhne=>?_);clear R5
  repeat (any_goals (first
   | go_big_quiet_step (first | (go_at_call 238;exact wY (HI2.o _) (λ_ hb=>RS.below (CW.h _) hb)))
   | quiet_step (first | (go_at_call 238;exact wY (HI2.o _) (λ_ hb=>RS.below (CW.h _) hb)))))
  refine wpQuiet_nil ?_;rintro w2 ⟨⟨_,R6⟩,rfl⟩;clear q0 q1 q2 q3 hne;have e1:=(HE.o.below (IZ R6.g hB (by omega))).cell 3 (by decide);obtain⟨y0,y1,y2,y3,-⟩:=R6.facts;go_wp2_with fail
  go_step3
  refine⟨rfl,?_⟩;go_wp2_with fail;rw [Exit.noGoto_ret];go_ret2;exact KC HD.o rfl R6.DI.r R6.DI.g
 have hnn:n=U.dG (U.aH c):=by have:=HN.o;rw [aF hN] at this;exact this
 have h1:decide (0<=U.dG (U.aH c))=true:=by rw [fD];omega
 have I9:=HI.o;rw [h1] at I9;have HI2:=bx I9;have n0:0<=n:=by omega
 have n3:n<=3:=by have:=U.PN (U.aH c);omega
 have Eh:=bx hnn;have ku:=bx (show 0<=U.dG (U.aH c) by omega);clear I9 h1 hnn hN
 by_cases hlen:(s.size:Int)<=n
 ·have hd:decide ((s.size:Int)<=n)=true:=by rw [fD];omega
  have HD:=bx (show U.dec s.data.toList=none by rw [HL.o];exact U.afq (by have:=HZ.o;have:=Eh.o;omega));refine Aq (RS w b w.heap.size s ev m n p q) (by kernel_rfl) (by kernel_rfl) R5.drew (λhne=>?_);clear R5
  repeat (any_goals (first
   | go_big_quiet_step (first | (go_at_call 238;exact wY (HI2.o _) (λ_ hb=>RS.below (CW.h _) hb)))
   | quiet_step (first | (go_at_call 238;exact wY (HI2.o _) (λ_ hb=>RS.below (CW.h _) hb)))))
  refine wpQuiet_nil ?_;rintro w2 ⟨⟨_,R6⟩,rfl⟩;clear q0 q1 q2 q3 hne;have e1:=(HE.o.below (IZ R6.g hB (by omega))).cell 3 (by decide);obtain⟨y0,y1,y2,y3,-⟩:=R6.facts;go_wp2_with fail
  go_step3
  refine⟨rfl,?_⟩;go_wp2_with fail;rw [Exit.noGoto_ret];go_ret2;exact KC HD.o rfl R6.DI.r R6.DI.g
 have hd:decide ((s.size:Int)<=n)=false:=by rw [yX];omega
 have hz0:n=0\/0<n:=by omega
 rcases hz0 with hz0 | hz0
 case' inl =>
  have hd0:decide (0<n)=false:=by rw [yX];omega
  have ac5:=bx (show n=0\/∃ d1 t',t=d1::t'/\U.iO (U.aH c)<=U.aH d1/\U.aH d1<=U.iI (U.aH c) from .inl hz0);clear hz0;refine Aq (RS w b w.heap.size s ev m n p q) (by kernel_rfl) (by kernel_rfl) R5.drew (λhne=>?_);clear R5
  repeat (any_goals (first
   | go_big_quiet_step (first | (go_at_call 238;exact wY (HI2.o _) (λ_ hb=>RS.below (CW.h _) hb)))
   | quiet_step (first | (go_at_call 238;exact wY (HI2.o _) (λ_ hb=>RS.below (CW.h _) hb)))))
  refine wpQuiet_nil ?_;rintro w2 ⟨⟨_,R6⟩,rfl⟩;clear q0 q1 q2 q3 hne
 case' inr =>
  have hd0:decide (0<n)=true:=by rw [fD];omega
  obtain⟨d1,t',ht⟩:∃ d1 t',t=d1::t':=by
   cases t with
   | nil=>have:=HZ.o;simp at this;omega
   | cons d1 t'=>exact⟨d1,t',rfl⟩
  have i1:=WT underlying9 s 1 (d:=d1) (by rw [HL.o,ht];rfl) 1 rfl;have KF:=HS.o d1
  by_cases Uw:¬ (U.iO (U.aH c)<=U.aH d1/\U.aH d1<=U.iI (U.aH c))
  case pos =>
   have HD:=bx (show U.dec s.data.toList=none by rw [HL.o,ht];exact U.ald (by have:=Eh.o;omega) Uw);rw [show (decide (U.iO (U.aH c)<=U.aH d1)&&decide (U.aH d1<=U.iI (U.aH c)))=false by rw [Ub,yX,yX];omega] at KF;have HS2:=bx KF;clear KF Uw ht;refine Aq (RS w b w.heap.size s ev m n p q) (by kernel_rfl) (by kernel_rfl) R5.drew (λhne=>?_);clear R5
   repeat (any_goals (first
    | go_big_quiet_step (first | (go_at_call 238;exact wY (HI2.o _) (λ_ hb=>RS.below (CW.h _) hb)) | (go_at_call 239;exact wY (HS2.o _) (λ_ hb=>RS.below (CW.h _) hb)))
    | quiet_step (first | (go_at_call 238;exact wY (HI2.o _) (λ_ hb=>RS.below (CW.h _) hb)) | (go_at_call 239;exact wY (HS2.o _) (λ_ hb=>RS.below (CW.h _) hb)))))
   refine wpQuiet_nil ?_;rintro w2 ⟨⟨_,R6⟩,rfl⟩;clear q0 q1 q2 q3 hne;have e1:=(HE.o.below (IZ R6.g hB (by omega))).cell 3 (by decide);obtain⟨y0,y1,y2,y3,-⟩:=R6.facts;go_wp2_with fail
   go_step3
   refine⟨rfl,?_⟩;go_wp2_with fail;rw [Exit.noGoto_ret];go_ret2;exact KC HD.o rfl R6.DI.r R6.DI.g
  have Oo:=Decidable.not_not.1 Uw;rw [show (decide (U.iO (U.aH c)<=U.aH d1)&&decide (U.aH d1<=U.iI (U.aH c)))=true by simp [Oo]] at KF;have HS2:=bx KF;have ac5:=bx (show n=0\/∃ d1 t',t=d1::t'/\U.iO (U.aH c)<=U.aH d1/\U.aH d1<=U.iI (U.aH c) from .inr ⟨d1,t',ht,Oo⟩);clear KF Oo Uw hz0 ht;refine Aq (RS w b w.heap.size s ev m n p q) (by kernel_rfl) (by kernel_rfl) R5.drew (λhne=>?_);clear R5
  repeat (any_goals (first
   | go_big_quiet_step (first | (go_at_call 238;exact wY (HI2.o _) (λ_ hb=>RS.below (CW.h _) hb)) | (go_at_call 239;exact wY (HS2.o _) (λ_ hb=>RS.below (CW.h _) hb)))
   | quiet_step (first | (go_at_call 238;exact wY (HI2.o _) (λ_ hb=>RS.below (CW.h _) hb)) | (go_at_call 239;exact wY (HS2.o _) (λ_ hb=>RS.below (CW.h _) hb)))))
  refine wpQuiet_nil ?_;rintro w2 ⟨⟨_,R6⟩,rfl⟩;clear q0 q1 q2 q3 hne
 all_goals
  clear hd hd0;have hw1:IntKind.i64.wrap (n+1)=n+1:=IntWalk.i64_in _ (by omega);have hsl:∀ W,(Instr.slice 9 (.string s) (some (ah 1)) (some (ah (n+1))) none).run prog W = .ok (.string (s.extract 1 (n+1).toNat)) W:=by
   intro W;exact aen underlying9 s 1 (n+1) (by omega) W
  generalize hsub:s.extract 1 (n+1).toNat=sub at *;go_wp2_with fail;have hcv:=λW s'=>run_bytes_of_string (P:=prog) W 9 126 5 s' underlying9 underlying126 underlying5
  obtain⟨o0,-,-,-,-,o2,-⟩:=R6.facts
  go_region
  have R7:=((R6.alloc (.cells (bytesRow sub (grownCap w2.drew sub.size 0 5)) 5 ((bytesRow sub (grownCap w2.drew sub.size 0 5)).size,(bytesRow sub (grownCap w2.drew sub.size 0 5)).size+1))).drew).drew;have hcells:=λj d=>ae7 w2 5 sub (grownCap w2.drew sub.size 0 5) ((bytesRow sub (grownCap w2.drew sub.size 0 5)).size,(bytesRow sub (grownCap w2.drew sub.size 0 5)).size+1) j d
  replace hcells:∀ j d,sub.data.toList[j]?=some d->(w2.alloc (.cells (bytesRow sub (grownCap w2.drew sub.size 0 5)) 5 ((bytesRow sub (grownCap w2.drew sub.size 0 5)).size,(bytesRow sub (grownCap w2.drew sub.size 0 5)).size+1))).drew.drew.cell? ⟨w2.heap.size,j,none⟩=some (.int .u8 (U.aH d)):=hcells
  generalize (w2.alloc (.cells (bytesRow sub (grownCap w2.drew sub.size 0 5)) 5 ((bytesRow sub (grownCap w2.drew sub.size 0 5)).size,(bytesRow sub (grownCap w2.drew sub.size 0 5)).size+1))).drew.drew=w6 at R7 hcells ⊢;generalize w2.heap.size=g6 at hcells ⊢;have YD:sub.data.toList=t.take n.toNat:=by
   rw [<- hsub,Lib.extract_data,HL.o];rw [show (n+1).toNat-1=n.toNat by omega]
   rfl
  have acN:(s.size:Int)=t.length+1:=HZ.o;have abQ:sub.size=n.toNat:=by rw [size_eq,YD,dw];omega
  have hdec:(∀ d∈t.take n.toNat,U.kC d=true)->U.dec (c::t)=some (U.fold (U.aH c-m) (t.take n.toNat),n.toNat+1) :=
   λhall=>U.auV Eh.o JX.o n0 (by omega) hall ac5.o
  have hno:∀ d∈t.take n.toNat,U.kC d=false->U.dec (c::t)=none:=by
   intro d hd hf;have h1:=Eh.o;rw [h1] at hd;exact U.dec_not (by omega) hd hf
  have aur:=bx hdec;have pJ:=bx hno;have atw:=bx hcells;have Q5:=bx YD;have azd:=bx abQ;have hs3:sub.size<=3:=by omega
  have Xn:=bx acN;clear hdec hno hcells YD abQ hsub hsl hw1 hcv acN;go_wp2_with fail
  go_loop [64] (λi=>∃ j:Nat,j<=sub.size/\i = ah j/\∀ d∈sub.data.toList.take j,U.kC d=true) (λi=>sub.size-(intOf i).toNat)
  ·exact⟨0,by omega,rfl,by simp⟩
  obtain⟨j,hj,rfl,hall⟩:=hrel;have qK:=bx hall;clear hall
  by_cases hlt:j<sub.size
  ·obtain⟨d,hd⟩:=bV sub.data.toList j (by rw [<- size_eq];exact hlt);have hc:=atw.o j d hd;have hmem:d∈sub.data.toList:=dB hd;have Nc:=bx (show U.kC d=true->∀ x∈sub.data.toList.take (j+1),U.kC x=true by
    intro h x hx;rw [jw,hd] at hx
    rcases lM.1 hx with hx | hx
    ·exact qK.o x hx
    simp at hx;rw [hx];exact h)
   have ahF:=bx hmem;clear hd hmem;have hb0:=U.G8 d;have hb1:=U.Jq d;have e1:=(HE.o.below (IZ R7.g hB (by omega))).cell 3 (by decide);obtain⟨y0,y1,y2,y3,-⟩:=R7.facts;go_wp2_with fail
   ·go_step3
    refine⟨rfl,?_⟩;go_wp2_with fail;rw [Exit.noGoto_ret];go_ret2;refine KC ?_ rfl R7.DI.r R7.DI.g;rw [HL.o];exact pJ.o d (by have:=ahF.o;rwa [Q5.o] at this) ((U.aeF d).2 (by omega))
   ·clear y0 y1 y2 y3 e1;have HT:=bx (Nc.o ((U.oW d).2 (by omega)));have HJ:=bx hlt
    go_round
    ·exact⟨j+1,HJ.o,by go_num,HT.o⟩
    have:=HJ.o;simp [intOf];omega
   go_step3
   refine⟨rfl,?_⟩;go_wp2_with fail;rw [Exit.noGoto_ret];go_ret2;refine KC ?_ rfl R7.DI.r R7.DI.g;rw [HL.o];exact pJ.o d (by have:=ahF.o;rwa [Q5.o] at this) ((U.aeF d).2 (by omega))
  obtain rfl:j=sub.size:=by omega
  have hdc:=aur.o (by have:=qK.o;rw [gq (by rw [<- size_eq];exact bK _),Q5.o] at this;exact this);have Vf:=bx hdc;clear hdc;go_wp2_with fail;obtain⟨o0,o1,-,-,o2,o3,-⟩:=R7.facts;have Rq:=HM.o;have hmb:0<=U.aH c-m/\U.aH c-m<128:=by have:=ku.o;omega
  have hmw:IntKind.u8.wrap (U.aH c-m)=U.aH c-m:=IntWalk.u8_in _ (by omega)
  go_region
  clear o0 o1 o2 o3 Rq hmw;have R8:=R7.drew;generalize w6.drew=w8 at R8 ⊢;clear R7;go_wp2_with fail;obtain⟨o0,o1,p0,p1,o2,o3,-⟩:=R8.drew.facts;have hcv:=λW s'=>run_bytes_of_string (P:=prog) W 9 126 5 s' underlying9 underlying126 underlying5
  have hw1:IntKind.i64.wrap (n+1)=n+1:=IntWalk.i64_in _ (by omega);have hnn:((n+1).toNat:Int)=n+1:=by omega
  have hT:=λW=>take_any b 0 s (n+1).toNat W (by have:=Xn.o;omega) hs
  rw [hnn] at hT;have hpl:(s.extract 0 (n+1).toNat).data.toList=c::t.take n.toNat:=by
   rw [Lib.extract_data,HL.o,show (n+1).toNat-0=n.toNat+1 by omega];rfl
  have hpost:s.extract (n+1).toNat s.size=s.extract (n.toNat+1) s.size:=by rw [show (n+1).toNat=n.toNat+1 by omega]
  rw [hpost] at hT;generalize hpre:s.extract 0 (n+1).toNat=pre at hT hpl;generalize acR:s.extract (n.toNat+1) s.size=post at hT;have hpz:pre.size=n.toNat+1:=by rw [size_eq,hpl,dY,dw];have:=Xn.o;omega
  have hsl:∀ W,(Instr.slice 9 (.string pre) (some (ah 1)) none none).run prog W = .ok (.string (pre.extract 1 pre.size)) W:=by
   intro W;exact run_slice_string_l (P:=prog) W 9 pre underlying9 .i64 1 (by omega) (by omega)
  have Kq:(pre.extract 1 pre.size).data.toList=t.take n.toNat:=by
   rw [Lib.extract_data,hpl,hpz];simp [List.take_take]
  generalize pre.extract 1 pre.size=jk at hsl Kq;have hqz:jk.size=n.toNat:=by rw [size_eq,Kq,dw];have:=Xn.o;omega
  have HT:=bx hT;have HQL:=bx Kq;have Y3:=bx hqz;have avW:=bx acR;clear hT Kq hqz hpz hpl hpre acR hpost hnn
  go_region_with (go_at_call 240;refine(HT.o _ ?_ ?_).mono ?_;exact o0;exact p0;rintro e w9 ⟨rfl,rfl⟩)
  simp only [List.getElem_toArray,List.getElem_cons_succ,List.getElem_cons_zero,Act.put,List.setIfInBounds_toArray,List.set_cons_succ,List.set_cons_zero];have R9:=(((R8.alF (s':=post)).alloc (.cells (bytesRow jk (grownCap (w8.setCell ⟨b,0,none⟩ (.string post)).drew jk.size 0 5)) 5 ((bytesRow jk (grownCap (w8.setCell ⟨b,0,none⟩ (.string post)).drew jk.size 0 5)).size,(bytesRow jk (grownCap (w8.setCell ⟨b,0,none⟩ (.string post)).drew jk.size 0 5)).size+1))).drew).drew;have hcells:∀ j d,jk.data.toList[j]?=some d->_:=λj d=>ae7 (w8.setCell ⟨b,0,none⟩ (.string post)) 5 jk (grownCap (w8.setCell ⟨b,0,none⟩ (.string post)).drew jk.size 0 5) ((bytesRow jk (grownCap (w8.setCell ⟨b,0,none⟩ (.string post)).drew jk.size 0 5)).size,(bytesRow jk (grownCap (w8.setCell ⟨b,0,none⟩ (.string post)).drew jk.size 0 5)).size+1) j d
  replace hcells:∀ j d,jk.data.toList[j]?=some d->(((w8.setCell ⟨b,0,none⟩ (.string post)).alloc (.cells (bytesRow jk (grownCap (w8.setCell ⟨b,0,none⟩ (.string post)).drew jk.size 0 5)) 5 ((bytesRow jk (grownCap (w8.setCell ⟨b,0,none⟩ (.string post)).drew jk.size 0 5)).size,(bytesRow jk (grownCap (w8.setCell ⟨b,0,none⟩ (.string post)).drew jk.size 0 5)).size+1))).drew).drew.cell? ⟨w8.heap.size,j,none⟩=some (.int .u8 (U.aH d)):=by
   intro j d hd;have:=hcells j d hd;rw [World.size_setCell] at this;exact this
  generalize (((w8.setCell ⟨b,0,none⟩ (.string post)).alloc (.cells (bytesRow jk (grownCap (w8.setCell ⟨b,0,none⟩ (.string post)).drew jk.size 0 5)) 5 ((bytesRow jk (grownCap (w8.setCell ⟨b,0,none⟩ (.string post)).drew jk.size 0 5)).size,(bytesRow jk (grownCap (w8.setCell ⟨b,0,none⟩ (.string post)).drew jk.size 0 5)).size+1))).drew).drew=wA at R9 hcells ⊢;generalize w8.heap.size=gA at hcells ⊢;have aon:=bx hcells;clear hcells R8 o0 o1 p0 p1 o2 o3 hcv hsl hw1;go_wp2_with fail;have hsame:jk.data.toList=sub.data.toList:=HQL.o.trans Q5.o.symm;have fQ:=bx (λj=>U.aqF (jk.data.toList.take j) (λd hd=>by
   have h1:=qK.o;rw [gq (by rw [<- size_eq];exact bK _)] at h1;rw [hsame] at hd;exact h1 d (List.mem_of_mem_take hd)) (U.aH c-m) hmb.1 (by rw [dw,<- size_eq];have:=Y3.o;omega) hmb.2)
  have qC:=bx (λd (hd:d∈jk.data.toList)=>by
   have h1:=qK.o;rw [gq (by rw [<- size_eq];exact bK _)] at h1;rw [hsame] at hd;exact(U.oW d).1 (h1 d hd))
  have hq3:jk.size<=3:=by have:=Y3.o;omega
  clear hsame
  go_loop [5,95] (λo i=>∃ j:Nat,j<=jk.size/\i = ah j/\o = ah (U.fold (U.aH c-m) (jk.data.toList.take j))) (λ_ i=>jk.size-(intOf i).toNat)
  ·exact⟨0,by omega,rfl,rfl⟩
  obtain⟨j,hj,rfl,rfl⟩:=hrel;have hfb:=fQ.o j;generalize hfold:U.fold (U.aH c-m) (jk.data.toList.take j)=x at *
  by_cases hlt:j<jk.size
  ·obtain⟨d,hd⟩:=bV jk.data.toList j (by rw [<- size_eq];exact hlt);have hc:=aon.o j d hd;have hr:=qC.o d (dB hd);have nC:=bx (show U.fold (U.aH c-m) (jk.data.toList.take (j+1))=64*x+U.aH d-128 by
    rw [jw,hd,<- hfold];exact U.am6 _ _ _)
   clear hd hfold;have HO:=bx (show bits .or .i64 (x*64) (bits .and .i64 (U.aH d) 63)=64*x+U.aH d-128 by
    rw [abL _ (by omega) (by omega),ajO _ _ hfb.1 (by omega) (by omega) (by omega)];omega)
   have HJ:=bx hlt;go_wp2_with fail;refine⟨⟨j+1,HJ.o,by go_num,Dy (by rw [HO.o,nC.o])⟩,?_⟩;have:=HJ.o;simp [intOf];omega
  obtain rfl:j=jk.size:=by omega
  have HF:=bx (show U.fold (U.aH c-m) (t.take n.toNat)=x by
   rw [<- hfold,HQL.o,Y3.o,List.take_take,Nat.min_self])
  clear hfold;go_wp2_with fail;obtain⟨o0,o1,-,-,o2,o3,-⟩:=R9.facts
  go_region
  go_wp2_with fail;rw [yE];go_ret2;refine aoa (r:=x) (n:=n.toNat+1) (by rw [HL.o,Vf.o,HF.o]) ?_ ?_ ?_
  ·exact Nw rfl (Dy (by omega))
  ·rw [avW.o];exact R9.drew.r
  exact R9.drew.g
end
theorem anc:∀ x:Fin 64,bits .or .u8 128 (x.val:Int)=128+(x.val:Int):=by decide +kernel
theorem aoy:∀ x:Fin 32,bits .or .u8 192 (x.val:Int)=192+(x.val:Int):=by decide +kernel
theorem asO:∀ x:Fin 16,bits .or .u8 224 (x.val:Int)=224+(x.val:Int):=by decide +kernel
theorem avA:∀ x:Fin 8,bits .or .u8 240 (x.val:Int)=240+(x.val:Int):=by decide +kernel
theorem Md (x:Int) (h0:0<=x) (h1:x<64):bits .or .u8 128 x=128+x:=by
 have:=anc ⟨x.toNat,by omega⟩;simpa [Int.toNat_of_nonneg h0] using this
theorem aqM (x:Int) (h0:0<=x) (h1:x<32):bits .or .u8 192 x=192+x:=by
 have:=aoy ⟨x.toNat,by omega⟩;simpa [Int.toNat_of_nonneg h0] using this
theorem awr (x:Int) (h0:0<=x) (h1:x<16):bits .or .u8 224 x=224+x:=by
 have:=asO ⟨x.toNat,by omega⟩;simpa [Int.toNat_of_nonneg h0] using this
theorem awl (x:Int) (h0:0<=x) (h1:x<8):bits .or .u8 240 x=240+x:=by
 have:=avA ⟨x.toNat,by omega⟩;simpa [Int.toNat_of_nonneg h0] using this
theorem EK (x:Int) (h0:0<=x) (h1:x<9223372036854775808):bits .and .i64 x 63 % 256=x % 64:=by rw [abL x h0 h1];omega
theorem TG (r:Int) (w:World) :
  Calls prog 150 #[ah r] w λe w'=>e = .returned (.bool (U.right r))/\w=w':=by
 go_in
 go_wp2
 all_goals go_ret
 all_goals exact⟨aY (by first | (simp [U.right, *];done) | (simp [U.right];omega)),rfl⟩
theorem aoW (r:Int) (g:Nat) (w:World) (h0:0<=r) (h1:r<2048) (hg:aC w g 5 #[.int .u8 192, .int .u8 128]) :
  Calls prog 151 #[ah r, .slice (some ⟨g,0,none⟩) 2 2] w λe w'=>e = .returned (.string (strOfNums [192+r / 64,128+r % 64]))/\ak w w':=by
 have hmk:∀ w,(Instr.makeSlice 126 (ah 2) (ah 2)).run prog w = .ok (.slice (some ⟨w.heap.size,0,none⟩) 2 2) (w.alloc (.cells #[.int .u8 0, .int .u8 0] 5)):=λ_=>by kernel_rfl
 have c0:w.cell? ⟨g,0,none⟩=some (.int .u8 192):=(hg.cell 0).trans rfl;have c1:w.cell? ⟨g,1,none⟩=some (.int .u8 128):=(hg.cell 1).trans rfl;have hlt:=hg.lt;have cc:=λ(w:World) (a b:Int)=>Q8 (P:=prog) (src:=126) (dst:=9) underlying126 underlying5 underlying9 [a,b] w 2 2 rfl 5
 simp only [iR,oV] at cc;have E0:=bx (show bits .or .u8 192 (bits .and .i64 (r / 64) 63 % 256)=192+r / 64 by rw [EK _ (by omega) (by omega),aqM _ (by omega) (by omega)];try omega);have E1:=bx (show bits .or .u8 128 (bits .and .i64 (r) 63 % 256)=128+r % 64 by rw [EK _ (by omega) (by omega),Md _ (by omega) (by omega)];try omega);clear hg
 go_in
 go_wp2_with fail
 go_rounds 3
 go_ret
 exact⟨zu (by rw [<- E0.o,<- E1.o];rfl),aZ.alloc aU _⟩
theorem asR (r:Int) (g:Nat) (w:World) (h0:0<=r) (h1:r<65536) (hg:aC w g 5 #[.int .u8 224, .int .u8 128, .int .u8 128]) :
  Calls prog 151 #[ah r, .slice (some ⟨g,0,none⟩) 3 3] w λe w'=>e = .returned (.string (strOfNums [224+r / 4096,128+r / 64 % 64,128+r % 64]))/\ak w w':=by
 have hmk:∀ w,(Instr.makeSlice 126 (ah 3) (ah 3)).run prog w = .ok (.slice (some ⟨w.heap.size,0,none⟩) 3 3) (w.alloc (.cells #[.int .u8 0, .int .u8 0, .int .u8 0] 5)):=λ_=>by kernel_rfl
 have c0:w.cell? ⟨g,0,none⟩=some (.int .u8 224):=(hg.cell 0).trans rfl;have c1:w.cell? ⟨g,1,none⟩=some (.int .u8 128):=(hg.cell 1).trans rfl;have c2:w.cell? ⟨g,2,none⟩=some (.int .u8 128):=(hg.cell 2).trans rfl;have hlt:=hg.lt;have cc:=λ(w:World) (a b c:Int)=>Q8 (P:=prog) (src:=126) (dst:=9) underlying126 underlying5 underlying9 [a,b,c] w 3 3 rfl 5
 simp only [iR,oV] at cc;have E0:=bx (show bits .or .u8 224 (bits .and .i64 (r / 64 / 64) 63 % 256)=224+r / 4096 by rw [EK _ (by omega) (by omega),awr _ (by omega) (by omega)];try omega);have E1:=bx (show bits .or .u8 128 (bits .and .i64 (r / 64) 63 % 256)=128+r / 64 % 64 by rw [EK _ (by omega) (by omega),Md _ (by omega) (by omega)];try omega);have E2:=bx (show bits .or .u8 128 (bits .and .i64 (r) 63 % 256)=128+r % 64 by rw [EK _ (by omega) (by omega),Md _ (by omega) (by omega)];try omega);clear hg
 go_in
 go_wp2_with fail
 go_rounds 4
 go_ret
 exact⟨zu (by rw [<- E0.o,<- E1.o,<- E2.o];rfl),aZ.alloc aU _⟩
theorem akW (r:Int) (g:Nat) (w:World) (h0:0<=r) (h1:r<2097152) (hg:aC w g 5 #[.int .u8 240, .int .u8 128, .int .u8 128, .int .u8 128]) :
  Calls prog 151 #[ah r, .slice (some ⟨g,0,none⟩) 4 4] w λe w'=>e = .returned (.string (strOfNums [240+r / 262144,128+r / 4096 % 64,128+r / 64 % 64,128+r % 64]))/\ak w w':=by
 have hmk:∀ w,(Instr.makeSlice 126 (ah 4) (ah 4)).run prog w = .ok (.slice (some ⟨w.heap.size,0,none⟩) 4 4) (w.alloc (.cells #[.int .u8 0, .int .u8 0, .int .u8 0, .int .u8 0] 5)):=λ_=>by kernel_rfl
 have c0:w.cell? ⟨g,0,none⟩=some (.int .u8 240):=(hg.cell 0).trans rfl;have c1:w.cell? ⟨g,1,none⟩=some (.int .u8 128):=(hg.cell 1).trans rfl;have c2:w.cell? ⟨g,2,none⟩=some (.int .u8 128):=(hg.cell 2).trans rfl;have c3:w.cell? ⟨g,3,none⟩=some (.int .u8 128):=(hg.cell 3).trans rfl;have hlt:=hg.lt;have cc:=λ(w:World) (a b c d:Int)=>Q8 (P:=prog) (src:=126) (dst:=9) underlying126 underlying5 underlying9 [a,b,c,d] w 4 4 rfl 5
 simp only [iR,oV] at cc;have E0:=bx (show bits .or .u8 240 (bits .and .i64 (r / 64 / 64 / 64) 63 % 256)=240+r / 262144 by rw [EK _ (by omega) (by omega),awl _ (by omega) (by omega)];try omega);have E1:=bx (show bits .or .u8 128 (bits .and .i64 (r / 64 / 64) 63 % 256)=128+r / 4096 % 64 by rw [EK _ (by omega) (by omega),Md _ (by omega) (by omega)];try omega);have E2:=bx (show bits .or .u8 128 (bits .and .i64 (r / 64) 63 % 256)=128+r / 64 % 64 by rw [EK _ (by omega) (by omega),Md _ (by omega) (by omega)];try omega);have E3:=bx (show bits .or .u8 128 (bits .and .i64 (r) 63 % 256)=128+r % 64 by rw [EK _ (by omega) (by omega),Md _ (by omega) (by omega)];try omega);clear hg
 go_in
 go_wp2_with fail
 go_rounds 5
 go_ret
 exact⟨zu (by rw [<- E0.o,<- E1.o,<- E2.o,<- E3.o];rfl),aZ.alloc aU _⟩
theorem YS (A:Nat->Addr) (B:Nat) (r:Int) (w:World) (hE:E A B w) :
  Calls prog 82 #[ah r] w λe w'=>e = .returned (En r)/\ak w w':=by
 by_cases hr:U.right r=true
 case neg =>
  have hr':U.right r=false:=by simpa using hr
  have hc:=TG r;rw [hr'] at hc;have HC:=bx hc;have HD:=bx (aco hr');have HT:=bx (am0 A B w hE);have e0:=hE.cell 2 (by decide);clear hc hr hr' hE
  go_in
  go_wp2_with (first
   | (go_at_call 150;refine aP (HC.o _) ?_)
   | (go_at_call 90;refine aP (HT.o) ?_))
  go_ret2
  exact⟨by rw [HD.o];rfl,Below.refl _ _⟩
 have hb:=(U.Gs r).1 hr;obtain⟨g0,g1,_⟩:=hb;have hc:=TG r;rw [hr] at hc;have HC:=bx hc;have HE:=bx (λ(l:List Int)=>amG (l:=l) hr);clear hc hr hE
 by_cases k1:r<128
 ·have c1:=λ(w:World) (a:Int)=>Q8 (P:=prog) (src:=126) (dst:=9) underlying126 underlying5 underlying9 [a] w 1 1 rfl 5
  simp only [iR,oV] at c1
  go_in
  go_wp2_with (first | (go_at_call 150;refine aP (HC.o _) ?_))
  go_ret2
  exact⟨zu (HE.o [r] (by unfold U.enc;rw [aG (by omega)];rfl)),aZ.alloc aU _⟩
 by_cases k2:r<2048
 ·
  have HP:=bx (λW=>aoW r w.heap.size W (by omega) (by omega));have HV:=bx (HE.o [192+r / 64,128+r % 64] (by unfold U.enc;rw [aF (by omega),aG (by omega)];rfl))
  go_in
  go_wp2_with (first
   | (go_at_call 150;refine aP (HC.o _) ?_)
   | (go_at_call 151;refine(HP.o _ (aC.new w _ _)).mono ?_;rintro e w' ⟨rfl,hb⟩))
  go_ret2
  exact⟨zu HV.o,(aZ.alloc aU _).trans (hb.mono (by simp))⟩
 by_cases k3:r<65536
 ·
  have HP:=bx (λW=>asR r w.heap.size W (by omega) (by omega));have HV:=bx (HE.o [224+r / 4096,128+r / 64 % 64,128+r % 64] (by unfold U.enc;rw [aF (by omega),aF (by omega),aG (by omega)];rfl))
  go_in
  go_wp2_with (first
   | (go_at_call 150;refine aP (HC.o _) ?_)
   | (go_at_call 151;refine(HP.o _ (aC.new w _ _)).mono ?_;rintro e w' ⟨rfl,hb⟩))
  go_ret2
  exact⟨zu HV.o,(aZ.alloc aU _).trans (hb.mono (by simp))⟩
 
 have HP:=bx (λW=>akW r w.heap.size W (by omega) (by omega));have HV:=bx (HE.o [240+r / 262144,128+r / 4096 % 64,128+r / 64 % 64,128+r % 64] (by unfold U.enc;rw [aF (by omega),aF (by omega),aF (by omega)];rfl))
 go_in
 go_wp2_with (first
  | (go_at_call 150;refine aP (HC.o _) ?_)
  | (go_at_call 151;refine(HP.o _ (aC.new w _ _)).mono ?_;rintro e w' ⟨rfl,hb⟩))
 go_ret2
 exact⟨zu HV.o,(aZ.alloc aU _).trans (hb.mono (by simp))⟩
theorem QK (A:Nat->Addr) (B:Nat) (s:ByteArray) (w:World) (hs:s.size<=maxLen) (hE:E A B w) (hB:B<=w.heap.size) :
  Calls prog 159 #[.string s] w λe w'=>e = .returned (AB s.data.toList)/\ak w w':=by
 have HN:=bx (next_any A B w.heap.size .nilIface s (w.alloc (.cells #[.string s, .nilIface] 152)) hs (hE.below ((Below.refl B w).alloc hB _)) hB (aC.new w _ _));clear hE
 go_in
 go_wp2_with fail;refine HN.o.mono ?_;intro e w' hN;unfold IL at hN
 cases hd:U.dec s.data.toList with
 | none =>
  rw [hd] at hN;obtain⟨rfl,hk,hg⟩:=hN;have HD:=bx hd;clear hd hk;go_wp2_with fail
  go_ret3
  refine⟨by unfold AB;rw [HD.o];rfl,?_⟩;exact(aZ.alloc aU _).trans (IZ hg aU (by simp))
 | some p =>
  obtain⟨r,n⟩:=p;rw [hd] at hN;obtain⟨rfl,hk,hg⟩:=hN;have hn:=(U.JF hd).2.2.1;have HD:=bx hd;clear hd hk;go_wp2_with fail
  go_ret3
  refine⟨by unfold AB;rw [HD.o];exact au4 rfl rfl (ai1 (by simp;omega)),?_⟩;exact(aZ.alloc aU _).trans (IZ hg aU (by simp))
namespace T
open Go.Proofs.YtdponihkpomheaaGreatDoor
def Ae (c:Cs) (l:List Int) (a k:Nat):Bool:=(List.range k).any λi=>cased c (l.getD (a+i) 0)
def Ez (c:Cs) (l:List Int) (a:Nat):Nat->List Int
 | 0=>[]
 | k+1=>Ez c l a k++(if Ae c l a k=true then small c l (a+k) else if cased c (l.getD (a+k) 0)=true then becomes c.ti (l.getD (a+k) 0) else [l.getD (a+k) 0])
theorem U8 (c:Cs) (l:List Int) (a k:Nat):Ae c l a (k+1)=(Ae c l a k||cased c (l.getD (a+k) 0)):=by
 unfold Ae;rw [List.range_succ,List.any_append,List.any_cons,List.any_nil,Bool.or_false]
theorem VL (c:Cs) (l:List Int) (a:Nat):∀ (n k:Nat),Ez c l a (k+n)=Ez c l a k++yI c l n (a+k) (Ae c l a k)
 | 0,k=>by
  cases Ae c l a k <;> simp [yI]
 | n+1,k=>by
  have ih:=VL c l a n (k+1);rw [show k+(n+1)=k+1+n by omega,ih,U8];simp only [Ez];rw [pz]
  congr 1
  cases hm:Ae c l a k with
  | true =>
   rw [aG rfl,Bool.true_or];simp only [yI]
   rfl
  | false =>
   rw [aF (by simp),Bool.false_or]
   cases hc:cased c (l.getD (a+k) 0) with
   | true =>
    rw [aG rfl];simp only [yI];rw [aG hc]
    rfl
   | false =>
    rw [aF (by simp)];simp only [yI];rw [aF (by rw [hc];simp)]
    rfl
theorem aeH (c:Cs) (l:List Int) (a b:Nat):Ez c l a (b-a)=word c l a b:=by
 have:=VL c l a (b-a) 0;rw [Nat.zero_add] at this;rw [this]
 rfl
end T
namespace T
open Go.Proofs.YtdponihkpomheaaGreatDoor
def Fine (n:Nat) (m:List Int):Prop:=m.length<=3*n/\∀ x∈m,U.right x=true
theorem Fine.nil:Fine 0 []:=⟨by simp,by simp⟩
theorem Fine.append {a b:Nat} {m n:List Int} (h:Fine a m) (k:Fine b n):Fine (a+b) (m++n):=by
 refine⟨?_,λx hx=>?_⟩
 ·rw [bC];have:=h.1;have:=k.1;omega
 rcases lM.1 hx with hx | hx
 ·exact h.2 x hx
 exact k.2 x hx
theorem Fine.one {r:Int} (h:U.right r=true):Fine 1 [r]:=⟨by simp,λx hx=>by rw [fU] at hx;rw [hx];exact h⟩
theorem agk:∀ (l:List F.Map) (last:Int),Gg last l=true->∀ x∈l,toB x.2=true
 | [],_,_,x,hx=>by simp at hx
 | y::t,last,h,x,hx=>by
  unfold Gg at h;simp only [dD] at h
  rcases fB.1 hx with rfl | hx
  ·exact h.1.2
  exact agk t y.1 h.2 x hx
theorem RU {m:Nat} {l:List F.Map} (h:uP m l=true) {r:Int} (hr:U.right r=true):Fine 1 (becomes l r):=by
 unfold becomes
 split
 ·rename_i x hx
  unfold uP at h;rw [dD] at h;have ht:=agk l _ h.1 x (List.mem_of_find?_eq_some hx);unfold toB at ht;simp only [dD,fD,jG] at ht;exact⟨by omega,ht.2⟩
 exact Fine.one hr
theorem SV {m:Nat} {c:Cs} (h:lI m c=true):uP m c.lo=true/\uP m c.ti=true:=by
 unfold lI at h;simp only [dD] at h;exact⟨h.1.1.1,h.1.1.2⟩
theorem Wx {l:List Int} (h:∀ x∈l,U.right x=true) {i:Nat} (hi:i<l.length):U.right (l.getD i 0)=true:=by
 rw [fO,dW hi,jE];exact h _ (List.getElem_mem hi)
theorem adR {m:Nat} {c:Cs} (h:lI m c=true) {l:List Int} (hl:∀ x∈l,U.right x=true) {i:Nat} (hi:i<l.length):Fine 1 (small c l i):=by
 unfold small
 split
 ·exact Fine.one (by decide)
 exact RU (SV h).1 (Wx hl hi)
theorem ag0 {m:Nat} {c:Cs} (h:lI m c=true) {l:List Int} (hl:∀ x∈l,U.right x=true) (a:Nat):∀ k,a+k<=l.length->Fine k (Ez c l a k)
 | 0,_=>Fine.nil
 | k+1,hk=>by
  refine(ag0 h hl a k (by omega)).append ?_
  split
  ·exact adR h hl (by omega)
  split
  ·exact RU (SV h).2 (Wx hl (by omega))
  exact Fine.one (Wx hl (by omega))
theorem ao0 {m:Nat} {c:Cs} (h:lI m c=true) {l:List Int} (hl:∀ x∈l,U.right x=true) (a b:Nat) (hb:b<=l.length):Fine (b-a) (word c l a b):=by
 rw [<- aeH]
 rcases Nat.le_total a b with hab | hab
 ·exact ag0 h hl a _ (by omega)
 rw [show b-a=0 by omega];exact Fine.nil
def part (l:List Int) (a k:Nat):List Int:=(l.drop a).take k
theorem air {l:List Int} {a k:Nat} (h:a+k<l.length):part l a (k+1)=part l a k++[l.getD (a+k) 0]:=by
 unfold part;rw [Ja (by rw [gy];omega),List.getElem_drop,fO,dW h,jE]
theorem aiw {c:Cs} {l:List Int} {a:Nat}:∀ {k:Nat},a+k<=l.length->Ae c l a k=false->Ez c l a k=part l a k
 | 0,_,_=>by simp [Ez,part]
 | k+1,hk,hm=>by
  rw [U8,Bool.or_eq_false_iff] at hm;rw [air (by omega)];simp only [Ez];rw [aiw (by omega) hm.1,hm.1,hm.2,aF (by simp),aF (by simp)]
theorem asa {c:Cs} {l:List Int} {a k b:Nat} (h:a+k<=b) (hb:b<=l.length) (hm:Ae c l a k=false):word c l a b=part l a k++word c l (a+k) b:=by
 rw [<- aeH];have:=VL c l a (b-a-k) k;rw [show k+(b-a-k)=b-a by omega] at this;rw [this,aiw (by omega) hm,hm]
 congr 1
 unfold word;rw [show b-(a+k)=b-a-k by omega]
end T
end Go.Proofs.YtdponihkpomheaaGreatDoor
