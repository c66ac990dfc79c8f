/- Texts of this claim. -/
import Derived.Lib.Strings
import Derived.Test.YtdenoeakcflnmaaGreatDoorH5
import Derived.Test.YtdenoeakcflnmaaGreatDoorH7

set_option maxRecDepth 100000
set_option maxHeartbeats 16000000
namespace Go.Proofs.YtdenoeakcflnmaaGreatDoor
section
open Go.RowKit Go.Shelf
attribute [local go_sem] Oper.semAt_some
theorem amb (v:Value) (M:D.bH) (w0 w:World) (hv:kQ w0 v M) (hb0:Below w0.heap.size w0 w) :
  Calls Tryz.prog 71 #[v] w λe w'=>Below w.heap.size w w'/\∃ nv fv vs,e = .returned (.agg #[nv,fv])/\vZ w0 vs (Ae M).1/\w'.ownsRow w.heap.size 22 1 nv vs.length vs/\aB w0 fv (Ae M).2:=by
 obtain⟨na,fa,rfl,hra,hia⟩:=hv;have oD:=bx hra;have HB0:=bx hb0;obtain⟨aa,ca,rfl⟩:=hra.slice;obtain⟨fo,fc,rfl⟩:=hia.slice;obtain⟨hf1,hf2⟩:=ML hia;have vN:=bx (MP hia 302);obtain⟨nf,hnf⟩:∃ nf,(M.2.take 302).length=nf:=⟨_,rfl⟩
 have E8:=bx (show nf=min 302 M.2.length by rw [<- hnf,List.length_take]);rw [hnf] at vN;have aj0:=bx hnf;obtain⟨m,hm⟩:∃ m,m=min M.1.length 302:=⟨_,rfl⟩
 have HM:=bx hm;have hm1:m<=M.1.length:=by omega
 have hm2:m<=302:=by omega
 obtain⟨w3,hw3⟩:∃ w3,w3=((w.alloc (.cells #[.slice aa M.1.length ca, .slice fo M.2.length fc] 29)).alloc (.cells #[.slice none 0 0, .slice none 0 0] 29)).alloc (.cells #[.slice none 0 0, .slice fo nf fc] 29):=⟨_,rfl⟩
 have aC:=bx (show ∃ vs,vZ w0 vs ((M.1.take 0).map KQ)/\Sep [Pc.row w.heap.size 22 1 (.slice none 0 0) 0 vs,Pc.blk (w.heap.size+1+1) 29 #[.slice none 0 0, .slice fo nf fc],Pc.blk (w.heap.size+1) 29 #[.slice none 0 0, .slice none 0 0],Pc.blk w.heap.size 29 #[.slice aa M.1.length ca, .slice fo M.2.length fc],Pc.old w.heap.size w] w3 by
  have h1:=(((Sep.start w).bM 29 #[.slice aa M.1.length ca, .slice fo M.2.length fc]).bM 29 #[.slice none 0 0, .slice none 0 0]).bM 29 #[.slice none 0 0, .slice fo nf fc];refine⟨[],⟨rfl,λi r h=>by simp at h⟩,?_⟩;rw [hw3];have h2:=h1.iW w.heap.size 1 22
  simpa using h2)
 have HW3:=bx hw3;clear hb0 hra hia hm hnf hw3
 go_enter Tryz.func71,Tryz.ntmps71
 rcases (show (302<M.2.length/\nf=302)\/(M.2.length<=302/\nf=M.2.length) by have:=E8.o;omega) with⟨hq,hq2⟩ | ⟨hq,hq2⟩
 all_goals
  have hw3:=HW3.o;have hmi:min (M.2.length:Int) 302=(nf:Int):=by omega
  go_upto_region 2 with(fail)
  first | rw [hq2] at hw3 | skip
  rw [<- hw3];clear hw3 hmi hq hq2;go_wp2_with fail
  go_loopw [4] (λi wr=>∃ k:Nat,k<=m/\i = .int .i64 k/\Box (∃ nv vs,vZ w0 vs ((M.1.take k).map KQ)/\Sep [Pc.row w.heap.size 22 1 nv k vs,Pc.blk (w.heap.size+1+1) 29 #[nv, .slice fo nf fc],Pc.blk (w.heap.size+1) 29 #[.slice none 0 0, .slice none 0 0],Pc.blk w.heap.size 29 #[.slice aa M.1.length ca, .slice fo M.2.length fc],Pc.old w.heap.size w] wr)) (λi _=>m-(intOf i).toNat)
  case atStart=>obtain⟨vs,h1,h2⟩:=aC.o;exact⟨0,by omega,rfl,⟨_,vs,h1,h2⟩⟩
  case round =>
   obtain⟨k,hk,rfl,hbox⟩:=hrel;obtain⟨nv,vs,hvs,hsep⟩:=hbox.o;have Ah:=bx (HB0.o.trans ((hsep.bel (n:=w.heap.size) (W0:=w) (by simp)).mono HB0.o.size));have rD:=bx hvs;have BD:=bx hsep;have aP:=bx (show Below w.heap.size w wr from hsep.bel (by simp));obtain⟨no,nc,rfl,hn1,hn2⟩:=iU (hsep.row 0 rfl);have mZ:=bx (hsep.blk 1 rfl);have HG2:=bx (hsep.blk 2 rfl);have lG:=bx (hsep.blk 3 rfl);have g1:wr.cell? ⟨w.heap.size,0,none⟩=some (.slice aa M.1.length ca):=(lG.o.cell 0).trans rfl;have l1:=lG.o.lt;clear hvs hsep hbox
   by_cases hlt:k<m
   ·obtain⟨x,hx⟩:∃ x,M.1[k]?=some x:=⟨_,List.getElem?_eq_getElem (by omega)⟩
    obtain⟨pa,oa,ca',ha0,ha1,ha2,qw,jk⟩:=oD.o.get (by intro e;rw [e] at hx;simp at hx);obtain⟨rfl,rfl⟩:aa=some ⟨pa,oa,none⟩/\ca=ca':=by injection ha0 with h1 h2 h3;exact⟨h1,h3⟩
    obtain⟨xv,hxc,hxi⟩:=jk k x hx;obtain⟨xo,xc,rfl⟩:=hxi.slice;obtain⟨hx1,hx2⟩:=ML hxi;have JG:=bx (MP hxi 34);obtain⟨q,hq⟩:∃ q,(x.take 34).length=q:=⟨_,rfl⟩
    have HQ:=bx (show q=min 34 x.length by rw [<- hq,List.length_take]);rw [hq] at JG;have dF:=bx (Xj M.1 k x hx);have lC:=bx (show ∀ W,Below wr.heap.size wr W->W.cell? ⟨w.heap.size+1+1,0,none⟩=some (.slice no k nc)/\W.cell? ⟨w.heap.size,0,none⟩=some (.slice (some ⟨pa,oa,none⟩) M.1.length ca)/\W.cell? ⟨pa,oa+k,none⟩=some (.slice xo x.length xc) from λW h =>
     ⟨((mZ.o.below h mZ.o.lt).cell 0).trans rfl,((lG.o.below h lG.o.lt).cell 0).trans rfl,((bt Ah.o h).cell (p:=⟨pa,oa+k,none⟩) qw).trans hxc⟩)
    have aF:=bx (show Below wr.heap.size wr wr.drew from⟨rfl,rfl,rfl,Nat.le_refl _,λ_ _=>rfl⟩);have dY:=bx BD.o.drew;have WV:w.heap.size<=wr.drew.heap.size:=aP.o.size;have aoh:k<302:=by omega
    have hkl:k<M.1.length:=by omega
    have hkc:k<ca:=by omega
    have l3:=mZ.o.lt;unfold maxLen at ha2;clear ha0 jk hx hxc hxi hq;go_wp2_with fail
    rcases (show ((34:Int)<(x.length:Int)/\(34:Int)<=(xc:Int)/\q=34)\/(¬ (34:Int)<(x.length:Int)/\(x.length:Int)<=(xc:Int)/\q=x.length) by have:=HQ.o;omega) with⟨hq1,hq3,rfl⟩ | ⟨hq1,hq3,rfl⟩
    all_goals
     refine fP 16 (λW=>W.cell? ⟨w.heap.size+1+1,0,none⟩=some (.slice no k nc)/\W.cell? ⟨w.heap.size,0,none⟩=some (.slice (some ⟨pa,oa,none⟩) M.1.length ca)/\W.cell? ⟨pa,oa+k,none⟩=some (.slice xo x.length xc)) (by kernel_rfl) ?_;have aA:=bx (lC.o _ aF.o);have tX:=bx (λo=>lC.o _ (aF.o.alloc aF.o.size o));generalize wr.drew=WR at *;refine kS 0 ?_ rfl aA.o ?_ ?_;rotate_left
     ·rintro w ⟨q1,q2,q3⟩;go_simp;try with_reducible rfl
     refine kS 1 ?_ rfl aA.o ?_ ?_;rotate_left
     ·rintro w ⟨q1,q2,q3⟩;go_simp;try with_reducible rfl
     refine kS 2 ?_ rfl aA.o ?_ ?_;rotate_left
     ·rintro w ⟨q1,q2,q3⟩;go_simp;try with_reducible rfl
     refine kS 3 ?_ rfl aA.o ?_ ?_;rotate_left
     ·rintro w ⟨q1,q2,q3⟩;go_simp;try with_reducible rfl
     refine kS 4 ?_ rfl aA.o ?_ ?_;rotate_left
     ·rintro w ⟨q1,q2,q3⟩;go_simp;try with_reducible rfl
     refine kS 5 ?_ rfl aA.o ?_ ?_;rotate_left
     ·rintro w ⟨q1,q2,q3⟩;go_simp;try with_reducible rfl
     refine kS 6 ?_ rfl aA.o ?_ ?_;rotate_left
     ·rintro w ⟨q1,q2,q3⟩;go_simp;try with_reducible rfl
     refine kS 7 ?_ rfl aA.o ?_ ?_;rotate_left
     ·rintro w ⟨q1,q2,q3⟩;go_simp;try with_reducible rfl
     refine kS 8 ?_ rfl aA.o ?_ ?_;rotate_left
     ·rintro w ⟨q1,q2,q3⟩;go_simp;try with_reducible rfl
     refine kS 9 ?_ rfl aA.o ?_ ?_;rotate_left
     ·rintro w ⟨q1,q2,q3⟩;go_simp;try with_reducible rfl
     refine kS 10 ?_ rfl aA.o ?_ ?_;rotate_left
     ·rintro w ⟨q1,q2,q3⟩;go_simp;try with_reducible rfl
     refine kS 11 ?_ rfl aA.o ?_ ?_;rotate_left
     ·rintro w ⟨q1,q2,q3⟩;go_simp;try with_reducible rfl
     refine kS 12 ?_ rfl aA.o ?_ ?_;rotate_left
     ·rintro w ⟨q1,q2,q3⟩;go_simp;try with_reducible rfl
     refine kS 13 ?_ rfl aA.o ?_ ?_;rotate_left
     ·rintro w ⟨q1,q2,q3⟩;go_simp;try with_reducible rfl
     refine kS 14 ?_ rfl aA.o ?_ ?_;rotate_left
     ·rintro w ⟨q1,q2,q3⟩;go_simp;try with_reducible rfl
     refine kP 15 rfl λKK ah=>?_
     go_simp;refine ah.out _ _ (λ_=>tX.o _) ?_;clear ah KK;refine kP 16 rfl λKK ah=>?_
     refine uF rfl _ _ 23 rfl O9 dY.o 0 rfl (by kernel_rfl) (by kernel_rfl) rfl (by omega) (by omega) WV ?_;rintro v' w9 kY ⟨g9,c9,rfl,h91,h92⟩;refine ah.out _ _ (λh=>by cases h) ?_;clear ah KK;have qJ:=bx (kY.blk 1 rfl);have z0:=(qJ.o.cell 0).trans (show _=some (Value.slice no k nc) from rfl);have z1:=qJ.o.frozen 0;have z2:=qJ.o.lt;have Xh:=bx (kY.set 1 rfl 0 (.slice (some ⟨g9,0,none⟩) (k+1) c9));clear kY;refine kP 17 rfl λKK ah=>?_
     go_simp;refine ah.out _ _ (λh=>by cases h) ?_;clear ah KK;refine kP 18 rfl λKK ah=>?_
     go_simp;refine ah.out _ _ (λh=>by cases h) ?_;clear ah KK;refine kD ?_ _;have HN:=bx (show ∃ nv vs,vZ w0 vs ((M.1.take (k+1)).map KQ)/\Sep [Pc.row w.heap.size 22 1 nv (k+1) vs,Pc.blk (w.heap.size+1+1) 29 #[nv, .slice fo nf fc],Pc.blk (w.heap.size+1) 29 #[.slice none 0 0, .slice none 0 0],Pc.blk w.heap.size 29 #[.slice (some ⟨pa,oa,none⟩) M.1.length ca, .slice fo M.2.length fc],Pc.old w.heap.size w] _ by
      refine⟨_,_,?_,Xh.o⟩;rw [dF.o,List.map_append];exact rD.o.snoc JG.o)
     go_wp2_with fail
     go_roundw
     case rel=>exact⟨k+1,hlt,by go_num,HN⟩
     case measure=>simp [intOf];omega
   ·have hkm:k=m:=by omega
    have yA:=bx hkm;have hd:M.1.length<=k\/(k<M.1.length/\302<=k):=by have:=HM.o;omega
    have z0:wr.cell? ⟨w.heap.size+1+1,0,none⟩=some (.slice no k nc):=(mZ.o.cell 0).trans rfl;have z1:wr.cell? ⟨w.heap.size+1+1,1,none⟩=some (.slice fo nf fc):=(mZ.o.cell 1).trans rfl;have z2:=mZ.o.lt;have y0:=(HG2.o.cell 0).trans (show _=some (Value.slice none 0 0) from rfl);have y1:=(HG2.o.cell 1).trans (show _=some (Value.slice none 0 0) from rfl);have f0:=HG2.o.frozen 0;have f1:=HG2.o.frozen 1;have y2:=HG2.o.lt;have jo:=bx ((BD.o.set 2 rfl 0 (.slice no k nc)).set 2 rfl 1 (.slice fo nf fc));have dL:=bx (show (M.1.take k).map KQ=(Ae M).1 by
     unfold Ae;simp only;rw [yA.o,HM.o]
     rcases Nat.le_total M.1.length 302 with h | h
     ·rw [Nat.min_eq_left h,List.take_length,List.take_of_length_le h];rfl
     ·rw [Nat.min_eq_right h];rfl)
    have AY:=bx (show k=((M.1.take k).map KQ).length by rw [List.length_map,List.length_take];have:=HM.o;omega);clear hkm
    rcases hd with hd | ⟨hd,hd2⟩
    all_goals
     go_wp2_with fail;have tC:=jo.o.bel (n:=w.heap.size) (W0:=w) (by simp);refine bodyPost_ret (v:=.agg #[.slice no k nc, .slice fo nf fc]) (results_cell_row Tryz.results71 _ _ (w.heap.size+1) 29 _ (0,0) _ rfl (jo.o.blk 2 rfl) Tryz.underlying29 rfl OX) rfl ⟨tC,_,_,vs,rfl,?_,?_,vN.o⟩
     ·rw [<- dL.o];exact rD.o
     ·rw [rD.o.1,<- AY.o];exact jo.o.row 0 rfl
theorem akP (v:Value) (l:List D.Rule) (w0 w:World) (hv:fA w0 v l) (hb0:Below w0.heap.size w0 w) :
  Calls Tryz.prog 69 #[v] w λe w'=>Below w.heap.size w w'/\∃ v',e = .returned v'/\∃ L:List (D.Rule×Value×Value),L.map (·.1)=Ej l/\G9 w0 L/\w'.ownsRow w.heap.size 184 5 v' L.length (L.flatMap vI):=by
 have HR:=bx hv;have HB0:=bx hb0;obtain⟨ao,cap,rfl⟩:=hv.slice;obtain⟨m,hm⟩:∃ m,m=min l.length 42:=⟨_,rfl⟩
 have HM:=bx hm;have hm1:m<=l.length:=by omega
 have hm2:m<=42:=by omega
 have aQ:=bx (show ∃ L:List (D.Rule×Value×Value),L.length=0/\L.map (·.1)=(l.take 0).map EW/\G9 w0 L/\Sep [Pc.row w.heap.size 184 5 (.slice none 0 0) 0 (L.flatMap vI),Pc.old w.heap.size w] w from
  ⟨[],rfl,rfl,λy hy=>absurd hy List.not_mem_nil,(Sep.start w).iW _ _ _⟩)
 clear hv hm hb0
 go_enter Tryz.func69,Tryz.ntmps69
 go_wp2_with fail
 go_loopw [3,4] (λo i wr=>∃ k:Nat,k<=m/\i = .int .i64 k/\Box (∃ L:List (D.Rule×Value×Value),L.length=k/\L.map (·.1)=(l.take k).map EW/\G9 w0 L/\Sep [Pc.row w.heap.size 184 5 o k (L.flatMap vI),Pc.old w.heap.size w] wr)) (λ_ i _=>m-(intOf i).toNat)
 case atStart=>exact⟨0,by omega,rfl,aQ⟩
 case round =>
  obtain⟨k,hk,rfl,hbox⟩:=hrel;obtain⟨L,hL1,hL2,hL3,hsep⟩:=hbox.o;have aP:=bx (show Below w.heap.size w wr from hsep.bel (by simp));have Ah:=bx (bt HB0.o aP.o);have iQ:=bx hL1;have HL2:=bx hL2;have Ai:=bx hL3;have BD:=bx hsep;obtain⟨oo,oc,rfl,ho1,ho2⟩:=iU (hsep.row 0 rfl);clear hbox hL1 hL2 hL3 hsep
  by_cases hlt:k<m
  ·obtain⟨x,hx⟩:∃ x,l[k]?=some x:=⟨_,List.getElem?_eq_getElem (by omega)⟩
   obtain⟨bg,off,cap2,hg1,hg2,hg3,hg4,hg5⟩:=(HR.o.below Ah.o).get (by rintro rfl;simp at hm1;omega);obtain⟨rfl,rfl⟩:ao=some ⟨bg,off,none⟩/\cap=cap2:=by injection hg1 with h1 h2 h3;exact⟨h1,h3⟩
   obtain⟨vl,vr,hc0,hc1,hc2,hc3,hc4,hil,hir⟩:=hg5 k x hx;obtain⟨bg',off',anR,Xx,kg2,kg3,kg4,kg5⟩:=HR.o.get (by rintro rfl;simp at hm1;omega);obtain⟨rfl,rfl⟩:bg=bg'/\off=off':=by injection Xx with h1 h2 h3;injection h1 with h1;injection h1 with h1 h2;exact⟨h1,h2⟩
   obtain⟨vl',vr',kc0,kc1,kc2,kc3,kc4,OE,OV⟩:=kg5 k x hx;obtain rfl:vl=vl':=by
    have:=(Ah.o.cell (p:=⟨bg,off+k*5+1,none⟩) kg4).trans kc1;rw [hc1] at this;simpa using this
   obtain rfl:vr=vr':=by
    have:=(Ah.o.cell (p:=⟨bg,off+k*5+3,none⟩) kg4).trans kc3;rw [hc3] at this;simpa using this
   have gB:=bx (λW (h:Below w0.heap.size w0 W)=>abz x.1.1 vl x.1.2 W (OE.below h));have XT:=bx (λW (h:Below w0.heap.size w0 W)=>abz x.2.1.1 vr x.2.1.2 W (OV.below h));have AY:=bx OE;have HKR:=bx OV;have dF:=bx (Xj l k x hx);have anN:k<42:=by omega
   have hkl:k<l.length:=by omega
   have hkc:k<cap:=by omega
   unfold maxLen at hg3;obtain⟨al,cl,rfl⟩:=OE.slice;obtain⟨ar,cr,rfl⟩:=OV.slice;obtain⟨⟨rE,il⟩,⟨str,ir⟩,br⟩:=x;simp only at hc0 hc1 hc2 hc3 hc4 gB XT AY HKR;have lC:=bx (show ∀ W,Below wr.heap.size wr W->W.cell? ⟨bg,off+k*5,none⟩=some (.bool rE)/\W.cell? ⟨bg,off+k*5+1,none⟩=some (.slice al il.length cl)/\W.cell? ⟨bg,off+k*5+2,none⟩=some (.bool str)/\W.cell? ⟨bg,off+k*5+3,none⟩=some (.slice ar ir.length cr)/\W.cell? ⟨bg,off+k*5+4,none⟩=some (.bool br) from λW h =>
    ⟨(h.cell (p:=⟨bg,off+k*5,none⟩) hg4).trans hc0,(h.cell (p:=⟨bg,off+k*5+1,none⟩) hg4).trans hc1,(h.cell (p:=⟨bg,off+k*5+2,none⟩) hg4).trans hc2,(h.cell (p:=⟨bg,off+k*5+3,none⟩) hg4).trans hc3,(h.cell (p:=⟨bg,off+k*5+4,none⟩) hg4).trans hc4⟩)
   have aF:=bx (show Below wr.heap.size wr wr.drew from⟨rfl,rfl,rfl,Nat.le_refl _,λ_ _=>rfl⟩);clear hg1 hg5 Xx kg5 hil hir OE OV kc0 kc1 kc2 kc3 kc4 hc0 hc1 hc2 hc3 hc4 hx kg2 kg3;go_wp2_with fail;refine fP 20 (λW=>W.cell? ⟨bg,off+k*5,none⟩=some (.bool rE)/\W.cell? ⟨bg,off+k*5+1,none⟩=some (.slice al il.length cl)/\W.cell? ⟨bg,off+k*5+2,none⟩=some (.bool str)/\W.cell? ⟨bg,off+k*5+3,none⟩=some (.slice ar ir.length cr)/\W.cell? ⟨bg,off+k*5+4,none⟩=some (.bool br)) (by kernel_rfl) ?_;have aA:=bx (lC.o _ aF.o);refine kS 0 ?_ rfl aA.o ?_ ?_;rotate_left
   ·rintro w ⟨q1,q2,q3,q4,q5⟩;go_simp;try with_reducible rfl
   refine kS 1 ?_ rfl aA.o ?_ ?_;rotate_left
   ·rintro w ⟨q1,q2,q3,q4,q5⟩;go_simp;try with_reducible rfl
   refine kS 2 ?_ rfl aA.o ?_ ?_;rotate_left
   ·rintro w ⟨q1,q2,q3,q4,q5⟩;go_simp;try with_reducible rfl
   refine kS 3 ?_ rfl aA.o ?_ ?_;rotate_left
   ·rintro w ⟨q1,q2,q3,q4,q5⟩;go_simp;try with_reducible rfl
   refine kS 4 ?_ rfl aA.o ?_ ?_;rotate_left
   ·rintro w ⟨q1,q2,q3,q4,q5⟩;go_simp;try with_reducible rfl
   refine kS 5 ?_ rfl aA.o ?_ ?_;rotate_left
   ·rintro w ⟨q1,q2,q3,q4,q5⟩;go_simp;try with_reducible rfl
   refine kS 7 ?_ rfl aA.o ?_ ?_;rotate_left
   ·rintro w ⟨q1,q2,q3,q4,q5⟩;go_simp;try with_reducible rfl
   refine kS 8 ?_ rfl aA.o ?_ ?_;rotate_left
   ·rintro w ⟨q1,q2,q3,q4,q5⟩;go_simp;try with_reducible rfl
   refine kS 9 ?_ rfl aA.o ?_ ?_;rotate_left
   ·rintro w ⟨q1,q2,q3,q4,q5⟩;go_simp;try with_reducible rfl
   refine kS 10 ?_ rfl aA.o ?_ ?_;rotate_left
   ·rintro w ⟨q1,q2,q3,q4,q5⟩;go_simp;try with_reducible rfl
   refine kS 11 ?_ rfl aA.o ?_ ?_;rotate_left
   ·rintro w ⟨q1,q2,q3,q4,q5⟩;go_simp;try with_reducible rfl
   refine kS 13 ?_ rfl aA.o ?_ ?_;rotate_left
   ·rintro w ⟨q1,q2,q3,q4,q5⟩;go_simp;try with_reducible rfl
   refine kS 14 ?_ rfl aA.o ?_ ?_;rotate_left
   ·rintro w ⟨q1,q2,q3,q4,q5⟩;go_simp;try with_reducible rfl
   refine kS 15 ?_ rfl aA.o ?_ ?_;rotate_left
   ·rintro w ⟨q1,q2,q3,q4,q5⟩;go_simp;try with_reducible rfl
   refine kS 16 ?_ rfl aA.o ?_ ?_;rotate_left
   ·rintro w ⟨q1,q2,q3,q4,q5⟩;go_simp;try with_reducible rfl
   refine kS 17 ?_ rfl aA.o ?_ ?_;rotate_left
   ·rintro w ⟨q1,q2,q3,q4,q5⟩;go_simp;try with_reducible rfl
   refine kP 6 rfl λKK ah=>?_
   go_simp;go_wp2_with (go_at_call 124;refine(gB.o _ (bt Ah.o aF.o)).mono ?_;rintro e w7 ⟨⟨vl2,rfl,hvl⟩,hb7⟩)
   have bW:=bx (show Below wr.heap.size wr w7 from aF.o.trans (hb7.mono (Nat.le_refl _)));have wO:=bx (hvl w0 AY.o);clear hb7 hvl;refine ah.out _ _ (λ_=>lC.o _ bW.o) ?_;clear ah KK;refine kP 12 rfl λKK ah=>?_
   go_simp;go_wp2_with (go_at_call 124;refine(XT.o _ (bt Ah.o bW.o)).mono ?_;rintro e w8 ⟨⟨vr2,rfl,sU⟩,hb8⟩)
   have eF:=bx (show Below wr.heap.size wr w8 from bt bW.o hb8);have Ov:=bx (sU w0 HKR.o);clear hb8 sU;refine ah.out _ _ (λ_=>lC.o _ eF.o) ?_;clear ah KK;obtain⟨al2,YH,hv2⟩:=wO.o.slice;obtain⟨YR,XM,hv3⟩:=Ov.o.slice;generalize (il.take 12).length=nl at hv2;generalize (ir.take 12).length=nr at hv3;subst hv2;subst hv3;refine kP 18 rfl λKK ah=>?_
   go_simp;refine ah.out _ _ (λ_=>lC.o _ eF.o) ?_;clear ah KK;refine kP 19 rfl λKK ah=>?_
   go_simp;refine ah.out _ _ (λ_=>lC.o _ (eF.o.alloc eF.o.size _)) ?_;clear ah KK;have kM:=bx (BD.o.below eF.o);have ag9:w.heap.size<=w8.heap.size:=Nat.le_trans aP.o.size eF.o.size;refine kP 20 rfl λKK ah=>?_
   refine amc (cs:=vI (EW ((rE,il),(str,ir),br), .slice al2 nl YH, .slice YR nr XM)) rfl _ _ 26 rfl Zy (by decide) kM.o 0 rfl (by kernel_rfl) (by kernel_rfl) rfl (by intro u hu;simp only [vI,List.mem_cons,List.not_mem_nil,or_false] at hu;rcases hu with rfl | rfl | rfl | rfl | rfl <;> rfl) (by omega) (by omega) ag9 ?_;rintro v' w9 kY -;refine ah.out _ _ (λh=>by cases h) ?_;clear ah KK;refine kP 21 rfl λKK ah=>?_
   go_simp;refine ah.out _ _ (λh=>by cases h) ?_;clear ah KK;refine kD ?_ _;have HN:=bx (show ∃ L:List (D.Rule×Value×Value),L.length=k+1/\L.map (·.1)=(l.take (k+1)).map EW/\G9 w0 L/\Sep [Pc.row w.heap.size 184 5 v' (k+1) (L.flatMap vI),Pc.old w.heap.size w] w9 by
    refine⟨L++[(EW ((rE,il),(str,ir),br), .slice al2 nl YH, .slice YR nr XM)],?_,?_,?_,?_⟩
    ·rw [List.length_append,iQ.o];rfl
    ·rw [List.map_append,HL2.o,dF.o,List.map_append];rfl
    ·intro y hy
     rcases List.mem_append.1 hy with h | h
     ·exact Ai.o y h
     ·rw [List.mem_singleton.1 h];exact⟨wO.o,Ov.o⟩
    ·rw [List.flatMap_append,List.flatMap_singleton];exact kY)
   clear kY;go_wp2_with fail
   go_roundw
   case rel=>exact⟨k+1,hlt,by go_num,HN⟩
   case measure=>simp [intOf];omega
  ·have hkm:k=m:=by omega
   have yA:=bx hkm;have hd:l.length<=k\/(k<l.length/\42<=k):=by have:=HM.o;omega
   clear hkm
   rcases hd with hd | ⟨hd,hd2⟩
   all_goals
    go_wp2_with fail;go_ret
    refine⟨aP.o,_,rfl,L,?_,Ai.o,by rw [iQ.o];exact BD.o.row 0 rfl⟩;rw [HL2.o];unfold Ej;rw [yA.o,HM.o]
    rcases Nat.le_total l.length 42 with h | h
    ·rw [Nat.min_eq_left h,List.take_of_length_le h,List.take_length]
    ·rw [Nat.min_eq_right h]
end
section
open Go.RowKit
attribute [local go_sem] QJ Uh
def qL (n:Int):Nat :=
 if n=0 then 0 else if n=128 then 4638707616191610880 else if n=143 then 4639235381772943360 else if n=144 then 4639270566145032192
 else if n=159 then 4639798331726364672 else if n=160 then 4639833516098453504 else 4640924231633207296
def zD (c:Int):Int:=if U.aN c<0 then 0 else U.aN c
def Aq (c:Int):Value:=.agg #[.int .u8 (U.fM c), .int .i64 (zD c), .complex .f64 (qL (U.cO c)) (qL (U.bZ c))]
theorem aaA {c m n lo hi:Int} {a b:Nat} (h1:U.fM c=m) (h2:zD c=n) (h3:U.cO c=lo) (h4:U.bZ c=hi) (h5:qL lo=a) (h6:qL hi=b) :
  Value.agg #[.int .u8 m, .int .i64 n, .complex .f64 a b]=Aq c:=by subst h1 h2 h3 h4 h5 h6;rfl
theorem LG {c m n lo hi:Int} {a b:Nat} (h2:U.aN c=n) (hn:0<=n) (h1:U.fM c=m) (h3:U.cO c=lo) (h4:U.bZ c=hi) (h5:qL lo=a) (h6:qL hi=b) :
  Value.agg #[.int .u8 m, .int .i64 n, .complex .f64 a b]=Aq c:=aaA h1 (by unfold zD;rw [h2,if_neg (by omega)]) h3 h4 h5 h6
theorem ag4 (w:World):(zeroValue 285).run Tryz.prog w = .ok (.agg #[.int .u8 0, .int .i64 0, .complex .f64 0 0]) w:=by kernel_rfl
def e1:MapEntry:=⟨.int .u8 224, .agg #[.int .u8 224, .int .i64 2, .complex .f64 4639833516098453504 4640924231633207296],0⟩
def e2:MapEntry:=⟨.int .u8 237, .agg #[.int .u8 224, .int .i64 2, .complex .f64 4638707616191610880 4639798331726364672],1⟩
def e3:MapEntry:=⟨.int .u8 240, .agg #[.int .u8 240, .int .i64 3, .complex .f64 4639270566145032192 4640924231633207296],2⟩
def e4:MapEntry:=⟨.int .u8 244, .agg #[.int .u8 240, .int .i64 3, .complex .f64 4638707616191610880 4639235381772943360],3⟩
theorem akE (c:Int) (h:¬ c=224/\¬ c=237/\¬ c=240/\¬ c=244):Instr.findNow (.int .u8) (.int .u8 c) [e1,e2,e3,e4] 0=some none:=by
 obtain⟨h1,h2,h3,h4⟩:=h
 replace h1:=beq_eq_false_iff_ne.2 h1
 replace h2:=beq_eq_false_iff_ne.2 h2
 replace h3:=beq_eq_false_iff_ne.2 h3
 replace h4:=beq_eq_false_iff_ne.2 h4
 simp only [Instr.findNow,Instr.sameNow,e1,e2,e3,e4,h1,h2,h3,h4,if_true]
theorem amK (c:Int) (h0:0<=c) (h1:c<256) (w:World) :
  Calls Tryz.prog 188 #[.int .u8 c] w λe w'=>e = .returned (Aq c)/\Below w.heap.size w w':=by
 have hmm:=@run_makeMap Tryz.prog;have Dp:=λ(W:World) (o:Obj)=>yQ (P:=Tryz.prog) Tryz.underlying312 Tryz.underlying5 (W.alloc o) #[] 0 224 e1.val (W.heap.size+1) (by simp) rfl
 have CG:=λ(W:World) (o:Obj)=>yQ (P:=Tryz.prog) Tryz.underlying312 Tryz.underlying5 (W.alloc o) #[e1] 1 237 e2.val (W.heap.size+1) (by simp) rfl
 have CV:=λ(W:World) (o:Obj)=>yQ (P:=Tryz.prog) Tryz.underlying312 Tryz.underlying5 (W.alloc o) #[e1,e2] 2 240 e3.val (W.heap.size+1) (by simp) rfl
 have alf:=λ(W:World) (o:Obj)=>yQ (P:=Tryz.prog) Tryz.underlying312 Tryz.underlying5 (W.alloc o) #[e1,e2,e3] 3 244 e4.val (W.heap.size+1) (by simp) rfl
 simp only [List.push_toArray,List.nil_append,List.cons_append,e1,e2,e3,e4,Nat.reduceAdd,Nat.zero_add] at Dp CG CV alf
 by_cases hs:¬ c=224/\¬ c=237/\¬ c=240/\¬ c=244
 ·have hlk:=λ(W:World) (o:Obj)=>afr (P:=Tryz.prog) Tryz.underlying312 Tryz.underlying5 ((W.alloc o).alloc (.map #[e1,e2,e3,e4] 4)) #[e1,e2,e3,e4] 4 c (W.heap.size+1) (Ib _ _ _ (by simp)) _ (ag4 _) (akE c hs)
  simp only [e1,e2,e3,e4] at hlk;obtain⟨n1,n2,n3,n4⟩:=hs
  go_enter Tryz.func188,Tryz.ntmps188
  go_wp2
  all_goals go_returns
  all_goals first
   | exact⟨uS (LG (lo:=128) (hi:=191) (by unfold U.aN;repeat' (first | omega | split)) (by omega) (by unfold U.fM U.aN;repeat' (first | omega | split)) (by unfold U.cO U.aN;repeat' (first | omega | split)) (by unfold U.bZ U.aN;repeat' (first | omega | split)) rfl rfl),(((Below.refl _ _).alloc (Nat.le_refl _) _).alloc (by simp) _).alloc (by simp;omega) _⟩
   | exact⟨uS (aaA (lo:=0) (hi:=0) (by unfold U.fM U.aN;repeat' (first | omega | split)) (by unfold zD U.aN;repeat' (first | omega | split)) (by unfold U.cO U.aN;repeat' (first | omega | split)) (by unfold U.bZ U.aN;repeat' (first | omega | split)) rfl rfl),(((Below.refl _ _).alloc (Nat.le_refl _) _).alloc (by simp) _).alloc (by simp;omega) _⟩
 have hs:c=224\/c=237\/c=240\/c=244:=by omega
 rcases hs with hs | hs | hs | hs
 ·subst hs;have hlk:=λ(W:World) (o:Obj)=>ND (P:=Tryz.prog) Tryz.underlying312 Tryz.underlying5 ((W.alloc o).alloc (.map #[e1,e2,e3,e4] 4)) #[e1,e2,e3,e4] 4 224 (W.heap.size+1) (Ib _ _ _ (by simp)) 0 e1.val rfl
  simp only [e1,e2,e3,e4] at hlk
  go_enter Tryz.func188,Tryz.ntmps188
  go_wp2
  go_returns
  exact⟨uS (LG (lo:=160) (hi:=191) rfl (by decide) rfl rfl rfl rfl rfl),(((Below.refl _ _).alloc (Nat.le_refl _) _).alloc (by simp) _).alloc (by simp;omega) _⟩
 ·subst hs;have hlk:=λ(W:World) (o:Obj)=>ND (P:=Tryz.prog) Tryz.underlying312 Tryz.underlying5 ((W.alloc o).alloc (.map #[e1,e2,e3,e4] 4)) #[e1,e2,e3,e4] 4 237 (W.heap.size+1) (Ib _ _ _ (by simp)) 1 e2.val rfl
  simp only [e1,e2,e3,e4] at hlk
  go_enter Tryz.func188,Tryz.ntmps188
  go_wp2
  go_returns
  exact⟨uS (LG (lo:=128) (hi:=159) rfl (by decide) rfl rfl rfl rfl rfl),(((Below.refl _ _).alloc (Nat.le_refl _) _).alloc (by simp) _).alloc (by simp;omega) _⟩
 ·subst hs;have hlk:=λ(W:World) (o:Obj)=>ND (P:=Tryz.prog) Tryz.underlying312 Tryz.underlying5 ((W.alloc o).alloc (.map #[e1,e2,e3,e4] 4)) #[e1,e2,e3,e4] 4 240 (W.heap.size+1) (Ib _ _ _ (by simp)) 2 e3.val rfl
  simp only [e1,e2,e3,e4] at hlk
  go_enter Tryz.func188,Tryz.ntmps188
  go_wp2
  go_returns
  exact⟨uS (LG (lo:=144) (hi:=191) rfl (by decide) rfl rfl rfl rfl rfl),(((Below.refl _ _).alloc (Nat.le_refl _) _).alloc (by simp) _).alloc (by simp;omega) _⟩
 ·subst hs;have hlk:=λ(W:World) (o:Obj)=>ND (P:=Tryz.prog) Tryz.underlying312 Tryz.underlying5 ((W.alloc o).alloc (.map #[e1,e2,e3,e4] 4)) #[e1,e2,e3,e4] 4 244 (W.heap.size+1) (Ib _ _ _ (by simp)) 3 e4.val rfl
  simp only [e1,e2,e3,e4] at hlk
  go_enter Tryz.func188,Tryz.ntmps188
  go_wp2
  go_returns
  exact⟨uS (LG (lo:=128) (hi:=143) rfl (by decide) rfl rfl rfl rfl rfl),(((Below.refl _ _).alloc (Nat.le_refl _) _).alloc (by simp) _).alloc (by simp;omega) _⟩
theorem ahG:∀ d:Fin 256,∀ n∈[(0:Int),128,143,144,159,160,191],
  ((FloatKind.f64.format.order (FloatKind.f64.nearest (d.val:Int)) (qL n)==some .gt)||(FloatKind.f64.format.order (FloatKind.f64.nearest (d.val:Int)) (qL n)==some .eq))=decide (n<=(d.val:Int)):=by decide +kernel
theorem ady:∀ d:Fin 256,∀ n∈[(0:Int),128,143,144,159,160,191],
  ((FloatKind.f64.format.order (FloatKind.f64.nearest (d.val:Int)) (qL n)==some .lt)||(FloatKind.f64.format.order (FloatKind.f64.nearest (d.val:Int)) (qL n)==some .eq))=decide ((d.val:Int)<=n):=by decide +kernel
theorem aaw:∀ n∈[(0:Int),128,143,144,159,160,191],(FloatKind.f64.format.order (qL n) 0==some .eq)=decide (n=0):=by decide +kernel
theorem YW (c:Int):U.cO c∈[(0:Int),128,143,144,159,160,191]:=by unfold U.cO;repeat' (first | simp;done | split)
theorem acF (c:Int):U.bZ c∈[(0:Int),128,143,144,159,160,191]:=by unfold U.bZ;repeat' (first | simp;done | split)
end
section
open Go.RowKit
attribute [local go_sem] QJ Uh
theorem aea (c:Int):U.cO c=0↔U.aN c<0:=by unfold U.cO;repeat' (first | omega | split)
theorem ah0 (c:Int):U.bZ c=0↔U.aN c<0:=by unfold U.bZ;repeat' (first | omega | split)
theorem aeZ {P:Program} {T:TypeId} (hT:P.underlying T=some (.complex .f64)) (a b x y:Nat) (W:World) (d:Nat) :
  (Op.equalIn (d+1) T (.complex .f64 a b) (.complex .f64 x y)).run P W = .ok ((FloatKind.f64.format.order a x==some .eq)&&(FloatKind.f64.format.order b y==some .eq)) W:=by
 simp [Op.equalIn,run_underlying hT,Op.floatEq]
theorem akh (c:Int) (W:World) :
  (Op.equalIn 9999 283 (.complex .f64 (qL (U.cO c)) (qL (U.bZ c))) (.complex .f64 0 0)).run Tryz.prog W = .ok (decide (U.aN c<0)) W:=by
 rw [aeZ (d:=9998) Tryz.underlying283,aaw _ (YW c),aaw _ (acF c)]
 congr 1
 rw [Bool.eq_iff_iff];simp [aea,ah0]
theorem alb (c:Int) (w:World) :
  Calls Tryz.prog 189 #[Aq c] w λe w'=>e = .returned (.bool (decide (0<=U.aN c)))/\Below w.heap.size w w':=by
 unfold Aq;have he:=akh c;have hm:¬ U.fM c=0->0<=U.aN c:=by unfold U.fM;repeat' (first | omega | split)
 have hn:¬ zD c=0->0<=U.aN c:=by unfold zD;repeat' (first | omega | split)
 have HM:=bx hm;have HN:=bx hn;clear hm hn
 go_enter Tryz.func189,Tryz.ntmps189
 go_wp2
 all_goals go_returns
 all_goals
  have a1:=HM.o;have a2:=HN.o;exact⟨aI (by first | (rw [eq_comm,decide_eq_true_eq];omega) | (rw [eq_comm,decide_eq_false_iff_not];omega)),((Below.refl _ _).alloc (Nat.le_refl _) _).alloc (by simp) _⟩
theorem alo (c d:Int) (h0:0<=d) (h1:d<256) (w:World) :
  Calls Tryz.prog 190 #[Aq c, .int .u8 d] w λe w'=>e = .returned (.bool (decide (U.cO c<=d)&&decide (d<=U.bZ c)))/\Below w.heap.size w w':=by
 unfold Aq;have e1:=ahG ⟨d.toNat,by omega⟩ _ (YW c);have e2:=ady ⟨d.toNat,by omega⟩ _ (acF c);have e3:((d.toNat:Nat):Int)=d:=by omega
 simp only [e3] at e1 e2;have hf:floatOfInt FloatKind.f64 d=FloatKind.f64.nearest d:=rfl;clear e3
 go_enter Tryz.func190,Tryz.ntmps190
 go_wp2
 all_goals go_returns
 all_goals exact⟨aI (by first | (simp [*];done) | (simp;omega)),(Below.refl _ _).alloc (Nat.le_refl _) _⟩
theorem ajz (A:Nat->Addr) (B:Nat) (w:World) (hE:E A B w) :
  Calls Tryz.prog 95 #[jZ A 2] w λe w'=>e = .returned (.int .i64 10)/\w=w':=by
 have c0:=hE.cell 2 (by decide);have c1:=hE.cell 7 (by decide);unfold jZ
 go_enter Tryz.func95,Tryz.ntmps95
 go_wp2_with fail;refine(is_same _ _).mono ?_;rintro e w' ⟨rfl,rfl⟩
 go_wp2
 go_ret
 exact⟨rfl,rfl⟩
theorem agr (A:Nat->Addr) (B:Nat) (w:World) (hE:E A B w) :
  Calls Tryz.prog 95 #[jZ A 7] w λe w'=>e = .returned (.int .i64 11)/\w=w':=by
 have c0:=hE.cell 2 (by decide);have c1:=hE.cell 7 (by decide);have H:=bx (ahF hE 7 2 (by decide) (by decide));unfold jZ
 go_enter Tryz.func95,Tryz.ntmps95
 go_wp2_with fail;refine H.o.mono ?_;rintro e w' ⟨rfl,rfl⟩;go_wp2_with fail;refine(is_same _ _).mono ?_;rintro e w' ⟨rfl,rfl⟩
 go_wp2
 go_ret
 exact⟨rfl,rfl⟩
theorem take_any (b o:Nat) (s:ByteArray) (n:Nat) (w:World) (hn:n<=s.size) (_hs:s.size<=maxLen) (hc:w.cell? ⟨b,o,none⟩=some (.string s)) (hf:w.frozen? ⟨b,o,none⟩=false) :
  Calls Tryz.prog 191 #[.pointer (some ⟨b,o,none⟩), .int .i64 (n:Int)] w λe w'=>e = .returned (.string (s.extract 0 n))/\w.setCell ⟨b,o,none⟩ (.string (s.extract n s.size))=w':=by
 unfold maxLen at _hs
 go_enter Tryz.func191,Tryz.ntmps191
 go_wp2
 all_goals go_ways
 go_ret
 exact⟨rfl,rfl⟩
end
section
open Go.RowKit
attribute [local go_sem] QJ Uh
structure RS (w0:World) (b xb:Nat) (s:ByteArray) (ev:Value) (m n:Int) (p q:Nat) (w:World):Prop where
 r:aj w b 229 #[.string s,ev]
 x:aj w xb 285 #[.int .u8 m, .int .i64 n, .complex .f64 p q]
 g:w0.grownBy w (some b)
 lt:b<w0.heap.size
 xb:w0.heap.size<=xb
section
variable {w0 w w':World} {b xb:Nat} {s s':ByteArray} {ev ev':Value} {m n m' n':Int} {p q p' q':Nat}
theorem RS.below (h:RS w0 b xb s ev m n p q w) (hb:Below w.heap.size w w'):RS w0 b xb s ev m n p q w' :=
 ⟨h.r.below hb h.r.lt,h.x.below hb h.x.lt,Z7 h.g (XL hb _),h.lt,h.xb⟩
theorem RS.drew (h:RS w0 b xb s ev m n p q w):RS w0 b xb s ev m n p q w.drew:=⟨h.r,h.x,ak3 h.g,h.lt,h.xb⟩
theorem RS.alloc (h:RS w0 b xb s ev m n p q w) (o:Obj):RS w0 b xb s ev m n p q (w.alloc o):=⟨h.r.alloc o,h.x.alloc o,Vy h.g o,h.lt,h.xb⟩
theorem RS.ne (h:RS w0 b xb s ev m n p q w):xb≠b:=by have:=h.lt;have:=h.xb;omega
theorem RS.aiJ (h:RS w0 b xb s ev m n p q w):RS w0 b xb s' ev m n p q (w.setCell ⟨b,0,none⟩ (.string s')) :=
 ⟨h.r.dh 0 _,h.x.far (p:=⟨b,0,none⟩) h.ne _,Gt h.g (.inl rfl) _,h.lt,h.xb⟩
theorem RS.yV (h:RS w0 b xb s ev m n p q w):RS w0 b xb s ev' m n p q (w.setCell ⟨b,1,none⟩ ev') :=
 ⟨h.r.dh 1 _,h.x.far (p:=⟨b,1,none⟩) h.ne _,Gt h.g (.inl rfl) _,h.lt,h.xb⟩
theorem RS.akk (h:RS w0 b xb s ev m n p q w):RS w0 b xb s ev m' n' p' q' (((w.setCell ⟨xb,0,none⟩ (.int .u8 m')).setCell ⟨xb,1,none⟩ (.int .i64 n')).setCell ⟨xb,2,none⟩ (.complex .f64 p' q')) :=
 ⟨((h.r.far (p:=⟨xb,0,none⟩) h.ne.symm _).far (p:=⟨xb,1,none⟩) h.ne.symm _).far (p:=⟨xb,2,none⟩) h.ne.symm _,
  ((h.x.dh 0 _).dh 1 _).dh 2 _,
  Gt (Gt (Gt h.g (.inr h.xb) _) (.inr h.xb) _) (.inr h.xb) _,h.lt,h.xb⟩
theorem RS.new {ty:TypeId} (hb:aj w b 229 #[.string s,ev]) (h:Below (w.alloc (.cells #[.int .u8 m, .int .i64 n, .complex .f64 p q] ty)).heap.size (w.alloc (.cells #[.int .u8 m, .int .i64 n, .complex .f64 p q] ty)) w') (ht:ty=285):RS w b w.heap.size s ev m n p q w':=by
 subst ht;exact⟨(hb.alloc _).below h (hb.alloc _).lt,(aj.new w _ _).below h (aj.new w _ _).lt,Z7 (Vy (World.grownBy.refl w _) _) (XL h _),hb.lt,Nat.le_refl _⟩
theorem RS.facts (h:RS w0 b xb s ev m n p q w):w.cell? ⟨b,0,none⟩=some (.string s)/\w.cell? ⟨b,1,none⟩=some ev/\w.frozen? ⟨b,0,none⟩=false/\w.frozen? ⟨b,1,none⟩=false /\
  w.cell? ⟨xb,0,none⟩=some (.int .u8 m)/\w.cell? ⟨xb,1,none⟩=some (.int .i64 n)/\w.cell? ⟨xb,2,none⟩=some (.complex .f64 p q) /\
  w.frozen? ⟨xb,0,none⟩=false/\w.frozen? ⟨xb,1,none⟩=false/\w.frozen? ⟨xb,2,none⟩=false :=
 ⟨(h.r.cell 0).trans rfl,(h.r.cell 1).trans rfl,h.r.frozen 0,h.r.frozen 1,(h.x.cell 0).trans rfl,(h.x.cell 1).trans rfl,(h.x.cell 2).trans rfl,h.x.frozen 0,h.x.frozen 1,h.x.frozen 2⟩
end
def EH (A:Nat->Addr) (b:Nat) (s:ByteArray) (ev:Value) (w:World) (e:Ending) (w':World):Prop :=
 match U.dec s.data.toList with
 | none=>e = .returned (.tuple #[.int .i64 0, .int .i64 0])/\aj w' b 229 #[.string s,jZ A 7]/\w.grownBy w' (some b)
 | some (r,n)=>e = .returned (.tuple #[.int .i64 r, .int .i64 (n:Int)])/\aj w' b 229 #[.string (s.extract n s.size),ev]/\w.grownBy w' (some b)
theorem FW {A:Nat->Addr} {b:Nat} {s:ByteArray} {ev:Value} {w w':World} {e:Ending} (h:U.dec s.data.toList=none)
  (he:e = .returned (.tuple #[.int .i64 0, .int .i64 0])) (hb:aj w' b 229 #[.string s,jZ A 7]) (hg:w.grownBy w' (some b)):EH A b s ev w e w':=by
 unfold EH;rw [h];exact⟨he,hb,hg⟩
theorem aiR {A:Nat->Addr} {b:Nat} {s:ByteArray} {ev:Value} {w w':World} {e:Ending} {r:Int} {n:Nat} (h:U.dec s.data.toList=some (r,n))
  (he:e = .returned (.tuple #[.int .i64 r, .int .i64 (n:Int)])) (hb:aj w' b 229 #[.string (s.extract n s.size),ev]) (hg:w.grownBy w' (some b)):EH A b s ev w e w':=by
 unfold EH;rw [h];exact⟨he,hb,hg⟩
theorem next_any (A:Nat->Addr) (B b:Nat) (ev:Value) (s:ByteArray) (w:World) (hs:s.size<=maxLen) (hE:E A B w) (hB:B<=b) (hb:aj w b 229 #[.string s,ev]) :
  Calls Tryz.prog 148 #[.pointer (some ⟨b,0,none⟩)] w (EH A b s ev w):=by
 unfold maxLen at hs;have HE:=bx hE;have HB:=bx hb;have hc0:w.cell? ⟨b,0,none⟩=some (.string s):=(hb.cell 0).trans rfl;have hc1:w.cell? ⟨b,1,none⟩=some ev:=(hb.cell 1).trans rfl;have hf1:=hb.frozen 1;have hblt:=hb.lt;have e1:=hE.cell 7 (by decide);have hlt1:7<w.heap.size:=by have:=(hE.lt 7 (by decide)).1;omega
 clear hE hb
 cases hl:s.data.toList with
 | nil =>
  have hz:=isEmpty_nil hl;have HD:=bx (show U.dec s.data.toList=none by rw [hl];rfl);clear hl
  go_enter Tryz.func148,Tryz.ntmps148
  go_wp2_with fail;refine wG 0 rfl ?_;go_wp2_with fail
  go_step3
  refine⟨rfl,?_⟩;go_wp2_with fail;rw [Exit.noGoto_ret];go_ret2
  exact FW HD.o rfl ((HB.o.dh 1 _).alloc _) (Vy (Gt (World.grownBy.refl w _) (.inl rfl) _) _)
 | cons c t =>
 clear hc1 hf1 e1 hlt1;have hz:=isEmpty_cons hl;have i0:=kE Tryz.underlying9 s 0 (d:=c) (by rw [hl];rfl) 0 rfl;have hsz:(s.size:Int)=t.length+1:=by rw [size_eq,hl];simp
 have HV:=bx (show Aq (U.ak c) = .agg #[.int .u8 (U.fM (U.ak c)), .int .i64 (zD (U.ak c)), .complex .f64 (qL (U.cO (U.ak c))) (qL (U.bZ (U.ak c)))] from rfl);have hR:=λW=>amK (U.ak c) (U.jm c) (U.jG c) W
 have hI:=λW=>alb (U.ak c) W
 have hS:=λd W=>alo (U.ak c) (U.ak d) (U.jm d) (U.jG d) W
 rw [HV.o] at hR hI;simp only [HV.o] at hS;have HN:=bx (show zD (U.ak c)=if U.aN (U.ak c)<0 then 0 else U.aN (U.ak c) from rfl);have HL:=bx hl;have hcl:=U.jG c;have hcg:=U.jm c;have HM:=bx (U.af4 (U.ak c) hcg hcl);generalize qL (U.cO (U.ak c))=p at *;generalize qL (U.bZ (U.ak c))=q at *;generalize hm:U.fM (U.ak c)=m at *;generalize hn:zD (U.ak c)=n at *;have Qm:=bx hm;have HR:=bx hR;have HI:=bx hI;have HS:=bx hS;have HZ:=bx hsz;clear hl hR hI hS hm hn hsz HV
 go_enter Tryz.func148,Tryz.ntmps148
 go_wp2_with fail;refine wG 0 rfl ?_;go_wp2_with fail;refine(HR.o _).mono ?_;rintro e w1 ⟨rfl,hb1⟩;have R1:=RS.new HB.o hb1 rfl;clear hb1 hc0;obtain⟨-,-,-,-,x0,x1,x2,g0,g1,g2⟩:=R1.facts;go_wp2_with fail;clear x0 x1 x2 g0 g1 g2;have R5:=R1.akk (m':=m) (n':=n) (p':=p) (q':=q);generalize ((w1.setCell ⟨w.heap.size,0,none⟩ (.int .u8 m)).setCell ⟨w.heap.size,1,none⟩ (.int .i64 n)).setCell ⟨w.heap.size,2,none⟩ (.complex .f64 p q)=w5 at R5 ⊢;clear R1;have q0:∀ k:CW (RS w b w.heap.size s ev m n p q),k.w.cell? ⟨b,0,none⟩=some (.string s):=λk=>k.h.facts.1
 have q1:∀ k:CW (RS w b w.heap.size s ev m n p q),k.w.cell? ⟨w.heap.size,0,none⟩=some (.int .u8 m):=λk=>k.h.facts.2.2.2.2.1
 have q2:∀ k:CW (RS w b w.heap.size s ev m n p q),k.w.cell? ⟨w.heap.size,1,none⟩=some (.int .i64 n):=λk=>k.h.facts.2.2.2.2.2.1
 have q3:∀ k:CW (RS w b w.heap.size s ev m n p q),k.w.cell? ⟨w.heap.size,2,none⟩=some (.complex .f64 p q):=λk=>k.h.facts.2.2.2.2.2.2.1
 by_cases hN:U.aN (U.ak c)<0
 ·have h1:decide (0<=U.aN (U.ak c))=false:=by rw [decide_eq_false_iff_not];omega
  have EL:=HI.o;rw [h1] at EL;have HI2:=bx EL;have HD:=bx (show U.dec s.data.toList=none by rw [HL.o];exact U.EJ hN);clear EL h1;refine uT (RS w b w.heap.size s ev m n p q) (by kernel_rfl) (by kernel_rfl) R5.drew (λhne=>?_);clear R5
  repeat (any_goals (first
   | go_big_quiet_step (first | (go_at_call 189;exact rQ (HI2.o _) (λ_ hb=>RS.below (CW.h _) hb)))
   | quiet_step (first | (go_at_call 189;exact rQ (HI2.o _) (λ_ hb=>RS.below (CW.h _) hb)))))
  refine wpQuiet_nil ?_;rintro w2 ⟨⟨_,R6⟩,rfl⟩;clear q0 q1 q2 q3 hne;have e1:=(HE.o.below (CY R6.g hB (by omega))).cell 7 (by decide);obtain⟨y0,y1,y2,y3,-⟩:=R6.facts;go_wp2_with fail
  go_step3
  refine⟨rfl,?_⟩;go_wp2_with fail;rw [Exit.noGoto_ret];go_ret2
  exact FW HD.o rfl R6.yV.r R6.yV.g
 have hnn:n=U.aN (U.ak c):=by have:=HN.o;rw [if_neg hN] at this;exact this
 have h1:decide (0<=U.aN (U.ak c))=true:=by rw [decide_eq_true_eq];omega
 have EL:=HI.o;rw [h1] at EL;have HI2:=bx EL;have n0:0<=n:=by omega
 have n3:n<=3:=by have:=U.wQ (U.ak c);omega
 have ou:=bx hnn;have yB:=bx (show 0<=U.aN (U.ak c) by omega);clear EL h1 hnn hN
 by_cases hlen:(s.size:Int)<=n
 ·have hd:decide ((s.size:Int)<=n)=true:=by rw [decide_eq_true_eq];omega
  have HD:=bx (show U.dec s.data.toList=none by rw [HL.o];exact U.OT (by have:=HZ.o;have:=ou.o;omega));refine uT (RS w b w.heap.size s ev m n p q) (by kernel_rfl) (by kernel_rfl) R5.drew (λhne=>?_);clear R5
  repeat (any_goals (first
   | go_big_quiet_step (first | (go_at_call 189;exact rQ (HI2.o _) (λ_ hb=>RS.below (CW.h _) hb)))
   | quiet_step (first | (go_at_call 189;exact rQ (HI2.o _) (λ_ hb=>RS.below (CW.h _) hb)))))
  refine wpQuiet_nil ?_;rintro w2 ⟨⟨_,R6⟩,rfl⟩;clear q0 q1 q2 q3 hne;have e1:=(HE.o.below (CY R6.g hB (by omega))).cell 7 (by decide);obtain⟨y0,y1,y2,y3,-⟩:=R6.facts;go_wp2_with fail
  go_step3
  refine⟨rfl,?_⟩;go_wp2_with fail;rw [Exit.noGoto_ret];go_ret2
  exact FW HD.o rfl R6.yV.r R6.yV.g
 have hd:decide ((s.size:Int)<=n)=false:=by rw [decide_eq_false_iff_not];omega
 have hz0:n=0\/0<n:=by omega
 rcases hz0 with hz0 | hz0
 case' inl =>
  have hd0:decide (0<n)=false:=by rw [decide_eq_false_iff_not];omega
  have aaq:=bx (show n=0\/∃ d1 t',t=d1::t'/\U.cO (U.ak c)<=U.ak d1/\U.ak d1<=U.bZ (U.ak c) from .inl hz0);clear hz0;refine uT (RS w b w.heap.size s ev m n p q) (by kernel_rfl) (by kernel_rfl) R5.drew (λhne=>?_);clear R5
  repeat (any_goals (first
   | go_big_quiet_step (first | (go_at_call 189;exact rQ (HI2.o _) (λ_ hb=>RS.below (CW.h _) hb)))
   | quiet_step (first | (go_at_call 189;exact rQ (HI2.o _) (λ_ hb=>RS.below (CW.h _) hb)))))
  refine wpQuiet_nil ?_;rintro w2 ⟨⟨_,R6⟩,rfl⟩;clear q0 q1 q2 q3 hne
 case' inr =>
  have hd0:decide (0<n)=true:=by rw [decide_eq_true_eq];omega
  obtain⟨d1,t',ht⟩:∃ d1 t',t=d1::t':=by
   cases t with
   | nil=>have:=HZ.o;simp at this;omega
   | cons d1 t'=>exact⟨d1,t',rfl⟩
  have i1:=kE Tryz.underlying9 s 1 (d:=d1) (by rw [HL.o,ht];rfl) 1 rfl;have F7:=HS.o d1
  by_cases MN:¬ (U.cO (U.ak c)<=U.ak d1/\U.ak d1<=U.bZ (U.ak c))
  case pos =>
   have HD:=bx (show U.dec s.data.toList=none by rw [HL.o,ht];exact U.alj (by have:=ou.o;omega) MN);rw [show (decide (U.cO (U.ak c)<=U.ak d1)&&decide (U.ak d1<=U.bZ (U.ak c)))=false by rw [Bool.and_eq_false_iff,decide_eq_false_iff_not,decide_eq_false_iff_not];omega] at F7;have HS2:=bx F7;clear F7 MN ht;refine uT (RS w b w.heap.size s ev m n p q) (by kernel_rfl) (by kernel_rfl) R5.drew (λhne=>?_);clear R5
   repeat (any_goals (first
    | go_big_quiet_step (first | (go_at_call 189;exact rQ (HI2.o _) (λ_ hb=>RS.below (CW.h _) hb)) | (go_at_call 190;exact rQ (HS2.o _) (λ_ hb=>RS.below (CW.h _) hb)))
    | quiet_step (first | (go_at_call 189;exact rQ (HI2.o _) (λ_ hb=>RS.below (CW.h _) hb)) | (go_at_call 190;exact rQ (HS2.o _) (λ_ hb=>RS.below (CW.h _) hb)))))
   refine wpQuiet_nil ?_;rintro w2 ⟨⟨_,R6⟩,rfl⟩;clear q0 q1 q2 q3 hne;have e1:=(HE.o.below (CY R6.g hB (by omega))).cell 7 (by decide);obtain⟨y0,y1,y2,y3,-⟩:=R6.facts;go_wp2_with fail
   go_step3
   refine⟨rfl,?_⟩;go_wp2_with fail;rw [Exit.noGoto_ret];go_ret2
   exact FW HD.o rfl R6.yV.r R6.yV.g
  have Ld:=Decidable.not_not.1 MN;rw [show (decide (U.cO (U.ak c)<=U.ak d1)&&decide (U.ak d1<=U.bZ (U.ak c)))=true by simp [Ld]] at F7;have HS2:=bx F7;have aaq:=bx (show n=0\/∃ d1 t',t=d1::t'/\U.cO (U.ak c)<=U.ak d1/\U.ak d1<=U.bZ (U.ak c) from .inr ⟨d1,t',ht,Ld⟩);clear F7 Ld MN hz0 ht;refine uT (RS w b w.heap.size s ev m n p q) (by kernel_rfl) (by kernel_rfl) R5.drew (λhne=>?_);clear R5
  repeat (any_goals (first
   | go_big_quiet_step (first | (go_at_call 189;exact rQ (HI2.o _) (λ_ hb=>RS.below (CW.h _) hb)) | (go_at_call 190;exact rQ (HS2.o _) (λ_ hb=>RS.below (CW.h _) hb)))
   | quiet_step (first | (go_at_call 189;exact rQ (HI2.o _) (λ_ hb=>RS.below (CW.h _) hb)) | (go_at_call 190;exact rQ (HS2.o _) (λ_ hb=>RS.below (CW.h _) hb)))))
  refine wpQuiet_nil ?_;rintro w2 ⟨⟨_,R6⟩,rfl⟩;clear q0 q1 q2 q3 hne
 all_goals
  clear hd hd0;have hw1:IntKind.i64.wrap (n+1)=n+1:=IntWalk.i64_in _ (by omega);have hsl:∀ W,(Instr.slice 9 (.string s) (some (.int .i64 1)) (some (.int .i64 (n+1))) none).run Tryz.prog W = .ok (.string (s.extract 1 (n+1).toNat)) W:=by
   intro W;exact Oy Tryz.underlying9 s 1 (n+1) (by omega) W
  generalize hsub:s.extract 1 (n+1).toNat=sub at *;go_wp2_with fail;have hcv:=λW s'=>run_bytes_of_string (P:=Tryz.prog) W 9 94 5 s' Tryz.underlying9 Tryz.underlying94 Tryz.underlying5
  obtain⟨o0,-,-,-,-,o2,-⟩:=R6.facts
  go_region
  have R7:=((R6.alloc (.cells (bytesRow sub (grownCap w2.drew sub.size 0 5)) 5 ((bytesRow sub (grownCap w2.drew sub.size 0 5)).size,(bytesRow sub (grownCap w2.drew sub.size 0 5)).size+1))).drew).drew;have hcells:=λj d=>aak w2 5 sub (grownCap w2.drew sub.size 0 5) ((bytesRow sub (grownCap w2.drew sub.size 0 5)).size,(bytesRow sub (grownCap w2.drew sub.size 0 5)).size+1) j d
  replace hcells:∀ j d,sub.data.toList[j]?=some d->(w2.alloc (.cells (bytesRow sub (grownCap w2.drew sub.size 0 5)) 5 ((bytesRow sub (grownCap w2.drew sub.size 0 5)).size,(bytesRow sub (grownCap w2.drew sub.size 0 5)).size+1))).drew.drew.cell? ⟨w2.heap.size,j,none⟩=some (.int .u8 (U.ak d)):=hcells
  generalize (w2.alloc (.cells (bytesRow sub (grownCap w2.drew sub.size 0 5)) 5 ((bytesRow sub (grownCap w2.drew sub.size 0 5)).size,(bytesRow sub (grownCap w2.drew sub.size 0 5)).size+1))).drew.drew=w6 at R7 hcells ⊢;generalize w2.heap.size=g6 at hcells ⊢;have Uw:sub.data.toList=t.take n.toNat:=by
   rw [<- hsub,Lib.extract_data,HL.o];rw [show (n+1).toNat-1=n.toNat by omega]
   rfl
  have aa7:(s.size:Int)=t.length+1:=HZ.o;have ZH:sub.size=n.toNat:=by rw [size_eq,Uw,List.length_take];omega
  have hdec:(∀ d∈t.take n.toNat,U.gW d=true)->U.dec (c::t)=some (U.fold (U.ak c-m) (t.take n.toNat),n.toNat+1) :=
   λhall=>U.afA ou.o Qm.o n0 (by omega) hall aaq.o
  have hno:∀ d∈t.take n.toNat,U.gW d=false->U.dec (c::t)=none:=by
   intro d hd hf;have h1:=ou.o;rw [h1] at hd;exact U.dec_not (by omega) hd hf
  have ahX:=bx hdec;have iP:=bx hno;have ai0:=bx hcells;have Ox:=bx Uw;have aoC:=bx ZH;have hs3:sub.size<=3:=by omega
  have QA:=bx aa7;clear hdec hno hcells Uw ZH hsub hsl hw1 hcv aa7;go_wp2_with fail
  go_loop [64] (λi=>∃ j:Nat,j<=sub.size/\i = .int .i64 j/\∀ d∈sub.data.toList.take j,U.gW d=true) (λi=>sub.size-(intOf i).toNat)
  case atStart=>exact⟨0,by omega,rfl,by simp⟩
  case round =>
   obtain⟨j,hj,rfl,hall⟩:=hrel;have qX:=bx hall;clear hall
   by_cases hlt:j<sub.size
   ·obtain⟨d,hd⟩:∃ d,sub.data.toList[j]?=some d:=⟨_,List.getElem?_eq_getElem (by rw [<- size_eq];exact hlt)⟩
    have hc:=ai0.o j d hd;have hmem:d∈sub.data.toList:=List.mem_of_getElem? hd;have HTS:=bx (show U.gW d=true->∀ x∈sub.data.toList.take (j+1),U.gW x=true by
     intro h x hx;rw [List.take_add_one,hd] at hx
     rcases List.mem_append.1 hx with hx | hx
     ·exact qX.o x hx
     ·simp at hx;rw [hx];exact h)
    have yT:=bx hmem;clear hd hmem;have hb0:=U.jm d;have hb1:=U.jG d;have e1:=(HE.o.below (CY R7.g hB (by omega))).cell 7 (by decide);obtain⟨y0,y1,y2,y3,-⟩:=R7.facts;go_wp2_with fail
    ·go_step3
     refine⟨rfl,?_⟩;go_wp2_with fail;rw [Exit.noGoto_ret];go_ret2
     refine FW ?_ rfl R7.yV.r R7.yV.g;rw [HL.o];exact iP.o d (by have:=yT.o;rwa [Ox.o] at this) ((U.YV d).2 (by omega))
    ·clear y0 y1 y2 y3 e1;have HT:=bx (HTS.o ((U.lU d).2 (by omega)));have HJ:=bx hlt
     go_round
     case rel=>exact⟨j+1,HJ.o,by go_num,HT.o⟩
     case measure=>have:=HJ.o;simp [intOf];omega
    ·go_step3
     refine⟨rfl,?_⟩;go_wp2_with fail;rw [Exit.noGoto_ret];go_ret2
     refine FW ?_ rfl R7.yV.r R7.yV.g;rw [HL.o];exact iP.o d (by have:=yT.o;rwa [Ox.o] at this) ((U.YV d).2 (by omega))
   ·obtain rfl:j=sub.size:=by omega
    have hdc:=ahX.o (by have:=qX.o;rw [List.take_of_length_le (by rw [<- size_eq];exact Nat.le_refl _),Ox.o] at this;exact this);have UK:=bx hdc;clear hdc;go_wp2_with fail;obtain⟨o0,o1,-,-,o2,o3,-⟩:=R7.facts;have I8:=HM.o;have hmb:0<=U.ak c-m/\U.ak c-m<128:=by have:=yB.o;omega
    have hmw:IntKind.u8.wrap (U.ak c-m)=U.ak c-m:=IntWalk.u8_in _ (by omega)
    go_region
    clear o0 o1 o2 o3 I8 hmw;have R8:=R7.drew;generalize w6.drew=w8 at R8 ⊢;clear R7;go_wp2_with fail;obtain⟨o0,o1,p0,p1,o2,o3,-⟩:=R8.drew.facts;have hcv:=λW s'=>run_bytes_of_string (P:=Tryz.prog) W 9 94 5 s' Tryz.underlying9 Tryz.underlying94 Tryz.underlying5
    have hw1:IntKind.i64.wrap (n+1)=n+1:=IntWalk.i64_in _ (by omega);have hnn:((n+1).toNat:Int)=n+1:=by omega
    have hT:=λW=>take_any b 0 s (n+1).toNat W (by have:=QA.o;omega) hs
    rw [hnn] at hT;have hpl:(s.extract 0 (n+1).toNat).data.toList=c::t.take n.toNat:=by
     rw [Lib.extract_data,HL.o,show (n+1).toNat-0=n.toNat+1 by omega];rfl
    have hpost:s.extract (n+1).toNat s.size=s.extract (n.toNat+1) s.size:=by rw [show (n+1).toNat=n.toNat+1 by omega]
    rw [hpost] at hT;generalize hpre:s.extract 0 (n+1).toNat=pre at hT hpl;generalize aa0:s.extract (n.toNat+1) s.size=post at hT;have hpz:pre.size=n.toNat+1:=by rw [size_eq,hpl,List.length_cons,List.length_take];have:=QA.o;omega
    have hsl:∀ W,(Instr.slice 9 (.string pre) (some (.int .i64 1)) none none).run Tryz.prog W = .ok (.string (pre.extract 1 pre.size)) W:=by
     intro W;exact run_slice_string_l (P:=Tryz.prog) W 9 pre Tryz.underlying9 .i64 1 (by omega) (by omega)
    have tY:(pre.extract 1 pre.size).data.toList=t.take n.toNat:=by
     rw [Lib.extract_data,hpl,hpz];simp [List.take_take]
    generalize pre.extract 1 pre.size=gU at hsl tY;have hqz:gU.size=n.toNat:=by rw [size_eq,tY,List.length_take];have:=QA.o;omega
    have HT:=bx hT;have HQL:=bx tY;have Po:=bx hqz;have anJ:=bx aa0;clear hT tY hqz hpz hpl hpre aa0 hpost hnn
    go_region_with (go_at_call 191;refine(HT.o _ ?_ ?_).mono ?_;exact o0;exact p0;rintro e w9 ⟨rfl,rfl⟩)
    simp only [List.getElem_toArray,List.getElem_cons_succ,List.getElem_cons_zero,Act.put,List.setIfInBounds_toArray,List.set_cons_succ,List.set_cons_zero];have R9:=(((R8.aiJ (s':=post)).alloc (.cells (bytesRow gU (grownCap (w8.setCell ⟨b,0,none⟩ (.string post)).drew gU.size 0 5)) 5 ((bytesRow gU (grownCap (w8.setCell ⟨b,0,none⟩ (.string post)).drew gU.size 0 5)).size,(bytesRow gU (grownCap (w8.setCell ⟨b,0,none⟩ (.string post)).drew gU.size 0 5)).size+1))).drew).drew;have hcells:∀ j d,gU.data.toList[j]?=some d->_:=λj d=>aak (w8.setCell ⟨b,0,none⟩ (.string post)) 5 gU (grownCap (w8.setCell ⟨b,0,none⟩ (.string post)).drew gU.size 0 5) ((bytesRow gU (grownCap (w8.setCell ⟨b,0,none⟩ (.string post)).drew gU.size 0 5)).size,(bytesRow gU (grownCap (w8.setCell ⟨b,0,none⟩ (.string post)).drew gU.size 0 5)).size+1) j d
    replace hcells:∀ j d,gU.data.toList[j]?=some d->(((w8.setCell ⟨b,0,none⟩ (.string post)).alloc (.cells (bytesRow gU (grownCap (w8.setCell ⟨b,0,none⟩ (.string post)).drew gU.size 0 5)) 5 ((bytesRow gU (grownCap (w8.setCell ⟨b,0,none⟩ (.string post)).drew gU.size 0 5)).size,(bytesRow gU (grownCap (w8.setCell ⟨b,0,none⟩ (.string post)).drew gU.size 0 5)).size+1))).drew).drew.cell? ⟨w8.heap.size,j,none⟩=some (.int .u8 (U.ak d)):=by
     intro j d hd;have:=hcells j d hd;rw [World.size_setCell] at this;exact this
    generalize (((w8.setCell ⟨b,0,none⟩ (.string post)).alloc (.cells (bytesRow gU (grownCap (w8.setCell ⟨b,0,none⟩ (.string post)).drew gU.size 0 5)) 5 ((bytesRow gU (grownCap (w8.setCell ⟨b,0,none⟩ (.string post)).drew gU.size 0 5)).size,(bytesRow gU (grownCap (w8.setCell ⟨b,0,none⟩ (.string post)).drew gU.size 0 5)).size+1))).drew).drew=wA at R9 hcells ⊢;generalize w8.heap.size=gA at hcells ⊢;have ahp:=bx hcells;clear hcells R8 o0 o1 p0 p1 o2 o3 hcv hsl hw1;go_wp2_with fail;have hsame:gU.data.toList=sub.data.toList:=HQL.o.trans Ox.o.symm;have dP:=bx (λj=>U.amR (gU.data.toList.take j) (λd hd=>by
     have h1:=qX.o;rw [List.take_of_length_le (by rw [<- size_eq];exact Nat.le_refl _)] at h1;rw [hsame] at hd;exact h1 d (List.mem_of_mem_take hd)) (U.ak c-m) hmb.1 (by rw [List.length_take,<- size_eq];have:=Po.o;omega) hmb.2)
    have xu:=bx (λd (hd:d∈gU.data.toList)=>by
     have h1:=qX.o;rw [List.take_of_length_le (by rw [<- size_eq];exact Nat.le_refl _)] at h1;rw [hsame] at hd;exact(U.lU d).1 (h1 d hd))
    have hq3:gU.size<=3:=by have:=Po.o;omega
    clear hsame
    go_loop [5,95] (λo i=>∃ j:Nat,j<=gU.size/\i = .int .i64 j/\o = .int .i64 (U.fold (U.ak c-m) (gU.data.toList.take j))) (λ_ i=>gU.size-(intOf i).toNat)
    case atStart=>exact⟨0,by omega,rfl,rfl⟩
    case round =>
     obtain⟨j,hj,rfl,rfl⟩:=hrel;have hfb:=dP.o j;generalize hfold:U.fold (U.ak c-m) (gU.data.toList.take j)=x at *
     by_cases hlt:j<gU.size
     ·obtain⟨d,hd⟩:∃ d,gU.data.toList[j]?=some d:=⟨_,List.getElem?_eq_getElem (by rw [<- size_eq];exact hlt)⟩
      have hc:=ahp.o j d hd;have hr:=xu.o d (List.mem_of_getElem? hd);have jJ:=bx (show U.fold (U.ak c-m) (gU.data.toList.take (j+1))=64*x+U.ak d-128 by
       rw [List.take_add_one,hd,<- hfold];exact U.af8 _ _ _)
      clear hd hfold;have HO:=bx (show bits .or .i64 (x*64) (bits .and .i64 (U.ak d) 63)=64*x+U.ak d-128 by
       rw [Yr _ (by omega) (by omega),aks _ _ hfb.1 (by omega) (by omega) (by omega)];omega)
      have HJ:=bx hlt;go_wp2_with fail;refine⟨⟨j+1,HJ.o,by go_num,kG (by rw [HO.o,jJ.o])⟩,?_⟩;have:=HJ.o;simp [intOf];omega
     ·obtain rfl:j=gU.size:=by omega
      have HF:=bx (show U.fold (U.ak c-m) (t.take n.toNat)=x by
       rw [<- hfold,HQL.o,Po.o,List.take_take,Nat.min_self])
      clear hfold;go_wp2_with fail;obtain⟨o0,o1,-,-,o2,o3,-⟩:=R9.facts
      go_region
      go_wp2_with fail;rw [wC];go_ret2
      refine aiR (r:=x) (n:=n.toNat+1) (by rw [HL.o,UK.o,HF.o]) ?_ ?_ ?_
      ·exact rC rfl (kG (by omega))
      ·rw [anJ.o];exact R9.drew.r
      ·exact R9.drew.g
end
end Go.Proofs.YtdenoeakcflnmaaGreatDoor
