/- Texts of this claim. -/
import Derived.Test.YtdenoeakcflnmaaGreatDoorH15

set_option maxRecDepth 100000
set_option maxHeartbeats 8000000
namespace Go.Proofs.YtdenoeakcflnmaaGreatDoor
section
open Go.RowKit Go.Shelf
attribute [local go_sem] Oper.semAt_some
def AL (r:List Int):List Int:=r.take 260
def qh (M:F.Trie):F.Trie:=(M.1.take 4360,(M.2.take 30).map AL)
theorem aeW:(Tryz.prog.info? 25).map (·.size)=some 2:=by kernel_rfl
theorem aci (na fa:Value) (M:F.Trie) (w0 w:World) (hia:aB w0 fa M.1) (hra:fJ w0 na M.2) (hb0:Below w0.heap.size w0 w) :
  Calls Tryz.prog 70 #[.agg #[fa,na]] w λe w'=>Below w.heap.size w w'/\∃ fv nv vs,e = .returned (.agg #[fv,nv])/\aB w0 fv (qh M).1/\vZ w0 vs (qh M).2/\w'.ownsRow w.heap.size 22 1 nv vs.length vs:=by
 have oD:=bx hra;have HB0:=bx hb0;obtain⟨aa,ca,rfl⟩:=hra.slice;obtain⟨fo,fc,rfl⟩:=hia.slice;obtain⟨hf1,hf2⟩:=ML hia;have vN:=bx (MP hia 4360);obtain⟨nf,hnf⟩:∃ nf,(M.1.take 4360).length=nf:=⟨_,rfl⟩
 have E8:=bx (show nf=min 4360 M.1.length by rw [<- hnf,List.length_take]);rw [hnf] at vN;have aj0:=bx hnf;obtain⟨m,hm⟩:∃ m,m=min M.2.length 30:=⟨_,rfl⟩
 have HM:=bx hm;have hm1:m<=M.2.length:=by omega
 have hm2:m<=30:=by omega
 obtain⟨w3,hw3⟩:∃ w3,w3=((w.alloc (.cells #[.slice fo M.1.length fc, .slice aa M.2.length ca] 25)).alloc (.cells #[.slice none 0 0, .slice none 0 0] 25)).alloc (.cells #[.slice fo nf fc, .slice none 0 0] 25):=⟨_,rfl⟩
 have aC:=bx (show ∃ vs,vZ w0 vs ((M.2.take 0).map AL)/\Sep [Pc.row w.heap.size 22 1 (.slice none 0 0) 0 vs,Pc.blk (w.heap.size+1+1) 25 #[.slice fo nf fc, .slice none 0 0],Pc.blk (w.heap.size+1) 25 #[.slice none 0 0, .slice none 0 0],Pc.blk w.heap.size 25 #[.slice fo M.1.length fc, .slice aa M.2.length ca],Pc.old w.heap.size w] w3 by
  have h1:=(((Sep.start w).bM 25 #[.slice fo M.1.length fc, .slice aa M.2.length ca]).bM 25 #[.slice none 0 0, .slice none 0 0]).bM 25 #[.slice fo nf fc, .slice none 0 0];refine⟨[],⟨rfl,λi r h=>by simp at h⟩,?_⟩;rw [hw3];have h2:=h1.iW w.heap.size 1 22
  simpa using h2)
 have HW3:=bx hw3;clear hb0 hra hia hm hnf hw3
 go_enter Tryz.func70,Tryz.ntmps70
 have hmn:(min (M.1.length:Int) 4360).toNat=nf:=by have:=E8.o;omega
 go_upto_region 2 with(fail)
 rw [<- HW3.o];clear hmn;go_wp2_with fail
 go_loopw [4] (λi wr=>∃ k:Nat,k<=m/\i = .int .i64 k/\Box (∃ nv vs,vZ w0 vs ((M.2.take k).map AL)/\Sep [Pc.row w.heap.size 22 1 nv k vs,Pc.blk (w.heap.size+1+1) 25 #[.slice fo nf fc,nv],Pc.blk (w.heap.size+1) 25 #[.slice none 0 0, .slice none 0 0],Pc.blk w.heap.size 25 #[.slice fo M.1.length fc, .slice aa M.2.length ca],Pc.old w.heap.size w] wr)) (λi _=>m-(intOf i).toNat)
 case atStart=>obtain⟨vs,h1,h2⟩:=aC.o;exact⟨0,by omega,rfl,⟨_,vs,h1,h2⟩⟩
 case round =>
  obtain⟨k,hk,rfl,hbox⟩:=hrel;obtain⟨nv,vs,hvs,hsep⟩:=hbox.o;have Ah:=bx (HB0.o.trans ((hsep.bel (n:=w.heap.size) (W0:=w) (by simp)).mono HB0.o.size));have rD:=bx hvs;have BD:=bx hsep;have aP:=bx (show Below w.heap.size w wr from hsep.bel (by simp));obtain⟨no,nc,rfl,hn1,hn2⟩:=iU (hsep.row 0 rfl);have mZ:=bx (hsep.blk 1 rfl);have HG2:=bx (hsep.blk 2 rfl);have lG:=bx (hsep.blk 3 rfl);have g1:wr.cell? ⟨w.heap.size,1,none⟩=some (.slice aa M.2.length ca):=(lG.o.cell 1).trans rfl;have l1:=lG.o.lt;clear hvs hsep hbox
  by_cases hlt:k<m
  ·obtain⟨x,hx⟩:∃ x,M.2[k]?=some x:=⟨_,List.getElem?_eq_getElem (by omega)⟩
   obtain⟨pa,oa,ca',ha0,ha1,ha2,qw,jk⟩:=oD.o.get (by intro e;rw [e] at hx;simp at hx);obtain⟨rfl,rfl⟩:aa=some ⟨pa,oa,none⟩/\ca=ca':=by injection ha0 with h1 h2 h3;exact⟨h1,h3⟩
   obtain⟨xv,hxc,hxi⟩:=jk k x hx;obtain⟨xo,xc,rfl⟩:=hxi.slice;obtain⟨hx1,hx2⟩:=ML hxi;have JG:=bx (MP hxi 260);obtain⟨q,hq⟩:∃ q,(x.take 260).length=q:=⟨_,rfl⟩
   have HQ:=bx (show q=min 260 x.length by rw [<- hq,List.length_take]);rw [hq] at JG;have dF:=bx (Xj M.2 k x hx);have lC:=bx (show ∀ W,Below wr.heap.size wr W->W.cell? ⟨w.heap.size+1+1,1,none⟩=some (.slice no k nc)/\W.cell? ⟨w.heap.size,1,none⟩=some (.slice (some ⟨pa,oa,none⟩) M.2.length ca)/\W.cell? ⟨pa,oa+k,none⟩=some (.slice xo x.length xc) from λW h =>
    ⟨((mZ.o.below h mZ.o.lt).cell 1).trans rfl,((lG.o.below h lG.o.lt).cell 1).trans rfl,((bt Ah.o h).cell (p:=⟨pa,oa+k,none⟩) qw).trans hxc⟩)
   have aF:=bx (show Below wr.heap.size wr wr.drew from⟨rfl,rfl,rfl,Nat.le_refl _,λ_ _=>rfl⟩);have dY:=bx BD.o.drew;have WV:w.heap.size<=wr.drew.heap.size:=aP.o.size;have aob:k<30:=by omega
   have hkl:k<M.2.length:=by omega
   have hkc:k<ca:=by omega
   have l3:=mZ.o.lt;unfold maxLen at ha2;clear ha0 jk hx hxc hxi hq;go_wp2_with fail;have Q5:(min (x.length:Int) 260).toNat=q:=by have:=HQ.o;omega
   have anv:(min (x.length:Int) 260)<=(xc:Int):=by omega
   have amL:(0:Int)<=min (x.length:Int) 260:=by omega
   refine fP 16 (λW=>W.cell? ⟨w.heap.size+1+1,1,none⟩=some (.slice no k nc)/\W.cell? ⟨w.heap.size,1,none⟩=some (.slice (some ⟨pa,oa,none⟩) M.2.length ca)/\W.cell? ⟨pa,oa+k,none⟩=some (.slice xo x.length xc)) (by kernel_rfl) ?_;have aA:=bx (lC.o _ aF.o);have tX:=bx (λo=>lC.o _ (aF.o.alloc aF.o.size o));generalize wr.drew=WR at *;refine kS 0 ?_ rfl aA.o ?_ ?_;rotate_left
   ·rintro w ⟨q1,q2,q3⟩;go_simp;try with_reducible rfl
   refine kS 1 ?_ rfl aA.o ?_ ?_;rotate_left
   ·rintro w ⟨q1,q2,q3⟩;go_simp;try with_reducible rfl
   refine kS 2 ?_ rfl aA.o ?_ ?_;rotate_left
   ·rintro w ⟨q1,q2,q3⟩;go_simp;try with_reducible rfl
   refine kS 3 ?_ rfl aA.o ?_ ?_;rotate_left
   ·rintro w ⟨q1,q2,q3⟩;go_simp;try with_reducible rfl
   refine kS 4 ?_ rfl aA.o ?_ ?_;rotate_left
   ·rintro w ⟨q1,q2,q3⟩;go_simp;try with_reducible rfl
   refine kS 5 ?_ rfl aA.o ?_ ?_;rotate_left
   ·rintro w ⟨q1,q2,q3⟩;go_simp;try with_reducible rfl
   refine kS 6 ?_ rfl aA.o ?_ ?_;rotate_left
   ·rintro w ⟨q1,q2,q3⟩;go_simp;try with_reducible rfl
   refine kS 7 ?_ rfl aA.o ?_ ?_;rotate_left
   ·rintro w ⟨q1,q2,q3⟩;go_simp;try with_reducible rfl
   refine kS 8 ?_ rfl aA.o ?_ ?_;rotate_left
   ·rintro w ⟨q1,q2,q3⟩;go_simp;try with_reducible rfl
   refine kS 9 ?_ rfl aA.o ?_ ?_;rotate_left
   ·rintro w ⟨q1,q2,q3⟩;go_simp;try with_reducible rfl
   refine kS 10 ?_ rfl aA.o ?_ ?_;rotate_left
   ·rintro w ⟨q1,q2,q3⟩;go_simp;try with_reducible rfl
   refine kS 11 ?_ rfl aA.o ?_ ?_;rotate_left
   ·rintro w ⟨q1,q2,q3⟩;go_simp;try with_reducible rfl
   refine kS 12 ?_ rfl aA.o ?_ ?_;rotate_left
   ·rintro w ⟨q1,q2,q3⟩;go_simp;try with_reducible rfl
   refine kS 13 ?_ rfl aA.o ?_ ?_;rotate_left
   ·rintro w ⟨q1,q2,q3⟩;go_simp;try with_reducible rfl
   refine kS 14 ?_ rfl aA.o ?_ ?_;rotate_left
   ·rintro w ⟨q1,q2,q3⟩;go_simp;try with_reducible rfl
   refine kP 15 rfl λKK ah=>?_
   go_simp;refine ah.out _ _ (λ_=>tX.o _) ?_;clear ah KK;refine kP 16 rfl λKK ah=>?_
   refine uF rfl _ _ 23 rfl O9 dY.o 0 rfl (by kernel_rfl) (by kernel_rfl) rfl (by omega) (by omega) WV ?_;rintro v' w9 kY ⟨g9,c9,rfl,h91,h92⟩;refine ah.out _ _ (λh=>by cases h) ?_;clear ah KK;have qJ:=bx (kY.blk 1 rfl);have z0:=(qJ.o.cell 1).trans (show _=some (Value.slice no k nc) from rfl);have z1:=qJ.o.frozen 1;have z2:=qJ.o.lt;have Xh:=bx (kY.set 1 rfl 1 (.slice (some ⟨g9,0,none⟩) (k+1) c9));clear kY;refine kP 17 rfl λKK ah=>?_
   go_simp;refine ah.out _ _ (λh=>by cases h) ?_;clear ah KK;refine kP 18 rfl λKK ah=>?_
   go_simp;refine ah.out _ _ (λh=>by cases h) ?_;clear ah KK;refine kD ?_ _;have HN:=bx (show ∃ nv vs,vZ w0 vs ((M.2.take (k+1)).map AL)/\Sep [Pc.row w.heap.size 22 1 nv (k+1) vs,Pc.blk (w.heap.size+1+1) 25 #[.slice fo nf fc,nv],Pc.blk (w.heap.size+1) 25 #[.slice none 0 0, .slice none 0 0],Pc.blk w.heap.size 25 #[.slice fo M.1.length fc, .slice (some ⟨pa,oa,none⟩) M.2.length ca],Pc.old w.heap.size w] _ by
    refine⟨_,_,?_,Xh.o⟩;rw [dF.o,List.map_append];exact rD.o.snoc JG.o)
   go_wp2_with fail
   go_roundw
   case rel=>exact⟨k+1,hlt,by go_num,HN⟩
   case measure=>simp [intOf];omega
  ·have hkm:k=m:=by omega
   have yA:=bx hkm;have hd:M.2.length<=k\/(k<M.2.length/\30<=k):=by have:=HM.o;omega
   have z0:wr.cell? ⟨w.heap.size+1+1,0,none⟩=some (.slice fo nf fc):=(mZ.o.cell 0).trans rfl;have z1:wr.cell? ⟨w.heap.size+1+1,1,none⟩=some (.slice no k nc):=(mZ.o.cell 1).trans rfl;have z2:=mZ.o.lt;have y0:=(HG2.o.cell 0).trans (show _=some (Value.slice none 0 0) from rfl);have y1:=(HG2.o.cell 1).trans (show _=some (Value.slice none 0 0) from rfl);have f0:=HG2.o.frozen 0;have f1:=HG2.o.frozen 1;have y2:=HG2.o.lt;have jo:=bx ((BD.o.set 2 rfl 0 (.slice fo nf fc)).set 2 rfl 1 (.slice no k nc));have dL:=bx (show (M.2.take k).map AL=(qh M).2 by
    unfold qh;simp only;rw [yA.o,HM.o]
    rcases Nat.le_total M.2.length 30 with h | h
    ·rw [Nat.min_eq_left h,List.take_length,List.take_of_length_le h]
    ·rw [Nat.min_eq_right h])
   have AY:=bx (show k=((M.2.take k).map AL).length by rw [List.length_map,List.length_take];have:=HM.o;omega);clear hkm
   rcases hd with hd | ⟨hd,hd2⟩
   all_goals
    go_wp2_with fail;have tC:=jo.o.bel (n:=w.heap.size) (W0:=w) (by simp);refine bodyPost_ret (v:=.agg #[.slice fo nf fc, .slice no k nc]) (results_cell_row Tryz.results70 _ _ (w.heap.size+1) 25 _ (0,0) _ rfl (jo.o.blk 2 rfl) Tryz.underlying25 rfl aeW) rfl ⟨tC,_,_,vs,rfl,vN.o,?_,?_⟩
    ·rw [<- dL.o];exact rD.o
    ·rw [rD.o.1,<- AY.o];exact jo.o.row 0 rfl
end
section
open Go.RowKit
attribute [local go_sem] Oper.semAt_some
theorem F.adV {names:List (List UInt8)} {s:List UInt8} {its:List N.Item} (h:F.Dw names s=some its) :
  (s=[]/\its=[])\/(s≠[]/\(∀ c∈s,c≠32/\c≠91)/\s.getLast?≠some 42/\s≠[94]/\s≠[46]/\∃ i,F.valueOf names s=some i/\its=[((2:Int) ^ i,0)]):=by
 unfold F.Dw at h
 by_cases h0:s=[]
 ·rw [if_pos h0] at h
  cases h;exact .inl ⟨h0,rfl⟩
 ·rw [if_neg h0] at h
  split at h
  ·cases h
  ·rename_i h1
   simp only [Bool.or_eq_true,List.any_eq_true,beq_iff_eq,not_or,not_exists,not_and] at h1;obtain⟨⟨⟨k1,k2⟩,k3⟩,k4⟩:=h1;refine .inr ⟨h0,λc hc=>⟨λe=>(k1 c hc).1 e,λe=>(k1 c hc).2 e⟩,k2,k3,k4,?_⟩
   cases hv:F.valueOf names s with
   | none=>rw [hv] at h;cases h
   | some i=>rw [hv] at h;cases h;exact⟨i,rfl,rfl⟩
theorem J9 {c:UInt8} {d:UInt8} (h:c≠d):(U.ak c==U.ak d)=false:=by rw [IB];simpa using h
theorem akQ (s:List UInt8) (w:World) (hc:∀ c∈s,c≠32/\c≠91) (hz:s.length<=20000) :
  Calls Tryz.prog 198 #[.string (bs s)] w λe w'=>(∃ v,e = .returned v/\w'.ownsRow w.heap.size 9 1 v 1 [jK s])/\Below w.heap.size w w':=by
 obtain⟨S,hS⟩:∃ S,(bs s).size=S:=⟨_,rfl⟩
 have HSL:=bx (show S=s.length by rw [<- hS];exact eU s);have hSz:S<=20000:=by rw [HSL.o];exact hz
 have HC:=bx hc;have aQ:=bx ((Sep.start w).iW w.heap.size 1 9);clear hc
 go_enter Tryz.func198,Tryz.ntmps198
 go_wp2_with fail
 go_loopw [6,3,4,5] (λi o f b wr=>b = .bool false/\((∃ k:Nat,k<=S/\i = .int .i64 k/\o = .slice none 0 0/\f = .int .i64 0/\wr=w)\/(i = .int .i64 ((S:Int)+1)/\(∃ z:Int,f = .int .i64 z)/\Box (wr.ownsRow w.heap.size 9 1 o 1 [jK s]/\Below w.heap.size w wr)))) (λi _ _ _ _=>S+1-(intOf i).toNat)
 case atStart=>exact⟨rfl, .inl ⟨0,by omega,rfl,rfl,rfl,rfl⟩⟩
 case round =>
  obtain⟨rfl,⟨k,hk,rfl,rfl,rfl,rfl⟩ | ⟨rfl,⟨z,rfl⟩,ho⟩⟩:=hrel
  ·by_cases hlt:k<S
   ·obtain⟨d,hd⟩:∃ d,s[k]?=some d:=⟨_,List.getElem?_eq_getElem (by rw [<- HSL.o];exact hlt)⟩
    have hix:=yC (P:=Tryz.prog) Tryz.underlying9 k hd k rfl;have hdd:=HC.o d (List.mem_of_getElem? hd);have e1:(U.ak d==32)=false:=J9 (d:=32) hdd.1;have e2:(U.ak d==91)=false:=J9 (d:=91) hdd.2;have e3:((k:Int)==(S:Int))=false:=by rw [beq_eq_false_iff_ne];omega
    clear hd hdd;go_wp2_with fail
    go_roundw
    case rel=>exact⟨rfl, .inl ⟨k+1,by omega,by go_num,rfl,rfl,trivial⟩⟩
    case measure=>simp [intOf];omega
   ·obtain rfl:k=S:=by omega
    have e3:((k:Int)==(k:Int))=true:=by simp
    have hcut:=FK (P:=Tryz.prog) (T:=9) Tryz.underlying9 s 0 k 0 (k:Int) rfl rfl ⟨by omega,by rw [HSL.o];exact Nat.le_refl _⟩;rw [show (s.take k).drop 0=s by rw [HSL.o];simp] at hcut;go_wp2_with (at_builtin;refine ji rfl _ _ 48 rfl Gu aQ.o 0 rfl rfl rfl rfl (by omega) (by omega) (Nat.le_refl _) ?_;rintro v' w4 hS4 ⟨go',gc',rfl,-,-⟩)
    have HO:=bx (show w4.ownsRow wr.heap.size 9 1 (.slice (some ⟨go',0,none⟩) (0+1) gc') 1 [jK s]/\Below wr.heap.size wr w4 from⟨hS4.row 0 rfl,hS4.bel (n:=wr.heap.size) (W0:=wr) (by simp)⟩);clear hS4;go_wp2_with fail
    go_roundw
    case rel=>exact⟨rfl, .inr ⟨by first | trivial | rfl | go_num,⟨_,rfl⟩,HO⟩⟩
    case measure=>simp [intOf]
  ·go_wp2_with fail;go_ret
   exact⟨⟨_,rfl,ho.o.1⟩,ho.o.2⟩
theorem adI (s:List UInt8) (nv:Value) (names:List (List UInt8)) (i:Nat) (w:World) (hn:dI w nv names) (hnb:F.vF names=true) (Az:s≠[46]) (hv:F.valueOf names s=some i) :
  Calls Tryz.prog 217 #[.string (bs s),nv] w λe w'=>e = .returned (.tuple #[.int .i64 ((2:Int) ^ i), .int .i64 0])/\Below w.heap.size w w':=by
 have yB:=bx (OQ nv names w hn hnb);have hnl:names.length<=32:=by unfold F.vF at hnb;simp only [Bool.and_eq_true,decide_eq_true_eq] at hnb;exact hnb.2
 have hil:i<names.length:=by
  unfold F.valueOf at hv;obtain⟨h,-⟩:=List.findIdx?_eq_some_iff_getElem.1 hv;exact h
 have HV:=bx (λW (h:Below w.heap.size w W)=>hv▸PU nv names s W (hn.below h) (by omega));have HW:=bx (λW=>Pm i W (by omega));have hcmp:((bs s).toList==[46])=false:=by rw [yR];simpa using Az
 have HI:=bx (show ((2 ^ i:Nat):Int)=(2:Int) ^ i by simp);obtain⟨a,cap,rfl,hc1,hc2⟩:=hn.slice;clear hn hnb Az hv hil
 go_enter Tryz.func217,Tryz.ntmps217
 go_wp2_with fail;refine yB.o.mono ?_;rintro e w0 ⟨rfl,nd,rfl⟩;have HB0:=bx (jW w nd);generalize w.drewN nd=w0 at HB0 ⊢;go_wp2_with fail;refine(HV.o _ HB0.o).mono ?_;rintro e w1 ⟨rfl,rfl⟩;unfold Jp;go_wp2_with fail;refine(HW.o _).mono ?_;rintro e w1 ⟨rfl,rfl⟩;rw [HI.o];go_wp2_with fail;go_ret2
 exact⟨rfl,HB0.o⟩
theorem ahx:(Tryz.prog.info? 292).map (·.size)=some 2:=by kernel_rfl
theorem aaL:(Tryz.prog.info? 182).map (·.size)=some 2:=by kernel_rfl
theorem alq (s:List UInt8) (nv:Value) (names:List (List UInt8)) (i:Nat) (w:World) (hn:dI w nv names) (hnb:F.vF names=true) (hs:s≠[]) (Az:s≠[46]) (hst:s.getLast?≠some 42) (hv:F.valueOf names s=some i) (hz:s.length<=20000) :
  Calls Tryz.prog 199 #[.string (bs s),nv] w λe w'=>e = .returned (.tuple #[.agg #[.int .i64 ((2:Int) ^ i), .int .i64 0], .bool true])/\Below w.heap.size w w':=by
 have hb0:=aO w (.cells #[.int .i64 0, .int .i64 0] 292);have HB0:=bx hb0;have HC:=bx (adI s nv names i _ (hn.below hb0) hnb Az hv);have HR:=bx (aj.new w 292 #[.int .i64 0, .int .i64 0]);have hemp:=Ap hs;obtain⟨S,hS⟩:∃ S,(bs s).size=S:=⟨_,rfl⟩
 have HSL:=bx (show S=s.length by rw [<- hS];exact eU s);have hSz:S<=20000:=by rw [HSL.o];exact hz
 have hS0:0<S:=by rw [HSL.o];exact List.length_pos_iff.2 hs
 obtain⟨d,hd⟩:∃ d,s[S-1]?=some d:=⟨_,List.getElem?_eq_getElem (by rw [<- HSL.o];omega)⟩
 have hix:=yC (P:=Tryz.prog) Tryz.underlying9 (S-1) hd ((S:Int)-1) (by omega);have e1:(U.ak d==42)=false:=J9 (d:=42) (λe=>hst (by rw [List.getLast?_eq_getElem?,<- HSL.o,hd,e]));clear hb0 hn hnb hs Az hst hv hd
 go_enter Tryz.func199,Tryz.ntmps199
 go_wp2_with fail;refine wp_loop_rounds 1 ?_;rw [rounds_succ];go_wp2_with fail;refine HC.o.mono ?_;rintro e w1 ⟨rfl,hb1⟩;have HB1:=bx (bt HB0.o hb1);have HR1:=bx (HR.o.below hb1 HR.o.lt);have r0:=(HR1.o.cell 0).trans (show _=some (Value.int .i64 0) from rfl);have r1:=(HR1.o.cell 1).trans (show _=some (Value.int .i64 0) from rfl);have f0:=HR1.o.frozen 0;have f1:=HR1.o.frozen 1;have rl:=HR1.o.lt;clear hb1;go_wp2_with fail;exact bodyPost_ret (v:=.tuple #[.agg #[.int .i64 ((2:Int) ^ i), .int .i64 0], .bool true]) (zO Tryz.results199 _ _ w.heap.size 292 #[.int .i64 ((2:Int) ^ i), .int .i64 0] (0,0) _ rfl ((HR1.o.dh 0 (.int .i64 ((2:Int) ^ i))).dh 1 (.int .i64 0)) Tryz.underlying292 rfl ahx) rfl
  ⟨rfl,(HB1.o.setCell (Nat.le_refl _) _).setCell (Nat.le_refl _) _⟩
theorem afg {w:World} {base:Nat} {T:TypeId} {v:Value} {a:Int} (h:w.ownsRow base T 2 v 1 [.int .i64 a, .int .i64 0]):bQ w v [(a,0)]:=by
 rcases h.2 with⟨-,h0⟩ | ⟨g,cap,cur,rfl,h2,h3,h4,h5,h6,h7⟩
 ·omega
 ·refine .inr ⟨g,0,none,cap,rfl,h4,h5,λ_=>⟨rfl,(h.lt g rfl).2,λi x hx=>?_⟩⟩;have hi:i=0:=by have:=(List.getElem?_eq_some_iff.1 hx).1;simpa using this
  subst hi
  cases hx;have e0:=h.cells (g:=g) rfl 0 (.int .i64 a) rfl;have e1:=h.cells (g:=g) rfl 1 (.int .i64 0) rfl;exact⟨e0,e1⟩
theorem ak0:vH Tryz.prog 180 292 2 16:=.mk' (z:=.agg #[.int .i64 0, .int .i64 0]) Tryz.underlying180 (by kernel_rfl) rfl
theorem aan (s:List UInt8) (nv:Value) (names:List (List UInt8)) (its:List N.Item) (w:World) (hn:dI w nv names) (hnb:F.vF names=true) (hok:F.Dw names s=some its) (hz:s.length<=20000) :
  Calls Tryz.prog 166 #[.string (bs s),nv] w λe w'=>(∃ v,e = .returned (.tuple #[.agg #[.bool false,v], .int .i64 0])/\bQ w' v its/\∀ g,v.ownBlock=some g->w.heap.size<=g/\g<w'.heap.size)/\Below w.heap.size w w':=by
 have hb0:=aO w (.cells #[.bool false, .slice none 0 0] 182);have yB:=bx (OQ nv names _ (hn.below hb0) hnb);have aQ:=bx ((Sep.start w).bM 182 #[.bool false, .slice none 0 0])
 rcases F.adV hok with⟨rfl,rfl⟩ | ⟨hs,hc,hst,hup,Az,i,hv,rfl⟩
 ·have hemp:=Je;clear hn hnb hb0 hok
  go_enter Tryz.func166,Tryz.ntmps166
  go_wp2_with fail;refine yB.o.mono ?_;rintro e w1 ⟨rfl,nd,rfl⟩;have bG:=bx (aQ.o.drewN nd);generalize (w.alloc (.cells #[.bool false, .slice none 0 0] 182)).drewN nd=w1 at bG ⊢;have HS2:=bx (bG.o.bM 182 #[.bool false, .slice none 0 0]);have hq:=HS2.o.blk 1 rfl;have c0:(w1.alloc (.cells #[.bool false, .slice none 0 0] 182)).cell? ⟨w.heap.size,0,none⟩=some (.bool false):=(hq.cell 0).trans rfl;have c1:(w1.alloc (.cells #[.bool false, .slice none 0 0] 182)).cell? ⟨w.heap.size,1,none⟩=some (.slice none 0 0):=(hq.cell 1).trans rfl;have f0:=hq.frozen 0;have f1:=hq.frozen 1;have ql:=hq.lt;clear hq;go_wp2_with fail;have h3:=(HS2.o.set 1 rfl 0 (.bool false)).set 1 rfl 1 (.slice none 0 0);exact bodyPost_ret (v:=.tuple #[.agg #[.bool false, .slice none 0 0], .int .i64 0]) (zO Tryz.results166 _ _ w.heap.size 182 #[.bool false, .slice none 0 0] (0,0) _ rfl (h3.blk 1 rfl) Tryz.underlying182 rfl aaL) rfl
   ⟨⟨_,rfl, .inl ⟨rfl,rfl⟩,λg hg=>by cases hg⟩,h3.bel (n:=w.heap.size) (W0:=w) (by simp)⟩
 ·have hemp:=Ap hs;have HP:=bx (λW=>akQ s W hc hz);have HIT:=bx (λW (h:Below w.heap.size w W)=>alq s nv names i W (hn.below h) hnb hs Az hst hv hz);have hcmp:((bs s).toList==[94])=false:=by rw [yR];simpa using hup
  clear hn hnb hb0 hok hs hc hst hup Az hv
  go_enter Tryz.func166,Tryz.ntmps166
  go_wp2_with fail;refine yB.o.mono ?_;rintro e w1 ⟨rfl,nd,rfl⟩;have bG:=bx (aQ.o.drewN nd);generalize (w.alloc (.cells #[.bool false, .slice none 0 0] 182)).drewN nd=w1 at bG ⊢;have HS2:=bx ((bG.o.bM 182 #[.bool false, .slice none 0 0]).iW w.heap.size 2 292);go_wp2_with fail;generalize w1.heap.size=P at HS2 ⊢;generalize w1.alloc (.cells #[.bool false, .slice none 0 0] 182)=w2 at HS2 ⊢;refine(HP.o w2).mono ?_;rintro e w3 ⟨⟨pv,rfl,hpv⟩,hb3⟩;have aC:=bx (HS2.o.below hb3);obtain⟨g,cap,cur,rfl,r1,r2,r3,hbk,hcur⟩:=OG hpv (by omega);have HG:=bx (show g<w3.heap.size/\w3.cell? ⟨g,0,none⟩=some (.string (bs s)) from⟨hbk.lt,(hbk.cell 0).trans (hcur 0 _ rfl)⟩);obtain⟨gl,gc⟩:=HG.o;clear hb3 hpv hbk hcur;go_wp2_with fail;refine wp_loop_rounds 2 ?_;rw [rounds_succ];go_wp2_with fail;have HB3:=bx (aC.o.bel (n:=w.heap.size) (W0:=w) (by simp));refine(HIT.o _ HB3.o).mono ?_;rintro e w4 ⟨rfl,hb4⟩;have aY:=bx (aC.o.below hb4);have Ag:=bx ((hb4.cell (p:=⟨g,0,none⟩) HG.o.1).trans HG.o.2);have bU:=bx (aY.o.bM 292 #[.int .i64 ((2:Int) ^ i), .int .i64 0]);have hq5:=bU.o.blk 2 rfl;have p0:(w4.alloc (.cells #[.int .i64 ((2:Int) ^ i), .int .i64 0] 292)).cell? ⟨P,0,none⟩=some (.bool false):=(hq5.cell 0).trans rfl;have p1:(w4.alloc (.cells #[.int .i64 ((2:Int) ^ i), .int .i64 0] 292)).cell? ⟨P,1,none⟩=some (.slice none 0 0):=(hq5.cell 1).trans rfl;have pl:=hq5.lt;have hwz:w.heap.size<=(w4.alloc (.cells #[.int .i64 ((2:Int) ^ i), .int .i64 0] 292)).heap.size:=(bU.o.bel (n:=w.heap.size) (W0:=w) (by simp)).size;have aU:=bx (show (w4.alloc (.cells #[.int .i64 ((2:Int) ^ i), .int .i64 0] 292)).heap.size=w4.heap.size+1 by simp);clear hb4 gl gc hq5;go_wp2_with (at_builtin;refine AQ (cs:=[.int .i64 ((2:Int) ^ i), .int .i64 0]) rfl _ _ 180 rfl ak0 (by decide) bU.o 1 rfl rfl (by rw [aU.o];rfl) rfl (by intro u hu;simp only [List.mem_cons,List.not_mem_nil,or_false] at hu;rcases hu with rfl | rfl <;> rfl) (by omega) (by omega) hwz ?_;rintro v' w6 hS6 ⟨go',gc',rfl,-,-⟩;have aW:=bx hS6;have hq6:=aW.o.blk 2 rfl;have p0:w6.cell? ⟨P,0,none⟩=some (.bool false):=(hq6.cell 0).trans rfl;have p1:w6.cell? ⟨P,1,none⟩=some (.slice none 0 0):=(hq6.cell 1).trans rfl;have pf0:=hq6.frozen 0;have pf1:=hq6.frozen 1;have pl:=hq6.lt;have Ho:=aW.o.blk 3 rfl;have r0:w6.cell? ⟨w.heap.size,0,none⟩=some (.bool false):=(Ho.cell 0).trans rfl;have r1:w6.cell? ⟨w.heap.size,1,none⟩=some (.slice none 0 0):=(Ho.cell 1).trans rfl;have JK:=Ho.frozen 0;have IC:=Ho.frozen 1;have rl:=Ho.lt;clear hS6 hq6 Ho)
  rw [rounds_succ];have hRP:w.heap.size≠P:=by
   rintro rfl;exact(aW.o.tail.tail.apart (q:=Pc.blk w.heap.size 182 #[.bool false, .slice none 0 0]) (List.mem_cons_self ..) (k:=w.heap.size) rfl) rfl
  have h7:=aW.o.set 2 rfl 1 (.slice (some ⟨go',0,none⟩) (0+1) gc');have h8:=bx ((h7.set 3 rfl 0 (.bool false)).set 3 rfl 1 (.slice (some ⟨go',0,none⟩) (0+1) gc'));clear h7;go_wp2_with fail;have hro:=h8.o.row 1 rfl;exact bodyPost_ret (v:=.tuple #[.agg #[.bool false, .slice (some ⟨go',0,none⟩) (0+1) gc'], .int .i64 0]) (zO Tryz.results166 _ _ w.heap.size 182 #[.bool false, .slice (some ⟨go',0,none⟩) (0+1) gc'] (0,0) _ rfl (h8.o.blk 3 rfl) Tryz.underlying182 rfl aaL) rfl
   ⟨⟨_,rfl,afg hro,λq hq=>hro.lt q hq⟩,h8.o.bel (n:=w.heap.size) (W0:=w) (by simp)⟩
theorem F.akC {names:List (List UInt8)} {t:List UInt8} {r:D.Rule} (h:F.H9 names t=some r) :
  ∃ (k:Nat) (d:UInt8) (a b:List N.Item),t[k]?=some d/\F.Ic d=true/\(∀ (j:Nat) (c:UInt8),j<k->t[j]?=some c->F.Ic c=false)/\F.Dw names (F.trim (t.take k))=some a/\F.Dw names (F.trim (t.drop (k+1)))=some b/\r=((false,a),(false,b),d==47):=by
 unfold F.H9 at h
 cases hi:t.findIdx? F.Ic with
 | none=>rw [hi] at h;cases h
 | some k =>
  rw [hi] at h;simp only at h;obtain⟨hk,hd,hj⟩:=List.findIdx?_eq_some_iff_getElem.1 hi
  split at h
  ·rename_i a b h1 h2
   cases h;refine⟨k,t[k],a,b,List.getElem?_eq_getElem hk,hd,λj c hjk hc=>?_,h1,h2,by rw [List.getD_eq_getElem?_getD,List.getElem?_eq_getElem hk];rfl⟩;have:=hj j hjk;obtain⟨h3,rfl⟩:=List.getElem?_eq_some_iff.1 hc
   simpa using this
  ·cases h
theorem FD {w:World} {v:Value} {l:List N.Item} (h:bQ w v l):∃ a c,v = .slice a l.length c:=by
 rcases h with⟨rfl,rfl⟩ | ⟨b,off,sp,cap,rfl,-⟩
 ·exact⟨_,_,rfl⟩
 ·exact⟨_,_,rfl⟩
theorem akn {W W':World} {v:Value} {l:List N.Item} (h:bQ W v l) (hs:W.heap.size<=W'.heap.size) (hg:∀ g,v.ownBlock=some g->W'.heap[g]?=W.heap[g]?):bQ W' v l:=by
 rcases h with h | ⟨b,off,sp,cap,h1,h2,h3,h4⟩
 ·exact .inl h
 ·refine .inr ⟨b,off,sp,cap,h1,h2,h3,λhn=>?_⟩;obtain⟨k1,k2,k3⟩:=h4 hn;have hb:=hg b (by rw [h1];rfl);exact⟨k1,Nat.lt_of_lt_of_le k2 hs,λi x hx=>⟨(World.cell?_of_block hb).trans (k3 i x hx).1,(World.cell?_of_block hb).trans (k3 i x hx).2⟩⟩
def O3:BH (Value×List N.Item) where
 at' W y:=bQ W y.1 y.2/\∀ g,y.1.ownBlock=some g->g<W.heap.size
 val y:=y.1
 same:=λ{_ _ _} h hs hg=>⟨akn h.1 hs hg,λg hg'=>Nat.lt_of_lt_of_le (h.2 g hg') hs⟩
 lt:=λ{_ _ _} h hg=>h.2 _ hg
theorem Xr:(Tryz.prog.info? 184).map (·.size)=some 5:=by kernel_rfl
theorem aeD (t:List UInt8) (nv:Value) (names:List (List UInt8)) (r:D.Rule) (w:World) (hn:dI w nv names) (hnb:F.vF names=true) (hok:F.H9 names t=some r) (hz:t.length<=20000) :
  Calls Tryz.prog 115 #[.string (bs t),nv] w λe w'=>(∃ vl vr,e = .returned (.tuple #[.agg #[.bool r.1.1,vl, .bool r.2.1.1,vr, .bool r.2.2], .bool true])/\bQ w' vl r.1.2/\bQ w' vr r.2.1.2)/\Below w.heap.size w w':=by
 obtain⟨K,d,la,lb,hd,hm,hno,hpa,hpb,rfl⟩:=F.akC hok;obtain⟨S,hS⟩:∃ S,(bs t).size=S:=⟨_,rfl⟩
 have HSL:=bx (show S=t.length by rw [<- hS];exact eU t);have hSz:S<=20000:=by rw [HSL.o];exact hz
 have hKS:K<S:=by rw [HSL.o];exact(List.getElem?_eq_some_iff.1 hd).1
 have aQ:=bx ((Sep.start w).bM 184 #[.bool false, .slice none 0 0, .bool false, .slice none 0 0, .bool false]);have hta:(F.trim (t.take K)).length<=20000:=by have:=F.Jk (t.take K);rw [List.length_take] at this;omega
 have htb:(F.trim (t.drop (K+1))).length<=20000:=by have:=F.Jk (t.drop (K+1));rw [List.length_drop] at this;omega
 have jg:=bx (λW=>Gz (t.take K) W (by rw [List.length_take];omega));have bD:=bx (λW=>Gz (t.drop (K+1)) W (by rw [List.length_drop];omega));have nJ:=bx (λW (h:Below w.heap.size w W)=>aan _ nv names la W (hn.below h) hnb hpa hta);have HPB:=bx (λW (h:Below w.heap.size w W)=>aan _ nv names lb W (hn.below h) hnb hpb htb);have HD:=bx hd;have HM:=bx hm;have iP:=bx hno;clear hn hnb hok hd hm hno hpa hpb hta htb
 go_enter Tryz.func115,Tryz.ntmps115
 go_wp2_with fail;generalize w.alloc (.cells #[.bool false, .slice none 0 0, .bool false, .slice none 0 0, .bool false] 184)=w0 at aQ ⊢
 go_loopw [6] (λi wr=>∃ k:Nat,k<=K/\i = .int .i64 k/\wr=w0) (λi _=>K-(intOf i).toNat)
 case atStart=>exact⟨0,by omega,rfl,rfl⟩
 case round =>
  obtain⟨k,hk,rfl,rfl⟩:=hrel
  by_cases hlt:k<K
  ·obtain⟨c,hc⟩:∃ c,t[k]?=some c:=⟨_,List.getElem?_eq_getElem (by have:=HSL.o;omega)⟩
   have hno:=iP.o k c hlt hc;unfold F.Ic at hno;rw [Bool.or_eq_false_iff,beq_eq_false_iff_ne,beq_eq_false_iff_ne] at hno;have hix:=yC (P:=Tryz.prog) Tryz.underlying9 k hc k rfl;have e1:(U.ak c != 43)=true:=by rw [bne_iff_ne];have:=J9 (d:=43) hno.1;rw [beq_eq_false_iff_ne] at this;exact this
   have e2:(U.ak c != 47)=true:=by rw [bne_iff_ne];have:=J9 (d:=47) hno.2;rw [beq_eq_false_iff_ne] at this;exact this
   clear hc hno;go_wp2_with fail
   go_roundw
   case rel=>exact⟨k+1,by omega,by go_num,trivial⟩
   case measure=>simp [intOf];omega
  ·obtain rfl:k=K:=by omega
   have hix:=yC (P:=Tryz.prog) Tryz.underlying9 k HD.o k rfl;have hup:=DN (P:=Tryz.prog) (T:=9) Tryz.underlying9 t k (k:Int) rfl (by rw [<- HSL.o];omega);have hfr:=Md (P:=Tryz.prog) (T:=9) Tryz.underlying9 t (k+1) ((k:Int)+1) (by omega) (by rw [<- HSL.o];omega);obtain⟨x,hx⟩:∃ x,U.ak d=x:=⟨_,rfl⟩
   have hmm:=HM.o;unfold F.Ic at hmm;rw [Bool.or_eq_true,beq_iff_eq,beq_iff_eq] at hmm;have uI:=bx (show (U.ak d==47)=(d==47) from IB d 47);have hcase:((U.ak d != 43)=false)\/((U.ak d != 43)=true/\(U.ak d != 47)=false):=by
    rcases hmm with rfl | rfl
    ·exact .inl rfl
    ·exact .inr ⟨rfl,rfl⟩
   clear hx hmm
   rcases hcase with e1 | ⟨e1,e2⟩
   ·go_wp2_with fail;refine(jg.o _).mono ?_;rintro e w1 ⟨rfl,rfl⟩;go_wp2_with fail;have HB1:=bx (aQ.o.bel (n:=w.heap.size) (W0:=w) (by simp));refine(nJ.o _ HB1.o).mono ?_;rintro e w2 ⟨⟨vl,rfl,hvl,hfl⟩,hb2⟩;have HS2:=bx (aQ.o.Gl (b:=O3) (y:=(vl,la)) hb2 ⟨hvl,λg hg=>(hfl g hg).2⟩ (λg hg=>(hfl g hg).1));obtain⟨aa,ac,rfl⟩:=FD hvl;have aC:=bx (HS2.o.bM 182 #[.bool false, .slice aa la.length ac]);clear hb2 hvl hfl;go_wp2_with fail;generalize w2.heap.size=X at aC ⊢;generalize w2.alloc (.cells #[.bool false, .slice aa la.length ac] 182)=w3 at aC ⊢;refine(bD.o _).mono ?_;rintro e w4 ⟨rfl,rfl⟩;go_wp2_with fail;have HB3:=bx (aC.o.bel (n:=w.heap.size) (W0:=w) (by simp));refine(HPB.o _ HB3.o).mono ?_;rintro e w5 ⟨⟨vr,rfl,sU,DY⟩,hb5⟩;have bU:=bx (aC.o.Gl (b:=O3) (y:=(vr,lb)) hb5 ⟨sU,λg hg=>(DY g hg).2⟩ (λg hg=>(DY g hg).1));obtain⟨ba,bc,rfl⟩:=FD sU;have aW:=bx (bU.o.bM 182 #[.bool false, .slice ba lb.length bc]);clear hb5 sU DY;go_wp2_with fail;generalize w5.heap.size=Y at aW ⊢;generalize w5.alloc (.cells #[.bool false, .slice ba lb.length bc] 182)=w6 at aW ⊢;refine fP 19 (λW=>W.cell? ⟨X,0,none⟩=some (.bool false)/\W.cell? ⟨X,1,none⟩=some (.slice aa la.length ac)/\W.cell? ⟨Y,0,none⟩=some (.bool false)/\W.cell? ⟨Y,1,none⟩=some (.slice ba lb.length bc)) (by kernel_rfl) ?_;have dX:=bx aW.o.drew;generalize w6.drew=w7 at dX ⊢;have hy:=dX.o.blk 0 rfl;have y0:w7.cell? ⟨Y,0,none⟩=some (.bool false):=(hy.cell 0).trans rfl;have y1:w7.cell? ⟨Y,1,none⟩=some (.slice ba lb.length bc):=(hy.cell 1).trans rfl;have hx:=dX.o.blk 2 rfl;have x0:w7.cell? ⟨X,0,none⟩=some (.bool false):=(hx.cell 0).trans rfl;have x1:w7.cell? ⟨X,1,none⟩=some (.slice aa la.length ac):=(hx.cell 1).trans rfl;have xl:=hx.lt;have yl:=hy.lt;have hr:=dX.o.blk 4 rfl;have r0:w7.cell? ⟨w.heap.size,0,none⟩=some (.bool false):=(hr.cell 0).trans rfl;have r1:w7.cell? ⟨w.heap.size,1,none⟩=some (.slice none 0 0):=(hr.cell 1).trans rfl;have r2:w7.cell? ⟨w.heap.size,2,none⟩=some (.bool false):=(hr.cell 2).trans rfl;have r3:w7.cell? ⟨w.heap.size,3,none⟩=some (.slice none 0 0):=(hr.cell 3).trans rfl;have r4:w7.cell? ⟨w.heap.size,4,none⟩=some (.bool false):=(hr.cell 4).trans rfl;have f0:=hr.frozen 0;have f1:=hr.frozen 1;have f2:=hr.frozen 2;have f3:=hr.frozen 3;have f4:=hr.frozen 4;have rl:=hr.lt;clear hx hy hr;have aA:=bx (show (λW=>W.cell? ⟨X,0,none⟩=some (.bool false)/\W.cell? ⟨X,1,none⟩=some (.slice aa la.length ac)/\W.cell? ⟨Y,0,none⟩=some (.bool false)/\W.cell? ⟨Y,1,none⟩=some (.slice ba lb.length bc)) w7 from⟨x0,x1,y0,y1⟩);clear x0 x1 y0 y1;refine kS 0 ?_ rfl aA.o ?_ ?_;rotate_left
    ·rintro w ⟨q1,q2,q3,q4⟩;go_simp;try with_reducible rfl
    refine kS 1 ?_ rfl aA.o ?_ ?_;rotate_left
    ·rintro w ⟨q1,q2,q3,q4⟩;go_simp;try with_reducible rfl
    refine kS 2 ?_ rfl aA.o ?_ ?_;rotate_left
    ·rintro w ⟨q1,q2,q3,q4⟩;go_simp;try with_reducible rfl
    refine kS 3 ?_ rfl aA.o ?_ ?_;rotate_left
    ·rintro w ⟨q1,q2,q3,q4⟩;go_simp;try with_reducible rfl
    refine kS 4 ?_ rfl aA.o ?_ ?_;rotate_left
    ·rintro w ⟨q1,q2,q3,q4⟩;go_simp;try with_reducible rfl
    refine kS 5 ?_ rfl aA.o ?_ ?_;rotate_left
    ·rintro w ⟨q1,q2,q3,q4⟩;go_simp;try with_reducible rfl
    refine kS 6 ?_ rfl aA.o ?_ ?_;rotate_left
    ·rintro w ⟨q1,q2,q3,q4⟩;go_simp;try with_reducible rfl
    refine kS 7 ?_ rfl aA.o ?_ ?_;rotate_left
    ·rintro w ⟨q1,q2,q3,q4⟩;go_simp;try with_reducible rfl
    refine kS 8 ?_ rfl aA.o ?_ ?_;rotate_left
    ·rintro w ⟨q1,q2,q3,q4⟩;go_simp;try with_reducible rfl
    refine kS 9 ?_ rfl aA.o ?_ ?_;rotate_left
    ·rintro w ⟨q1,q2,q3,q4⟩;go_simp;try with_reducible rfl
    refine kS 10 ?_ rfl aA.o ?_ ?_;rotate_left
    ·rintro w ⟨q1,q2,q3,q4⟩;go_simp;try with_reducible rfl
    refine kS 11 ?_ rfl aA.o ?_ ?_;rotate_left
    ·rintro w ⟨q1,q2,q3,q4⟩;go_simp;try with_reducible rfl
    refine kS 12 ?_ rfl aA.o ?_ ?_;rotate_left
    ·rintro w ⟨q1,q2,q3,q4⟩;go_simp;try with_reducible rfl
    refine kS 13 ?_ rfl aA.o ?_ ?_;rotate_left
    ·rintro w ⟨q1,q2,q3,q4⟩;go_simp;try with_reducible rfl
    refine kS 14 ?_ rfl aA.o ?_ ?_;rotate_left
    ·rintro w ⟨q1,q2,q3,q4⟩;go_simp;try with_reducible rfl
    refine kS 15 ?_ rfl aA.o ?_ ?_;rotate_left
    ·rintro w ⟨q1,q2,q3,q4⟩;go_simp;try with_reducible rfl
    refine kS 16 ?_ rfl aA.o ?_ ?_;rotate_left
    ·rintro w ⟨q1,q2,q3,q4⟩;go_simp;try with_reducible rfl
    refine kS 17 ?_ rfl aA.o ?_ ?_;rotate_left
    ·rintro w ⟨q1,q2,q3,q4⟩;go_simp;try with_reducible rfl
    refine kP 18 rfl λKK ah=>?_
    go_simp;have h8:=bx (((((dX.o.set 4 rfl 0 (.bool false)).set 4 rfl 1 (.slice aa la.length ac)).set 4 rfl 2 (.bool false)).set 4 rfl 3 (.slice ba lb.length bc)).set 4 rfl 4 (.bool (U.ak d==47)));refine ah.out _ _ (λ_=>⟨((h8.o.blk 2 rfl).cell 0).trans rfl,((h8.o.blk 2 rfl).cell 1).trans rfl,((h8.o.blk 0 rfl).cell 0).trans rfl,((h8.o.blk 0 rfl).cell 1).trans rfl⟩) ?_;clear ah KK;refine kP 19 rfl λKK ah=>?_
    go_simp;refine ah.out _ _ (λh=>by cases h) ?_;clear ah KK;refine kD ?_ _;go_wp2_with fail;have hl:=h8.o.lF 3 rfl (.slice aa la.length ac,la) (by simp);have hr:=h8.o.lF 1 rfl (.slice ba lb.length bc,lb) (by simp);exact bodyPost_ret (v:=.tuple #[.agg #[.bool false, .slice aa la.length ac, .bool false, .slice ba lb.length bc, .bool (U.ak d==47)], .bool true]) (zO Tryz.results115 _ _ w.heap.size 184 #[.bool false, .slice aa la.length ac, .bool false, .slice ba lb.length bc, .bool (U.ak d==47)] (0,0) _ rfl (h8.o.blk 4 rfl) Tryz.underlying184 rfl Xr) rfl
     ⟨⟨_,_,by rw [uI.o],hl.1,hr.1⟩,h8.o.bel (n:=w.heap.size) (W0:=w) (by simp)⟩
   ·go_wp2_with fail;refine(jg.o _).mono ?_;rintro e w1 ⟨rfl,rfl⟩;go_wp2_with fail;have HB1:=bx (aQ.o.bel (n:=w.heap.size) (W0:=w) (by simp));refine(nJ.o _ HB1.o).mono ?_;rintro e w2 ⟨⟨vl,rfl,hvl,hfl⟩,hb2⟩;have HS2:=bx (aQ.o.Gl (b:=O3) (y:=(vl,la)) hb2 ⟨hvl,λg hg=>(hfl g hg).2⟩ (λg hg=>(hfl g hg).1));obtain⟨aa,ac,rfl⟩:=FD hvl;have aC:=bx (HS2.o.bM 182 #[.bool false, .slice aa la.length ac]);clear hb2 hvl hfl;go_wp2_with fail;generalize w2.heap.size=X at aC ⊢;generalize w2.alloc (.cells #[.bool false, .slice aa la.length ac] 182)=w3 at aC ⊢;refine(bD.o _).mono ?_;rintro e w4 ⟨rfl,rfl⟩;go_wp2_with fail;have HB3:=bx (aC.o.bel (n:=w.heap.size) (W0:=w) (by simp));refine(HPB.o _ HB3.o).mono ?_;rintro e w5 ⟨⟨vr,rfl,sU,DY⟩,hb5⟩;have bU:=bx (aC.o.Gl (b:=O3) (y:=(vr,lb)) hb5 ⟨sU,λg hg=>(DY g hg).2⟩ (λg hg=>(DY g hg).1));obtain⟨ba,bc,rfl⟩:=FD sU;have aW:=bx (bU.o.bM 182 #[.bool false, .slice ba lb.length bc]);clear hb5 sU DY;go_wp2_with fail;generalize w5.heap.size=Y at aW ⊢;generalize w5.alloc (.cells #[.bool false, .slice ba lb.length bc] 182)=w6 at aW ⊢;refine fP 19 (λW=>W.cell? ⟨X,0,none⟩=some (.bool false)/\W.cell? ⟨X,1,none⟩=some (.slice aa la.length ac)/\W.cell? ⟨Y,0,none⟩=some (.bool false)/\W.cell? ⟨Y,1,none⟩=some (.slice ba lb.length bc)) (by kernel_rfl) ?_;have dX:=bx aW.o.drew;generalize w6.drew=w7 at dX ⊢;have hy:=dX.o.blk 0 rfl;have y0:w7.cell? ⟨Y,0,none⟩=some (.bool false):=(hy.cell 0).trans rfl;have y1:w7.cell? ⟨Y,1,none⟩=some (.slice ba lb.length bc):=(hy.cell 1).trans rfl;have hx:=dX.o.blk 2 rfl;have x0:w7.cell? ⟨X,0,none⟩=some (.bool false):=(hx.cell 0).trans rfl;have x1:w7.cell? ⟨X,1,none⟩=some (.slice aa la.length ac):=(hx.cell 1).trans rfl;have xl:=hx.lt;have yl:=hy.lt;have hr:=dX.o.blk 4 rfl;have r0:w7.cell? ⟨w.heap.size,0,none⟩=some (.bool false):=(hr.cell 0).trans rfl;have r1:w7.cell? ⟨w.heap.size,1,none⟩=some (.slice none 0 0):=(hr.cell 1).trans rfl;have r2:w7.cell? ⟨w.heap.size,2,none⟩=some (.bool false):=(hr.cell 2).trans rfl;have r3:w7.cell? ⟨w.heap.size,3,none⟩=some (.slice none 0 0):=(hr.cell 3).trans rfl;have r4:w7.cell? ⟨w.heap.size,4,none⟩=some (.bool false):=(hr.cell 4).trans rfl;have f0:=hr.frozen 0;have f1:=hr.frozen 1;have f2:=hr.frozen 2;have f3:=hr.frozen 3;have f4:=hr.frozen 4;have rl:=hr.lt;clear hx hy hr;have aA:=bx (show (λW=>W.cell? ⟨X,0,none⟩=some (.bool false)/\W.cell? ⟨X,1,none⟩=some (.slice aa la.length ac)/\W.cell? ⟨Y,0,none⟩=some (.bool false)/\W.cell? ⟨Y,1,none⟩=some (.slice ba lb.length bc)) w7 from⟨x0,x1,y0,y1⟩);clear x0 x1 y0 y1;refine kS 0 ?_ rfl aA.o ?_ ?_;rotate_left
    ·rintro w ⟨q1,q2,q3,q4⟩;go_simp;try with_reducible rfl
    refine kS 1 ?_ rfl aA.o ?_ ?_;rotate_left
    ·rintro w ⟨q1,q2,q3,q4⟩;go_simp;try with_reducible rfl
    refine kS 2 ?_ rfl aA.o ?_ ?_;rotate_left
    ·rintro w ⟨q1,q2,q3,q4⟩;go_simp;try with_reducible rfl
    refine kS 3 ?_ rfl aA.o ?_ ?_;rotate_left
    ·rintro w ⟨q1,q2,q3,q4⟩;go_simp;try with_reducible rfl
    refine kS 4 ?_ rfl aA.o ?_ ?_;rotate_left
    ·rintro w ⟨q1,q2,q3,q4⟩;go_simp;try with_reducible rfl
    refine kS 5 ?_ rfl aA.o ?_ ?_;rotate_left
    ·rintro w ⟨q1,q2,q3,q4⟩;go_simp;try with_reducible rfl
    refine kS 6 ?_ rfl aA.o ?_ ?_;rotate_left
    ·rintro w ⟨q1,q2,q3,q4⟩;go_simp;try with_reducible rfl
    refine kS 7 ?_ rfl aA.o ?_ ?_;rotate_left
    ·rintro w ⟨q1,q2,q3,q4⟩;go_simp;try with_reducible rfl
    refine kS 8 ?_ rfl aA.o ?_ ?_;rotate_left
    ·rintro w ⟨q1,q2,q3,q4⟩;go_simp;try with_reducible rfl
    refine kS 9 ?_ rfl aA.o ?_ ?_;rotate_left
    ·rintro w ⟨q1,q2,q3,q4⟩;go_simp;try with_reducible rfl
    refine kS 10 ?_ rfl aA.o ?_ ?_;rotate_left
    ·rintro w ⟨q1,q2,q3,q4⟩;go_simp;try with_reducible rfl
    refine kS 11 ?_ rfl aA.o ?_ ?_;rotate_left
    ·rintro w ⟨q1,q2,q3,q4⟩;go_simp;try with_reducible rfl
    refine kS 12 ?_ rfl aA.o ?_ ?_;rotate_left
    ·rintro w ⟨q1,q2,q3,q4⟩;go_simp;try with_reducible rfl
    refine kS 13 ?_ rfl aA.o ?_ ?_;rotate_left
    ·rintro w ⟨q1,q2,q3,q4⟩;go_simp;try with_reducible rfl
    refine kS 14 ?_ rfl aA.o ?_ ?_;rotate_left
    ·rintro w ⟨q1,q2,q3,q4⟩;go_simp;try with_reducible rfl
    refine kS 15 ?_ rfl aA.o ?_ ?_;rotate_left
    ·rintro w ⟨q1,q2,q3,q4⟩;go_simp;try with_reducible rfl
    refine kS 16 ?_ rfl aA.o ?_ ?_;rotate_left
    ·rintro w ⟨q1,q2,q3,q4⟩;go_simp;try with_reducible rfl
    refine kS 17 ?_ rfl aA.o ?_ ?_;rotate_left
    ·rintro w ⟨q1,q2,q3,q4⟩;go_simp;try with_reducible rfl
    refine kP 18 rfl λKK ah=>?_
    go_simp;have h8:=bx (((((dX.o.set 4 rfl 0 (.bool false)).set 4 rfl 1 (.slice aa la.length ac)).set 4 rfl 2 (.bool false)).set 4 rfl 3 (.slice ba lb.length bc)).set 4 rfl 4 (.bool (U.ak d==47)));refine ah.out _ _ (λ_=>⟨((h8.o.blk 2 rfl).cell 0).trans rfl,((h8.o.blk 2 rfl).cell 1).trans rfl,((h8.o.blk 0 rfl).cell 0).trans rfl,((h8.o.blk 0 rfl).cell 1).trans rfl⟩) ?_;clear ah KK;refine kP 19 rfl λKK ah=>?_
    go_simp;refine ah.out _ _ (λh=>by cases h) ?_;clear ah KK;refine kD ?_ _;go_wp2_with fail;have hl:=h8.o.lF 3 rfl (.slice aa la.length ac,la) (by simp);have hr:=h8.o.lF 1 rfl (.slice ba lb.length bc,lb) (by simp);exact bodyPost_ret (v:=.tuple #[.agg #[.bool false, .slice aa la.length ac, .bool false, .slice ba lb.length bc, .bool (U.ak d==47)], .bool true]) (zO Tryz.results115 _ _ w.heap.size 184 #[.bool false, .slice aa la.length ac, .bool false, .slice ba lb.length bc, .bool (U.ak d==47)] (0,0) _ rfl (h8.o.blk 4 rfl) Tryz.underlying184 rfl Xr) rfl
     ⟨⟨_,_,by rw [uI.o],hl.1,hr.1⟩,h8.o.bel (n:=w.heap.size) (W0:=w) (by simp)⟩
theorem ag1 (s:List UInt8) (nv:Value) (names:List (List UInt8)) (r:D.Rule) (w:World) (hn:dI w nv names) (hnb:F.vF names=true) (hnl:F.split 10 s=[s]) (hne:F.trim ((F.split 35 s).headD [])≠[]) (hok:F.H9 names (F.trim ((F.split 35 s).headD []))=some r) (hz:s.length<=20000) :
  Calls Tryz.prog 65 #[.string (bs s),nv] w λe w'=>(∃ v,e = .returned (.tuple #[v, .int .i64 0, .int .i64 0])/\fA w' v [r])/\Below w.heap.size w w':=by
 have yB:=bx (OQ nv names w hn hnb);have pJ:=bx (λW=>show Calls Tryz.prog 113 #[.string (bs s), .int .u8 10] W λe w'=>(∃ v,e = .returned v/\dI w' v (F.split 10 s))/\Below W.heap.size W w' from LP s 10 W (by omega));rw [hnl] at pJ;obtain⟨h,t,Yz,aoi⟩:=Rh 35 s;have HS2:=bx (λW=>show Calls Tryz.prog 113 #[.string (bs s), .int .u8 35] W λe w'=>(∃ v,e = .returned v/\dI w' v (F.split 35 s))/\Below W.heap.size W w' from LP s 35 W (by omega));rw [Yz] at HS2 hne hok;rw [List.headD_cons] at hne hok;have fV:=bx (λW=>Gz h W (by omega));have hTl:(F.trim h).length<=20000:=by have:=F.Jk h;omega
 generalize F.trim h=T at fV hne hok hTl;have DF:=bx (λW (hb:Below w.heap.size w W)=>aeD T nv names r W (hn.below hb) hnb hok hTl);have hemp:=Ap hne;clear hn hnb hnl hne hok Yz hTl
 go_enter Tryz.func65,Tryz.ntmps65
 go_wp2_with fail;refine yB.o.mono ?_;rintro e w1 ⟨rfl,nd,rfl⟩;have HB1:=bx (jW w nd);generalize w.drewN nd=w1 at HB1 ⊢;go_wp2_with fail;refine(pJ.o _).mono ?_;rintro e w2 ⟨⟨v,rfl,hv⟩,hb2⟩;have HB2:=bx (bt HB1.o hb2);obtain⟨g,off,cap,rfl,q2,q3,q4,q5⟩:=hv.get (by simp);have hc:=q5 0 s rfl;rw [Nat.add_zero] at hc;unfold maxLen at q3;rw [List.length_singleton] at q2 ⊢;have HG:=bx q4;clear hb2 hv q5;go_wp2_with fail;refine wp_loop_rounds 2 ?_;rw [rounds_succ];go_wp2_with fail;refine(HS2.o _).mono ?_;rintro e w3 ⟨⟨v,rfl,hv⟩,hb3⟩;have HB3:=bx (bt HB2.o hb3);obtain⟨g',off',cap',rfl,p2,p3,p4,p5⟩:=hv.get (by simp);have hc':=p5 0 h rfl;rw [Nat.add_zero] at hc';rw [List.length_cons] at p2 ⊢;unfold maxLen at p3;obtain⟨n',hn'⟩:∃ n',t.length=n':=⟨_,rfl⟩
 rw [hn'] at p2 ⊢;clear hb3 hv p5 hc q4 hn';go_wp2_with fail;refine(fV.o _).mono ?_;rintro e w4 ⟨rfl,rfl⟩;clear hc' p4;go_wp2_with fail;refine(DF.o _ HB3.o).mono ?_;rintro e w5 ⟨⟨vl,vr,rfl,hvl,sU⟩,hb5⟩;have aK:=bx (bt HB3.o hb5);obtain⟨aa,ac,rfl⟩:=FD hvl;obtain⟨ba,bc,rfl⟩:=FD sU;have wO:=bx hvl;have Ov:=bx sU;have aW:=bx (((Sep.start w5).iW w5.heap.size 5 184).bM 184 #[.bool r.1.1, .slice aa r.1.2.length ac, .bool r.2.1.1, .slice ba r.2.1.2.length bc, .bool r.2.2]);have aU:=bx (show (w5.alloc (.cells #[.bool r.1.1, .slice aa r.1.2.length ac, .bool r.2.1.1, .slice ba r.2.1.2.length bc, .bool r.2.2] 184)).heap.size=w5.heap.size+1 by simp);have hwz:w5.heap.size<=(w5.alloc (.cells #[.bool r.1.1, .slice aa r.1.2.length ac, .bool r.2.1.1, .slice ba r.2.1.2.length bc, .bool r.2.2] 184)).heap.size:=by simp
 clear hb5 hvl sU;go_wp2_with (at_builtin;refine AQ (cs:=vI (r, .slice aa r.1.2.length ac, .slice ba r.2.1.2.length bc)) rfl _ _ 26 rfl Zy (by decide) aW.o 1 rfl rfl (by rw [aU.o];rfl) rfl (by intro u hu;simp only [vI,List.mem_cons,List.not_mem_nil,or_false] at hu;rcases hu with rfl | rfl | rfl | rfl | rfl <;> rfl) (by omega) (by omega) hwz ?_;rintro v' w6 hS7 ⟨go',gc',rfl,-,-⟩)
 have hbe:=hS7.bel (n:=w5.heap.size) (W0:=w5) (by simp);have jS:=bx (show fA w6 (.slice (some ⟨go',0,none⟩) (0+1) gc') [r] from abm (L:=[(r, .slice aa r.1.2.length ac, .slice ba r.2.1.2.length bc)]) (by have h9:=hS7.row 1 rfl;simpa using h9) rfl (λy hy=>by rw [List.mem_singleton.1 hy];exact⟨wO.o.below hbe,Ov.o.below hbe⟩));have dO:=bx (bt aK.o hbe);clear hS7 hbe;go_wp2_with fail;rw [rounds_succ];go_wp2_with fail
 go_ret3
 exact⟨⟨_,rfl,jS.o⟩,dO.o⟩
end
end Go.Proofs.YtdenoeakcflnmaaGreatDoor
