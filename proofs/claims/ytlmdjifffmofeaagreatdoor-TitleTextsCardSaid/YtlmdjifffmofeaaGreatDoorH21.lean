/- Texts of this claim. -/
import Derived.Test.YtlmdjifffmofeaaGreatDoorH20

set_option maxRecDepth 100000
set_option maxHeartbeats 8000000
namespace Go.Proofs.YtlmdjifffmofeaaGreatDoor
section
open Go.RowKit Go.ChangeShapes Go.WideShapes Go.Deep
section
variable {H:Type} {enc:TypeId×Value->H} {W:World}
theorem aeG {fuel:Nat} {cs:List Value} {x:DataW H×List MemPlace} (h:DataW.trod enc Tryz.prog W 0 (λ_=>true) true fuel 130 cs=some x) :
  ∃ (y:jV),cs=eG (pr y)/\ay W y.2 y.1.2:=by
 obtain⟨y0,y1,n,rfl,hl,h0,h1⟩:=trod_struct2 Tryz.underlying130 h;have hl2:cs.length=2:=hl.trans (by kernel_rfl)
 match cs,hl2 with
 | [c0,c1],_ =>
  obtain⟨k,e0,_⟩:=DataW.trod_int Tryz.underlying3 h0;obtain⟨l,Gx⟩:=G6 (v:=c1) Tryz.underlying23 Tryz.underlying3 (by kernel_rfl) h1;have e0':[c0]=[.int .i64 k]:=e0;simp only [List.cons.injEq,and_true] at e0';subst e0';exact⟨((k,l),c1),rfl,Gx⟩
theorem lK.open {fuel:Nat} {v:Value} {x:DataW H×List MemPlace} (h:DataW.trod enc Tryz.prog W 0 (λ_=>true) true fuel 22 [v]=some x):∃ l,lK W v l:=by
 have ce:Tryz.prog.cellsOf 130=2:=by kernel_rfl
 rcases open_slice Tryz.underlying22 h with⟨h1,_⟩ | ⟨a,len,cap,m,n,Dd,Pl,h1,_,h2,h3,h4,_,h5⟩
 ·simp only [List.cons.injEq,and_true] at h1;exact⟨[],[],rfl, .inl ⟨h1,rfl⟩,λy hy=>absurd hy List.not_mem_nil⟩
 ·simp only [List.cons.injEq,and_true] at h1;subst h1;simp only [if_true] at h4;subst h4;rw [ce] at h5;have key:∀ i,i<m->∃ q:jV,(∀ j u,(eG (pr q))[j]?=some u->W.cell? ((a.add (i*2)).add j)=some u)/\ay W q.2 q.1.2:=by
   intro i hi;obtain⟨cs',h6,h7⟩:=h5 i hi;obtain⟨_,hlen,hcell⟩:=World.cells?_some h6;obtain⟨y,rfl,h8⟩:=aeG h7;refine⟨y,λj u hu=>?_,h8⟩;have hj:j<2:=(List.getElem?_eq_some_iff.1 hu).1;rw [hcell j hj];exact hu
  obtain⟨q,hq⟩:=choose_lt key;obtain⟨b,off,sp⟩:=a;have hlen:((((List.range len).map q).map pr).map eG).length=len:=by simp
  refine⟨_,(List.range len).map q,rfl, .inr ⟨b,off,sp,m,by rw [hlen],by rw [hlen];exact h2,h3,λhn=>?_⟩,λy hy=>?_⟩
  ·have h0:0<len:=by
    rcases Nat.eq_zero_or_pos len with h | h
    ·subst h;exact absurd rfl hn
    ·exact h
   have hc0:=(hq 0 (by omega)).1 0 _ rfl;have hsp:sp=none:=World.cell?_spot (a:=((⟨b,off,sp⟩:Addr).add (0*2)).add 0) hc0;subst hsp;refine⟨rfl,World.block_lt_of_cell? _ _ hc0,λi c hc j u hu=>?_⟩;rw [List.getElem?_map,List.getElem?_map,List.getElem?_map] at hc;obtain⟨p,hp,rfl⟩:=Option.map_eq_some_iff.1 hc;obtain⟨y,hy,rfl⟩:=Option.map_eq_some_iff.1 hp;obtain⟨k,hk,rfl⟩:=Option.map_eq_some_iff.1 hy;obtain⟨hi,rfl⟩:=List.getElem?_eq_some_iff.1 hk;simp only [List.length_range] at hi;simp only [List.getElem_range] at hu;have:=(hq i (by omega)).1 j u hu;rw [addr_add b off,addr_add b] at this;exact this
  ·obtain⟨i,hi,rfl⟩:=List.mem_map.1 hy;exact(hq i (by have:=List.mem_range.1 hi;omega)).2
theorem MF {fuel:Nat} {cs:List Value} {x:DataW H×List MemPlace} (h:DataW.trod enc Tryz.prog W 0 (λ_=>true) true fuel 26 cs=some x) :
  ∃ (a b:Value) (t:F.Trie),cs=[a,b]/\ay W a t.1/\iq W b t.2:=by
 obtain⟨y0,y1,n,rfl,hl,h0,h1⟩:=trod_struct2 Tryz.underlying26 h;have hl2:cs.length=2:=hl.trans (by kernel_rfl)
 match cs,hl2 with
 | [c0,c1],_ =>
  obtain⟨l0,hl0⟩:=G6 (v:=c0) Tryz.underlying23 Tryz.underlying3 (by kernel_rfl) h0;obtain⟨l1,hl1⟩:=iq.open (v:=c1) h1;exact⟨c0,c1,(l0,l1),rfl,hl0,hl1⟩
theorem PV {α:Type} {l:List α} (h:l.length=6):∃ a b c d e f,l=[a,b,c,d,e,f]:=by
 match l,h with
 | [a,b,c,d,e,f],_=>exact⟨a,b,c,d,e,f,rfl⟩
theorem DZ {base:Nat} {v:Value} {d:DataW H} {p:List MemPlace} (hv:Value.okWide Tryz.prog W .any base 28 v) (h:DataW.Trod enc Tryz.prog W 0 (λ_=>true) true 28 v d p) :
  ∃ c:T.Cs,bC W v c:=by
 obtain⟨cs,rfl,hsz⟩:=okWide_struct Tryz.underlying28 hv;obtain⟨fuel,hf⟩:=h;obtain⟨y0,y1,y2,y3,n,hx,-,h0,h1,h2,h3⟩:=Go.Joins.trod_struct4 Tryz.underlying28 hf;obtain⟨cs⟩:=cs;obtain⟨c0,c1,c2,c3,c4,c5,rfl⟩:=PV (l:=cs) (hsz.trans (by kernel_rfl));obtain⟨l0,hl0⟩:=lK.open (v:=c0) h0;obtain⟨l1,hl1⟩:=lK.open (v:=c1) h1;obtain⟨a2,b2,t2,e2,k1,k2⟩:=MF (cs:=[c2,c3]) h2;obtain⟨a3,b3,t3,e3,k3,k4⟩:=MF (cs:=[c4,c5]) h3;simp only [List.cons.injEq,and_true] at e2 e3;obtain⟨rfl,rfl⟩:=e2;obtain⟨rfl,rfl⟩:=e3;exact⟨⟨l0,l1,t2,t3⟩,_,_,_,_,_,_,rfl,hl0,hl1,k1,k2,k3,k4⟩
end
end
section
open Go.RowKit Go.Shelf
attribute [local go_sem] Oper.semAt_some
def FK (r:List Int):List Int:=r.take 260
def jm (M:F.Trie):F.Trie:=(M.1.take 4360,(M.2.take 30).map FK)
theorem akq:(Tryz.prog.info? 26).map (·.size)=some 2:=by kernel_rfl
theorem Ny (na fa:Value) (M:F.Trie) (w0 w:World) (hia:ay w0 fa M.1) (hra:iq w0 na M.2) (hb0:Below w0.heap.size w0 w) :
  Calls Tryz.prog 34 #[.agg #[fa,na]] w λe w'=>Below w.heap.size w w'/\∃ fv nv vs,e = .returned (.agg #[fv,nv])/\ay w0 fv (jm M).1/\pF w0 vs (jm M).2/\w'.ownsRow w.heap.size 23 1 nv vs.length vs:=by
 have qh:=bx hra;have HB0:=bx hb0;obtain⟨aa,ca,rfl⟩:=hra.slice;obtain⟨fo,fc,rfl⟩:=hia.slice;obtain⟨hf1,hf2⟩:=vO hia;have gZ:=bx (vT hia 4360);obtain⟨nf,hnf⟩:∃ nf,(M.1.take 4360).length=nf:=⟨_,rfl⟩
 have zX:=bx (show nf=min 4360 M.1.length by rw [<- hnf,List.length_take]);rw [hnf] at gZ;have SI:=bx hnf;obtain⟨m,hm⟩:∃ m,m=min M.2.length 30:=⟨_,rfl⟩
 have HM:=bx hm;have hm1:m<=M.2.length:=by omega
 have hm2:m<=30:=by omega
 obtain⟨w3,hw3⟩:∃ w3,w3=((w.alloc (.cells #[.slice fo M.1.length fc, .slice aa M.2.length ca] 26)).alloc (.cells #[.slice none 0 0, .slice none 0 0] 26)).alloc (.cells #[.slice fo nf fc, .slice none 0 0] 26):=⟨_,rfl⟩
 have aK:=bx (show ∃ vs,pF w0 vs ((M.2.take 0).map FK)/\Sep [Pc.row w.heap.size 23 1 (.slice none 0 0) 0 vs,Pc.blk (w.heap.size+1+1) 26 #[.slice fo nf fc, .slice none 0 0],Pc.blk (w.heap.size+1) 26 #[.slice none 0 0, .slice none 0 0],Pc.blk w.heap.size 26 #[.slice fo M.1.length fc, .slice aa M.2.length ca],Pc.old w.heap.size w] w3 by
  have h1:=(((Sep.start w).dh 26 #[.slice fo M.1.length fc, .slice aa M.2.length ca]).dh 26 #[.slice none 0 0, .slice none 0 0]).dh 26 #[.slice fo nf fc, .slice none 0 0];refine⟨[],⟨rfl,λi r h=>by simp at h⟩,?_⟩;rw [hw3];have h2:=h1.fP w.heap.size 1 23
  simpa using h2)
 have HW3:=bx hw3;clear hb0 hra hia hm hnf hw3
 go_enter Tryz.func34,Tryz.ntmps34
 have hmn:(min (M.1.length:Int) 4360).toNat=nf:=by have:=zX.o;omega
 go_upto_region 2 with(fail)
 rw [<- HW3.o];clear hmn;go_wp2_with fail
 go_loopw [4] (λi wr=>∃ k:Nat,k<=m/\i = .int .i64 k/\Box (∃ nv vs,pF w0 vs ((M.2.take k).map FK)/\Sep [Pc.row w.heap.size 23 1 nv k vs,Pc.blk (w.heap.size+1+1) 26 #[.slice fo nf fc,nv],Pc.blk (w.heap.size+1) 26 #[.slice none 0 0, .slice none 0 0],Pc.blk w.heap.size 26 #[.slice fo M.1.length fc, .slice aa M.2.length ca],Pc.old w.heap.size w] wr)) (λi _=>m-(intOf i).toNat)
 case atStart=>obtain⟨vs,h1,h2⟩:=aK.o;exact⟨0,by omega,rfl,⟨_,vs,h1,h2⟩⟩
 case round =>
  obtain⟨k,hk,rfl,hbox⟩:=hrel;obtain⟨nv,vs,hvs,hsep⟩:=hbox.o;have kJ:=bx (HB0.o.trans ((hsep.bel (n:=w.heap.size) (W0:=w) (by simp)).mono HB0.o.size));have kN:=bx hvs;have mX:=bx hsep;have aV:=bx (show Below w.heap.size w wr from hsep.bel (by simp));obtain⟨no,nc,rfl,hn1,hn2⟩:=dN (hsep.row 0 rfl);have jT:=bx (hsep.blk 1 rfl);have HG2:=bx (hsep.blk 2 rfl);have mW:=bx (hsep.blk 3 rfl);have g1:wr.cell? ⟨w.heap.size,1,none⟩=some (.slice aa M.2.length ca):=(mW.o.cell 1).trans rfl;have l1:=mW.o.lt;clear hvs hsep hbox
  by_cases hlt:k<m
  ·obtain⟨x,hx⟩:∃ x,M.2[k]?=some x:=⟨_,List.getElem?_eq_getElem (by omega)⟩
   obtain⟨pa,oa,ca',ha0,ha1,ha2,qE,jA⟩:=qh.o.get (by intro e;rw [e] at hx;simp at hx);obtain⟨rfl,rfl⟩:aa=some ⟨pa,oa,none⟩/\ca=ca':=by injection ha0 with h1 h2 h3;exact⟨h1,h3⟩
   obtain⟨xv,hxc,hxi⟩:=jA k x hx;obtain⟨xo,xc,rfl⟩:=hxi.slice;obtain⟨hx1,hx2⟩:=vO hxi;have yP:=bx (vT hxi 260);obtain⟨q,hq⟩:∃ q,(x.take 260).length=q:=⟨_,rfl⟩
   have HQ:=bx (show q=min 260 x.length by rw [<- hq,List.length_take]);rw [hq] at yP;have gI:=bx (DV M.2 k x hx);have dI:=bx (show ∀ W,Below wr.heap.size wr W->W.cell? ⟨w.heap.size+1+1,1,none⟩=some (.slice no k nc)/\W.cell? ⟨w.heap.size,1,none⟩=some (.slice (some ⟨pa,oa,none⟩) M.2.length ca)/\W.cell? ⟨pa,oa+k,none⟩=some (.slice xo x.length xc) from λW h =>
    ⟨((jT.o.below h jT.o.lt).cell 1).trans rfl,((mW.o.below h mW.o.lt).cell 1).trans rfl,((bt kJ.o h).cell (p:=⟨pa,oa+k,none⟩) qE).trans hxc⟩)
   have aF:=bx (show Below wr.heap.size wr wr.drew from⟨rfl,rfl,rfl,Nat.le_refl _,λ_ _=>rfl⟩);have cZ:=bx mX.o.drew;have AY:w.heap.size<=wr.drew.heap.size:=aV.o.size;have ao1:k<30:=by omega
   have hkl:k<M.2.length:=by omega
   have hkc:k<ca:=by omega
   have l3:=jT.o.lt;unfold maxLen at ha2;clear ha0 jA hx hxc hxi hq;go_wp2_with fail;have P7:(min (x.length:Int) 260).toNat=q:=by have:=HQ.o;omega
   have QI:(min (x.length:Int) 260)<=(xc:Int):=by omega
   have PK:(0:Int)<=min (x.length:Int) 260:=by omega
   refine dO 16 (λW=>W.cell? ⟨w.heap.size+1+1,1,none⟩=some (.slice no k nc)/\W.cell? ⟨w.heap.size,1,none⟩=some (.slice (some ⟨pa,oa,none⟩) M.2.length ca)/\W.cell? ⟨pa,oa+k,none⟩=some (.slice xo x.length xc)) (by kernel_rfl) ?_;have aC:=bx (dI.o _ aF.o);have fG:=bx (λo=>dI.o _ (aF.o.alloc aF.o.size o));generalize wr.drew=WR at *;refine kS 0 ?_ rfl aC.o ?_ ?_;rotate_left
   ·rintro w ⟨q1,q2,q3⟩;go_simp;try with_reducible rfl
   refine kS 1 ?_ rfl aC.o ?_ ?_;rotate_left
   ·rintro w ⟨q1,q2,q3⟩;go_simp;try with_reducible rfl
   refine kS 2 ?_ rfl aC.o ?_ ?_;rotate_left
   ·rintro w ⟨q1,q2,q3⟩;go_simp;try with_reducible rfl
   refine kS 3 ?_ rfl aC.o ?_ ?_;rotate_left
   ·rintro w ⟨q1,q2,q3⟩;go_simp;try with_reducible rfl
   refine kS 4 ?_ rfl aC.o ?_ ?_;rotate_left
   ·rintro w ⟨q1,q2,q3⟩;go_simp;try with_reducible rfl
   refine kS 5 ?_ rfl aC.o ?_ ?_;rotate_left
   ·rintro w ⟨q1,q2,q3⟩;go_simp;try with_reducible rfl
   refine kS 6 ?_ rfl aC.o ?_ ?_;rotate_left
   ·rintro w ⟨q1,q2,q3⟩;go_simp;try with_reducible rfl
   refine kS 7 ?_ rfl aC.o ?_ ?_;rotate_left
   ·rintro w ⟨q1,q2,q3⟩;go_simp;try with_reducible rfl
   refine kS 8 ?_ rfl aC.o ?_ ?_;rotate_left
   ·rintro w ⟨q1,q2,q3⟩;go_simp;try with_reducible rfl
   refine kS 9 ?_ rfl aC.o ?_ ?_;rotate_left
   ·rintro w ⟨q1,q2,q3⟩;go_simp;try with_reducible rfl
   refine kS 10 ?_ rfl aC.o ?_ ?_;rotate_left
   ·rintro w ⟨q1,q2,q3⟩;go_simp;try with_reducible rfl
   refine kS 11 ?_ rfl aC.o ?_ ?_;rotate_left
   ·rintro w ⟨q1,q2,q3⟩;go_simp;try with_reducible rfl
   refine kS 12 ?_ rfl aC.o ?_ ?_;rotate_left
   ·rintro w ⟨q1,q2,q3⟩;go_simp;try with_reducible rfl
   refine kS 13 ?_ rfl aC.o ?_ ?_;rotate_left
   ·rintro w ⟨q1,q2,q3⟩;go_simp;try with_reducible rfl
   refine kS 14 ?_ rfl aC.o ?_ ?_;rotate_left
   ·rintro w ⟨q1,q2,q3⟩;go_simp;try with_reducible rfl
   refine kP 15 rfl λKK aj=>?_
   go_simp;refine aj.out _ _ (λ_=>fG.o _) ?_;clear aj KK;refine kP 16 rfl λKK aj=>?_
   refine BZ rfl _ _ 24 rfl Hr cZ.o 0 rfl (by kernel_rfl) (by kernel_rfl) rfl (by omega) (by omega) AY ?_;rintro v' w9 jo ⟨g9,c9,rfl,VN,Uh⟩;refine aj.out _ _ (λh=>by cases h) ?_;clear aj KK;have dM:=bx (jo.blk 1 rfl);have z0:=(dM.o.cell 1).trans (show _=some (Value.slice no k nc) from rfl);have z1:=dM.o.frozen 1;have z2:=dM.o.lt;have FQ:=bx (jo.set 1 rfl 1 (.slice (some ⟨g9,0,none⟩) (k+1) c9));clear jo;refine kP 17 rfl λKK aj=>?_
   go_simp;refine aj.out _ _ (λh=>by cases h) ?_;clear aj KK;refine kP 18 rfl λKK aj=>?_
   go_simp;refine aj.out _ _ (λh=>by cases h) ?_;clear aj KK;refine kD ?_ _;have HN:=bx (show ∃ nv vs,pF w0 vs ((M.2.take (k+1)).map FK)/\Sep [Pc.row w.heap.size 23 1 nv (k+1) vs,Pc.blk (w.heap.size+1+1) 26 #[.slice fo nf fc,nv],Pc.blk (w.heap.size+1) 26 #[.slice none 0 0, .slice none 0 0],Pc.blk w.heap.size 26 #[.slice fo M.1.length fc, .slice (some ⟨pa,oa,none⟩) M.2.length ca],Pc.old w.heap.size w] _ by
    refine⟨_,_,?_,FQ.o⟩;rw [gI.o,List.map_append];exact kN.o.snoc yP.o)
   go_wp2_with fail
   go_roundw
   case rel=>exact⟨k+1,hlt,by go_num,HN⟩
   case measure=>simp [intOf];omega
  ·have hkm:k=m:=by omega
   have uG:=bx hkm;have hd:M.2.length<=k\/(k<M.2.length/\30<=k):=by have:=HM.o;omega
   have z0:wr.cell? ⟨w.heap.size+1+1,0,none⟩=some (.slice fo nf fc):=(jT.o.cell 0).trans rfl;have z1:wr.cell? ⟨w.heap.size+1+1,1,none⟩=some (.slice no k nc):=(jT.o.cell 1).trans rfl;have z2:=jT.o.lt;have y0:=(HG2.o.cell 0).trans (show _=some (Value.slice none 0 0) from rfl);have y1:=(HG2.o.cell 1).trans (show _=some (Value.slice none 0 0) from rfl);have f0:=HG2.o.frozen 0;have f1:=HG2.o.frozen 1;have y2:=HG2.o.lt;have fE:=bx ((mX.o.set 2 rfl 0 (.slice fo nf fc)).set 2 rfl 1 (.slice no k nc));have yC:=bx (show (M.2.take k).map FK=(jm M).2 by
    unfold jm;simp only;rw [uG.o,HM.o]
    rcases Nat.le_total M.2.length 30 with h | h
    ·rw [Nat.min_eq_left h,List.take_length,List.take_of_length_le h]
    ·rw [Nat.min_eq_right h])
   have ou:=bx (show k=((M.2.take k).map FK).length by rw [List.length_map,List.length_take];have:=HM.o;omega);clear hkm
   rcases hd with hd | ⟨hd,hd2⟩
   all_goals
    go_wp2_with fail;have dY:=fE.o.bel (n:=w.heap.size) (W0:=w) (by simp);refine bodyPost_ret (v:=.agg #[.slice fo nf fc, .slice no k nc]) (results_cell_row Tryz.results34 _ _ (w.heap.size+1) 26 _ (0,0) _ rfl (fE.o.blk 2 rfl) Tryz.underlying26 rfl akq) rfl ⟨dY,_,_,vs,rfl,gZ.o,?_,?_⟩
    ·rw [<- yC.o];exact kN.o
    ·rw [kN.o.1,<- ou.o];exact fE.o.row 0 rfl
def II (x:F.Map):F.Map:=(x.1,x.2.take 5)
def zS (l:List F.Map):List F.Map:=(l.take 40).map II
def Hw (W:World) (L:List jV):Prop:=∀ y∈L,ay W y.2 y.1.2
theorem agR (L:List jV) (y:jV):(((L++[y]).map pr).map eG).flatten=((L.map pr).map eG).flatten++eG (pr y):=by
 rw [List.map_append,List.map_append,List.flatten_append];simp
theorem afy {W:World} {base n:Nat} {v:Value} {L:List jV} (h:W.ownsRow base 130 2 v n ((L.map pr).map eG).flatten) (hn:n=L.length) (hV:Hw W L):lK W v (L.map (·.1)) :=
 ⟨L,rfl,lY.dL h (by rw [hn,List.length_map,List.length_map]) (λc hc=>by obtain⟨y,-,rfl⟩:=List.mem_map.1 hc;rfl),hV⟩
theorem adn (v:Value) (l:List F.Map) (w0 w:World) (hv:lK w0 v l) (hb0:Below w0.heap.size w0 w) :
  Calls Tryz.prog 33 #[v] w λe w'=>Below w.heap.size w w'/\∃ v',e = .returned v'/\∃ L:List jV,L.map (·.1)=zS l/\Hw w0 L/\w'.ownsRow w.heap.size 130 2 v' L.length ((L.map pr).map eG).flatten:=by
 have HR:=bx hv;have HB0:=bx hb0;obtain⟨ao,cap,rfl,hcc,hcm⟩:=hv.slice;obtain⟨m,hm⟩:∃ m,m=min l.length 40:=⟨_,rfl⟩
 have HM:=bx hm;have hm1:m<=l.length:=by omega
 have hm2:m<=40:=by omega
 have aU:=bx (show ∃ L:List jV,L.length=0/\L.map (·.1)=(l.take 0).map II/\Hw w0 L/\Sep [Pc.row w.heap.size 130 2 (.slice none 0 0) 0 ((L.map pr).map eG).flatten,Pc.old w.heap.size w] w from
  ⟨[],rfl,rfl,λy hy=>absurd hy List.not_mem_nil,(Sep.start w).fP _ _ _⟩)
 clear hv hm hb0
 go_enter Tryz.func33,Tryz.ntmps33
 go_wp2_with fail
 go_loopw [3,4] (λo i wr=>∃ k:Nat,k<=m/\i = .int .i64 k/\Box (∃ L:List jV,L.length=k/\L.map (·.1)=(l.take k).map II/\Hw w0 L/\Sep [Pc.row w.heap.size 130 2 o k ((L.map pr).map eG).flatten,Pc.old w.heap.size w] wr)) (λ_ i _=>m-(intOf i).toNat)
 case atStart=>exact⟨0,by omega,rfl,aU⟩
 case round =>
  obtain⟨k,hk,rfl,hbox⟩:=hrel;obtain⟨L,hL1,hL2,hL3,hsep⟩:=hbox.o;have aV:=bx (show Below w.heap.size w wr from hsep.bel (by simp));have kJ:=bx (bt HB0.o aV.o);have iQ:=bx hL1;have HL2:=bx hL2;have qF:=bx hL3;have mX:=bx hsep;obtain⟨oo,oc,rfl,ho1,ho2⟩:=dN (hsep.row 0 rfl);clear hbox hL1 hL2 hL3 hsep
  by_cases hlt:k<m
  ·obtain⟨x,hx⟩:∃ x,l[k]?=some x:=⟨_,List.getElem?_eq_getElem (by omega)⟩
   obtain⟨bg,off,cap2,hg1,hg2,hg3,hg4,hg5⟩:=HR.o.get (by rintro rfl;simp at hm1;omega);obtain⟨rfl,rfl⟩:ao=some ⟨bg,off,none⟩/\cap=cap2:=by injection hg1 with h1 h2 h3;exact⟨h1,h3⟩
   obtain⟨hc0,u,hc1,hu⟩:=hg5 k x hx;obtain⟨uo,uc,rfl⟩:=hu.slice;obtain⟨hu1,hu2⟩:=vO hu;have HUT:=bx (vT hu 5);obtain⟨q,hq⟩:∃ q,(x.2.take 5).length=q:=⟨_,rfl⟩
   have HQ:=bx (show q=min 5 x.2.length by rw [<- hq,List.length_take]);rw [hq] at HUT;have gI:=bx (DV l k x hx);have ada:k<40:=by omega
   have hkl:k<l.length:=by omega
   have hkc:k<cap:=by omega
   unfold maxLen at hg3;have dI:=bx (show ∀ W,Below wr.heap.size wr W->W.cell? ⟨bg,off+k*2,none⟩=some (.int .i64 x.1)/\W.cell? ⟨bg,off+k*2+1,none⟩=some (.slice uo x.2.length uc) from λW h =>
    ⟨((bt kJ.o h).cell (p:=⟨bg,off+k*2,none⟩) hg4).trans hc0,((bt kJ.o h).cell (p:=⟨bg,off+k*2+1,none⟩) hg4).trans hc1⟩)
   have aF:=bx (show Below wr.heap.size wr wr.drew from⟨rfl,rfl,rfl,Nat.le_refl _,λ_ _=>rfl⟩);have cZ:=bx mX.o.drew;have AY:w.heap.size<=wr.drew.heap.size:=aV.o.size;clear hg1 hg5 hc0 hc1 hx hg2 hu hq;go_wp2_with fail;have P7:(min (x.2.length:Int) 5).toNat=q:=by have:=HQ.o;omega
   have QI:(min (x.2.length:Int) 5)<=(uc:Int):=by omega
   have PK:(0:Int)<=min (x.2.length:Int) 5:=by omega
   refine dO 21 (λW=>W.cell? ⟨bg,off+k*2,none⟩=some (.int .i64 x.1)/\W.cell? ⟨bg,off+k*2+1,none⟩=some (.slice uo x.2.length uc)) (by kernel_rfl) ?_;have aC:=bx (dI.o _ aF.o);have fG:=bx (λo=>dI.o _ (aF.o.alloc aF.o.size o));generalize wr.drew=WR at *;refine kS 0 ?_ rfl aC.o ?_ ?_;rotate_left
   ·rintro w ⟨q1,q2⟩;go_simp;try with_reducible rfl
   refine kS 1 ?_ rfl aC.o ?_ ?_;rotate_left
   ·rintro w ⟨q1,q2⟩;go_simp;try with_reducible rfl
   refine kS 2 ?_ rfl aC.o ?_ ?_;rotate_left
   ·rintro w ⟨q1,q2⟩;go_simp;try with_reducible rfl
   refine kS 3 ?_ rfl aC.o ?_ ?_;rotate_left
   ·rintro w ⟨q1,q2⟩;go_simp;try with_reducible rfl
   refine kS 4 ?_ rfl aC.o ?_ ?_;rotate_left
   ·rintro w ⟨q1,q2⟩;go_simp;try with_reducible rfl
   refine kS 5 ?_ rfl aC.o ?_ ?_;rotate_left
   ·rintro w ⟨q1,q2⟩;go_simp;try with_reducible rfl
   refine kS 6 ?_ rfl aC.o ?_ ?_;rotate_left
   ·rintro w ⟨q1,q2⟩;go_simp;try with_reducible rfl
   refine kS 7 ?_ rfl aC.o ?_ ?_;rotate_left
   ·rintro w ⟨q1,q2⟩;go_simp;try with_reducible rfl
   refine kS 8 ?_ rfl aC.o ?_ ?_;rotate_left
   ·rintro w ⟨q1,q2⟩;go_simp;try with_reducible rfl
   refine kS 9 ?_ rfl aC.o ?_ ?_;rotate_left
   ·rintro w ⟨q1,q2⟩;go_simp;try with_reducible rfl
   refine kS 10 ?_ rfl aC.o ?_ ?_;rotate_left
   ·rintro w ⟨q1,q2⟩;go_simp;try with_reducible rfl
   refine kS 11 ?_ rfl aC.o ?_ ?_;rotate_left
   ·rintro w ⟨q1,q2⟩;go_simp;try with_reducible rfl
   refine kS 12 ?_ rfl aC.o ?_ ?_;rotate_left
   ·rintro w ⟨q1,q2⟩;go_simp;try with_reducible rfl
   refine kS 13 ?_ rfl aC.o ?_ ?_;rotate_left
   ·rintro w ⟨q1,q2⟩;go_simp;try with_reducible rfl
   refine kS 14 ?_ rfl aC.o ?_ ?_;rotate_left
   ·rintro w ⟨q1,q2⟩;go_simp;try with_reducible rfl
   refine kS 15 ?_ rfl aC.o ?_ ?_;rotate_left
   ·rintro w ⟨q1,q2⟩;go_simp;try with_reducible rfl
   refine kS 16 ?_ rfl aC.o ?_ ?_;rotate_left
   ·rintro w ⟨q1,q2⟩;go_simp;try with_reducible rfl
   refine kS 17 ?_ rfl aC.o ?_ ?_;rotate_left
   ·rintro w ⟨q1,q2⟩;go_simp;try with_reducible rfl
   refine kS 18 ?_ rfl aC.o ?_ ?_;rotate_left
   ·rintro w ⟨q1,q2⟩;go_simp;try with_reducible rfl
   refine kS 19 ?_ rfl aC.o ?_ ?_;rotate_left
   ·rintro w ⟨q1,q2⟩;go_simp;try with_reducible rfl
   refine kP 20 rfl λKK aj=>?_
   go_simp;refine aj.out _ _ (λ_=>fG.o _) ?_;clear aj KK;refine kP 21 rfl λKK aj=>?_
   refine Po (cs:=eG (x.1, .slice uo q uc)) rfl _ _ 22 rfl EH (by decide) cZ.o 0 rfl (by kernel_rfl) (by kernel_rfl) rfl (by intro u hu;simp only [eG,List.mem_cons,List.not_mem_nil,or_false] at hu;rcases hu with rfl | rfl <;> rfl) (by omega) (by omega) AY ?_;rintro v' w9 jo -;refine aj.out _ _ (λh=>by cases h) ?_;clear aj KK;refine kP 22 rfl λKK aj=>?_
   go_simp;refine aj.out _ _ (λh=>by cases h) ?_;clear aj KK;refine kD ?_ _;have HN:=bx (show ∃ L:List jV,L.length=k+1/\L.map (·.1)=(l.take (k+1)).map II/\Hw w0 L/\Sep [Pc.row w.heap.size 130 2 v' (k+1) ((L.map pr).map eG).flatten,Pc.old w.heap.size w] w9 by
    refine⟨L++[(II x, .slice uo q uc)],?_,?_,?_,?_⟩
    ·rw [List.length_append,iQ.o];rfl
    ·rw [List.map_append,HL2.o,gI.o,List.map_append];rfl
    ·intro y hy
     rcases List.mem_append.1 hy with h | h
     ·exact qF.o y h
     ·rw [List.mem_singleton.1 h];exact HUT.o
    ·rw [agR];exact jo)
   clear jo;go_wp2_with fail
   go_roundw
   case rel=>exact⟨k+1,hlt,by go_num,HN⟩
   case measure=>simp [intOf];omega
  ·have hkm:k=m:=by omega
   have uG:=bx hkm;have hd:l.length<=k\/(k<l.length/\40<=k):=by have:=HM.o;omega
   clear hkm
   rcases hd with hd | ⟨hd,hd2⟩
   all_goals
    go_wp2_with fail;go_ret
    have heq:(l.take k).map II=zS l:=by
     unfold zS;rw [uG.o,HM.o]
     rcases Nat.le_total l.length 40 with h | h
     ·rw [Nat.min_eq_left h,List.take_of_length_le h,List.take_length]
     ·rw [Nat.min_eq_right h]
    exact⟨aV.o,_,rfl,L,by rw [HL2.o,heq],qF.o,by rw [iQ.o];exact mX.o.row 0 rfl⟩
theorem vX {W W':World} {base s n:Nat} {e:TypeId} {v:Value} {xs:List Value} (h:W.ownsRow base e s v n xs) (ht:Turns (λq=>q<base) W W'):W'.ownsRow base e s v n xs:=ht.row h (λk hk ho=>absurd (h.lt k hk).1 (by omega))
def xI (c:T.Cs):T.Cs:=⟨zS c.lo,zS c.ti,jm c.ca,jm c.ig⟩
theorem acj {W w:World} {base n:Nat} {v:Value} {L:List jV} {l:List F.Map} (h:W.ownsRow base 130 2 v n ((L.map pr).map eG).flatten) (hn:n=L.length) (hV:Hw w L) (hb:Below w.heap.size w W) (hl:L.map (·.1)=l):lK W v l :=
 hl▸afy h hn (λy hy=>(hV y hy).below hb)
theorem Dh {W w:World} {base n:Nat} {T:TypeId} {v:Value} {vs:List Value} {L:List (List Int)} (h:W.ownsRow base T 1 v n vs) (hn:n=vs.length) (hV:pF w vs L) (hb:Below w.heap.size w W):iq W v L :=
 alg h (by rw [hn,hV.1]) (λi r hr=>by
  obtain⟨x,hx,hi⟩:=hV.2 i r hr;exact⟨x,hx,hi.below hb⟩)
theorem Au (v:Value) (c:T.Cs) (w0 w:World) (hv:bC w0 v c) (hb0:Below w0.heap.size w0 w) :
  Calls Tryz.prog 12 #[v] w λe w'=>Below w.heap.size w w'/\∃ v',e = .returned v'/\∀ W',Turns (λq=>q<w.heap.size) w' W'->Below w0.heap.size w0 W'->bC W' v' (xI c):=by
 obtain⟨lv,tv,ci,cb,gi,gb,rfl,h1,h2,h3,h4,h5,h6⟩:=hv;obtain⟨V,hV⟩:∃ V,V=(w.alloc (.cells #[lv,tv,ci,cb,gi,gb] 28)).alloc (.cells #[.slice none 0 0, .slice none 0 0, .slice none 0 0, .slice none 0 0, .slice none 0 0, .slice none 0 0] 28):=⟨_,rfl⟩
 have aU:=bx (show Sep [Pc.blk (w.heap.size+1) 28 #[.slice none 0 0, .slice none 0 0, .slice none 0 0, .slice none 0 0, .slice none 0 0, .slice none 0 0],Pc.blk w.heap.size 28 #[lv,tv,ci,cb,gi,gb],Pc.old w.heap.size w] V by
  rw [hV];have h:=((Sep.start w).dh 28 #[lv,tv,ci,cb,gi,gb]).dh 28 #[.slice none 0 0, .slice none 0 0, .slice none 0 0, .slice none 0 0, .slice none 0 0, .slice none 0 0]
  simpa using h)
 have HB0:=bx hb0;have bG:=bx (show Below w.heap.size w V from aU.o.bel (by simp));have dG:=bx (aU.o.blk 1 rfl);have nV:=bx (λW (h:Below w.heap.size w W)=>adn lv c.lo w0 W h1 (bt HB0.o h));have HC2:=bx (λW (h:Below w.heap.size w W)=>adn tv c.ti w0 W h2 (bt HB0.o h));have fA:=bx (λW (h:Below w.heap.size w W)=>Ny cb ci c.ca w0 W h3 h4 (bt HB0.o h));have WO:=bx (λW (h:Below w.heap.size w W)=>Ny gb gi c.ig w0 W h5 h6 (bt HB0.o h));have dI:=bx (show ∀ W,Below V.heap.size V W->W.cell? ⟨w.heap.size,0,none⟩=some lv/\W.cell? ⟨w.heap.size,1,none⟩=some tv/\W.cell? ⟨w.heap.size,2,none⟩=some ci/\W.cell? ⟨w.heap.size,3,none⟩=some cb/\W.cell? ⟨w.heap.size,4,none⟩=some gi/\W.cell? ⟨w.heap.size,5,none⟩=some gb from λW h=>⟨((dG.o.below h dG.o.lt).cell 0).trans rfl,((dG.o.below h dG.o.lt).cell 1).trans rfl,((dG.o.below h dG.o.lt).cell 2).trans rfl,((dG.o.below h dG.o.lt).cell 3).trans rfl,((dG.o.below h dG.o.lt).cell 4).trans rfl,((dG.o.below h dG.o.lt).cell 5).trans rfl⟩);have aF:=bx (show Below V.heap.size V V.drew from⟨rfl,rfl,rfl,Nat.le_refl _,λ_ _=>rfl⟩);have cZ:=bx aU.o.drew;have HV:=bx hV;have kN:=bx (show V.heap.size=w.heap.size+1+1 by rw [hV];simp);clear h1 h2 h3 h4 h5 h6 hV hb0
 go_enter Tryz.func12,Tryz.ntmps12
 go_upto_region 1 with(fail)
 rw [<- HV.o];refine dO 13 (λW=>W.cell? ⟨w.heap.size,0,none⟩=some lv/\W.cell? ⟨w.heap.size,1,none⟩=some tv/\W.cell? ⟨w.heap.size,2,none⟩=some ci/\W.cell? ⟨w.heap.size,3,none⟩=some cb/\W.cell? ⟨w.heap.size,4,none⟩=some gi/\W.cell? ⟨w.heap.size,5,none⟩=some gb) (by kernel_rfl) ?_;have aC:=bx (dI.o _ aF.o);have aJ:=bx (bt bG.o aF.o);have gJ:=bx (show w.heap.size<=V.drew.heap.size from aJ.o.size);generalize V.drew=WR at *;refine kS 0 ?_ rfl aC.o ?_ ?_;rotate_left
 ·rintro w ⟨q1,q2,q3,q4,q5,q6⟩;go_simp;try with_reducible rfl
 refine kS 1 ?_ rfl aC.o ?_ ?_;rotate_left
 ·rintro w ⟨q1,q2,q3,q4,q5,q6⟩;go_simp;try with_reducible rfl
 refine kS 3 ?_ rfl aC.o ?_ ?_;rotate_left
 ·rintro w ⟨q1,q2,q3,q4,q5,q6⟩;go_simp;try with_reducible rfl
 refine kS 4 ?_ rfl aC.o ?_ ?_;rotate_left
 ·rintro w ⟨q1,q2,q3,q4,q5,q6⟩;go_simp;try with_reducible rfl
 refine kS 6 ?_ rfl aC.o ?_ ?_;rotate_left
 ·rintro w ⟨q1,q2,q3,q4,q5,q6⟩;go_simp;try with_reducible rfl
 refine kS 7 ?_ rfl aC.o ?_ ?_;rotate_left
 ·rintro w ⟨q1,q2,q3,q4,q5,q6⟩;go_simp;try with_reducible rfl
 refine kS 9 ?_ rfl aC.o ?_ ?_;rotate_left
 ·rintro w ⟨q1,q2,q3,q4,q5,q6⟩;go_simp;try with_reducible rfl
 refine kS 10 ?_ rfl aC.o ?_ ?_;rotate_left
 ·rintro w ⟨q1,q2,q3,q4,q5,q6⟩;go_simp;try with_reducible rfl
 refine kP 2 rfl λKK aj=>?_
 go_simp;go_wp2_with (go_at_call 33;refine(nV.o _ aJ.o).mono ?_;rintro e w1 ⟨hb1,v1,rfl,L1,hL1,hV1,ho1⟩)
 have HB1:=bx (show Below V.heap.size V w1 from bt aF.o hb1);have dQ:=bx (bt aJ.o hb1);have bQ:=bx (cZ.o.got (base:=w.heap.size) hb1 ho1 gJ.o);have gW:=bx (show w.heap.size<=w1.heap.size from dQ.o.size);obtain⟨Z5,oc1,rfl,-,-⟩:=dN ho1;have iQ:=bx hL1;have dU:=bx hV1;clear hb1 hV1 ho1 aJ gJ hL1;have aJ:=dQ;have gJ:=gW;clear dQ gW;refine aj.out _ _ (λ_=>dI.o _ HB1.o) ?_;clear aj KK;refine kP 5 rfl λKK aj=>?_
 go_simp;go_wp2_with (go_at_call 33;refine(HC2.o _ aJ.o).mono ?_;rintro e w2 ⟨hb2,v2,rfl,L2,hL2,hV2,ho2⟩)
 have HB2:=bx (show Below V.heap.size V w2 from bt HB1.o hb2);have dQ:=bx (bt aJ.o hb2);have HS2:=bx (bQ.o.got (base:=w.heap.size) hb2 ho2 gJ.o);have gW:=bx (show w.heap.size<=w2.heap.size from dQ.o.size);obtain⟨zC,xg,rfl,-,-⟩:=dN ho2;have HL2:=bx hL2;have eY:=bx hV2;clear hb2 hV2 ho2 aJ gJ hL2;have aJ:=dQ;have gJ:=gW;clear dQ gW;refine aj.out _ _ (λ_=>dI.o _ HB2.o) ?_;clear aj KK;refine kP 8 rfl λKK aj=>?_
 go_simp;go_wp2_with (go_at_call 34;refine(fA.o _ aJ.o).mono ?_;rintro e w3 ⟨hb3,f3,v3,L3,rfl,hi3,lF,ho3⟩)
 have HB3:=bx (show Below V.heap.size V w3 from bt HB2.o hb3);have dQ:=bx (bt aJ.o hb3);have aK:=bx (HS2.o.got (base:=w.heap.size) hb3 ho3 gJ.o);have gW:=bx (show w.heap.size<=w3.heap.size from dQ.o.size);obtain⟨y8,yX,rfl,-,-⟩:=dN ho3;obtain⟨fa3,zf,rfl⟩:=hi3.slice;have HI3:=bx hi3;have nU:=bx lF;clear hb3 lF ho3 aJ gJ hi3;have aJ:=dQ;have gJ:=gW;clear dQ gW;refine aj.out _ _ (λ_=>dI.o _ HB3.o) ?_;clear aj KK;refine kP 11 rfl λKK aj=>?_
 go_simp;go_wp2_with (go_at_call 34;refine(WO.o _ aJ.o).mono ?_;rintro e w4 ⟨hb4,f4,v4,L4,rfl,hi4,zN,SA⟩)
 have HB4:=bx (show Below V.heap.size V w4 from bt HB3.o hb4);have dQ:=bx (bt aJ.o hb4);have dn:=bx (aK.o.got (base:=w.heap.size) hb4 SA gJ.o);have gW:=bx (show w.heap.size<=w4.heap.size from dQ.o.size);obtain⟨oa4,Yh,rfl,-,-⟩:=dN SA;obtain⟨fa4,Z7,rfl⟩:=hi4.slice;have HI4:=bx hi4;have sJ:=bx zN;clear hb4 zN SA aJ gJ hi4;have aJ:=dQ;have gJ:=gW;clear dQ gW;refine aj.out _ _ (λ_=>dI.o _ HB4.o) ?_;clear aj KK;refine kP 12 rfl λKK aj=>?_
 go_simp;refine aj.out _ _ (λ_=>dI.o _ HB4.o) ?_;clear aj KK;have HG:=bx (dn.o.blk 4 rfl);have y0:=(HG.o.cell 0).trans (show _=some (Value.slice none 0 0) from rfl);have e0:=HG.o.frozen 0;have y1:=(HG.o.cell 1).trans (show _=some (Value.slice none 0 0) from rfl);have e1:=HG.o.frozen 1;have y2:=(HG.o.cell 2).trans (show _=some (Value.slice none 0 0) from rfl);have e2:=HG.o.frozen 2;have y3:=(HG.o.cell 3).trans (show _=some (Value.slice none 0 0) from rfl);have e3:=HG.o.frozen 3;have y4:=(HG.o.cell 4).trans (show _=some (Value.slice none 0 0) from rfl);have e4:=HG.o.frozen 4;have y5:=(HG.o.cell 5).trans (show _=some (Value.slice none 0 0) from rfl);have e5:=HG.o.frozen 5;have yl:=HG.o.lt;have aG:=bx ((((((dn.o.set 4 rfl 0 (.slice Z5 L1.length oc1)).set 4 rfl 1 (.slice zC L2.length xg)).set 4 rfl 2 (.slice fa3 (jm c.ca).1.length zf)).set 4 rfl 3 (.slice y8 L3.length yX)).set 4 rfl 4 (.slice fa4 (jm c.ig).1.length Z7)).set 4 rfl 5 (.slice oa4 L4.length Yh));refine kP 13 rfl λKK aj=>?_
 go_simp;refine aj.out _ _ (λh=>by cases h) ?_;clear aj KK;refine kD ?_ _;go_wp2_with fail;have dY:=aG.o.bel (n:=w.heap.size) (W0:=w) (by simp);refine bodyPost_ret (v:=.agg #[.slice Z5 L1.length oc1, .slice zC L2.length xg, .slice fa3 (jm c.ca).1.length zf, .slice y8 L3.length yX, .slice fa4 (jm c.ig).1.length Z7, .slice oa4 L4.length Yh]) (results_cell_row Tryz.results12 _ _ (w.heap.size+1) 28 _ (0,0) _ rfl (aG.o.blk 4 rfl) Tryz.underlying28 rfl QV) rfl ⟨dY,_,rfl,λW' ht hbw=>⟨_,_,_,_,_,_,rfl,?_,?_,?_,?_,?_,?_⟩⟩
 ·exact acj (vX (aG.o.row 3 rfl) ht) rfl dU.o hbw iQ.o
 ·exact acj (vX (aG.o.row 2 rfl) ht) rfl eY.o hbw HL2.o
 ·exact HI3.o.below hbw
 ·exact Dh (vX (aG.o.row 1 rfl) ht) rfl nU.o hbw
 ·exact HI4.o.below hbw
 ·exact Dh (vX (aG.o.row 0 rfl) ht) rfl sJ.o hbw
end
section
open Go.RowKit
attribute [local go_sem] Oper.semAt_some
theorem Px (l:List F.Map):(zS l).length<=40/\∀ x∈zS l,x.2.length<=5:=by
 unfold zS;refine⟨by rw [List.length_map,List.length_take];omega,λx hx=>?_⟩;obtain⟨y,-,rfl⟩:=List.mem_map.1 hx;show (y.2.take 5).length<=5
 rw [List.length_take];omega
theorem uJ (t:F.Trie):(jm t).1.length<=4360/\(jm t).2.length<=30/\∀ r∈(jm t).2,r.length<=260:=by
 unfold jm;refine⟨by simp only [List.length_take];omega,by simp only [List.length_map,List.length_take];omega,λr hr=>?_⟩;obtain⟨y,-,rfl⟩:=List.mem_map.1 hr;unfold FK;rw [List.length_take];omega
theorem zM (c:T.Cs):T.Small (xI c) where
 lo:=by have:=(Px c.lo).1;show (zS c.lo).length<=_;omega
 loA:=λx hx=>by have:=(Px c.lo).2 x hx;omega
 ti:=by have:=(Px c.ti).1;show (zS c.ti).length<=_;omega
 tiA:=λx hx=>by have:=(Px c.ti).2 x hx;omega
 c1:=by have:=(uJ c.ca).1;show (jm c.ca).1.length<=_;omega
 c2:=by have:=(uJ c.ca).2.1;show (jm c.ca).2.length<=_;omega
 g1:=by have:=(uJ c.ig).1;show (jm c.ig).1.length<=_;omega
 g2:=by have:=(uJ c.ig).2.1;show (jm c.ig).2.length<=_;omega
 c3:=λr hr=>by have:=(uJ c.ca).2.2 r hr;omega
 g3:=λr hr=>by have:=(uJ c.ig).2.2 r hr;omega
end
end Go.Proofs.YtlmdjifffmofeaaGreatDoor
