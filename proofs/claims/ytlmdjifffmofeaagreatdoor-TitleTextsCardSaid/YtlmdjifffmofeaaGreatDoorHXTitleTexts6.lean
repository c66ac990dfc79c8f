import Derived.Test.YtlmdjifffmofeaaGreatDoorH21
import Derived.Test.YtlmdjifffmofeaaGreatDoorHXTitleTexts5

set_option maxRecDepth 100000
set_option maxHeartbeats 8000000
namespace Go.Proofs.YtlmdjifffmofeaaGreatDoor
open Go.Proofs.Tryz
section
open Go.RowKit Go.ChangeShapes Go.WideShapes Go.Deep
section
variable {H:Type} {enc:TypeId×Value->H} {W:World}
theorem DL {fuel:Nat} {cs:List Value} {x:DataW H×List MemPlace} (h:DataW.trod enc prog W 0 (λ_=>true) true fuel 144 cs=some x) :
  ∃ (st:Bool) (v:Value) (l:List N.Item),cs=[.bool st,v]/\bM W v l:=by
 obtain⟨y0,y1,n,rfl,hl,h0,h1⟩:=trod_struct2 underlying144 h;have hl2:cs.length=2:=hl.trans (by kernel_rfl)
 match cs,hl2 with
 | [c0,c1],_ =>
  obtain⟨st,e0,_⟩:=DataW.trod_bool underlying4 h0;obtain⟨l,Gx⟩:=bM.open h1;have e0':[c0]=[.bool st]:=e0;simp only [List.cons.injEq,and_true] at e0';subst e0';exact⟨st,c1,l,rfl,Gx⟩
theorem MG {fuel:Nat} {cs:List Value} {x:DataW H×List MemPlace} (h:DataW.trod enc prog W 0 (λ_=>true) true fuel 147 cs=some x) :
  ∃ (y:D.Rule) (vl vr:Value),cs=[.bool y.1.1,vl, .bool y.2.1.1,vr, .bool y.2.2]/\bM W vl y.1.2/\bM W vr y.2.1.2:=by
 obtain⟨y0,y1,y2,n,rfl,hl,h0,h1,h2⟩:=trod_struct3 underlying147 h;have hl5:cs.length=5:=hl.trans (by kernel_rfl)
 match cs,hl5 with
 | [c0,c1,c2,c3,c4],_ =>
  obtain⟨sl,vl,ll,e0,hi0⟩:=DL (cs:=[c0,c1]) h0;obtain⟨sr,vr,lr,e1,hi1⟩:=DL (cs:=[c2,c3]) h1;obtain⟨br,e2,_⟩:=DataW.trod_bool underlying4 h2;have e2':[c4]=[.bool br]:=e2;simp only [List.cons.injEq,and_true] at e0 e1 e2';obtain⟨rfl,rfl⟩:=e0;obtain⟨rfl,rfl⟩:=e1;subst e2';exact⟨((sl,ll),(sr,lr),br),_,_,rfl,hi0,hi1⟩
theorem dP.open {fuel:Nat} {v:Value} {x:DataW H×List MemPlace} (h:DataW.trod enc prog W 0 (λ_=>true) true fuel 41 [v]=some x):∃ l,dP W v l:=by
 have ce:prog.cellsOf 147=5:=by kernel_rfl
 rcases open_slice underlying41 h with⟨h1,_⟩ | ⟨a,len,cap,m,n,Dd,Pl,h1,_,h2,h3,h4,_,h5⟩
 ·simp only [List.cons.injEq,and_true] at h1;exact⟨[], .inl ⟨h1,rfl⟩⟩
 ·simp only [List.cons.injEq,and_true] at h1;subst h1;simp only [if_true] at h4;subst h4;rw [ce] at h5;have key:∀ i,i<m->∃ q:D.Rule×Value×Value,(∀ j u,[Value.bool q.1.1.1,q.2.1, .bool q.1.2.1.1,q.2.2, .bool q.1.2.2][j]?=some u->W.cell? ((a.add (i*5)).add j)=some u)/\bM W q.2.1 q.1.1.2/\bM W q.2.2 q.1.2.1.2:=by
   intro i hi;obtain⟨cs',h6,h7⟩:=h5 i hi;obtain⟨_,hlen,hcell⟩:=World.cells?_some h6;obtain⟨y,vl,vr,rfl,h8,h9⟩:=MG h7;refine⟨(y,vl,vr),λj u hu=>?_,h8,h9⟩;have hj:j<5:=(List.getElem?_eq_some_iff.1 hu).1;rw [hcell j hj];exact hu
  obtain⟨q,hq⟩:=choose_lt key;obtain⟨b,off,sp⟩:=a;have hlen:((List.range len).map λi=>(q i).1).length=len:=by simp
  refine⟨(List.range len).map λi=>(q i).1, .inr ⟨b,off,sp,m,by rw [hlen],by rw [hlen];exact h2,h3,λhn=>?_⟩⟩;have h0:0<len:=by
   rcases Nat.eq_zero_or_pos len with h | h
   ·subst h;exact absurd rfl hn
   ·exact h
  have hc0:=(hq 0 (by omega)).1 0 _ rfl;have hsp:sp=none:=World.cell?_spot (a:=((⟨b,off,sp⟩:Addr).add (0*5)).add 0) hc0;subst hsp;refine⟨rfl,World.block_lt_of_cell? _ _ hc0,λi y hy=>?_⟩;rw [List.getElem?_map] at hy;obtain⟨j,hj,rfl⟩:=Option.map_eq_some_iff.1 hy;obtain⟨hi,rfl⟩:=List.getElem?_eq_some_iff.1 hj;simp only [List.length_range] at hi;simp only [List.getElem_range];obtain⟨k1,k2,k3⟩:=hq i (by omega);have hc:∀ j u,[Value.bool (q i).1.1.1,(q i).2.1, .bool (q i).1.2.1.1,(q i).2.2, .bool (q i).1.2.2][j]?=some u->W.cell? ⟨b,off+i*5+j,none⟩=some u:=λj u hu=>by
   have:=k1 j u hu;rw [addr_add b off,addr_add b] at this;exact this
  exact⟨(q i).2.1,(q i).2.2,hc 0 _ rfl,hc 1 _ rfl,hc 2 _ rfl,hc 3 _ rfl,hc 4 _ rfl,k2,k3⟩
end
section
variable {H:Type} {enc:TypeId×Value->H} {W:World}
theorem Lj {fuel:Nat} {cs:List Value} {x:DataW H×List MemPlace} (h:DataW.trod enc prog W 0 (λ_=>true) true fuel 44 cs=some x) :
  ∃ (a b:Value) (M:D.dF),cs=[a,b]/\iq W a M.1/\ay W b M.2:=by
 obtain⟨y0,y1,n,rfl,hl,h0,h1⟩:=trod_struct2 underlying44 h;have hl2:cs.length=2:=hl.trans (by kernel_rfl)
 match cs,hl2 with
 | [c0,c1],_ =>
  obtain⟨l0,hl0⟩:=iq.open (v:=c0) h0;obtain⟨l1,hl1⟩:=G6 (v:=c1) underlying42 underlying2 (by kernel_rfl) h1;exact⟨c0,c1,(l0,l1),rfl,hl0,hl1⟩
theorem LQ {base:Nat} {v:Value} {d:DataW H} {p:List MemPlace} (hv:Value.okWide prog W .any base 46 v) (h:DataW.Trod enc prog W 0 (λ_=>true) true 46 v d p) :
  ∃ t:Tab,TabAt W v t:=by
 obtain⟨cs,rfl,hsz⟩:=okWide_struct underlying46 hv;obtain⟨fuel,hf⟩:=h;obtain⟨y0,y1,y2,y3,n,hx,-,h0,h1,h2,h3⟩:=Go.Joins.trod_struct4 underlying46 hf;obtain⟨cs⟩:=cs;obtain⟨c0,c1,c2,c3,c4,c5,rfl⟩:=PV (l:=cs) (hsz.trans (by kernel_rfl));obtain⟨k,e0,_⟩:=DataW.trod_int underlying3 h0;have e0':[c0]=[.int .i64 k]:=e0;simp only [List.cons.injEq,and_true] at e0';subst e0';obtain⟨a2,b2,t2,e2,k1,k2⟩:=MF (cs:=[c1,c2]) h1;obtain⟨l1,hl1⟩:=dP.open (v:=c3) h2;obtain⟨a3,b3,t3,e3,k3,k4⟩:=Lj (cs:=[c4,c5]) h3;simp only [List.cons.injEq,and_true] at e2 e3;obtain⟨rfl,rfl⟩:=e2;obtain⟨rfl,rfl⟩:=e3;exact⟨⟨k,t2,l1,t3⟩,_,_,_,_,_,rfl,k1,k2,hl1,k3,k4⟩
end
end
section
open Go.RowKit Go.Shelf
attribute [local go_sem] Oper.semAt_some
def jF (s:ByteArray):ByteArray:=s.extract 0 (min s.size 120)
theorem DI (s:ByteArray) (w:World) (hz:s.size<=9223372036854775807) :
  Calls prog 22 #[.string s] w λe w'=>e = .returned (.string (jF s))/\w=w':=by
 have HC:=bx (show s.extract 0 (min (s.size:Int) 120).toNat=jF s by unfold jF;rw [show (min (s.size:Int) 120).toNat=min s.size 120 by omega])
 go_enter func22,ntmps22
 go_wp2
 go_ret
 exact⟨by rw [<- HC.o];rfl,rfl⟩
theorem Gy (s:ByteArray):(jF s).data.toList=s.data.toList.take 120:=by
 unfold jF;rw [Lib.extract_data];have h:s.data.toList.length=s.size:=by rw [size_eq]
 show (s.data.toList.drop 0).take (min s.size 120-0)=_
 rw [List.drop_zero,Nat.sub_zero]
 rcases Nat.le_total s.size 120 with h1 | h1
 ·rw [Nat.min_eq_left h1,List.take_of_length_le (by omega),List.take_of_length_le (by omega)]
 ·rw [Nat.min_eq_right h1]
theorem Dc (s:ByteArray):(jF s).size<=120:=by rw [size_eq,Gy,List.length_take];omega
theorem Nr (v:Value) (M:D.dF) (w0 w:World) (hv:nT w0 v M) (hb0:Below w0.heap.size w0 w) :
  Calls prog 45 #[v] w λe w'=>Below w.heap.size w w'/\∃ nv fv vs,e = .returned (.agg #[nv,fv])/\pF w0 vs (ku M).1/\w'.ownsRow w.heap.size 23 1 nv vs.length vs/\ay w0 fv (ku M).2:=by
 obtain⟨na,fa,rfl,hra,hia⟩:=hv;have qh:=bx hra;have HB0:=bx hb0;obtain⟨aa,ca,rfl⟩:=hra.slice;obtain⟨fo,fc,rfl⟩:=hia.slice;obtain⟨hf1,hf2⟩:=vO hia;have gZ:=bx (vT hia 302);obtain⟨nf,hnf⟩:∃ nf,(M.2.take 302).length=nf:=⟨_,rfl⟩
 have zX:=bx (show nf=min 302 M.2.length by rw [<- hnf,List.length_take]);rw [hnf] at gZ;have SI:=bx hnf;obtain⟨m,hm⟩:∃ m,m=min M.1.length 302:=⟨_,rfl⟩
 have HM:=bx hm;have hm1:m<=M.1.length:=by omega
 have hm2:m<=302:=by omega
 obtain⟨w3,hw3⟩:∃ w3,w3=((w.alloc (.cells #[.slice aa M.1.length ca, .slice fo M.2.length fc] 44)).alloc (.cells #[.slice none 0 0, .slice none 0 0] 44)).alloc (.cells #[.slice none 0 0, .slice fo nf fc] 44):=⟨_,rfl⟩
 have aK:=bx (show ∃ vs,pF w0 vs ((M.1.take 0).map rU)/\Sep [Pc.row w.heap.size 23 1 (.slice none 0 0) 0 vs,Pc.blk (w.heap.size+1+1) 44 #[.slice none 0 0, .slice fo nf fc],Pc.blk (w.heap.size+1) 44 #[.slice none 0 0, .slice none 0 0],Pc.blk w.heap.size 44 #[.slice aa M.1.length ca, .slice fo M.2.length fc],Pc.old w.heap.size w] w3 by
  have h1:=(((Sep.start w).dh 44 #[.slice aa M.1.length ca, .slice fo M.2.length fc]).dh 44 #[.slice none 0 0, .slice none 0 0]).dh 44 #[.slice none 0 0, .slice fo nf fc];refine⟨[],⟨rfl,λi r h=>by simp at h⟩,?_⟩;rw [hw3];have h2:=h1.fP w.heap.size 1 23
  simpa using h2)
 have HW3:=bx hw3;clear hb0 hra hia hm hnf hw3
 go_enter func45,ntmps45
 rcases (show (302<M.2.length/\nf=302)\/(M.2.length<=302/\nf=M.2.length) by have:=zX.o;omega) with⟨hq,hq2⟩ | ⟨hq,hq2⟩
 all_goals
  have hw3:=HW3.o;have Ls:min (M.2.length:Int) 302=(nf:Int):=by omega
  go_upto_region 2 with(fail)
  first | rw [hq2] at hw3 | skip
  rw [<- hw3];clear hw3 Ls hq hq2;go_wp2_with fail
  go_loopw [4] (λi wr=>∃ k:Nat,k<=m/\i = .int .i64 k/\Box (∃ nv vs,pF w0 vs ((M.1.take k).map rU)/\Sep [Pc.row w.heap.size 23 1 nv k vs,Pc.blk (w.heap.size+1+1) 44 #[nv, .slice fo nf fc],Pc.blk (w.heap.size+1) 44 #[.slice none 0 0, .slice none 0 0],Pc.blk w.heap.size 44 #[.slice aa M.1.length ca, .slice fo M.2.length fc],Pc.old w.heap.size w] wr)) (λi _=>m-(intOf i).toNat)
  case atStart=>obtain⟨vs,h1,h2⟩:=aK.o;exact⟨0,by omega,rfl,⟨_,vs,h1,h2⟩⟩
  case round =>
   obtain⟨k,hk,rfl,hbox⟩:=hrel;obtain⟨nv,vs,hvs,hsep⟩:=hbox.o;have kJ:=bx (HB0.o.trans ((hsep.bel (n:=w.heap.size) (W0:=w) (by simp)).mono HB0.o.size));have kN:=bx hvs;have mX:=bx hsep;have aV:=bx (show Below w.heap.size w wr from hsep.bel (by simp));obtain⟨no,nc,rfl,hn1,hn2⟩:=dN (hsep.row 0 rfl);have jT:=bx (hsep.blk 1 rfl);have HG2:=bx (hsep.blk 2 rfl);have mW:=bx (hsep.blk 3 rfl);have g1:wr.cell? ⟨w.heap.size,0,none⟩=some (.slice aa M.1.length ca):=(mW.o.cell 0).trans rfl;have l1:=mW.o.lt;clear hvs hsep hbox
   by_cases hlt:k<m
   ·obtain⟨x,hx⟩:∃ x,M.1[k]?=some x:=⟨_,List.getElem?_eq_getElem (by omega)⟩
    obtain⟨pa,oa,ca',ha0,ha1,ha2,qE,jA⟩:=qh.o.get (by intro e;rw [e] at hx;simp at hx);obtain⟨rfl,rfl⟩:aa=some ⟨pa,oa,none⟩/\ca=ca':=by injection ha0 with h1 h2 h3;exact⟨h1,h3⟩
    obtain⟨xv,hxc,hxi⟩:=jA k x hx;obtain⟨xo,xc,rfl⟩:=hxi.slice;obtain⟨hx1,hx2⟩:=vO hxi;have yP:=bx (vT hxi 34);obtain⟨q,hq⟩:∃ q,(x.take 34).length=q:=⟨_,rfl⟩
    have HQ:=bx (show q=min 34 x.length by rw [<- hq,List.length_take]);rw [hq] at yP;have gI:=bx (DV M.1 k x hx);have dI:=bx (show ∀ W,Below wr.heap.size wr W->W.cell? ⟨w.heap.size+1+1,0,none⟩=some (.slice no k nc)/\W.cell? ⟨w.heap.size,0,none⟩=some (.slice (some ⟨pa,oa,none⟩) M.1.length ca)/\W.cell? ⟨pa,oa+k,none⟩=some (.slice xo x.length xc) from λW h =>
     ⟨((jT.o.below h jT.o.lt).cell 0).trans rfl,((mW.o.below h mW.o.lt).cell 0).trans rfl,((bt kJ.o h).cell (p:=⟨pa,oa+k,none⟩) qE).trans hxc⟩)
    have aF:=bx (show Below wr.heap.size wr wr.drew from⟨rfl,rfl,rfl,Nat.le_refl _,λ_ _=>rfl⟩);have cZ:=bx mX.o.drew;have AY:w.heap.size<=wr.drew.heap.size:=aV.o.size;have Yj:k<302:=by omega
    have hkl:k<M.1.length:=by omega
    have hkc:k<ca:=by omega
    have l3:=jT.o.lt;unfold maxLen at ha2;clear ha0 jA hx hxc hxi hq;go_wp2_with fail
    rcases (show ((34:Int)<(x.length:Int)/\(34:Int)<=(xc:Int)/\min (x.length:Int) 34=34/\q=34)\/(¬ (34:Int)<(x.length:Int)/\(x.length:Int)<=(xc:Int)/\min (x.length:Int) 34=(x.length:Int)/\q=x.length) by have:=HQ.o;omega) with⟨hq1,hq3,hqm,rfl⟩ | ⟨hq1,hq3,hqm,rfl⟩
    all_goals
     refine dO 16 (λW=>W.cell? ⟨w.heap.size+1+1,0,none⟩=some (.slice no k nc)/\W.cell? ⟨w.heap.size,0,none⟩=some (.slice (some ⟨pa,oa,none⟩) M.1.length ca)/\W.cell? ⟨pa,oa+k,none⟩=some (.slice xo x.length xc)) (by kernel_rfl) ?_;have aC:=bx (dI.o _ aF.o);have fG:=bx (λo=>dI.o _ (aF.o.alloc aF.o.size o));generalize wr.drew=WR at *;refine kS 0 ?_ rfl aC.o ?_ ?_;rotate_left
     ·rintro w ⟨a,b,c⟩;go_simp;try rfl
     refine kS 1 ?_ rfl aC.o ?_ ?_;rotate_left
     ·rintro w ⟨a,b,c⟩;go_simp;try rfl
     refine kS 2 ?_ rfl aC.o ?_ ?_;rotate_left
     ·rintro w ⟨a,b,c⟩;go_simp;try rfl
     refine kS 3 ?_ rfl aC.o ?_ ?_;rotate_left
     ·rintro w ⟨a,b,c⟩;go_simp;try rfl
     refine kS 4 ?_ rfl aC.o ?_ ?_;rotate_left
     ·rintro w ⟨a,b,c⟩;go_simp;try rfl
     refine kS 5 ?_ rfl aC.o ?_ ?_;rotate_left
     ·rintro w ⟨a,b,c⟩;go_simp;try rfl
     refine kS 6 ?_ rfl aC.o ?_ ?_;rotate_left
     ·rintro w ⟨a,b,c⟩;go_simp;try rfl
     refine kS 7 ?_ rfl aC.o ?_ ?_;rotate_left
     ·rintro w ⟨a,b,c⟩;go_simp;try rfl
     refine kS 8 ?_ rfl aC.o ?_ ?_;rotate_left
     ·rintro w ⟨a,b,c⟩;go_simp;try rfl
     refine kS 9 ?_ rfl aC.o ?_ ?_;rotate_left
     ·rintro w ⟨a,b,c⟩;go_simp;try rfl
     refine kS 10 ?_ rfl aC.o ?_ ?_;rotate_left
     ·rintro w ⟨a,b,c⟩;go_simp;try rfl
     refine kS 11 ?_ rfl aC.o ?_ ?_;rotate_left
     ·rintro w ⟨a,b,c⟩;go_simp;try rfl
     refine kS 12 ?_ rfl aC.o ?_ ?_;rotate_left
     ·rintro w ⟨a,b,c⟩;go_simp;try rfl
     refine kS 13 ?_ rfl aC.o ?_ ?_;rotate_left
     ·rintro w ⟨a,b,c⟩;go_simp;try rfl
     refine kS 14 ?_ rfl aC.o ?_ ?_;rotate_left
     ·rintro w ⟨a,b,c⟩;go_simp;try rfl
     refine kP 15 rfl λKK aj=>?_
     go_simp;refine aj.out _ _ (λ_=>fG.o _) ?_;clear aj KK;refine kP 16 rfl λKK aj=>?_
     refine BZ rfl _ _ 24 rfl Hr cZ.o 0 rfl (by kernel_rfl) (by kernel_rfl) rfl (by omega) (by omega) AY ?_;rintro v' w9 jo ⟨g9,c9,rfl,VN,Uh⟩;refine aj.out _ _ (λh=>by cases h) ?_;clear aj KK;have dM:=bx (jo.blk 1 rfl);have z0:=(dM.o.cell 0).trans (show _=some (Value.slice no k nc) from rfl);have z1:=dM.o.frozen 0;have z2:=dM.o.lt;have FQ:=bx (jo.set 1 rfl 0 (.slice (some ⟨g9,0,none⟩) (k+1) c9));clear jo;refine kP 17 rfl λKK aj=>?_
     go_simp;refine aj.out _ _ (λh=>by cases h) ?_;clear aj KK;refine kP 18 rfl λKK aj=>?_
     go_simp;refine aj.out _ _ (λh=>by cases h) ?_;clear aj KK;refine kD ?_ _;have HN:=bx (show ∃ nv vs,pF w0 vs ((M.1.take (k+1)).map rU)/\Sep [Pc.row w.heap.size 23 1 nv (k+1) vs,Pc.blk (w.heap.size+1+1) 44 #[nv, .slice fo nf fc],Pc.blk (w.heap.size+1) 44 #[.slice none 0 0, .slice none 0 0],Pc.blk w.heap.size 44 #[.slice (some ⟨pa,oa,none⟩) M.1.length ca, .slice fo M.2.length fc],Pc.old w.heap.size w] _ by
      refine⟨_,_,?_,FQ.o⟩;rw [gI.o,List.map_append];exact kN.o.snoc yP.o)
     go_wp2_with fail
     go_roundw
     case rel=>exact⟨k+1,hlt,by go_num,HN⟩
     case measure=>simp [intOf];omega
   ·have hkm:k=m:=by omega
    have uG:=bx hkm;have hd:M.1.length<=k\/(k<M.1.length/\302<=k):=by have:=HM.o;omega
    have z0:wr.cell? ⟨w.heap.size+1+1,0,none⟩=some (.slice no k nc):=(jT.o.cell 0).trans rfl;have z1:wr.cell? ⟨w.heap.size+1+1,1,none⟩=some (.slice fo nf fc):=(jT.o.cell 1).trans rfl;have z2:=jT.o.lt;have y0:=(HG2.o.cell 0).trans (show _=some (Value.slice none 0 0) from rfl);have y1:=(HG2.o.cell 1).trans (show _=some (Value.slice none 0 0) from rfl);have f0:=HG2.o.frozen 0;have f1:=HG2.o.frozen 1;have y2:=HG2.o.lt;have fE:=bx ((mX.o.set 2 rfl 0 (.slice no k nc)).set 2 rfl 1 (.slice fo nf fc));have yC:=bx (show (M.1.take k).map rU=(ku M).1 by
     unfold ku;simp only;rw [uG.o,HM.o]
     rcases Nat.le_total M.1.length 302 with h | h
     ·rw [Nat.min_eq_left h,List.take_length,List.take_of_length_le h];rfl
     ·rw [Nat.min_eq_right h];rfl)
    have ou:=bx (show k=((M.1.take k).map rU).length by rw [List.length_map,List.length_take];have:=HM.o;omega);clear hkm
    rcases hd with hd | ⟨hd,hd2⟩
    all_goals
     go_wp2_with fail;have dY:=fE.o.bel (n:=w.heap.size) (W0:=w) (by simp);refine bodyPost_ret (v:=.agg #[.slice no k nc, .slice fo nf fc]) (results_cell_row results45 _ _ (w.heap.size+1) 44 _ (0,0) _ rfl (fE.o.blk 2 rfl) underlying44 rfl Jc) rfl ⟨dY,_,_,vs,rfl,?_,?_,gZ.o⟩
     ·rw [<- yC.o];exact kN.o
     ·rw [kN.o.1,<- ou.o];exact fE.o.row 0 rfl
theorem Ns (v:Value) (l:List D.Rule) (w0 w:World) (hv:dP w0 v l) (hb0:Below w0.heap.size w0 w) :
  Calls prog 44 #[v] w λe w'=>Below w.heap.size w w'/\∃ v',e = .returned v'/\∃ L:List (D.Rule×Value×Value),L.map (·.1)=mJ l/\sW w0 L/\w'.ownsRow w.heap.size 147 5 v' L.length (L.flatMap lD):=by
 have HR:=bx hv;have HB0:=bx hb0;obtain⟨ao,cap,rfl⟩:=hv.slice;obtain⟨m,hm⟩:∃ m,m=min l.length 42:=⟨_,rfl⟩
 have HM:=bx hm;have hm1:m<=l.length:=by omega
 have hm2:m<=42:=by omega
 have aU:=bx (show ∃ L:List (D.Rule×Value×Value),L.length=0/\L.map (·.1)=(l.take 0).map ng/\sW w0 L/\Sep [Pc.row w.heap.size 147 5 (.slice none 0 0) 0 (L.flatMap lD),Pc.old w.heap.size w] w from
  ⟨[],rfl,rfl,λy hy=>absurd hy List.not_mem_nil,(Sep.start w).fP _ _ _⟩)
 clear hv hm hb0
 go_enter func44,ntmps44
 go_wp2_with fail
 go_loopw [3,4] (λo i wr=>∃ k:Nat,k<=m/\i = .int .i64 k/\Box (∃ L:List (D.Rule×Value×Value),L.length=k/\L.map (·.1)=(l.take k).map ng/\sW w0 L/\Sep [Pc.row w.heap.size 147 5 o k (L.flatMap lD),Pc.old w.heap.size w] wr)) (λ_ i _=>m-(intOf i).toNat)
 case atStart=>exact⟨0,by omega,rfl,aU⟩
 case round =>
  obtain⟨k,hk,rfl,hbox⟩:=hrel;obtain⟨L,hL1,hL2,hL3,hsep⟩:=hbox.o;have aV:=bx (show Below w.heap.size w wr from hsep.bel (by simp));have kJ:=bx (bt HB0.o aV.o);have iQ:=bx hL1;have HL2:=bx hL2;have qF:=bx hL3;have mX:=bx hsep;obtain⟨oo,oc,rfl,ho1,ho2⟩:=dN (hsep.row 0 rfl);clear hbox hL1 hL2 hL3 hsep
  by_cases hlt:k<m
  ·obtain⟨x,hx⟩:∃ x,l[k]?=some x:=⟨_,List.getElem?_eq_getElem (by omega)⟩
   obtain⟨bg,off,cap2,hg1,hg2,hg3,hg4,hg5⟩:=(HR.o.below kJ.o).get (by rintro rfl;simp at hm1;omega);obtain⟨rfl,rfl⟩:ao=some ⟨bg,off,none⟩/\cap=cap2:=by injection hg1 with h1 h2 h3;exact⟨h1,h3⟩
   obtain⟨vl,vr,hc0,hc1,hc2,hc3,hc4,hil,hir⟩:=hg5 k x hx;obtain⟨JO,off',abI,D8,Ll,Nc,Ej,Dj⟩:=HR.o.get (by rintro rfl;simp at hm1;omega);obtain⟨rfl,rfl⟩:bg=JO/\off=off':=by injection D8 with h1 h2 h3;injection h1 with h1;injection h1 with h1 h2;exact⟨h1,h2⟩
   obtain⟨Jy,JQ,MH,Ee,KU,EF,MV,vC,uX⟩:=Dj k x hx;obtain rfl:vl=Jy:=by
    have:=(kJ.o.cell (p:=⟨bg,off+k*5+1,none⟩) Ej).trans Ee;rw [hc1] at this;simpa using this
   obtain rfl:vr=JQ:=by
    have:=(kJ.o.cell (p:=⟨bg,off+k*5+3,none⟩) Ej).trans EF;rw [hc3] at this;simpa using this
   have lC:=bx (λW (h:Below w0.heap.size w0 W)=>Eb x.1.1 vl x.1.2 W (vC.below h));have Ew:=bx (λW (h:Below w0.heap.size w0 W)=>Eb x.2.1.1 vr x.2.1.2 W (uX.below h));have ou:=bx vC;have DU:=bx uX;have gI:=bx (DV l k x hx);have Yy:k<42:=by omega
   have hkl:k<l.length:=by omega
   have hkc:k<cap:=by omega
   unfold maxLen at hg3;obtain⟨al,cl,rfl⟩:=vC.slice;obtain⟨ar,cr,rfl⟩:=uX.slice;obtain⟨⟨kY,il⟩,⟨str,ir⟩,br⟩:=x;simp only at hc0 hc1 hc2 hc3 hc4 lC Ew ou DU;have dI:=bx (show ∀ W,Below wr.heap.size wr W->W.cell? ⟨bg,off+k*5,none⟩=some (.bool kY)/\W.cell? ⟨bg,off+k*5+1,none⟩=some (.slice al il.length cl)/\W.cell? ⟨bg,off+k*5+2,none⟩=some (.bool str)/\W.cell? ⟨bg,off+k*5+3,none⟩=some (.slice ar ir.length cr)/\W.cell? ⟨bg,off+k*5+4,none⟩=some (.bool br) from λW h =>
    ⟨(h.cell (p:=⟨bg,off+k*5,none⟩) hg4).trans hc0,(h.cell (p:=⟨bg,off+k*5+1,none⟩) hg4).trans hc1,(h.cell (p:=⟨bg,off+k*5+2,none⟩) hg4).trans hc2,(h.cell (p:=⟨bg,off+k*5+3,none⟩) hg4).trans hc3,(h.cell (p:=⟨bg,off+k*5+4,none⟩) hg4).trans hc4⟩)
   have aF:=bx (show Below wr.heap.size wr wr.drew from⟨rfl,rfl,rfl,Nat.le_refl _,λ_ _=>rfl⟩);clear hg1 hg5 D8 Dj hil hir vC uX MH Ee KU EF MV hc0 hc1 hc2 hc3 hc4 hx Ll Nc;go_wp2_with fail;refine dO 20 (λW=>W.cell? ⟨bg,off+k*5,none⟩=some (.bool kY)/\W.cell? ⟨bg,off+k*5+1,none⟩=some (.slice al il.length cl)/\W.cell? ⟨bg,off+k*5+2,none⟩=some (.bool str)/\W.cell? ⟨bg,off+k*5+3,none⟩=some (.slice ar ir.length cr)/\W.cell? ⟨bg,off+k*5+4,none⟩=some (.bool br)) (by kernel_rfl) ?_;have aC:=bx (dI.o _ aF.o);refine kS 0 ?_ rfl aC.o ?_ ?_;rotate_left
   ·rintro w ⟨a,b,c,d,e⟩;go_simp;try rfl
   refine kS 1 ?_ rfl aC.o ?_ ?_;rotate_left
   ·rintro w ⟨a,b,c,d,e⟩;go_simp;try rfl
   refine kS 2 ?_ rfl aC.o ?_ ?_;rotate_left
   ·rintro w ⟨a,b,c,d,e⟩;go_simp;try rfl
   refine kS 3 ?_ rfl aC.o ?_ ?_;rotate_left
   ·rintro w ⟨a,b,c,d,e⟩;go_simp;try rfl
   refine kS 4 ?_ rfl aC.o ?_ ?_;rotate_left
   ·rintro w ⟨a,b,c,d,e⟩;go_simp;try rfl
   refine kS 5 ?_ rfl aC.o ?_ ?_;rotate_left
   ·rintro w ⟨a,b,c,d,e⟩;go_simp;try rfl
   refine kS 7 ?_ rfl aC.o ?_ ?_;rotate_left
   ·rintro w ⟨a,b,c,d,e⟩;go_simp;try rfl
   refine kS 8 ?_ rfl aC.o ?_ ?_;rotate_left
   ·rintro w ⟨a,b,c,d,e⟩;go_simp;try rfl
   refine kS 9 ?_ rfl aC.o ?_ ?_;rotate_left
   ·rintro w ⟨a,b,c,d,e⟩;go_simp;try rfl
   refine kS 10 ?_ rfl aC.o ?_ ?_;rotate_left
   ·rintro w ⟨a,b,c,d,e⟩;go_simp;try rfl
   refine kS 11 ?_ rfl aC.o ?_ ?_;rotate_left
   ·rintro w ⟨a,b,c,d,e⟩;go_simp;try rfl
   refine kS 13 ?_ rfl aC.o ?_ ?_;rotate_left
   ·rintro w ⟨a,b,c,d,e⟩;go_simp;try rfl
   refine kS 14 ?_ rfl aC.o ?_ ?_;rotate_left
   ·rintro w ⟨a,b,c,d,e⟩;go_simp;try rfl
   refine kS 15 ?_ rfl aC.o ?_ ?_;rotate_left
   ·rintro w ⟨a,b,c,d,e⟩;go_simp;try rfl
   refine kS 16 ?_ rfl aC.o ?_ ?_;rotate_left
   ·rintro w ⟨a,b,c,d,e⟩;go_simp;try rfl
   refine kS 17 ?_ rfl aC.o ?_ ?_;rotate_left
   ·rintro w ⟨a,b,c,d,e⟩;go_simp;try rfl
   refine kP 6 rfl λKK aj=>?_
   go_simp;go_wp2_with (go_at_call 82;refine(lC.o _ (bt kJ.o aF.o)).mono ?_;rintro e w7 ⟨⟨vl2,rfl,hvl⟩,hb7⟩)
   have aH:=bx (show Below wr.heap.size wr w7 from aF.o.trans (hb7.mono (Nat.le_refl _)));have ug:=bx (hvl w0 ou.o);clear hb7 hvl;refine aj.out _ _ (λ_=>dI.o _ aH.o) ?_;clear aj KK;refine kP 12 rfl λKK aj=>?_
   go_simp;go_wp2_with (go_at_call 82;refine(Ew.o _ (bt kJ.o aH.o)).mono ?_;rintro e w8 ⟨⟨vr2,rfl,oQ⟩,hb8⟩)
   have aY:=bx (show Below wr.heap.size wr w8 from bt aH.o hb8);have zL:=bx (oQ w0 DU.o);clear hb8 oQ;refine aj.out _ _ (λ_=>dI.o _ aY.o) ?_;clear aj KK;obtain⟨CS,Dy,hv2⟩:=ug.o.slice;obtain⟨Ef,Df,hv3⟩:=zL.o.slice;generalize (il.take 12).length=nl at hv2;generalize (ir.take 12).length=nr at hv3;subst hv2;subst hv3;refine kP 18 rfl λKK aj=>?_
   go_simp;refine aj.out _ _ (λ_=>dI.o _ aY.o) ?_;clear aj KK;refine kP 19 rfl λKK aj=>?_
   go_simp;refine aj.out _ _ (λ_=>dI.o _ (aY.o.alloc aY.o.size _)) ?_;clear aj KK;have dS:=bx (mX.o.below aY.o);have Js:w.heap.size<=w8.heap.size:=Nat.le_trans aV.o.size aY.o.size;refine kP 20 rfl λKK aj=>?_
   refine Po (cs:=lD (ng ((kY,il),(str,ir),br), .slice CS nl Dy, .slice Ef nr Df)) rfl _ _ 41 rfl Oy (by decide) dS.o 0 rfl (by kernel_rfl) (by kernel_rfl) rfl (by intro u hu;simp only [lD,List.mem_cons,List.not_mem_nil,or_false] at hu;rcases hu with rfl | rfl | rfl | rfl | rfl <;> rfl) (by omega) (by omega) Js ?_;rintro v' w9 jo -;refine aj.out _ _ (λh=>by cases h) ?_;clear aj KK;refine kP 21 rfl λKK aj=>?_
   go_simp;refine aj.out _ _ (λh=>by cases h) ?_;clear aj KK;refine kD ?_ _;have HN:=bx (show ∃ L:List (D.Rule×Value×Value),L.length=k+1/\L.map (·.1)=(l.take (k+1)).map ng/\sW w0 L/\Sep [Pc.row w.heap.size 147 5 v' (k+1) (L.flatMap lD),Pc.old w.heap.size w] w9 by
    refine⟨L++[(ng ((kY,il),(str,ir),br), .slice CS nl Dy, .slice Ef nr Df)],?_,?_,?_,?_⟩
    ·rw [List.length_append,iQ.o];rfl
    ·rw [List.map_append,HL2.o,gI.o,List.map_append];rfl
    ·intro y hy
     rcases List.mem_append.1 hy with h | h
     ·exact qF.o y h
     ·rw [List.mem_singleton.1 h];exact⟨ug.o,zL.o⟩
    ·rw [List.flatMap_append,List.flatMap_singleton];exact jo)
   clear jo;go_wp2_with fail
   go_roundw
   case rel=>exact⟨k+1,hlt,by go_num,HN⟩
   case measure=>simp [intOf];omega
  ·have hkm:k=m:=by omega
   have uG:=bx hkm;have hd:l.length<=k\/(k<l.length/\42<=k):=by have:=HM.o;omega
   clear hkm
   rcases hd with hd | ⟨hd,hd2⟩
   all_goals
    go_wp2_with fail;go_ret
    refine⟨aV.o,_,rfl,L,?_,qF.o,by rw [iQ.o];exact mX.o.row 0 rfl⟩;rw [HL2.o];unfold mJ;rw [uG.o,HM.o]
    rcases Nat.le_total l.length 42 with h | h
    ·rw [Nat.min_eq_left h,List.take_of_length_le h,List.take_length]
    ·rw [Nat.min_eq_right h]
def gX (t:Tab):Tab:=⟨t.n,jm t.p,(mJ t.r).take 12,ku t.m⟩
theorem Nw {W w:World} {base n:Nat} {v:Value} {L:List (D.Rule×Value×Value)} {l:List D.Rule} (h:W.ownsRow base 147 5 v n (L.flatMap lD)) (hn:n=L.length) (hV:sW w L) (hb:Below w.heap.size w W) (hl:L.map (·.1)=l):dP W v l :=
 hl▸O4 h hn (λy hy=>⟨(hV y hy).1.below hb,(hV y hy).2.below hb⟩)
theorem yO (v:Value) (t:Tab) (w0 w:World) (hv:TabAt w0 v t) (hb0:Below w0.heap.size w0 w) :
  Calls prog 21 #[v] w λe w'=>Below w.heap.size w w'/\∃ v',e = .returned v'/\∀ W',Turns (λq=>q<w.heap.size) w' W'->Below w0.heap.size w0 W'->TabAt W' v' (gX t):=by
 obtain⟨pi,pb,rv,nv,fv,rfl,h1,h2,h3,h4,h5⟩:=hv;obtain⟨V,hV⟩:∃ V,V=(w.alloc (.cells #[.int .i64 t.n,pi,pb,rv,nv,fv] 46)).alloc (.cells #[.int .i64 0, .slice none 0 0, .slice none 0 0, .slice none 0 0, .slice none 0 0, .slice none 0 0] 46):=⟨_,rfl⟩
 have aU:=bx (show Sep [Pc.blk (w.heap.size+1) 46 #[.int .i64 0, .slice none 0 0, .slice none 0 0, .slice none 0 0, .slice none 0 0, .slice none 0 0],Pc.blk w.heap.size 46 #[.int .i64 t.n,pi,pb,rv,nv,fv],Pc.old w.heap.size w] V by
  rw [hV];have h:=((Sep.start w).dh 46 #[.int .i64 t.n,pi,pb,rv,nv,fv]).dh 46 #[.int .i64 0, .slice none 0 0, .slice none 0 0, .slice none 0 0, .slice none 0 0, .slice none 0 0]
  simpa using h)
 have HB0:=bx hb0;have bG:=bx (show Below w.heap.size w V from aU.o.bel (by simp));have dG:=bx (aU.o.blk 1 rfl);have nV:=bx (λW (h:Below w.heap.size w W)=>Ns rv t.r w0 W h3 (bt HB0.o h));have HC2:=bx (λW (h:Below w.heap.size w W)=>Ny pb pi t.p w0 W h1 h2 (bt HB0.o h));have fA:=bx (λW (h:Below w.heap.size w W)=>Nr (.agg #[nv,fv]) t.m w0 W ⟨nv,fv,rfl,h4,h5⟩ (bt HB0.o h));have dI:=bx (show ∀ W,Below V.heap.size V W->W.cell? ⟨w.heap.size,0,none⟩=some (.int .i64 t.n)/\W.cell? ⟨w.heap.size,1,none⟩=some (pi)/\W.cell? ⟨w.heap.size,2,none⟩=some (pb)/\W.cell? ⟨w.heap.size,3,none⟩=some (rv)/\W.cell? ⟨w.heap.size,4,none⟩=some (nv)/\W.cell? ⟨w.heap.size,5,none⟩=some (fv)/\w.heap.size<W.heap.size from λW h=>⟨((dG.o.below h dG.o.lt).cell 0).trans rfl,((dG.o.below h dG.o.lt).cell 1).trans rfl,((dG.o.below h dG.o.lt).cell 2).trans rfl,((dG.o.below h dG.o.lt).cell 3).trans rfl,((dG.o.below h dG.o.lt).cell 4).trans rfl,((dG.o.below h dG.o.lt).cell 5).trans rfl,(dG.o.below h dG.o.lt).lt⟩);have HV:=bx hV;have kN:=bx (show V.heap.size=w.heap.size+1+1 by rw [hV];simp);clear h1 h2 h3 h4 h5 hV hb0
 go_enter func21,ntmps21
 go_upto_region 1 with(fail)
 rw [<- HV.o];obtain⟨c0,c1,c2,c3,c4,c5,cl⟩:=dI.o V (Below.refl _ _);go_wp2_with fail;refine(nV.o _ bG.o).mono ?_;rintro e w1 ⟨hb1,v1,rfl,L1,hL1,hV1,ho1⟩;clear c0 c1 c2 c3 c4 c5 cl;obtain⟨ro,rc,rfl,hr1,hr2⟩:=dN ho1;have HB1:=bx hb1;have abA:=bx (bt bG.o hb1);have bQ:=bx (aU.o.got (base:=w.heap.size) hb1 ho1 bG.o.size);have iQ:=bx hL1;have dU:=bx hV1;clear hb1 hL1 hV1 ho1;obtain⟨m1,hm1⟩:∃ m,L1.length=m:=⟨_,rfl⟩
 rw [hm1] at bQ hr1 ⊢;have fD:=bx hm1;have HZ1:=bx (show L1.length=(mJ t.r).length by rw [<- iQ.o,List.length_map]);clear hm1;have aF:=bx (show Below V.heap.size V w1.drew from HB1.o.trans (show Below V.heap.size w1 w1.drew from⟨rfl,rfl,rfl,Nat.le_refl _,λ_ _=>rfl⟩));have cZ:=bx bQ.o.drew
 go_upto_region 2 with(fail)
 obtain⟨m2,hm2⟩:∃ m,(min (m1:Int) 12).toNat=m:=⟨_,rfl⟩
 have QI:(min (m1:Int) 12)<=(rc:Int):=by omega
 have PK:(0:Int)<=min (m1:Int) 12:=by omega
 have kZ:=bx (show m2=min m1 12 by omega);refine dO 14 (λW=>W.cell? ⟨w.heap.size,0,none⟩=some (.int .i64 t.n)/\W.cell? ⟨w.heap.size,1,none⟩=some (pi)/\W.cell? ⟨w.heap.size,2,none⟩=some (pb)/\W.cell? ⟨w.heap.size,3,none⟩=some (rv)/\W.cell? ⟨w.heap.size,4,none⟩=some (nv)/\W.cell? ⟨w.heap.size,5,none⟩=some (fv)) (by kernel_rfl) ?_;have uN:=bx (show ∀ W,Below V.heap.size V W->W.cell? ⟨w.heap.size,0,none⟩=some (.int .i64 t.n)/\W.cell? ⟨w.heap.size,1,none⟩=some (pi)/\W.cell? ⟨w.heap.size,2,none⟩=some (pb)/\W.cell? ⟨w.heap.size,3,none⟩=some (rv)/\W.cell? ⟨w.heap.size,4,none⟩=some (nv)/\W.cell? ⟨w.heap.size,5,none⟩=some (fv) from λW h=>by
  obtain⟨q0,q1,q2,q3,q4,q5,-⟩:=dI.o W h;exact⟨q0,q1,q2,q3,q4,q5⟩)
 have aC:=bx (uN.o _ aF.o);have aJ:=bx (bt bG.o aF.o);have gJ:=bx (show w.heap.size<=w1.drew.heap.size from aJ.o.size);generalize w1.drew=WR at *;refine kS 0 ?_ rfl aC.o ?_ ?_;rotate_left
 ·rintro w ⟨a,b,c,d,e,f⟩;go_simp;try rfl
 refine kS 1 ?_ rfl aC.o ?_ ?_;rotate_left
 ·rintro w ⟨a,b,c,d,e,f⟩;go_simp;try rfl
 refine kS 2 ?_ rfl aC.o ?_ ?_;rotate_left
 ·rintro w ⟨a,b,c,d,e,f⟩;go_simp;try rfl
 refine kS 3 ?_ rfl aC.o ?_ ?_;rotate_left
 ·rintro w ⟨a,b,c,d,e,f⟩;go_simp;try rfl
 refine kS 5 ?_ rfl aC.o ?_ ?_;rotate_left
 ·rintro w ⟨a,b,c,d,e,f⟩;go_simp;try rfl
 refine kS 6 ?_ rfl aC.o ?_ ?_;rotate_left
 ·rintro w ⟨a,b,c,d,e,f⟩;go_simp;try rfl
 refine kS 7 ?_ rfl aC.o ?_ ?_;rotate_left
 ·rintro w ⟨a,b,c,d,e,f⟩;go_simp;try rfl
 refine kS 8 ?_ rfl aC.o ?_ ?_;rotate_left
 ·rintro w ⟨a,b,c,d,e,f⟩;go_simp;try rfl
 refine kS 9 ?_ rfl aC.o ?_ ?_;rotate_left
 ·rintro w ⟨a,b,c,d,e,f⟩;go_simp;try rfl
 refine kS 10 ?_ rfl aC.o ?_ ?_;rotate_left
 ·rintro w ⟨a,b,c,d,e,f⟩;go_simp;try rfl
 refine kS 11 ?_ rfl aC.o ?_ ?_;rotate_left
 ·rintro w ⟨a,b,c,d,e,f⟩;go_simp;try rfl
 refine kP 4 rfl λKK aj=>?_
 go_simp;go_wp2_with (go_at_call 34;refine(HC2.o _ aJ.o).mono ?_;rintro e w2 ⟨hb2,f2,v2,L2,rfl,hi2,hV2,ho2⟩)
 have HB2:=bx (show Below V.heap.size V w2 from bt aF.o hb2);have dQ:=bx (bt aJ.o hb2);have HS2:=bx (cZ.o.got (base:=w.heap.size) hb2 ho2 gJ.o);have gW:=bx (show w.heap.size<=w2.heap.size from dQ.o.size);obtain⟨zC,xg,rfl,-,-⟩:=dN ho2;obtain⟨fa2,BI,rfl⟩:=hi2.slice;have HI2:=bx hi2;have eY:=bx hV2;clear hb2 hV2 ho2 aJ gJ hi2;have aJ:=dQ;have gJ:=gW;clear dQ gW;refine aj.out _ _ (λ_=>uN.o _ HB2.o) ?_;clear aj KK;refine kP 12 rfl λKK aj=>?_
 go_simp;go_wp2_with (go_at_call 45;refine(fA.o _ aJ.o).mono ?_;rintro e w3 ⟨hb3,v3,f3,L3,rfl,lF,ho3,hi3⟩)
 have HB3:=bx (show Below V.heap.size V w3 from bt HB2.o hb3);have dQ:=bx (bt aJ.o hb3);have aK:=bx (HS2.o.got (base:=w.heap.size) hb3 ho3 gJ.o);have gW:=bx (show w.heap.size<=w3.heap.size from dQ.o.size);obtain⟨y8,yX,rfl,-,-⟩:=dN ho3;obtain⟨fa3,zf,rfl⟩:=hi3.slice;have HI3:=bx hi3;have nU:=bx lF;clear hb3 lF ho3 aJ gJ hi3;have aJ:=dQ;have gJ:=gW;clear dQ gW;refine aj.out _ _ (λ_=>uN.o _ HB3.o) ?_;clear aj KK;refine kP 13 rfl λKK aj=>?_
 go_simp;refine aj.out _ _ (λ_=>uN.o _ HB3.o) ?_;clear aj KK;have HG:=bx (aK.o.blk 3 rfl);have y0:=(HG.o.cell 0).trans (show _=some (Value.int .i64 0) from rfl);have e0:=HG.o.frozen 0;have y1:=(HG.o.cell 1).trans (show _=some (Value.slice none 0 0) from rfl);have e1:=HG.o.frozen 1;have y2:=(HG.o.cell 2).trans (show _=some (Value.slice none 0 0) from rfl);have e2:=HG.o.frozen 2;have y3:=(HG.o.cell 3).trans (show _=some (Value.slice none 0 0) from rfl);have e3:=HG.o.frozen 3;have y4:=(HG.o.cell 4).trans (show _=some (Value.slice none 0 0) from rfl);have e4:=HG.o.frozen 4;have y5:=(HG.o.cell 5).trans (show _=some (Value.slice none 0 0) from rfl);have e5:=HG.o.frozen 5;have yl:=HG.o.lt;have aG:=bx ((((((aK.o.set 3 rfl 0 (.int .i64 t.n)).set 3 rfl 1 (.slice fa2 (jm t.p).1.length BI)).set 3 rfl 2 (.slice zC L2.length xg)).set 3 rfl 3 (.slice ro m2 rc)).set 3 rfl 4 (.slice y8 L3.length yX)).set 3 rfl 5 (.slice fa3 (ku t.m).2.length zf));refine kP 14 rfl λKK aj=>?_
 go_simp;refine aj.out _ _ (λh=>by cases h) ?_;clear aj KK;refine kD ?_ _;go_wp2_with fail;have dY:=aG.o.bel (n:=w.heap.size) (W0:=w) (by simp);refine bodyPost_ret (v:=.agg #[.int .i64 t.n, .slice fa2 (jm t.p).1.length BI, .slice zC L2.length xg, .slice ro m2 rc, .slice y8 L3.length yX, .slice fa3 (ku t.m).2.length zf]) (results_cell_row results21 _ _ (w.heap.size+1) 46 _ (0,0) _ rfl (aG.o.blk 3 rfl) underlying46 rfl NT) rfl ⟨dY,_,rfl,λW' ht hbw=>⟨_,_,_,_,_,rfl,?_,?_,?_,?_,?_⟩⟩
 ·exact HI2.o.below hbw
 ·exact Dh (vX (aG.o.row 1 rfl) ht) rfl eY.o hbw
 ·have hr:=Nw (vX (aG.o.row 2 rfl) ht) fD.o.symm dU.o hbw iQ.o;rw [<- fD.o,HZ1.o] at hr;have hk:=hr.take 12 (cap':=rc) (by rw [List.length_take];have:=HZ1.o;have:=fD.o;omega) (Nat.le_refl _);rw [show ((mJ t.r).take 12).length=m2 by rw [List.length_take,kZ.o,<- fD.o,HZ1.o];omega] at hk;exact hk
 ·exact Dh (vX (aG.o.row 0 rfl) ht) rfl nU.o hbw
 ·exact HI3.o.below hbw
end
section
open Go.RowKit
attribute [local go_sem] Oper.semAt_some
theorem yx (t:Tab):wz (gX t) where
 p1:=by have:=(uJ t.p).1;show (jm t.p).1.length<=_;omega
 p2:=by have:=(uJ t.p).2.1;show (jm t.p).2.length<=_;omega
 p3:=λr hr=>by have:=(uJ t.p).2.2 r hr;omega
 r1:=λx hx=>by
  have hx2:=List.mem_of_mem_take hx;unfold mJ at hx2;obtain⟨y,-,rfl⟩:=List.mem_map.1 hx2;unfold pz ng;simp only [List.length_take];exact⟨by omega,by omega⟩
 r2:=by show ((mJ t.r).take 12).length<=_;rw [List.length_take];omega
 m:=J8 t.m
theorem akj (A:Nat->Addr) (B:Nat) (v vt:Value) (c:T.Cs) (t:Tab) (s:ByteArray) (w:World) (hv:bC w v c) (ht:TabAt w vt t) (hz:s.size<=9223372036854775807) (hS:Sw A B w) :
  Calls prog 5 #[v,vt, .string s] w λe w'=>e = .returned (.bool true)/\Below w.heap.size w w':=by
 have HS:=bx hS;have iF:=bx hv;obtain⟨lv,tv,ci,cb,gi,gb,rfl,h1,h2,h3,h4,h5,h6⟩:=hv;obtain⟨a1,c1,rfl,-⟩:=h1.slice;obtain⟨a2,c2,rfl,-⟩:=h2.slice;obtain⟨a3,c3,rfl⟩:=h3.slice;obtain⟨a4,c4,rfl⟩:=h4.slice;obtain⟨a5,c5,rfl⟩:=h5.slice;obtain⟨a6,c6,rfl⟩:=h6.slice;clear h1 h2 h3 h4 h5 h6;generalize c.lo.length=n1,c.ti.length=n2,c.ca.1.length=n3,c.ca.2.length=n4,c.ig.1.length=n5,c.ig.2.length=n6 at iF ⊢;have xw:=bx ht;obtain⟨pi,pb,rv,nv,fv,rfl,t1,t2,t3,t4,t5⟩:=ht;obtain⟨x1,z1,rfl⟩:=t1.slice;obtain⟨x2,z2,rfl⟩:=t2.slice;obtain⟨x3,z3,rfl⟩:=t3.slice;obtain⟨x4,z4,rfl⟩:=t4.slice;obtain⟨x5,z5,rfl⟩:=t5.slice;clear t1 t2 t3 t4 t5;generalize t.p.1.length=y1,t.p.2.length=y2,t.r.length=y3,t.m.1.length=y4,t.m.2.length=y5,t.n=nt at xw ⊢;have gQ:=bx (λW=>DI s W hz);have iH:=bx (Dc s);obtain⟨V,hV⟩:∃ V,V=(w.alloc (.cells #[.slice a1 n1 c1, .slice a2 n2 c2, .slice a3 n3 c3, .slice a4 n4 c4, .slice a5 n5 c5, .slice a6 n6 c6] 28)).alloc (.cells #[.int .i64 nt, .slice x1 y1 z1, .slice x2 y2 z2, .slice x3 y3 z3, .slice x4 y4 z4, .slice x5 y5 z5] 46):=⟨_,rfl⟩
 have jv:=bx (show Sep [Pc.blk (w.heap.size+1) 46 #[.int .i64 nt, .slice x1 y1 z1, .slice x2 y2 z2, .slice x3 y3 z3, .slice x4 y4 z4, .slice x5 y5 z5],Pc.blk w.heap.size 28 #[.slice a1 n1 c1, .slice a2 n2 c2, .slice a3 n3 c3, .slice a4 n4 c4, .slice a5 n5 c5, .slice a6 n6 c6],Pc.old w.heap.size w] V by
  rw [hV];have h:=((Sep.start w).dh 28 #[.slice a1 n1 c1, .slice a2 n2 c2, .slice a3 n3 c3, .slice a4 n4 c4, .slice a5 n5 c5, .slice a6 n6 c6]).dh 46 #[.int .i64 nt, .slice x1 y1 z1, .slice x2 y2 z2, .slice x3 y3 z3, .slice x4 y4 z4, .slice x5 y5 z5]
  simpa using h)
 have HB0:=bx (jv.o.bel (n:=w.heap.size) (W0:=w) (by simp));have bK:=bx (show V.heap.size=w.heap.size+1+1 by rw [hV];simp);have HV:=bx hV;clear hS hV hz;generalize jF s=cs at gQ iH
 go_enter func5,ntmps5
 go_wp2_with fail;rw [<- HV.o];refine(zG A B V (HS.o.below HB0.o)).mono ?_;rintro e w1 ⟨rfl,hb1⟩;have HB1:=bx (bT HB0.o hb1);have iE:=bx (jv.o.below hb1);have bQ:=bx (show w.heap.size+1<w1.heap.size by have:=bK.o;have:=hb1.size;omega);clear hb1 HV;have hk:=iE.o.blk 1 rfl;have e0:=(hk.cell 0).trans (show _=some (Value.slice a1 n1 c1) from rfl);have e1:=(hk.cell 1).trans (show _=some (Value.slice a2 n2 c2) from rfl);have e2:=(hk.cell 2).trans (show _=some (Value.slice a3 n3 c3) from rfl);have e3:=(hk.cell 3).trans (show _=some (Value.slice a4 n4 c4) from rfl);have e4:=(hk.cell 4).trans (show _=some (Value.slice a5 n5 c5) from rfl);have e5:=(hk.cell 5).trans (show _=some (Value.slice a6 n6 c6) from rfl);have el:=hk.lt;clear hk;have bW:=bx (Au _ c w w1 iF.o HB1.o);go_wp2_with fail;refine bW.o.mono ?_;rintro e w2 ⟨hb2,v',rfl,bV⟩;clear e0 e1 e2 e3 e4 e5 el;have HB2:=bx (bT HB1.o hb2);have gq:=bx (iE.o.below hb2);obtain⟨lv,tv,ci,cb,gi,gb,rfl,h1,h2,h3,h4,h5,h6⟩:=bV w2 (Turns.refl _ _) HB2.o;obtain⟨b1,d1,rfl,-⟩:=h1.slice;obtain⟨b2,d2,rfl,-⟩:=h2.slice;obtain⟨b3,d3,rfl⟩:=h3.slice;obtain⟨b4,d4,rfl⟩:=h4.slice;obtain⟨b5,d5,rfl⟩:=h5.slice;obtain⟨b6,d6,rfl⟩:=h6.slice;clear h1 h2 h3 h4 h5 h6 hb2;have bD:=bx (zM c);generalize xI c=C at bV bD ⊢;generalize C.lo.length=m1,C.ti.length=m2,C.ca.1.length=m3,C.ca.2.length=m4,C.ig.1.length=m5,C.ig.2.length=m6 at bV ⊢;have kE:=bx bV;clear bV bW;have hk:=gq.o.blk 1 rfl;have e0:=(hk.cell 0).trans (show _=some (Value.slice a1 n1 c1) from rfl);have f0:=hk.frozen 0;have e1:=(hk.cell 1).trans (show _=some (Value.slice a2 n2 c2) from rfl);have f1:=hk.frozen 1;have e2:=(hk.cell 2).trans (show _=some (Value.slice a3 n3 c3) from rfl);have f2:=hk.frozen 2;have e3:=(hk.cell 3).trans (show _=some (Value.slice a4 n4 c4) from rfl);have f3:=hk.frozen 3;have e4:=(hk.cell 4).trans (show _=some (Value.slice a5 n5 c5) from rfl);have f4:=hk.frozen 4;have e5:=(hk.cell 5).trans (show _=some (Value.slice a6 n6 c6) from rfl);have f5:=hk.frozen 5;have el:=hk.lt;clear hk;have aO:=bx (show Sep [Pc.blk (w.heap.size+1) 46 #[.int .i64 nt, .slice x1 y1 z1, .slice x2 y2 z2, .slice x3 y3 z3, .slice x4 y4 z4, .slice x5 y5 z5],Pc.blk w.heap.size 28 #[.slice b1 m1 d1, .slice b2 m2 d2, .slice b3 m3 d3, .slice b4 m4 d4, .slice b5 m5 d5, .slice b6 m6 d6],Pc.old w.heap.size w] ((((((w2.setCell ⟨w.heap.size,0,none⟩ (.slice b1 m1 d1)).setCell ⟨w.heap.size,1,none⟩ (.slice b2 m2 d2)).setCell ⟨w.heap.size,2,none⟩ (.slice b3 m3 d3)).setCell ⟨w.heap.size,3,none⟩ (.slice b4 m4 d4)).setCell ⟨w.heap.size,4,none⟩ (.slice b5 m5 d5)).setCell ⟨w.heap.size,5,none⟩ (.slice b6 m6 d6)) from((((((gq.o.set 1 rfl 0 (.slice b1 m1 d1)).set 1 rfl 1 (.slice b2 m2 d2)).set 1 rfl 2 (.slice b3 m3 d3)).set 1 rfl 3 (.slice b4 m4 d4)).set 1 rfl 4 (.slice b5 m5 d5)).set 1 rfl 5 (.slice b6 m6 d6)));have HT3:=bx (show Turns (λq=>q=w.heap.size) w2 ((((((w2.setCell ⟨w.heap.size,0,none⟩ (.slice b1 m1 d1)).setCell ⟨w.heap.size,1,none⟩ (.slice b2 m2 d2)).setCell ⟨w.heap.size,2,none⟩ (.slice b3 m3 d3)).setCell ⟨w.heap.size,3,none⟩ (.slice b4 m4 d4)).setCell ⟨w.heap.size,4,none⟩ (.slice b5 m5 d5)).setCell ⟨w.heap.size,5,none⟩ (.slice b6 m6 d6)) from((((((Turns.setCell (own:=λq=>q=w.heap.size) w2 (p:=⟨w.heap.size,0,none⟩) rfl (.slice b1 m1 d1)).trans (Turns.setCell (own:=λq=>q=w.heap.size) _ (p:=⟨w.heap.size,1,none⟩) rfl (.slice b2 m2 d2))).trans (Turns.setCell (own:=λq=>q=w.heap.size) _ (p:=⟨w.heap.size,2,none⟩) rfl (.slice b3 m3 d3))).trans (Turns.setCell (own:=λq=>q=w.heap.size) _ (p:=⟨w.heap.size,3,none⟩) rfl (.slice b4 m4 d4))).trans (Turns.setCell (own:=λq=>q=w.heap.size) _ (p:=⟨w.heap.size,4,none⟩) rfl (.slice b5 m5 d5))).trans (Turns.setCell (own:=λq=>q=w.heap.size) _ (p:=⟨w.heap.size,5,none⟩) rfl (.slice b6 m6 d6))))
 go_upto_region 3 with(fail)
 generalize ((((((w2.setCell ⟨w.heap.size,0,none⟩ (.slice b1 m1 d1)).setCell ⟨w.heap.size,1,none⟩ (.slice b2 m2 d2)).setCell ⟨w.heap.size,2,none⟩ (.slice b3 m3 d3)).setCell ⟨w.heap.size,3,none⟩ (.slice b4 m4 d4)).setCell ⟨w.heap.size,4,none⟩ (.slice b5 m5 d5)).setCell ⟨w.heap.size,5,none⟩ (.slice b6 m6 d6))=w3 at aO HT3 ⊢;clear e0 f0 e1 f1 e2 f2 e3 f3 e4 f4 e5 f5 el;have HB3:=bx (aO.o.bel (n:=w.heap.size) (W0:=w) (by simp));have zD:=bx (HT3.o.mono (own':=λq=>q<w1.heap.size) (λk hk=>by have:=bQ.o;omega));have hk:=aO.o.blk 0 rfl;have e0:=(hk.cell 0).trans (show _=some (Value.int .i64 nt) from rfl);have e1:=(hk.cell 1).trans (show _=some (Value.slice x1 y1 z1) from rfl);have e2:=(hk.cell 2).trans (show _=some (Value.slice x2 y2 z2) from rfl);have e3:=(hk.cell 3).trans (show _=some (Value.slice x3 y3 z3) from rfl);have e4:=(hk.cell 4).trans (show _=some (Value.slice x4 y4 z4) from rfl);have e5:=(hk.cell 5).trans (show _=some (Value.slice x5 y5 z5) from rfl);have el:=hk.lt;clear hk;have bW:=bx (yO _ t w w3 xw.o HB3.o);go_wp2_with fail;refine bW.o.mono ?_;rintro e w4 ⟨hb4,v',rfl,bV⟩;clear e0 e1 e2 e3 e4 e5 el;have HB4:=bx (bT HB3.o hb4);have zF:=bx (aO.o.below hb4);have HU4:=bx (zD.o.trans (Turns.of_below hb4));have dn:=bx (show w.heap.size+1<w3.heap.size from(aO.o.blk 0 rfl).lt);obtain⟨pi,pb,rv,nv,fv,rfl,t1,t2,t3,t4,t5⟩:=bV w4 (Turns.refl _ _) HB4.o;obtain⟨p1,r1,rfl⟩:=t1.slice;obtain⟨p2,r2,rfl⟩:=t2.slice;obtain⟨p3,r3,rfl⟩:=t3.slice;obtain⟨p4,r4,rfl⟩:=t4.slice;obtain⟨p5,r5,rfl⟩:=t5.slice;clear t1 t2 t3 t4 t5 hb4;have yC:=bx (yx t);generalize gX t=TX at bV yC ⊢;generalize TX.p.1.length=q1,TX.p.2.length=q2,TX.r.length=q3,TX.m.1.length=q4,TX.m.2.length=q5,TX.n=nu at bV ⊢;have XR:=bx bV;clear bV bW;have hk:=zF.o.blk 0 rfl;have e0:=(hk.cell 0).trans (show _=some (Value.int .i64 nt) from rfl);have f0:=hk.frozen 0;have e1:=(hk.cell 1).trans (show _=some (Value.slice x1 y1 z1) from rfl);have f1:=hk.frozen 1;have e2:=(hk.cell 2).trans (show _=some (Value.slice x2 y2 z2) from rfl);have f2:=hk.frozen 2;have e3:=(hk.cell 3).trans (show _=some (Value.slice x3 y3 z3) from rfl);have f3:=hk.frozen 3;have e4:=(hk.cell 4).trans (show _=some (Value.slice x4 y4 z4) from rfl);have f4:=hk.frozen 4;have e5:=(hk.cell 5).trans (show _=some (Value.slice x5 y5 z5) from rfl);have f5:=hk.frozen 5;have el:=hk.lt;clear hk;have aQ:=bx (show Sep [Pc.blk (w.heap.size+1) 46 #[.int .i64 nu, .slice p1 q1 r1, .slice p2 q2 r2, .slice p3 q3 r3, .slice p4 q4 r4, .slice p5 q5 r5],Pc.blk w.heap.size 28 #[.slice b1 m1 d1, .slice b2 m2 d2, .slice b3 m3 d3, .slice b4 m4 d4, .slice b5 m5 d5, .slice b6 m6 d6],Pc.old w.heap.size w] ((((((w4.setCell ⟨w.heap.size+1,0,none⟩ (.int .i64 nu)).setCell ⟨w.heap.size+1,1,none⟩ (.slice p1 q1 r1)).setCell ⟨w.heap.size+1,2,none⟩ (.slice p2 q2 r2)).setCell ⟨w.heap.size+1,3,none⟩ (.slice p3 q3 r3)).setCell ⟨w.heap.size+1,4,none⟩ (.slice p4 q4 r4)).setCell ⟨w.heap.size+1,5,none⟩ (.slice p5 q5 r5)) from((((((zF.o.set 0 rfl 0 (.int .i64 nu)).set 0 rfl 1 (.slice p1 q1 r1)).set 0 rfl 2 (.slice p2 q2 r2)).set 0 rfl 3 (.slice p3 q3 r3)).set 0 rfl 4 (.slice p4 q4 r4)).set 0 rfl 5 (.slice p5 q5 r5)));have AZ:=bx (show Turns (λq=>q=w.heap.size+1) w4 ((((((w4.setCell ⟨w.heap.size+1,0,none⟩ (.int .i64 nu)).setCell ⟨w.heap.size+1,1,none⟩ (.slice p1 q1 r1)).setCell ⟨w.heap.size+1,2,none⟩ (.slice p2 q2 r2)).setCell ⟨w.heap.size+1,3,none⟩ (.slice p3 q3 r3)).setCell ⟨w.heap.size+1,4,none⟩ (.slice p4 q4 r4)).setCell ⟨w.heap.size+1,5,none⟩ (.slice p5 q5 r5)) from((((((Turns.setCell (own:=λq=>q=w.heap.size+1) w4 (p:=⟨w.heap.size+1,0,none⟩) rfl (.int .i64 nu)).trans (Turns.setCell (own:=λq=>q=w.heap.size+1) _ (p:=⟨w.heap.size+1,1,none⟩) rfl (.slice p1 q1 r1))).trans (Turns.setCell (own:=λq=>q=w.heap.size+1) _ (p:=⟨w.heap.size+1,2,none⟩) rfl (.slice p2 q2 r2))).trans (Turns.setCell (own:=λq=>q=w.heap.size+1) _ (p:=⟨w.heap.size+1,3,none⟩) rfl (.slice p3 q3 r3))).trans (Turns.setCell (own:=λq=>q=w.heap.size+1) _ (p:=⟨w.heap.size+1,4,none⟩) rfl (.slice p4 q4 r4))).trans (Turns.setCell (own:=λq=>q=w.heap.size+1) _ (p:=⟨w.heap.size+1,5,none⟩) rfl (.slice p5 q5 r5))))
 go_upto_region 4 with(fail)
 generalize ((((((w4.setCell ⟨w.heap.size+1,0,none⟩ (.int .i64 nu)).setCell ⟨w.heap.size+1,1,none⟩ (.slice p1 q1 r1)).setCell ⟨w.heap.size+1,2,none⟩ (.slice p2 q2 r2)).setCell ⟨w.heap.size+1,3,none⟩ (.slice p3 q3 r3)).setCell ⟨w.heap.size+1,4,none⟩ (.slice p4 q4 r4)).setCell ⟨w.heap.size+1,5,none⟩ (.slice p5 q5 r5))=w5 at aQ AZ ⊢;clear e0 f0 e1 f1 e2 f2 e3 f3 e4 f4 e5 f5 el;have aP:=bx (aQ.o.bel (n:=w.heap.size) (W0:=w) (by simp));have fZ:=bx (show bC w5 (.agg #[.slice b1 m1 d1, .slice b2 m2 d2, .slice b3 m3 d3, .slice b4 m4 d4, .slice b5 m5 d5, .slice b6 m6 d6]) C from kE.o w5 (HU4.o.trans (AZ.o.mono (λk hk=>by have:=bQ.o;omega))) aP.o);have kL:=bx (show TabAt w5 (.agg #[.int .i64 nu, .slice p1 q1 r1, .slice p2 q2 r2, .slice p3 q3 r3, .slice p4 q4 r4, .slice p5 q5 r5]) TX from XR.o w5 (AZ.o.mono (λk hk=>by have:=dn.o;omega)) aP.o);have aG:=bx (HS.o.below aP.o);have aB:=bx (λW (h:Below w5.heap.size w5 W)=>show W.cell? ⟨w.heap.size,0,none⟩=some (.slice b1 m1 d1)/\W.cell? ⟨w.heap.size,1,none⟩=some (.slice b2 m2 d2)/\W.cell? ⟨w.heap.size,2,none⟩=some (.slice b3 m3 d3)/\W.cell? ⟨w.heap.size,3,none⟩=some (.slice b4 m4 d4)/\W.cell? ⟨w.heap.size,4,none⟩=some (.slice b5 m5 d5)/\W.cell? ⟨w.heap.size,5,none⟩=some (.slice b6 m6 d6)/\w.heap.size<W.heap.size from⟨(((aQ.o.blk 1 rfl).below h (aQ.o.blk 1 rfl).lt).cell 0).trans rfl,(((aQ.o.blk 1 rfl).below h (aQ.o.blk 1 rfl).lt).cell 1).trans rfl,(((aQ.o.blk 1 rfl).below h (aQ.o.blk 1 rfl).lt).cell 2).trans rfl,(((aQ.o.blk 1 rfl).below h (aQ.o.blk 1 rfl).lt).cell 3).trans rfl,(((aQ.o.blk 1 rfl).below h (aQ.o.blk 1 rfl).lt).cell 4).trans rfl,(((aQ.o.blk 1 rfl).below h (aQ.o.blk 1 rfl).lt).cell 5).trans rfl,((aQ.o.blk 1 rfl).below h (aQ.o.blk 1 rfl).lt).lt⟩);have lT:=bx (λW (h:Below w5.heap.size w5 W)=>show W.cell? ⟨w.heap.size+1,0,none⟩=some (.int .i64 nu)/\W.cell? ⟨w.heap.size+1,1,none⟩=some (.slice p1 q1 r1)/\W.cell? ⟨w.heap.size+1,2,none⟩=some (.slice p2 q2 r2)/\W.cell? ⟨w.heap.size+1,3,none⟩=some (.slice p3 q3 r3)/\W.cell? ⟨w.heap.size+1,4,none⟩=some (.slice p4 q4 r4)/\W.cell? ⟨w.heap.size+1,5,none⟩=some (.slice p5 q5 r5)/\w.heap.size+1<W.heap.size from⟨(((aQ.o.blk 0 rfl).below h (aQ.o.blk 0 rfl).lt).cell 0).trans rfl,(((aQ.o.blk 0 rfl).below h (aQ.o.blk 0 rfl).lt).cell 1).trans rfl,(((aQ.o.blk 0 rfl).below h (aQ.o.blk 0 rfl).lt).cell 2).trans rfl,(((aQ.o.blk 0 rfl).below h (aQ.o.blk 0 rfl).lt).cell 3).trans rfl,(((aQ.o.blk 0 rfl).below h (aQ.o.blk 0 rfl).lt).cell 4).trans rfl,(((aQ.o.blk 0 rfl).below h (aQ.o.blk 0 rfl).lt).cell 5).trans rfl,((aQ.o.blk 0 rfl).below h (aQ.o.blk 0 rfl).lt).lt⟩);clear jv iE gq aO aQ kE HB0 HB1 HB2 bK iF HS bQ;clear zF HT3 AZ zD HU4 dn XR xw HB3 HB4;go_wp2_with fail;refine(gQ.o _).mono ?_;rintro e Vo ⟨rfl,rfl⟩;clear gQ;have iL:=bx (DJ A B _ C cs w5 fZ.o bD.o (by have:=iH.o;omega) aG.o.e aG.o.le);obtain⟨e0,e1,e2,e3,e4,e5,el⟩:=aB.o w5 (Below.refl _ w5);go_wp2_with fail;refine iL.o.mono ?_;rintro e w6 ⟨rfl,hb6⟩;clear e0 e1 e2 e3 e4 e5 el;have cO:=bx (bT (Below.refl _ w5) hb6);clear hb6 iL;have su:=bx (af9 _ C cs w6 (fZ.o.below cO.o) bD.o (by have:=iH.o;omega));obtain⟨e0,e1,e2,e3,e4,e5,el⟩:=aB.o w6 cO.o;go_wp2_with fail;refine su.o.mono ?_;rintro e w7 ⟨rfl,hb7⟩;clear e0 e1 e2 e3 e4 e5 el;have aH:=bx (bT cO.o hb7);clear hb7 su;have mP:=bx (zV A B _ _ C TX cs w7 (fZ.o.below aH.o) bD.o (kL.o.below aH.o) yC.o (by have:=iH.o;omega) (aG.o.below aH.o).e (aG.o.below aH.o).d (aG.o.below aH.o).g (aG.o.below aH.o).t (aG.o.below aH.o).le);obtain⟨e0,e1,e2,e3,e4,e5,el⟩:=aB.o w7 aH.o;obtain⟨f0,f1,f2,f3,f4,f5,fl⟩:=lT.o w7 aH.o;go_wp2_with fail;refine mP.o.mono ?_;rintro e w8 ⟨rfl,hb8⟩;clear e0 e1 e2 e3 e4 e5 el;clear f0 f1 f2 f3 f4 f5 fl;have aY:=bx (bT aH.o hb8);clear hb8 mP;have rW:=bx (an6 _ _ C TX cs w8 (fZ.o.below aY.o) bD.o (kL.o.below aY.o) yC.o (by have:=iH.o;omega));obtain⟨e0,e1,e2,e3,e4,e5,el⟩:=aB.o w8 aY.o;obtain⟨f0,f1,f2,f3,f4,f5,fl⟩:=lT.o w8 aY.o;go_wp2_with fail;refine rW.o.mono ?_;rintro e w9 ⟨rfl,dY⟩;clear e0 e1 e2 e3 e4 e5 el;clear f0 f1 f2 f3 f4 f5 fl;have dM:=bx (bT aY.o dY);clear dY rW;generalize T.jR C cs.data.toList=A1,T.jd C cs.data.toList=E1,T.iJ C TX cs.data.toList=A2,T.jH C TX cs.data.toList=E2;have qG:=bx (bT aP.o dM.o);go_wp2_with fail;go_ret
 exact⟨rfl,qG.o⟩
end
end Go.Proofs.YtlmdjifffmofeaaGreatDoor
