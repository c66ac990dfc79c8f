/- Texts of this claim. -/
import Derived.Test.YtdponihkpomheaaGreatDoorK6
import Derived.Test.YtdponihkpomheaaGreatDoorK12

set_option maxRecDepth 100000
set_option maxHeartbeats 8000000
namespace Go.Proofs.YtdponihkpomheaaGreatDoor
open Go.RowKit
attribute[local go_sem] Oper.semAt_some
open Tryz
def OK(f:Nat->Int):Array Value:=((List.range 256).map λj=>Value.int .i64 (f j)).toArray
theorem ab8(f:Nat->Int)(j:Nat)(_:j<256):(OK f)[j]?=some (Z9 (f j)):=by
 grind[OK]
theorem mL{f g:Nat->Int}(_:∀j,j<256->f j=g j):OK f=OK g:=by
 grind[OK]
theorem amm(f:Nat->Int)(i:Nat)(v:Int):(OK f).setIfInBounds i (Z9 v)=OK λj=>if j=i then v else f j:=by
 unfold OK
 apply Array.ext'
 rw[Array.toList_setIfInBounds]
 apply List.ext_getElem?
 grind
theorem ard(w:World):(Instr.makeSlice 22 (Z9 256) (Z9 256)).run prog w=.ok (.slice (some ⟨w.heap.size,0,none⟩) 256 256) (w.alloc (.cells (OK λ_=>0) 3)):=by
 have hi:(prog.info? 3).map (λi=>(i.zero,i.size,i.bytes))=some (some (Z9 0),1,8):=by rfl
 obtain⟨z,ZY,Vf⟩:=NU.1 hi;simp only[Prod.mk.injEq]at Vf;have ZY:=And.intro ZY Vf;have:=run_makeSlice (P:=prog) (w:=w) 22 3 z (Z9 0) underlying22 ZY.1 ZY.2.1 .i64 .i64 256 256 (by omega) (by omega) (by grind) (by omega) (by omega);have e:madeCells (Value.int .i64 0).cells ((256:Int).toNat*z.size)=OK λ_=>0:=by
  rw[ZY.2.2.1];unfold OK
  apply Array.ext'
  rw[show(256:Int).toNat*1=256 from rfl];have:=toList_madeCells_one (Value.int .i64 0) 256;rw[show(Value.int .i64 0).cells=#[Value.int .i64 0]from rfl]at *;rw[this]
  rfl
 grind
theorem asO{w:World}{g:Nat}{f:Nat->Int}(h:Zv w g 3 (OK f)):Y6 w (.slice (some ⟨g,0,none⟩) 256 256) ((List.range 256).map f):=by
 refine .inr ⟨g,0,none,256,by rfl,by simp,by simp[maxLen],λ_=>⟨rfl,h.lt,λi _ Z4=>?_⟩⟩;have hi:i<256:=by
  grind
 rw[RX,jB hi]at Z4
 cases Z4;rw[Nat.zero_add,h.cell i];exact ab8 f i hi
theorem F.atm(l:List F.ag)(x:F.ag)(y:Int):F.bw (l++[x]) y=if x.1<=y/\y<=x.2.1 then x.2.2 else F.bw l y:=by
 grind[F.bw]
def Fm(l:List F.ag)(row i:Nat)(x:F.ag)(lo r:Int)(j:Nat):Int:=
 if lo<=((row*256+j:Nat):Int)/\((row*256+j:Nat):Int)<r then x.2.2 else F.bw (l.take i) ((row*256+j:Nat):Int)
theorem ajV(l:List F.ag)(row i:Nat)(x:F.ag)(lo:Int):OK (Fm l row i x lo lo)=OK (λj=>F.bw (l.take i) ((row*256+j:Nat):Int)):=
 mL λj _=>by grind[Fm]
theorem atE(l:List F.ag)(row i:Nat)(x:F.ag)(lo r:Int)(_:lo<=r)(_:((row*256:Nat):Int)<=lo):(OK (Fm l row i x lo r)).setIfInBounds (r-((row*256:Nat):Int)).toNat (Z9 x.2.2)=OK (Fm l row i x lo (r+1)):=by
 rw[amm];refine mL λ_ _=>?_
 grind[Fm]
theorem asJ{l:List F.ag}{row i:Nat}{x:F.ag}{lo mn r:Int}(Z4:l[i]?=some x)(_:lo=max ((row*256:Nat):Int) x.1)(_:mn=min (((row*256:Nat):Int)+255) x.2.1)(_:r<=max lo (mn+1))(_:mn<r):OK (Fm l row i x lo r)=OK (λj=>F.bw (l.take (i+1)) ((row*256+j:Nat):Int)):=
 mL λj _=>by
  rw[Uo,Z4,Option.toList_some,F.atm];grind[Fm]
theorem apx(v:Value)(l:List F.ag)(row:Nat)(w:World)(Z2:RT w v l)(hl:∀x∈l,F.cW x=true)(_:row<4352):
  Calls prog 190 #[v,Z9 (row:Int)] w λe w'=>(∃Zy,e=.returned Zy/\Y6 w' Zy (F.bm l row)/\∀g,Zy.ownBlock=some g->w.heap.size<=g/\g<w'.heap.size)/\Z6 w w':=by
 have W4:=bx hl;have ZN:=bx Z2;obtain⟨a,ZU,rfl,W2,VM⟩:=Z2.slice;obtain⟨N,Zp⟩:∃N,l.length=N:=⟨_,rfl⟩
 have ZE:=bx Zp;rw[Zp]at ZN W2⊢;have hm:=ard w;obtain⟨V,ZO⟩:∃V,V=w.alloc (.cells (OK λ_=>0) 3):=⟨_,rfl⟩
 rw[<-ZO]at hm;have ZR:=bx (show Below w.heap.size w V by rw[ZO];exact(Below.refl _ _).alloc Ys _);have ia:=bx (aK ZO);clear Z2 Zp hl ZO
 go_in
 go_wp2_with fail
 go_loopw[7] (λi wr=>∃k:Nat,k<=N/\i=Z9 k/\Box (Zv wr w.heap.size 3 (OK λj=>F.bw (l.take k) ((row*256+j:Nat):Int)))/\Box (Z6 w wr)) (λi _=>N-(intOf i).toNat)
 ·exact⟨0,by omega,rfl,ia,ZR⟩
 obtain⟨k,Z3,rfl,XY,Z8⟩:=hrel
 by_cases Zu:k<N
 ·obtain⟨x,Z4⟩:=Yg l k (by rw[ZE.o];omega);have K1:=W4.o x (Xh Z4);unfold F.cW at K1;simp only[Vm,SS]at K1;obtain⟨⟨⟨⟨Wx,Xd⟩,Wk⟩,UY⟩,TN⟩:=K1;obtain⟨g,off,XV,Y5,XL,Yi,XB,YX⟩:=ZN.o.get (by grind);rw[ZE.o]at Y5;obtain⟨rfl,rfl⟩:=XN Y5;have Yq:=bx (λW(h:Z6 w W)=>show ZQ W g (off+k*3)=some (Z9 x.1)/\ZQ W g (off+k*3+1)=some (Z9 x.2.1)/\ZQ W g (off+k*3+2)=some (Z9 x.2.2)from⟨(h.cell (p:=⟨g,off+k*3,none⟩) XB).trans (YX k x Z4).1,(h.cell (p:=⟨g,off+k*3+1,none⟩) XB).trans (YX k x Z4).2.1,(h.cell (p:=⟨g,off+k*3+2,none⟩) XB).trans (YX k x Z4).2.2⟩);obtain⟨Ws,XX,V2⟩:=Yq.o _ Z8.o;unfold maxLen at Yi;have YD:=bx Z4;clear Z4 Y5 XL YX;go_wp2_with fail;obtain⟨lo,T8⟩:∃lo:Int,max ((row:Int)*256) x.1=lo:=⟨_,rfl⟩
  obtain⟨mn,N6⟩:∃mn:Int,min ((row:Int)*256+256-1) x.2.1=mn:=⟨_,rfl⟩
  rw[T8];have O9:=bx T8;have s3:=bx N6;have OZ:(row:Int)*256<=lo:=by omega
  have TD:mn<=(row:Int)*256+255:=by omega
  have XI:=bx (show Zv wr w.heap.size 3 (OK (Fm l row k x lo lo)) by rw[ajV];exact XY.o)
  go_loopw[8] (λi NL=>∃r:Int,lo<=r/\r<=max lo (mn+1)/\i=Z9 r/\Box (Zv NL w.heap.size 3 (OK (Fm l row k x lo r)))/\Box (Z6 w NL)) (λi _=>(mn+1-intOf i).toNat)
  ·grind
  obtain⟨r,QY,Pf,rfl,SR,xQ⟩:=hrel;obtain⟨RN,Vy,TX⟩:=Yq.o _ xQ.o;clear T8
  by_cases LG:r<=mn
  ·have Zq:decide (r<=min ((row:Int)*256+256-1) x.2.1)=true:=Yh (by omega);have Om:r<=(row:Int)*256+256-1:=by omega
   have CT:r<=x.2.1:=by omega
   have Ez:0<=r-(row:Int)*256:=by omega
   have xy:r-(row:Int)*256<256:=by omega
   have Q0:=(SR.o.cell (r-(row:Int)*256).toNat).trans (ab8 _ (r-(row:Int)*256).toNat (by omega));have pQ:=SR.o.frozen (r-(row:Int)*256).toNat
   have Ug:=SR.o.lt;have Te:=bx (show Zv (wr.setCell ⟨w.heap.size,(r-(row:Int)*256).toNat,none⟩ (Z9 x.2.2)) w.heap.size 3 (OK (Fm l row k x lo (r+1))) by
    have WK:=SR.o.ai (r-(row:Int)*256).toNat (Z9 x.2.2)
    have Vz:=atE l row k x lo r QY (by omega);grind)
   have Ec:=bx (xQ.o.setCell (p:=⟨w.heap.size,(r-(row:Int)*256).toNat,none⟩) Ys (Z9 x.2.2));have GB:=bx LG;clear N6 LG
   go_wp2
   go_roundw
   ·exact⟨r+1,by omega,by have:=GB.o;omega,by go_num,Te,Ec⟩
   have:=GB.o;grind[intOf]
  have Zq:decide (r<=min ((row:Int)*256+256-1) x.2.1)=false:=Yp (by omega);have Fc:=bx (show Zv wr w.heap.size 3 (OK λj=>F.bw (l.take (k+1)) ((row*256+j:Nat):Int)) by
   rw[<-asJ (row:=row) (lo:=lo) (mn:=mn) YD.o (by rw[<-O9.o];simp) (by omega) Pf (by omega)];exact SR.o)
  clear N6 LG
  go_wp2
  go_roundw
  ·exact⟨k+1,Zu,by go_num,Fc,xQ⟩
  grind[intOf]
 obtain rfl:k=N:=by omega
 have X9:=bx (show Y6 wr (.slice (some ⟨w.heap.size,0,none⟩) 256 256) (F.bm l row) by
  have WK:=asO XY.o;rw[<-ZE.o,OR]at WK;exact WK)
 go_wp2
 go_ret
 exact⟨⟨_,rfl,X9.o,λg ZH=>by simp[Value.ownBlock]at ZH;have:=XY.o.lt;omega⟩,Z8.o⟩
theorem m5{W W':World}{v:Value}{xs:List Int}(h:Y6 W v xs)(Z0:W.heap.size<=W'.heap.size)(ZH:∀g,v.ownBlock=some g->W'.heap[g]?=W.heap[g]?):Y6 W' v xs:=by
 rcases h with h|⟨b,off,sp,ZU,Z7,Z5,ZS,ZG⟩
 ·exact .inl h
 refine .inr ⟨b,off,sp,ZU,Z7,Z5,ZS,λZP=>?_⟩;obtain⟨Zx,Zr,Zk⟩:=ZG ZP;have Z8:=ZH b (by rw[Z7];rfl);exact⟨Zx,Vh Zr Z0,λi x Z4=>(World.cell?_of_block Z8).trans (Zk i x Z4)⟩
def Nw:CA (Value×List Int) where
 at' W y:=Y6 W y.1 y.2/\∀g,y.1.ownBlock=some g->g<W.heap.size
 val y:=y.1
 same:=λ{_ _ _} h Z0 ZH=>⟨m5 h.1 Z0 ZH,λg K6=>Vh (h.2 g K6) Z0⟩
 lt:=λ{_ _ _} h ZH=>h.2 _ ZH
theorem Fo{w:World}{v:Value}{xs:List Int}(h:Y6 w v xs):IY w v xs.length (xs.map (Value.int .i64)):=by
 rcases h with⟨rfl,rfl⟩|⟨b,off,sp,ZU,rfl,Z5,ZS,ZG⟩
 ·exact .inl ⟨rfl,rfl,rfl⟩
 refine .inr ⟨_,_,rfl,λ_ _ hu=>?_⟩;have Xq:xs≠[]:=by grind
 obtain⟨rfl,Zr,Zk⟩:=ZG Xq;rw[RX]at hu;obtain⟨z,ZY,rfl⟩:=NU.1 hu
 (try unfold ZQ at *);grind[Addr.add]
abbrev Ej(n:Nat)(W0:World)(ps:List Pc)(ZD bv:Value)(xs:List Int)(L:List (Value×List Int)):List Pc:=
 Pc.row n 3 1 ZD xs.length (xs.map (Value.int .i64))::Pc.row n 22 1 bv L.length (L.map (·.1))::Pc.aL Nw L::Pc.old n W0::ps
theorem F.aqk{xs:List Int}{bs:List (List Int)}{b:List Int}{k:Nat}(_:bs[k]?=some b)(_:∀(j:Nat)(y:List Int),j<k->bs[j]?=some y->y≠b):F.bU (xs,bs) b=(xs++[(k:Int)],bs):=by
 unfold F.bU;have:bs.findIdx? (·==b)=some k:=by
  grind[List.findIdx?_eq_some_iff_getElem]
 grind
theorem F.amj{xs:List Int}{bs:List (List Int)}{b:List Int}(h:∀(j:Nat)(y:List Int),bs[j]?=some y->y≠b):F.bU (xs,bs) b=(xs++[(bs.length:Int)],bs++[b]):=by
 unfold F.bU;have:bs.findIdx? (·==b)=none:=by
  rw[List.findIdx?_eq_none_iff];intro y ZJ;obtain⟨i,hi,e⟩:=List.getElem_of_mem ZJ;have:=h i y (by grind)
  grind
 grind
theorem sg:(prog.info? 25).map (·.size)=some 2:=by rfl
theorem ar7(n:Nat)(W0:World)(ps:List Pc)(ZD bv b:Value)(xs:List Int)(L:List (Value×List Int))(WB:List Int)(w:World)(hS:Sep (Pc.aL Nw [(b,WB)]::Ej n W0 ps ZD bv xs L) w)(Dk:WB.length=256)(_:xs.length<=10000)(_:L.length<=10000)(S9:∀y∈L,y.2.length=256):
  Calls prog 189 #[.agg #[ZD,bv],b] w λe w'=>∃Jw Jx Dx,e=.returned (.agg #[Jw,Jx])/\Sep (Ej n W0 ps Jw Jx (F.bU (xs,L.map (·.2)) WB).1 Dx) w'/\Dx.map (·.2)=(F.bU (xs,L.map (·.2)) WB).2:=by
 obtain⟨U0,UQ,rfl,LK,QZ⟩:=UG (hS.row 1 rfl);obtain⟨XD,Wm,rfl,ZZ,Zz⟩:=UG (hS.row 2 rfl);have Z8:=((hS.at' 0 (p:=Pc.aL Nw [(b,WB)]) rfl) (b,WB) (by simp)).1;simp only at Z8;obtain⟨L2,Tk,rfl⟩:=Z8.slice;rw[Dk]at hS⊢;obtain⟨V,ZO⟩:∃V,V=(w.alloc (.cells #[.slice U0 xs.length UQ,.slice XD L.length Wm] 25)).alloc (.cells #[Z1,Z1] 25):=⟨_,rfl⟩
 have Z7:=hS.ak 25 #[.slice U0 xs.length UQ,.slice XD L.length Wm];have Z5:=Z7.ak 25 #[Z1,Z1];have W1:(w.alloc (.cells #[.slice U0 xs.length UQ,.slice XD L.length Wm] 25)).heap.size=w.heap.size+1:=by simp
 rw[W1,<-ZO]at Z5;have Ks:=bx Z5;have ZN:=bx ZO;have Fb:=bx Dk;have RR:=bx S9;have ZE:=bx ((hS.at' 4 (p:=Pc.old n W0) rfl).1);clear hS Z8 ZO Z7 Z5 W1 Dk S9
 go_in
 go_upto_region 1 with(fail)
 rw[<-ZN.o];obtain⟨Q,VI⟩:∃Q,w.heap.size=Q:=⟨_,rfl⟩
 rw[VI]at Ks ZE⊢;clear VI ZN;go_wp2_with fail
 go_loopw[5] (λi wr=>∃k:Nat,k<=L.length/\i=Z9 k/\Box (∀(j:Nat)(y:List Int),j<k->(L.map (·.2))[j]?=some y->y≠WB)/\Box (Z6 V wr)) (λi _=>L.length-(intOf i).toNat)
 ·exact⟨0,by omega,rfl,⟨λj y h=>by omega⟩,⟨Below.refl _ _⟩⟩
 obtain⟨k,Z3,rfl,XF,Z8⟩:=hrel;have M5:=bx (Ks.o.below Z8.o);have Zs:=M5.o.blk 1 rfl;have ZT:=M5.o.blk 0 rfl;have YV:=Zs.q0;have c1:=Zs.q1;have f0:=Zs.frozen 0;have f1:=Zs.frozen 1;have Ih:=Zs.lt;have YA:=bx ((M5.o.at' 2 (p:=Pc.aL Nw [(.slice L2 256 Tk,WB)]) rfl) (.slice L2 256 Tk,WB) (by simp)).1;simp only at YA;clear Zs ZT
 by_cases Zu:k<L.length
 ·obtain⟨y,ZJ⟩:=Yg L k Zu;obtain⟨g,cap',VY,Zq,s1,s2,jA,XY,Kg⟩:=sA (M5.o.row 4 rfl) (by omega);obtain⟨rfl,rfl⟩:XD=some ⟨g,0,none⟩/\Wm=cap':=by grind
  have Q0:=(XY.cell k).trans (Kg k y.1 (by grind));have zE:=XY.lt;have ahg:=(M5.o.at' 5 (p:=Pc.aL Nw L) rfl) y (Xh ZJ);have Dk:=RR.o y (Xh ZJ);have H8:=bx (apo y.1 (.slice L2 256 Tk) y.2 WB wr ahg.1 YA.o (by omega) (by have:=Fb.o;omega));have iC:=bx (show(L.map (·.2))[k]?=some y.2 by grind);clear ZJ XY Kg Zq ahg
  by_cases Jf:y.2=WB
  ·have NZ:=bx (F.aqk (xs:=xs) (by rw[iC.o,Jf]) XF.o);rw[Yh Jf]at H8;clear Jf;go_wp2_with fail;refine Y3 H8.o λZB Zz=>?_
   have V1:=bx (M5.o.below Zz);have Py:=V1.o.blk 1 rfl;have d0:=Py.q0;have d1:=Py.q1;have Wz:=Py.frozen 0;have el:=Py.lt;have WP:n<=ZB.heap.size:=by have:=ZE.o;omega
   clear YV c1 f0 f1 Ih Q0 zE Zz Py;go_wp2_with (at_builtin;refine PC (u:=Z9 (k:Int)) rfl _ _ 22 rfl OJ V1.o 3 rfl rfl rfl rfl (by omega) (by omega) WP ?_;rintro Zy YL Uh ⟨go',TV,rfl,-,-⟩;have Wp:=bx Uh;have K3:=Wp.o.blk 1 rfl;have d0:=K3.q0;have d1:=K3.q1;have Wz:=K3.frozen 0;have Zq:=K3.frozen 1;have el:=K3.lt;have K2:=Wp.o.blk 0 rfl;have S2:=K2.q0;have r1:=K2.q1;have AS:=K2.frozen 0;have A5:=K2.frozen 1;have rl:=K2.lt;clear Uh K3 K2)
   have Zi:=Wp.o.set 1 rfl 0 (.slice (some ⟨go',0,none⟩) (xs.length+1) TV);have Yu:=(Zi.set 0 rfl 0 (.slice (some ⟨go',0,none⟩) (xs.length+1) TV)).set 0 rfl 1 (.slice (some ⟨g,0,none⟩) L.length Wm);refine bodyPost_ret (v:=.agg #[.slice (some ⟨go',0,none⟩) (xs.length+1) TV,.slice (some ⟨g,0,none⟩) L.length Wm]) (results_cell_row results189 _ _ (Q+1) 25 #[.slice (some ⟨go',0,none⟩) (xs.length+1) TV,.slice (some ⟨g,0,none⟩) L.length Wm] (0,0) _ rfl (Yu.blk 0 rfl) underlying25 rfl sg) rfl ⟨_,_,L,rfl,?_,by rw[NZ.o]⟩;rw[NZ.o];have VV:=Yu.tail.tail.tail;grind
  have Te:=bx (show∀(j:Nat)(z:List Int),j<k+1->(L.map (·.2))[j]?=some z->z≠WB from λj z _ ZY=>by
   rcases SM j k with Z7|Z7
   ·exact XF.o j z Z7 ZY
   obtain rfl:j=k:=by omega
   rw[iC.o]at ZY
   grind)
  rw[Yp Jf]at H8;clear Jf;go_wp2_with fail;refine X7 H8.o Z8.o λZB Zt=>?_
  go_wp2
  go_roundw
  ·exact⟨k+1,Zu,by go_num,Te,Zt⟩
  grind[intOf]
 obtain rfl:k=L.length:=by omega
 have NZ:=bx (F.amj (xs:=xs) (bs:=L.map (·.2)) (b:=WB) (λj y ZJ=>XF.o j y (by grind) ZJ));rw[X4]at NZ;have WP:n<=wr.heap.size:=by have:=ZE.o;omega
 go_wp2_with (at_builtin;refine PC (u:=Z9 (L.length:Int)) rfl _ _ 22 rfl OJ M5.o 3 rfl rfl rfl rfl (by omega) (by omega) WP ?_;rintro Zy YL Uh ⟨go',TV,rfl,-,-⟩;have Wp:=bx Uh;have K3:=Wp.o.blk 1 rfl;have d0:=K3.q0;have d1:=K3.q1;have Wz:=K3.frozen 0;have Zq:=K3.frozen 1;have el:=K3.lt;have K2:=Wp.o.blk 0 rfl;have S2:=K2.q0;have r1:=K2.q1;have AS:=K2.frozen 0;have A5:=K2.frozen 1;have rl:=K2.lt;clear Uh K3 K2)
 refine Vv 7 (λW=>ZQ W Q 1=some (.slice XD L.length Wm)) (by rfl) ?_;have XO:=bx ((Wp.o.set 1 rfl 0 (.slice (some ⟨go',0,none⟩) (xs.length+1) TV)).drew.aH n 1 3);generalize(YL.setCell ⟨Q,0,none⟩ (.slice (some ⟨go',0,none⟩) (xs.length+1) TV)).drew=WD at XO⊢;have Ud:=bx (show WD.cell? ⟨Q,1,none⟩=some (.slice XD L.length Wm)from(XO.o.blk 2 rfl).q1);have Lq:=bx (Fo (((XO.o.at' 3 (p:=Pc.aL Nw [(.slice L2 256 Tk,WB)]) rfl) (.slice L2 256 Tk,WB) (by simp)).1));simp only at Lq;rw[Fb.o]at Lq;clear Wp;refine Vp [0,1,2] ?_
 iterate 3 (refine Vq ?_ rfl Ud.o ?_ ?_;rotate_left;·intro w q1;go_simp;try with_reducible rfl)
 refine Vr ?_;refine Y1 3 rfl λY7 ZX=>?_
 refine Fi rfl _ _ 22 rfl Iw (by decide) XO.o 0 rfl (by rfl) (by rfl) (m:=256) (cs:=WB.map (Value.int .i64)) Lq.o (by rw[X4,Fb.o]) (by intro u hu;obtain⟨z,-,rfl⟩:=SL.1 hu;rfl) (by omega) (by omega) (XO.o.at' 7 (p:=Pc.old n W0) rfl).1 ?_;rintro v6 XA WC;have WQ:=bx WC;clear WC;obtain⟨U7,V5,rfl,LD,FX⟩:=UG (WQ.o.row 0 rfl);refine ZX.out _ _ (λ_=>(WQ.o.blk 2 rfl).q1) ?_;clear ZX Y7;refine Y1 4 rfl λY7 ZX=>?_
 go_simp;refine ZX.out _ _ (λ_=>((WQ.o.alloc _).blk 2 rfl).q1) ?_;clear ZX Y7;refine Y1 5 rfl λY7 ZX=>?_
 refine H6 (u:=.slice U7 (0+256) V5) rfl _ _ 23 rfl qz WQ.o 5 rfl (by rfl) (by rfl) rfl (by omega) (by omega) (WQ.o.at' 7 (p:=Pc.old n W0) rfl).1 ?_;rintro O3 Xi Wl ⟨g7,Nn,rfl,-,-⟩;have Wb:=bx Wl;have P4:=Wb.o.blk 2 rfl;have d0:=P4.q0;have d1:=P4.q1;have Wz:=P4.frozen 0;have Zq:=P4.frozen 1;have el:=P4.lt;have yi:=Wb.o.blk 1 rfl;have S2:=yi.q0;have r1:=yi.q1;have AS:=yi.frozen 0;have A5:=yi.frozen 1;have rl:=yi.lt;clear Wl P4 yi;refine ZX.out _ _ (λ_=>d1) ?_;clear ZX Y7;refine Y1 6 rfl λY7 ZX=>?_
 go_simp;refine ZX.out _ _ (λ_=>d1) ?_;clear ZX Y7;refine Y1 7 rfl λY7 ZX=>?_
 go_simp;refine ZX.out _ _ (λh=>by cases h) ?_;clear ZX Y7;refine kD ?_ _;go_wp2_with fail;have Zi:=Wb.o.set 2 rfl 1 (.slice (some ⟨g7,0,none⟩) (L.length+1) Nn);have Yu:=(Zi.set 1 rfl 0 (.slice (some ⟨go',0,none⟩) (xs.length+1) TV)).set 1 rfl 1 (.slice (some ⟨g7,0,none⟩) (L.length+1) Nn);refine bodyPost_ret (v:=.agg #[.slice (some ⟨go',0,none⟩) (xs.length+1) TV,.slice (some ⟨g7,0,none⟩) (L.length+1) Nn]) (results_cell_row results189 _ _ (Q+1) 25 #[.slice (some ⟨go',0,none⟩) (xs.length+1) TV,.slice (some ⟨g7,0,none⟩) (L.length+1) Nn] (0,0) _ rfl (Yu.blk 1 rfl) underlying25 rfl sg) rfl ⟨_,_,L++[(.slice U7 (0+256) V5,WB)],rfl,?_,by rw[NZ.o,T9];rfl⟩;rw[NZ.o];have V7:=Yu.row 0 rfl;have VV:=Yu.as 0 (p':=Pc.aL Nw [(.slice U7 (0+256) V5,WB)]) rfl (λZT y ZJ=>by
  rw[Pe.1 ZJ];exact⟨Y6.au ZT (by rw[Fb.o]),λg ZH=>(ZT.lt g ZH).2⟩) (λk Z3=>by
  obtain⟨y,ZJ,Z3⟩:=Z3;rw[Pe.1 ZJ]at Z3;exact Z3)
 have Vz:=(Sep.eo (b:=Nw) (y:=(.slice U7 (0+256) V5,WB)) (L:=L) VV 5 rfl).tail.tail.tail;grind
theorem F.alY(l:List F.ag)(row:Nat):(F.bm l row).length=256:=by rfl
theorem F.aj9(t:F.Trie)(b:List Int):(F.bU t b).1.length=t.1.length+1/\(F.bU t b).2.length<=t.2.length+1/\∀x∈(F.bU t b).2,x∈t.2\/x=b:=by
 grind[F.bU]
theorem F.dq(l:List F.ag):∀k,(F.bj l k).1.length=k/\(F.bj l k).2.length<=k/\∀x∈(F.bj l k).2,x.length=256
 |0=>⟨rfl,Wq _,λx Z4=>absurd Z4 RH⟩
 |k+1=>by
  obtain⟨Z7,Z5,ZS⟩:=F.dq l k;obtain⟨Zx,Zr,Zk⟩:=F.aj9 (F.bj l k) (F.bm l k);have e:F.bj l (k+1)=F.bU (F.bj l k) (F.bm l k):=rfl;rw[e];exact⟨by omega,by omega,λx Z4=>by
   rcases Zk x Z4 with h|h
   ·grind
   rw[h];rfl⟩
def Fr(w:World)(v:Value)(t:F.Trie):Prop:=∃ZD bv,v=.agg #[ZD,bv]/\Y6 w ZD t.1/\TF w bv t.2
theorem Fr.below{w w':World}{v:Value}{t:F.Trie}(h:Fr w v t)(Z8:Z6 w w'):Fr w' v t:=by
 obtain⟨ZD,bv,Z7,Z5,ZS⟩:=h;exact⟨ZD,bv,Z7,Z5.below Z8,ZS.below Z8⟩
theorem l1{w:World}{n:Nat}{T:TypeId}{bv:Value}{L:List (Value×List Int)}(h:w.ownsRow n T 1 bv L.length (L.map (·.1)))(Z8:∀y∈L,Y6 w y.1 y.2):TF w bv (L.map (·.2)):=by
 rcases h.2 with⟨Z7,Z5⟩|⟨g,ZU,VY,rfl,Z5,ZS,ZG,Zi,Yu,VV⟩
 ·refine .inl ⟨Z7,?_⟩;grind
 refine .inr ⟨g,0,none,ZU,by rw[X4],by grind,Zi,λ_=>⟨rfl,(h.lt g rfl).2,λi _ ZT=>?_⟩⟩;rw[RX]at ZT;obtain⟨y,ZJ,rfl⟩:=NU.1 ZT;refine⟨y.1,?_,Z8 y (Xh ZJ)⟩;have:=h.cells (g:=g) rfl i y.1 (by grind)
 (try unfold ZQ at *);grind[Addr.add]
theorem ab4(v:Value)(l:List F.ag)(w:World)(Z2:RT w v l)(YB:F.bB l=true):
  Calls prog 105 #[v] w λe w'=>∃ZD bv L,e=.returned (.tuple #[.agg #[ZD,bv],Z9 0])/\L.map (·.2)=(F.aC l).2/\Sep (Ej w.heap.size w [] ZD bv (F.aC l).1 L) w':=by
 have PS:=bx YB;have RR:=bx (show∀x∈l,F.cW x=true by
  unfold F.bB at YB;rw[Vm,QG]at YB;intro x Z4;obtain⟨i,hi,rfl⟩:=List.getElem_of_mem Z4;simp_all)
 have ZN:=bx Z2;obtain⟨a,ZU,rfl,W2,VM⟩:=Z2.slice;have Yn:=Xl w (.cells #[Z1,Z1] 25);have Xx:=bx (abn _ l _ (Z2.below Yn) YB);have XI:=bx ((Sep.start w).ak 25 #[Z1,Z1]);clear Z2 YB Yn
 go_in
 go_wp2_with fail;refine Y3 Xx.o λZV ZZ=>?_
 have V0:=bx (XI.o.below ZZ);have QY:=V0.o.blk 0 rfl;have S2:=QY.q0;have r1:=QY.q1;have rl:=QY.lt;clear ZZ QY;go_wp2_with fail;have V1:=bx (show Sep (Ej w.heap.size w [Pc.blk ZV.heap.size 25 #[Z1,Z1],Pc.blk w.heap.size 25 #[Z1,Z1]] (Z1) (Z1) [] []) (ZV.alloc (.cells #[Z1,Z1] 25))from
  (((((V0.o.ak 25 #[Z1,Z1]).perm (List.perm_append_comm (l₁:=[_,_]) (l₂:=[_]))).fy Nw).aH w.heap.size 1 22).aH w.heap.size 1 3))
 obtain⟨T,Yo⟩:∃T,ZV.heap.size=T:=⟨_,rfl⟩
 rw[Yo]at V1⊢;generalize ZV.alloc (.cells #[Z1,Z1] 25)=V at V1⊢;obtain⟨R,WS⟩:∃R,w.heap.size=R:=⟨_,rfl⟩
 rw[WS]at V1⊢;have ZK:=bx WS;clear Yo WS S2 r1 rl V0 XI Xx
 go_loopw[5] (λi wr=>∃(k:Nat)(ZD bv:Value)(L:List (Value×List Int)),k<=4352/\i=Z9 k/\Box (L.map (·.2)=(F.bj l k).2)/\Box (Sep (Ej R w [Pc.blk T 25 #[ZD,bv],Pc.blk R 25 #[Z1,Z1]] ZD bv (F.bj l k).1 L) wr)) (λi _=>4352-(intOf i).toNat)
 ·exact⟨0,Z1,Z1,[],by omega,rfl,⟨rfl⟩,V1⟩
 obtain⟨k,ZD,bv,L,Z3,rfl,rX,UE⟩:=hrel;have X3:=bx (show Below w.heap.size w wr by rw[ZK.o];exact UE.o.bel (n:=R) (W0:=w) (by simp));obtain⟨U0,UQ,rfl,LK,QZ⟩:=UG (UE.o.row 0 rfl);obtain⟨XD,Wm,rfl,ZZ,Zz⟩:=UG (UE.o.row 1 rfl);have Zs:=UE.o.blk 4 rfl;have ZT:=UE.o.blk 5 rfl;have YV:=Zs.q0;have c1:=Zs.q1;have f0:=Zs.frozen 0;have f1:=Zs.frozen 1;have Ih:=Zs.lt;have S2:=ZT.q0;have r1:=ZT.q1;have AS:=ZT.frozen 0;have A5:=ZT.frozen 1;have rl:=ZT.lt;have Jl:=bx (F.dq l k);have RE:=bx (show L.length<=k by have WK:=congrArg List.length rX.o;rw[X4]at WK;rw[WK];exact Jl.o.2.1);obtain⟨CP,jK⟩:∃CP,(F.bj l k).1.length=CP:=⟨_,rfl⟩
 have sX:=bx jK;rw[jK]at YV;clear jK Zs ZT LK ZZ
 by_cases Zu:k<4352
 ·go_wp2_with fail;refine Vv 5 (λW=>ZQ W T 0=some (.slice U0 CP UQ)/\ZQ W T 1=some (.slice XD L.length Wm)) (by rfl) ?_;have Xm:=bx UE.o.drew;have Y9:=bx (X3.o.trans ((VQ wr 1).mono X3.o.size));have Ud:=bx (show wr.drew.cell? ⟨T,0,none⟩=some (.slice U0 CP UQ)/\wr.drew.cell? ⟨T,1,none⟩=some (.slice XD L.length Wm)from⟨YV,c1⟩);have mZ:Z6 w wr.drew:=Y9.o;generalize wr.drew=WD at Xm Ud mZ⊢;have XW:=bx (apx _ l k WD (ZN.o.below mZ) RR.o Zu);clear YV c1 f0 f1 Ih S2 r1 AS A5 rl mZ Y9;refine Vp [0,1,2] ?_
  iterate 3 (refine Vq ?_ rfl Ud.o ?_ ?_;rotate_left;·rintro w ⟨q1,q2⟩;go_simp;try with_reducible rfl)
  refine Vr ?_;refine Y1 3 rfl λY7 ZX=>?_
  go_simp;go_wp2_with (go_at_call 190;refine XW.o.mono ?_;rintro e XA ⟨⟨ahS,rfl,ag7,N8⟩,Sy⟩)
  have WQ:=bx (Xm.o.dC (b:=Nw) (y:=(ahS,F.bm l k)) Sy ⟨ag7,λg ZH=>(N8 g ZH).2⟩ (λg ZH=>(N8 g ZH).1));clear Sy ag7 N8;refine ZX.out _ _ (λ_=>⟨((WQ.o.blk 5 rfl).cell 0).trans (by rw[<-sX.o];rfl),(WQ.o.blk 5 rfl).q1⟩) ?_;clear ZX Y7;have yY:=bx (ar7 R w _ _ _ ahS (F.bj l k).1 L (F.bm l k) XA WQ.o (F.alY l k) (by rw[Jl.o.1];omega) (by have:=RE.o;omega) (λy _=>Jl.o.2.2 y.2 (by rw[<-rX.o];grind)));rw[sX.o]at yY;refine Y1 4 rfl λY7 ZX=>?_
  go_simp;go_wp2_with (go_at_call 189;refine yY.o.mono ?_;rintro e Xi ⟨Jw,Jx,Dx,rfl,Wl,kM⟩)
  have p6:F.bU ((F.bj l k).1,L.map (·.2)) (F.bm l k)=F.bj l (k+1):=by rw[rX.o];rfl
  rw[p6]at Wl kM;have Wb:=bx Wl;have yR:=bx kM;obtain⟨EC,EB,rfl,aAd,kk⟩:=UG (Wl.row 0 rfl);obtain⟨ca,Rm,rfl,Ph,Is⟩:=UG (Wl.row 1 rfl);have P4:=Wl.blk 4 rfl;have YV:Xi.cell? ⟨T,0,none⟩=some (.slice U0 CP UQ):=(P4.cell 0).trans (by rfl);have c1:=P4.q1;have f0:=P4.frozen 0;have f1:=P4.frozen 1;have Ih:=P4.lt;clear Wl kM p6 P4;refine ZX.out _ _ (λ_=>⟨YV,c1⟩) ?_;clear ZX Y7;refine Y1 5 rfl λY7 ZX=>?_
  go_simp;refine ZX.out _ _ (λh=>by cases h) ?_;clear ZX Y7;refine kD ?_ _;have TS:=bx ((Wb.o.set 4 rfl 0 (.slice EC (F.bj l (k+1)).1.length EB)).set 4 rfl 1 (.slice ca Dx.length Rm))
  go_wp2
  go_roundw
  ·exact⟨k+1,_,_,Dx,Zu,by go_num,yR,TS⟩
  grind[intOf]
 obtain rfl:k=4352:=by omega
 have NP:=bx UE.o;have H8:=bx (show F.bj l 4352=F.aC l from rfl);have yv:=bx (UE.o.aL 2 rfl);go_wp2_with fail;have Yu:=(NP.o.set 5 rfl 0 (.slice U0 CP UQ)).set 5 rfl 1 (.slice XD L.length Wm);refine bodyPost_ret (v:=.tuple #[.agg #[.slice U0 CP UQ,.slice XD L.length Wm],Z9 0]) (Cf results105 _ _ R 25 #[.slice U0 CP UQ,.slice XD L.length Wm] (0,0) _ rfl (Yu.blk 5 rfl) underlying25 rfl sg) rfl ⟨_,_,L,rfl,rX.o.trans (by rfl),?_⟩;rw[ZK.o];have WK:=(Yu.drop 5).drop 4;rw[<-sX.o,H8.o]at WK;rw[<-sX.o,H8.o];exact WK
theorem asL{n:Nat}{W0 w:World}{ps:List Pc}{ZD bv:Value}{xs:List Int}{L:List (Value×List Int)}(h:Sep (Ej n W0 ps ZD bv xs L) w):Fr w (.agg #[ZD,bv]) (xs,L.map (·.2)):=
 ⟨ZD,bv,rfl,Y6.au (h.row 0 rfl) rfl,l1 (h.row 1 rfl) (λy ZJ=>(h.aL 2 rfl y ZJ).1)⟩
theorem aov{n:Nat}{W0 w:World}{ps:List Pc}{ZD bv:Value}{L:List (Value×List Int)}{t:F.Trie}(_:L.map (·.2)=t.2)(h:Sep (Ej n W0 ps ZD bv t.1 L) w):Fr w (.agg #[ZD,bv]) t:=by
 obtain⟨a,b⟩:=t;have ZG:=asL h;grind
theorem aeK(v:Value)(l:List F.ag)(w:World)(Z2:RT w v l)(YB:F.bB l=true):
  Calls prog 105 #[v] w λe w'=>(∃Zy,e=.returned (.tuple #[Zy,Z9 0])/\Fr w' Zy (F.aC l))/\Z6 w w' :=
 (ab4 v l w Z2 YB).mono λ_ w' ⟨ZD,bv,L,Z7,Z5,ZS⟩=>by
  exact⟨⟨_,Z7,aov Z5 ZS⟩,ZS.bel (n:=w.heap.size) (W0:=w) (by simp)⟩
section
open Go.Shelf
def Cb(r:List Int):List Int:=r.take 260
def P1(M:F.Trie):F.Trie:=(M.1.take 4360,(M.2.take 30).map Cb)
theorem aoS:(prog.info? 25).map (·.size)=some 2:=by rfl
theorem qO(U7 R6:Value)(M:F.Trie)(YR w:World)(SQ:Y6 YR R6 M.1)(SO:TF YR U7 M.2)(Yn:Z6 YR w):
  Calls prog 111 #[.agg #[R6,U7]] w λe w'=>Z6 w w'/\∃Za Zo WM,e=.returned (.agg #[Za,Zo])/\Y6 YR Za (P1 M).1/\HQ YR WM (P1 M).2/\w'.ownsRow w.heap.size 22 1 Zo WM.length WM:=by
 have OC:=bx SO;have ZR:=bx Yn;obtain⟨Uj,ca,rfl⟩:=SO.slice;obtain⟨WN,XG,rfl⟩:=SQ.slice;obtain⟨MH,Da⟩:=wP SQ;have JE:=bx (uL SQ 4360);obtain⟨Pb,zR⟩:∃Pb,(M.1.take 4360).length=Pb:=⟨_,rfl⟩
 have y6:=bx (show Pb=min 4360 M.1.length by grind);rw[zR]at JE;have atc:=bx zR;obtain⟨m,hm⟩:∃m,m=min M.2.length 30:=⟨_,rfl⟩
 have W3:=bx hm;have Pg:m<=M.2.length:=by omega
 have Oo:m<=30:=by omega
 obtain⟨Zh,Nc⟩:∃Zh,Zh=((w.alloc (.cells #[.slice WN M.1.length XG,.slice Uj M.2.length ca] 25)).alloc (.cells #[Z1,Z1] 25)).alloc (.cells #[.slice WN Pb XG,Z1] 25):=⟨_,rfl⟩
 have WT:=bx (show∃WM,HQ YR WM ((M.2.take 0).map Cb)/\Sep [Pc.row w.heap.size 22 1 Z1 0 WM,Pc.blk (w.heap.size+1+1) 25 #[.slice WN Pb XG,Z1],Pc.blk (w.heap.size+1) 25 #[Z1,Z1],Pc.blk w.heap.size 25 #[.slice WN M.1.length XG,.slice Uj M.2.length ca],Pc.old w.heap.size w] Zh by
  have Z7:=(((Sep.start w).ak 25 #[.slice WN M.1.length XG,.slice Uj M.2.length ca]).ak 25 #[Z1,Z1]).ak 25 #[.slice WN Pb XG,Z1];refine⟨[],⟨rfl,λi _ h=>by grind⟩,?_⟩;rw[Nc];have Z5:=Z7.aH w.heap.size 1 22
  simp_all)
 have La:=bx Nc;clear Yn SO SQ hm zR Nc
 go_in
 have N6:(min (M.1.length:Int) 4360).toNat=Pb:=by have:=y6.o;omega
 go_upto_region 2 with(fail)
 rw[<-La.o];clear N6;go_wp2_with fail
 go_loopw[4] (λi wr=>∃k:Nat,k<=m/\i=Z9 k/\Box (∃Zo WM,HQ YR WM ((M.2.take k).map Cb)/\Sep [Pc.row w.heap.size 22 1 Zo k WM,Pc.blk (w.heap.size+1+1) 25 #[.slice WN Pb XG,Zo],Pc.blk (w.heap.size+1) 25 #[Z1,Z1],Pc.blk w.heap.size 25 #[.slice WN M.1.length XG,.slice Uj M.2.length ca],Pc.old w.heap.size w] wr)) (λi _=>m-(intOf i).toNat)
 ·obtain⟨WM,Z7,Z5⟩:=WT.o;exact⟨0,by omega,rfl,⟨_,WM,Z7,Z5⟩⟩
 obtain⟨k,Z3,rfl,Ki⟩:=hrel;obtain⟨Zo,WM,FQ,YC⟩:=Ki.o;have H7:=bx (ZR.o.trans ((YC.bel (n:=w.heap.size) (W0:=w) (by simp)).mono ZR.o.size));have KJ:=bx FQ;have Gy:=bx YC;have X3:=bx (show Z6 w wr from YC.bel (by simp));obtain⟨no,V5,rfl,LD,FX⟩:=UG (YC.row 0 rfl);have M2:=bx (YC.blk 1 rfl);have Lb:=bx (YC.blk 2 rfl);have MU:=bx (YC.blk 3 rfl);have g1:=MU.o.q1;have Om:=MU.o.lt;clear FQ YC Ki
 by_cases Zu:k<m
 ·obtain⟨x,Z4⟩:=Yg M.2 k (by omega);obtain⟨pa,UC,BT,UV,N9,RK,R0,T3⟩:=OC.o.get (by grind);obtain⟨rfl,rfl⟩:=XN UV;obtain⟨Sl,I6,TG⟩:=T3 k x Z4;obtain⟨J1,Pm,rfl⟩:=TG.slice;obtain⟨KX,Il⟩:=wP TG;have uS:=bx (uL TG 260);obtain⟨q,Zs⟩:∃q,(x.take 260).length=q:=⟨_,rfl⟩
  have Xy:=bx (show q=min 260 x.length by grind);rw[Zs]at uS;have U1:=bx (rb M.2 k x Z4);have Uw:=bx (show∀W,Z6 wr W->ZQ W (w.heap.size+1+1) 1=some (.slice no k V5)/\ZQ W w.heap.size 1=some (.slice (some ⟨pa,UC,none⟩) M.2.length ca)/\ZQ W pa (UC+k)=some (.slice J1 x.length Pm)from λW h=>
   ⟨(M2.o.below h M2.o.lt).q1,(MU.o.below h MU.o.lt).q1,((bt H7.o h).cell (p:=⟨pa,UC+k,none⟩) R0).trans I6⟩)
  have Y9:=bx (show Z6 wr wr.drew from⟨rfl,rfl,rfl,Wq _,λ_ _=>rfl⟩);have Xm:=bx Gy.o.drew;have v8:w.heap.size<=wr.drew.heap.size:=X3.o.size;have azj:k<30:=by omega
  have PI:k<M.2.length:=by omega
  have zT:k<ca:=by omega
  have Ez:=M2.o.lt;unfold maxLen at RK;clear UV T3 Z4 I6 TG Zs;go_wp2_with fail;have r7:(min (x.length:Int) 260).toNat=q:=by have:=Xy.o;omega
  have adj:(min (x.length:Int) 260)<=(Pm:Int):=by omega
  have ad6:(0:Int)<=min (x.length:Int) 260:=by omega
  refine Vv 16 (λW=>ZQ W (w.heap.size+1+1) 1=some (.slice no k V5)/\ZQ W w.heap.size 1=some (.slice (some ⟨pa,UC,none⟩) M.2.length ca)/\ZQ W pa (UC+k)=some (.slice J1 x.length Pm)) (by rfl) ?_;have Ud:=bx (Uw.o _ Y9.o);have NT:=bx (λo=>Uw.o _ (Y9.o.alloc Y9.o.size o));generalize wr.drew=Yl at *;refine Vp [0,1,2,3,4,5,6,7,8,9,10,11,12,13,14] ?_
  iterate 15 (refine Vq ?_ rfl Ud.o ?_ ?_;rotate_left;·rintro w ⟨q1,q2,q3⟩;go_simp;try with_reducible rfl)
  refine Vr ?_;refine Y1 15 rfl λY7 ZX=>?_
  go_simp;refine ZX.out _ _ (λ_=>NT.o _) ?_;clear ZX Y7;refine Y1 16 rfl λY7 ZX=>?_
  refine H6 rfl _ _ 23 rfl qz Xm.o 0 rfl (by rfl) (by rfl) rfl (by omega) (by omega) v8 ?_;rintro Zy PM ON ⟨g9,Dp,rfl,awH,awI⟩;refine ZX.out _ _ (λh=>by cases h) ?_;clear ZX Y7;have UD:=bx (ON.blk 1 rfl);have z0:=(UD.o.cell 1).trans (show _=some (Value.slice no k V5)from rfl);have UB:=UD.o.frozen 1;have z2:=UD.o.lt;have of:=bx (ON.set 1 rfl 1 (.slice (some ⟨g9,0,none⟩) (k+1) Dp));clear ON;refine Y1 17 rfl λY7 ZX=>?_
  go_simp;refine ZX.out _ _ (λh=>by cases h) ?_;clear ZX Y7;refine Y1 18 rfl λY7 ZX=>?_
  go_simp;refine ZX.out _ _ (λh=>by cases h) ?_;clear ZX Y7;refine kD ?_ _;have ZE:=bx (show∃Zo WM,HQ YR WM ((M.2.take (k+1)).map Cb)/\Sep [Pc.row w.heap.size 22 1 Zo (k+1) WM,Pc.blk (w.heap.size+1+1) 25 #[.slice WN Pb XG,Zo],Pc.blk (w.heap.size+1) 25 #[Z1,Z1],Pc.blk w.heap.size 25 #[.slice WN M.1.length XG,.slice (some ⟨pa,UC,none⟩) M.2.length ca],Pc.old w.heap.size w] _ by
   refine⟨_,_,?_,of.o⟩;rw[U1.o,T9];exact KJ.o.snoc uS.o)
  go_wp2
  go_roundw
  ·exact⟨k+1,Zu,by go_num,ZE⟩
  grind[intOf]
 have F1:k=m:=by omega
 have xh:=bx F1;have Zm:M.2.length<=k\/(k<M.2.length/\30<=k):=by have:=W3.o;omega
 have z0:=M2.o.q0;have UB:=M2.o.q1;have z2:=M2.o.lt;have RN:=(Lb.o.cell 0).trans (show _=some (Value.slice none 0 0)from rfl);have Vy:=(Lb.o.cell 1).trans (show _=some (Value.slice none 0 0)from rfl);have f0:=Lb.o.frozen 0;have f1:=Lb.o.frozen 1;have TX:=Lb.o.lt;have TP:=bx ((Gy.o.set 2 rfl 0 (.slice WN Pb XG)).set 2 rfl 1 (.slice no k V5));have oo:=bx (show(M.2.take k).map Cb=(P1 M).2 by
  grind[P1])
 have Gp:=bx (show k=((M.2.take k).map Cb).length by grind);clear F1
 rcases Zm with Zm|⟨Zm,EJ⟩
 all_goals
  go_wp2_with fail;have Hd:=TP.o.bel (n:=w.heap.size) (W0:=w) (by simp);refine bodyPost_ret (v:=.agg #[.slice WN Pb XG,.slice no k V5]) (results_cell_row results111 _ _ (w.heap.size+1) 25 _ (0,0) _ rfl (TP.o.blk 2 rfl) underlying25 rfl aoS) rfl ⟨Hd,_,_,WM,rfl,JE.o,?_,?_⟩
  ·rw[<-oo.o];exact KJ.o
  rw[KJ.o.1,<-Gp.o];exact TP.o.row 0 rfl
end
theorem F.avq{names:List (List UInt8)}{s:List UInt8}{xz:List N.Item}(h:F.df names s=some xz):
  (s=[]/\xz=[])\/(s≠[]/\(∀c∈s,c≠32/\c≠91)/\s.getLast?≠some 42/\s≠[94]/\s≠[46]/\∃i,F.valueOf names s=some i/\xz=[((2:Int)^i,0)]):=by
 unfold F.df at h
 by_cases ZI:s=[]
 ·grind
 rw[Y4 ZI]at h
 split at h
 ·cases h
 rename_i Z7
 simp only[Bool.or_eq_true,NS,Lz,not_or,not_exists,not_and]at Z7;obtain⟨⟨⟨Zx,Zr⟩,Zk⟩,Zl⟩:=Z7;refine .inr ⟨ZI,λc ZL=>⟨λe=>(Zx c ZL).1 e,λe=>(Zx c ZL).2 e⟩,Zr,Zk,Zl,?_⟩
 cases Z2:F.valueOf names s with
 |none=>grind
 |some i=>grind
theorem vl{c:UInt8}{d:UInt8}(_:c≠d):(U.aa c==U.aa d)=false:=by grind[wM]
theorem akS(s:List UInt8)(w:World)(ZL:∀c∈s,c≠32/\c≠91)(ZY:s.length<=20000):
  Calls prog 296 #[.string (bs s)] w λe w'=>(∃v,e=.returned v/\w'.ownsRow w.heap.size 9 1 v 1 [Vu s])/\Z6 w w':=by
 obtain⟨S,hS⟩:∃S,(bs s).size=S:=⟨_,rfl⟩
 have Wg:=bx (show S=s.length by rw[<-hS];rfl);have EM:S<=20000:=by rw[Wg.o];exact ZY
 have Yq:=bx ZL;have XI:=bx ((Sep.start w).aH w.heap.size 1 9);clear ZL
 go_in
 go_wp2_with fail
 go_loopw[6,3,4,5] (λi o f b wr=>b=.bool false/\((∃k:Nat,k<=S/\i=Z9 k/\o=Z1/\f=Z9 0/\wr=w)\/(i=Z9 ((S:Int)+1)/\(∃z:Int,f=Z9 z)/\Box (wr.ownsRow w.heap.size 9 1 o 1 [Vu s]/\Z6 w wr)))) (λi _ _ _ _=>S+1-(intOf i).toNat)
 ·grind
 obtain⟨rfl,⟨k,Z3,rfl,rfl,rfl,rfl⟩|⟨rfl,⟨z,rfl⟩,YT⟩⟩:=hrel
 ·by_cases Zu:k<S
  ·obtain⟨d,Zm⟩:=Yg s k (by rw[<-Wg.o];omega);have C7:=Ff (P:=prog) underlying9 k Zm k rfl;have Ke:=Yq.o d (Xh Zm);have Zq:(U.aa d==32)=false:=vl (d:=32) Ke.1;have YP:(U.aa d==91)=false:=vl (d:=91) Ke.2;have Yb:((k:Int)==(S:Int))=false:=by grind
   clear Zm Ke
   go_wp2
   go_roundw
   ·exact⟨rfl,.inl ⟨k+1,by omega,by go_num,rfl,rfl,trivial⟩⟩
   grind[intOf]
  obtain rfl:k=S:=by omega
  have Yb:((k:Int)==(k:Int))=true:=by simp
  have hcut:=uN (P:=prog) (T:=9) underlying9 s 0 k 0 (k:Int) rfl rfl ⟨by omega,by rw[Wg.o];omega⟩;rw[show(s.take k).drop 0=s by rw[Wg.o];simp]at hcut;go_wp2_with (at_builtin;refine PC rfl _ _ 49 rfl Iy XI.o 0 rfl rfl rfl rfl (by omega) (by omega) Ys ?_;rintro Zy YL Uh ⟨go',TV,rfl,-,-⟩)
  have X9:=bx (show YL.ownsRow wr.heap.size 9 1 (.slice (some ⟨go',0,none⟩) (0+1) TV) 1 [Vu s]/\Z6 wr YL from⟨Uh.row 0 rfl,Uh.bel (n:=wr.heap.size) (W0:=wr) (by simp)⟩);clear Uh
  go_wp2
  go_roundw
  ·exact⟨rfl,.inr ⟨by first|trivial|rfl|go_num,⟨_,rfl⟩,X9⟩⟩
  simp[intOf]
 go_wp2
 go_ret
 exact⟨⟨_,rfl,YT.o.1⟩,YT.o.2⟩
theorem alj(s:List UInt8)(Zo:Value)(names:List (List UInt8))(i:Nat)(w:World)(ZP:XC w Zo names)(Rw:F.cc names=true)(Bp:s≠[46])(Z2:F.valueOf names s=some i):
  Calls prog 320 #[.string (bs s),Zo] w λe w'=>e=.returned (.tuple #[Z9 ((2:Int)^i),Z9 0])/\Z6 w w':=by
 have SG:=bx (rn Zo names w ZP Rw);have xE:names.length<=32:=by grind[F.cc]
 have QI:i<names.length:=by
  unfold F.valueOf at Z2;obtain⟨h,-⟩:=List.findIdx?_eq_some_iff_getElem.1 Z2;exact h
 have ZN:=bx (λW(h:Z6 w W)=>Z2▸nT Zo names s W (ZP.below h) (by omega));have TW:=bx (λW=>qM i W (by omega));have zY:((bs s).toList==[46])=false:=by grind[He]
 have YE:=bx (show((2^i:Nat):Int)=(2:Int)^i by simp);obtain⟨a,ZU,rfl,W2,VM⟩:=ZP.slice;clear ZP Rw Bp Z2 QI
 go_in
 go_wp2_with fail;refine SG.o.mono ?_;rintro e YR ⟨rfl,N3,rfl⟩;have ZR:=bx (Po w N3);generalize w.drewN N3=YR at ZR⊢;go_wp2_with fail;refine YW (ZN.o _ ZR.o) ?_;unfold vu;go_wp2_with fail;refine YW (TW.o _) ?_;rw[YE.o]
 go_wp2
 go_ret2
 exact⟨rfl,ZR.o⟩
theorem asW:(prog.info? 389).map (·.size)=some 2:=by rfl
theorem adX:(prog.info? 252).map (·.size)=some 2:=by rfl
theorem aqN(s:List UInt8)(Zo:Value)(names:List (List UInt8))(i:Nat)(w:World)(ZP:XC w Zo names)(Rw:F.cc names=true)(Z0:s≠[])(Bp:s≠[46])(P3:s.getLast?≠some 42)(Z2:F.valueOf names s=some i)(ZY:s.length<=20000):
  Calls prog 297 #[.string (bs s),Zo] w λe w'=>e=.returned (.tuple #[.agg #[Z9 ((2:Int)^i),Z9 0],.bool true])/\Z6 w w':=by
 have Yn:=Xl w (.cells #[Z9 0,Z9 0] 389);have ZR:=bx Yn;have Yq:=bx (alj s Zo names i _ (ZP.below Yn) Rw Bp Z2);have ZK:=bx (Zv.new w 389 #[Z9 0,Z9 0]);have Hw:=EZ Z0;obtain⟨S,hS⟩:∃S,(bs s).size=S:=⟨_,rfl⟩
 have Wg:=bx (show S=s.length by rw[<-hS];rfl);have EM:S<=20000:=by rw[Wg.o];exact ZY
 have EN:0<S:=by rw[Wg.o];grind
 obtain⟨d,Zm⟩:=Yg s (S-1) (by rw[<-Wg.o];omega);have C7:=Ff (P:=prog) underlying9 (S-1) Zm ((S:Int)-1) (by omega);have Zq:(U.aa d==42)=false:=vl (d:=42) (λe=>P3 (by rw[List.getLast?_eq_getElem?,<-Wg.o,Zm,e]));clear Yn ZP Rw Z0 Bp P3 Z2 Zm
 go_in
 go_wp2_with fail;refine wp_loop_rounds 1 ?_;rw[rounds_succ];go_wp2_with fail;refine Y3 Yq.o λ_ ZZ=>?_
 have ZW:=Zw ZR ZZ;have SF:=ZK.ub ZZ;have S2:=(SF.o.cell 0).trans (show _=some (Value.int .i64 0)from rfl);have r1:=(SF.o.cell 1).trans (show _=some (Value.int .i64 0)from rfl);have f0:=SF.o.frozen 0;have f1:=SF.o.frozen 1;have rl:=SF.o.lt;clear ZZ;go_wp2_with fail;exact bodyPost_ret (v:=.tuple #[.agg #[Z9 ((2:Int)^i),Z9 0],.bool true]) (Cf results297 _ _ w.heap.size 389 #[Z9 ((2:Int)^i),Z9 0] (0,0) _ rfl ((SF.o.ai 0 (Z9 ((2:Int)^i))).ai 1 (Z9 0)) underlying389 rfl asW) rfl
  ⟨rfl,(ZW.o.setCell Ys _).setCell Ys _⟩
theorem aoW{w:World}{base:Nat}{T:TypeId}{v:Value}{a:Int}(h:w.ownsRow base T 2 v 1 [Z9 a,Z9 0]):VA w v [(a,0)]:=by
 rcases h.2 with⟨-,ZI⟩|⟨g,ZU,VY,rfl,Z5,ZS,ZG,Zi,Yu,VV⟩
 ·omega
 refine .inr ⟨g,0,none,ZU,rfl,ZG,Zi,λ_=>⟨rfl,(h.lt g rfl).2,λi _ Z4=>?_⟩⟩;have hi:i=0:=by grind
 subst hi
 cases Z4;have Wz:=h.cells (g:=g) rfl 0 (Z9 a) rfl;have Zq:=h.cells (g:=g) rfl 1 (Z9 0) rfl;exact⟨Wz,Zq⟩
theorem amD:ID prog 250 389 2 16:=.mk' (z:=.agg #[Z9 0,Z9 0]) underlying250 (by rfl) rfl
theorem aaL(s:List UInt8)(Zo:Value)(names:List (List UInt8))(xz:List N.Item)(w:World)(ZP:XC w Zo names)(Rw:F.cc names=true)(YB:F.df names s=some xz)(ZY:s.length<=20000):
  Calls prog 259 #[.string (bs s),Zo] w λe w'=>(∃v,e=.returned (.tuple #[.agg #[.bool false,v],Z9 0])/\VA w' v xz/\∀g,v.ownBlock=some g->w.heap.size<=g/\g<w'.heap.size)/\Z6 w w':=by
 have Yn:=Xl w (.cells #[.bool false,Z1] 252);have SG:=bx (rn Zo names _ (ZP.below Yn) Rw);have XI:=bx ((Sep.start w).ak 252 #[.bool false,Z1])
 rcases F.avq YB with⟨rfl,rfl⟩|⟨Z0,ZL,P3,Im,Bp,i,Z2,rfl⟩
 ·have Hw:=D3;clear ZP Rw Yn YB
  go_in
  go_wp2_with fail;refine SG.o.mono ?_;rintro e ZV ⟨rfl,N3,rfl⟩;have V0:=bx (XI.o.drewN N3);generalize(w.alloc (.cells #[.bool false,Z1] 252)).drewN N3=ZV at V0⊢;have V1:=bx (V0.o.ak 252 #[.bool false,Z1]);have Zs:=V1.o.blk 1 rfl;have YV:=Zs.q0;have c1:=Zs.q1;have f0:=Zs.frozen 0;have f1:=Zs.frozen 1;have Ih:=Zs.lt;clear Zs;go_wp2_with fail;have ZS:=(V1.o.set 1 rfl 0 (.bool false)).set 1 rfl 1 Z1;exact bodyPost_ret (v:=.tuple #[.agg #[.bool false,Z1],Z9 0]) (Cf results259 _ _ w.heap.size 252 #[.bool false,Z1] (0,0) _ rfl (ZS.blk 1 rfl) underlying252 rfl adX) rfl
   ⟨⟨_,rfl,.inl ⟨rfl,rfl⟩,λg ZH=>by cases ZH⟩,ZS.bel (n:=w.heap.size) (W0:=w) (by simp)⟩
 have Hw:=EZ Z0;have WI:=bx (λW=>akS s W ZL ZY);have MN:=bx (λW(h:Z6 w W)=>aqN s Zo names i W (ZP.below h) Rw Z0 Bp P3 Z2 ZY);have zY:((bs s).toList==[94])=false:=by grind[He]
 clear ZP Rw Yn YB Z0 ZL P3 Im Bp Z2
 go_in
 go_wp2_with fail;refine SG.o.mono ?_;rintro e ZV ⟨rfl,N3,rfl⟩;have V0:=bx (XI.o.drewN N3);generalize(w.alloc (.cells #[.bool false,Z1] 252)).drewN N3=ZV at V0⊢;have V1:=bx ((V0.o.ak 252 #[.bool false,Z1]).aH w.heap.size 2 389);go_wp2_with fail;generalize ZV.heap.size=P at V1⊢;generalize ZV.alloc (.cells #[.bool false,Z1] 252)=ZB at V1⊢;refine(WI.o ZB).mono ?_;rintro e Zh ⟨⟨pv,rfl,agT⟩,Zb⟩;have WT:=bx (V1.o.below Zb);obtain⟨g,ZU,VY,rfl,r1,r2,r3,XY,Kg⟩:=sA agT (by omega);have Wh:=bx (show g<Zh.heap.size/\Zh.cell? ⟨g,0,none⟩=some (.string (bs s))from⟨XY.lt,(XY.cell 0).trans (Kg 0 _ rfl)⟩);obtain⟨k5,gc⟩:=Wh.o;clear Zb agT XY Kg;go_wp2_with fail;refine wp_loop_rounds 2 ?_;rw[rounds_succ];go_wp2_with fail;have YY:=bx (WT.o.bel (n:=w.heap.size) (W0:=w) (by simp));refine Y3 (MN.o _ YY.o) λYL Yf=>?_
 have Wp:=bx (WT.o.below Yf);have wu:=bx ((Yf.cell (p:=⟨g,0,none⟩) Wh.o.1).trans Wh.o.2);have XO:=bx (Wp.o.ak 389 #[Z9 ((2:Int)^i),Z9 0]);have zL:=XO.o.blk 2 rfl;have p0:=zL.q0;have p1:=zL.q1;have pl:=zL.lt;have KY:=(XO.o.bel (n:=w.heap.size) (W0:=w) (by simp)).size;have Wy:=bx (show(YL.alloc (.cells #[Z9 ((2:Int)^i),Z9 0] 389)).heap.size=YL.heap.size+1 by simp);clear Yf k5 gc zL;go_wp2_with (at_builtin;refine GK (cs:=[Z9 ((2:Int)^i),Z9 0]) rfl _ _ 250 rfl amD (by decide) XO.o 1 rfl rfl (by rw[Wy.o];rfl) rfl (by intro u hu;simp only[T7,RH,or_false]at hu;rcases hu with rfl|rfl <;> rfl) (by omega) (by omega) KY ?_;rintro Zy XA WC ⟨go',TV,rfl,-,-⟩;have WQ:=bx WC;have C5:=WQ.o.blk 2 rfl;have p0:=C5.q0;have p1:=C5.q1;have aAN:=C5.frozen 0;have aAO:=C5.frozen 1;have pl:=C5.lt;have ze:=WQ.o.blk 3 rfl;have S2:=ze.q0;have r1:=ze.q1;have AS:=ze.frozen 0;have A5:=ze.frozen 1;have rl:=ze.lt;clear WC C5 ze)
 rw[rounds_succ];have azX:w.heap.size≠P:=by
  rintro rfl;exact(WQ.o.tail.tail.apart (q:=Pc.blk w.heap.size 252 #[.bool false,Z1]) (Pw ..) (k:=w.heap.size) rfl) rfl
 have VV:=WQ.o.set 2 rfl 1 (.slice (some ⟨go',0,none⟩) (0+1) TV);have Vz:=bx ((VV.set 3 rfl 0 (.bool false)).set 3 rfl 1 (.slice (some ⟨go',0,none⟩) (0+1) TV));clear VV;go_wp2_with fail;have BD:=Vz.o.row 1 rfl;exact bodyPost_ret (v:=.tuple #[.agg #[.bool false,.slice (some ⟨go',0,none⟩) (0+1) TV],Z9 0]) (Cf results259 _ _ w.heap.size 252 #[.bool false,.slice (some ⟨go',0,none⟩) (0+1) TV] (0,0) _ rfl (Vz.o.blk 3 rfl) underlying252 rfl adX) rfl
  ⟨⟨_,rfl,aoW BD,λq Zs=>BD.lt q Zs⟩,Vz.o.bel (n:=w.heap.size) (W0:=w) (by simp)⟩
theorem F.att{names:List (List UInt8)}{t:List UInt8}{r:D.Rule}(h:F.dE names t=some r):
  ∃(k:Nat)(d:UInt8)(a b:List N.Item),t[k]?=some d/\F.dB d=true/\(∀(j:Nat)(c:UInt8),j<k->t[j]?=some c->F.dB c=false)/\F.df names (F.trim (t.take k))=some a/\F.df names (F.trim (t.drop (k+1)))=some b/\r=((false,a),(false,b),d==47):=by
 unfold F.dE at h
 cases hi:t.findIdx? F.dB with
 |none=>grind
 |some k=>
  rw[hi]at h;simp only at h;obtain⟨Z3,Zm,YO⟩:=List.findIdx?_eq_some_iff_getElem.1 hi
  grind
theorem sQ{w:World}{v:Value}{l:List N.Item}(h:VA w v l):∃a c,v=.slice a l.length c:=by
 rcases h with⟨rfl,rfl⟩|⟨b,off,sp,ZU,rfl,-⟩
 ·simp
 simp
theorem aot{W W':World}{v:Value}{l:List N.Item}(h:VA W v l)(Z0:W.heap.size<=W'.heap.size)(ZH:∀g,v.ownBlock=some g->W'.heap[g]?=W.heap[g]?):VA W' v l:=by
 rcases h with h|⟨b,off,sp,ZU,Z7,Z5,ZS,ZG⟩
 ·exact .inl h
 refine .inr ⟨b,off,sp,ZU,Z7,Z5,ZS,λZP=>?_⟩;obtain⟨Zx,Zr,Zk⟩:=ZG ZP;have Z8:=ZH b (by rw[Z7];rfl);exact⟨Zx,Vh Zr Z0,λi x Z4=>⟨(World.cell?_of_block Z8).trans (Zk i x Z4).1,(World.cell?_of_block Z8).trans (Zk i x Z4).2⟩⟩
def hA:CA (Value×List N.Item) where
 at' W y:=VA W y.1 y.2/\∀g,y.1.ownBlock=some g->g<W.heap.size
 val y:=y.1
 same:=λ{_ _ _} h Z0 ZH=>⟨aot h.1 Z0 ZH,λg K6=>Vh (h.2 g K6) Z0⟩
 lt:=λ{_ _ _} h ZH=>h.2 _ ZH
theorem an3:(prog.info? 254).map (·.size)=some 5:=by rfl
theorem amE(t:List UInt8)(Zo:Value)(names:List (List UInt8))(r:D.Rule)(w:World)(ZP:XC w Zo names)(Rw:F.cc names=true)(YB:F.dE names t=some r)(ZY:t.length<=20000):
  Calls prog 182 #[.string (bs t),Zo] w λe w'=>(∃Vj Ym,e=.returned (.tuple #[.agg #[.bool r.1.1,Vj,.bool r.2.1.1,Ym,.bool r.2.2],.bool true])/\VA w' Vj r.1.2/\VA w' Ym r.2.1.2)/\Z6 w w':=by
 obtain⟨K,d,Yr,lb,Zm,hm,XF,FW,NC,rfl⟩:=F.att YB;obtain⟨S,hS⟩:∃S,(bs t).size=S:=⟨_,rfl⟩
 have Wg:=bx (show S=t.length by rw[<-hS];rfl);have EM:S<=20000:=by rw[Wg.o];exact ZY
 have azS:K<S:=by rw[Wg.o];grind
 have XI:=bx ((Sep.start w).ak 254 #[.bool false,Z1,.bool false,Z1,.bool false]);have ag1:(F.trim (t.take K)).length<=20000:=by have:=F.dh (t.take K);grind
 have K0:(F.trim (t.drop (K+1))).length<=20000:=by have:=F.dh (t.drop (K+1));grind
 have NW:=bx (λW=>zh (t.take K) W (by grind));have VE:=bx (λW=>zh (t.drop (K+1)) W (by grind));have Nv:=bx (λW(h:Z6 w W)=>aaL _ Zo names Yr W (ZP.below h) Rw FW ag1);have aiL:=bx (λW(h:Z6 w W)=>aaL _ Zo names lb W (ZP.below h) Rw NC K0);have Xf:=bx Zm;have W3:=bx hm;have RA:=bx XF;clear ZP Rw YB Zm hm XF FW NC ag1 K0
 go_in
 go_wp2_with fail;generalize w.alloc (.cells #[.bool false,Z1,.bool false,Z1,.bool false] 254)=YR at XI⊢
 go_loopw[6] (λi wr=>∃k:Nat,k<=K/\i=Z9 k/\wr=YR) (λi _=>K-(intOf i).toNat)
 ·grind
 obtain⟨k,Z3,rfl,rfl⟩:=hrel
 by_cases Zu:k<K
 ·obtain⟨c,ZL⟩:=Yg t k (by have:=Wg.o;omega);have XF:=RA.o k c Zu ZL;unfold F.dB at XF;rw[Bool.or_eq_false_iff,Sz,Sz]at XF;have C7:=Ff (P:=prog) underlying9 k ZL k rfl;have Zq:(U.aa c != 43)=true:=by rw[En];have:=vl (d:=43) XF.1;rw[Sz]at this;exact this
  have YP:(U.aa c != 47)=true:=by rw[En];have:=vl (d:=47) XF.2;rw[Sz]at this;exact this
  clear ZL XF
  go_wp2
  go_roundw
  ·exact⟨k+1,by omega,by go_num,trivial⟩
  simp[intOf];omega
 obtain rfl:k=K:=by omega
 have C7:=Ff (P:=prog) underlying9 k Xf.o k rfl;have Im:=Cq (P:=prog) (T:=9) underlying9 t k (k:Int) rfl (by rw[<-Wg.o];omega);have N8:=yL (P:=prog) (T:=9) underlying9 t (k+1) ((k:Int)+1) (by omega) (by rw[<-Wg.o];omega);obtain⟨x,Z4⟩:∃x,U.aa d=x:=⟨_,rfl⟩
 have J9:=W3.o;unfold F.dB at J9;rw[Bool.or_eq_true,Lz,Lz]at J9;have H8:=bx (show(U.aa d==47)=(d==47)from wM d 47);have zZ:((U.aa d != 43)=false)\/((U.aa d != 43)=true/\(U.aa d != 47)=false):=by
  rcases J9 with rfl|rfl
  ·exact .inl rfl
  exact .inr ⟨rfl,rfl⟩
 clear Z4 J9
 rcases zZ with Zq|⟨Zq,YP⟩
 all_goals
  go_wp2_with fail;refine YW (NW.o _) ?_;go_wp2_with fail;have ZW:=bx (XI.o.bel (n:=w.heap.size) (W0:=w) (by simp));refine(Nv.o _ ZW.o).mono ?_;rintro e ZB ⟨⟨Vj,rfl,I7,TL⟩,Zz⟩;have V1:=bx (XI.o.dC (b:=hA) (y:=(Vj,Yr)) Zz ⟨I7,λg ZH=>(TL g ZH).2⟩ (λg ZH=>(TL g ZH).1));obtain⟨Uj,ac,rfl⟩:=sQ I7;have WT:=bx (V1.o.ak 252 #[.bool false,.slice Uj Yr.length ac]);clear Zz I7 TL;go_wp2_with fail;generalize ZB.heap.size=X at WT⊢;generalize ZB.alloc (.cells #[.bool false,.slice Uj Yr.length ac] 252)=Zh at WT⊢;refine YW (VE.o _) ?_;go_wp2_with fail;have YY:=bx (WT.o.bel (n:=w.heap.size) (W0:=w) (by simp));refine(aiL.o _ YY.o).mono ?_;rintro e YK ⟨⟨Ym,rfl,Fg,n8⟩,X0⟩;have XO:=bx (WT.o.dC (b:=hA) (y:=(Ym,lb)) X0 ⟨Fg,λg ZH=>(n8 g ZH).2⟩ (λg ZH=>(n8 g ZH).1));obtain⟨XD,Wm,rfl⟩:=sQ Fg;have WQ:=bx (XO.o.ak 252 #[.bool false,.slice XD lb.length Wm]);clear X0 Fg n8;go_wp2_with fail;generalize YK.heap.size=Y at WQ⊢;generalize YK.alloc (.cells #[.bool false,.slice XD lb.length Wm] 252)=XA at WQ⊢;refine Vv 19 (λW=>ZQ W X 0=some (.bool false)/\ZQ W X 1=some (.slice Uj Yr.length ac)/\ZQ W Y 0=some (.bool false)/\ZQ W Y 1=some (.slice XD lb.length Wm)) (by rfl) ?_;have Wb:=bx WQ.o.drew;generalize XA.drew=Xi at Wb⊢;have ZJ:=Wb.o.blk 0 rfl;have RN:=ZJ.q0;have Vy:=ZJ.q1;have Z4:=Wb.o.blk 2 rfl;have Ws:=Z4.q0;have XX:=Z4.q1;have Sm:=Z4.lt;have xn:=ZJ.lt;have ZT:=Wb.o.blk 4 rfl;have S2:=ZT.q0;have r1:=ZT.q1;have r2:=ZT.q2;have r3:=ZT.q3;have r4:=ZT.q4;have f0:=ZT.frozen 0;have f1:=ZT.frozen 1;have f2:=ZT.frozen 2;have f3:=ZT.frozen 3;have f4:=ZT.frozen 4;have rl:=ZT.lt;clear Z4 ZJ ZT;have Ud:=bx (show(λW=>ZQ W X 0=some (.bool false)/\ZQ W X 1=some (.slice Uj Yr.length ac)/\ZQ W Y 0=some (.bool false)/\ZQ W Y 1=some (.slice XD lb.length Wm)) Xi from⟨Ws,XX,RN,Vy⟩);clear Ws XX RN Vy;refine Vp [0,1,2,3,4,5,6,7,8,9,10,11,12,13,14,15,16,17] ?_
  iterate 18 (refine Vq ?_ rfl Ud.o ?_ ?_;rotate_left;·rintro w ⟨q1,q2,q3,q4⟩;go_simp;try with_reducible rfl)
  refine Vr ?_;refine Y1 18 rfl λY7 ZX=>?_
  go_simp;have Vz:=bx (((((Wb.o.set 4 rfl 0 (.bool false)).set 4 rfl 1 (.slice Uj Yr.length ac)).set 4 rfl 2 (.bool false)).set 4 rfl 3 (.slice XD lb.length Wm)).set 4 rfl 4 (.bool (U.aa d==47)));refine ZX.out _ _ (λ_=>⟨(Vz.o.blk 2 rfl).q0,(Vz.o.blk 2 rfl).q1,(Vz.o.blk 0 rfl).q0,(Vz.o.blk 0 rfl).q1⟩) ?_;clear ZX Y7;refine Y1 19 rfl λY7 ZX=>?_
  go_simp;refine ZX.out _ _ (λh=>by cases h) ?_;clear ZX Y7;refine kD ?_ _;go_wp2_with fail;have hl:=Vz.o.aL 3 rfl (.slice Uj Yr.length ac,Yr) (by simp);have ZT:=Vz.o.aL 1 rfl (.slice XD lb.length Wm,lb) (by simp);exact bodyPost_ret (v:=.tuple #[.agg #[.bool false,.slice Uj Yr.length ac,.bool false,.slice XD lb.length Wm,.bool (U.aa d==47)],.bool true]) (Cf results182 _ _ w.heap.size 254 #[.bool false,.slice Uj Yr.length ac,.bool false,.slice XD lb.length Wm,.bool (U.aa d==47)] (0,0) _ rfl (Vz.o.blk 4 rfl) underlying254 rfl an3) rfl
   ⟨⟨_,_,by rw[H8.o],hl.1,ZT.1⟩,Vz.o.bel (n:=w.heap.size) (W0:=w) (by simp)⟩
theorem aso(s:List UInt8)(Zo:Value)(names:List (List UInt8))(r:D.Rule)(w:World)(ZP:XC w Zo names)(Rw:F.cc names=true)(xE:F.split 10 s=[s])(Xq:F.trim ((F.split 35 s).headD [])≠[])(YB:F.dE names (F.trim ((F.split 35 s).headD []))=some r)(_:s.length<=20000):
  Calls prog 103 #[.string (bs s),Zo] w λe w'=>(∃v,e=.returned (.tuple #[v,Z9 0,Z9 0])/\TQ w' v [r])/\Z6 w w':=by
 have SG:=bx (rn Zo names w ZP Rw);have Qx:=bx (λW=>show Calls prog 180 #[.string (bs s),.int .u8 10] W λe w'=>(∃v,e=.returned v/\XC w' v (F.split 10 s))/\Z6 W w' from uB s 10 W (by omega));rw[xE]at Qx;obtain⟨h,t,ap,ayS⟩:=qS 35 s;have V1:=bx (λW=>show Calls prog 180 #[.string (bs s),.int .u8 35] W λe w'=>(∃v,e=.returned v/\XC w' v (F.split 35 s))/\Z6 W w' from uB s 35 W (by omega));rw[ap]at V1 Xq YB;rw[List.headD_cons]at Xq YB;have Su:=bx (λW=>zh h W (by omega));have p4:(F.trim h).length<=20000:=by have:=F.dh h;omega
 generalize F.trim h=T at Su Xq YB p4;have KC:=bx (λW(Z8:Z6 w W)=>amE T Zo names r W (ZP.below Z8) Rw YB p4);have Hw:=EZ Xq;clear ZP Rw xE Xq YB ap p4
 go_in
 go_wp2_with fail;refine SG.o.mono ?_;rintro e ZV ⟨rfl,N3,rfl⟩;have ZW:=bx (Po w N3);generalize w.drewN N3=ZV at ZW⊢;go_wp2_with fail;refine(Qx.o _).mono ?_;rintro e ZB ⟨⟨v,rfl,Z2⟩,Zz⟩;have Zt:=Zw ZW Zz;obtain⟨g,off,ZU,rfl,q2,q3,q4,q5⟩:=Z2.get (by simp);have ZL:=q5 0 s rfl;rw[Nat.add_zero]at ZL;unfold maxLen at q3;rw[List.length_singleton]at q2⊢;have Wh:=bx q4;clear Zz Z2 q5;go_wp2_with fail;refine wp_loop_rounds 2 ?_;rw[rounds_succ];go_wp2_with fail;refine(V1.o _).mono ?_;rintro e Zh ⟨⟨v,rfl,Z2⟩,Zb⟩;have YY:=Zw Zt Zb;obtain⟨Ui,xu,cap',rfl,p2,p3,Ve,U6⟩:=Z2.get (by simp);have Hx:=U6 0 h rfl;rw[Nat.add_zero]at Hx;rw[U3]at p2⊢;unfold maxLen at p3;obtain⟨n',Jb⟩:∃n',t.length=n':=⟨_,rfl⟩
 rw[Jb]at p2⊢;clear Zb Z2 U6 ZL q4 Jb;go_wp2_with fail;refine YW (Su.o _) ?_;clear Hx Ve;go_wp2_with fail;refine(KC.o _ YY.o).mono ?_;rintro e YK ⟨⟨Vj,Ym,rfl,I7,Fg⟩,X0⟩;have X6:=Zw YY X0;obtain⟨Uj,ac,rfl⟩:=sQ I7;obtain⟨XD,Wm,rfl⟩:=sQ Fg;have GD:=bx I7;have BX:=bx Fg;have WQ:=bx (((Sep.start YK).aH YK.heap.size 5 254).ak 254 #[.bool r.1.1,.slice Uj r.1.2.length ac,.bool r.2.1.1,.slice XD r.2.1.2.length Wm,.bool r.2.2]);have Wy:=bx (show(YK.alloc (.cells #[.bool r.1.1,.slice Uj r.1.2.length ac,.bool r.2.1.1,.slice XD r.2.1.2.length Wm,.bool r.2.2] 254)).heap.size=YK.heap.size+1 by simp);have KY:YK.heap.size<=(YK.alloc (.cells #[.bool r.1.1,.slice Uj r.1.2.length ac,.bool r.2.1.1,.slice XD r.2.1.2.length Wm,.bool r.2.2] 254)).heap.size:=by simp
 clear X0 I7 Fg;go_wp2_with (at_builtin;refine GK (cs:=H3 (r,.slice Uj r.1.2.length ac,.slice XD r.2.1.2.length Wm)) rfl _ _ 26 rfl abe (by decide) WQ.o 1 rfl rfl (by rw[Wy.o];rfl) rfl (by intro u hu;simp only[H3,T7,RH,or_false]at hu;rcases hu with rfl|rfl|rfl|rfl|rfl <;> rfl) (by omega) (by omega) KY ?_;rintro Zy XA Wl ⟨go',TV,rfl,-,-⟩)
 have Jh:=Wl.bel (n:=YK.heap.size) (W0:=YK) (by simp);have JO:=bx (show TQ XA (.slice (some ⟨go',0,none⟩) (0+1) TV) [r]from aaU (L:=[(r,.slice Uj r.1.2.length ac,.slice XD r.2.1.2.length Wm)]) (by have WK:=Wl.row 1 rfl;simpa using WK) rfl (λ_ ZJ=>by rw[Pe.1 ZJ];exact⟨GD.o.below Jh,BX.o.below Jh⟩));have VN:=Zw X6 Jh;clear Wl Jh;go_wp2_with fail;rw[rounds_succ];go_wp2_with fail
 go_ret3
 exact⟨⟨_,rfl,JO.o⟩,VN.o⟩
