/- Texts of this claim. -/
import Derived.Laws.Strings3
import Derived.Test.YtdponihkpomheaaGreatDoorK3

set_option maxHeartbeats 8000000
set_option maxRecDepth 100000
namespace Go.Proofs.YtdponihkpomheaaGreatDoor
open Go.RowKit
open Tryz
section
open Go.Shelf
theorem nk{n:Int}{l:List D.Rule}{k:Nat}{x:D.Rule}(h:l[k]?=some x)(Z4:OH n x=false):LV n l=false:=by
 grind[LV]
theorem ac5(v:Value)(l:List D.Rule)(n:Int)(w:World)(Yz:∀x∈l,Mv x)(Z2:TQ w v l)(ZY:l.length<=16777216):
  Calls prog 183 #[v,Z9 n] w λe w'=>e=.returned (.bool (LV n l))/\Z6 w w':=by
 have ZK:=bx Z2;have Yt:=bx Yz;obtain⟨XH,ZU,rfl⟩:=Z2.slice;clear Z2 Yz
 go_in
 go_wp2_with fail
 go_loopw[5] (λi wr=>∃k:Nat,k<=l.length/\i=Z9 k/\Box ((l.take k).all (OH n)=true)/\Box (Z6 w wr)) (λi _=>l.length-(intOf i).toNat)
 ·exact⟨0,by omega,rfl,⟨rfl⟩,⟨Below.refl _ _⟩⟩
 obtain⟨k,Z3,rfl,YZ,Xk⟩:=hrel
 by_cases Zu:k<l.length
 ·obtain⟨x,Z4⟩:=Yg l k Zu;obtain⟨SX,off,XV,Y5,XL,Yi,XB,YX⟩:=(ZK.o.below Xk.o).get (by grind);obtain⟨rfl,rfl⟩:=XN Y5;obtain⟨Vj,Ym,Vl,W2,VM,Ph,Is,QI,N7⟩:=YX k x Z4;have K7:=Yt.o x (Xh Z4);have W4:=bx (λW(h:Z6 wr W)=>aeG x.1.1 Vj x.1.2 n W (QI.below h) K7.1);have SE:=bx (λW(h:Z6 wr W)=>aeG x.2.1.1 Ym x.2.1.2 n W (N7.below h) K7.2);have YD:=bx Z4;unfold maxLen at Yi;obtain⟨⟨KL,LB⟩,⟨str,LA⟩,Mc⟩:=x;simp only at Vl W2 VM Ph Is W4 SE;clear Z4 Y5 YX QI N7 K7
  cases QY:Ms n LB with
  |false=>
   have RA:=bx (nk YD.o (show OH n ((KL,LB),(str,LA),Mc)=false by grind[OH]));have Xy:=bx QY;clear QY;go_wp2_with (go_at_call 260;refine(W4.o _ YU).mono ?_;rintro e ZV ⟨rfl,ZZ⟩;rw[Xy.o])
   go_ret
   exact⟨YG (by rw[RA.o]),bt Xk.o ZZ⟩
  |true=>
   have Xy:=bx QY
   cases Pf:Ms n LA with
   |false=>
    have RA:=bx (nk YD.o (show OH n ((KL,LB),(str,LA),Mc)=false by grind[OH]));have MS:=bx Pf;clear QY Pf;go_wp2_with fail;refine(W4.o _ YU).mono ?_;rintro e ZV ⟨rfl,ZZ⟩;rw[Xy.o];have ZW:=bx ZZ;have d0:=(ZZ.cell (p:=⟨SX,off+k*5+2,none⟩) XB).trans VM;have d1:=(ZZ.cell (p:=⟨SX,off+k*5+3,none⟩) XB).trans Ph;clear ZZ;go_wp2_with fail;refine(SE.o _ ZW.o).mono ?_;rintro e ZB ⟨rfl,Zz⟩;rw[MS.o];have Zt:=Zw ZW Zz;clear Zz
    go_wp2
    go_ret
    exact⟨YG (by rw[RA.o]),bt Xk.o Zt.o⟩
   |true=>
    have MS:=bx Pf
    cases str with
    |true=>
     have RA:=bx (nk YD.o (show OH n ((KL,LB),(true,LA),Mc)=false by simp[OH]));clear QY Pf;go_wp2_with fail;refine(W4.o _ YU).mono ?_;rintro e ZV ⟨rfl,ZZ⟩;rw[Xy.o];have ZW:=bx ZZ;have d0:=(ZZ.cell (p:=⟨SX,off+k*5+2,none⟩) XB).trans VM;have d1:=(ZZ.cell (p:=⟨SX,off+k*5+3,none⟩) XB).trans Ph;clear ZZ;go_wp2_with fail;refine(SE.o _ ZW.o).mono ?_;rintro e ZB ⟨rfl,Zz⟩;rw[MS.o];have Zt:=Zw ZW Zz;have d2:=(Zt.o.cell (p:=⟨SX,off+k*5+2,none⟩) XB).trans VM;clear Zz d0 d1
     go_wp2
     go_ret
     exact⟨YG (by rw[RA.o]),bt Xk.o Zt.o⟩
    |false=>
     have Y8:=bx (hU n l k _ YD.o YZ.o (show OH n ((KL,LB),(false,LA),Mc)=true by grind[OH]));clear QY Pf;go_wp2_with fail;refine(W4.o _ YU).mono ?_;rintro e ZV ⟨rfl,ZZ⟩;rw[Xy.o];have ZW:=bx ZZ;have d0:=(ZZ.cell (p:=⟨SX,off+k*5+2,none⟩) XB).trans VM;have d1:=(ZZ.cell (p:=⟨SX,off+k*5+3,none⟩) XB).trans Ph;clear ZZ;go_wp2_with fail;refine(SE.o _ ZW.o).mono ?_;rintro e ZB ⟨rfl,Zz⟩;rw[MS.o];have Zt:=Zw ZW Zz;have d2:=(Zt.o.cell (p:=⟨SX,off+k*5+2,none⟩) XB).trans VM;clear Zz d0 d1
     go_wp2
     go_roundw
     ·exact⟨k+1,Zu,by go_num,Y8,⟨bt Xk.o Zt.o⟩⟩
     grind[intOf]
 obtain rfl:k=l.length:=by omega
 have Y8:=bx (show LV n l=(decide (1<=n)&&decide (n<=32)&&decide (l.length<=40)) by
  unfold LV;have:=YZ.o;grind)
 clear YZ
 rcases(show n<1\/(1<=n/\32<n)\/(1<=n/\n<=32) by omega)with h|⟨h,TB⟩|⟨h,TB⟩
 ·go_wp2
  go_ret
  exact⟨YG (by rw[Y8.o];grind),Xk.o⟩
 ·go_wp2
  go_ret
  exact⟨YG (by rw[Y8.o];grind),Xk.o⟩
 rcases SM 40 l.length with awC|awC
 ·go_wp2
  go_ret
  exact⟨YG (by rw[Y8.o,Yh h,Yh TB,Bool.true_and,Bool.true_and,decide_eq_decide];omega),Xk.o⟩
 go_wp2
 go_ret
 exact⟨YG (by rw[Y8.o];grind),Xk.o⟩
end
section
open Go.Shelf
attribute[local go_sem] Oper.semAt_some
theorem aq9:Pushes prog 260 27 24:=.mk' (z:=Z1) underlying260 (by rfl) rfl
theorem qz:Pushes prog 23 22 24:=.mk' (z:=Z1) underlying23 (by rfl) rfl
def JR(L:List (List Nat)):List (List Value):=L.map λr=>r.map To
theorem rA(L:List (List Nat)):(JR L).length=L.length:=by simp[JR]
theorem hE(L:List (List Nat))(r:List Nat):JR (L++[r])=JR L++[r.map To]:=by simp[JR]
theorem qD{W:World}{base:Nat}{E e:TypeId}{v:Value}{WM:List Value}{L:List (List Nat)}(h:(Pc.rows base E e v WM (JR L)).ok W):TF W v (L.map zs):=by
 obtain⟨ZI,Z7,Z5⟩:=h;have hl:WM.length=L.length:=by grind[rA]
 rcases Z7.2 with⟨ZS,ZG⟩|⟨g,ZU,VY,ZS,ZG,Zi,Yu,VV,Vz,WK⟩
 ·refine .inl ⟨ZS,?_⟩;grind
 refine .inr ⟨g,0,none,ZU,by grind,by grind,VV,λZP=>⟨rfl,(J4.1 Zi).1,λi r ZT=>?_⟩⟩;rw[RX]at ZT;obtain⟨S2,k1,rfl⟩:=NU.1 ZT;obtain⟨x,Z4,On,-⟩:=Z5 i (S2.map To) (by grind[JR]);refine⟨x,?_,wB On (by simp)⟩;have:=Z7.cells (g:=g) (by rw[ZS];rfl) i x Z4
 (try unfold ZQ at *);grind[Addr.add]
theorem anA{rs:List D.Side}{k:Nat}(h:k<rs.length):(D.bF rs).take (k+1)=(D.bF rs).take k++[D.firstAt rs k]:=take_snoc' _ _ _ (by grind[D.bF])
theorem nw{t:List D.Sets}{s:D.Sets}(h:D.place t s=t.length):s∉t:=λhm=>by have:=D.aaN hm;omega
theorem n4{t:List D.Sets}{s:D.Sets}(h:s∉t):D.add t s=t++[s]:=by grind[D.add]
theorem ap6{t:List D.Sets}{s:D.Sets}(h:s∈t):D.add t s=t:=by grind[D.add]
theorem amx{L1:List D.Side}{n K j:Nat}{T:List D.Sets}{Ob:List (List Nat)}{MO:List Nat}{S:D.Sets}(Z8:D.build L1 n K=⟨T,Ob,MO⟩)(Z3:Ob.length=K)(Xc:K+1<=300)(hS:T[K]?=some S)(YO:j+1<=n+1)(hl:300<(D.row L1 n S T (j+1)).2.length):D.da L1 n=false:=by
 refine D.aoV _ _ (k:=K+1) Xc ?_;have e:D.build L1 n (K+1)=(D.build L1 n K).go L1 n:=rfl;rw[e,Z8,D.fD _ _ (b:=⟨T,Ob,MO⟩) (S:=S) (by grind)];exact Vh hl (D.as5 (rs:=L1) (n:=n) (S:=S) (t:=T) YO)
theorem aqj{L1:List D.Side}{n K:Nat}{T TI:List D.Sets}{Ob:List (List Nat)}{MO r:List Nat}{S:D.Sets}(Z8:D.build L1 n K=⟨T,Ob,MO⟩)(Z3:Ob.length=K)(hS:T[K]?=some S)(ZT:D.row L1 n S T (n+1)=(r,TI)):
  D.build L1 n (K+1)=⟨TI,Ob++[r],MO++[D.bf L1 S L1.length]⟩:=by
 have e:D.build L1 n (K+1)=(D.build L1 n K).go L1 n:=rfl;rw[e,Z8,D.fD _ _ (b:=⟨T,Ob,MO⟩) (S:=S) (by grind)];grind
def qu(w:World)(rs:List D.Rule)(n K g:Nat)(xa:Value)(wr:World):Prop:=
 ∃Zo Za us LZ,Sep [Pc.rows w.heap.size 27 2 xa us (JR (D.build (Wi rs) n K).todo),Pc.blk g 29 #[Zo,Za],Pc.rows w.heap.size 22 3 Zo LZ (JR (D.build (Wi rs) n K).next),
  Pc.row w.heap.size 2 1 Za K ((D.build (Wi rs) n K).fits.map To),Pc.blk w.heap.size 29 #[Z1,Z1],Pc.old w.heap.size w] wr
def y2(w:World)(t:List D.Sets)(r:List Nat)(next:List (List Nat))(fits:List Nat)(K g j:Nat)(Zo Za:Value)(LZ:List Value)(xa UX:Value)(wr:World):Prop:=
 ∃us,Sep [Pc.row w.heap.size 3 1 UX j (r.map To),Pc.rows w.heap.size 27 2 xa us (JR t),Pc.blk g 29 #[Zo,Za],Pc.rows w.heap.size 22 3 Zo LZ (JR next),
  Pc.row w.heap.size 2 1 Za K (fits.map To),Pc.blk w.heap.size 29 #[Z1,Z1],Pc.old w.heap.size w] wr
theorem ao5(v:Value)(rs:List D.Rule)(n:Int)(w:World)(Yz:∀x∈rs,Mv x)(Z2:TQ w v rs)(ZY:rs.length<=16777216):
  Calls prog 104 #[v,Z9 n] w (aea rs n w):=by
 have Yn:=Xl w (.cells #[Z1,Z1] 29);have WI:=bx (ac5 v rs n _ Yz (Z2.below Yn) ZY);have ZR:=bx Yn;have ZK:=bx (Zv.new w 29 #[Z1,Z1]);have XI:=bx ((Sep.start w).ak 29 #[Z1,Z1]);have ZN:=bx Z2;obtain⟨XH,ZU,rfl⟩:=Z2.slice;obtain⟨W2,VM⟩:=Z2.fr;clear Z2 Yn
 cases ZT:LV n rs with
 |false=>
  have Vc:=bx ZT;have Yq:=bx (show E9 rs n=90 by grind[E9]);have W3:=bx (show HM rs n=([],[]) by grind[HM]);clear ZT
  go_in
  go_wp2_with fail;refine WI.o.mono ?_;rintro e ZV ⟨rfl,ZZ⟩;rw[Vc.o];have ZW:=Zw ZR ZZ;have SF:=ZK.ub ZZ;have S2:=(SF.o.cell 0).trans (show _=some (Value.slice none 0 0)from rfl);have r1:=(SF.o.cell 1).trans (show _=some (Value.slice none 0 0)from rfl);have f0:=SF.o.frozen 0;have f1:=SF.o.frozen 1;have pA:=SF.o.lt;clear ZZ;go_wp2_with fail;exact bodyPost_ret (v:=.tuple #[.agg #[Z1,Z1],Z9 90]) (Cf results104 _ _ w.heap.size 29 #[Z1,Z1] (0,0) _ rfl ((SF.o.ai 0 Z1).ai 1 Z1) underlying29 rfl sz) rfl
   ⟨(ZW.o.setCell Ys _).setCell Ys _,_,by rw[Yq.o],by rw[W3.o];exact hP _⟩
 |true=>
  have Vc:=bx ZT;obtain⟨LD,FX,AT,NA⟩:=uQ ZT;obtain⟨Zj,rfl⟩:=PY (show 0<=n by omega);have JQ:=bx NA;have Se:=bx (D.arR (Wi rs));have JE:=bx (λ(k:Nat)(h:k<rs.length)=>show((D.bF (Wi rs)).take (k+1)).map To=((D.bF (Wi rs)).take k).map To++[To (D.firstAt (Wi rs) k)] by rw[anA (by grind[HZ]),T9];rfl);clear ZT NA
  go_in
  go_wp2_with fail;refine WI.o.mono ?_;rintro e ZV ⟨rfl,ZZ⟩;rw[Vc.o];have V0:=bx (((XI.o.below ZZ)).aH w.heap.size 1 2);clear ZZ;go_wp2_with fail
  go_loopw[6,7] (λo i wr=>∃k:Nat,k<=rs.length/\i=Z9 k/\Box (Sep [Pc.row w.heap.size 2 1 o k (((D.bF (Wi rs)).take k).map To),Pc.blk w.heap.size 29 #[Z1,Z1],Pc.old w.heap.size w] wr)) (λ_ i _=>rs.length-(intOf i).toNat)
  ·grind
  obtain⟨k,Z3,rfl,YC⟩:=hrel;have X3:=bx (show Z6 w wr from YC.o.bel (by simp))
  by_cases Zu:k<rs.length
  ·obtain⟨x,Z4⟩:=Yg rs k Zu;obtain⟨SX,off,XV,Y5,XL,Yi,XB,YX⟩:=(ZN.o.below X3.o).get (by grind);obtain⟨rfl,rfl⟩:=XN Y5;obtain⟨Vj,Ym,Vl,W2,VM,Ph,Is,QI,N7⟩:=YX k x Z4;have Tx:=JQ.o x (Xh Z4);have U1:=bx (show((D.bF (Wi rs)).take (k+1)).map To=((D.bF (Wi rs)).take k).map To++[Value.int .i64 ((N.clo x.1.2 0:Nat):Int)] by rw[JE.o k Zu];unfold D.firstAt;rw[uK Z4];rfl);have Uv:=bx (show qP x.1.2=.tuple #[Z9 (N.clo x.1.2 0),Z9 0] by grind[qP]);have Ry:=bx (auv x.1.1 Vj x.1.2 wr QI (by have:=EV Tx;omega));unfold maxLen at Yi;obtain⟨⟨KL,LB⟩,⟨str,LA⟩,Mc⟩:=x;simp only at Vl W2 VM Ph Is U1 Uv Ry;clear Z4 Y5 YX QI N7 Tx;go_wp2_with fail;refine Ry.o.mono ?_;rintro e Zh ⟨rfl,Zb⟩;rw[Uv.o];have WT:=bx (YC.o.below Zb);have BK:=XJ X3.o.size Zb.size;clear Zb;go_wp2_with (at_builtin;refine PC rfl _ _ 27 rfl rW WT.o 0 rfl rfl rfl rfl (by omega) (by omega) BK ?_;rintro Zy YL Uh -)
   rw[<-U1.o]at Uh;have Wp:=bx Uh;clear Uh
   go_wp2
   go_roundw
   ·exact⟨k+1,Zu,by go_num,Wp⟩
   grind[intOf]
  obtain rfl:k=rs.length:=by omega
  have NT:=bx (show(D.bF (Wi rs)).take rs.length=D.bF (Wi rs) by rw[<-HZ rs,<-Se.o,OR]);have qF:=YC.o;rw[NT.o]at qF;obtain⟨R6,XG,rfl,n6,ma⟩:=UG (qF.row 0 rfl);have Lc:=bx ((Sep.auH (E:=27) (xs:=(D.bF (Wi rs)).map To) (by rw[X4,Se.o,HZ];exact qF) X3.o.size).ak 29 #[Z1,Z1]);clear YC qF
  go_upto_region 11 with(fail)
  obtain⟨g,ZH⟩:∃g,g=wr.heap.size+1:=⟨_,rfl⟩
  obtain⟨UF,Nm⟩:∃UF,UF=(wr.alloc (.cells #[.slice R6 rs.length XG] 27)).alloc (.cells #[Z1,Z1] 29):=⟨_,rfl⟩
  rw[<-Nm,<-ZH];have Pq:=bx (show qu w rs Zj 0 g (.slice (some ⟨wr.heap.size,0,none⟩) 1 1) UF by
   have Z7:=Lc.o;rw[<-Nm,show(wr.alloc (.cells #[.slice R6 rs.length XG] 27)).heap.size=g by rw[ZH];simp]at Z7;have Z5:=((Z7.aH w.heap.size 1 2).akP w.heap.size 22 3)
   exact⟨_,_,_,_,((Z5.front 1 rfl).front 1 rfl |>.front 2 rfl).front 3 rfl⟩)
  have ia:=bx (show(D.build (Wi rs) Zj 0).next.length=0/\0<=(D.build (Wi rs) Zj 0).todo.length/\(D.build (Wi rs) Zj 0).todo.length<=300 from⟨rfl,OQ _,(show(1:Nat)<=300 from by decide)⟩);have jc:=bx (show w.heap.size<=g by have:=X3.o.size;omega);clear Lc NT Se JE V0 XI WI ZR ZK Z3 Zu n6 ma Nm ZH;go_wp2_with fail
  go_loopw[10,12] (λxa i aye=>∃K:Nat,K<=300/\i=Z9 K/\Box (qu w rs Zj K g xa aye)/\Box ((D.build (Wi rs) Zj K).next.length=K/\K<=(D.build (Wi rs) Zj K).todo.length/\(D.build (Wi rs) Zj K).todo.length<=300)) (λ_ i _=>301-(intOf i).toNat)
  ·grind
  obtain⟨K,Xc,rfl,F4,SP⟩:=hrel;obtain⟨Zo,Za,us,LZ,NA⟩:=F4.o;obtain⟨T,Yo⟩:∃T,(D.build (Wi rs) Zj K).todo=T:=⟨_,rfl⟩
  obtain⟨Ob,kJ⟩:∃Ob,(D.build (Wi rs) Zj K).next=Ob:=⟨_,rfl⟩
  obtain⟨MO,oi⟩:∃MO,(D.build (Wi rs) Zj K).fits=MO:=⟨_,rfl⟩
  have Y9:=bx (show D.build (Wi rs) Zj K=⟨T,Ob,MO⟩ by rw[<-Yo,<-kJ,<-oi]);obtain⟨TT,Nj,Sx⟩:=SP.o;have nP:=D.awi (Wi rs) Zj K;rw[Yo]at Nj Sx nP NA;rw[kJ]at TT NA;rw[oi]at NA;have jd:=bx nP;have w5:=bx (show us.length=T.length by have:=(NA.at' 0 rfl).1;grind[rA]);obtain⟨Uj,ac,BP,ayE,ayG⟩:=UG (NA.at' 0 rfl).2.1;rw[w5.o]at BP;subst BP;have Eb:=bx NA;clear F4 SP nP NA Yo kJ oi
  by_cases Zu:K<T.length
  ·obtain⟨S,hS⟩:=Yg T K Zu;have Xe:=bx hS;have je:=bx (jd.o S (Xh hS));have aoi:=bx (show y2 w T [] Ob MO K g 0 Zo Za LZ (.slice Uj T.length ac) (Z1) wr from⟨us,Eb.o.aH _ _ _⟩);clear hS;go_wp2_with fail
   go_loopw[10,13,14] (λxa UX c CQ=>∃j:Nat,j<=Zj+1/\c=Z9 j/\Box (y2 w (D.row (Wi rs) Zj S T j).2 (D.row (Wi rs) Zj S T j).1 Ob MO K g j Zo Za LZ xa UX CQ)/\Box ((D.row (Wi rs) Zj S T j).2.length<=300)) (λ_ _ c _=>Zj+1-(intOf c).toNat)
   ·exact⟨0,by omega,rfl,aoi,⟨Sx⟩⟩
   obtain⟨j,YO,rfl,uf,LG⟩:=hrel;obtain⟨us,Nf⟩:=uf.o;obtain⟨⟨r,TI⟩,V7⟩:∃q,D.row (Wi rs) Zj S T j=q:=⟨_,rfl⟩
   have Mn:=bx V7;have PG:=D.dW (Wi rs) Zj S T j;have zJ:=D.fO (Wi rs) Zj S T j;rw[V7]at Nf LG PG zJ;simp only at Nf LG PG zJ;have w5:=bx (show us.length=TI.length by have:=(Nf.at' 1 rfl).1;rw[rA]at this;omega);have anQ:=bx (show∀x∈TI,D.Good (Wi rs) x by
    have:=D.fA (rs:=Wi rs) (n:=Zj) (S:=S) (t:=T) jd.o (λc=>D.good_step (Wi rs) S c) j;simp_all)
   have aiR:=bx Nf;have O7:=bx (show Z6 w wr from Nf.bel (by simp));obtain⟨ca,Rm,rfl,ayC,ayT⟩:=UG (Nf.row 0 rfl);have OC:=bx (qD (Nf.at' 1 rfl));have LM:=D.gp PG Xe.o;have kP:=(R7 LM).1;have agu:=LG.o
   by_cases hjn:j<=Zj
   ·obtain⟨HD,B6,zf,BP,RK,R0,T3,wo⟩:=OC.o.get (by intro e;have:=congrArg List.length e;simp at this;subst this;simp at kP);rw[X4]at BP RK;subst BP;obtain⟨Sl,UT,TG⟩:=wo K (zs S) (by rw[RX,LM];rfl);obtain⟨uv,uh,kj⟩:∃Rm:Int,D.cls Zj j=Rm/\((j=Zj/\Rm=-1)\/(j<Zj/\Rm=(j:Int))):=by
     refine⟨_,rfl,?_⟩;unfold D.cls
     rcases SM j Zj with h|h
     ·exact .inr ⟨h,by rw[Y4 (by omega)]⟩
     exact .inl ⟨by omega,by rw[Y0 (by omega)]⟩
    obtain⟨s,Z0⟩:∃s,D.bJ (Wi rs) S uv=s:=⟨_,rfl⟩
    have Ry:=bx (aoq (.slice XH rs.length ZU) Sl rs S uv wr (ZN.o.below O7.o) AT JQ.o je.o TG);rw[Z0]at Ry;have Wg:=bx (show s.length=rs.length by rw[<-Z0,D.aa0,HZ]);have UK:=bx (show D.row (Wi rs) Zj S T (j+1)=(r++[D.place TI s],D.add TI s) by rw[D.dO,Mn.o,uh,Z0]);unfold maxLen at R0;have azT:K<zf:=by omega
    clear Nf uf PG LM wo TG V7 Z0 uh;have hY:Calls prog 185 #[.slice XH rs.length ZU,Sl,Z9 uv] wr λe w'=>Box (Z6 wr w')/\∃Yr lc,e=.returned (.slice Yr rs.length lc)/\Box (Sep [Pc.row w.heap.size 2 1 (.slice Yr rs.length lc) rs.length (s.map To),Pc.row w.heap.size 3 1 (.slice ca j Rm) j (r.map To),Pc.rows w.heap.size 27 2 (.slice (some ⟨HD,B6,none⟩) TI.length zf) us (JR TI),Pc.blk g 29 #[Zo,Za],Pc.rows w.heap.size 22 3 Zo LZ (JR Ob),
      Pc.row w.heap.size 2 1 Za K (MO.map To),Pc.blk w.heap.size 29 #[Z1,Z1],Pc.old w.heap.size w] w'):=Ry.o.mono (by
     rintro e Zh ⟨Zb,Zc,rfl,tQ⟩;obtain⟨Yr,lc,rfl,-,-⟩:=UG tQ;exact⟨⟨Zb⟩,Yr,lc,rfl,⟨aiR.o.got Zb tQ O7.o.size⟩⟩)
    have PN:=bx hY;clear hY Ry;have atQ:(((j:Int)==(Zj:Int))=true/\uv=-1)\/(((j:Int)==(Zj:Int))=false/\uv=(j:Int)):=by
     rcases kj with⟨h,TB⟩|⟨h,TB⟩
     ·exact .inl ⟨by rw[Lz];omega,TB⟩
     exact .inr ⟨Sz.2 (by omega),TB⟩
    clear kj
    rcases atQ with⟨an1,rfl⟩|⟨an1,rfl⟩
    all_goals
     go_wp2_with fail;refine PN.o.mono ?_;rintro e Zh ⟨Zb,Yr,lc,rfl,ED⟩;have Uu:=bx (anH (.slice (some ⟨HD,B6,none⟩) TI.length zf) (.slice Yr rs.length lc) TI s Zh (qD (ED.o.at' 2 rfl)) (by omega) (λx Z4=>by rw[(anQ.o x Z4).1,HZ];exact AT) (by rw[Wg.o];exact AT) (wB (ED.o.row 0 rfl) Wg.o.symm));obtain⟨p,hp⟩:∃p,D.place TI s=p:=⟨_,rfl⟩
     have VB:=bx hp;have afx:=D.alI TI s;rw[hp]at Uu afx;rw[hp]at UK;clear hp
     rcases(show(p=300/\TI.length=300)\/(p<300/\p=TI.length)\/(p<300/\p<TI.length) by omega)with⟨Hr,Ja⟩|⟨Hr,Ja⟩|⟨Hr,Ja⟩
     ·have q1:((p:Int)==300)=true:=by rw[Lz];omega
      have GF:=bx Hr;have xj:=bx Ja;have T6:=bx (show K+1<=300 by omega);clear Hr Ja afx;go_wp2_with fail;refine Y3 Uu.o λYL Yf=>?_
      have Wp:=bx (ED.o.below Yf);have y6:=bx (amx Y9.o TT T6.o Xe.o (show j+1<=Zj+1 by omega) (by rw[UK.o];simp only;rw[n4 (nw (by rw[VB.o,GF.o,xj.o])),WR,xj.o];exact Nat.lt_succ_self 300));have Yq:=bx (show E9 rs Zj=100 by unfold E9;rw[Vc.o,RU,y6.o];rfl);have W3:=bx (show HM rs Zj=([],[]) by unfold HM;rw[Vc.o,RU,y6.o];rfl);have SF:=bx (Wp.o.blk 6 rfl);have ZW:=bx (show Z6 w YL from Wp.o.bel (by simp));have S2:=(SF.o.cell 0).trans (show _=some (Value.slice none 0 0)from rfl);have r1:=(SF.o.cell 1).trans (show _=some (Value.slice none 0 0)from rfl);have f0:=SF.o.frozen 0;have f1:=SF.o.frozen 1;have pA:=SF.o.lt;clear Yf;go_wp2_with fail;exact bodyPost_ret (v:=.tuple #[.agg #[Z1,Z1],Z9 100]) (Cf results104 _ _ w.heap.size 29 #[Z1,Z1] (0,0) _ rfl ((SF.o.ai 0 Z1).ai 1 Z1) underlying29 rfl sz) rfl
       ⟨(ZW.o.setCell Ys _).setCell Ys _,_,by rw[Yq.o],by rw[W3.o];exact hP _⟩
     ·go_wp2_with fail;refine Y3 Uu.o λYL Yf=>?_
      have Wp:=bx (ED.o.below Yf);subst Ja;have q1:((TI.length:Int)==300)=false:=Sz.2 (by omega);have l4:w.heap.size<=YL.heap.size:=by have:=Zb.o.size;have:=Yf.size;have:=O7.o.size;omega
      have Ak:us.length<=1000000000:=by rw[w5.o];omega
      have Cc:=bx (show JR (D.add TI s)=JR TI++[s.map To] by rw[n4 (nw VB.o),hE]);have SH:=bx (show(D.add TI s).length<=300 by rw[n4 (nw VB.o),WR];simp;omega);have wg:=bx (show j<=1000000000 by omega);clear Yf;go_wp2_with (first
       |(at_builtin;refine aeF rfl _ _ 260 rfl aq9 Wp.o 1 rfl rfl rfl rfl (by rw[X4,Wg.o]) Ak (by omega) l4 ?_;rintro Zy YK OX ⟨g5,Wv,rfl,awE,awF⟩;have nV:=(OX.bel (n:=w.heap.size) (W0:=w) (by simp)).size)
       |(at_builtin;refine PC rfl _ _ 22 rfl OJ OX 0 rfl rfl rfl rfl wg.o (by omega) nV ?_;rintro Zy XA WC -))
      have Gm:=bx (show y2 w (D.row (Wi rs) Zj S T (j+1)).2 (D.row (Wi rs) Zj S T (j+1)).1 Ob MO K g (j+1) Zo Za LZ (.slice (some ⟨g5,0,none⟩) (us.length+1) Wv) Zy XA by
       rw[UK.o];unfold y2;simp only;rw[Cc.o,T9];exact⟨_,WC⟩)
      clear OX WC
      go_wp2
      go_roundw
      ·exact⟨j+1,by omega,by go_num,Gm,⟨by rw[UK.o];exact SH.o⟩⟩
      simp[intOf];omega
     go_wp2_with fail;refine Y3 Uu.o λYL Yf=>?_
     have Wp:=bx (ED.o.below Yf).tail;have q1:((p:Int)==300)=false:=Sz.2 (by omega);have q2:((p:Int)==(TI.length:Int))=false:=Sz.2 (by omega);have l4:w.heap.size<=YL.heap.size:=by have:=Zb.o.size;have:=Yf.size;have:=O7.o.size;omega
     have tP:s∈TI:=by
      rcases Classical.em (s∈TI)with h|h
      ·exact h
      have:=D.eQ h;rw[VB.o]at this;omega
     have Cc:=bx (ap6 tP);have wg:=bx (show j<=1000000000 by omega);clear Yf tP;go_wp2_with (at_builtin;refine PC rfl _ _ 22 rfl OJ Wp.o 0 rfl rfl rfl rfl wg.o (by omega) l4 ?_;rintro Zy XA WC -)
     have Gm:=bx (show y2 w (D.row (Wi rs) Zj S T (j+1)).2 (D.row (Wi rs) Zj S T (j+1)).1 Ob MO K g (j+1) Zo Za LZ (.slice (some ⟨HD,B6,none⟩) TI.length zf) Zy XA by
      rw[UK.o];unfold y2;simp only;rw[Cc.o,T9];exact⟨_,WC⟩)
     clear WC
     go_wp2
     go_roundw
     ·exact⟨j+1,by omega,by go_num,Gm,⟨by rw[UK.o];simp only;rw[Cc.o];exact agu⟩⟩
     simp[intOf];omega
   obtain⟨U7,V5,rfl,ar3,amn⟩:=UG (Nf.at' 3 rfl).2.1;obtain⟨Ce,Cr,rfl,n6,ma⟩:=UG (Nf.row 4 rfl);have asP:=bx (show LZ.length=Ob.length by have:=(Nf.at' 3 rfl).1;rw[rA]at this;simpa using this);have jO:LZ.length<=1000000000:=by rw[asP.o,TT];omega
   have WP:=O7.o.size;have oz:=bx (Nf.blk 2 rfl);have awu:=oz.o.q0;have Vx:=oz.o.lt;have aiI:=bx (show j=(r.map To).length by rw[X4,zJ]);have tS:j=Zj+1:=by omega
   have TE:=bx tS;have ab3:=bx Nf;clear Nf uf PG LM zJ V7 tS;go_wp2_with (at_builtin;refine aeF rfl _ _ 23 rfl qz ab3.o 2 rfl rfl rfl rfl aiI.o jO (by omega) WP ?_;rintro Zy YK OX ⟨g5,Wv,rfl,awE,awF⟩;have M9:=bx (OX.blk 1 rfl);have Wz:=(M9.o.cell 0).trans (show _=some (Value.slice U7 LZ.length V5)from rfl);have f0:=M9.o.frozen 0;have tA:=M9.o.lt;have WQ:=bx (OX.set 1 rfl 0 (.slice (some ⟨g5,0,none⟩) (LZ.length+1) Wv)))
   simp only[List.set]at WQ;generalize YK.setCell ⟨g,0,none⟩ (.slice (some ⟨g5,0,none⟩) (LZ.length+1) Wv)=XA at WQ⊢;clear Wz f0 tA M9 OX ab3 awu Vx oz jO WP;have adp:=(WQ.o.bel (n:=w.heap.size) (W0:=w) (by simp)).size;have aks:=bx (show TI[K]?=some S from D.gp (by have:=D.dW (Wi rs) Zj S T j;rw[Mn.o]at this;exact this) Xe.o);obtain⟨Yl,r8⟩:∃Yl,Yl=XA.drew:=⟨_,rfl⟩
   have M5:=bx (show Sep _ Yl by rw[r8];exact WQ.o.drew);have am6:w.heap.size<=Yl.heap.size:=by rw[r8];exact adp
   have X3:=bx (show Z6 w Yl from M5.o.bel (by simp));have aeb:=qD (M5.o.at' 0 rfl);obtain⟨HD,B6,zf,BP,RK,R0,T3,wo⟩:=aeb.get (by intro e;have:=congrArg List.length e;simp at this;subst this;simp at kP);rw[X4]at BP RK;subst BP;obtain⟨Sl,UT,TG⟩:=wo K (zs S) (by rw[RX,aks.o];rfl);unfold maxLen at R0;have uF:=bx (apz (.slice XH rs.length ZU) Sl rs S Yl (ZN.o.below X3.o) AT JQ.o je.o TG);have Wh:=bx (M5.o.blk 1 rfl);have RF:=bx (show∀W',Z6 Yl W'->ZQ W' g 1=some (.slice Ce K Cr)/\ZQ W' HD (B6+K)=some Sl from λW' h=>⟨(Wh.o.below h Wh.o.lt).q1,(h.cell (p:=⟨HD,B6+K,none⟩) T3).trans UT⟩);have afS:=RF.o Yl YU;have aAG:=Wh.o.lt;clear UT wo TG aeb adp WQ;refine Vv 9 (λW=>ZQ W g 1=some (.slice Ce K Cr)/\ZQ W HD (B6+K)=some Sl) (by kernel_rfl) ?_;rw[<-r8];clear r8;have Ud:=bx afS;clear afS;refine Vp [0,1,2,3,4,5,6] ?_
   iterate 7 (refine Vq ?_ rfl Ud.o ?_ ?_;rotate_left;·rintro w ⟨q1,q2⟩;go_simp;try with_reducible rfl)
   refine Vr ?_;refine Y1 7 rfl λY7 ZX=>?_
   go_simp;go_wp2_with (go_at_call 187;refine uF.o.mono ?_;rintro e Xi ⟨rfl,Rh⟩)
   have XM:=bx Rh;have Wb:=bx (M5.o.below Rh);have anc:=XJ am6 Rh.size;clear Rh;refine ZX.out _ _ (λ_=>RF.o _ XM.o) ?_;clear ZX Y7;refine Y1 8 rfl λY7 ZX=>?_
   go_simp;refine ZX.out _ _ (λ_=>RF.o _ (XM.o.alloc XM.o.size _)) ?_;clear ZX Y7;refine Y1 9 rfl λY7 ZX=>?_
   refine H6 rfl _ _ 27 rfl rW Wb.o 3 rfl (by kernel_rfl) (by kernel_rfl) rfl (by omega) (by omega) anc ?_;rintro Zy Va T4 ⟨g8,HC,rfl,azO,azP⟩;refine ZX.out _ _ (λh=>by cases h) ?_;clear ZX Y7;have vS:=bx (T4.blk 1 rfl);have Wz:=(vS.o.cell 1).trans (show _=some (Value.slice Ce K Cr)from rfl);have f0:=vS.o.frozen 1;have L6:=vS.o.lt;have TP:=bx (T4.set 1 rfl 1 (.slice (some ⟨g8,0,none⟩) (K+1) HC));clear T4;refine Y1 10 rfl λY7 ZX=>?_
   go_simp;refine ZX.out _ _ (λh=>by cases h) ?_;clear ZX Y7;refine Y1 11 rfl λY7 ZX=>?_
   go_simp;refine ZX.out _ _ (λh=>by cases h) ?_;clear ZX Y7;refine kD ?_ _;have yX:=bx (show D.build (Wi rs) Zj (K+1)=⟨TI,Ob++[r],MO++[D.bf (Wi rs) S (Wi rs).length]⟩ from aqj Y9.o TT Xe.o (by have:=Mn.o;rw[TE.o]at this;exact this));have aj0:=bx (show qu w rs Zj (K+1) g (.slice (some ⟨HD,B6,none⟩) TI.length zf) (Va.setCell ⟨g,1,none⟩ (.slice (some ⟨g8,0,none⟩) (K+1) HC)) by
    unfold qu;rw[yX.o];simp only;rw[hE,T9,HZ];exact⟨_,_,_,_,TP.o⟩)
   have aqu:=bx (show(D.build (Wi rs) Zj (K+1)).next.length=K+1/\K+1<=(D.build (Wi rs) Zj (K+1)).todo.length/\(D.build (Wi rs) Zj (K+1)).todo.length<=300 by
    rw[yX.o];simp only;rw[WR,TT];exact⟨rfl,kP,agu⟩)
   go_wp2
   go_roundw
   ·exact⟨K+1,by omega,by go_num,aj0,aqu⟩
   simp[intOf];omega
  have y4:=bx (show T.length<=Ob.length by rw[TT];omega);have Fc:=bx (show D.build (Wi rs) Zj 300=⟨T,Ob,MO⟩ by
   rw[<-Y9.o];exact D.fc _ _ Xc (by rw[Y9.o];exact y4.o))
  have ab1:=bx (D.afj _ _ Xc (by rw[Y9.o];exact y4.o) (by rw[Y9.o];exact Sx));have Yq:=bx (show E9 rs Zj=0 by unfold E9;rw[Vc.o,RU,ab1.o];rfl);have W3:=bx (show HM rs Zj=qy ⟨T,Ob,MO⟩ by unfold HM mg;rw[Vc.o,RU,ab1.o,Fc.o];rfl);have Wh:=bx (Eb.o.blk 1 rfl);have UK:=bx (Eb.o.blk 4 rfl);have Mr:=bx (show w.heap.size≠g from λe=>Eb.o.tail.head |> λ_=>(Eb.o.tail.2.1 (Pc.blk w.heap.size 29 #[Z1,Z1]) (by simp) g rfl) e.symm);obtain⟨U7,V5,rfl,ar3,amn⟩:=UG (Eb.o.at' 2 rfl).2.1;obtain⟨Ce,Cr,rfl,n6,ma⟩:=UG (Eb.o.row 3 rfl);have YV:=(Wh.o.cell 0).trans (show _=some (Value.slice U7 LZ.length V5)from rfl);have c1:=(Wh.o.cell 1).trans (show _=some (Value.slice Ce K Cr)from rfl);have Vx:=Wh.o.lt;have q0:=(UK.o.cell 0).trans (show _=some (Value.slice none 0 0)from rfl);have q1:=(UK.o.cell 1).trans (show _=some (Value.slice none 0 0)from rfl);have f0:=UK.o.frozen 0;have f1:=UK.o.frozen 1;have pA:=UK.o.lt;have TP:=bx ((Eb.o.set 4 rfl 0 (.slice U7 LZ.length V5)).set 4 rfl 1 (.slice Ce K Cr));have UD:=bx (show Z6 w wr from Eb.o.bel (by simp));have Ug:T.length=K:=by omega
  have aq2:=bx (show K=MO.length by have:=D.aae (Wi rs) Zj K;rw[Y9.o]at this;have:=this.1;simp only at this;omega);go_wp2_with fail;exact bodyPost_ret (v:=.tuple #[.agg #[.slice U7 LZ.length V5,.slice Ce K Cr],Z9 0]) (Cf results104 _ _ w.heap.size 29 #[.slice U7 LZ.length V5,.slice Ce K Cr] (0,0) _ rfl (TP.o.blk 4 rfl) underlying29 rfl sz) rfl
   ⟨(UD.o.setCell Ys _).setCell Ys _,_,by rw[Yq.o],by rw[W3.o];exact ajB (qD (TP.o.at' 2 rfl)) (wB (TP.o.row 3 rfl) aq2.o)⟩
def JV(M:D.ao):Prop:=M.1.length<=1000/\M.2.length<=1000/\∀r∈M.1,r.length<=1000
def toR(L:Nat)(t:Int):Bool:=decide (0<=t)&&decide (t<L)
def N1(n:Int)(M:D.ao)(i:Nat):Bool:=decide (((M.1.getD i []).length:Int)=n+1)&&(M.1.getD i []).all (toR M.1.length)&&decide (0<=M.2.getD i 0)&&decide (M.2.getD i 0<1099511627776)
def Rp(n:Int)(M:D.ao):Bool:=decide (1<=n)&&decide (n<=32)&&decide (1<=M.1.length)&&decide (M.1.length<=300)&&decide (M.2.length=M.1.length)&&(List.range M.1.length).all (N1 n M)
theorem arK(t:Int)(TD:Nat)(U7:Option Addr)(L V5:Nat)(w:World)(ZL:w.cell? ⟨TD,0,none⟩=some (.slice U7 L V5))(_:TD<w.heap.size):
  Calls prog 272 #[Z9 t,Zn TD] w λe w'=>e=.returned (.bool (!toR L t))/\w=w':=by
 unfold toR
 go_in
 rcases PX t 0 with h|h
 ·go_wp2
  go_ret
  simp_all
 rcases PX t L with Z5|Z5
 ·go_wp2
  go_ret
  simp_all
 go_wp2
 go_ret
 simp_all
theorem avS(v:Value)(xs:List Int)(TD:Nat)(U7:Option Addr)(L V5:Nat)(w:World)(Z2:Y6 w v xs)(ZY:xs.length<=16777216)(ZL:w.cell? ⟨TD,0,none⟩=some (.slice U7 L V5))(Zu:TD<w.heap.size):
  Calls prog 279 #[v,.func (.func 272) #[] #[Zn TD]] w λe w'=>(∃i:Int,e=.returned (Z9 i)/\decide (0<=i)=!xs.all (toR L))/\w=w':=by
 have Qv:=bx Z2;obtain⟨XH,ZU,rfl⟩:=Z2.slice;have X9:=bx (λt=>arK t TD U7 L V5 w ZL Zu);clear Z2 ZL
 go_in
 go_wp2
 go_loop[8] (λi=>∃k:Nat,k<=xs.length/\i=Z9 k/\Box ((xs.take k).all (toR L)=true)) (λi=>xs.length-(intOf i).toNat)
 ·exact⟨0,by omega,rfl,⟨rfl⟩⟩
 obtain⟨k,Z3,rfl,YZ⟩:=hrel
 by_cases Uf:k<xs.length
 ·obtain⟨x,Z4⟩:∃x,xs[k]?=some x:=⟨_,SA Uf⟩
  obtain⟨g,off,XV,Y5,XL,Yi,XB,YX⟩:=Qv.o.get (by grind);obtain⟨rfl,rfl⟩:=XN Y5;have UT:=YX k x Z4;have YD:=bx Z4;unfold maxLen at Yi;clear Z4 Y5 YX
  cases hi:toR L x with
  |true=>
   have Y8:=bx (show(xs.take (k+1)).all (toR L)=true by rw[Uo,YD.o,List.all_append,YZ.o];simp[hi]);have YE:=bx (show(!toR L x)=false by grind);clear hi;go_wp2_with fail;refine YW (X9.o x) ?_;rw[YE.o];go_wp2_with fail
   go_round
   ·exact⟨k+1,Uf,by go_num,Y8⟩
   grind[intOf]
  |false=>
   have Y8:=bx (show xs.all (toR L)=false by
    rw[Bool.eq_false_iff];intro h;rw[QG]at h;rw[h x (Xh YD.o)]at hi
    cases hi)
   have YE:=bx (show(!toR L x)=true by grind);clear hi;go_wp2_with fail;refine YW (X9.o x) ?_;rw[YE.o]
   go_wp2
   go_ret
   exact⟨⟨k,rfl,by rw[Y8.o];simp⟩,rfl⟩
 have Y8:=bx (show xs.all (toR L)=true by have:=YZ.o;grind)
 go_wp2
 go_ret
 exact⟨⟨-1,rfl,by rw[Y8.o];rfl⟩,rfl⟩
theorem avP(v:Value)(xs:List Int)(TD:Nat)(U7:Option Addr)(L V5:Nat)(w:World)(Z2:Y6 w v xs)(ZY:xs.length<=16777216)(ZL:w.cell? ⟨TD,0,none⟩=some (.slice U7 L V5))(Zu:TD<w.heap.size):
  Calls prog 215 #[v,.func (.func 272) #[] #[Zn TD]] w λe w'=>e=.returned (.bool (!xs.all (toR L)))/\w=w':=by
 have YE:=bx (avS v xs TD U7 L V5 w Z2 ZY ZL Zu);clear Z2 ZL
 go_in
 go_wp2_with fail;refine YE.o.mono ?_;rintro e ZV ⟨⟨i,rfl,hi⟩,rfl⟩;have YD:=bx hi;clear hi
 go_wp2
 go_ret
 exact⟨YG (by simpa using YD.o),rfl⟩
theorem CB{n:Int}{M:D.ao}{k:Nat}(Z3:k<M.1.length)(h:N1 n M k=false):Rp n M=false:=by
 grind[Rp]
theorem oe(v:Value)(M:D.ao)(n:Int)(w:World)(Z2:Oh w v M)(Xv:JV M):
  Calls prog 207 #[v,Z9 n] w λe w'=>e=.returned (.bool (Rp n M))/\Z6 w w':=by
 obtain⟨U7,R6,rfl,SO,SQ⟩:=Z2;have OC:=bx SO;have Bk:=bx SQ;have Ns:=bx Xv;obtain⟨Uj,ca,rfl⟩:=SO.slice;obtain⟨WN,XG,rfl⟩:=SQ.slice;obtain⟨ZB,RJ⟩:∃ZB,ZB=w.alloc (.cells #[.slice Uj M.1.length ca,.slice WN M.2.length XG] 29):=⟨_,rfl⟩
 have R9:=bx RJ;have Vt:Z6 w ZB:=by rw[RJ];exact Xl _ _
 have YA:=bx Vt;have T0:=bx (show Zv ZB w.heap.size 29 #[.slice Uj M.1.length ca,.slice WN M.2.length XG] by rw[RJ];exact Zv.new w _ _);have YV:=T0.o.q0;have c1:=T0.o.q1;have S4:=T0.o.lt;clear SO SQ Xv Vt RJ
 by_cases ZH:1<=n/\n<=32/\1<=M.1.length/\M.1.length<=300/\M.2.length=M.1.length
 ·obtain⟨g1,g2,g3,g4,g5⟩:=ZH;have DG:=bx (show Rp n M=(List.range M.1.length).all (N1 n M) by
   grind[Rp])
  have M9:=bx g5;have Hv:(M.2.length:Int)=(M.1.length:Int):=by omega
  rw[g5]at c1;clear g5
  go_in
  go_upto_region 1 with(fail)
  rw[<-R9.o];go_wp2_with fail
  go_loop[39] (λi=>∃k:Nat,k<=M.1.length/\i=Z9 k/\Box ((List.range k).all (N1 n M)=true)) (λi=>M.1.length-(intOf i).toNat)
  ·exact⟨0,by omega,rfl,⟨rfl⟩⟩
  obtain⟨k,Z3,rfl,YZ⟩:=hrel
  by_cases Zu:k<M.1.length
  ·obtain⟨x,Z4⟩:=Yg M.1 k Zu;obtain⟨y,ZJ⟩:=Yg M.2 k (by omega);obtain⟨pa,UC,BT,UV,N9,RK,R0,T3⟩:=(OC.o.below YA.o).get (by grind);obtain⟨rfl,rfl⟩:=XN UV;obtain⟨YM,VZ,Dn,Yn,ZZ,Zz,Zb,Yf⟩:=(Bk.o.below YA.o).get (by grind);obtain⟨rfl,rfl⟩:=XN Yn;obtain⟨Sl,I6,TG⟩:=T3 k x Z4;have ahe:=Yf k y ZJ;have HL:=bx (show N1 n M k=(decide ((x.length:Int)=n+1)&&x.all (toR M.1.length)&&decide (0<=y)&&decide (y<1099511627776)) by
    grind[N1])
   have Gm:=bx (avP Sl x w.heap.size (some ⟨pa,UC,none⟩) M.1.length ca ZB TG (by have:=Ns.o.2.2 x (Xh Z4);omega) YV S4);obtain⟨J1,Pm,rfl⟩:=TG.slice;have PR:=bx Zu;have ahd:=Ns.o.2.2 x (Xh Z4);rw[M9.o]at ZZ;unfold maxLen at RK Zz;clear UV T3 Yn Yf Z4 ZJ TG
   by_cases Sv:(x.length:Int)=n+1
   ·have Xg:=bx Sv;have q1:((x.length:Int)==n+1)=true:=by grind
    clear Sv
    cases UU:x.all (toR M.1.length)with
    |true=>
     have SH:=bx (show(!x.all (toR M.1.length))=false by grind)
     rcases PX y 0 with Nz|Nz
     ·have Yt:=bx (CB PR.o (show N1 n M k=false by rw[HL.o,Yh Xg.o,UU];grind));clear UU;go_wp2_with (go_at_call 215;refine YW Gm.o ?_;rw[SH.o])
      all_goals first|(exact absurd Xg.o (by assumption))|(exfalso;omega)|skip
      go_ret
      exact⟨YG (by rw[Yt.o]),YA.o⟩
     rcases PX y 1099511627776 with I5|I5
     ·have Y8:=bx (show(List.range (k+1)).all (N1 n M)=true by
       rw[List.range_succ,List.all_append,YZ.o];simp only[List.all_cons,List.all_nil,Bool.and_true,Bool.true_and];rw[HL.o,Yh Xg.o,UU,Yh Nz,Yh I5];rfl)
      clear UU;go_wp2_with (go_at_call 215;refine YW Gm.o ?_;rw[SH.o])
      all_goals first|(exact absurd Xg.o (by assumption))|(exfalso;omega)|skip
      go_round
      ·exact⟨k+1,Zu,by go_num,Y8⟩
      grind[intOf]
     have Yt:=bx (CB PR.o (show N1 n M k=false by rw[HL.o,Yh Xg.o,UU];grind));clear UU;go_wp2_with (go_at_call 215;refine YW Gm.o ?_;rw[SH.o])
     all_goals first|(exact absurd Xg.o (by assumption))|(exfalso;omega)|skip
     go_ret
     exact⟨YG (by rw[Yt.o]),YA.o⟩
    |false=>
     have SH:=bx (show(!x.all (toR M.1.length))=true by grind);have Yt:=bx (CB PR.o (show N1 n M k=false by rw[HL.o,UU];simp));clear UU;go_wp2_with (go_at_call 215;refine YW Gm.o ?_;rw[SH.o])
     all_goals first|(exact absurd Xg.o (by assumption))|(exfalso;omega)|skip
     go_ret
     exact⟨YG (by rw[Yt.o]),YA.o⟩
   have Yt:=bx (CB PR.o (show N1 n M k=false by rw[HL.o,Yp Sv];rfl));have q1:=Sz.2 Sv;have Mr:=bx Sv;clear Sv;go_wp2_with fail
   all_goals first|(exact absurd (by assumption) Mr.o)|skip
   go_ret
   exact⟨YG (by rw[Yt.o]),YA.o⟩
  have Y8:=bx (show Rp n M=true by rw[DG.o,show M.1.length=k by omega];exact YZ.o)
  go_wp2
  go_ret
  exact⟨YG (by rw[Y8.o]),YA.o⟩
 have Yt:=bx (show Rp n M=false by
  grind[Rp])
 have K6:n<1\/(1<=n/\32<n)\/(1<=n/\n<=32/\M.1.length<1)\/(1<=n/\n<=32/\1<=M.1.length/\300<M.1.length)\/(1<=n/\n<=32/\1<=M.1.length/\M.1.length<=300/\((M.2.length:Int) != (M.1.length:Int))=true):=by
  grind
 clear ZH
 rcases K6 with g1|⟨g1,g2⟩|⟨g1,g2,g3⟩|⟨g1,g2,g3,g4⟩|⟨g1,g2,g3,g4,g5⟩
 all_goals
  go_in
  go_upto_region 1 with(fail)
  rw[<-R9.o];go_wp2_with fail
  all_goals first|(exfalso;omega)|(exfalso;simp_all;done)|skip
  go_ret
  exact⟨YG (by rw[Yt.o]),YA.o⟩
theorem Sep.lit{ps:List Pc}{W:World}(h:Sep ps W){base:Nat}{e:TypeId}{cs:Array Value}{n:Nat}(Z8:base<=W.heap.size)(ZP:n=cs.size)(hm:n<=1000000):Sep (Pc.row base e 1 (.slice (some ⟨W.heap.size,0,none⟩) n n) n cs.toList::ps) (W.alloc (.cells cs e)):=by
 subst ZP;refine h.add (YU.alloc Ys _) ⟨by simp,.inr ⟨W.heap.size,cs.size,cs,rfl,Z8,heap_alloc_new _ _,Wq _,by grind[maxLen],by simp,?_⟩⟩ (λk Z3=>?_)
 ·rw[Nat.mul_one,<-Array.length_toList,OR]
 grind[Pc.row,Value.ownBlock]
def stepM(n:Nat)(M:D.ao)(at':Nat)(c:Int):Nat:=((M.1.getD at' []).getD (MA n c) 0).toNat
def stM(n:Nat)(M:D.ao)(l:List Int)(i:Nat):Nat:=(l.take i).foldl (stepM n M) 0
def Q4(n:Nat)(M:D.ao)(l:List Int):List Nat:=(List.range (l.length+1)).map (stM n M l)
theorem acZ{n:Nat}{M:D.ao}{l:List Int}{i:Nat}{c:Int}(h:l[i]?=some c):stM n M l (i+1)=stepM n M (stM n M l i) c:=by
 unfold stM;rw[take_snoc' _ _ _ h,List.foldl_append];rfl
theorem wW{n:Nat}{M:D.ao}(h:Rp n M=true){a:Nat}(YZ:a<M.1.length):
  ∃r,M.1[a]?=some r/\r.length=n+1/\(∀c,c<=n->∃x:Int,r[c]?=some x/\0<=x/\x<M.1.length)/\∃f:Int,M.2[a]?=some f/\0<=f/\f<1099511627776:=by
 unfold Rp at h;simp only[Vm,SS]at h;obtain⟨⟨⟨⟨⟨Z7,Z5⟩,ZS⟩,ZG⟩,Zi⟩,Yu⟩:=h;rw[QG]at Yu;have VV:=Yu a (Ly.2 YZ);have ZT:=SA YZ;have Yz:M.2[a]?=some (M.2[a]'(by omega)):=SA (by omega);unfold N1 at VV;rw[show M.1.getD a []=M.1[a] by grind,show M.2.getD a 0=M.2[a]'(by omega) by grind]at VV;simp only[Vm,SS]at VV;obtain⟨⟨⟨Zx,Zr⟩,Zk⟩,Zl⟩:=VV;refine⟨_,ZT,by omega,λc ZL=>?_,_,Yz,Zk,Zl⟩;have V9:c<M.1[a].length:=by omega
 simp_all[toR]
theorem DC{n:Int}{M:D.ao}(h:Rp n M=true):1<=n/\n<=32/\1<=M.1.length/\M.1.length<=300/\M.2.length=M.1.length:=by
 grind[Rp]
theorem atv{n:Nat}{M:D.ao}(h:Rp n M=true){a:Nat}(YZ:a<M.1.length)(c:Int):stepM n M a c<M.1.length:=by
 obtain⟨r,ZT,hl,ZL,-⟩:=wW h YZ;obtain⟨x,Z4,ZI,Z7⟩:=ZL (MA n c) (vj n c);grind[stepM]
theorem qQ{n:Nat}{M:D.ao}(h:Rp n M=true)(l:List Int):∀i,stM n M l i<M.1.length:=by
 intro i;unfold stM;have key:∀(t:List Int)(a:Nat),a<M.1.length->t.foldl (stepM n M) a<M.1.length:=by
  intro t
  induction t with
  |nil=>simp
  |cons c t XZ=>intro a YZ;exact XZ _ (atv h YZ c)
 exact key _ 0 (by have:=(DC h).2.2.1;omega)
theorem abM{n:Nat}{M:D.ao}{l:List Int}{i:Nat}(h:i<=l.length):(Q4 n M l)[i]?=some (stM n M l i):=by
 grind[Q4]
theorem oC(n:Nat)(M:D.ao)(l:List Int):(Q4 n M l).length=l.length+1:=by simp[Q4]
theorem acD{n:Nat}{M:D.ao}{l:List Int}{i:Nat}(h:i<l.length):(Q4 n M l).take (i+2)=(Q4 n M l).take (i+1)++[stM n M l (i+1)]:=take_snoc' _ _ _ (abM (by omega))
def goCode(n:Int)(M:D.ao):Int:=if Rp n M=true then 0 else 100
def aeU(n:Int)(M:D.ao)(l:List Int)(w:World)(e:Ending)(w':World):Prop:=
 Z6 w w'/\∃v,e=.returned (.tuple #[v,Z9 (goCode n M)])/\w'.ownsRow w.heap.size 3 1 v (if Rp n M=true then l.length+1 else 0) ((if Rp n M=true then Q4 n.toNat M l else[]).map To)
theorem akm(A:Nat->Addr)(B:Nat)(v Zc:Value)(M:D.ao)(n:Int)(l:List Int)(w:World)(Z2:Oh w v M)(Xv:JV M)(hl:Y6 w Zc l)(ZY:l.length<=16777216)(XU:Ed A B w)(hB:B<=w.heap.size):
  Calls prog 210 #[v,Z9 n,Zc] w (aeU n M l w):=by
 have Vc:=bx (λW(h:Z6 w W)=>oe v M n W (Z2.below h) Xv);have Xf:=bx (λW(h:Z6 w W)=>XU.below (h.mono hB));have W4:=bx hl;have S5:=bx Z2;obtain⟨U7,R6,rfl,SO,-⟩:=Z2;obtain⟨Uj,ca,rfl⟩:=SO.slice;obtain⟨lo,lc,rfl⟩:=hl.slice;have OC:=bx SO;obtain⟨ZB,RJ⟩:∃ZB,ZB=(w.alloc (.cells #[.slice Uj M.1.length ca,R6] 29)).alloc (.cells #[Z9 0] 3):=⟨_,rfl⟩
 have R9:=bx RJ;have V1:=bx (show Sep [Pc.row w.heap.size 3 1 (.slice (some ⟨w.heap.size+1,0,none⟩) 1 1) 1 [Z9 0],Pc.blk w.heap.size 29 #[.slice Uj M.1.length ca,R6],Pc.old w.heap.size w] ZB by
  have Z7:=(Sep.start w).ak 29 #[.slice Uj M.1.length ca,R6];have Z5:=Z7.lit (base:=w.heap.size) (e:=3) (cs:=#[Z9 0]) (n:=1) (by simp) rfl (by omega);simp_all)
 have Zz:Z6 w ZB:=V1.o.bel (by simp);have Zt:=bx Zz;have U9:=V1.o.blk 1 rfl;have YV:=U9.q0;have c1:=U9.q1;have S4:=U9.lt;clear SO hl Xv XU RJ Zz U9
 cases ZT:Rp n M with
 |false=>
  have ZK:=bx ZT;have Yq:=bx (show goCode n M=100 by grind[goCode]);clear ZT
  go_in
  go_wp2_with fail;refine Nr 0 rfl ?_
  go_upto_region 3 with(fail)
  rw[<-R9.o];go_wp2_with fail;refine(Vc.o _ Zt.o).mono ?_;rintro e Zh ⟨rfl,Zb⟩;rw[ZK.o];have YY:=Zw Zt Zb;have kV:=Xf.o Zh YY.o;have ZH:=kV.var 10 (by decide);have Y8:=bx (ann A B 10 (by decide) Zh kV);unfold PE at Y8;clear Zb kV;go_wp2_with fail
  go_step3
  refine⟨rfl,?_⟩;go_wp2_with fail;refine YW Y8.o ?_;go_wp2_with fail;rw[Exit.noGoto_ret];go_ret2;refine⟨YY.o,_,by rw[Yq.o];rfl,?_⟩;rw[ZK.o];exact World.ownsRow_nil _ _ _ _
 |true=>
  have ZK:=bx ZT;obtain⟨Z7,Z5,ZS,ZG,Zi⟩:=DC ZT;obtain⟨Zj,rfl⟩:=PY (show 0<=n by omega);have Yq:=bx (show goCode Zj M=0 by grind[goCode]);have Wa:=bx (λ(c:Int)(W:World)=>avE c Zj W (by omega) (by omega));have PR:=bx (λi=>qQ ZT l i);have Mn:=bx (λ{a:Nat}(YZ:a<M.1.length)=>wW ZT YZ);have MU:=bx (show(Q4 Zj M l).take 1=[0] by unfold Q4;rw[List.range_succ_eq_map];rfl);clear ZT Zi
  go_in
  go_wp2_with fail;refine Nr 0 rfl ?_
  go_upto_region 3 with(fail)
  rw[<-R9.o];go_wp2_with fail;refine(Vc.o _ Zt.o).mono ?_;rintro e Zh ⟨rfl,Zb⟩;rw[ZK.o];have WT:=bx (show Sep [Pc.row w.heap.size 3 1 (.slice (some ⟨w.heap.size+1,0,none⟩) 1 1) (0+1) (((Q4 Zj M l).take (0+1)).map To),Pc.blk w.heap.size 29 #[.slice Uj M.1.length ca,R6],Pc.old w.heap.size w] Zh by
   rw[MU.o];exact V1.o.below (Zb.mono Zt.o.size |> λ_=>Zb.mono Ys |> λ_=>by
    omega))
  clear Zb YV c1 S4;go_wp2_with fail
  go_loopw[8,9,20] (λat' o i wr=>∃k:Nat,k<=l.length/\i=Z9 k/\at'=Z9 (stM Zj M l k)/\Box (Sep [Pc.row w.heap.size 3 1 o (k+1) (((Q4 Zj M l).take (k+1)).map To),Pc.blk w.heap.size 29 #[.slice Uj M.1.length ca,R6],Pc.old w.heap.size w] wr)) (λ_ _ i _=>l.length-(intOf i).toNat)
  ·exact⟨0,by omega,rfl,rfl,WT⟩
  obtain⟨k,Z3,rfl,rfl,YC⟩:=hrel;have X3:=bx (show Z6 w wr from YC.o.bel (by simp))
  by_cases Zu:k<l.length
  ·obtain⟨c,ZL⟩:=Yg l k Zu;obtain⟨lb,LS,G0,Zx,Zr,Zk,Zl,Zg⟩:=(W4.o.below X3.o).get (by grind);obtain⟨rfl,rfl⟩:=XN Zx;have xJ:=Zg k c ZL;have MK:=PR.o k;have DY:=bx (PR.o (k+1));obtain⟨r,QY,Pf,BE,-⟩:=Mn.o MK
   obtain⟨x,KX,Il,L7⟩:=BE (MA Zj c) (vj Zj c);have Ry:=bx (show stM Zj M l (k+1)=x.toNat by
    rw[acZ ZL];grind[stepM])
   have U1:=bx (acD (n:=Zj) (M:=M) Zu);have V9:=vj Zj c;obtain⟨pa,UC,BT,UV,N9,RK,R0,T3⟩:=(OC.o.below X3.o).get (by grind);obtain⟨rfl,rfl⟩:=XN UV;obtain⟨Sl,I6,TG⟩:=T3 _ r QY;obtain⟨zA,Hk,Ax,r1,r2,r3,r4,Tu⟩:=TG.get (by grind);rw[Pf]at r1 r2;subst r1;have VL:=Tu _ x KX;have U9:=YC.o.blk 1 rfl;have al7:=bx (λW=>Wa.o c W);obtain⟨UP,Wr,rfl,J8,MF⟩:=UG (YC.o.row 0 rfl);have Uw:=bx (show∀W,Z6 wr W->ZQ W w.heap.size 0=some (.slice (some ⟨pa,UC,none⟩) M.1.length ca)/\ZQ W pa (UC+stM Zj M l k)=some (.slice (some ⟨zA,Hk,none⟩) (Zj+1) Ax)/\ZQ W zA (Hk+MA Zj c)=some (Z9 x)from λW h=>
    ⟨(U9.below h U9.lt).q0,(h.cell (p:=⟨pa,UC+stM Zj M l k,none⟩) R0).trans I6,(h.cell (p:=⟨zA,Hk+MA Zj c,none⟩) r4).trans VL⟩)
   have Y9:=bx (show Z6 wr wr.drew from⟨rfl,rfl,rfl,Wq _,λ_ _=>rfl⟩);have Xm:=bx YC.o.drew;have WP:w.heap.size<=wr.drew.heap.size:=X3.o.size;unfold maxLen at Zk RK r3;generalize NA:stM Zj M l k=Lv at *;generalize F4:MA Zj c=co at *;have V6:Lv<ca:=by omega
   have W2:co<Zj+1:=by omega
   have VM:co<Ax:=by omega
   have Ph:(co:Int)<(Zj:Int)+1:=by omega
   clear Zx Zg UV T3 I6 TG Tu VL U9 QY BE KX ZL YC NA F4;go_wp2_with fail;refine Vv 9 (λW=>ZQ W w.heap.size 0=some (.slice (some ⟨pa,UC,none⟩) M.1.length ca)/\ZQ W pa (UC+Lv)=some (.slice (some ⟨zA,Hk,none⟩) (Zj+1) Ax)/\ZQ W zA (Hk+co)=some (Z9 x)) (by rfl) ?_;have Ud:=bx (Uw.o _ Y9.o);generalize wr.drew=Yl at *;refine Vp [0,1,2,3,4,5,6] ?_
   iterate 7 (refine Vq ?_ rfl Ud.o ?_ ?_;rotate_left;·rintro w ⟨q1,q2,q3⟩;go_simp;try with_reducible rfl)
   refine Vr ?_;refine Y1 7 rfl λY7 ZX=>?_
   go_simp;go_wp2_with (go_at_call 275;refine YW (al7.o _) ?_)
   refine ZX.out _ _ (λ_=>Ud.o) ?_;clear ZX Y7;refine kS 8 ?_ rfl Ud.o ?_ ?_;rotate_left
   ·rintro w ⟨q1,q2,q3⟩;go_simp;try with_reducible rfl
   obtain⟨Vy,TX,Qa⟩:=Ud.o;refine Y1 9 rfl λY7 ZX=>?_
   go_simp;refine ZX.out _ _ (λh=>by cases h) ?_;clear ZX Y7;refine Y1 10 rfl λY7 ZX=>?_
   go_simp;refine ZX.out _ _ (λh=>by cases h) ?_;clear ZX Y7;refine kD ?_ _;clear Vy TX Qa;go_wp2_with (at_builtin;refine PC rfl _ _ 22 rfl OJ Xm.o 0 rfl rfl rfl rfl (by omega) (by omega) WP ?_;rintro Zy YL Uh -)
   have YD:=bx (show(Z9 x:Value)=To (stM Zj M l (k+1)) by unfold To;rw[Ry.o];grind);rw[YD.o]at Uh;have Wp:=bx (show Sep [Pc.row w.heap.size 3 1 Zy (k+1+1) (((Q4 Zj M l).take (k+1+1)).map To),Pc.blk w.heap.size 29 #[.slice (some ⟨pa,UC,none⟩) M.1.length ca,R6],Pc.old w.heap.size w] YL by
    rw[U1.o,T9];grind)
   clear Uh
   go_wp2
   go_roundw
   ·exact⟨k+1,Zu,by go_num,YD.o,Wp⟩
   grind[intOf]
  obtain rfl:k=l.length:=by omega
  have Jy:=bx (show(Q4 Zj M l).take (l.length+1)=Q4 Zj M l by rw[<-oC Zj M l,OR]);go_wp2_with fail;rw[Jq];go_ret2;refine⟨X3.o,_,by rw[Yq.o];rfl,?_⟩;have:=YC.o.row 0 rfl;rw[Jy.o]at this;rw[ZK.o];exact this
def Jn(M:D.ao)(a:Nat):Int:=M.2.getD a 0
def vE(n:Nat)(M:D.ao)(l:List Int):List Int:=(Q4 n M l).map (Jn M)
def auO(n:Int)(M:D.ao)(l:List Int)(w:World)(e:Ending)(w':World):Prop:=
 Z6 w w'/\∃v,e=.returned (.tuple #[v,Z9 (goCode n M)])/\Y6 w' v (if Rp n M=true then vE n.toNat M l else[])
theorem aon{w:World}{base n:Nat}{T:TypeId}{v:Value}{xs:List Int}(h:w.ownsRow base T 1 v n (xs.map (Value.int .i64)))(ZP:n=xs.length):Y6 w v xs:=Y6.au h ZP
theorem IV{a b c:World}(h:Z6 a b)(k:Z6 b c):Z6 a c:=bt h k
theorem uL{w:World}{XH:Option Addr}{ZU:Nat}{xs:List Int}(h:Y6 w (.slice XH xs.length ZU) xs)(n:Nat):Y6 w (.slice XH (xs.take n).length ZU) (xs.take n):=by
 rcases h with⟨Z7,rfl⟩|⟨b,off,sp,ZU,Z7,Z5,ZS,ZG⟩
 ·grind[Y6]
 injection Z7 with Z7 z8 Dj;subst Z7 Dj;refine .inr ⟨b,off,sp,_,rfl,by grind,ZS,λZP=>?_⟩;have Jb:xs≠[]:=by grind
 grind
theorem wP{w:World}{XH:Option Addr}{ZU n:Nat}{xs:List Int}(h:Y6 w (.slice XH n ZU) xs):xs.length<=ZU/\ZU<=9223372036854775807:=by
 rcases h with⟨Z7,rfl⟩|⟨b,off,sp,ZU,Z7,Z5,ZS,ZG⟩
 ·grind
 grind[maxLen]
def Ea(M:D.ao):D.ao:=((M.1.take 302).map λr=>r.take 34,M.2.take 302)
theorem akc(M:D.ao):JV (Ea M):=by
 grind[Ea,JV]
theorem ar1{W:World}{base n:Nat}{T:TypeId}{v:Value}{WM:List Value}{L:List (List Int)}(h:W.ownsRow base T 1 v n WM)(ZP:n=L.length)(ZO:∀(i:Nat)(r:List Int),L[i]?=some r->∃x,WM[i]?=some x/\Y6 W x r):TF W v L:=by
 subst ZP
 rcases h.2 with⟨Z7,Z5⟩|⟨g,ZU,VY,Z7,Z5,ZS,ZG,Zi,Yu,VV⟩
 ·rw[L4 Z5];exact .inl ⟨Z7,rfl⟩
 refine .inr ⟨g,0,none,ZU,Z7,ZG,Zi,λZP=>⟨rfl,(J4.1 ZS).1,λi r ZT=>?_⟩⟩;obtain⟨x,Z4,hi⟩:=ZO i r ZT;refine⟨x,?_,hi⟩;have Vz:=h.cells (g:=g) (by rw[Z7];rfl) i x Z4
 (try unfold ZQ at *);grind[Addr.add]
def HQ(W:World)(WM:List Value)(L:List (List Int)):Prop:=WM.length=L.length/\∀(i:Nat)(r:List Int),L[i]?=some r->∃x,WM[i]?=some x/\Y6 W x r
theorem HQ.snoc{W:World}{WM:List Value}{L:List (List Int)}(h:HQ W WM L){x:Value}{r:List Int}(Z4:Y6 W x r):HQ W (WM++[x]) (L++[r]):=by
 refine⟨by rw[WR,WR,h.1];rfl,λi q Zs=>?_⟩
 rcases SM i L.length with hl|hl
 ·rw[tj hl]at Zs;obtain⟨y,ZJ,Z5⟩:=h.2 i q Zs;grind
 rw[Fz hl]at Zs;have xL:i-L.length=0:=by grind
 rw[xL]at Zs;simp only[Ig,OS]at Zs;subst Zs;exact⟨x,by rw[Fz (by rw[h.1];exact hl),h.1,xL];rfl,Z4⟩
def wY(r:List Int):List Int:=r.take 34
end
def bs(l:List UInt8):ByteArray:=⟨l.toArray⟩
theorem Ky(l:List UInt8):(bs l).data.toList=l:=rfl
theorem Wu(l:List UInt8):(bs l).size=l.length:=by rfl
theorem sU(s:ByteArray):s=bs s.data.toList:=by rfl
theorem lS(l:List UInt8)(a b:Nat):(bs l).extract a b=bs ((l.take b).drop a):=by
 rw[sU ((bs l).extract a b)]
 congr 1
 rw[ByteArray.data_extract,Array.toList_extract,Ky,List.extract_eq_take_drop,List.take_drop]
 by_cases h:a<=b
 ·grind
 rw[show a+(b-a)=a by omega,Gr (by grind),Gr (by grind)]
def U8(w:World)(v:Value)(xs:List Value):Prop:=
 (v=Z1/\xs=[])\/∃b off sp ZU,v=.slice (some ⟨b,off,sp⟩) xs.length ZU/\xs.length<=ZU/\ZU<=maxLen/\(xs≠[]->sp=none/\b<w.heap.size/\∀i x,xs[i]?=some x->w.cell? ⟨b,off+i,none⟩=some x)
section
variable {w w':World} {v:Value} {xs:List Value}
theorem U8.nil:U8 w Z1 []:=.inl ⟨rfl,rfl⟩
theorem U8.below(h:U8 w v xs)(Z8:Z6 w w'):U8 w' v xs:=by
 rcases h with h|⟨b,off,sp,ZU,Z7,Z5,ZS,ZG⟩
 ·exact .inl h
 exact .inr ⟨b,off,sp,ZU,Z7,Z5,ZS,λZP=>⟨(ZG ZP).1,Vh (ZG ZP).2.1 Z8.size,λi x Z4=>(Z8.cell (p:=⟨b,off+i,none⟩) (ZG ZP).2.1).trans ((ZG ZP).2.2 i x Z4)⟩⟩
theorem U8.get(h:U8 w v xs)(ZP:xs≠[]):
  ∃b off ZU,v=.slice (some ⟨b,off,none⟩) xs.length ZU/\xs.length<=ZU/\ZU<=maxLen/\b<w.heap.size/\∀i x,xs[i]?=some x->w.cell? ⟨b,off+i,none⟩=some x:=by
 rcases h with⟨_,h⟩|⟨b,off,sp,ZU,Z7,Z5,ZS,ZG⟩
 ·grind
 grind
theorem U8.slice(h:U8 w v xs):∃a ZU,v=.slice a xs.length ZU/\xs.length<=ZU/\ZU<=9223372036854775807:=by
 rcases h with⟨rfl,rfl⟩|⟨b,off,sp,ZU,rfl,Z7,Z5,_⟩
 ·exact⟨_,_,rfl,Wq _,by omega⟩
 grind[maxLen]
theorem U8.au{base n:Nat}{T:TypeId}(h:w.ownsRow base T 1 v n xs)(ZP:n=xs.length):U8 w v xs:=by
 subst ZP;have hl:=h.lt
 rcases h.2 with⟨Z7,Z5⟩|⟨g,ZU,VY,rfl,Z5,ZS,ZG,Zi,Yu,VV⟩
 ·exact .inl ⟨Z7,L4 Z5⟩
 refine .inr ⟨g,0,none,ZU,rfl,ZG,Zi,λ_=>⟨rfl,(hl g rfl).2,λi x Z4=>?_⟩⟩;have:=h.cells (g:=g) rfl i x Z4
 (try unfold ZQ at *);grind[Addr.add]
theorem U8.ei{g:Nat}{T:TypeId}(h:Zv w g T xs.toArray)(ZY:xs.length<=1000000):U8 w (.slice (some ⟨g,0,none⟩) xs.length xs.length) xs:=by
 refine .inr ⟨g,0,none,xs.length,rfl,Wq _,by grind[maxLen],λ_=>⟨rfl,h.lt,λi x Z4=>?_⟩⟩;rw[Nat.zero_add];exact(h.cell i).trans (by grind)
theorem U8.take{a:Option Addr}{ZU:Nat}(h:U8 w (.slice a xs.length ZU) xs)(n cap':Nat)(ZL:(xs.take n).length<=cap')(Hx:cap'<=ZU):U8 w (.slice a (xs.take n).length cap') (xs.take n):=by
 rcases h with⟨Z7,rfl⟩|⟨b,off,sp,XV,Z7,Z5,ZS,ZG⟩
 ·grind[U8]
 injection Z7 with Z7 z8 Dj;subst Z7 Dj;refine .inr ⟨b,off,sp,cap',rfl,ZL,XJ Hx ZS,λZP=>?_⟩;have Jb:xs≠[]:=by grind
 grind
theorem U8.drop{b off:Nat}{ZU:Nat}(h:U8 w (.slice (some ⟨b,off,none⟩) xs.length ZU) xs)(n:Nat)(ZP:n<=xs.length):U8 w (.slice (some ⟨b,off+n,none⟩) (xs.length-n) (ZU-n)) (xs.drop n):=by
 rcases h with⟨Z7,rfl⟩|⟨Aa,xu,sp,XV,Z7,Z5,ZS,ZG⟩
 ·cases Z7
 injection Z7 with Z7 z8 Dj;subst Dj;injection Z7 with Z7;injection Z7 with Zi Yu VV;subst Zi Yu VV;refine .inr ⟨b,off+n,none,ZU-n,by rw[Px],by grind,by omega,λXq=>?_⟩;have aAl:xs≠[]:=by grind
 grind
end
def Vu(l:List UInt8):Value:=.string (bs l)
def XC(w:World)(v:Value)(xs:List (List UInt8)):Prop:=U8 w v (xs.map Vu)
theorem XC.below{w w':World}{v:Value}{xs:List (List UInt8)}(h:XC w v xs)(Z8:Z6 w w'):XC w' v xs:=U8.below h Z8
theorem XC.get{w:World}{v:Value}{xs:List (List UInt8)}(h:XC w v xs)(ZP:xs≠[]):
  ∃b off ZU,v=.slice (some ⟨b,off,none⟩) xs.length ZU/\xs.length<=ZU/\ZU<=maxLen/\b<w.heap.size/\∀i x,xs[i]?=some x->w.cell? ⟨b,off+i,none⟩=some (.string (bs x)):=by
 obtain⟨b,off,ZU,Z7,Z5,ZS,ZG,Zi⟩:=U8.get h (by simp_all);rw[X4]at Z7 Z5;exact⟨b,off,ZU,Z7,Z5,ZS,ZG,λi x Z4=>Zi i (.string (bs x)) (by rw[RX,Z4];rfl)⟩
theorem XC.slice{w:World}{v:Value}{xs:List (List UInt8)}(h:XC w v xs):∃a ZU,v=.slice a xs.length ZU/\xs.length<=ZU/\ZU<=9223372036854775807:=by
 have:=U8.slice h
 grind
theorem XC.au{w:World}{base n:Nat}{T:TypeId}{v:Value}{xs:List (List UInt8)}(h:w.ownsRow base T 1 v n (xs.map Vu))(ZP:n=xs.length):XC w v xs:=U8.au h (by grind)
def OD(k:Nat)(w:World)(v:Value)(xs:List (List Value)):Prop:=
 (v=Z1/\xs=[])\/∃b off sp ZU,v=.slice (some ⟨b,off,sp⟩) xs.length ZU/\xs.length<=ZU/\ZU<=maxLen/\(xs≠[]->sp=none/\b<w.heap.size/\∀i c,xs[i]?=some c->∀j u,c[j]?=some u->w.cell? ⟨b,off+i*k+j,none⟩=some u)
section
variable {k:Nat} {w w':World} {v:Value} {xs:List (List Value)}
theorem OD.below(h:OD k w v xs)(Z8:Z6 w w'):OD k w' v xs:=by
 rcases h with h|⟨b,off,sp,ZU,Z7,Z5,ZS,ZG⟩
 ·exact .inl h
 exact .inr ⟨b,off,sp,ZU,Z7,Z5,ZS,λZP=>⟨(ZG ZP).1,Vh (ZG ZP).2.1 Z8.size,λi c ZL j u hu=>(Z8.cell (p:=⟨b,off+i*k+j,none⟩) (ZG ZP).2.1).trans ((ZG ZP).2.2 i c ZL j u hu)⟩⟩
theorem OD.get(h:OD k w v xs)(ZP:xs≠[]):
  ∃b off ZU,v=.slice (some ⟨b,off,none⟩) xs.length ZU/\xs.length<=ZU/\ZU<=maxLen/\b<w.heap.size/\∀i c,xs[i]?=some c->∀j u,c[j]?=some u->w.cell? ⟨b,off+i*k+j,none⟩=some u:=by
 rcases h with⟨_,h⟩|⟨b,off,sp,ZU,Z7,Z5,ZS,ZG⟩
 ·grind
 grind
theorem OD.slice(h:OD k w v xs):∃a ZU,v=.slice a xs.length ZU/\xs.length<=ZU/\ZU<=9223372036854775807:=by
 rcases h with⟨rfl,rfl⟩|⟨b,off,sp,ZU,rfl,Z7,Z5,_⟩
 ·exact⟨_,_,rfl,Wq _,by omega⟩
 grind[maxLen]
theorem ny:∀{xs:List (List Value)},(∀c∈xs,c.length=k)->∀{i:Nat}{c:List Value},xs[i]?=some c->∀{j:Nat}{u:Value},c[j]?=some u->xs.flatten[i*k+j]?=some u
 |[],_,i,c,h,_,_,_=>by grind
 |x::t,Z3,0,c,h,j,u,hu=>by
  grind
 |x::t,Z3,i+1,c,h,j,u,hu=>by
  rw[List.getElem?_cons_succ]at h;have Z4:=Z3 x (Pw ..);rw[Bu,s7,Nat.one_mul,Fz (by omega),Z4,show i*k+k+j-k=i*k+j by omega];exact ny (λc ZL=>Z3 c (Oj _ ZL)) h hu
theorem OD.au{base n:Nat}{T:TypeId}(h:w.ownsRow base T k v n xs.flatten)(ZP:n=xs.length)(Z3:∀c∈xs,c.length=k):OD k w v xs:=by
 subst ZP;have hl:=h.lt
 rcases h.2 with⟨Z7,Z5⟩|⟨g,ZU,VY,rfl,Z5,ZS,ZG,Zi,Yu,VV⟩
 ·exact .inl ⟨Z7,L4 Z5⟩
 refine .inr ⟨g,0,none,ZU,rfl,ZG,Zi,λ_=>⟨rfl,(hl g rfl).2,λi c ZL j u hu=>?_⟩⟩;have:=h.cells (g:=g) rfl (i*k+j) u (ny Z3 ZL hu)
 (try unfold ZQ at *);grind[Addr.add]
end
theorem He(l:List UInt8):(bs l).toList=l:=by rw[uV];rfl
section
variable {P:Program} {T:TypeId}
theorem Ff(Yo:P.underlying T=some .string){l:List UInt8}(k:Nat){d:UInt8}(Zm:l[k]?=some d)(i:Int)(hi:i=k):∀w,(Instr.index T (.string (bs l)) (Z9 i)).run P w=.ok (.int .u8 (U.aa d)) w:=
 JT Yo (bs l) k Zm i hi
theorem uN(Yo:P.underlying T=some .string)(l:List UInt8)(a b:Nat)(i j:Int)(hi:i=a)(YO:j=b)(h:a<=b/\b<=l.length):∀W,(Instr.slice T (.string (bs l)) (some (Z9 i)) (some (Z9 j)) none).run P W=.ok (.string (bs ((l.take b).drop a))) W:=by
 intro W;subst hi YO;rw[n3 Yo _ _ _ ⟨by omega,by omega,by rw[Wu];omega⟩,RU,RU,lS]
theorem yL(Yo:P.underlying T=some .string)(l:List UInt8)(a:Nat)(i:Int)(hi:i=a)(h:a<=l.length):∀W,(Instr.slice T (.string (bs l)) (some (Z9 i)) none none).run P W=.ok (.string (bs (l.drop a))) W:=by
 intro W;subst hi;rw[run_slice_string_from_if W _ _ _ _ Yo,Y0 (by rw[Wu];omega),RU,lS,Wu,SU Ys]
theorem Cq(Yo:P.underlying T=some .string)(l:List UInt8)(b:Nat)(j:Int)(YO:j=b)(h:b<=l.length):∀W,(Instr.slice T (.string (bs l)) none (some (Z9 j)) none).run P W=.ok (.string (bs (l.take b))) W:=by
 intro W;subst YO;rw[run_slice_string_to_if W _ _ _ _ Yo,Y0 (by rw[Wu];omega),RU,lS,List.drop_zero]
end
theorem D3:(bs []).toList.isEmpty=true:=by rw[He];rfl
theorem EZ{l:List UInt8}(h:l≠[]):(bs l).toList.isEmpty=false:=by
 grind[He]
theorem wM(c d:UInt8):(U.aa c==U.aa d)=(c==d):=by
 rw[Lx,Lz,Lz];exact⟨U.e2,λh=>by rw[h]⟩
