/- Texts of this claim. -/
import Derived.Test.YtdponihkpomheaaGreatDoorK8
import Derived.Test.YtdponihkpomheaaGreatDoorK18

set_option maxRecDepth 100000
set_option maxHeartbeats 16000000
namespace Go.Proofs.YtdponihkpomheaaGreatDoor
open Go.RowKit
open Tryz
section
open Go.Shelf
attribute[local go_sem] Oper.semAt_some
def Ps(n:Nat)(f:Nat->Bool):Array Value:=((List.range n).map λj=>Value.bool (f j)).toArray
theorem yG{n k:Nat}(f:Nat->Bool)(_:k<n):(Ps n f)[k]?=some (.bool (f k)):=by
 grind[Ps]
theorem s6{n:Nat}{f g:Nat->Bool}(_:∀j,j<n->f j=g j):Ps n f=Ps n g:=by
 grind[Ps]
theorem oH(n k:Nat)(f:Nat->Bool)(b:Bool):(Ps n f).setIfInBounds k (.bool b)=Ps n (λj=>if j=k then b else f j):=by
 unfold Ps;rw[List.setIfInBounds_toArray]
 congr 1
 apply List.ext_getElem?
 grind
theorem atT(n:Nat):Ps n (λ_=>false)=Array.replicate n (.bool false):=by
 unfold Ps
 apply Array.ext'
 rw[Array.toList_replicate]
 apply List.ext_getElem?
 grind
theorem mb(L:Nat)(_:L<=299)(w:World):(Instr.makeSlice 369 (Z9 ((L:Int)+1)) (Z9 ((L:Int)+1))).run prog w=.ok (.slice (some ⟨w.heap.size,0,none⟩) (L+1) (L+1)) (w.alloc (.cells (Ps (L+1) λ_=>false) 4)):=by
 have hi:(prog.info? 4).map (λi=>(i.zero,i.size,i.bytes))=some (some (.bool false),1,1):=by rfl
 obtain⟨z,ZY,Vf⟩:=NU.1 hi;simp only[Prod.mk.injEq]at Vf;have ZY:=And.intro ZY Vf;have:=run_makeSlice (P:=prog) (w:=w) 369 4 z (.bool false) underlying369 ZY.1 ZY.2.1 .i64 .i64 ((L:Int)+1) ((L:Int)+1) (by omega) (by omega) (by grind) (by grind) (by omega);have e:madeCells (Value.bool false).cells (((L:Int)+1).toNat*z.size)=Ps (L+1) λ_=>false:=by
  rw[ZY.2.2.1,atT,show((L:Int)+1).toNat=L+1 by omega,Nat.mul_one]
  apply Array.ext'
  rw[Array.toList_replicate];exact toList_madeCells_one (Value.bool false) (L+1)
 grind
def outA(x:N.Item)(cs:List Int)(F:List Bool)(k:Nat):Array Value:=Ps (cs.length+1) λj=>if j<k then N.bg x cs F j else if j=k then(N.aP x cs F k).1 else false
def GX(x:N.Item)(cs:List Int)(F:List Bool)(k:Nat):Array Value:=Ps (cs.length+1) λj=>if j<=k then N.bg x cs F j else false
def Mx(x:N.Item)(cs:List Int)(F:List Bool)(k:Nat):Array Value:=Ps (cs.length+1) λj=>if j<=k then(N.aP x cs F j).2 else false
theorem atx(x:N.Item)(cs:List Int)(F:List Bool):outA x cs F 0=Ps (cs.length+1) λ_=>false:=s6 λj _=>by
 rcases Bx j with e|e
 ·subst e;rfl
 grind
theorem atj(x:N.Item)(cs:List Int)(F:List Bool):Mx x cs F 0=Ps (cs.length+1) λ_=>false:=s6 λj _=>by
 rcases Bx j with e|e
 ·subst e;rfl
 grind
theorem arP{x:N.Item}{cs:List Int}{F:List Bool}{k:Nat}(_:k<=cs.length):(outA x cs F k)[k]?=some (.bool (N.aP x cs F k).1):=by
 grind[outA,yG]
theorem amQ{x:N.Item}{cs:List Int}{F:List Bool}{k:Nat}(_:k<=cs.length):(Mx x cs F k)[k]?=some (.bool (N.aP x cs F k).2):=by
 grind[Mx,yG]
theorem ajP{x:N.Item}{cs:List Int}{F:List Bool}{k:Nat}(_:k<=cs.length):(GX x cs F k)[k]?=some (.bool (N.bg x cs F k)):=by
 grind[GX,yG]
theorem avw{x:N.Item}{cs:List Int}{F:List Bool}{k:Nat}(_:k<cs.length):(GX x cs F k)[k+1]?=some (.bool false):=by
 unfold GX;rw[yG _ (by omega),Y4 (by omega)]
theorem as6{x:N.Item}{cs:List Int}{F:List Bool}{k:Nat}(_:k<cs.length):(Mx x cs F k)[k+1]?=some (.bool false):=by
 unfold Mx;rw[yG _ (by omega),Y4 (by omega)]
theorem arj(x:N.Item)(cs:List Int)(F:List Bool)(k:Nat):(outA x cs F k).setIfInBounds k (.bool (N.bg x cs F k))=GX x cs F k:=by
 unfold outA GX;rw[oH];grind
theorem ae3{x:N.Item}{cs:List Int}{F:List Bool}{k:Nat}(_:cs.length<=k\/(N.aP x cs F (k+1)).1=false):GX x cs F k=outA x cs F (k+1):=by
 unfold outA GX;refine s6 λ_ _=>?_
 grind
theorem lC(x:N.Item)(cs:List Int)(F:List Bool)(k:Nat):(GX x cs F k).setIfInBounds (k+1) (.bool (N.aP x cs F (k+1)).1)=outA x cs F (k+1):=by
 unfold outA GX;rw[oH];grind
theorem rR{x:N.Item}{cs:List Int}{F:List Bool}{k:Nat}(_:cs.length<=k\/(N.aP x cs F (k+1)).2=false):Mx x cs F k=Mx x cs F (k+1):=by
 unfold Mx;refine s6 λ_ _=>?_
 grind
theorem aqX(x:N.Item)(cs:List Int)(F:List Bool)(k:Nat):(Mx x cs F k).setIfInBounds (k+1) (.bool (N.aP x cs F (k+1)).2)=Mx x cs F (k+1):=by
 unfold Mx;rw[oH];grind
theorem anq(x:N.Item)(cs:List Int)(F:List Bool):outA x cs F (cs.length+1)=((N.cp x cs F).map Value.bool).toArray:=by
 grind[outA,N.cp,Ps]
theorem ase{x:N.Item}{cs:List Int}{F:List Bool}{k:Nat}{c:Int}(_:cs[k]?=some c):
  N.aP x cs F (k+1)=if N.aV x.1 c=true then(if x.2=0 then(F.getD k false,false)else if x.2=1 then(N.bg x cs F k,false)else((N.aP x cs F k).2,N.bg x cs F k))else(false,false):=by
 have e:cs.getD k (-1)=c:=by grind
 show(if N.aV x.1 (cs.getD k (-1))=true then _ else _)=_
 rw[e]
 rfl
theorem ae9{w:World}{g:Nat}{T:TypeId}{xs:List Bool}(h:Zv w g T (xs.map Value.bool).toArray)(_:xs.length<=1000000):LX w (.slice (some ⟨g,0,none⟩) xs.length xs.length) xs:=by
 refine .inr ⟨g,0,none,xs.length,rfl,Wq _,by grind[maxLen],λ_=>⟨rfl,h.lt,λi _ _=>?_⟩⟩;rw[Nat.zero_add];refine(h.cell i).trans ?_;grind
theorem adb(n:Nat)(w:World)(_:n<=40):
  Calls prog 223 #[Z9 n] w λe w'=>e=.returned (Z9 ((2^n:Nat):Int))/\w=w':=by
 go_in
 go_wp2
 go_loop[4,3] (λi o=>∃(k:Nat)(x:Int),k<=n/\i=Z9 k/\o=Z9 x/\0<=x/\x<=1099511627776/\Box (x=2^k)) (λi _=>n-(intOf i).toNat)
 ·exact⟨0,1,by omega,rfl,rfl,by omega,by omega,⟨rfl⟩⟩
 obtain⟨k,x,Z3,rfl,rfl,Hn,KX,Z4⟩:=hrel
 by_cases Zu:k<n
 ·have Z5:=qp (k+1) (by omega);have YD:=bx (show 2*x=2^(k+1) by rw[Z4.o,Int.pow_succ];omega);have Wn:=bx (show 2*x<=1099511627776 by rw[YD.o];exact Z5);clear Z5
  go_wp2
  go_round
  ·exact⟨k+1,2*x,Zu,by go_num,rfl,by omega,Wn.o,YD⟩
  grind[intOf]
 obtain rfl:k=n:=by omega
 go_wp2
 go_ret
 exact⟨by rw[Z4.o];simp,rfl⟩
theorem ang(Y2:Value)(R:List D.Rule)(Rq:Value)(M:D.ao)(n:Int)(w:World)(WS:TQ w Y2 R)(Yz:∀x∈R,Mv x)(KB:R.length<=16777216)(Xv:Oh w Rq M)(MZ:JV M):
  Calls prog 221 #[Y2,Rq,Z9 n] w λe w'=>e=.returned (.bool (OI R M n))/\Z6 w w':=by
 have JO:=bx (λW(h:Z6 w W)=>ac5 Y2 R n W Yz (WS.below h) KB);have GM:=bx (λW(h:Z6 w W)=>abL Rq M n W (Xv.below h) MZ);obtain⟨ro,rc,rfl⟩:=WS.slice;obtain⟨Zo,Za,rfl,SO,SQ⟩:=Xv;obtain⟨U7,V5,rfl⟩:=SO.slice;have Bk:=bx SQ;obtain⟨WN,XG,rfl⟩:=SQ.slice;obtain⟨ZB,RJ⟩:∃ZB,ZB=w.alloc (.cells #[.slice U7 M.1.length V5,.slice WN M.2.length XG] 29):=⟨_,rfl⟩
 have R9:=bx RJ;have Zz:Z6 w ZB:=by rw[RJ];exact Xl _ _
 have Zt:=bx Zz;have T0:=bx (show Zv ZB w.heap.size 29 #[.slice U7 M.1.length V5,.slice WN M.2.length XG] by rw[RJ];exact Zv.new w _ _);clear SO SQ WS Yz MZ RJ Zz
 cases ZT:LV n R with
 |false=>
  have ZK:=bx ZT;have WO:=bx (show OI R M n=false by grind[OI]);clear ZT
  go_in
  go_upto_region 1 with(fail)
  rw[<-R9.o];go_wp2_with fail;refine(JO.o _ Zt.o).mono ?_;rintro e Zh ⟨rfl,Zb⟩;rw[ZK.o];have YY:=Zw Zt Zb;clear Zb
  go_wp2
  go_ret
  exact⟨by rw[WO.o];rfl,YY.o⟩
 |true=>
  have ZK:=bx ZT;have AT:=(uQ ZT).2.2.1
  cases hm:Rp n M with
  |false=>
   have W3:=bx hm;have WO:=bx (show OI R M n=false by grind[OI]);clear ZT hm AT
   go_in
   go_upto_region 1 with(fail)
   rw[<-R9.o];go_wp2_with fail;refine(JO.o _ Zt.o).mono ?_;rintro e Zh ⟨rfl,Zb⟩;rw[ZK.o];have YY:=Zw Zt Zb;have U9:=T0.o.below Zb T0.o.lt;have YV:=U9.q0;have c1:=U9.q1;have S4:=U9.lt;clear Zb U9;go_wp2_with fail;refine(GM.o _ YY.o).mono ?_;rintro e YL ⟨rfl,Yf⟩;rw[W3.o];have Ye:=Zw YY Yf;clear Yf YV c1 S4
   go_wp2
   go_ret
   exact⟨by rw[WO.o];rfl,Ye.o⟩
  |true=>
   have W3:=bx hm;have WO:=bx (show OI R M n=M.2.all (inB R.length) by grind[OI]);have Yt:=bx (wK hm);obtain⟨-,-,-,aqM,J9⟩:=DC hm;have TL:M.2.length<=300:=by omega
   clear ZT hm aqM J9
   go_in
   go_upto_region 1 with(fail)
   rw[<-R9.o];go_wp2_with fail;refine(JO.o _ Zt.o).mono ?_;rintro e Zh ⟨rfl,Zb⟩;rw[ZK.o];have YY:=Zw Zt Zb;have rj:=T0.ub Zb;have YV:=rj.o.q0;have c1:=rj.o.q1;have S4:=rj.o.lt;clear Zb;go_wp2_with fail;refine(GM.o _ YY.o).mono ?_;rintro e YL ⟨rfl,Yf⟩;rw[W3.o];have Ye:=Zw YY Yf;have abq:=rj.ub Yf;clear Yf YV c1 S4;go_wp2_with fail
   go_loopw[7] (λi wr=>∃k:Nat,k<=M.2.length/\i=Z9 k/\Box ((M.2.take k).all (inB R.length)=true)/\Box (Z6 YL wr)) (λi _=>M.2.length-(intOf i).toNat)
   ·exact⟨0,by omega,rfl,⟨rfl⟩,⟨Below.refl _ _⟩⟩
   obtain⟨k,Z3,rfl,S9,Z8⟩:=hrel;have Xk:=abq.o.below Z8.o abq.o.lt;have c1:=Xk.q1;have S4:=Xk.lt;have W6:=bx (λm=>Ye.o.trans ((Z8.o.trans ((Po wr m).mono Z8.o.size)).mono Ye.o.size));have ak2:=bx (λm=>Z8.o.trans ((Po wr m).mono Z8.o.size))
   by_cases Zu:k<M.2.length
   ·obtain⟨x,Z4⟩:=Yg M.2 k Zu;obtain⟨g,off,XV,Y5,XL,Yi,XB,YX⟩:=(Bk.o.below (bt Ye.o Z8.o)).get (by grind);obtain⟨rfl,rfl⟩:=XN Y5;have UT:=YX k x Z4;have U1:=bx (show(M.2.take (k+1)).all (inB R.length)=inB R.length x by
     rw[Uo,Z4,List.all_append,S9.o];simp)
    have RA:=bx (show inB R.length x=false->M.2.all (inB R.length)=false from λh=>by
     grind)
    have WI:=bx (show((2^R.length:Nat):Int)=2^R.length from by simp);obtain⟨P,TU⟩:∃P:Nat,P=2^R.length:=⟨_,rfl⟩
    have GL:=bx (λW=>adb R.length W AT);rw[<-TU]at GL;have Wa:=bx (show inB R.length x=decide (x<(P:Int)) by grind[inB]);unfold maxLen at Yi;clear Y5 YX Z4 TU
    rcases PX x P with xA|xA
    ·have Y8:=bx (show(M.2.take (k+1)).all (inB R.length)=true by rw[U1.o,Wa.o];grind);have d0:decide ((P:Int)<=x)=false:=Yp (by omega);go_wp2_with fail
     go_quiet ((go_at_call 223;exact MQ (GL.o _)))
     go_wp2
     go_roundw
     ·exact⟨k+1,Zu,by go_num,Y8,⟨ak2.o _⟩⟩
     grind[intOf]
    have Y8:=bx (RA.o (by rw[Wa.o];grind));have d0:=Yh xA;go_wp2_with fail
    go_quiet ((go_at_call 223;exact MQ (GL.o _)))
    go_wp2
    go_ret
    exact⟨by rw[WO.o,Y8.o];rfl,W6.o _⟩
   have Y8:=bx (show M.2.all (inB R.length)=true by have:=S9.o;grind)
   go_wp2
   go_ret
   exact⟨by rw[WO.o,Y8.o];rfl,bt Ye.o Z8.o⟩
theorem aop(cs:List Int)(MJ:cs.length<=299)(x:N.Item)(t:List N.Item)(Il:x.2=0\/x.2=1\/x.2=2)(_:t.length+1<=16777216)(XZ:∀(v UX Za:Value)(F:List Bool)(w:World),VA w v t->Y6 w UX cs->LX w Za F->F.length=cs.length+1->
  Calls prog 311 #[v,UX,Za] w λe w'=>(∃Zy,e=.returned Zy/\LX w' Zy (N.bQ cs t F))/\Z6 w w')(v UX Za:Value)(F:List Bool)(w:World)(Z2:VA w v (x::t))(ZL:Y6 w UX cs)(hF:LX w Za F)(Br:F.length=cs.length+1):
  Calls prog 311 #[v,UX,Za] w λe w'=>(∃Zy,e=.returned Zy/\LX w' Zy (N.bQ cs (x::t) F))/\Z6 w w':=by
 have Yq:=bx ZL;have sV:=bx hF;have aiv:=bx XZ;obtain⟨co,Rm,rfl⟩:=ZL.slice;obtain⟨WN,XG,rfl⟩:=hF.slice;have Se:=bx Br;have U2:=bx (show LX w (.slice WN (cs.length+1) XG) F by grind);obtain⟨Ta,HV,av7,f1,f2,f3,f4,f5⟩:=sV.o.get (by grind);obtain⟨rfl,rfl⟩:=XN f1;rw[Br]at f2⊢;have IQ:=bx f4;have UM:=bx f5;unfold maxLen at f3;clear f1 f4 f5;obtain⟨b,off,ZU,rfl,ZZ,Zz,Zb,Yf⟩:=Z2.get (by simp);obtain⟨Hn,KX⟩:=Yf 0 x rfl;have Y8:=bx (show∀i y,t[i]?=some y->w.cell? ⟨b,off+2+i*2,none⟩=some (Z9 y.1)/\w.cell? ⟨b,off+2+i*2+1,none⟩=some (Z9 y.2)from λi y ZJ=>by
  have:=Yf (i+1) y ZJ;grind)
 rw[Nat.zero_mul,Nat.add_zero]at Hn KX;obtain⟨set,how⟩:=x;simp only at Hn KX Il;rw[U3]at ZZ⊢;unfold maxLen at Zz;obtain⟨RM,P7⟩:∃RM,RM=w.alloc (.cells #[Z9 set,Z9 how] 389):=⟨_,rfl⟩
 have VD:=bx P7;have s1:RM.heap.size=w.heap.size+1:=by simp_all
 have Pz:Sep [Pc.blk w.heap.size 389 #[Z9 set,Z9 how],Pc.old w.heap.size w] RM:=by rw[P7];exact(Sep.start w).ak _ _
 have Pg:=mb cs.length MJ RM;obtain⟨We,TA⟩:∃We,We=RM.alloc (.cells (Ps (cs.length+1) λ_=>false) 4):=⟨_,rfl⟩
 have s2:We.heap.size=w.heap.size+1+1:=by simp_all
 have Rj:=Pz.ak 4 (Ps (cs.length+1) λ_=>false);rw[<-TA,s1]at Rj;rw[<-TA,s1]at Pg;have Oo:=mb cs.length MJ We;obtain⟨Kn,LW⟩:∃Kn,Kn=We.alloc (.cells (Ps (cs.length+1) λ_=>false) 4):=⟨_,rfl⟩
 have Ri:=Rj.ak 4 (Ps (cs.length+1) λ_=>false);rw[<-LW,s2]at Ri;rw[<-LW,s2]at Oo;have XI:=bx (show Sep [Pc.blk (w.heap.size+1+1) 4 (Mx (set,how) cs F 0),Pc.blk (w.heap.size+1) 4 (outA (set,how) cs F 0),Pc.blk w.heap.size 389 #[Z9 set,Z9 how],Pc.old w.heap.size w] Kn by
  grind[atj,atx])
 have RB:=bx Pg;have Kv:=bx Oo;clear P7 TA LW Pz Rj Ri Pg Oo s1 s2 ZL hF XZ Z2 Yf Br sV
 go_in
 go_upto_region 4 with(fail)
 rw[<-VD.o];have Pg:=RB.o
 go_upto_region 5 with(fail)
 clear Pg;have Oo:=Kv.o
 go_upto_region 6 with(fail)
 clear Oo RB Kv VD Hn KX;go_wp2_with fail;generalize((t.length:Int)+1==0)=IX
 go_loopw[10] (λi wr=>∃k:Nat,k<=cs.length+1/\i=Z9 k/\Box (Sep [Pc.blk (w.heap.size+1+1) 4 (Mx (set,how) cs F k),Pc.blk (w.heap.size+1) 4 (outA (set,how) cs F k),Pc.blk w.heap.size 389 #[Z9 set,Z9 how],Pc.old w.heap.size w] wr)) (λi _=>cs.length+1-(intOf i).toNat)
 ·grind
 obtain⟨k,Z3,rfl,YC⟩:=hrel;have X3:=bx (show Z6 w wr from YC.o.bel (by simp));have PK:=YC.o.blk 2 rfl
 by_cases Zu:k<cs.length+1
 ·obtain⟨f,Yz⟩:=Yg F k (by rw[Se.o];omega);have ZF:=bx (UM.o k f Yz);have Db:=(X3.o.cell (p:=⟨Ta,HV+k,none⟩) IQ.o).trans ZF.o;have YF:=bx (show F.getD k false=f by grind);have MX:=YC.o.blk 1 rfl;have Gz:=YC.o.blk 0 rfl;have F4:=(MX.cell k).trans (arP (by omega));have T8:=MX.lt;have EI:=MX.frozen k;have uf:=(PK.cell 1).trans (show _=some (Value.int .i64 how)from rfl);obtain⟨o,YT⟩:∃o,(N.aP (set,how) cs F k).1=o:=⟨_,rfl⟩
  have jh:=bx (show N.bg (set,how) cs F k=(o||(f&&decide (how≠0))) by grind[N.bg]);rw[YT]at F4;have tY:k<XG:=by omega
  have Xb:=bx (show∀Za,N.bg (set,how) cs F k=Za->Sep [Pc.blk (w.heap.size+1+1) 4 (Mx (set,how) cs F k),Pc.blk (w.heap.size+1) 4 (GX (set,how) cs F k),Pc.blk w.heap.size 389 #[Z9 set,Z9 how],Pc.old w.heap.size w] (wr.setCell ⟨w.heap.size+1,k,none⟩ (.bool Za))from λZa h=>by
   have Z5:=YC.o.set 1 rfl k (.bool Za);grind[arj])
  clear MX Gz Yz YT PK;obtain⟨Za,Kc⟩:∃Za,(o||(f&&decide (how≠0)))=Za:=⟨_,rfl⟩
  rcases(show(o=true/\Za=true)\/(o=false/\f=false/\Za=false)\/(o=false/\f=true/\how≠0/\Za=true)\/(o=false/\f=true/\how=0/\Za=false) by
   grind)with⟨rfl,rfl⟩|⟨rfl,rfl,rfl⟩|⟨rfl,rfl,Uy,rfl⟩|⟨rfl,rfl,Uy,rfl⟩
  all_goals
   have qE:=bx (jh.o.trans Kc);have V0:=bx (Xb.o _ (jh.o.trans Kc));clear Kc Xb YC
   first|(have Xq:(how != 0)=true:=En.2 Uy)|(have Xq:(how != 0)=false:=bne_eq_false_iff_eq.2 Uy)|skip
   first|(have ayl:=bx Uy;clear Uy)|skip
   go_upto_region 10 with(fail)
   first|clear Xq|skip
   clear F4 EI T8 uf Db
   first|(have amc:N.bg (set,how) cs F k=true:=qE.o;clear amc;generalize wr.setCell ⟨w.heap.size+1,k,none⟩ (.bool true)=YH at V0⊢)|generalize wr.setCell ⟨w.heap.size+1,k,none⟩ (.bool false)=YH at V0⊢
   have aev:=bx (show Z6 w YH from V0.o.bel (by simp));have PK:=V0.o.blk 2 rfl;have xL:=(PK.cell 0).trans (show _=some (Value.int .i64 set)from rfl);have LK:=(PK.cell 1).trans (show _=some (Value.int .i64 how)from rfl);have QI:=PK.lt;clear PK
   rcases SM k cs.length with PI|PI
   rotate_left
   ·have ZE:=bx (λm=>show Sep [Pc.blk (w.heap.size+1+1) 4 (Mx (set,how) cs F (k+1)),Pc.blk (w.heap.size+1) 4 (outA (set,how) cs F (k+1)),Pc.blk w.heap.size 389 #[Z9 set,Z9 how],Pc.old w.heap.size w] (YH.drewN m) by
     have h:=V0.o.drewN m;rw[ae3 (.inl PI),rR (.inl PI)]at h;exact h)
    have EF:((k:Int)==(cs.length:Int))=true:=by rw[Lz];omega
    go_wp2_with fail
    go_quiet (fail)
    go_wp2
    go_roundw
    ·exact⟨k+1,Zu,by go_num,⟨ZE.o _⟩⟩
    simp[intOf];omega
   obtain⟨c,Q0⟩:=Yg cs k PI;obtain⟨VF,Um,AC,c1,c2,c3,VG,Wv⟩:=(Yq.o.below aev.o).get (by rintro rfl;simp at PI);obtain⟨rfl,rfl⟩:=XN c1;have uh:=Wv k c Q0;have sc:=bx (ase (x:=(set,how)) (F:=F) Q0);have G1:=bx (λW=>yj set c W);have EF:((k:Int)==(cs.length:Int))=false:=by rw[Sz];omega
   have ayy:k<Rm:=by omega
   unfold maxLen at c3;clear c1 Wv Q0
   cases hhas:N.aV set c with
   |false=>
    have E2:=bx (show N.aP (set,how) cs F (k+1)=(false,false) by rw[sc.o];simp_all);have ZE:=bx (λm=>show Sep [Pc.blk (w.heap.size+1+1) 4 (Mx (set,how) cs F (k+1)),Pc.blk (w.heap.size+1) 4 (outA (set,how) cs F (k+1)),Pc.blk w.heap.size 389 #[Z9 set,Z9 how],Pc.old w.heap.size w] (YH.drewN m) by
     have h:=V0.o.drewN m;rw[ae3 (.inr (by rw[E2.o])),rR (.inr (by rw[E2.o]))]at h;exact h)
    rw[hhas]at G1;clear hhas;go_wp2_with fail
    go_quiet ((go_at_call 322;exact MQ (G1.o _)))
    go_wp2
    go_roundw
    ·exact⟨k+1,Zu,by go_num,⟨ZE.o _⟩⟩
    simp[intOf];omega
   |true=>
    rw[hhas]at G1;have MX:=V0.o.blk 1 rfl;have Gz:=V0.o.blk 0 rfl;have F4:=(MX.cell k).trans (ajP (by omega));rw[qE.o]at F4;have awU:=(Gz.cell k).trans (amQ (by omega));have ayH:=(MX.cell (k+1)).trans (avw PI);have ayI:=(Gz.cell (k+1)).trans (as6 PI);have T8:=MX.lt;have aAi:=Gz.lt;have EI:=MX.frozen (k+1);have az9:=Gz.frozen (k+1);have Db:=(aev.o.cell (p:=⟨Ta,HV+k,none⟩) IQ.o).trans ZF.o;clear MX Gz
    rcases Il with hw|hw|hw
    focus
     subst hw;have E2:=bx (show N.aP (set,0) cs F (k+1)=(F.getD k false,false) by rw[sc.o];simp only;simp_all);have ZE:=bx (λm=>show Sep [Pc.blk (w.heap.size+1+1) 4 (Mx (set,0) cs F (k+1)),Pc.blk (w.heap.size+1) 4 (outA (set,0) cs F (k+1)),Pc.blk w.heap.size 389 #[Z9 set,Z9 0],Pc.old w.heap.size w] ((YH.drewN m).setCell ⟨w.heap.size+1,k+1,none⟩ (.bool (F.getD k false))) by
      have h:=(V0.o.drewN m).set 1 rfl (k+1) (.bool (N.aP (set,0) cs F (k+1)).1);rw[lC]at h;rw[rR (.inr (by rw[E2.o]))]at h;rw[E2.o]at h;exact h)
     rw[YF.o]at ZE
    rotate_left
    focus
     subst hw;have E2:=bx (show N.aP (set,1) cs F (k+1)=(N.bg (set,1) cs F k,false) by rw[sc.o];simp only;rw[hhas];rfl);have ZE:=bx (λm=>show Sep [Pc.blk (w.heap.size+1+1) 4 (Mx (set,1) cs F (k+1)),Pc.blk (w.heap.size+1) 4 (outA (set,1) cs F (k+1)),Pc.blk w.heap.size 389 #[Z9 set,Z9 1],Pc.old w.heap.size w] ((YH.drewN m).setCell ⟨w.heap.size+1,k+1,none⟩ (.bool (N.bg (set,1) cs F k))) by
      have h:=(V0.o.drewN m).set 1 rfl (k+1) (.bool (N.aP (set,1) cs F (k+1)).1);rw[lC]at h;rw[rR (.inr (by rw[E2.o]))]at h;rw[E2.o]at h;exact h)
     rw[qE.o]at ZE
    rotate_left
    focus
     subst hw;obtain⟨Zs,kn⟩:∃Zs,(N.aP (set,2) cs F k).2=Zs:=⟨_,rfl⟩
     have E2:=bx (show N.aP (set,2) cs F (k+1)=((N.aP (set,2) cs F k).2,N.bg (set,2) cs F k) by rw[sc.o];simp only;rw[hhas];rfl);have ZE:=bx (λm=>show Sep [Pc.blk (w.heap.size+1+1) 4 (Mx (set,2) cs F (k+1)),Pc.blk (w.heap.size+1) 4 (outA (set,2) cs F (k+1)),Pc.blk w.heap.size 389 #[Z9 set,Z9 2],Pc.old w.heap.size w] (((YH.drewN m).setCell ⟨w.heap.size+1+1,k+1,none⟩ (.bool (N.bg (set,2) cs F k))).setCell ⟨w.heap.size+1,k+1,none⟩ (.bool (N.aP (set,2) cs F k).2)) by
      have h:=((V0.o.drewN m).set 0 rfl (k+1) (.bool (N.aP (set,2) cs F (k+1)).2)).set 1 rfl (k+1) (.bool (N.aP (set,2) cs F (k+1)).1);rw[lC,aqX]at h;rw[E2.o]at h;exact h)
     rw[qE.o,kn]at ZE;rw[kn]at awU;clear kn
    rotate_left
    all_goals
     clear hhas;go_wp2_with fail
     go_quiet ((go_at_call 322;exact MQ (G1.o _)))
     go_wp2
     go_roundw
     ·exact⟨k+1,Zu,by go_num,⟨ZE.o _⟩⟩
     simp[intOf];omega
 obtain rfl:k=cs.length+1:=by omega
 have MX:=YC.o.blk 1 rfl;rw[anq]at MX;have XW:=bx (show LX wr (.slice (some ⟨w.heap.size+1,0,none⟩) (cs.length+1) (cs.length+1)) (N.cp (set,how) cs F) by
  have h:=ae9 MX (by rw[N.eA];omega);rw[N.eA]at h;exact h)
 clear MX PK;have MN:=bx (show∀o c,(t=[]\/o=off+2)->t.length<=c->c<=ZU->VA w (.slice (some ⟨b,o,none⟩) t.length c) t from λo c YT Z7 Z5=>
  .inr ⟨b,o,none,c,rfl,Z7,by unfold maxLen;omega,λZP=>⟨rfl,Zb,λi y ZJ=>by
   rcases YT with YT|YT
   ·exact absurd YT ZP
   rw[YT];exact Y8.o i y ZJ⟩⟩)
 have NO:=bx (λo c YT Z7 Z5=>aiv.o (.slice (some ⟨b,o,none⟩) t.length c) (.slice co cs.length Rm) (.slice (some ⟨w.heap.size+1,0,none⟩) (cs.length+1) (cs.length+1)) (N.cp (set,how) cs F) wr ((MN.o o c YT Z7 Z5).below X3.o) (Yq.o.below X3.o) XW.o (N.eA _ _ _))
 rcases Bx t.length with MC|MC
 ·have ZM:=L4 MC;subst ZM
  rcases Nat.eq_or_lt_of_le (show 1<=ZU from ZZ)with Dd|Dd
  ·subst Dd;go_wp2_with fail;refine(NO.o off 0 (.inl (by simp)) Ys (by omega)).mono ?_;rintro e YK ⟨⟨v5,rfl,Zi⟩,X0⟩;have CK:=bx Zi;have X6:=bx (IV X3.o X0);clear Zi X0
   go_wp2
   go_ret
   exact⟨⟨_,rfl,CK.o⟩,X6.o⟩
  go_wp2_with fail;refine(NO.o (off+2) (ZU-1) (.inl (by simp)) (by simp) (by omega)).mono ?_;rintro e YK ⟨⟨v5,rfl,Zi⟩,X0⟩;have CK:=bx Zi;have X6:=bx (IV X3.o X0);clear Zi X0
  go_wp2
  go_ret
  exact⟨⟨_,rfl,CK.o⟩,X6.o⟩
 go_wp2_with fail;refine(NO.o (off+2) (ZU-1) (.inr rfl) (by omega) (by omega)).mono ?_;rintro e YK ⟨⟨v5,rfl,Zi⟩,X0⟩;have CK:=bx Zi;have X6:=bx (IV X3.o X0);clear Zi X0
 go_wp2
 go_ret
 exact⟨⟨_,rfl,CK.o⟩,X6.o⟩
theorem ab0(cs:List Int)(MJ:cs.length<=299):∀(t:List N.Item),(∀x∈t,x.2=0\/x.2=1\/x.2=2)->t.length<=16777216->∀(v UX Za:Value)(F:List Bool)(w:World),VA w v t->Y6 w UX cs->LX w Za F->F.length=cs.length+1->
  Calls prog 311 #[v,UX,Za] w λe w'=>(∃Zy,e=.returned Zy/\LX w' Zy (N.bQ cs t F))/\Z6 w w'
 |[],_,_,v,UX,Za,F,w,Z2,ZL,hF,Br=>by
  have Yt:=bx hF;obtain⟨a,c,rfl⟩:=Z2.slice;clear Z2 ZL hF Br;rw[SK]
  go_in
  go_wp2
  go_ret
  exact⟨⟨_,rfl,Yt.o⟩,Below.refl _ _⟩
 |x::t,Z4,ZY,v,UX,Za,F,w,Z2,ZL,hF,Br=>
  aop cs MJ x t (Z4 x (Pw ..)) ZY (λv UX Za F w=>ab0 cs MJ t (λy ZJ=>Z4 y (Oj _ ZJ)) (by grind) v UX Za F w) v UX Za F w Z2 ZL hF Br
theorem alm(n p:Nat):(Ps n λ_=>false).setIfInBounds p (.bool true)=((N.b2 n p).map Value.bool).toArray:=by
 grind[Ps,N.b2]
theorem auI(st:Bool)(v:Value)(l:List N.Item)(UX:Value)(cs:List Int)(p:Nat)(w:World)(Z2:VA w v l)(Uy:∀x∈l,x.2=0\/x.2=1\/x.2=2)(ZY:l.length<=16777216)(ZL:Y6 w UX cs)(MJ:cs.length<=299)(_:p<=cs.length):
  Calls prog 283 #[.agg #[.bool st,v],UX,Z9 p] w λe w'=>(∃Zy,e=.returned Zy/\LX w' Zy (N.bQ cs l (N.b2 (cs.length+1) p)))/\Z6 w w':=by
 obtain⟨XH,ZU,rfl⟩:=Z2.slice;obtain⟨co,Rm,rfl⟩:=ZL.slice;obtain⟨RM,P7⟩:∃RM,RM=w.alloc (.cells #[.bool st,.slice XH l.length ZU] 252):=⟨_,rfl⟩
 have s1:RM.heap.size=w.heap.size+1:=by simp_all
 have Pz:Sep [Pc.blk w.heap.size 252 #[.bool st,.slice XH l.length ZU],Pc.old w.heap.size w] RM:=by rw[P7];exact(Sep.start w).ak _ _
 have hm:=mb cs.length MJ RM;obtain⟨We,TA⟩:∃We,We=RM.alloc (.cells (Ps (cs.length+1) λ_=>false) 4):=⟨_,rfl⟩
 have Rj:=Pz.ak 4 (Ps (cs.length+1) λ_=>false);rw[<-TA,s1]at Rj;rw[<-TA,s1]at hm;have Z8:=Rj.blk 0 rfl;have XX:=(Z8.cell p).trans (yG _ (by omega));have V2:=Z8.frozen p;have V4:=Z8.lt;have Z3:=Rj.blk 1 rfl;have Vy:=Z3.q1;have TX:=Z3.lt;have Ri:=Rj.set 0 rfl p (.bool true);rw[alm]at Ri;have YY:=bx (show Z6 w (We.setCell ⟨w.heap.size+1,p,none⟩ (.bool true))from Ri.bel (by simp));have X9:=bx (show LX (We.setCell ⟨w.heap.size+1,p,none⟩ (.bool true)) (.slice (some ⟨w.heap.size+1,0,none⟩) (cs.length+1) (cs.length+1)) (N.b2 (cs.length+1) p) by
  have h:=ae9 (Ri.blk 0 rfl) (by rw[N.dP];omega)
  rwa[N.dP]at h)
 have Qa:=(Ri.blk 1 rfl).q1;have Lh:=(Ri.blk 1 rfl).lt;obtain⟨Kn,LW⟩:∃Kn,Kn=We.setCell ⟨w.heap.size+1,p,none⟩ (.bool true):=⟨_,rfl⟩
 rw[<-LW]at YY X9 Qa Lh;have ZK:=bx (ab0 cs MJ l Uy ZY (.slice XH l.length ZU) (.slice co cs.length Rm) _ (N.b2 (cs.length+1) p) Kn (Z2.below YY.o) (ZL.below YY.o) X9.o (N.dP _ _));have VD:=bx P7;have W3:=bx hm;have OM:=bx LW;clear Z2 ZL P7 TA hm Z8 Z3 Pz Rj Ri s1 LW
 go_in
 go_upto_region 1 with(fail)
 rw[<-VD.o];have hm:=W3.o
 go_upto_region 2 with(fail)
 clear hm;go_wp2_with fail;rw[<-OM.o];clear XX V2 V4 Vy TX;go_wp2_with fail;refine ZK.o.mono ?_;rintro e YL ⟨⟨Zy,rfl,ZG⟩,Yf⟩;have Nq:=bx ZG;have Ye:=bx (IV YY.o Yf);clear ZG Yf
 go_wp2
 go_ret
 exact⟨⟨_,rfl,Nq.o⟩,Ye.o⟩
theorem aoU(st:Bool)(v:Value)(l:List N.Item)(UX:Value)(cs:List Int)(p:Int)(w:World)(Z2:VA w v l)(ZY:l.length<=16777216)(ZL:Y6 w UX cs)(MJ:cs.length<=299):
  Calls prog 224 #[.agg #[.bool st,v],UX,Z9 p] w λe w'=>e=.returned (.bool (IL st l cs p))/\Z6 w w':=by
 obtain⟨W,Yj⟩:∃W,W=w.alloc (.cells #[.bool st,v] 252):=⟨_,rfl⟩
 have Ou:Z6 w W:=by rw[Yj];exact Be _ _
 have XY:Zv W w.heap.size 252 #[.bool st,v]:=by rw[Yj];exact Zv.new _ _ _
 have WI:=bx (uz st v l W (Z2.below Ou) ZY);have ZN:=bx (Z2.below Ou);have Yq:=bx (ZL.below Ou);have WH:=bx XY;have YA:=bx Ou;obtain⟨XH,ZU,rfl⟩:=ZL.slice;have YV:=XY.q0;have c1:=XY.q1;have TW:=bx Yj;clear Z2 ZL XY Ou Yj
 go_in
 go_upto_region 1 with(fail)
 rw[<-TW.o]
 cases ZT:Ss l with
 |false=>
  have ZK:=bx (show IL st l cs p=false by grind[IL]);have SE:=bx ZT;clear ZT;go_wp2_with fail;refine WI.o.mono ?_;rintro e ZV ⟨rfl,ZZ⟩;rw[SE.o];have ZW:=bx ZZ;clear ZZ
  go_wp2
  go_ret
  exact⟨YG ZK.o.symm,bt YA.o ZW.o⟩
 |true=>
  have SE:=bx ZT;clear ZT
  rcases PX p 0 with ZI|ZI
  ·have ZK:=bx (show IL st l cs p=false by grind[IL]);go_wp2_with fail;refine WI.o.mono ?_;rintro e ZV ⟨rfl,ZZ⟩;rw[SE.o];have ZW:=bx ZZ;clear ZZ
   go_wp2
   go_ret
   exact⟨YG ZK.o.symm,bt YA.o ZW.o⟩
  rcases PX cs.length p with Z7|Z7
  ·have ZK:=bx (show IL st l cs p=false by grind[IL]);go_wp2_with fail;refine WI.o.mono ?_;rintro e ZV ⟨rfl,ZZ⟩;rw[SE.o];have ZW:=bx ZZ;clear ZZ
   go_wp2
   go_ret
   exact⟨YG ZK.o.symm,bt YA.o ZW.o⟩
  obtain⟨q,rfl⟩:=PY ZI;have Zs:q<=cs.length:=by omega
  go_wp2_with fail;refine WI.o.mono ?_;rintro e ZV ⟨rfl,ZZ⟩;rw[SE.o];have Hy:=WH.o.below ZZ WH.o.lt;have d0:=Hy.q0;have d1:=Hy.q1;have Sv:=Hy.lt;have ZW:=Zw YA ZZ;have VD:=bx (ZN.o.below ZZ);have UH:=bx (Yq.o.below ZZ);clear ZZ Hy YV c1
  by_cases Z0:st=true/\0<q
  ·obtain⟨V6,OU⟩:=Z0;have ZK:=bx (show IL st l cs (q:Int)=false by grind[IL]);rw[V6]at d0;clear V6
   go_wp2
   go_ret
   exact⟨YG ZK.o.symm,ZW.o⟩
  have oq:=bx (lD SE.o);have Mn:=bx (mf SE.o);have akE:=EV SE.o;obtain⟨X,TM⟩:∃X,N.bQ cs l (N.b2 (cs.length+1) q)=X:=⟨_,rfl⟩
  have YD:=bx TM;have CM:=bx (show X.length=cs.length+1 by rw[<-TM];exact N.fq (N.dP _ _));have O9:=bx (show∀i,i<=cs.length->X.getD i false=true->q<=i from λi hi h=>by
   rw[<-TM]at h;have ZT:=N.fF (l:=l) (cs:=cs) Mn.o Zs l.length Ys i hi;rw[OR]at ZT;exact(ZT.1 h).le)
  have ZK:=bx (show IL st l cs (q:Int)=X.any id by
   unfold IL;rw[SE.o,Yh ZI,Yh Z7,RU,TM]
   grind)
  have KD:=bx (auI st v l (.slice XH cs.length ZU) cs q ZV VD.o oq.o ZY UH.o MJ Zs);clear TM
  rcases Bool.eq_false_or_eq_true st with e|e
  ·have tL:q=0:=by
    grind
   rw[e]at d0 KD;subst tL;clear e Z0 Zs ZI Z7;go_wp2_with fail;refine KD.o.mono ?_;rintro e Zh ⟨⟨Sl,rfl,hi⟩,Zb⟩;rw[YD.o]at hi;have YE:=bx hi;have YY:=Zw ZW Zb;obtain⟨J1,Pm,rfl⟩:=hi.slice;rw[CM.o]at YE⊢;clear hi Zb d0 d1 Sv;go_wp2_with fail
   go_loopw[8] (λi wr=>∃k:Nat,0<=k/\k<=cs.length+1/\i=Z9 k/\Box (∀j,0<=j->j<k->X.getD j false=false)/\Box (Z6 Zh wr)) (λi _=>cs.length+1-(intOf i).toNat)
   ·exact⟨0,Wq _,by omega,rfl,⟨λj Z7 Z5=>by omega⟩,⟨Below.refl _ _⟩⟩
   obtain⟨k,FV,Z3,rfl,XF,Z8⟩:=hrel
   by_cases Zu:k<=cs.length
   ·obtain⟨f,Yz⟩:=Yg X k (by rw[CM.o];omega);obtain⟨g,off,XV,Y5,XL,Yi,XB,YX⟩:=(YE.o.below Z8.o).get (by grind);rw[CM.o]at Y5 XL;obtain⟨rfl,rfl⟩:=XN Y5;have Db:=YX k f Yz;have YF:=bx (show X.getD k false=f by grind);have zb:=bx (show f=true->X.any id=true from λh=>NS.2 ⟨f,Xh Yz,h⟩);have Wy:=bx Z8.o.size;unfold maxLen at Yi;clear Y5 XB YX Yz
    cases f with
    |true=>
     have Y8:=bx (zb.o rfl)
     go_wp2
     go_ret
     exact⟨YG (ZK.o.trans Y8.o).symm,bt YY.o Z8.o⟩
    |false=>
     have RA:=bx (show∀j,0<=j->j<k+1->X.getD j false=false from λj Z7 Z5=>by
      rcases SM j k with h|h
      ·exact XF.o j Z7 h
      obtain rfl:j=k:=by omega
      exact YF.o)
     go_wp2
     go_roundw
     ·exact⟨k+1,by omega,by omega,by go_num,RA,Z8⟩
     grind[intOf]
   have Yt:=bx (show X.any id=false by
    rw[Bool.eq_false_iff];intro h;obtain⟨b,ZZ,Zz⟩:=NS.1 h;obtain⟨i,LK,QZ⟩:=List.getElem_of_mem ZZ;have Ik:=CM.o;have ZH:X.getD i false=true:=by grind
    have:=O9.o i (by omega) ZH;rw[XF.o i this (by omega)]at ZH;grind)
   go_wp2
   go_ret
   exact⟨YG (ZK.o.trans Yt.o).symm,bt YY.o Z8.o⟩
  rw[e]at d0 KD;clear e Z0 ZI Z7;go_wp2_with fail;refine KD.o.mono ?_;rintro e Zh ⟨⟨Sl,rfl,hi⟩,Zb⟩;rw[YD.o]at hi;have YE:=bx hi;have YY:=Zw ZW Zb;obtain⟨J1,Pm,rfl⟩:=hi.slice;rw[CM.o]at YE⊢;clear hi Zb d0 d1 Sv;go_wp2_with fail
  go_loopw[8] (λi wr=>∃k:Nat,q<=k/\k<=cs.length+1/\i=Z9 k/\Box (∀j,q<=j->j<k->X.getD j false=false)/\Box (Z6 Zh wr)) (λi _=>cs.length+1-(intOf i).toNat)
  ·exact⟨q,Wq _,by omega,rfl,⟨λj Z7 Z5=>by omega⟩,⟨Below.refl _ _⟩⟩
  obtain⟨k,FV,Z3,rfl,XF,Z8⟩:=hrel
  by_cases Zu:k<=cs.length
  ·obtain⟨f,Yz⟩:=Yg X k (by rw[CM.o];omega);obtain⟨g,off,XV,Y5,XL,Yi,XB,YX⟩:=(YE.o.below Z8.o).get (by grind);rw[CM.o]at Y5 XL;obtain⟨rfl,rfl⟩:=XN Y5;have Db:=YX k f Yz;have YF:=bx (show X.getD k false=f by grind);have zb:=bx (show f=true->X.any id=true from λh=>NS.2 ⟨f,Xh Yz,h⟩);have Wy:=bx Z8.o.size;unfold maxLen at Yi;clear Y5 XB YX Yz
   cases f with
   |true=>
    have Y8:=bx (zb.o rfl)
    go_wp2
    go_ret
    exact⟨YG (ZK.o.trans Y8.o).symm,bt YY.o Z8.o⟩
   |false=>
    have RA:=bx (show∀j,q<=j->j<k+1->X.getD j false=false from λj Z7 Z5=>by
     rcases SM j k with h|h
     ·exact XF.o j Z7 h
     obtain rfl:j=k:=by omega
     exact YF.o)
    go_wp2
    go_roundw
    ·exact⟨k+1,by omega,by omega,by go_num,RA,Z8⟩
    grind[intOf]
  have Yt:=bx (show X.any id=false by
   rw[Bool.eq_false_iff];intro h;obtain⟨b,ZZ,Zz⟩:=NS.1 h;obtain⟨i,LK,QZ⟩:=List.getElem_of_mem ZZ;have Ik:=CM.o;have ZH:X.getD i false=true:=by grind
   have:=O9.o i (by omega) ZH;rw[XF.o i this (by omega)]at ZH;grind)
  go_wp2
  go_ret
  exact⟨YG (ZK.o.trans Yt.o).symm,bt YY.o Z8.o⟩
theorem avz{n:Nat}{l:List Int}{q:Nat}{c:Int}(h:l[q]?=some c):(D.cuts n (l.take (q+1)))=D.cuts n (l.take q)++[D.cut n c]:=by
 unfold D.cuts;rw[Uo,h,T9]
 rfl
def JA(R:List D.Rule)(M:D.ao)(Zj:Nat)(L:List Int)(p:Nat):Bool:=decide (p=L.length)||cutAt R M Zj L p
def KF(R:List D.Rule)(M:D.ao)(Zj:Nat)(L:List Int)(k:Nat):List Int:=(0::((List.range k).map (·+1)).filter (JA R M Zj L)).map (λn:Nat=>(n:Int))
theorem mm(R:List D.Rule)(M:D.ao)(Zj:Nat)(L:List Int)(k:Nat):KF R M Zj L (k+1)=KF R M Zj L k++if JA R M Zj L (k+1)=true then[((k+1:Nat):Int)]else[]:=by
 unfold KF;rw[List.range_succ,T9,List.filter_append,<-SI,T9]
 congr 1
 cases h:JA R M Zj L (k+1) <;> simp[h]
theorem ac2{R:List D.Rule}{M:D.ao}{Zj:Nat}{L:List Int}{p:Nat}(_:1<=p)(h:true=JA R M Zj L p):KF R M Zj L (p+1-1)=KF R M Zj L (p-1)++[(p:Int)]:=by
 obtain⟨k,rfl⟩:∃k,p=k+1:=⟨p-1,by omega⟩
 rw[show k+1+1-1=k+1 by omega,show k+1-1=k by omega,mm,Y0 h.symm]
theorem aab{R:List D.Rule}{M:D.ao}{Zj:Nat}{L:List Int}{p:Nat}(_:1<=p)(_:false=JA R M Zj L p):KF R M Zj L (p+1-1)=KF R M Zj L (p-1):=by
 obtain⟨k,rfl⟩:∃k,p=k+1:=⟨p-1,by omega⟩
 grind[mm]
theorem asZ(R:List D.Rule)(M:D.ao)(Zj:Nat)(L:List Int):KF R M Zj L L.length=KI R M Zj L:=by
 unfold KI
 rcases Bx L.length with h|h
 ·rw[Y4 (by omega),h]
  rfl
 obtain⟨m,hm⟩:∃m,L.length=m+1:=⟨L.length-1,by omega⟩
 rw[Y0 h,hm,mm,Y0 (by grind[JA])]
 congr 1
 unfold KF Fe
 congr 2
 refine List.filter_congr λ_ _=>?_
 grind[JA]
theorem gW(Y2:Value)(R:List D.Rule)(Rq:Value)(M:D.ao)(n:Int)(Zc:Value)(L:List Int)(w:World)(WS:TQ w Y2 R)(Yz:∀x∈R,Mv x)(KB:R.length<=16777216)(Xv:Oh w Rq M)(MZ:JV M)(WE:Y6 w Zc L)(F9:L.length<=299):
  Calls prog 130 #[Y2,Rq,Z9 n,Zc] w (gv R M n L w):=by
 have ZK:=bx WS;have W3:=bx Xv;have W4:=bx WE;have Yt:=bx Yz;have Ct:=bx MZ;obtain⟨ro,rc,rfl⟩:=WS.slice;obtain⟨Zo,Za,rfl,SO,SQ⟩:=Xv;obtain⟨U7,V5,rfl⟩:=SO.slice;obtain⟨WN,XG,rfl⟩:=SQ.slice;obtain⟨lo,lc,rfl⟩:=WE.slice;obtain⟨ZB,RJ⟩:∃ZB,ZB=w.alloc (.cells #[.slice U7 M.1.length V5,.slice WN M.2.length XG] 29):=⟨_,rfl⟩
 have R9:=bx RJ;have Zz:Z6 w ZB:=by rw[RJ];exact Xl _ _
 have Zt:=bx Zz;have T0:=bx (show Zv ZB w.heap.size 29 #[.slice U7 M.1.length V5,.slice WN M.2.length XG] by rw[RJ];exact Zv.new w _ _);have S0:=bx (ang _ R _ M n ZB (WS.below Zz) Yz KB (W3.o.below Zz) MZ);have YV:=T0.o.q0;have c1:=T0.o.q1;have S4:=T0.o.lt;clear SO SQ WS WE RJ Zz Yz MZ
 rcases Bool.eq_false_or_eq_true (OI R M n)with ZJ|ZJ
 rotate_left
 ·have WO:=bx ZJ;rw[ZJ]at S0;clear ZJ
  go_in
  go_upto_region 1 with(fail)
  rw[<-R9.o];go_wp2_with fail;refine Y3 S0.o λZh Zb=>?_
  have YY:=bx (IV Zt.o Zb);clear Zb
  go_wp2
  go_ret2
  exact⟨YY.o,.inr ⟨WO.o,rfl⟩⟩
 obtain⟨K1,xH,pY⟩:=ac3 ZJ;obtain⟨Ii,CR,nW,-⟩:=uQ K1;obtain⟨Zj,rfl⟩:=PY (show 0<=n by omega);have DG:=bx xH;have sh:=bx (show goCode Zj M=0 by grind[goCode]);have RF:=bx (wK xH);have WO:=bx ZJ;rw[ZJ]at S0;clear ZJ K1 xH pY
 go_in
 go_upto_region 1 with(fail)
 rw[<-R9.o];go_wp2_with fail;refine Y3 S0.o λZh Zb=>?_
 have YY:=bx (IV Zt.o Zb);have U9:=T0.o.below Zb T0.o.lt;have d0:=U9.q0;have d1:=U9.q1;have xx:=U9.lt;have JE:=bx (avy _ (.slice lo L.length lc) M Zj L Zh (W3.o.below YY.o) Ct.o (W4.o.below YY.o) (by omega));clear Zb U9 YV c1 S4;go_wp2_with fail;refine JE.o.mono ?_;rintro e YL ⟨Yf,Sl,rfl,xM⟩;rw[sh.o];rw[DG.o,Y0 rfl,RU]at xM;obtain⟨X,TM⟩:∃X,vE Zj M L=X:=⟨_,rfl⟩
 have TL:X.length=L.length+1:=by grind[vE,Q4]
 have yS:=bx (show∀i,i<=L.length->∃f:Nat,X[i]?=some (f:Int)/\f<1099511627776/\(Jn M (stM Zj M L i)).toNat=f from λi _=>by
  have Z8:0<=Jn M (stM Zj M L i)/\Jn M (stM Zj M L i)<1099511627776:=by
   unfold Jn
   cases Zs:M.2[stM Zj M L i]? with
   |none=>grind
   |some y=>rw[Rl,Zs];exact RF.o y (Xh Zs)
  grind[vE,Q4])
 rw[TM]at xM;have gU:=xM;obtain⟨J1,Pm,rfl⟩:=gU.slice;rw[TL]at xM⊢;have Tn:=bx xM;have Se:=bx TL;have Ye:=bx (IV YY.o Yf);have XI:=bx ((Sep.start YL).aH YL.heap.size 1 3);have OC:=bx (λW(h:Z6 YL W)=>(ZK.o.below Ye.o).below h);have RP:=bx (W4.o.below Ye.o);clear Yf xM gU TL TM d0 d1 xx;go_wp2_with fail
 go_loopw[13,12] (λi o wr=>∃(q:Nat)(UP:Option Addr)(Wr:Nat),q<=L.length/\i=Z9 q/\o=.slice UP q Wr/\Box (Sep [Pc.row YL.heap.size 3 1 (.slice UP q Wr) q ((D.cuts Zj (L.take q)).map (Value.int .i64)),Pc.old YL.heap.size YL] wr)) (λi _ _=>L.length-(intOf i).toNat)
 ·exact⟨0,none,0,OQ _,rfl,rfl,XI⟩
 obtain⟨q,UP,Wr,Zs,rfl,rfl,Nf⟩:=hrel;have O7:=bx (Nf.o.bel (n:=YL.heap.size) (W0:=YL) (by simp));clear XI
 by_cases Zu:q<L.length
 ·obtain⟨c,ZL⟩:=Yg L q Zu;obtain⟨g,off,XV,Y5,XL,Yi,XB,YX⟩:=(RP.o.below O7.o).get (by grind);obtain⟨rfl,rfl⟩:=XN Y5;have UT:=YX q c ZL;have aii:=bx (avz (n:=Zj) ZL);have PK:=O7.o.size;unfold maxLen at Yi;clear Y5 YX ZL;have fin:∀x:Int,x=D.cut Zj c->∀Zy w',Sep ([Pc.row YL.heap.size 3 1 (.slice UP q Wr) q ((D.cuts Zj (L.take q)).map (Value.int .i64)),Pc.old YL.heap.size YL].set 0 (Pc.row YL.heap.size 3 1 Zy (q+1) ((D.cuts Zj (L.take q)).map (Value.int .i64)++[Z9 x]))) w'->
    Sep [Pc.row YL.heap.size 3 1 Zy (q+1) ((D.cuts Zj (L.take (q+1))).map (Value.int .i64)),Pc.old YL.heap.size YL] w':=λx Z4 Zy w' h=>by
   rw[aii.o,T9,List.map_singleton,<-Z4];exact h
  have th:=bx fin;clear fin
  rcases PX c 0 with ZI|ZI
  ·have YD:=bx (show(-1:Int)=D.cut Zj c by grind[D.cut]);go_wp2_with (at_builtin;refine PC rfl _ _ 22 rfl OJ Nf.o 0 rfl rfl rfl rfl (by omega) (by omega) PK ?_;rintro Zy XA WC ⟨go',TV,rfl,-,-⟩)
   have WQ:=bx (th.o _ YD.o _ _ WC);clear WC
   go_roundw
   ·exact⟨q+1,_,_,Zu,by go_num,rfl,WQ⟩
   grind[intOf]
  rcases PX c Zj with Z7|Z7
  focus
   have YD:=bx (show c=D.cut Zj c by grind[D.cut])
  rotate_left
  focus
   have YD:=bx (show(-1:Int)=D.cut Zj c by grind[D.cut])
  rotate_left
  all_goals
   go_wp2_with (at_builtin;refine PC rfl _ _ 22 rfl OJ Nf.o 0 rfl rfl rfl rfl (by omega) (by omega) PK ?_;rintro Zy XA WC ⟨go',TV,rfl,-,-⟩)
   have WQ:=bx (th.o _ YD.o _ _ WC);clear WC
   go_roundw
   ·exact⟨q+1,_,_,Zu,by go_num,rfl,WQ⟩
   grind[intOf]
 obtain rfl:q=L.length:=by omega
 have Qt:=bx (show Y6 wr (.slice UP L.length Wr) (D.cuts Zj L) by
  have:=Y6.au (Nf.o.row 0 rfl) (by simp[D.cuts]);grind)
 obtain⟨UZ,E0⟩:∃UZ,UZ=wr:=⟨_,rfl⟩
 rw[<-E0]at O7 Qt⊢;obtain⟨No,D8⟩:∃No,No=UZ.alloc (.cells #[Z9 0] 3):=⟨_,rfl⟩
 have Zg:Z6 UZ No:=by rw[D8];exact Xl _ _
 have XO:=bx (show Sep [Pc.row UZ.heap.size 3 1 (.slice (some ⟨UZ.heap.size,0,none⟩) 1 1) 1 ((KF R M Zj L (1-1)).map (Value.int .i64)),Pc.old UZ.heap.size UZ] No from(Sep.start UZ).got Zg ⟨rfl,.inr ⟨UZ.heap.size,1,#[Z9 0],rfl,Wq _,by rw[D8];exact Zv.new _ _ _,Wq _,by simp[maxLen],rfl,rfl⟩⟩ Ys);have Jj:=bx D8;have HS:=bx (λW(h:Z6 UZ W)=>OC.o W (IV O7.o h));have NT:=bx (λW(h:Z6 UZ W)=>(Tn.o.below O7.o).below h);have Wj:=bx (IV Ye.o O7.o);clear Nf E0 D8 Zg Zu Zs;go_wp2_with fail;rw[<-Jj.o]
 go_loopw[16,15] (λi o wr=>∃(p N:Nat)(UP:Option Addr)(Wr:Nat),1<=p/\p<=L.length+1/\i=Z9 p/\o=.slice UP N Wr/\N<=p/\Box (Sep [Pc.row UZ.heap.size 3 1 (.slice UP N Wr) N ((KF R M Zj L (p-1)).map (Value.int .i64)),Pc.old UZ.heap.size UZ] wr)) (λi _ _=>L.length+1-(intOf i).toNat)
 ·grind
 obtain⟨p,N,XH,ac,Hr,hp,rfl,rfl,Zp,WF⟩:=hrel;have X3:=bx (WF.o.bel (n:=UZ.heap.size) (W0:=UZ) (by simp));obtain⟨yg,af3⟩:∃yg,yg=wr:=⟨_,rfl⟩
 rw[<-af3]at WF X3⊢;clear af3;clear XO
 by_cases Zu:p<L.length+1
 rotate_left
 ·obtain rfl:p=L.length+1:=by omega
  have X9:=bx (show Y6 yg (.slice XH N ac) (KI R M Zj L) by
   have h:=WF.o.row 0 rfl;rw[show L.length+1-1=L.length by omega,asZ]at h;exact Y6.au h (by have:=h.1;rw[X4]at this;omega))
  have TZ:=bx (IV Wj.o X3.o)
  go_wp2
  go_ret2
  exact⟨TZ.o,.inl ⟨WO.o,_,rfl,X9.o⟩⟩
 obtain⟨f,Yz,TL,Kd⟩:=yS.o p (by omega);have GJ:=bx (show cutAt R M Zj L p=G.c0 R (D.cuts Zj L) f (p:Int) by unfold cutAt;rw[Kd]);obtain⟨g,off,XV,Y5,XL,Yi,XB,YX⟩:=(NT.o _ X3.o).get (by intro e;have:=Se.o;rw[e]at this;simp at this);rw[Se.o]at Y5 XL;obtain⟨rfl,rfl⟩:=XN Y5;have ZF:=bx (show∀W,Z6 yg W->ZQ W g (off+p)=some (Z9 (f:Int))from λW h=>(h.cell (p:=⟨g,off+p,none⟩) XB).trans (YX p _ Yz));have DT:=bx Kd;have GF:=bx Hr;obtain⟨mB,RV⟩:∃b,((p:Int)==(L.length:Int))=b:=⟨_,rfl⟩
 have Bf:=bx (show mB=true↔p=L.length by rw[<-RV,Lz];omega);unfold maxLen at Yi;clear Y5 XB YX Yz Kd;have afb:=bx Zu;go_wp2_with fail;clear Zu;generalize decide (p<=L.length)=z57;clear RV;have Qx:=bx (show∀W,Z6 yg W->Sep [Pc.row UZ.heap.size 3 1 (.slice XH N ac) N ((KF R M Zj L (p-1)).map (Value.int .i64)),Pc.old UZ.heap.size UZ] W from λW h=>WF.o.below h);clear WF
 go_loopw[19,17,18] (λi c m CQ=>∃(q:Nat)(YQ Xu:Bool),q<=R.length/\i=Z9 q/\c=.bool YQ/\m=.bool Xu/\Box ((Xu=true/\YQ=JA R M Zj L p)\/(Xu=false/\YQ=true/\p≠L.length/\∀j,j<q->G.hit R (D.cuts Zj L) f (p:Int) j=false))/\Box (Z6 yg CQ)) (λi _ _ _=>R.length-(intOf i).toNat)
 ·
  refine⟨0,true,mB,OQ _,rfl,rfl,rfl,⟨?_⟩,⟨Below.refl _ _⟩⟩
  cases hm:mB with
  |true=>exact .inl ⟨rfl,by unfold JA;rw[Yh (Bf.o.1 hm)];rfl⟩
  |false=>exact .inr ⟨rfl,rfl,λe=>(by have:=Bf.o.2 e;rw[hm]at this;cases this),λj YO=>by omega⟩
 obtain⟨q,YQ,Xu,Zs,rfl,rfl,rfl,P3,PK⟩:=hrel;have ayM:=afb.o
 rcases Bool.eq_false_or_eq_true Xu with EE|EE
 ·have AG:=bx (show YQ=JA R M Zj L p by
   rcases P3.o with h|h
   ·exact h.2
   rw[EE]at h;exact absurd h.1.symm Bool.false_ne_true)
  rw[EE];clear EE P3
  rcases SM q R.length with BF|BF
  focus
   clear afb
  rotate_left
  focus
   obtain rfl:q=R.length:=by omega
  rotate_left
  all_goals
   have Ls:=bx (Qx.o _ PK.o);have vW:=bx (Ls.o.bel (n:=UZ.heap.size) (W0:=UZ) (by simp));have WP:=vW.o.size
   cases YQ with
   |true=>
    have NZ:=bx (ac2 GF.o AG.o);go_wp2_with (at_builtin;refine PC rfl _ _ 22 rfl OJ Ls.o 0 rfl rfl rfl rfl (by omega) (by omega) WP ?_;rintro Zy XA WC ⟨go',TV,rfl,-,-⟩)
    have WQ:=bx (show Sep [Pc.row UZ.heap.size 3 1 (.slice (some ⟨go',0,none⟩) (N+1) TV) (N+1) ((KF R M Zj L (p+1-1)).map (Value.int .i64)),Pc.old UZ.heap.size UZ] XA by
     rw[NZ.o,T9];exact WC)
    clear WC
    go_wp2
    go_roundw
    ·exact⟨p+1,N+1,_,_,by omega,by omega,by go_num,rfl,by omega,WQ⟩
    simp[intOf];omega
   |false=>
    have NZ:=bx (show Sep [Pc.row UZ.heap.size 3 1 (.slice XH N ac) N ((KF R M Zj L (p+1-1)).map (Value.int .i64)),Pc.old UZ.heap.size UZ] wr by
     rw[aab GF.o AG.o];exact Ls.o)
    go_wp2
    go_roundw
    ·exact⟨p+1,N,_,_,by omega,by omega,by go_num,rfl,by omega,NZ⟩
    simp[intOf];omega
 rw[EE];have Ry:=bx (show YQ=true/\p≠L.length/\∀j,j<q->G.hit R (D.cuts Zj L) f (p:Int) j=false by
  rcases P3.o with h|h
  ·rw[EE]at h;exact absurd h.1 Bool.false_ne_true
  exact h.2)
 clear EE P3
 by_cases BF:q<R.length
 rotate_left
 ·obtain rfl:q=R.length:=by omega
  have AG:=bx (show YQ=JA R M Zj L p by
   obtain⟨Z7,Z5,ZS⟩:=Ry.o;unfold JA;rw[Z7,GJ.o,G.ae6 ZS];simp)
  clear BF;have Ls:=bx (Qx.o _ PK.o);have vW:=bx (Ls.o.bel (n:=UZ.heap.size) (W0:=UZ) (by simp));have WP:=vW.o.size
  cases YQ with
  |true=>
   have NZ:=bx (ac2 GF.o AG.o);go_wp2_with (at_builtin;refine PC rfl _ _ 22 rfl OJ Ls.o 0 rfl rfl rfl rfl (by omega) (by omega) WP ?_;rintro Zy XA WC ⟨go',TV,rfl,-,-⟩)
   have WQ:=bx (show Sep [Pc.row UZ.heap.size 3 1 (.slice (some ⟨go',0,none⟩) (N+1) TV) (N+1) ((KF R M Zj L (p+1-1)).map (Value.int .i64)),Pc.old UZ.heap.size UZ] XA by
    rw[NZ.o,T9];exact WC)
   clear WC
   go_wp2
   go_roundw
   ·exact⟨p+1,N+1,_,_,by omega,by omega,by go_num,rfl,by omega,WQ⟩
   simp[intOf];omega
  |false=>
   have NZ:=bx (show Sep [Pc.row UZ.heap.size 3 1 (.slice XH N ac) N ((KF R M Zj L (p+1-1)).map (Value.int .i64)),Pc.old UZ.heap.size UZ] wr by
    rw[aab GF.o AG.o];exact Ls.o)
   go_wp2
   go_roundw
   ·exact⟨p+1,N,_,_,by omega,by omega,by go_num,rfl,by omega,NZ⟩
   simp[intOf];omega
 have Vo:=Ry.o.1;subst Vo;obtain⟨x,Z4⟩:=Yg R q BF;have iH:=bx (IV X3.o PK.o);obtain⟨rg,Hk,Ax,Zx,Zr,Zk,Zl,Zg⟩:=(HS.o _ iH.o).get (by rintro rfl;simp at BF);obtain⟨rfl,rfl⟩:=XN Zx;obtain⟨Vj,Ym,S2,r1,r2,r3,r4,QI,N7⟩:=Zg q x Z4;obtain⟨Dq,s9,rfl⟩:=N7.slice;have rq:=bx (Qt.o.below iH.o);have GP:=bx (λ(W:World)(h:Z6 wr W)=>ajL x.2.1.1 x.2.1.2 (D.cuts Zj L) (p:Int)▸aoU x.2.1.1 (.slice Dq x.2.1.2.length s9) x.2.1.2 (.slice UP L.length Wr) (D.cuts Zj L) p W (N7.below h) (Yt.o x (Xh Z4)).2 (rq.o.below h) (by unfold D.cuts;rw[X4];exact F9));have YD:=bx Z4;have Db:=ZF.o _ PK.o;obtain⟨P,TU⟩:∃P:Nat,P=2^q:=⟨_,rfl⟩
 have azW:0<P:=by rw[TU];exact Nat.two_pow_pos q
 have GL:=bx (λW=>adb q W (by omega));rw[<-TU]at GL;obtain⟨Wz,Zq⟩:=mR f P;have ZM:=oy f q;rw[<-TU]at ZM;have RA:=bx (show G.hit R (D.cuts Zj L) f (p:Int) q=false->∀j,j<q+1->G.hit R (D.cuts Zj L) f (p:Int) j=false from λh j YO=>by
  rcases SM j q with Z7|Z7
  ·exact Ry.o.2.2 j Z7
  obtain rfl:j=q:=by omega
  exact h)
 have Mr:=bx Ry.o.2.1;have pP:g<wr.heap.size:=World.block_lt_of_cell? _ _ Db;unfold maxLen at Zk;clear Zx Zg Z4 QI N7 TU
 rcases Bool.eq_false_or_eq_true (f.testBit q)with OW|OW
 rotate_left
 ·have ZE:=bx (RA.o (su YD.o (.inl OW)));have W6:=bx (λm=>PK.o.trans ((Po wr m).mono PK.o.size));rw[OW]at ZM;clear OW;go_wp2_with fail
  go_quiet ((go_at_call 223;exact MQ (GL.o _)))
  go_wp2
  go_roundw
  ·exact⟨q+1,true,false,BF,by go_num,rfl,rfl,⟨.inr ⟨rfl,rfl,Mr.o,ZE.o⟩⟩,⟨W6.o _⟩⟩
  simp[intOf];omega
 rw[OW]at ZM;obtain⟨Inv,Rk,Tr⟩:∃Inv:World->Prop,(∀W,Inv W->Z6 wr W)/\(∀W,Z6 wr W->Inv W):=⟨_,λ_ h=>h,λ_ h=>h⟩
 have Wa:=bx (show∀q:CW Inv,Z6 wr q.w from λq=>Rk _ q.h);have PT:=bx (show∀(q:CW Inv) w',Below q.w.heap.size q.w w'->Inv w' from λq w' h=>Tr _ ((Wa.o q).trans (h.mono (Wa.o q).size)));have q0:=λq=>((Wa.o q).cell (p:=⟨g,off+p,none⟩) pP).trans Db
 have q1:=λc=>((Wa.o c).cell (p:=⟨rg,Hk+q*5+2,none⟩) Zl).trans r2
 have q2:=λc=>((Wa.o c).cell (p:=⟨rg,Hk+q*5+3,none⟩) Zl).trans r3
 have Bo:=bx (show∀c:CW Inv,Calls prog 223 #[Z9 q] c.w λe Ep=>e=.returned (Z9 (P:Int))/\∃m:CW Inv,Ep=m.w from λc=>(GL.o c.w).mono λe Ep h=>⟨h.1,c,h.2.symm⟩);have W6:=bx (Tr _ (VQ wr 1));have ajc:=bx (show∀W,Z6 wr W->ZQ W rg (Hk+q*5+4)=some (.bool x.2.2)from λW h=>(h.cell (p:=⟨rg,Hk+q*5+4,none⟩) Zl).trans r4);have Cm:=bx Zl
 rcases Bool.eq_false_or_eq_true (NQ x.2.1.1 x.2.1.2 (D.cuts Zj L) (p:Int))with Ma|Ma
 ·have OF:=bx (show x.2.2=JA R M Zj L p by
   unfold JA;rw[Yp Mr.o,GJ.o,Bool.false_or,G.aaw YD.o (afl YD.o OW Ma) Ry.o.2.2])
  have U4:=bx (λc:CW Inv=>Li (GP.o c.w (Wa.o c)) (show Value.bool (NQ x.2.1.1 x.2.1.2 (D.cuts Zj L) (p:Int))=.bool true by rw[Ma]) (PT.o c));clear OW Ma Rk Tr Db S2 r1 r2 r3 r4 Zl;go_wp2_with fail;refine OL Inv (by kernel_rfl) (by kernel_rfl) W6.o (λXq=>?_)
  repeat (any_goals (first|go_big_quiet_step ((first|(go_at_call 223;exact Bo.o _)|(go_at_call 224;exact U4.o _)))|quiet_step ((first|(go_at_call 223;exact Bo.o _)|(go_at_call 224;exact U4.o _)))))
  refine wpQuiet_nil ?_;rintro Xi ⟨q7,rfl⟩;have XM:=bx (Wa.o q7);clear q0 q1 q2 Xq;have r4:=ajc.o _ XM.o;have Zl:=Vh Cm.o XM.o.size
  go_wp2
  go_roundw
  ·exact⟨q+1,_,true,BF,by go_num,rfl,rfl,⟨.inl ⟨rfl,OF.o⟩⟩,⟨IV PK.o XM.o⟩⟩
  simp[intOf];omega
 have ZE:=bx (RA.o (su YD.o (.inr Ma)));have U4:=bx (λc:CW Inv=>Li (GP.o c.w (Wa.o c)) (show Value.bool (NQ x.2.1.1 x.2.1.2 (D.cuts Zj L) (p:Int))=.bool false by rw[Ma]) (PT.o c));clear OW Ma Rk Tr Db S2 r1 r2 r3 r4 Zl;go_wp2_with fail;refine OL Inv (by kernel_rfl) (by kernel_rfl) W6.o (λXq=>?_)
 repeat (any_goals (first|go_big_quiet_step ((first|(go_at_call 223;exact Bo.o _)|(go_at_call 224;exact U4.o _)))|quiet_step ((first|(go_at_call 223;exact Bo.o _)|(go_at_call 224;exact U4.o _)))))
 refine wpQuiet_nil ?_;rintro Xi ⟨q7,rfl⟩;have XM:=bx (Wa.o q7);clear q0 q1 q2 Xq
 go_wp2
 go_roundw
 ·exact⟨q+1,true,false,BF,by go_num,rfl,rfl,⟨.inr ⟨rfl,rfl,Mr.o,ZE.o⟩⟩,⟨IV PK.o XM.o⟩⟩
 simp[intOf];omega
end
section
attribute[local go_sem] Oper.semAt_some
def Td(t:Tab):Bool:=OI t.r t.m t.n&&F.aE t.p
structure Sr(t:Tab):Prop where
 p1:t.p.1.length<=100000
 p2:t.p.2.length<=100000
 p3:∀r∈t.p.2,r.length<=16777216
 r1:∀x∈t.r,Mv x
 r2:t.r.length<=16777216
 m:JV t.m
theorem vC(A:Nat->Addr)(B:Nat)(v:Value)(t:Tab)(w:World)(Z2:TabAt w v t)(Z0:Sr t)(XU:Ed A B w)(YN:Eg A B w)(hB:B<=w.heap.size):
  Calls prog 63 #[v] w λe w'=>e=.returned (.bool (Td t))/\Z6 w w':=by
 have VE:=bx (λW(h:Z6 w W)=>Z2.below h);obtain⟨pi,YM,Y2,Zo,Za,rfl,Z7,Z5,ZS,ZG,Zi⟩:=Z2;obtain⟨V,ZO⟩:∃V,V=w.alloc (.cells #[Z9 t.n,pi,YM,Y2,Zo,Za] 31):=⟨_,rfl⟩
 have ZR:=bx (aB ZO);have Ze:=bx (aK ZO);have ZF:=bx (λW(h:Z6 V W)=>Ze.o.d6 h);have ZN:=bx ZO;have Q6:=bx (aoa A B Y2 t.r (.agg #[Zo,Za]) t.m t.n Z1 [] V (ZS.below ZR.o) Z0.r1 Z0.r2 ⟨Zo,Za,rfl,ZG.below ZR.o,Zi.below ZR.o⟩ Z0.m .nil (by simp) (XU.below (ZR.o.mono hB)) (YN.below (ZR.o.mono hB)) (XJ hB ZR.o.size));have Su:=bx (λW(h:Z6 w W)=>uA (.agg #[pi,YM]) t.p W ⟨pi,YM,rfl,Z7.below h,Z5.below h⟩ Z0.p1 Z0.p2 Z0.p3);have Xt:=bx (show Td t=(OI t.r t.m t.n&&F.aE t.p)from rfl);obtain⟨n,ZP⟩:∃n,n=t.n:=⟨_,rfl⟩
 rw[<-ZP]at ZN Ze VE ZF Q6 Xt⊢;generalize Td t=res at Xt⊢;clear Z7 Z5 ZS ZG Zi ZO Z0 ZP XU YN hB;obtain⟨Zd,Zx,Zr,Zk,Zl,Zg,YS⟩:=ZF.o V YU
 go_in
 go_upto_region 1 with(fail)
 rw[<-ZN.o];go_wp2_with fail;refine Q6.o.mono ?_;rintro e ZV ⟨ZZ,⟨YZ,v1,rfl,-⟩|⟨YZ,rfl⟩⟩
 ·have ZW:=Zw ZR ZZ;have Su:=bx (Su.o ZV ZW.o);rw[YZ,Bool.true_and]at Xt;clear Zd Zx Zr Zk Zl Zg YS;obtain⟨Zd,Zx,Zr,Zk,Zl,Zg,YS⟩:=ZF.o ZV ZZ;clear ZZ YZ;go_wp2_with fail;refine X7 Su.o ZW.o λ_ Zt=>?_
  go_wp2
  go_ret
  exact⟨YG Xt.o.symm,Zt.o⟩
 have ZW:=Zw ZR ZZ;rw[YZ,Bool.false_and]at Xt;clear ZZ YZ Zd Zx Zr Zk Zl Zg YS
 go_wp2
 go_ret
 exact⟨YG Xt.o.symm,ZW.o⟩
theorem vI(v:Value)(t:Tab)(w:World)(Z2:TabAt w v t)(Z0:Sr t):
  Calls prog 66 #[v] w λe w'=>e=.returned (.bool (Td t))/\Z6 w w':=by
 have VE:=bx (λW(h:Z6 w W)=>Z2.below h);obtain⟨pi,YM,Y2,Zo,Za,rfl,Z7,Z5,ZS,ZG,Zi⟩:=Z2;obtain⟨V,ZO⟩:∃V,V=w.alloc (.cells #[Z9 t.n,pi,YM,Y2,Zo,Za] 31):=⟨_,rfl⟩
 have ZR:=bx (aB ZO);have Ze:=bx (aK ZO);have ZF:=bx (λW(h:Z6 V W)=>Ze.o.d6 h);have ZN:=bx ZO;have Q6:=bx (gW Y2 t.r (.agg #[Zo,Za]) t.m t.n Z1 [] V (ZS.below ZR.o) Z0.r1 Z0.r2 ⟨Zo,Za,rfl,ZG.below ZR.o,Zi.below ZR.o⟩ Z0.m .nil (by simp));have Su:=bx (λW(h:Z6 w W)=>rU (.agg #[pi,YM]) t.p W ⟨pi,YM,rfl,Z7.below h,Z5.below h⟩ Z0.p1 Z0.p2);have Xt:=bx (show Td t=(OI t.r t.m t.n&&F.aE t.p)from rfl);obtain⟨n,ZP⟩:∃n,n=t.n:=⟨_,rfl⟩
 rw[<-ZP]at ZN Ze VE ZF Q6 Xt⊢;generalize Td t=res at Xt⊢;clear Z7 Z5 ZS ZG Zi ZO Z0 ZP;obtain⟨Zd,Zx,Zr,Zk,Zl,Zg,YS⟩:=ZF.o V YU
 go_in
 go_upto_region 1 with(fail)
 rw[<-ZN.o];go_wp2_with fail;refine Q6.o.mono ?_;rintro e ZV ⟨ZZ,⟨YZ,v1,rfl,-⟩|⟨YZ,rfl⟩⟩
 ·have ZW:=Zw ZR ZZ;have Su:=bx (Su.o ZV ZW.o);rw[YZ,Bool.true_and]at Xt;clear Zd Zx Zr Zk Zl Zg YS;obtain⟨Zd,Zx,Zr,Zk,Zl,Zg,YS⟩:=ZF.o ZV ZZ;clear ZZ YZ;go_wp2_with fail;refine X7 Su.o ZW.o λ_ Zt=>?_
  go_wp2
  go_ret
  exact⟨YG Xt.o.symm,Zt.o⟩
 have ZW:=Zw ZR ZZ;rw[YZ,Bool.false_and]at Xt;clear ZZ YZ Zd Zx Zr Zk Zl Zg YS
 go_wp2
 go_ret
 exact⟨YG Xt.o.symm,ZW.o⟩
end
section
open Go.ChangeShapes Go.WideShapes Go.Deep
section
variable {H:Type} {enc:TypeId×Value->H} {W:World}
theorem anK{fuel:Nat}{cs:List Value}{x:DataW H×List MemPlace}(h:DataW.trod enc prog W 0 (λ_=>true) true fuel 272 cs=some x):
  ∃(y:QP),cs=UR (Tl y)/\Y6 W y.2 y.1.2:=by
 obtain⟨RN,Vy,n,rfl,hl,ZI,Z7⟩:=trod_struct2 underlying272 h;have Ni:cs.length=2:=hl.trans (by rfl)
 match cs,Ni with
 |[YV,c1],_=>
  obtain⟨k,Wz,_⟩:=DataW.trod_int underlying3 ZI;obtain⟨l,agy⟩:=sf (v:=c1) underlying22 underlying3 (by rfl) Z7;have Dl:[YV]=[Z9 k]:=Wz;simp only[QE,and_true]at Dl;subst Dl;exact⟨((k,l),c1),rfl,agy⟩
theorem NR.open{fuel:Nat}{v:Value}{x:DataW H×List MemPlace}(h:DataW.trod enc prog W 0 (λ_=>true) true fuel 34 [v]=some x):∃l,NR W v l:=by
 have ce:prog.cellsOf 272=2:=by rfl
 rcases open_slice underlying34 h with⟨Z7,_⟩|⟨a,len,ZU,m,n,jq,iy,Z7,_,Z5,ZS,ZG,_,Zi⟩
 ·simp only[QE,and_true]at Z7;exact⟨[],[],rfl,.inl ⟨Z7,rfl⟩,λy ZJ=>absurd ZJ RH⟩
 simp only[QE,and_true]at Z7;subst Z7;simp only[if_true]at ZG;subst ZG;rw[ce]at Zi;have key:∀i,i<m->∃q:QP,(∀j u,(UR (Tl q))[j]?=some u->W.cell? ((a.add (i*2)).add j)=some u)/\Y6 W q.2 q.1.2:=by
  intro i hi;obtain⟨cs',Yu,VV⟩:=Zi i hi;obtain⟨_,Ty,aga⟩:=World.cells?_some Yu;obtain⟨y,rfl,Vz⟩:=anK VV;grind
 obtain⟨q,Zs⟩:=choose_lt key;obtain⟨b,off,sp⟩:=a;have Ty:((((List.range len).map q).map Tl).map UR).length=len:=by simp
 refine⟨_,(List.range len).map q,rfl,.inr ⟨b,off,sp,m,by simp,by omega,ZS,λ_=>?_⟩,λy ZJ=>?_⟩
 ·have ZI:0<len:=by
   grind
  have Vl:=(Zs 0 (by omega)).1 0 _ rfl;have WF:sp=none:=World.cell?_spot (a:=((⟨b,off,sp⟩:Addr).add (0*2)).add 0) Vl;subst WF;refine⟨rfl,World.block_lt_of_cell? _ _ Vl,λi _ ZL j u _=>?_⟩;rw[RX,RX,RX]at ZL;obtain⟨p,hp,rfl⟩:=NU.1 ZL;obtain⟨y,ZJ,rfl⟩:=NU.1 hp;obtain⟨k,Z3,rfl⟩:=NU.1 ZJ;obtain⟨hi,rfl⟩:=R7 Z3;simp only[Bz]at hi;grind[addr_add]
 grind
theorem qv{fuel:Nat}{cs:List Value}{x:DataW H×List MemPlace}(h:DataW.trod enc prog W 0 (λ_=>true) true fuel 25 cs=some x):
  ∃(a b:Value)(t:F.Trie),cs=[a,b]/\Y6 W a t.1/\TF W b t.2:=by
 obtain⟨RN,Vy,n,rfl,hl,ZI,Z7⟩:=trod_struct2 underlying25 h;have Ni:cs.length=2:=hl.trans (by rfl)
 match cs,Ni with
 |[YV,c1],_=>
  obtain⟨S4,LH⟩:=sf (v:=YV) underlying22 underlying3 (by rfl) ZI;obtain⟨Om,Sv⟩:=TF.open (v:=c1) Z7;exact⟨YV,c1,(S4,Om),rfl,LH,Sv⟩
theorem atW{fuel:Nat}{cs:List Value}{x:DataW H×List MemPlace}(h:DataW.trod enc prog W 0 (λ_=>true) true fuel 29 cs=some x):
  ∃(a b:Value)(M:D.ao),cs=[a,b]/\TF W a M.1/\Y6 W b M.2:=by
 obtain⟨RN,Vy,n,rfl,hl,ZI,Z7⟩:=trod_struct2 underlying29 h;have Ni:cs.length=2:=hl.trans (by rfl)
 match cs,Ni with
 |[YV,c1],_=>
  obtain⟨S4,LH⟩:=TF.open (v:=YV) ZI;obtain⟨Om,Sv⟩:=sf (v:=c1) underlying27 underlying2 (by rfl) Z7;exact⟨YV,c1,(S4,Om),rfl,LH,Sv⟩
theorem afi{α:Type}{l:List α}(h:l.length=6):∃a b c d e f,l=[a,b,c,d,e,f]:=by
 match l,h with
 |[a,b,c,d,e,f],_=>simp
