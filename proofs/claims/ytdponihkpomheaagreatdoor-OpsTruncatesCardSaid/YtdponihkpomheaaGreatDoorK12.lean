/- Texts of this claim. -/
import Derived.Laws.IdiomRangeMap
import Derived.Test.YtdponihkpomheaaGreatDoorK11

set_option maxHeartbeats 8000000
set_option maxRecDepth 100000
namespace Go.Proofs.YtdponihkpomheaaGreatDoor
open Go.RowKit
open Tryz
def inB(L:Nat)(f:Int):Bool:=decide (f<2^L)
theorem div_pow(q L:Nat):((q:Int)/2^L==0)=inB L (q:Int):=by
 unfold inB;rw[show(2:Int)^L=((2^L:Nat):Int) by simp,Lx,Lz,decide_eq_true_iff];have hp:=Nat.two_pow_pos L
 constructor
 ·intro h;have Z7:((q/2^L:Nat):Int)=0:=by omega
  have Z5:q/2^L=0:=by omega
  have:=(Nat.div_eq_zero_iff_lt hp).1 Z5;omega
 intro h;have Z5:q<2^L:=by omega
 have:=Nat.div_eq_of_lt Z5;omega
theorem atO(q:Nat)(_:q<1099511627776)(TD:Nat)(U7:Option Addr)(L V5:Nat)(WE:L<=40)(w:World)(ZL:w.cell? ⟨TD,0,none⟩=some (.slice U7 L V5))(_:TD<w.heap.size):
  Calls prog 274 #[Z9 q,Zn TD] w λe w'=>e=.returned (.bool (!inB L q))/\w=w':=by
 have Xf:=bx (div_pow q L)
 go_in
 go_wp2
 go_ret
 refine⟨YG ?_,rfl⟩;rw[<-Xf.o];rfl
theorem aof(v:Value)(xs:List Int)(Z4:∀x∈xs,0<=x/\x<1099511627776)(TD:Nat)(U7:Option Addr)(L V5:Nat)(WE:L<=40)(w:World)(Z2:Y6 w v xs)(ZY:xs.length<=16777216)(ZL:w.cell? ⟨TD,0,none⟩=some (.slice U7 L V5))(Zu:TD<w.heap.size):
  Calls prog 307 #[v,.func (.func 274) #[] #[Zn TD]] w λe w'=>(∃i:Int,e=.returned (Z9 i)/\decide (0<=i)=!xs.all (inB L))/\w=w':=by
 have Qv:=bx Z2;obtain⟨XH,ZU,rfl⟩:=Z2.slice;have X9:=bx (λt ZM=>atO t ZM TD U7 L V5 WE w ZL Zu);have Lr:=bx Z4;clear Z2 ZL Z4
 go_in
 go_wp2
 go_loop[8] (λi=>∃k:Nat,k<=xs.length/\i=Z9 k/\Box ((xs.take k).all (inB L)=true)) (λi=>xs.length-(intOf i).toNat)
 ·exact⟨0,by omega,rfl,⟨rfl⟩⟩
 obtain⟨k,Z3,rfl,YZ⟩:=hrel
 by_cases Uf:k<xs.length
 ·obtain⟨x,Z4⟩:∃x,xs[k]?=some x:=⟨_,SA Uf⟩
  obtain⟨g,off,XV,Y5,XL,Yi,XB,YX⟩:=Qv.o.get (by grind);obtain⟨rfl,rfl⟩:=XN Y5;obtain⟨Ws,XX⟩:=Lr.o x (Xh Z4);obtain⟨q,rfl⟩:=PY Ws;have Zs:q<1099511627776:=by omega
  have UT:=YX k _ Z4;have YD:=bx Z4;unfold maxLen at Yi;clear Z4 Y5 YX Ws XX
  cases hi:inB L (q:Int)with
  |true=>
   have Y8:=bx (show(xs.take (k+1)).all (inB L)=true by rw[Uo,YD.o,List.all_append,YZ.o];simp[hi]);have YE:=bx (show(!inB L (q:Int))=false by grind);clear hi;go_wp2_with fail;refine YW (X9.o q Zs) ?_;rw[YE.o];go_wp2_with fail
   go_round
   ·exact⟨k+1,Uf,by go_num,Y8⟩
   grind[intOf]
  |false=>
   have Y8:=bx (show xs.all (inB L)=false by
    rw[Bool.eq_false_iff];intro h;rw[QG]at h;rw[h _ (Xh YD.o)]at hi
    cases hi)
   have YE:=bx (show(!inB L (q:Int))=true by grind);clear hi;go_wp2_with fail;refine YW (X9.o q Zs) ?_;rw[YE.o]
   go_wp2
   go_ret
   exact⟨⟨k,rfl,by rw[Y8.o];simp⟩,rfl⟩
 have Y8:=bx (show xs.all (inB L)=true by have:=YZ.o;grind)
 go_wp2
 go_ret
 exact⟨⟨-1,rfl,by rw[Y8.o];rfl⟩,rfl⟩
theorem apU(v:Value)(xs:List Int)(Z4:∀x∈xs,0<=x/\x<1099511627776)(TD:Nat)(U7:Option Addr)(L V5:Nat)(WE:L<=40)(w:World)(Z2:Y6 w v xs)(ZY:xs.length<=16777216)(ZL:w.cell? ⟨TD,0,none⟩=some (.slice U7 L V5))(Zu:TD<w.heap.size):
  Calls prog 273 #[v,.func (.func 274) #[] #[Zn TD]] w λe w'=>e=.returned (.bool (!xs.all (inB L)))/\w=w':=by
 have YE:=bx (aof v xs Z4 TD U7 L V5 WE w Z2 ZY ZL Zu);clear Z2 ZL Z4
 go_in
 go_wp2_with fail;refine YE.o.mono ?_;rintro e ZV ⟨⟨i,rfl,hi⟩,rfl⟩;have YD:=bx hi;clear hi
 go_wp2
 go_ret
 exact⟨YG (by simpa using YD.o),rfl⟩
theorem hx(v:Value)(xs:List Int)(Z4:∀x∈xs,0<=x/\x<1099511627776)(U7:Option Addr)(L V5:Nat)(WE:L<=40)(w:World)(Z2:Y6 w v xs)(ZY:xs.length<=16777216):
  Calls prog 208 #[v,.slice U7 L V5] w λe w'=>e=.returned (.bool (xs.all (inB L)))/\Z6 w w':=by
 obtain⟨W,Yj⟩:∃W,W=w.alloc (.cells #[.slice U7 L V5] 26):=⟨_,rfl⟩
 have Ou:Z6 w W:=by rw[Yj];exact Xl w _
 have XY:Zv W w.heap.size 26 #[.slice U7 L V5]:=by rw[Yj];exact Zv.new _ _ _
 have Yq:=bx (apU v xs Z4 w.heap.size U7 L V5 WE W (Z2.below Ou) ZY (XY.q0) XY.lt);have TW:=bx Yj;have V3:=bx Ou;obtain⟨XH,ZU,rfl⟩:=Z2.slice;clear Z2 Z4 Yj Ou XY
 go_in
 go_wp2_with fail;rw[<-TW.o];refine YW Yq.o ?_
 go_wp2
 go_ret
 exact⟨YG (by simp),V3.o⟩
theorem Li{P:Program}{f:FuncId}{args:Array Value}{v Zy:Value}{W:World}{Inv:World->Prop}(h:Calls P f args W λe w'=>e=.returned v/\Z6 W w')(Z2:v=Zy)(UW:∀w',Z6 W w'->Inv w'):
  Calls P f args W λe Ep=>e=.returned Zy/\∃m:CW Inv,Ep=m.w:=Z2▸Kw h UW
theorem su{R:List D.Rule}{ks:List Int}{f:Nat}{p:Int}{k:Nat}{x:D.Rule}(Z4:R[k]?=some x)(h:f.testBit k=false\/NQ x.2.1.1 x.2.1.2 ks p=false):G.hit R ks f p k=false:=by
 grind[G.hit]
theorem afl{R:List D.Rule}{ks:List Int}{f:Nat}{p:Int}{k:Nat}{x:D.Rule}(Z4:R[k]?=some x)(h:f.testBit k=true)(Z5:NQ x.2.1.1 x.2.1.2 ks p=true):G.hit R ks f p k=true:=by
 grind[G.hit]
theorem aqA(YQ:Nat)(Zo Za Y2 Zc:Value)(R:List D.Rule)(ks:List Int)(p:Int)(f:Nat)(w:World)(hC:Zv w YQ 291 #[Zo,Za,Y2,Zc])(WS:TQ w Y2 R)(WE:Y6 w Zc ks)(Yz:∀x∈R,Mv x)(Iq:ks.length<=900)(TL:f<1099511627776)(azY:R.length<=40):
  Calls prog 212 #[Zn YQ,Z9 p,Z9 f] w λe w'=>e=.returned (.bool (G.c0 R ks f p))/\Z6 w w':=by
 have Yq:=bx hC;have ZK:=bx WS;have W4:=bx WE;have Yt:=bx Yz;have V9:=hC.lt;obtain⟨ro,rc,rfl⟩:=WS.slice;have YV:=hC.q2;clear hC WS WE Yz
 go_in
 go_wp2_with fail
 go_loopw[14] (λi wr=>∃k:Nat,k<=R.length/\i=Z9 k/\Box (∀i,i<k->G.hit R ks f p i=false)/\Box (Z6 w wr)) (λi _=>R.length-(intOf i).toNat)
 ·exact⟨0,OQ _,rfl,⟨λi hi=>by omega⟩,⟨Below.refl _ _⟩⟩
 obtain⟨k,Z3,rfl,XF,Z8⟩:=hrel;clear YV
 by_cases Zu:k<R.length
 ·obtain⟨x,Z4⟩:=Yg R k Zu;obtain⟨g,off,ZU,Zx,Zr,Zk,Zl,Zg⟩:=(ZK.o.below Z8.o).get (by grind);obtain⟨rfl,rfl⟩:=XN Zx;obtain⟨Vj,Ym,S2,r1,r2,r3,r4,QI,N7⟩:=Zg k x Z4;obtain⟨x8,acl,rfl⟩:=QI.slice;obtain⟨Dq,s9,rfl⟩:=N7.slice;have BN:=(Yt.o x (Xh Z4)).2;obtain⟨V,ZO⟩:∃V,V=wr.alloc (.cells #[.bool x.1.1,(.slice x8 x.1.2.length acl),.bool x.2.1.1,(.slice Dq x.2.1.2.length s9),.bool x.2.2] 254):=⟨_,rfl⟩
  have yE:Z6 wr V:=by rw[ZO];exact Xl wr _
  have WH:=bx (aK ZO);have Wj:=bx (bt Z8.o yE);have GP:=bx (λ(W:World)(h:Z6 V W)=>ajs x.2.1.1 (.slice Dq x.2.1.2.length s9) x.2.1.2 Zc ks p W ((N7.below yE).below h) BN ((W4.o.below Wj.o).below h) Iq);have YD:=bx Z4;have ZM:=acq f k (by omega);have RA:=bx (show G.hit R ks f p k=false->∀i,i<k+1->G.hit R ks f p i=false from λh i hi=>by
   rcases SM i k with Z7|Z7
   ·exact XF.o i Z7
   grind)
  have ky:=Yq.o.below Wj.o V9;have sn:=ky.q3;have Xd:=WH.o.q2;have Wk:=WH.o.q3;have KJ:=bx ZO;have TJ:=bx ky.lt;have aft:k<40:=by omega
  unfold maxLen at Zk;clear Zx Zg Z4 QI N7 ZO yE ky
  cases OW:f.testBit k with
  |false=>
   have ZE:=bx (RA.o (su YD.o (.inl OW)));have W6:=bx (λm=>Wj.o.trans ((below_drewN (Below.refl V.heap.size V) m).mono Wj.o.size));rw[OW]at ZM;clear OW
   go_upto_region 4 with(fail)
   rw[<-KJ.o]
   go_quiet (fail)
   go_wp2
   go_roundw
   ·exact⟨k+1,Zu,by go_num,ZE,⟨W6.o _⟩⟩
   grind[intOf]
  |true=>
   rw[OW]at ZM
   cases Ma:NQ x.2.1.1 x.2.1.2 ks p with
   |false=>
    have ZE:=bx (RA.o (su YD.o (.inr Ma)));obtain⟨Inv,Rk,Tr⟩:∃Inv:World->Prop,(∀W,Inv W->Z6 V W)/\(∀W,Z6 V W->Inv W):=⟨_,λ_ h=>h,λ_ h=>h⟩
    have Wa:=bx (show∀q:CW Inv,Z6 V q.w from λq=>Rk _ q.h);have PT:=bx (show∀(q:CW Inv) w',Below q.w.heap.size q.w w'->Inv w' from λq w' h=>Tr _ ((Wa.o q).trans (h.mono (Wa.o q).size)));have q0:=λq=>((Wa.o q).cell (p:=⟨YQ,3,none⟩) TJ.o).trans sn
    have q1:=λq=>((Wa.o q).cell (p:=⟨wr.heap.size,2,none⟩) WH.o.lt).trans Xd
    have q2:=λq=>((Wa.o q).cell (p:=⟨wr.heap.size,3,none⟩) WH.o.lt).trans Wk
    have U4:=bx (λq:CW Inv=>Li (GP.o q.w (Wa.o q)) (show Value.bool (NQ x.2.1.1 x.2.1.2 ks p)=.bool false by rw[Ma]) (PT.o q));have W6:=bx (Tr _ (VQ V 1));clear OW Ma Rk Tr
    go_upto_region 4 with(fail)
    rw[<-KJ.o];clear sn Xd Wk;refine OL Inv (by rfl) (by kernel_rfl) W6.o (λXq=>?_)
    repeat (any_goals (first|go_big_quiet_step ((go_at_call 278;exact U4.o _))|quiet_step ((go_at_call 278;exact U4.o _))))
    refine wpQuiet_nil ?_;rintro Xi ⟨q7,rfl⟩;have XM:=bx (Wj.o.trans ((Wa.o q7).mono Wj.o.size));clear q0 q1 q2 Xq
    go_wp2
    go_roundw
    ·exact⟨k+1,Zu,by go_num,ZE,XM⟩
    grind[intOf]
   |true=>
    have ZE:=bx (G.aaw YD.o (afl YD.o OW Ma) XF.o);obtain⟨Inv,Rk,Tr⟩:∃Inv:World->Prop,(∀W,Inv W->Z6 V W)/\(∀W,Z6 V W->Inv W):=⟨_,λ_ h=>h,λ_ h=>h⟩
    have Wa:=bx (show∀q:CW Inv,Z6 V q.w from λq=>Rk _ q.h);have PT:=bx (show∀(q:CW Inv) w',Below q.w.heap.size q.w w'->Inv w' from λq w' h=>Tr _ ((Wa.o q).trans (h.mono (Wa.o q).size)));have q0:=λq=>((Wa.o q).cell (p:=⟨YQ,3,none⟩) TJ.o).trans sn
    have q1:=λq=>((Wa.o q).cell (p:=⟨wr.heap.size,2,none⟩) WH.o.lt).trans Xd
    have q2:=λq=>((Wa.o q).cell (p:=⟨wr.heap.size,3,none⟩) WH.o.lt).trans Wk
    have U4:=bx (λq:CW Inv=>Li (GP.o q.w (Wa.o q)) (show Value.bool (NQ x.2.1.1 x.2.1.2 ks p)=.bool true by rw[Ma]) (PT.o q));have W6:=bx (Tr _ (VQ V 1));clear OW Ma Rk Tr
    go_upto_region 4 with(fail)
    rw[<-KJ.o];clear sn Xd Wk;refine OL Inv (by rfl) (by kernel_rfl) W6.o (λXq=>?_)
    repeat (any_goals (first|go_big_quiet_step ((go_at_call 278;exact U4.o _))|quiet_step ((go_at_call 278;exact U4.o _))))
    refine wpQuiet_nil ?_;rintro Xi ⟨q7,rfl⟩;have XM:=bx (Wj.o.trans ((Wa.o q7).mono Wj.o.size));have UY:q7.w.cell? ⟨wr.heap.size,4,none⟩=some (.bool x.2.2):=((Wa.o q7).cell (p:=⟨wr.heap.size,4,none⟩) WH.o.lt).trans (WH.o.q4);clear q0 q1 q2 Xq
    go_wp2
    go_ret
    exact⟨YG ZE.o.symm,XM.o⟩
 have ZE:=bx (G.ae6 (R:=R) (ks:=ks) (f:=f) (p:=p) (λi hi=>XF.o i (by omega)))
 go_wp2
 go_ret
 exact⟨YG ZE.o.symm,Z8.o⟩
section
attribute[local go_sem] Oper.semAt_some
def Ue(x:F.ag):List Value:=[Z9 x.1,Z9 x.2.1,Z9 x.2.2]
def RT(w:World)(v:Value)(l:List F.ag):Prop:=OD 3 w v (l.map Ue)
theorem RT.below{w w':World}{v:Value}{l:List F.ag}(h:RT w v l)(Z8:Z6 w w'):RT w' v l:=OD.below h Z8
theorem RT.slice{w:World}{v:Value}{l:List F.ag}(h:RT w v l):∃a ZU,v=.slice a l.length ZU/\l.length<=ZU/\ZU<=9223372036854775807:=by
 have:=OD.slice h
 grind
theorem RT.get{w:World}{v:Value}{l:List F.ag}(h:RT w v l)(ZP:l≠[]):
  ∃b off ZU,v=.slice (some ⟨b,off,none⟩) l.length ZU/\l.length<=ZU/\ZU<=maxLen/\b<w.heap.size/\∀i x,l[i]?=some x->w.cell? ⟨b,off+i*3,none⟩=some (Z9 x.1)/\w.cell? ⟨b,off+i*3+1,none⟩=some (Z9 x.2.1)/\w.cell? ⟨b,off+i*3+2,none⟩=some (Z9 x.2.2):=by
 obtain⟨b,off,ZU,Z7,Z5,ZS,ZG,Zi⟩:=OD.get h (by simp_all);rw[X4]at Z7 Z5;refine⟨b,off,ZU,Z7,Z5,ZS,ZG,λi x Z4=>?_⟩;have ZL:(l.map Ue)[i]?=some (Ue x):=by grind
 exact⟨Zi i _ ZL 0 _ rfl,Zi i _ ZL 1 _ rfl,Zi i _ ZL 2 _ rfl⟩
theorem RT.au{w:World}{base n:Nat}{T:TypeId}{v:Value}{l:List F.ag}(h:w.ownsRow base T 3 v n (l.flatMap Ue))(ZP:n=l.length):RT w v l:=by
 rw[qK]at h;exact OD.au h (by grind) (λc ZL=>by obtain⟨y,-,rfl⟩:=SL.1 ZL;rfl)
theorem aey(x:F.ag)(w:World):Calls prog 255 #[.agg #[Z9 x.1,Z9 x.2.1,Z9 x.2.2]] w λe w'=>e=.returned (.bool (F.cW x))/\Z6 w w':=by
 obtain⟨a,b,c⟩:=x;unfold F.cW;simp only;have Z8:Z6 w (w.alloc (.cells #[Z9 a,Z9 b,Z9 c] 245)):=YU.alloc Ys _;have V3:=bx Z8;clear Z8
 go_in
 go_wp2_with fail
 all_goals go_returns
 all_goals exact⟨YG (by grind),V3.o⟩
theorem abn(v:Value)(l:List F.ag)(w:World)(Z2:RT w v l)(YB:F.bB l=true):
  Calls prog 188 #[v] w λe w'=>e=.returned (.bool true)/\Z6 w w':=by
 unfold F.bB at YB;rw[Vm,SS,QG]at YB;obtain⟨S9,mH⟩:=YB;have RR:=bx S9;have ZN:=bx Z2;obtain⟨a,ZU,rfl,W2,VM⟩:=Z2.slice;clear Z2 S9
 go_in
 go_wp2_with fail
 go_loopw[3] (λi wr=>∃k:Nat,k<=l.length/\i=Z9 k/\Box (Z6 w wr)) (λi _=>l.length-(intOf i).toNat)
 ·exact⟨0,by omega,rfl,⟨Below.refl _ _⟩⟩
 obtain⟨k,Z3,rfl,Z8⟩:=hrel
 by_cases Zu:k<l.length
 ·have zS:=RR.o k (Ly.2 Zu);obtain⟨x,Z4⟩:=Yg l k Zu;have Uz:l.getD k (0,0,0)=x:=by grind
  rw[Uz,Vm,Bool.or_eq_true,SS,SS]at zS;obtain⟨ZT,T8⟩:=zS;obtain⟨g,off,XV,Y5,XL,Yi,XB,YX⟩:=(ZN.o.below Z8.o).get (by grind);obtain⟨rfl,rfl⟩:=XN Y5;obtain⟨Ws,XX,V2⟩:=YX k x Z4;have KC:=bx (λW=>aey x W);rw[ZT]at KC;have O9:=bx T8;obtain⟨Inv,Rk,Tr⟩:∃Inv:World->Prop,(∀W,Inv W->Z6 wr W)/\(∀W,Z6 wr W->Inv W):=⟨_,λ_ h=>h,λ_ h=>h⟩
  have Wa:=bx (show∀q:CW Inv,Z6 wr q.w from λq=>Rk _ q.h);have PT:=bx (show∀(q:CW Inv) w',Below q.w.heap.size q.w w'->Inv w' from λq w' h=>Tr _ ((Wa.o q).trans (h.mono (Wa.o q).size)));have q0:=λq=>((Wa.o q).cell (p:=⟨g,off+k*3,none⟩) XB).trans Ws
  have q1:=λq=>((Wa.o q).cell (p:=⟨g,off+k*3+1,none⟩) XB).trans XX
  have q2:=λq=>((Wa.o q).cell (p:=⟨g,off+k*3+2,none⟩) XB).trans V2
  have U4:=bx (λq:CW Inv=>Li (KC.o q.w) rfl (PT.o q));have W6:=bx (Tr _ (VQ wr 1));unfold maxLen at Yi
  rcases Bx k with ZI|ZI
  ·have Wz:decide (0<k)=false:=Yp (by omega);clear Z4 Uz ZT T8 Y5 YX Ws XX V2 Rk Tr ZI;go_wp2_with fail;refine OL Inv (by rfl) (by kernel_rfl) W6.o (λXq=>?_)
   repeat (any_goals (first|go_big_quiet_step ((go_at_call 255;exact U4.o _))|quiet_step ((go_at_call 255;exact U4.o _))))
   refine wpQuiet_nil ?_;rintro Xi ⟨q7,rfl⟩;have XM:=bx (Z8.o.trans ((Wa.o q7).mono Z8.o.size));clear q0 q1 q2 Xq
   go_wp2
   go_roundw
   ·exact⟨k+1,Zu,by go_num,XM⟩
   grind[intOf]
  obtain⟨y,ZJ⟩:=Yg l (k-1) (by omega);have w9:l.getD (k-1) (0,0,0)=y:=by grind
  have Hm:y.2.1<x.1:=by
   grind
  obtain⟨RN,Vy,TX⟩:=YX (k-1) y ZJ;have q3:=λq=>((Wa.o q).cell (p:=⟨g,off+(k-1)*3+1,none⟩) XB).trans Vy
  have Wz:decide (0<k)=true:=Yh (by omega);have Zq:decide (x.1<=y.2.1)=false:=Yp (by omega);have i0:(0:Int)<=(k:Int)-1:=by omega
  have i1:(k:Int)-1<(l.length:Int):=by omega
  have i2:((k:Int)-1).toNat=k-1:=by omega
  clear Z4 Uz ZT T8 Y5 YX Ws XX V2 Rk Tr ZJ w9 RN Vy TX;go_wp2_with fail;refine OL Inv (by rfl) (by kernel_rfl) W6.o (λXq=>?_)
  repeat (any_goals (first|go_big_quiet_step ((go_at_call 255;exact U4.o _))|quiet_step ((go_at_call 255;exact U4.o _))))
  refine wpQuiet_nil ?_;rintro Xi ⟨q7,rfl⟩;have XM:=bx (Z8.o.trans ((Wa.o q7).mono Z8.o.size));clear q0 q1 q2 q3 Xq
  go_wp2
  go_roundw
  ·exact⟨k+1,Zu,by go_num,XM⟩
  grind[intOf]
 have TZ:=bx Z8.o
 go_wp2
 go_ret
 exact⟨YG (Yh (by omega)),TZ.o⟩
theorem amr{w:World}{base n s:Nat}{e:TypeId}{v:Value}{xs:List Value}(h:w.ownsRow base e s v n xs){g:Nat}(ZH:v.ownBlock=some g)(i:Nat)(hi:i<n*s)(u:Value):(w.setCell ⟨g,i,none⟩ u).ownsRow base e s v n (xs.set i u):=by
 refine⟨by rw[List.length_set];exact h.1,?_⟩
 rcases h.2 with⟨-,ZI⟩|⟨Ui,ZU,VY,rfl,Z5,ZS,ZG,Zi,Yu,VV⟩
 ·grind
 simp[Value.ownBlock]at ZH;subst ZH;refine .inr ⟨Ui,ZU,VY.setIfInBounds i u,rfl,Z5,Zv.ai (w:=w) (t:=e) ZS i u,ZG,Zi,by grind,?_⟩;rw[Array.toList_setIfInBounds,<-VV];generalize n*s=m at hi
 apply List.ext_getElem?
 grind
theorem Sep.alf{W:World}{ps:List Pc}(h:Sep ps W)(k:Nat){base n s:Nat}{e:TypeId}{v:Value}{xs:List Value}(Z3:ps[k]?=some (Pc.row base e s v n xs)){g:Nat}(ZH:v.ownBlock=some g)(i:Nat)(hi:i<n*s)(u:Value):
  Sep (ps.set k (Pc.row base e s v n (xs.set i u))) (W.setCell ⟨g,i,none⟩ u):=
 h.upd (own:=λq=>q=g) k Z3 (Turns.setCell (own:=λq=>q=g) W (p:=⟨g,i,none⟩) rfl u) (λq Zs _=>by subst Zs;exact ZH) (amr (h.row k Z3) ZH i hi u) (λq Zs=>.inl Zs)
theorem aoB{w:World}{base n s:Nat}{e:TypeId}{v:Value}{xs:List Value}(h:w.ownsRow base e s v n xs)(ZP:0<n):∃(g ZU:Nat)(VY:Array Value),v=.slice (some ⟨g,0,none⟩) n ZU/\base<=g/\n<=ZU/\ZU<=9223372036854775807/\Zv w g e VY/\∀(i:Nat)(x:Value),xs[i]?=some x->VY[i]?=some x:=by
 rcases h.2 with⟨-,ZI⟩|⟨g,ZU,VY,rfl,Z5,ZS,ZG,Zi,Yu,VV⟩
 ·omega
 refine⟨g,ZU,VY,rfl,Z5,ZG,by grind[maxLen],ZS,λi x Z4=>?_⟩;grind
theorem Gv:ID prog 164 245 3 24:=.mk' (z:=.agg #[Z9 0,Z9 0,Z9 0]) underlying164 (by rfl) rfl
theorem DL(l:List F.ag):(l.flatMap Ue).length=l.length*3:=by
 induction l with
 |nil=>rfl
 |cons x t XZ=>rw[I3,WR,XZ,U3];grind[Ue]
theorem lz(r:List F.ag)(y:F.ag)(j:Nat)(YO:j<3):((r++[y]).flatMap Ue)[r.length*3+j]?=(Ue y)[j]?:=by
 rw[Hi,List.flatMap_singleton,Fz (by rw[DL];omega),DL]
 simp
theorem avl(r:List F.ag)(y:F.ag)(u:Int):((r++[y]).flatMap Ue).set (r.length*3+1) (Z9 u)=(r++[(y.1,u,y.2.2)]).flatMap Ue:=by
 rw[Hi,Hi,List.flatMap_singleton,List.flatMap_singleton,List.set_append,Y4 (by rw[DL];omega),DL,show r.length*3+1-r.length*3=1 by omega]
 rfl
theorem aoP{ps:List Pc}(i:Nat)(base:Nat)(v:Value)(l:List F.ag)(x:F.ag)(w:World)(hS:Sep ps w)(hi:ps[i]?=some (Pc.row base 245 3 v l.length (l.flatMap Ue)))(ZY:l.length<=100000)(hl:∀y∈l,0<=y.2.1/\y.2.1<=1114111)(K8:base<=w.heap.size):
  Calls prog 257 #[v,.agg #[Z9 x.1,Z9 x.2.1,Z9 x.2.2]] w λe w'=>∃Zy,e=.returned Zy/\Sep (ps.set i (Pc.row base 245 3 Zy (F.cf l x).length ((F.cf l x).flatMap Ue))) w':=by
 obtain⟨a,b,c⟩:=x;obtain⟨V,ZO⟩:∃V,V=w.alloc (.cells #[Z9 a,Z9 b,Z9 c] 245):=⟨_,rfl⟩
 have jT:V.heap.size=w.heap.size+1:=by rw[ZO];simp
 have vy:Sep (Pc.blk w.heap.size 245 #[Z9 a,Z9 b,Z9 c]::ps) V:=by rw[ZO];exact hS.ak _ _
 have XY:=vy.blk 0 rfl;have YV:=XY.q0;have c1:=XY.q1;have c2:=XY.q2;have YJ:=XY.lt;have Ks:=bx vy;have ZN:=bx ZO;have YE:=bx hi;have WP:base<=V.heap.size:=by omega
 -- one more behind them
 have ayB:=bx (show∀W,Sep (Pc.blk w.heap.size 245 #[Z9 a,Z9 b,Z9 c]::ps) W->Sep ps W from λW h=>h.tail)
 rcases List.eq_nil_or_concat l with rfl|⟨r,y,rfl⟩
 ·have WO:=bx (show F.cf [] (a,b,c)=[(a,b,c)]from rfl);obtain⟨UP,Wr,rfl,-,-⟩:=UG (hS.row i hi);have YE:=bx (show(Pc.blk w.heap.size 245 #[Z9 a,Z9 b,Z9 c]::ps)[i+1]?=some (Pc.row base 245 3 (.slice UP 0 Wr) 0 [])from hi);rw[SK];clear hS hi ZO vy XY hl
  go_in
  go_upto_region 1 with(fail)
  rw[<-ZN.o];go_wp2_with fail
  go_quiet (fail)
  have Ls:=bx (Ks.o.drewN nq);have uj:base<=(V.drewN nq).heap.size:=WP;have wA:=bx (show(V.drewN nq).heap.size=w.heap.size+1 from jT);go_wp2_with (at_builtin;refine GK (cs:=Ue (a,b,c)) rfl _ _ 164 rfl Gv (by decide) Ls.o (i+1) YE.o rfl (by rw[wA.o];rfl) rfl (by intro u hu;simp only[Ue,T7,RH,or_false]at hu;rcases hu with rfl|rfl|rfl <;> rfl) (by omega) (by omega) uj ?_;rintro Zy XA WC ⟨go',TV,rfl,-,-⟩)
  have WQ:=bx WC;clear WC
  go_wp2
  go_ret
  refine⟨_,rfl,?_⟩;have Vz:=WQ.o.tail;rw[WO.o]
  simp_all
 rw[List.concat_eq_append]at *;have Ty:(r++[y]).length=r.length+1:=by simp
 rw[Ty]at hi ZY;have ZJ:=hl y (by simp);obtain⟨g,ZU,VY,rfl,r1,r2,r3,Ur,Kg⟩:=aoB (vy.row (i+1) hi) (by omega);have RN:=(Ur.cell _).trans (Kg _ _ (by have:=lz r y 0 (by omega);rw[Nat.add_zero]at this;exact this));have Vy:=(Ur.cell _).trans (Kg _ _ (lz r y 1 (by omega)));have TX:=(Ur.cell _).trans (Kg _ _ (lz r y 2 (by omega)));have xn:=Ur.lt;have aA2:=Ur.frozen (r.length*3+1);have YE:=bx (show(Pc.blk w.heap.size 245 #[Z9 a,Z9 b,Z9 c]::ps)[i+1]?=some (Pc.row base 245 3 (.slice (some ⟨g,0,none⟩) (r.length+1) ZU) (r.length+1) ((r++[y]).flatMap Ue))from hi);have Jl:=bx Ty;obtain⟨LR,Hf,NJ⟩:=y;simp only at ZJ RN Vy TX;have Cc:=bx (show F.cf (r++[(LR,Hf,NJ)]) (a,b,c)=if Hf+1=a/\NJ=c then r++[(LR,b,NJ)]else(r++[(LR,Hf,NJ)])++[(a,b,c)] by
  simp[F.cf])
 clear hS hi ZO vy XY hl Ur Kg Ty
 go_in
 go_upto_region 1 with(fail)
 rw[<-ZN.o]
 by_cases PA:Hf+1=a
 ·by_cases hB:NJ=c
  ·have WO:=bx (show F.cf (r++[(LR,Hf,NJ)]) (a,b,c)=r++[(LR,b,NJ)] by rw[Cc.o,Y0 ⟨PA,hB⟩]);have Zq:(Hf+1==a)=true:=by grind
   have YP:(NJ==c)=true:=by grind
   clear PA hB;go_wp2_with fail
   go_quiet (fail)
   have Ls:=bx (Ks.o.drewN nq)
   go_wp2
   go_ret
   refine⟨_,rfl,?_⟩;have Vz:=(Ls.o.alf (i+1) YE.o (g:=g) rfl (r.length*3+1) (by omega) (Z9 b)).tail;rw[avl]at Vz;rw[WO.o,WR];exact Vz
  have WO:=bx (show F.cf (r++[(LR,Hf,NJ)]) (a,b,c)=(r++[(LR,Hf,NJ)])++[(a,b,c)] by rw[Cc.o,Y4 (λh=>hB h.2)]);have Zq:(Hf+1==a)=true:=by grind
  have YP:(NJ==c)=false:=by grind
  clear PA hB;go_wp2_with fail
  go_quiet (fail)
  have Ls:=bx (Ks.o.drewN nq);have uj:base<=(V.drewN nq).heap.size:=WP;have wA:=bx (show(V.drewN nq).heap.size=w.heap.size+1 from jT);go_wp2_with (at_builtin;refine GK (cs:=Ue (a,b,c)) rfl _ _ 164 rfl Gv (by decide) Ls.o (i+1) YE.o rfl (by rw[wA.o];rfl) rfl (by intro u hu;simp only[Ue,T7,RH,or_false]at hu;rcases hu with rfl|rfl|rfl <;> rfl) (by omega) (by omega) uj ?_;rintro Zy XA WC ⟨go',TV,rfl,-,-⟩)
  have WQ:=bx WC;clear WC
  go_wp2
  go_ret
  refine⟨_,rfl,?_⟩;have Vz:=WQ.o.tail;rw[WO.o];simp_all
 have WO:=bx (show F.cf (r++[(LR,Hf,NJ)]) (a,b,c)=(r++[(LR,Hf,NJ)])++[(a,b,c)] by rw[Cc.o,Y4 (λh=>PA h.1)]);have Zq:(Hf+1==a)=false:=by grind
 clear PA;go_wp2_with fail
 go_quiet (fail)
 have Ls:=bx (Ks.o.drewN nq);have uj:base<=(V.drewN nq).heap.size:=WP;have wA:=bx (show(V.drewN nq).heap.size=w.heap.size+1 from jT);go_wp2_with (at_builtin;refine GK (cs:=Ue (a,b,c)) rfl _ _ 164 rfl Gv (by decide) Ls.o (i+1) YE.o rfl (by rw[wA.o];rfl) rfl (by intro u hu;simp only[Ue,T7,RH,or_false]at hu;rcases hu with rfl|rfl|rfl <;> rfl) (by omega) (by omega) uj ?_;rintro Zy XA WC ⟨go',TV,rfl,-,-⟩)
 have WQ:=bx WC;clear WC
 go_wp2
 go_ret
 refine⟨_,rfl,?_⟩;have Vz:=WQ.o.tail;rw[WO.o];simp_all
theorem ato{l:List F.ag}{x:F.ag}(hl:∀y∈l,0<=y.2.1/\y.2.1<=1114111)(Z4:0<=x.2.1/\x.2.1<=1114111):(∀y∈F.cf l x,0<=y.2.1/\y.2.1<=1114111)/\(F.cf l x).length<=l.length+1:=by
 unfold F.cf
 split
 ·grind
 rename_i z ZY
 split
 ·exact⟨λy ZJ=>by
   rcases Nb.1 ZJ with h|h
   ·exact hl y (List.dropLast_subset l h)
   grind,by simp⟩
 grind
theorem arb(v:Value)(l:List F.ag)(w:World)(Z2:RT w v l)(YB:F.bB l=true):
  Calls prog 179 #[v] w λe w'=>(∃Zy,e=.returned (.tuple #[Zy,Z9 0])/\RT w' Zy (F.cG l l.length))/\Z6 w w':=by
 have Xx:=bx (abn v l w Z2 YB);have ZN:=bx Z2;unfold F.bB at YB;rw[Vm,SS,QG]at YB;obtain⟨S9,mH⟩:=YB;have RR:=bx (show∀(i:Nat)(x:F.ag),l[i]?=some x->0<=x.2.1/\x.2.1<=1114111 from λi x Z4=>by
  have hi:=(R7 Z4).1;have h:=S9 i (Ly.2 hi);grind[F.cW])
 obtain⟨a,ZU,rfl,W2,VM⟩:=Z2.slice;clear Z2 S9
 go_in
 go_wp2_with fail;refine Y3 Xx.o λZV ZZ=>?_
 have ZW:=bx ZZ;have VD:=bx (ZN.o.below ZZ);have XI:=bx ((Sep.start ZV).aH ZV.heap.size 3 245);clear ZZ;go_wp2_with fail
 go_loopw[5,4] (λi o wr=>∃k:Nat,k<=l.length/\i=Z9 k/\(F.cG l k).length<=k/\Box (∀y∈F.cG l k,0<=y.2.1/\y.2.1<=1114111)/\Box (Sep [Pc.row ZV.heap.size 245 3 o (F.cG l k).length ((F.cG l k).flatMap Ue),Pc.old ZV.heap.size ZV] wr)) (λi _ _=>l.length-(intOf i).toNat)
 ·exact⟨0,by omega,rfl,Wq _,⟨λy ZJ=>absurd ZJ RH⟩,XI⟩
 obtain⟨k,Z3,rfl,Kb,agV,UE⟩:=hrel;have X3:=bx (UE.o.bel (n:=ZV.heap.size) (W0:=ZV) (by simp));clear XI;obtain⟨UP,Wr,rfl,J8,MF⟩:=UG (UE.o.row 0 rfl)
 by_cases Zu:k<l.length
 ·obtain⟨x,Z4⟩:=Yg l k Zu;have Uz:l.getD k (0,0,0)=x:=by grind
  have OA:=bx (RR.o k x Z4);have Y8:=bx (show F.cG l (k+1)=F.cf (F.cG l k) x by rw[<-Uz];rfl);obtain⟨g,off,XV,Y5,XL,Yi,XB,YX⟩:=(VD.o.below X3.o).get (by grind);obtain⟨rfl,rfl⟩:=XN Y5;obtain⟨Ws,XX,V2⟩:=YX k x Z4;have xk:=bx (aoP 0 ZV.heap.size _ (F.cG l k) x wr UE.o rfl (by omega) agV.o X3.o.size);have wE:=bx (ato agV.o OA.o);rw[<-Y8.o]at xk wE;unfold maxLen at Yi;clear Z4 Uz Y5 YX;go_wp2_with fail;refine xk.o.mono ?_;rintro e ZB ⟨Zy,rfl,Rj⟩;have V1:=bx Rj;clear Rj
  go_wp2
  go_roundw
  ·exact⟨k+1,Zu,by go_num,by have:=wE.o.2;omega,⟨wE.o.1⟩,V1⟩
  grind[intOf]
 obtain rfl:k=l.length:=by omega
 have X9:=bx (RT.au (UE.o.row 0 rfl) rfl);have TZ:=bx (bt ZW.o X3.o)
 go_wp2
 go_ret2
 exact⟨⟨_,rfl,X9.o⟩,TZ.o⟩
theorem Fi{P:Program}{YR:World}{o:Oper}{a:Act}{K:Act->World->Prop}{Q:Exit->Act->World->Prop}{G8:Prop}{ops:Array Oper}(Uz:o.guard=none)(s x:Operand)(t:TypeId)(YT:o.op=.call {callee:=.builtin .append,args:=#[s,x],argTypes:=#[t,t]}){base:Nat}{e:TypeId}{Sa bytes:Nat}(TU:ID P t e Sa bytes)(W1:0<Sa){ps:List Pc}(hS:Sep ps YR)(k:Nat){v Sl:Value}{cs:List Value}{n m:Nat}{xs:List Value}(Z3:ps[k]?=some (Pc.row base e Sa v n xs))(Z0:a.eval s=v)(Z4:a.eval x=Sl)(TM:IY YR Sl m cs)(ZL:cs.length=m*Sa)(Z7:∀u∈cs,u.oneCell'=true)(ZP:n+m<=1000000000)(P6:bytes<=10000)(K8:base<=YR.heap.size)(h:∀Zy w',Sep (ps.set k (Pc.row base e Sa Zy (n+m) (xs++cs))) w'->K (a.put o.dst Zy) w'):
  if Region.wanted o (yielded ops a.tmps)=true then Oper.wp P o a YR K Q else G8:=by
 rw[Y0 (by simp[Region.wanted,Uz])];obtain⟨i,z,ZM,hi,Vs,Up,Vf,PF⟩:=TU.o
 rcases TM with⟨rfl,rfl,rfl⟩|⟨SY,c,rfl,V9⟩
 ·have axi:=run_append_owned_none (P:=P) (w:=YR) base t o.type e i Sa ZM hi v n xs (hS.row k Z3);have Vz:=h v YR;rw[Nat.add_zero,L3,show ps.set k (Pc.row base e Sa v n xs)=ps by
   grind[List.set_getElem_self]]at Vz
  unfold Oper.wp;simp[execOp,YT,resolve,invoke,builtin,Z0,Z4,axi,Result.andThen];exact Vz hS
 have Z8:=IA ZP P6;obtain⟨Zy,w',ZT,Wo,UN,-,MK⟩:=run_append_own_at (P:=P) YR base t o.type e i z Sa bytes ZM hi Vs Up Vf PF W1 v n xs (hS.row k Z3) SY m c cs ZL V9 Z7 (by grind[maxLen]) (by omega) K8;unfold Oper.wp execOp;simp only[YT,resolve,invoke,builtin,Sem.run_bind,Sem.run_pure,Result.andThen_ok,List.map_toArray,RG,Pa,Z0,Z4,ZT];exact h Zy w' (hS.grow k Z3 UN Wo (by
  grind))
theorem apB{l:List F.ag}{a:Int}:∀{k:Nat},(∀(j:Nat)(y:F.ag),j<k->l[j]?=some y->y.1<a)->k<=l.length->(∀y,l[k]?=some y->¬y.1<a)->l.takeWhile (λy=>decide (y.1<a))=l.take k/\l.dropWhile (λy=>decide (y.1<a))=l.drop k:=by
 induction l with
 |nil=>
  simp
 |cons x t XZ=>
  intro k Z7 Z3 Z5
  cases k with
  |zero=>
   simp_all
  |succ k=>
   have Z4:=Z7 0 x (by omega) rfl;grind[List.takeWhile_cons_of_pos,List.dropWhile_cons_of_pos]
theorem wa:∀{l:List F.ag},∀u∈l.flatMap Ue,u.oneCell'=true:=by
 intro l u hu;obtain⟨y,-,ZJ⟩:=List.mem_flatMap.1 hu;simp only[Ue,T7,RH,or_false]at ZJ
 rcases ZJ with rfl|rfl|rfl <;> rfl
theorem RT.cells{w:World}{b off ZU:Nat}{l:List F.ag}(h:∀i x,l[i]?=some x->w.cell? ⟨b,off+i*3,none⟩=some (Z9 x.1)/\w.cell? ⟨b,off+i*3+1,none⟩=some (Z9 x.2.1)/\w.cell? ⟨b,off+i*3+2,none⟩=some (Z9 x.2.2))(n:Nat):IY w (.slice (some ⟨b,off,none⟩) n ZU) n (l.flatMap Ue):=by
 refine .inr ⟨_,_,rfl,λj u hu=>?_⟩;have YO:=(R7 hu).1;rw[DL]at YO;obtain⟨x,Z4⟩:=Yg l (j/3) (by omega);obtain⟨ZI,Z7,Z5⟩:=h (j/3) x Z4;have ZH:=flat_get Ue 3 l (j/3) (j%3) x (λy _=>rfl) Z4 (by omega);have k9:j/3*3+j%3=j:=by omega
 rw[k9]at ZH;have YP:(⟨b,off,none⟩:Addr).add j=⟨b,off+(j/3*3+j%3),none⟩:=by grind[Addr.add]
 rw[YP];rw[hu]at ZH
 rcases(show j%3=0\/j%3=1\/j%3=2 by omega)with e|e|e
 ·rw[e]at ZH⊢
  cases ZH;exact ZI
 ·rw[e]at ZH⊢
  cases ZH;omega
 rw[e]at ZH⊢
 cases ZH;omega
theorem afv{W:World}{q:Nat}{T:TypeId}{cs:List Value}(h:Zv W q T cs.toArray):IY W (.slice (some ⟨q,0,none⟩) 1 1) 1 cs:=
 .inr ⟨_,_,rfl,λj u hu=>by
  (try unfold ZQ at *);rw[show(⟨q,0,none⟩:Addr).add j=⟨q,j,none⟩ by grind[Addr.add]]
  exact(h.cell j).trans (by grind)⟩
theorem aer{w:World}{SY ya:Addr}{ZU k:Nat}{l:List F.ag}(h:RT w (.slice (some SY) l.length ZU) l)(Z3:k<=l.length)(ul:k<l.length->ya=SY.add (k*3)):IY w (.slice (some SY) k ZU) k ((l.take k).flatMap Ue)/\IY w (.slice (some ya) (l.length-k) (ZU-k)) (l.length-k) ((l.drop k).flatMap Ue):=by
 by_cases ZP:l=[]
 ·subst ZP;exact⟨.inr ⟨_,_,rfl,λj u hu=>by grind⟩,.inr ⟨_,_,rfl,λj u hu=>by grind⟩⟩
 obtain⟨b,off,XV,Zq,-,-,-,ZH⟩:=h.get ZP;obtain⟨rfl,rfl⟩:SY=⟨b,off,none⟩/\ZU=XV:=by grind
 refine⟨RT.cells (λi x Z4=>ZH i x ?_) k,?_⟩
 ·grind
 rcases SM k l.length with Z7|Z7
 ·rw[ul Z7,show(⟨b,off,none⟩:Addr).add (k*3)=⟨b,off+k*3,none⟩ by simp[Addr.add]];refine RT.cells (λi x Z4=>?_) _;grind
 rw[Gr Z7];exact .inr ⟨_,_,rfl,λj u hu=>by grind⟩
theorem ank(a:Option Addr)(N ZU k:Nat)(l:List F.ag)(Z3:k<=N)(ZL:N<=ZU)(ZY:ZU<=9223372036854775807)(Zp:l.length=N){YR:World}(ZI:RT YR (.slice a N ZU) l):∃L X Y,L+k=N/\(∀W,(Instr.slice 164 (.slice a N ZU) none (some (Z9 (k:Int))) none).run prog W=.ok X W)/\(∀W,(Instr.slice 164 (.slice a N ZU) (some (Z9 (k:Int))) none none).run prog W=.ok Y W)/\∀W,RT W (.slice a N ZU) l->IY W X k ((l.take k).flatMap Ue)/\IY W Y L ((l.drop k).flatMap Ue):=by
 subst Zp;have zT:k<=ZU:=by omega
 cases a with
 |none=>
  obtain⟨rfl,rfl⟩:l=[]/\ZU=0:=by
   rcases ZI with⟨Z7,Z5⟩|⟨b,off,sp,XV,Z7,_⟩
   ·grind
   grind
  obtain rfl:k=0:=by omega
  exact⟨0,Z1,Z1,rfl,λW=>by go_simp,λW=>by go_simp,λW _=>⟨.inl ⟨rfl,rfl,rfl⟩,.inl ⟨rfl,rfl,rfl⟩⟩⟩
 |some SY=>
  have kY:∀W,(Instr.slice 164 (.slice (some SY) l.length ZU) none (some (Z9 (k:Int))) none).run prog W=.ok (.slice (some SY) k ZU) W:=λW=>by go_simp
  by_cases h:ZU=k
  ·exact⟨l.length-k,.slice (some SY) k ZU,.slice (some SY) (l.length-k) (ZU-k),by omega,kY,λW=>by go_simp,λW Yj=>aer Yj Z3 (λZ7=>by omega)⟩
  exact⟨l.length-k,.slice (some SY) k ZU,.slice (some (SY.add (k*3))) (l.length-k) (ZU-k),by omega,kY,λW=>by go_simp,λW Yj=>aer Yj Z3 (λ_=>rfl)⟩
theorem auw(v:Value)(l:List F.ag)(x:F.ag)(w:World)(Z2:RT w v l)(ZY:l.length<=100000):
  Calls prog 256 #[v,.agg #[Z9 x.1,Z9 x.2.1,Z9 x.2.2]] w λe w'=>(∃Zy,e=.returned Zy/\w'.ownsRow w.heap.size 245 3 Zy (l.length+1) ((F.dd l x).flatMap Ue))/\Z6 w w':=by
 obtain⟨Xo,xb,Pm⟩:=x;obtain⟨a,ZU,rfl,W2,VM⟩:=Z2.slice;obtain⟨N,Zp⟩:∃N,l.length=N:=⟨_,rfl⟩
 have ZE:=bx Zp;rw[Zp]at Z2 W2 ZY⊢;have ZN:=bx Z2;clear Zp;obtain⟨V,ZO⟩:∃V,V=w.alloc (.cells #[Z9 Xo,Z9 xb,Z9 Pm] 245):=⟨_,rfl⟩
 have yE:Z6 w V:=by rw[ZO];exact(Below.refl _ _).alloc Ys _
 have Wj:=bx yE;have WH:=bx (aK ZO);have aiV:=bx ZO;clear Z2 ZO yE
 go_in
 go_upto_region 1 with(fail)
 rw[<-aiV.o];go_wp2_with fail
 go_loopw[5] (λi wr=>∃k:Nat,k<=N/\i=Z9 k/\Box (∀(j:Nat)(y:F.ag),j<k->l[j]?=some y->y.1<Xo)/\Box (Z6 V wr)) (λi _=>N-(intOf i).toNat)
 ·exact⟨0,by omega,rfl,⟨λj y h=>by omega⟩,⟨Below.refl _ _⟩⟩
 obtain⟨k,Z3,rfl,XF,Z8⟩:=hrel;have XY:=WH.o.below Z8.o WH.o.lt;have YV:=XY.q0;have c1:=XY.q1;have c2:=XY.q2;have YJ:=XY.lt;have YA:=bx (bt Wj.o Z8.o);have W6:=bx (λm=>Z8.o.trans ((Po wr m).mono Z8.o.size));clear XY
 by_cases MG:∃y,l[k]?=some y/\y.1<Xo
 ·obtain⟨y,ZJ,Zu⟩:=MG;have PI:k<N:=by rw[<-ZE.o];grind
  obtain⟨g,off,XV,Y5,XL,Yi,XB,YX⟩:=(ZN.o.below YA.o).get (by grind);rw[ZE.o]at Y5;obtain⟨rfl,rfl⟩:=XN Y5;obtain⟨RN,Vy,TX⟩:=YX k y ZJ;have ZE:=bx (show∀(j:Nat)(z:F.ag),j<k+1->l[j]?=some z->z.1<Xo from λj z YO ZY=>by
   rcases SM j k with Z7|Z7
   ·exact XF.o j z Z7 ZY
   grind)
  have Wz:decide ((k:Int)<(N:Int))=true:=Yh (by omega);have Zq:=Yh Zu;unfold maxLen at Yi;clear ZJ Zu Y5 YX;go_wp2_with fail
  go_quiet (fail)
  go_wp2
  go_roundw
  ·exact⟨k+1,by omega,by go_num,ZE,⟨W6.o _⟩⟩
  grind[intOf]
 obtain⟨JI,yK⟩:Box (l.takeWhile (λy=>decide (y.1<Xo))=l.take k)/\Box (l.dropWhile (λy=>decide (y.1<Xo))=l.drop k):=by
  obtain⟨Z7,Z5⟩:=apB (a:=Xo) XF.o (by rw[ZE.o];exact Z3) (λy ZJ h=>MG ⟨y,ZJ,h⟩);exact⟨⟨Z7⟩,⟨Z5⟩⟩
 have Dz:=bx (show F.dd l (Xo,xb,Pm)=l.take k++(Xo,xb,Pm)::l.drop k by unfold F.dd;rw[JI.o,yK.o]);have GV:=bx Z3;obtain⟨L,X,Y,Hz,kY,kX,hcut⟩:=ank a N ZU k l Z3 W2 VM ZE.o ZN.o;have GJ:=bx (λW(h:Z6 w W)=>hcut W (ZN.o.below h));have Oz:=bx Hz;clear hcut Hz;have oc:N=k\/∃y,l[k]?=some y/\¬y.1<Xo:=by
  rcases SM k N with h|h
  ·exact .inr ⟨l[k]'(by rw[ZE.o];exact h),SA (by rw[ZE.o];exact h),λWK=>MG ⟨_,SA (by grind),WK⟩⟩
  omega
 clear MG XF JI yK
 rcases oc with rfl|⟨y,ZJ,Zu⟩
 focus
  go_wp2_with fail
  go_quiet (fail)
  go_wp2_with fail;obtain⟨k,rfl⟩:∃k,k=N:=⟨_,rfl⟩
 rotate_left
 focus
  have PI:k<N:=by rw[<-ZE.o];grind
  obtain⟨g,off,XV,Y5,XL,Yi,XB,YX⟩:=(ZN.o.below YA.o).get (by grind);rw[ZE.o]at Y5;obtain⟨rfl,rfl⟩:=XN Y5;obtain⟨RN,Vy,TX⟩:=YX k y ZJ;have Wz:decide ((k:Int)<(N:Int))=true:=Yh (by omega);have Zq:=Yp Zu;unfold maxLen at Yi;clear ZJ Zu Y5 YX;go_wp2_with fail
  go_quiet (fail)
  go_wp2_with fail;clear RN Vy TX Zq
 all_goals
  have Y9:=bx (show Z6 w (wr.drewN nq).drew from YA.o.trans (((Po wr nq).trans (show Below wr.heap.size (wr.drewN nq) (wr.drewN nq).drew from VQ (wr.drewN nq) 1)).mono YA.o.size));have YF:=bx (show(λW=>ZQ W w.heap.size 0=some (Z9 Xo)/\ZQ W w.heap.size 1=some (Z9 xb)/\ZQ W w.heap.size 2=some (Z9 Pm)) (wr.drewN nq).drew from⟨YV,c1,c2⟩);have ET:=bx (show w.heap.size<(wr.drewN nq).drew.heap.size from YJ);refine Vv 12 (λW=>ZQ W w.heap.size 0=some (Z9 Xo)/\ZQ W w.heap.size 1=some (Z9 xb)/\ZQ W w.heap.size 2=some (Z9 Pm)) (by rfl) ?_;generalize(wr.drewN nq).drew=Yl at Y9 YF ET⊢;have RF:=bx (show∀W,Z6 Yl W->(λW=>ZQ W w.heap.size 0=some (Z9 Xo)/\ZQ W w.heap.size 1=some (Z9 xb)/\ZQ W w.heap.size 2=some (Z9 Pm)) W from λW h=>⟨(h.cell (p:=⟨w.heap.size,0,none⟩) ET.o).trans YF.o.1,(h.cell (p:=⟨w.heap.size,1,none⟩) ET.o).trans YF.o.2.1,(h.cell (p:=⟨w.heap.size,2,none⟩) ET.o).trans YF.o.2.2⟩);have adQ:=bx (λW h=>(GJ.o W (bt Y9.o h)).1);have arU:=bx (λW h=>(GJ.o W (bt Y9.o h)).2);have XI:=bx ((Sep.start Yl).aH Yl.heap.size 3 245);have BB:((l.take k).flatMap Ue).length=k*3:=by rw[DL,SW,ZE.o,tn GV.o]
  clear YV c1 c2 YJ;refine Vp [0,1,2,3,8,9,10,5] ?_
  iterate 8 (refine Vq ?_ rfl YF.o ?_ ?_;rotate_left;·rintro w ⟨q1,q2,q3⟩;go_simp;try with_reducible rfl)
  refine Vr ?_;refine qC (rs:=[4,6]) (by kernel_rfl) (by simp) (Lm.cons rfl (λY7 ZX=>?_) (Lm.cons rfl (λY7 ZX=>?_) Lm.nil))
  focus
   refine Fi rfl _ _ 164 rfl Gv (by decide) XI.o 0 rfl (by kernel_rfl) (by kernel_rfl) (m:=k) (cs:=(l.take k).flatMap Ue) (adQ.o _ YU) BB wa (by omega) (by omega) Ys ?_;rintro v4 YL Uh;have Wp:=bx Uh;have Ye:=bx (Wp.o.bel (n:=Yl.heap.size) (W0:=Yl) (by simp));clear Uh;refine ZX.out _ _ (λ_=>RF.o _ Ye.o) ?_;clear ZX Y7;refine Y1 6 rfl λY7 ZX=>?_
   go_simp;have XO:=bx (Wp.o.ak 245 #[Z9 Xo,Z9 xb,Z9 Pm]);refine ZX.out _ _ (λ_=>RF.o _ (XO.o.bel (n:=Yl.heap.size) (W0:=Yl) (by simp))) ?_;clear ZX Y7
  rotate_left
  focus
   go_simp;have Wp:=bx (XI.o.ak 245 #[Z9 Xo,Z9 xb,Z9 Pm]);have VN:=bx (Wp.o.bel (n:=Yl.heap.size) (W0:=Yl) (by simp));refine ZX.out _ _ (λ_=>RF.o _ VN.o) ?_;clear ZX Y7;refine Y1 4 rfl λY7 ZX=>?_
   refine Fi rfl _ _ 164 rfl Gv (by decide) Wp.o 1 rfl (by rfl) (by rfl) (m:=k) (cs:=(l.take k).flatMap Ue) (adQ.o _ VN.o) BB wa (by omega) (by omega) VN.o.size ?_;rintro v4 YL Uh;have XO:=bx Uh;have Ye:=bx (XO.o.bel (n:=Yl.heap.size) (W0:=Yl) (by simp));clear Uh;refine ZX.out _ _ (λ_=>RF.o _ Ye.o) ?_;clear ZX Y7
  all_goals
   have X6:=bx (XO.o.bel (n:=Yl.heap.size) (W0:=Yl) (by simp));refine Y1 7 rfl λY7 ZX=>?_
   refine Fi rfl _ _ 164 rfl Gv (by decide) XO.o 1 rfl (by rfl) (by rfl) (m:=1) (cs:=Ue (Xo,xb,Pm)) (afv (XO.o.blk 0 rfl)) rfl (by intro u hu;simp only[Ue,T7,RH,or_false]at hu;rcases hu with rfl|rfl|rfl <;> rfl) (by omega) (by omega) X6.o.size ?_;rintro O3 Xi Wl;have Wb:=bx Wl;have XM:=bx (Wb.o.bel (n:=Yl.heap.size) (W0:=Yl) (by simp));clear Wl;refine ZX.out _ _ (λ_=>RF.o _ XM.o) ?_;clear ZX Y7;refine Y1 11 rfl λY7 ZX=>?_
   refine Fi rfl _ _ 164 rfl Gv (by decide) Wb.o 1 rfl (by rfl) (by rfl) (m:=L) (cs:=(l.drop k).flatMap Ue) (arU.o _ XM.o) (by rw[DL,Px];have:=Oz.o;have:=ZE.o;omega) wa (by have:=Oz.o;omega) (by omega) XM.o.size ?_;rintro xo Va T4;have TS:=bx T4;have Tw:=bx (TS.o.bel (n:=Yl.heap.size) (W0:=Yl) (by simp));clear T4;refine ZX.out _ _ (λ_=>RF.o _ Tw.o) ?_;clear ZX Y7;refine Y1 12 rfl λY7 ZX=>?_
   go_simp;refine ZX.out _ _ (λh=>by cases h) ?_;clear ZX Y7;refine kD ?_ _
   go_wp2
   go_ret
   refine⟨⟨_,rfl,?_⟩,bt Y9.o Tw.o⟩;have V7:=own_base (TS.o.row 1 rfl) (show w.heap.size<=Yl.heap.size from Y9.o.size);rw[show 0+k+1+L=l.length+1 by have:=Oz.o;have:=ZE.o;omega,ZE.o,RQ]at V7;rw[Dz.o,Hi,I3,<-M8];exact V7
theorem F.aep{l:List F.ag}{k:Nat}:∀{n:Nat}{r:List F.ag},k<=n->F.b7 l n=some r->∃q,F.b7 l k=some q
 |0,r,Z3,h=>by grind
 |n+1,r,Z3,h=>by
  rcases SM k (n+1)with Z7|Z7
  ·unfold F.b7 at h
   cases Zs:F.b7 l n with
   |none=>grind
   |some q=>exact F.aep (by omega) Zs
  grind
theorem F.ara(l:List F.ag)(x:F.ag):(F.dd l x).length=l.length+1:=by
 unfold F.dd;rw[WR,U3];have:=congrArg List.length (List.takeWhile_append_dropWhile (p:=λy:F.ag=>decide (y.1<x.1)) (l:=l));grind
theorem F.abf{l:List F.ag}:∀{n:Nat}{r:List F.ag},F.b7 l n=some r->r.length=n
 |0,r,h=>by cases h;rfl
 |n+1,r,h=>by
  unfold F.b7 at h
  cases Zs:F.b7 l n with
  |none=>rw[Zs]at h;cases h
  |some q=>
   rw[Zs]at h;simp only at h
   split at h
   ·cases h
   cases h;rw[F.ara,F.abf Zs]
theorem F.am8{l:List F.ag}{k:Nat}{x:F.ag}{q r:List F.ag}(Z4:l[k]?=some x)(Zs:F.b7 l k=some q)(ZT:F.b7 l (k+1)=some r):r=F.dd q x/\∀(j:Nat)(y:F.ag),j<k->l[j]?=some y->¬(x.1<=y.2.1/\y.1<=x.2.1):=by
 have Uz:l.getD k (0,0,0)=x:=by grind
 unfold F.b7 at ZT;rw[Zs,Uz]at ZT;simp only at ZT
 split at ZT
 ·cases ZT
 rename_i h
 cases ZT;refine⟨rfl,λj y YO ZJ hl=>h ?_⟩;rw[NS];refine⟨j,Ly.2 YO,?_⟩;grind[F.lap]
theorem abP(v:Value)(l m:List F.ag)(w:World)(Z2:RT w v l)(YB:F.dA l=some m):
  Calls prog 178 #[v] w λe w'=>(∃Zy,e=.returned (.tuple #[Zy,Z9 0,Z9 0])/\RT w' Zy m)/\Z6 w w':=by
 unfold F.dA at YB
 split at YB
 rotate_left
 ·cases YB
 rename_i ZL
 obtain⟨S9,mH⟩:=ZL;rw[QG]at S9;have RR:=bx S9;have PS:=bx YB;have ZN:=bx Z2;obtain⟨a,ZU,rfl,W2,VM⟩:=Z2.slice;obtain⟨N,Zp⟩:∃N,l.length=N:=⟨_,rfl⟩
 have ZE:=bx Zp;rw[Zp]at ZN PS W2 mH⊢;clear Z2 S9 YB Zp
 go_in
 go_wp2_with fail
 go_loopw[5] (λi wr=>∃k:Nat,k<=N/\i=Z9 k/\Box (Z6 w wr)) (λi _=>N-(intOf i).toNat)
 ·exact⟨0,by omega,rfl,⟨Below.refl _ _⟩⟩
 obtain⟨k,Z3,rfl,Z8⟩:=hrel
 by_cases Zu:k<N
 ·obtain⟨x,Z4⟩:=Yg l k (by rw[ZE.o];omega);have ZT:=RR.o x (Xh Z4);obtain⟨g,off,XV,Y5,XL,Yi,XB,YX⟩:=(ZN.o.below Z8.o).get (by grind);rw[ZE.o]at Y5;obtain⟨rfl,rfl⟩:=XN Y5;obtain⟨Ws,XX,V2⟩:=YX k x Z4;have KC:=bx (λW=>aey x W);rw[ZT]at KC;unfold maxLen at Yi;clear Z4 ZT Y5 XL YX;go_wp2_with fail;refine X7 (KC.o _) Z8.o λZB Zt=>?_
  clear Ws XX V2
  go_wp2
  go_roundw
  ·exact⟨k+1,Zu,by go_num,Zt⟩
  grind[intOf]
 obtain rfl:k=N:=by omega
 go_wp2_with fail
 go_loopw[7,6] (λi o ws=>∃(j:Nat)(q:List F.ag)(pw:Option Addr)(xr:Nat),j<=k/\i=Z9 j/\o=.slice pw j xr/\j<=xr/\xr<=9223372036854775807/\Box (q.length=j/\F.b7 l j=some q)/\Box (RT ws (.slice pw j xr) q)/\Box (Z6 w ws)) (λi _ _=>k-(intOf i).toNat)
 ·exact⟨0,[],none,0,by omega,rfl,rfl,by omega,by omega,⟨rfl,rfl⟩,⟨.inl ⟨rfl,rfl⟩⟩,Z8⟩
 obtain⟨j,q,pw,xr,YO,rfl,rfl,ayQ,azc,Zs,agU,WP⟩:=hrel;obtain⟨ws,rfl⟩:∃W,W=wr:=⟨_,rfl⟩
 by_cases Jc:j<k
 ·obtain⟨x,Z4⟩:=Yg l j (by rw[ZE.o];omega);obtain⟨r,ZT⟩:=F.aep (k:=j+1) (by omega) PS.o;obtain⟨FT,XF⟩:=F.am8 Z4 Zs.o.2 ZT;obtain⟨g,off,XV,Y5,XL,Yi,XB,YX⟩:=(ZN.o.below WP.o).get (by grind);rw[ZE.o]at Y5;obtain⟨rfl,rfl⟩:=XN Y5;have ww:=bx (show r.length=j+1/\F.b7 l (j+1)=some r from⟨F.abf ZT,ZT⟩);have KH:=bx FT;have RA:=bx XF;have Yq:=bx (λ(i:Nat)(y:F.ag)(ZJ:l[i]?=some y) W (Yj:Z6 ws W)=>show ZQ W g (off+i*3)=some (Z9 y.1)/\ZQ W g (off+i*3+1)=some (Z9 y.2.1)/\ZQ W g (off+i*3+2)=some (Z9 y.2.2)from⟨(Yj.cell (p:=⟨g,off+i*3,none⟩) XB).trans (YX i y ZJ).1,(Yj.cell (p:=⟨g,off+i*3+1,none⟩) XB).trans (YX i y ZJ).2.1,(Yj.cell (p:=⟨g,off+i*3+2,none⟩) XB).trans (YX i y ZJ).2.2⟩);unfold maxLen at Yi;have YD:=bx Z4;clear Z4 ZT FT XF Y5 XL YX;go_wp2_with fail
  go_loopw[8] (λi wr=>∃(u:Nat),u<=j/\i=Z9 u/\Box (Z6 ws wr)) (λi _=>j-(intOf i).toNat)
  ·exact⟨0,by omega,rfl,⟨Below.refl _ _⟩⟩
  obtain⟨u,hu,rfl,Vt⟩:=hrel;obtain⟨Ws,XX,V2⟩:=Yq.o j x YD.o _ Vt.o;have W6:=bx (λm=>Vt.o.trans ((Po wr m).mono Vt.o.size))
  by_cases Ak:u<j
  ·obtain⟨y,ZJ⟩:=Yg l u (by rw[ZE.o];omega);obtain⟨RN,Vy,TX⟩:=Yq.o u y ZJ _ Vt.o;have XF:=RA.o u y Ak ZJ;clear ZJ
   by_cases Z7:x.1<=y.2.1
   ·have Zq:=Yh Z7;have YP:=Yp (λh=>XF ⟨Z7,h⟩);clear Z7 XF;go_wp2_with fail
    go_quiet (fail)
    go_wp2
    go_roundw
    ·exact⟨u+1,Ak,by go_num,⟨W6.o _⟩⟩
    simp[intOf];omega
   have Zq:=Yp Z7;clear Z7 XF;go_wp2_with fail
   go_quiet (fail)
   go_wp2
   go_roundw
   ·exact⟨u+1,Ak,by go_num,⟨W6.o _⟩⟩
   simp[intOf];omega
  obtain rfl:u=j:=by omega
  have Dz:=bx (auw (.slice pw u xr) q x wr (agU.o.below Vt.o) (by rw[Zs.o.1];omega));have aie:=bx (bt WP.o Vt.o);go_wp2_with fail;refine Dz.o.mono ?_;rintro e YL ⟨⟨Zy,rfl,Wo⟩,Yf⟩;rw[<-KH.o,Zs.o.1]at Wo;obtain⟨ahR,Er,rfl,avg,akC⟩:=UG Wo;have xi:=bx (RT.au Wo ww.o.1.symm);have Ye:=Zw aie Yf;clear Wo Yf Ws XX V2
  go_wp2
  go_roundw
  ·exact⟨u+1,r,ahR,Er,Jc,by go_num,rfl,avg,akC,ww,xi,Ye⟩
  simp[intOf];omega
 obtain rfl:j=k:=by omega
 have W3:=bx (show q=m by have:=Zs.o.2.symm.trans PS.o;grind);go_wp2_with fail
 go_ret3
 exact⟨⟨_,rfl,W3.o▸agU.o⟩,WP.o⟩
theorem F.aom{s:List UInt8}{a b:Int}{VC:List (List UInt8)}(h:F.cE s=some (some (a,b,VC))):VC≠[]:=by
 obtain⟨-,-,-,-,Z5,-,C8⟩:=F.fI h;rintro rfl;have WK:=congrArg List.length C8;grind
theorem F.aeD{L:List (List UInt8)}:∀{k:Nat}{rs:List F.Rec},F.bq L k=some rs->∀r∈rs,r.2.2.2≠[]
 |0,rs,h=>by cases h;simp
 |k+1,rs,h=>by
  unfold F.bq at h
  cases Zs:F.bq L k with
  |none=>grind
  |some q=>
   rw[Zs]at h;simp only at h;have XZ:=F.aeD Zs
   cases hl:F.cE (L.getD k [])with
   |none=>grind
   |some y=>
    rw[hl]at h
    cases y with
    |none=>grind
    |some y=>
     obtain⟨a,b,VC⟩:=y;simp only at h
     split at h
     ·cases h
     simp only[OS]at h;rw[<-h];intro r ZT
     rcases Nb.1 ZT with Z7|Z7
     ·grind
     rw[Pe.1 Z7];exact F.aom hl
theorem F.awn{s:List UInt8}{rs:List F.Rec}(h:F.parse s=some rs):∀r∈rs,r.2.2.2≠[]:=by
 unfold F.parse at h
 split at h
 ·exact F.aeD h
 cases h
theorem F.adC{names:List (List UInt8)}{loose:Bool}{rs:List F.Rec}{k:Nat}:∀{n:Nat}{r:List F.ag},k<=n->F.cd names loose rs n=some r->∃q,F.cd names loose rs k=some q
 |0,r,Z3,h=>by grind
 |n+1,r,Z3,h=>by
  rcases SM k (n+1)with Z7|Z7
  ·unfold F.cd at h
   cases Zs:F.cd names loose rs n with
   |none=>grind
   |some q=>exact F.adC (by omega) Zs
  grind
theorem F.apC{names:List (List UInt8)}{loose:Bool}{rs:List F.Rec}{k:Nat}{x:F.Rec}{q r:List F.ag}(Z4:rs[k]?=some x)(Zs:F.cd names loose rs k=some q)(ZT:F.cd names loose rs (k+1)=some r):
  (F.valueOf names (x.2.2.2.headD [])=none/\loose=true/\r=q)\/∃v m,F.valueOf names (x.2.2.2.headD [])=some v/\F.dA (q++[(x.2.1,x.2.2.1,(v:Int))])=some m/\r=q++[(x.2.1,x.2.2.1,(v:Int))]:=by
 have Uz:rs.getD k (0,0,0,[])=x:=by grind
 unfold F.cd at ZT;rw[Zs,Uz]at ZT;simp only at ZT
 cases Z2:F.valueOf names (x.2.2.2.headD [])with
 |none=>
  grind
 |some v=>
  rw[Z2]at ZT;simp only at ZT
  split at ZT
  ·rename_i h
   cases ZT;obtain⟨m,hm⟩:=Option.isSome_iff_exists.1 h;grind
  cases ZT
theorem F.fP{s:List UInt8}{rs:List F.Rec}(h:F.parse s=some rs):rs.length<=100000:=by
 unfold F.parse at h
 split at h
 ·rename_i ZY
  have:∀{L:List (List UInt8)}{k:Nat}{rs:List F.Rec},F.bq L k=some rs->rs.length<=k:=by
   intro L k
   induction k with
   |zero=>intro rs h;cases h;simp
   |succ k XZ=>
    grind[F.bq]
  have Z7:=this h;have Z5:=F.eR 10 s;omega
 cases h
theorem anU{w:World}{base n:Nat}{v:Value}{l:List F.ag}(h:w.ownsRow base 245 3 v n (l.flatMap Ue)):IY w v n (l.flatMap Ue):=by
 rcases h.2 with⟨rfl,ZI⟩|⟨g,ZU,VY,rfl,Z5,ZS,ZG,Zi,Yu,VV⟩
 ·subst ZI;have:=h.1;rw[Nat.zero_mul]at this;exact .inl ⟨rfl,rfl,L4 this⟩
 refine .inr ⟨_,_,rfl,λj u hu=>?_⟩
 (try unfold ZQ at *);rw[show(⟨g,0,none⟩:Addr).add j=⟨g,j,none⟩ by grind[Addr.add]]
 have Z8:Zv w g 245 VY:=ZS;rw[Z8.cell j];grind
theorem akr(l:List F.ag)(x:F.ag):(l++[x]).flatMap Ue=[]++l.flatMap Ue++Ue x:=by simp
theorem lR(file:List UInt8)(Zo:Value)(names:List (List UInt8))(loose:Bool)(t:List F.ag)(w:World)(ZP:XC w Zo names)(Rw:F.cc names=true)(YB:F.cx file names loose=some t):
  Calls prog 102 #[.string (bs file),Zo,Z9 0,.bool loose] w λe w'=>(∃Zy,e=.returned (.tuple #[Zy,Z9 0,Z9 0])/\RT w' Zy t)/\Z6 w w':=by
 unfold F.cx at YB
 cases hp:F.parse file with
 |none=>rw[hp]at YB;cases YB
 |some rs=>
 rw[hp]at YB;simp only at YB
 cases ZT:F.cd names loose rs rs.length with
 |none=>rw[ZT]at YB;cases YB
 |some out=>
 rw[ZT]at YB;simp only at YB
 cases Z0:F.dA out with
 |none=>rw[Z0]at YB;cases YB
 |some m=>
 rw[Z0]at YB;simp only at YB
 split at YB
 rotate_left
 ·cases YB
 rename_i K1
 simp only[OS]at YB;obtain⟨N,Zp⟩:∃N,rs.length=N:=⟨_,rfl⟩
 have Gs:=bx (show N<=100000 by rw[<-Zp];exact F.fP hp);have YF:=bx (F.awn hp);rw[Zp]at ZT;have SG:=bx (rn Zo names w ZP Rw);have Nv:=bx (λW=>hM file rs W hp);have ZK:=bx ZT;have JQ:=bx Z0;have Y8:=bx YB;have HS:=bx K1;have ZE:=bx Zp;have S6:=bx ZP;have xc:=bx (show names.length<=32 by grind[F.cc]);clear hp ZT Z0 YB K1 Zp ZP Rw
 go_in
 go_wp2_with fail;refine SG.o.mono ?_;rintro e YR ⟨rfl,N3,rfl⟩;have ZR:=bx (Po w N3);generalize w.drewN N3=YR at ZR⊢;go_wp2_with fail;refine(Nv.o _).mono ?_;rintro e ZV ⟨⟨Y2,rfl,yM⟩,ZZ⟩;have AO:=bx yM;have ZW:=Zw ZR ZZ;obtain⟨FG,rc,rfl,l9,ao9⟩:=yM.slice;rw[ZE.o]at AO l9⊢;have XI:=bx ((Sep.start ZV).aH ZV.heap.size 3 245);clear yM ZZ;go_wp2_with fail
 go_loopw[15,14] (λi o wr=>∃(k:Nat)(L:List F.ag)(UP:Option Addr)(Wr:Nat),k<=N/\i=Z9 k/\o=.slice UP L.length Wr/\L.length<=k/\Box (F.cd names loose rs k=some L)/\Box (Sep [Pc.row ZV.heap.size 245 3 (.slice UP L.length Wr) L.length (L.flatMap Ue),Pc.old ZV.heap.size ZV] wr)) (λi _ _=>N-(intOf i).toNat)
 ·exact⟨0,[],none,0,by omega,rfl,rfl,by simp,⟨rfl⟩,XI⟩
 obtain⟨k,L,UP,Wr,Z3,rfl,rfl,Hz,agW,UE⟩:=hrel;have X3:=bx (UE.o.bel (n:=ZV.heap.size) (W0:=ZV) (by simp));clear XI
 by_cases Zu:k<N
 ·obtain⟨x,Z4⟩:=Yg rs k (by have:=ZE.o;omega);obtain⟨g,off,XV,Y5,XL,Yi,XB,YX⟩:=(AO.o.below X3.o).get (by grind);rw[ZE.o]at Y5 XL;obtain⟨rfl,rfl⟩:=XN Y5;obtain⟨YV,c1,c2,Za,c3,Kc⟩:=YX k x Z4;obtain⟨r,ZT⟩:=F.adC (k:=k+1) (by omega) ZK.o;have Vc:=bx ZT;have L8:=F.apC Z4 agW.o ZT;obtain⟨f0,k8,BO⟩:∃f0 k8,x.2.2.2=f0::k8:=by
   cases Zs:x.2.2.2 with
   |nil=>exact absurd Zs (YF.o x (Xh Z4))
   |cons a b=>simp
  rw[BO]at Kc L8;rw[List.headD_cons]at L8;obtain⟨Ta,WN,XG,rfl,Da,ku,tZ,Hv⟩:=Kc.get (by simp);have X2:=Hv 0 f0 rfl;rw[Nat.add_zero]at X2;rw[U3]at Da c3;obtain⟨ahs,agx⟩:∃ahs,k8.length=ahs:=⟨_,rfl⟩
  rw[agx]at c3 Da;have asb:=bx (nT Zo names f0 wr (S6.o.below (bt ZW.o X3.o)) (by have:=xc.o;omega));have an6:=bx L8;unfold maxLen at Yi ku;clear Z4 Y5 YX ZT L8 BO Kc Hv agx;go_wp2_with fail;refine YW asb.o ?_
  rcases an6.o with⟨XF,T8,FT⟩|⟨v,m',I4,J7,FT⟩
  ·rw[XF];unfold vu;have PN:=bx (show F.cd names loose rs (k+1)=some L by rw[Vc.o,FT]);obtain rfl:=T8;clear XF FT
   go_wp2
   go_roundw
   ·exact⟨k+1,L,UP,Wr,Zu,by go_num,rfl,by omega,PN,UE⟩
   simp[intOf];omega
  rw[I4];unfold vu;have PN:=bx (show F.cd names loose rs (k+1)=some (L++[(x.2.1,x.2.2.1,(v:Int))]) by rw[Vc.o,FT]);have R1:=bx (λvv W(h:RT W vv (L++[(x.2.1,x.2.2.1,(v:Int))]))=>abP vv _ m' W h J7);clear I4 FT J7 X2 c3 YV;obtain⟨CP,Xo,xb,aA1⟩:=x;simp only at c1 c2 PN R1;go_wp2_with fail;have Ud:=bx (show wr.drew.cell? ⟨g,off+k*4+1,none⟩=some (Z9 Xo)/\wr.drew.cell? ⟨g,off+k*4+2,none⟩=some (Z9 xb)from⟨c1,c2⟩);refine Vv 13 (λW=>ZQ W g (off+k*4+1)=some (Z9 Xo)/\ZQ W g (off+k*4+2)=some (Z9 xb)) (by rfl) ?_;refine Vp [0,1,2,3,4,5,6,7,8,9,10,11] ?_
  iterate 12 (refine Vq ?_ rfl Ud.o ?_ ?_;rotate_left;·rintro w ⟨q1,q2⟩;go_simp;try with_reducible rfl)
  refine Vr ?_;have Xm:=bx (UE.o.drew);have Hb:=bx (show g<wr.drew.heap.size from XB);generalize wr.drew=WD at Ud Xm Hb⊢;have Lc:=bx (Xm.o.ak 245 #[Z9 0,Z9 0,Z9 0]);refine Y1 12 rfl λY7 ZX=>?_
  go_simp;refine ZX.out _ _ (λ_=>⟨(World.cell?_alloc_lt _ _ ⟨g,off+k*4+1,none⟩ Hb.o).trans Ud.o.1,(World.cell?_alloc_lt _ _ ⟨g,off+k*4+2,none⟩ Hb.o).trans Ud.o.2⟩) ?_;clear ZX Y7;refine Y1 13 rfl λY7 ZX=>?_
  go_simp;have Jt:=bx (Xm.o.ak 245 #[Z9 Xo,Z9 xb,Z9 v]);refine ZX.out _ _ (λh=>by cases h) ?_;clear ZX Y7;refine kD ?_ _;clear Ud Xm Lc Hb;generalize WD.heap.size=Q at Jt⊢;generalize WD.alloc (.cells #[Z9 Xo,Z9 xb,Z9 v] 245)=WX at Jt⊢;go_wp2_with fail;refine Vv 12 (λW=>ZQ W Q 0=some (Z9 Xo)/\ZQ W Q 1=some (Z9 xb)/\ZQ W Q 2=some (Z9 v)) (by rfl) ?_;have TY:=bx (Jt.o.drew);generalize WX.drew=WY at TY⊢;have WH:=bx (TY.o.blk 0 rfl);have GI:=bx (show WY.cell? ⟨Q,0,none⟩=some (Z9 Xo)/\WY.cell? ⟨Q,1,none⟩=some (Z9 xb)/\WY.cell? ⟨Q,2,none⟩=some (Z9 v)from⟨WH.o.q0,WH.o.q1,WH.o.q2⟩);have RF:=bx (show∀W,Z6 WY W->ZQ W Q 0=some (Z9 Xo)/\ZQ W Q 1=some (Z9 xb)/\ZQ W Q 2=some (Z9 v)from λW h=>⟨(h.cell (p:=⟨Q,0,none⟩) WH.o.lt).trans GI.o.1,(h.cell (p:=⟨Q,1,none⟩) WH.o.lt).trans GI.o.2.1,(h.cell (p:=⟨Q,2,none⟩) WH.o.lt).trans GI.o.2.2⟩);have Pq:=bx (λW(h:Z6 WY W)=>anU ((TY.o.below h).row 1 rfl));have XI:=bx ((Sep.start WY).aH WY.heap.size 3 245);refine kS 0 ?_ rfl GI.o ?_ ?_;rotate_left
  ·rintro w ⟨q1,q2,q3⟩;go_simp;try with_reducible rfl
  refine kS 2 ?_ rfl GI.o ?_ ?_;rotate_left
  ·rintro w ⟨q1,q2,q3⟩;go_simp;try with_reducible rfl
  refine qC (rs:=[1,3]) (by kernel_rfl) (by simp) (Lm.cons rfl (λY7 ZX=>?_) (Lm.cons rfl (λY7 ZX=>?_) Lm.nil))
  focus
   refine Fi rfl _ _ 164 rfl Gv (by decide) XI.o 0 rfl (by rfl) (by rfl) (m:=L.length) (cs:=L.flatMap Ue) (Pq.o _ YU) (DL L) wa (by have:=Gs.o;omega) (by omega) Ys ?_;rintro v4 YL Uh;have Wp:=bx Uh;have Ye:=bx (Wp.o.bel (n:=WY.heap.size) (W0:=WY) (by simp));clear Uh;refine ZX.out _ _ (λ_=>RF.o _ Ye.o) ?_;clear ZX Y7;refine Y1 3 rfl λY7 ZX=>?_
   go_simp;have XO:=bx (Wp.o.ak 245 #[Z9 Xo,Z9 xb,Z9 v]);have X6:=bx (XO.o.bel (n:=WY.heap.size) (W0:=WY) (by simp));refine ZX.out _ _ (λ_=>RF.o _ X6.o) ?_;clear ZX Y7
  rotate_left
  focus
   go_simp;have WT:=bx (XI.o.ak 245 #[Z9 Xo,Z9 xb,Z9 v]);have YY:=bx (WT.o.bel (n:=WY.heap.size) (W0:=WY) (by simp));refine ZX.out _ _ (λ_=>RF.o _ YY.o) ?_;clear ZX Y7;refine Y1 1 rfl λY7 ZX=>?_
   refine Fi rfl _ _ 164 rfl Gv (by decide) WT.o 1 rfl (by rfl) (by rfl) (m:=L.length) (cs:=L.flatMap Ue) (Pq.o _ YY.o) (DL L) wa (by have:=Gs.o;omega) (by omega) YY.o.size ?_;rintro v5 YK OX;have XO:=bx OX;have X6:=bx (XO.o.bel (n:=WY.heap.size) (W0:=WY) (by simp));clear OX;refine ZX.out _ _ (λ_=>RF.o _ X6.o) ?_;clear ZX Y7;have Wp:=WT
  rotate_left
  all_goals
   refine Y1 4 rfl λY7 ZX=>?_
   refine Fi rfl _ _ 164 rfl Gv (by decide) XO.o 1 rfl (by rfl) (by rfl) (m:=1) (cs:=Ue (Xo,xb,v)) (afv (XO.o.blk 0 rfl)) rfl (by intro u hu;simp only[Ue,T7,RH,or_false]at hu;rcases hu with rfl|rfl|rfl <;> rfl) (by have:=Gs.o;omega) (by omega) X6.o.size ?_;rintro O3 Xi Wl;have Wb:=bx Wl;have XM:=bx (Wb.o.bel (n:=WY.heap.size) (W0:=WY) (by simp));clear Wl;refine ZX.out _ _ (λ_=>RF.o _ XM.o) ?_;clear ZX Y7;have iO:=bx (RT.au (by rw[akr];exact Wb.o.row 1 rfl) (by simp));refine Y1 5 rfl λY7 ZX=>?_
   go_simp;go_wp2_with (go_at_call 178;refine(R1.o _ _ iO.o).mono ?_;rintro e Va ⟨⟨xo,rfl,-⟩,Rx⟩)
   have Tw:=Zw XM Rx;clear Rx;refine ZX.out _ _ (λ_=>RF.o _ Tw.o) ?_;clear ZX Y7;refine Y1 6 rfl λY7 ZX=>?_
   go_simp;refine ZX.out _ _ (λ_=>RF.o _ Tw.o) ?_;clear ZX Y7;refine kS 7 ?_ rfl (RF.o _ Tw.o) ?_ ?_;rotate_left
   ·rintro w ⟨q1,q2,q3⟩;go_simp;try with_reducible rfl
   refine kS 8 ?_ rfl (RF.o _ Tw.o) ?_ ?_;rotate_left
   ·rintro w ⟨q1,q2,q3⟩;go_simp;try with_reducible rfl
   refine kS 9 ?_ rfl (RF.o _ Tw.o) ?_ ?_;rotate_left
   ·rintro w ⟨q1,q2,q3⟩;go_simp;try with_reducible rfl
   refine Y1 10 rfl λY7 ZX=>?_
   go_simp;refine ZX.out _ _ (λ_=>RF.o _ Tw.o) ?_;clear ZX Y7;refine Y1 11 rfl λY7 ZX=>?_
   go_simp;refine ZX.out _ _ (λ_=>RF.o _ Tw.o) ?_;clear ZX Y7;refine Y1 12 rfl λY7 ZX=>?_
   go_simp;refine ZX.out _ _ (λ_=>RF.o _ Tw.o) ?_;clear ZX Y7;refine kD ?_ _;have Wy:=bx (TY.o.below Tw.o);obtain⟨z0,UB,z2⟩:=RF.o _ Tw.o;have afZ:=Vh WH.o.lt Tw.o.size;have KY:=XJ (TY.o.bel (n:=ZV.heap.size) (W0:=ZV) (by simp)).size Tw.o.size;clear WH GI RF Pq XI Wp XO Wb iO;go_wp2_with (at_builtin;refine GK (cs:=Ue (Xo,xb,v)) rfl _ _ 164 rfl Gv (by decide) Wy.o 1 rfl rfl rfl rfl (by intro u hu;simp only[Ue,T7,RH,or_false]at hu;rcases hu with rfl|rfl|rfl <;> rfl) (by have:=Gs.o;omega) (by omega) KY ?_;rintro v9 PM ON ⟨go',TV,rfl,-,-⟩)
   have TP:=bx (show Sep [Pc.row ZV.heap.size 245 3 (.slice (some ⟨go',0,none⟩) (L++[(Xo,xb,(v:Int))]).length TV) (L++[(Xo,xb,(v:Int))]).length ((L++[(Xo,xb,(v:Int))]).flatMap Ue),Pc.old ZV.heap.size ZV] PM by
    rw[WR,Hi,List.flatMap_singleton];exact ON.tail)
   clear ON z0 UB z2
   go_wp2
   go_roundw
   ·exact⟨k+1,L++[(Xo,xb,(v:Int))],some ⟨go',0,none⟩,TV,Zu,by go_num,by simp,by grind,PN,TP⟩
   grind[intOf]
 obtain rfl:k=N:=by omega
 have O9:=bx (show L=out by have:=agW.o.symm.trans ZK.o;grind);have aiO:=bx (RT.au (UE.o.row 0 rfl) rfl);have asR:=bx (abP _ _ m wr aiO.o (by rw[O9.o];exact JQ.o));have TZ:=bx (bt ZW.o X3.o);go_wp2_with fail;refine asR.o.mono ?_;rintro e ZB ⟨⟨v2,rfl,SN⟩,Zz⟩;have Uv:=bx SN;have Zt:=Zw TZ Zz;have Pr:=bx (arb v2 m ZB SN HS.o);clear SN Zz;go_wp2_with fail;refine Pr.o.mono ?_;rintro e Zh ⟨⟨v3,rfl,KZ⟩,Zb⟩;have OM:=bx KZ;have YY:=Zw Zt Zb;clear KZ Zb;go_wp2_with fail
 go_ret3
 exact⟨⟨_,rfl,Y8.o▸OM.o⟩,YY.o⟩
