/- Texts of this claim. -/
import Derived.Lib.Strings
import Derived.Test.YtdponihkpomheaaGreatDoorK5

set_option maxHeartbeats 16000000
set_option maxRecDepth 100000
namespace Go.Proofs.YtdponihkpomheaaGreatDoor
open Go.RowKit
open Tryz
namespace F
open Go.Proofs.YtdponihkpomheaaGreatDoor
def df(names:List (List UInt8))(x:List UInt8):Option (List N.Item):=
 if x=[]then some []
 else if((x.any λc=>c==32||c==91)||x.getLast?==some 42||x==[94]||x==[46])=true then none
 else(valueOf names x).map λi=>[((2:Int)^i,0)]
def dB(c:UInt8):Bool:=c==43||c==47
def dE(names:List (List UInt8))(t:List UInt8):Option D.Rule:=
 match t.findIdx? dB with
 |none=>none
 |some i=>match df names (trim (t.take i)),df names (trim (t.drop (i+1)))with
  |some a,some b=>some ((false,a),(false,b),t.getD i 0==47)
  |_,_=>none
abbrev Map:=Int×List Int
def cO(l:List Map)(r:Int)(o:List Int):List Map:=
 l.takeWhile (λy=>decide (y.1<r))++(r,o)::match l.dropWhile (λy=>decide (y.1<r))with
  |[]=>[]
  |x::t=>if x.1=r then t else x::t
def cm(s:List UInt8):Option (List Int):=
 if s=[]then some []else match code s with
  |some r=>if U.right r=true then some [r]else none
  |none=>none
end F
namespace T
open Go.Proofs.YtdponihkpomheaaGreatDoor
structure Cs where
 lo:List F.Map
 ti:List F.Map
 ca:F.Trie
 ig:F.Trie
def toB(l:List Int):Bool:=decide (l.length<=3)&&l.all U.right
def c5:Int->List F.Map->Bool
 |_,[]=>true
 |last,x::t=>U.right x.1&&decide (last<x.1)&&toB x.2&&c5 x.1 t
def a8(m:Nat)(l:List F.Map):Bool:=c5 (-1) l&&decide (l.length<=m)
def az(m:Nat)(c:Cs):Bool:=a8 m c.lo&&a8 m c.ti&&F.aE c.ca&&F.aE c.ig
def becomes(l:List F.Map)(r:Int):List Int:=match l.find? (λx=>x.1==r)with
 |some x=>x.2
 |none=>[r]
def cased(c:Cs)(r:Int):Bool:=F.says c.ca r != 0
def al(c:Cs)(r:Int):Bool:=F.says c.ig r != 0
def meets(c:Cs):List Int->Bool
 |[]=>false
 |r::t=>cased c r||(al c r&&meets c t)
def final(c:Cs)(l:List Int)(at':Nat):Bool:=meets c (l.take at').reverse&&!meets c (l.drop (at'+1))
def small(c:Cs)(l:List Int)(at':Nat):List Int:=if(l.getD at' 0==931&&final c l at')=true then[962]else becomes c.lo (l.getD at' 0)
def b9(c:Cs)(l:List Int):Nat->Nat->Bool->List Int
 |0,_,_=>[]
 |n+1,i,true=>small c l i++b9 c l n (i+1) true
 |n+1,i,false=>if cased c (l.getD i 0)=true then becomes c.ti (l.getD i 0)++b9 c l n (i+1) true else l.getD i 0::b9 c l n (i+1) false
def word(c:Cs)(l:List Int)(a b:Nat):List Int:=b9 c l (b-a) a false
end T
def nA:Option (Int×Nat)->Value
 |none=>.tuple #[Z9 0,Z9 0,.bool false]
 |some (r,n)=>.tuple #[Z9 r,Z9 (n:Int),.bool true]
def Of(l:List UInt8):Value:=nA (U.dec l)
theorem AY(r:Int)(w:World):
  Calls prog 191 #[Z9 r] w λe w'=>e=.returned (.bool (U.right r))/\w=w':=by
 go_in
 go_wp2
 all_goals go_ret
 all_goals exact⟨YG (by grind[U.right]),rfl⟩
theorem rB(c:Int)(_:0<=c)(_:c<256)(w:World):
  Calls prog 204 #[.int .u8 c] w λe w'=>e=.returned (.tuple #[Z9 (U.af c),.int .u8 (U.ax c),.int .u8 (U.ay c)])/\w=w':=by
 go_in
 go_wp2
 all_goals (try simp only[Lz,Sz,ne_eq]at *)
 all_goals go_ret3
 all_goals exact⟨ad8 (PZ (by grind[U.af])) (PZ (by grind[U.ax,U.af])) (PZ (by grind[U.ay,U.af])),rfl⟩
theorem isEmpty_nil{s:ByteArray}(h:s.data.toList=[]):s.toList.isEmpty=true:=by rw[uV,h];rfl
theorem isEmpty_cons{s:ByteArray}{c:UInt8}{t:List UInt8}(h:s.data.toList=c::t):s.toList.isEmpty=false:=by rw[uV,h];rfl
theorem AP{o:Option (Int×Nat)}{a b c:Value}(h:nA o=.tuple #[a,b,c]):Ending.returned (.tuple #[a,b,c])=.returned (nA o):=by rw[h]
theorem m0(s:ByteArray)(w:World)(h:s.data.toList=[]\/∃c t,s.data.toList=c::t/\(U.af (U.aa c)<0\/(t.length:Int)<U.af (U.aa c))):
  Calls prog 134 #[.string s] w λe w'=>e=.returned (.tuple #[Z9 0,Z9 0,.bool false])/\w=w':=by
 rcases h with h|⟨c,t,h,ZL⟩
 ·have ZY:=isEmpty_nil h;clear h
  go_in
  go_wp2
  go_ret3
  simp
 have ZY:=isEmpty_cons h;have hi:=JT underlying9 s 0 (d:=c) (by grind) 0 rfl;have Vl:=U.bl c;have W2:=U.bo c;have W1:(s.size:Int)=t.length+1:=by grind[size_eq]
 have VM:U.af (U.aa c)<0\/(s.size:Int)<=U.af (U.aa c):=by omega
 clear h ZL W1;generalize U.aa c=x at *
 rcases VM with ZL|ZL
 ·go_in
  go_wp2_with (first|(go_at_call 204;refine YW (rB _ (by omega) (by omega) _) ?_))
  all_goals go_ret3
  simp
 have Rg:0<=U.af x\/U.af x<0:=by omega
 rcases Rg with Rg|Rg
 all_goals
  go_in
  go_wp2_with (first|(go_at_call 204;refine YW (rB _ (by omega) (by omega) _) ?_))
  all_goals go_ret3
  simp
theorem m1(s:ByteArray)(w:World)(Z0:s.size<=maxLen):
  Calls prog 134 #[.string s] w λe w'=>e=.returned (Of s.data.toList)/\w=w':=by
 unfold maxLen at Z0
 cases hl:s.data.toList with
 |nil=>exact m0 s w (.inl hl)
 |cons c t=>
 by_cases Z7:U.af (U.aa c)<0
 ·refine(m0 s w (.inr ⟨c,t,hl,.inl Z7⟩)).mono λe w' h=>?_
  rw[Of,U.dZ Z7];exact h
 by_cases Z5:(t.length:Int)<U.af (U.aa c)
 ·refine(m0 s w (.inr ⟨c,t,hl,.inr Z5⟩)).mono λe w' h=>?_
  rw[Of,U.fE Z5];exact h
 have ZY:=isEmpty_cons hl;have hi:=JT underlying9 s 0 (d:=c) (by grind) 0 rfl;have Vl:=U.bl c;have W2:=U.bo c;have W1:(s.size:Int)=t.length+1:=by grind[size_eq]
 have V7:=rB (U.aa c) Vl W2
 rcases U.cY (U.aa c)with e|e|e|e|e
 ·omega
 ·have Z4:=U.eJ _ e;have Xf:=bx (U.eN (t:=t) e);rw[e]at V7;have Ln:=bx V7;have PF:0<s.size:=by omega
  have Xq:¬(s=ByteArray.empty):=by rintro rfl;simp at PF
  clear V7 hl W1 e Z7 Z5;generalize U.aa c=x at *
  go_in
  go_wp2_with (first|(go_at_call 204;refine YW (Ln.o _) ?_))
  go_rounds 1
  all_goals go_ret3
  all_goals exact⟨AP (by rw[Xf.o];rfl),rfl⟩
 ·rcases t with _|⟨d1,t⟩
  ·simp at Z5;omega
  have i1:=JT underlying9 s 1 (d:=d1) (by grind) 1 rfl;have Z4:=U.eH _ e;have Xf:=bx (U.dv (d1:=d1) (t:=t) e);rw[e]at V7;have Ln:=bx V7;have PF:1<s.size:=by omega
  have Wx:=U.bo d1;have a1:=U.bl d1;clear V7 hl W1 e Z7 Z5;generalize U.aa c=x at *;generalize U.aa d1=Vy at *
  go_in
  go_wp2_with (first|(go_at_call 204;refine YW (Ln.o _) ?_))
  go_rounds 2
  all_goals go_ret3
  all_goals first
   |exact⟨AP (by rw[Xf.o,Y4 (by omega)];rfl),rfl⟩
   |exact⟨AP (by rw[Xf.o,Y0 (by omega)];rfl),rfl⟩
 ·rcases t with _|⟨d1,_|⟨d2,t⟩⟩
  ·simp at Z5;omega
  ·simp at Z5;omega
  have i1:=JT underlying9 s 1 (d:=d1) (by grind) 1 rfl;have i2:=JT underlying9 s 2 (d:=d2) (by grind) 2 rfl;have Z4:=U.eE _ e;have Xf:=bx (U.dw (d1:=d1) (d2:=d2) (t:=t) e);rw[e]at V7;have Ln:=bx V7;have PF:2<s.size:=by omega
  have Wx:=U.bo d1;have a1:=U.bl d1;have Xd:=U.bo d2;have a2:=U.bl d2;clear V7 hl W1 e Z7 Z5;generalize U.aa c=x at *;generalize U.aa d1=Vy at *;generalize U.aa d2=TX at *
  go_in
  go_wp2_with (first|(go_at_call 204;refine YW (Ln.o _) ?_))
  go_rounds 3
  all_goals go_ret3
  all_goals first
   |exact⟨AP (by rw[Xf.o,Y4 (by omega)];rfl),rfl⟩
   |exact⟨AP (by rw[Xf.o,Y0 (by omega)];rfl),rfl⟩
 rcases t with _|⟨d1,_|⟨d2,_|⟨d3,t⟩⟩⟩
 ·simp at Z5;omega
 ·simp at Z5;omega
 ·simp at Z5;omega
 have i1:=JT underlying9 s 1 (d:=d1) (by grind) 1 rfl;have i2:=JT underlying9 s 2 (d:=d2) (by grind) 2 rfl;have i3:=JT underlying9 s 3 (d:=d3) (by grind) 3 rfl;have Z4:=U.ed _ e;have Xf:=bx (U.dM (d1:=d1) (d2:=d2) (d3:=d3) (t:=t) e);rw[e]at V7;have Ln:=bx V7;have PF:3<s.size:=by omega
 have Wx:=U.bo d1;have a1:=U.bl d1;have Xd:=U.bo d2;have a2:=U.bl d2;have Wk:=U.bo d3;have a3:=U.bl d3;clear V7 hl W1 e Z7 Z5;generalize U.aa c=x at *;generalize U.aa d1=Vy at *;generalize U.aa d2=TX at *;generalize U.aa d3=Qa at *
 go_in
 go_wp2_with (first|(go_at_call 204;refine YW (Ln.o _) ?_))
 go_rounds 4
 all_goals go_ret3
 all_goals first
  |exact⟨AP (by rw[Xf.o,Y4 (by omega)];rfl),rfl⟩
  |exact⟨AP (by rw[Xf.o,Y0 (by omega)];rfl),rfl⟩
def Ei(r:Int):Value:=if U.right r=true then .tuple #[.string ⟨(U.enc r).toArray⟩,Z9 0]else .tuple #[.string ⟨#[]⟩,Z9 10]
theorem rf{r:Int}(h:U.right r=false):Ei r=.tuple #[.string ⟨#[]⟩,Z9 10]:=by grind[Ei]
theorem h2{r:Int}{l:List Int}(h:U.right r=true)(hl:l.map U.byte=U.enc r):Value.tuple #[.string (strOfNums l),Z9 0]=Ei r:=by
 unfold Ei;rw[Y0 h,<-hl];rfl
section
open Go.Shelf
attribute[local go_sem] Oper.semAt_some
theorem ajE(v:Value)(M:D.ao)(YR w:World)(Z2:Oh YR v M)(Yn:Z6 YR w):
  Calls prog 112 #[v] w λe w'=>Z6 w w'/\∃Zo Za WM,e=.returned (.agg #[Zo,Za])/\HQ YR WM (Ea M).1/\w'.ownsRow w.heap.size 22 1 Zo WM.length WM/\Y6 YR Za (Ea M).2:=by
 obtain⟨U7,R6,rfl,SO,SQ⟩:=Z2;have OC:=bx SO;have ZR:=bx Yn;obtain⟨Uj,ca,rfl⟩:=SO.slice;obtain⟨WN,XG,rfl⟩:=SQ.slice;obtain⟨MH,Da⟩:=wP SQ;have JE:=bx (uL SQ 302);obtain⟨Pb,zR⟩:∃Pb,(M.2.take 302).length=Pb:=⟨_,rfl⟩
 have y6:=bx (show Pb=min 302 M.2.length by grind);rw[zR]at JE;have atc:=bx zR;obtain⟨m,hm⟩:∃m,m=min M.1.length 302:=⟨_,rfl⟩
 have W3:=bx hm;have Pg:m<=M.1.length:=by omega
 have Oo:m<=302:=by omega
 obtain⟨Zh,Nc⟩:∃Zh,Zh=((w.alloc (.cells #[.slice Uj M.1.length ca,.slice WN M.2.length XG] 29)).alloc (.cells #[Z1,Z1] 29)).alloc (.cells #[Z1,.slice WN Pb XG] 29):=⟨_,rfl⟩
 have WT:=bx (show∃WM,HQ YR WM ((M.1.take 0).map wY)/\Sep [Pc.row w.heap.size 22 1 Z1 0 WM,Pc.blk (w.heap.size+1+1) 29 #[Z1,.slice WN Pb XG],Pc.blk (w.heap.size+1) 29 #[Z1,Z1],Pc.blk w.heap.size 29 #[.slice Uj M.1.length ca,.slice WN M.2.length XG],Pc.old w.heap.size w] Zh by
  have Z7:=(((Sep.start w).ak 29 #[.slice Uj M.1.length ca,.slice WN M.2.length XG]).ak 29 #[Z1,Z1]).ak 29 #[Z1,.slice WN Pb XG];refine⟨[],⟨rfl,λi r h=>by grind⟩,?_⟩;rw[Nc];have Z5:=Z7.aH w.heap.size 1 22
  simp_all)
 have La:=bx Nc;clear Yn SO SQ hm zR Nc
 go_in
 rcases(show(302<M.2.length/\Pb=302)\/(M.2.length<=302/\Pb=M.2.length) by have:=y6.o;omega)with⟨Zs,Py⟩|⟨Zs,Py⟩
 all_goals
  have Nc:=La.o;have oF:min (M.2.length:Int) 302=(Pb:Int):=by omega
  go_upto_region 2 with(fail)
  first|rw[Py]at Nc|skip
  rw[<-Nc];clear Nc oF Zs Py;go_wp2_with fail
  go_loopw[4] (λi wr=>∃k:Nat,k<=m/\i=Z9 k/\Box (∃Zo WM,HQ YR WM ((M.1.take k).map wY)/\Sep [Pc.row w.heap.size 22 1 Zo k WM,Pc.blk (w.heap.size+1+1) 29 #[Zo,.slice WN Pb XG],Pc.blk (w.heap.size+1) 29 #[Z1,Z1],Pc.blk w.heap.size 29 #[.slice Uj M.1.length ca,.slice WN M.2.length XG],Pc.old w.heap.size w] wr)) (λi _=>m-(intOf i).toNat)
  ·obtain⟨WM,Z7,Z5⟩:=WT.o;exact⟨0,by omega,rfl,⟨_,WM,Z7,Z5⟩⟩
  obtain⟨k,Z3,rfl,Ki⟩:=hrel;obtain⟨Zo,WM,FQ,YC⟩:=Ki.o;have H7:=bx (ZR.o.trans ((YC.bel (n:=w.heap.size) (W0:=w) (by simp)).mono ZR.o.size));have KJ:=bx FQ;have Gy:=bx YC;have X3:=bx (show Z6 w wr from YC.bel (by simp));obtain⟨no,V5,rfl,LD,FX⟩:=UG (YC.row 0 rfl);have M2:=bx (YC.blk 1 rfl);have Lb:=bx (YC.blk 2 rfl);have MU:=bx (YC.blk 3 rfl);have g1:=MU.o.q0;have Om:=MU.o.lt;clear FQ YC Ki
  by_cases Zu:k<m
  ·obtain⟨x,Z4⟩:=Yg M.1 k (by omega);obtain⟨pa,UC,BT,UV,N9,RK,R0,T3⟩:=OC.o.get (by grind);obtain⟨rfl,rfl⟩:=XN UV;obtain⟨Sl,I6,TG⟩:=T3 k x Z4;obtain⟨J1,Pm,rfl⟩:=TG.slice;obtain⟨KX,Il⟩:=wP TG;have uS:=bx (uL TG 34);obtain⟨q,Zs⟩:∃q,(x.take 34).length=q:=⟨_,rfl⟩
   have Xy:=bx (show q=min 34 x.length by grind);rw[Zs]at uS;have U1:=bx (rb M.1 k x Z4);have Uw:=bx (show∀W,Z6 wr W->ZQ W (w.heap.size+1+1) 0=some (.slice no k V5)/\ZQ W w.heap.size 0=some (.slice (some ⟨pa,UC,none⟩) M.1.length ca)/\ZQ W pa (UC+k)=some (.slice J1 x.length Pm)from λW h=>
    ⟨(M2.o.below h M2.o.lt).q0,(MU.o.below h MU.o.lt).q0,((bt H7.o h).cell (p:=⟨pa,UC+k,none⟩) R0).trans I6⟩)
   have Y9:=bx (show Z6 wr wr.drew from⟨rfl,rfl,rfl,Wq _,λ_ _=>rfl⟩);have Xm:=bx Gy.o.drew;have v8:w.heap.size<=wr.drew.heap.size:=X3.o.size;have ay7:k<302:=by omega
   have PI:k<M.1.length:=by omega
   have zT:k<ca:=by omega
   have Ez:=M2.o.lt;unfold maxLen at RK;clear UV T3 Z4 I6 TG Zs;go_wp2_with fail
   rcases(show((34:Int)<(x.length:Int)/\(34:Int)<=(Pm:Int)/\q=34)\/(¬(34:Int)<(x.length:Int)/\(x.length:Int)<=(Pm:Int)/\q=x.length) by have:=Xy.o;omega)with⟨NB,xB,rfl⟩|⟨NB,xB,rfl⟩
   all_goals
    refine Vv 16 (λW=>ZQ W (w.heap.size+1+1) 0=some (.slice no k V5)/\ZQ W w.heap.size 0=some (.slice (some ⟨pa,UC,none⟩) M.1.length ca)/\ZQ W pa (UC+k)=some (.slice J1 x.length Pm)) (by rfl) ?_;have Ud:=bx (Uw.o _ Y9.o);have NT:=bx (λo=>Uw.o _ (Y9.o.alloc Y9.o.size o));generalize wr.drew=Yl at *;refine Vp [0,1,2,3,4,5,6,7,8,9,10,11,12,13,14] ?_
    iterate 15 (refine Vq ?_ rfl Ud.o ?_ ?_;rotate_left;·rintro w ⟨q1,q2,q3⟩;go_simp;try with_reducible rfl)
    refine Vr ?_;refine Y1 15 rfl λY7 ZX=>?_
    go_simp;refine ZX.out _ _ (λ_=>NT.o _) ?_;clear ZX Y7;refine Y1 16 rfl λY7 ZX=>?_
    refine H6 rfl _ _ 23 rfl qz Xm.o 0 rfl (by rfl) (by rfl) rfl (by omega) (by omega) v8 ?_;rintro Zy PM ON ⟨g9,Dp,rfl,awH,awI⟩;refine ZX.out _ _ (λh=>by cases h) ?_;clear ZX Y7;have UD:=bx (ON.blk 1 rfl);have z0:=(UD.o.cell 0).trans (show _=some (Value.slice no k V5)from rfl);have UB:=UD.o.frozen 0;have z2:=UD.o.lt;have of:=bx (ON.set 1 rfl 0 (.slice (some ⟨g9,0,none⟩) (k+1) Dp));clear ON;refine Y1 17 rfl λY7 ZX=>?_
    go_simp;refine ZX.out _ _ (λh=>by cases h) ?_;clear ZX Y7;refine Y1 18 rfl λY7 ZX=>?_
    go_simp;refine ZX.out _ _ (λh=>by cases h) ?_;clear ZX Y7;refine kD ?_ _;have ZE:=bx (show∃Zo WM,HQ YR WM ((M.1.take (k+1)).map wY)/\Sep [Pc.row w.heap.size 22 1 Zo (k+1) WM,Pc.blk (w.heap.size+1+1) 29 #[Zo,.slice WN Pb XG],Pc.blk (w.heap.size+1) 29 #[Z1,Z1],Pc.blk w.heap.size 29 #[.slice (some ⟨pa,UC,none⟩) M.1.length ca,.slice WN M.2.length XG],Pc.old w.heap.size w] _ by
     refine⟨_,_,?_,of.o⟩;rw[U1.o,T9];exact KJ.o.snoc uS.o)
    go_wp2
    go_roundw
    ·exact⟨k+1,Zu,by go_num,ZE⟩
    grind[intOf]
  have F1:k=m:=by omega
  have xh:=bx F1;have Zm:M.1.length<=k\/(k<M.1.length/\302<=k):=by have:=W3.o;omega
  have z0:=M2.o.q0;have UB:=M2.o.q1;have z2:=M2.o.lt;have RN:=(Lb.o.cell 0).trans (show _=some (Value.slice none 0 0)from rfl);have Vy:=(Lb.o.cell 1).trans (show _=some (Value.slice none 0 0)from rfl);have f0:=Lb.o.frozen 0;have f1:=Lb.o.frozen 1;have TX:=Lb.o.lt;have TP:=bx ((Gy.o.set 2 rfl 0 (.slice no k V5)).set 2 rfl 1 (.slice WN Pb XG));have oo:=bx (show(M.1.take k).map wY=(Ea M).1 by
   unfold Ea;simp only;rw[xh.o,W3.o]
   rcases Nat.le_total M.1.length 302 with h|h
   ·rw[tn h,OR,SU h];rfl
   rw[Nat.min_eq_right h];rfl)
  have Gp:=bx (show k=((M.1.take k).map wY).length by grind);clear F1
  rcases Zm with Zm|⟨Zm,EJ⟩
  all_goals
   go_wp2_with fail;have Hd:=TP.o.bel (n:=w.heap.size) (W0:=w) (by simp);refine bodyPost_ret (v:=.agg #[.slice no k V5,.slice WN Pb XG]) (results_cell_row results112 _ _ (w.heap.size+1) 29 _ (0,0) _ rfl (TP.o.blk 2 rfl) underlying29 rfl sz) rfl ⟨Hd,_,_,WM,rfl,?_,?_,JE.o⟩
   ·rw[<-oo.o];exact KJ.o
   rw[KJ.o.1,<-Gp.o];exact TP.o.row 0 rfl
theorem ava(v:Value)(l:List D.Rule)(YR w:World)(Z2:TQ YR v l)(Yn:Z6 YR w):
  Calls prog 110 #[v] w λe w'=>Z6 w w'/\∃Zy,e=.returned Zy/\∃L:List (D.Rule×Value×Value),L.map (·.1)=Bd l/\yP YR L/\w'.ownsRow w.heap.size 254 5 Zy L.length (L.flatMap H3):=by
 have ZK:=bx Z2;have ZR:=bx Yn;obtain⟨XH,ZU,rfl⟩:=Z2.slice;obtain⟨m,hm⟩:∃m,m=min l.length 42:=⟨_,rfl⟩
 have W3:=bx hm;have Pg:m<=l.length:=by omega
 have Oo:m<=42:=by omega
 have XI:=bx (show∃L:List (D.Rule×Value×Value),L.length=0/\L.map (·.1)=(l.take 0).map AM/\yP YR L/\Sep [Pc.row w.heap.size 254 5 Z1 0 (L.flatMap H3),Pc.old w.heap.size w] w from
  ⟨[],rfl,rfl,λy ZJ=>absurd ZJ RH,(Sep.start w).aH _ _ _⟩)
 clear Z2 hm Yn
 go_in
 go_wp2_with fail
 go_loopw[3,4] (λo i wr=>∃k:Nat,k<=m/\i=Z9 k/\Box (∃L:List (D.Rule×Value×Value),L.length=k/\L.map (·.1)=(l.take k).map AM/\yP YR L/\Sep [Pc.row w.heap.size 254 5 o k (L.flatMap H3),Pc.old w.heap.size w] wr)) (λ_ i _=>m-(intOf i).toNat)
 ·grind
 obtain⟨k,Z3,rfl,Ki⟩:=hrel;obtain⟨L,K9,Kj,Dh,YC⟩:=Ki.o;have X3:=bx (show Z6 w wr from YC.bel (by simp));have H7:=bx (bt ZR.o X3.o);have Xg:=bx K9;have UI:=bx Kj;have Ro:=bx Dh;have Gy:=bx YC;obtain⟨UP,Wr,rfl,J8,MF⟩:=UG (YC.row 0 rfl);clear Ki K9 Kj Dh YC
 by_cases Zu:k<m
 ·obtain⟨x,Z4⟩:=Yg l k (by omega);obtain⟨SX,off,XV,Y5,XL,Yi,XB,YX⟩:=(ZK.o.below H7.o).get (by grind);obtain⟨rfl,rfl⟩:=XN Y5;obtain⟨Vj,Ym,Vl,W2,VM,Ph,Is,QI,N7⟩:=YX k x Z4;obtain⟨awr,xu,azd,axF,axG,axH,ahp,ahq⟩:=ZK.o.get (by grind);obtain⟨rfl,rfl⟩:SX=awr/\off=xu:=by grind
  obtain⟨aya,ayb,axz,ahl,axA,ahm,axB,so,r0⟩:=ahq k x Z4;obtain rfl:Vj=aya:=by
   have:=(H7.o.cell (p:=⟨SX,off+k*5+1,none⟩) ahp).trans ahl;grind
  obtain rfl:Ym=ayb:=by
   have:=(H7.o.cell (p:=⟨SX,off+k*5+3,none⟩) ahp).trans ahm;grind
  have TJ:=bx (λW(h:Z6 YR W)=>bi x.1.1 Vj x.1.2 W (so.below h));have jl:=bx (λW(h:Z6 YR W)=>bi x.2.1.1 Ym x.2.1.2 W (r0.below h));have Gp:=bx so;have iZ:=bx r0;have U1:=bx (rb l k x Z4);have ayY:k<42:=by omega
  have PI:k<l.length:=by omega
  have zT:k<ZU:=by omega
  unfold maxLen at Yi;obtain⟨x8,YJ,rfl⟩:=so.slice;obtain⟨Dq,X5,rfl⟩:=r0.slice;obtain⟨⟨KL,LB⟩,⟨str,LA⟩,Mc⟩:=x;simp only at Vl W2 VM Ph Is TJ jl Gp iZ;have Uw:=bx (show∀W,Z6 wr W->ZQ W SX (off+k*5)=some (.bool KL)/\ZQ W SX (off+k*5+1)=some (.slice x8 LB.length YJ)/\ZQ W SX (off+k*5+2)=some (.bool str)/\ZQ W SX (off+k*5+3)=some (.slice Dq LA.length X5)/\ZQ W SX (off+k*5+4)=some (.bool Mc)from λW h=>
   ⟨(h.cell (p:=⟨SX,off+k*5,none⟩) XB).trans Vl,(h.cell (p:=⟨SX,off+k*5+1,none⟩) XB).trans W2,(h.cell (p:=⟨SX,off+k*5+2,none⟩) XB).trans VM,(h.cell (p:=⟨SX,off+k*5+3,none⟩) XB).trans Ph,(h.cell (p:=⟨SX,off+k*5+4,none⟩) XB).trans Is⟩)
  have Y9:=bx (show Z6 wr wr.drew from⟨rfl,rfl,rfl,Wq _,λ_ _=>rfl⟩);clear Y5 YX axF ahq QI N7 so r0 axz ahl axA ahm axB Vl W2 VM Ph Is Z4 axG axH;go_wp2_with fail;refine Vv 20 (λW=>ZQ W SX (off+k*5)=some (.bool KL)/\ZQ W SX (off+k*5+1)=some (.slice x8 LB.length YJ)/\ZQ W SX (off+k*5+2)=some (.bool str)/\ZQ W SX (off+k*5+3)=some (.slice Dq LA.length X5)/\ZQ W SX (off+k*5+4)=some (.bool Mc)) (by rfl) ?_;have Ud:=bx (Uw.o _ Y9.o);refine Vp [0,1,2,3,4,5,7,8,9,10,11,13,14,15,16,17] ?_
  iterate 16 (refine Vq ?_ rfl Ud.o ?_ ?_;rotate_left;·rintro w ⟨q1,q2,q3,q4,q5⟩;go_simp;try with_reducible rfl)
  refine Vr ?_;refine Y1 6 rfl λY7 ZX=>?_
  go_simp;go_wp2_with (go_at_call 197;refine(TJ.o _ (bt H7.o Y9.o)).mono ?_;rintro e Xi ⟨⟨aAX,rfl,I7⟩,Rh⟩)
  have XM:=bx (show Z6 wr Xi from Y9.o.trans (Rh.mono Ys));have GD:=bx (I7 YR Gp.o);clear Rh I7;refine ZX.out _ _ (λ_=>Uw.o _ XM.o) ?_;clear ZX Y7;refine Y1 12 rfl λY7 ZX=>?_
  go_simp;go_wp2_with (go_at_call 197;refine(jl.o _ (bt H7.o XM.o)).mono ?_;rintro e Va ⟨⟨aAY,rfl,Fg⟩,Rx⟩)
  have Tw:=bx (bt XM.o Rx);have BX:=bx (Fg YR iZ.o);clear Rx Fg;refine ZX.out _ _ (λ_=>Uw.o _ Tw.o) ?_;clear ZX Y7;obtain⟨adv,afz,SN⟩:=GD.o.slice;obtain⟨afy,afA,KZ⟩:=BX.o.slice;generalize(LB.take 12).length=nl at SN;generalize(LA.take 12).length=nr at KZ;subst SN;subst KZ;refine Y1 18 rfl λY7 ZX=>?_
  go_simp;refine ZX.out _ _ (λ_=>Uw.o _ Tw.o) ?_;clear ZX Y7;refine Y1 19 rfl λY7 ZX=>?_
  go_simp;refine ZX.out _ _ (λ_=>Uw.o _ (Tw.o.alloc Tw.o.size _)) ?_;clear ZX Y7;have TS:=bx (Gy.o.below Tw.o);have atn:=XJ X3.o.size Tw.o.size;refine Y1 20 rfl λY7 ZX=>?_
  refine ac1 (cs:=H3 (AM ((KL,LB),(str,LA),Mc),.slice adv nl afz,.slice afy nr afA)) rfl _ _ 26 rfl abe (by decide) TS.o 0 rfl (by rfl) (by rfl) rfl (by intro u hu;simp only[H3,T7,RH,or_false]at hu;rcases hu with rfl|rfl|rfl|rfl|rfl <;> rfl) (by omega) (by omega) atn ?_;rintro Zy PM ON -;refine ZX.out _ _ (λh=>by cases h) ?_;clear ZX Y7;refine Y1 21 rfl λY7 ZX=>?_
  go_simp;refine ZX.out _ _ (λh=>by cases h) ?_;clear ZX Y7;refine kD ?_ _;have ZE:=bx (show∃L:List (D.Rule×Value×Value),L.length=k+1/\L.map (·.1)=(l.take (k+1)).map AM/\yP YR L/\Sep [Pc.row w.heap.size 254 5 Zy (k+1) (L.flatMap H3),Pc.old w.heap.size w] PM by
   refine⟨L++[(AM ((KL,LB),(str,LA),Mc),.slice adv nl afz,.slice afy nr afA)],?_,?_,?_,?_⟩
   ·rw[WR,Xg.o];rfl
   ·rw[T9,UI.o,U1.o,T9];rfl
   ·intro y ZJ
    rcases Nb.1 ZJ with h|h
    ·exact Ro.o y h
    rw[Pe.1 h];exact⟨GD.o,BX.o⟩
   grind)
  clear ON
  go_wp2
  go_roundw
  ·exact⟨k+1,Zu,by go_num,ZE⟩
  grind[intOf]
 have F1:k=m:=by omega
 have xh:=bx F1;have Zm:l.length<=k\/(k<l.length/\42<=k):=by have:=W3.o;omega
 clear F1
 rcases Zm with Zm|⟨Zm,EJ⟩
 all_goals
  go_wp2
  go_ret
  refine⟨X3.o,_,rfl,L,?_,Ro.o,by rw[Xg.o];exact Gy.o.row 0 rfl⟩;rw[UI.o];grind[Bd]
end
section
attribute[local go_sem] lV nD
def Lt(n:Int):Nat:=
 if n=0 then 0 else if n=128 then 4638707616191610880 else if n=143 then 4639235381772943360 else if n=144 then 4639270566145032192
 else if n=159 then 4639798331726364672 else if n=160 then 4639833516098453504 else 4640924231633207296
def DP(c:Int):Int:=if U.af c<0 then 0 else U.af c
def B4(c:Int):Value:=.agg #[.int .u8 (U.aD c),Z9 (DP c),.complex .f64 (Lt (U.ax c)) (Lt (U.ay c))]
theorem hh{c m n lo hi:Int}{a b:Nat}(Z7:U.aD c=m)(Z5:DP c=n)(ZS:U.ax c=lo)(ZG:U.ay c=hi)(Zi:Lt lo=a)(Yu:Lt hi=b):
  Value.agg #[.int .u8 m,Z9 n,.complex .f64 a b]=B4 c:=by subst Z7 Z5 ZS ZG Zi Yu;rfl
theorem wz{c m n lo hi:Int}{a b:Nat}(Z5:U.af c=n)(ZP:0<=n)(Z7:U.aD c=m)(ZS:U.ax c=lo)(ZG:U.ay c=hi)(Zi:Lt lo=a)(Yu:Lt hi=b):
  Value.agg #[.int .u8 m,Z9 n,.complex .f64 a b]=B4 c:=hh Z7 (by grind[DP]) ZS ZG Zi Yu
theorem atf(w:World):(zeroValue 324).run prog w=.ok (.agg #[.int .u8 0,Z9 0,.complex .f64 0 0]) w:=by rfl
def Zq:MapEntry:=⟨.int .u8 224,.agg #[.int .u8 224,Z9 2,.complex .f64 4639833516098453504 4640924231633207296],0⟩
def YP:MapEntry:=⟨.int .u8 237,.agg #[.int .u8 224,Z9 2,.complex .f64 4638707616191610880 4639798331726364672],1⟩
def Yb:MapEntry:=⟨.int .u8 240,.agg #[.int .u8 240,Z9 3,.complex .f64 4639270566145032192 4640924231633207296],2⟩
def WW:MapEntry:=⟨.int .u8 244,.agg #[.int .u8 240,Z9 3,.complex .f64 4638707616191610880 4639235381772943360],3⟩
theorem anF(c:Int)(h:¬c=224/\¬c=237/\¬c=240/\¬c=244):Instr.findNow (.int .u8) (.int .u8 c) [Zq,YP,Yb,WW] 0=some none:=by
 obtain⟨Z7,Z5,ZS,ZG⟩:=h
 replace Z7:=Sz.2 Z7
 replace Z5:=Sz.2 Z5
 replace ZS:=Sz.2 ZS
 replace ZG:=Sz.2 ZG
 simp only[Instr.findNow,Instr.sameNow,Zq,YP,Yb,WW,Z7,Z5,ZS,ZG,if_true]
theorem aok(c:Int)(ZI:0<=c)(Z7:c<256)(w:World):
  Calls prog 237 #[.int .u8 c] w λe w'=>e=.returned (B4 c)/\Z6 w w':=by
 have J9:=@run_makeMap prog;have D9:=λ(W:World)(o:Obj)=>IU (P:=prog) underlying378 underlying5 (W.alloc o) #[] 0 224 Zq.val (W.heap.size+1) (by simp) rfl
 have DO:=λ(W:World)(o:Obj)=>IU (P:=prog) underlying378 underlying5 (W.alloc o) #[Zq] 1 237 YP.val (W.heap.size+1) (by simp) rfl
 have D0:=λ(W:World)(o:Obj)=>IU (P:=prog) underlying378 underlying5 (W.alloc o) #[Zq,YP] 2 240 Yb.val (W.heap.size+1) (by simp) rfl
 have akj:=λ(W:World)(o:Obj)=>IU (P:=prog) underlying378 underlying5 (W.alloc o) #[Zq,YP,Yb] 3 244 WW.val (W.heap.size+1) (by simp) rfl
 simp only[Og,RQ,SI,Zq,YP,Yb,WW,Nat.reduceAdd,Nat.zero_add]at D9 DO D0 akj
 by_cases Z0:¬c=224/\¬c=237/\¬c=240/\¬c=244
 ·have Ug:=λ(W:World)(o:Obj)=>anb (P:=prog) underlying378 underlying5 ((W.alloc o).alloc (.map #[Zq,YP,Yb,WW] 4)) #[Zq,YP,Yb,WW] 4 c (W.heap.size+1) (y0 _ _ _ (by simp)) _ (atf _) (anF c Z0)
  simp only[Zq,YP,Yb,WW]at Ug;obtain⟨Ii,CR,FL,Ey⟩:=Z0
  go_in
  go_wp2
  all_goals go_returns
  all_goals first
   |exact⟨Lg (wz (lo:=128) (hi:=191) (by unfold U.af;repeat' (first|omega|split)) (by omega) (by grind[U.aD,U.af]) (by unfold U.ax U.af;repeat' (first|omega|split)) (by unfold U.ay U.af;repeat' (first|omega|split)) rfl rfl),((YU.alloc Ys _).alloc (by simp) _).alloc (by simp;omega) _⟩
   |exact⟨Lg (hh (lo:=0) (hi:=0) (by grind[U.aD,U.af]) (by grind[DP,U.af]) (by grind[U.ax,U.af]) (by grind[U.ay,U.af]) rfl rfl),((YU.alloc Ys _).alloc (by simp) _).alloc (by simp;omega) _⟩
 have Z0:c=224\/c=237\/c=240\/c=244:=by omega
 rcases Z0 with Z0|Z0|Z0|Z0
 ·subst Z0;have Ug:=λ(W:World)(o:Obj)=>ri (P:=prog) underlying378 underlying5 ((W.alloc o).alloc (.map #[Zq,YP,Yb,WW] 4)) #[Zq,YP,Yb,WW] 4 224 (W.heap.size+1) (y0 _ _ _ (by simp)) 0 Zq.val rfl
  simp only[Zq,YP,Yb,WW]at Ug
  go_in
  go_wp2
  go_returns
  exact⟨Lg (wz (lo:=160) (hi:=191) rfl (by decide) rfl rfl rfl rfl rfl),((YU.alloc Ys _).alloc (by simp) _).alloc (by simp;omega) _⟩
 ·subst Z0;have Ug:=λ(W:World)(o:Obj)=>ri (P:=prog) underlying378 underlying5 ((W.alloc o).alloc (.map #[Zq,YP,Yb,WW] 4)) #[Zq,YP,Yb,WW] 4 237 (W.heap.size+1) (y0 _ _ _ (by simp)) 1 YP.val rfl
  simp only[Zq,YP,Yb,WW]at Ug
  go_in
  go_wp2
  go_returns
  exact⟨Lg (wz (lo:=128) (hi:=159) rfl (by decide) rfl rfl rfl rfl rfl),((YU.alloc Ys _).alloc (by simp) _).alloc (by simp;omega) _⟩
 ·subst Z0;have Ug:=λ(W:World)(o:Obj)=>ri (P:=prog) underlying378 underlying5 ((W.alloc o).alloc (.map #[Zq,YP,Yb,WW] 4)) #[Zq,YP,Yb,WW] 4 240 (W.heap.size+1) (y0 _ _ _ (by simp)) 2 Yb.val rfl
  simp only[Zq,YP,Yb,WW]at Ug
  go_in
  go_wp2
  go_returns
  exact⟨Lg (wz (lo:=144) (hi:=191) rfl (by decide) rfl rfl rfl rfl rfl),((YU.alloc Ys _).alloc (by simp) _).alloc (by simp;omega) _⟩
 subst Z0;have Ug:=λ(W:World)(o:Obj)=>ri (P:=prog) underlying378 underlying5 ((W.alloc o).alloc (.map #[Zq,YP,Yb,WW] 4)) #[Zq,YP,Yb,WW] 4 244 (W.heap.size+1) (y0 _ _ _ (by simp)) 3 WW.val rfl
 simp only[Zq,YP,Yb,WW]at Ug
 go_in
 go_wp2
 go_returns
 exact⟨Lg (wz (lo:=128) (hi:=143) rfl (by decide) rfl rfl rfl rfl rfl),((YU.alloc Ys _).alloc (by simp) _).alloc (by simp;omega) _⟩
theorem anX:∀d:Fin 256,∀n∈[(0:Int),128,143,144,159,160,191],
  ((FloatKind.f64.format.order (FloatKind.f64.nearest (d.val:Int)) (Lt n)==some .gt)||(FloatKind.f64.format.order (FloatKind.f64.nearest (d.val:Int)) (Lt n)==some .eq))=decide (n<=(d.val:Int)):=by decide +kernel
theorem aqe:∀d:Fin 256,∀n∈[(0:Int),128,143,144,159,160,191],
  ((FloatKind.f64.format.order (FloatKind.f64.nearest (d.val:Int)) (Lt n)==some .lt)||(FloatKind.f64.format.order (FloatKind.f64.nearest (d.val:Int)) (Lt n)==some .eq))=decide ((d.val:Int)<=n):=by decide +kernel
theorem ae4:∀n∈[(0:Int),128,143,144,159,160,191],(FloatKind.f64.format.order (Lt n) 0==some .eq)=decide (n=0):=by decide +kernel
theorem aan(c:Int):U.ax c∈[(0:Int),128,143,144,159,160,191]:=by grind[U.ax]
theorem aed(c:Int):U.ay c∈[(0:Int),128,143,144,159,160,191]:=by grind[U.ay]
end
section
attribute[local go_sem] lV nD
theorem awb(c:Int):U.ax c=0↔U.af c<0:=by grind[U.ax]
theorem avA(c:Int):U.ay c=0↔U.af c<0:=by grind[U.ay]
theorem aob{P:Program}{T:TypeId}(Yo:P.underlying T=some (.complex .f64))(a b x y:Nat)(W:World)(d:Nat):
  (Op.equalIn (d+1) T (.complex .f64 a b) (.complex .f64 x y)).run P W=.ok ((FloatKind.f64.format.order a x==some .eq)&&(FloatKind.f64.format.order b y==some .eq)) W:=by
 simp[Op.equalIn,run_underlying Yo,Op.floatEq]
theorem aqx(c:Int)(W:World):
  (Op.equalIn 9999 322 (.complex .f64 (Lt (U.ax c)) (Lt (U.ay c))) (.complex .f64 0 0)).run prog W=.ok (decide (U.af c<0)) W:=by
 rw[aob (d:=9998) underlying322,ae4 _ (aan c),ae4 _ (aed c)]
 simp[awb,avA]
theorem akv(c:Int)(w:World):
  Calls prog 238 #[B4 c] w λe w'=>e=.returned (.bool (decide (0<=U.af c)))/\Z6 w w':=by
 unfold B4;have he:=aqx c;have hm:¬U.aD c=0->0<=U.af c:=by grind[U.aD]
 have ZP:¬DP c=0->0<=U.af c:=by grind[DP]
 have W3:=bx hm;have ZE:=bx ZP;clear hm ZP
 go_in
 go_wp2
 all_goals go_returns
 all_goals
  have a1:=W3.o;have a2:=ZE.o;exact⟨YG (by grind),(YU.alloc Ys _).alloc (by simp) _⟩
theorem apT(c d:Int)(ZI:0<=d)(Z7:d<256)(w:World):
  Calls prog 239 #[B4 c,.int .u8 d] w λe w'=>e=.returned (.bool (decide (U.ax c<=d)&&decide (d<=U.ay c)))/\Z6 w w':=by
 unfold B4;have Zq:=anX ⟨d.toNat,by omega⟩ _ (aan c);have YP:=aqe ⟨d.toNat,by omega⟩ _ (aed c);have Yb:((d.toNat:Nat):Int)=d:=by omega
 simp only[Yb]at Zq YP;have Yz:floatOfInt FloatKind.f64 d=FloatKind.f64.nearest d:=rfl;clear Yb
 go_in
 go_wp2
 all_goals go_returns
 all_goals exact⟨YG (by grind),YU.alloc Ys _⟩
theorem ao2(A:Nat->Addr)(B:Nat)(w:World)(YN:E A B w):
  Calls prog 90 #[PE A 2] w λe w'=>e=.returned (Z9 10)/\w=w':=by
 have YV:=YN.cell 2 (by decide);have c1:=YN.cell 3 (by decide);unfold PE
 go_in
 go_wp2_with fail;refine YW (is_same _ _) ?_
 go_wp2
 go_ret
 simp
theorem aoO(A:Nat->Addr)(B:Nat)(w:World)(YN:E A B w):
  Calls prog 90 #[PE A 3] w λe w'=>e=.returned (Z9 11)/\w=w':=by
 have YV:=YN.cell 2 (by decide);have c1:=YN.cell 3 (by decide);have H:=bx (amJ YN 3 2 (by decide) (by decide));unfold PE
 go_in
 go_wp2_with fail;refine YW H.o ?_;go_wp2_with fail;refine YW (is_same _ _) ?_
 go_wp2
 go_ret
 simp
theorem take_any(b o:Nat)(s:ByteArray)(n:Nat)(w:World)(ZP:n<=s.size)(_:s.size<=maxLen)(ZL:w.cell? ⟨b,o,none⟩=some (.string s))(Yz:w.frozen? ⟨b,o,none⟩=false):
  Calls prog 240 #[.pointer (some ⟨b,o,none⟩),Z9 (n:Int)] w λe w'=>e=.returned (.string (s.extract 0 n))/\w.setCell ⟨b,o,none⟩ (.string (s.extract n s.size))=w':=by
 go_in
 go_wp2
 all_goals go_ways
 go_ret
 simp
end
section
attribute[local go_sem] lV nD
structure RS(YR:World)(b xb:Nat)(s:ByteArray)(SV:Value)(m n:Int)(p q:Nat)(w:World):Prop where
 r:Zv w b 152 #[.string s,SV]
 x:Zv w xb 324 #[.int .u8 m,Z9 n,.complex .f64 p q]
 g:YR.grownBy w (some b)
 lt:b<YR.heap.size
 xb:YR.heap.size<=xb
section
variable {YR w w':World} {b xb:Nat} {s s':ByteArray} {SV afI:Value} {m n m' n':Int} {p q p' q':Nat}
theorem RS.below(h:RS YR b xb s SV m n p q w)(Z8:Z6 w w'):RS YR b xb s SV m n p q w' :=
 ⟨h.r.below Z8 h.r.lt,h.x.below Z8 h.x.lt,adN h.g (gQ Z8 _),h.lt,h.xb⟩
theorem RS.drew(h:RS YR b xb s SV m n p q w):RS YR b xb s SV m n p q w.drew:=⟨h.r,h.x,auy h.g,h.lt,h.xb⟩
theorem RS.alloc(h:RS YR b xb s SV m n p q w)(o:Obj):RS YR b xb s SV m n p q (w.alloc o):=⟨h.r.alloc o,h.x.alloc o,nG h.g o,h.lt,h.xb⟩
theorem RS.ne(h:RS YR b xb s SV m n p q w):xb≠b:=by have:=h.lt;have:=h.xb;omega
theorem RS.ati(h:RS YR b xb s SV m n p q w):RS YR b xb s' SV m n p q (w.setCell ⟨b,0,none⟩ (.string s')):=
 ⟨h.r.ai 0 _,h.x.far (p:=⟨b,0,none⟩) h.ne _,zi h.g (.inl rfl) _,h.lt,h.xb⟩
theorem RS.cF(h:RS YR b xb s SV m n p q w):RS YR b xb s afI m n p q (w.setCell ⟨b,1,none⟩ afI):=
 ⟨h.r.ai 1 _,h.x.far (p:=⟨b,1,none⟩) h.ne _,zi h.g (.inl rfl) _,h.lt,h.xb⟩
theorem RS.av0(h:RS YR b xb s SV m n p q w):RS YR b xb s SV m' n' p' q' (((w.setCell ⟨xb,0,none⟩ (.int .u8 m')).setCell ⟨xb,1,none⟩ (Z9 n')).setCell ⟨xb,2,none⟩ (.complex .f64 p' q')):=
 ⟨((h.r.far (p:=⟨xb,0,none⟩) h.ne.symm _).far (p:=⟨xb,1,none⟩) h.ne.symm _).far (p:=⟨xb,2,none⟩) h.ne.symm _,
  ((h.x.ai 0 _).ai 1 _).ai 2 _,
  zi (zi (zi h.g (.inr h.xb) _) (.inr h.xb) _) (.inr h.xb) _,h.lt,h.xb⟩
theorem RS.new{ty:TypeId}(Z8:Zv w b 152 #[.string s,SV])(h:Below (w.alloc (.cells #[.int .u8 m,Z9 n,.complex .f64 p q] ty)).heap.size (w.alloc (.cells #[.int .u8 m,Z9 n,.complex .f64 p q] ty)) w')(ZM:ty=324):RS w b w.heap.size s SV m n p q w':=by
 subst ZM;exact⟨(Z8.alloc _).below h (Z8.alloc _).lt,(Zv.new w _ _).below h (Zv.new w _ _).lt,adN (nG (World.grownBy.refl w _) _) (gQ h _),Z8.lt,Wq _⟩
theorem RS.facts(h:RS YR b xb s SV m n p q w):w.cell? ⟨b,0,none⟩=some (.string s)/\w.cell? ⟨b,1,none⟩=some SV/\w.frozen? ⟨b,0,none⟩=false/\w.frozen? ⟨b,1,none⟩=false/\
  w.cell? ⟨xb,0,none⟩=some (.int .u8 m)/\w.cell? ⟨xb,1,none⟩=some (Z9 n)/\w.cell? ⟨xb,2,none⟩=some (.complex .f64 p q)/\
  w.frozen? ⟨xb,0,none⟩=false/\w.frozen? ⟨xb,1,none⟩=false/\w.frozen? ⟨xb,2,none⟩=false:=
 ⟨h.r.q0,h.r.q1,h.r.frozen 0,h.r.frozen 1,h.x.q0,h.x.q1,h.x.q2,h.x.frozen 0,h.x.frozen 1,h.x.frozen 2⟩
end
def Ar(A:Nat->Addr)(b:Nat)(s:ByteArray)(SV:Value)(w:World)(e:Ending)(w':World):Prop:=
 match U.dec s.data.toList with
 |none=>e=.returned (.tuple #[Z9 0,Z9 0])/\Zv w' b 152 #[.string s,PE A 3]/\w.grownBy w' (some b)
 |some (r,n)=>e=.returned (.tuple #[Z9 r,Z9 (n:Int)])/\Zv w' b 152 #[.string (s.extract n s.size),SV]/\w.grownBy w' (some b)
theorem yO{A:Nat->Addr}{b:Nat}{s:ByteArray}{SV:Value}{w w':World}{e:Ending}(h:U.dec s.data.toList=none)(he:e=.returned (.tuple #[Z9 0,Z9 0]))(Z8:Zv w' b 152 #[.string s,PE A 3])(ZH:w.grownBy w' (some b)):Ar A b s SV w e w':=by
 grind[Ar]
theorem ao0{A:Nat->Addr}{b:Nat}{s:ByteArray}{SV:Value}{w w':World}{e:Ending}{r:Int}{n:Nat}(h:U.dec s.data.toList=some (r,n))(he:e=.returned (.tuple #[Z9 r,Z9 (n:Int)]))(Z8:Zv w' b 152 #[.string (s.extract n s.size),SV])(ZH:w.grownBy w' (some b)):Ar A b s SV w e w':=by
 grind[Ar]
theorem next_any(A:Nat->Addr)(B b:Nat)(SV:Value)(s:ByteArray)(w:World)(Z0:s.size<=maxLen)(YN:E A B w)(hB:B<=b)(Z8:Zv w b 152 #[.string s,SV]):
  Calls prog 161 #[Zn b] w (Ar A b s SV w):=by
 unfold maxLen at Z0;have Xn:=bx YN;have V3:=bx Z8;have Vl:w.cell? ⟨b,0,none⟩=some (.string s):=(Z8.cell 0).trans rfl;have W2:w.cell? ⟨b,1,none⟩=some SV:=(Z8.cell 1).trans rfl;have MH:=Z8.frozen 1;have az5:=Z8.lt;have Zq:=YN.cell 3 (by decide);have F0:3<w.heap.size:=by have:=(YN.lt 3 (by decide)).1;omega
 clear YN Z8
 cases hl:s.data.toList with
 |nil=>
  have ZY:=isEmpty_nil hl;have Xf:=bx (show U.dec s.data.toList=none by rw[hl];rfl);clear hl
  go_in
  go_wp2_with fail;refine Nr 0 rfl ?_;go_wp2_with fail
  go_step3
  refine⟨rfl,?_⟩;go_wp2_with fail;rw[Exit.noGoto_ret];go_ret2;exact yO Xf.o rfl ((V3.o.ai 1 _).alloc _) (nG (zi (World.grownBy.refl w _) (.inl rfl) _) _)
 |cons c t=>
 clear W2 MH Zq F0;have ZY:=isEmpty_cons hl;have i0:=JT underlying9 s 0 (d:=c) (by rw[hl];rfl) 0 rfl;have W1:(s.size:Int)=t.length+1:=by rw[size_eq,hl];simp
 have ZN:=bx (show B4 (U.aa c)=.agg #[.int .u8 (U.aD (U.aa c)),Z9 (DP (U.aa c)),.complex .f64 (Lt (U.ax (U.aa c))) (Lt (U.ay (U.aa c)))]from rfl);have WS:=λW=>aok (U.aa c) (U.bl c) (U.bo c) W
 have UW:=λW=>akv (U.aa c) W
 have hS:=λd W=>apT (U.aa c) (U.aa d) (U.bl d) (U.bo d) W
 rw[ZN.o]at WS UW;simp only[ZN.o]at hS;have ZE:=bx (show DP (U.aa c)=if U.af (U.aa c)<0 then 0 else U.af (U.aa c)from rfl);have W4:=bx hl;have V9:=U.bo c;have ug:=U.bl c;have W3:=bx (U.auh (U.aa c) ug V9);generalize Lt (U.ax (U.aa c))=p at *;generalize Lt (U.ay (U.aa c))=q at *;generalize hm:U.aD (U.aa c)=m at *;generalize ZP:DP (U.aa c)=n at *;have yH:=bx hm;have ZK:=bx WS;have YE:=bx UW;have Xe:=bx hS;have LP:=bx W1;clear hl WS UW hS hm ZP W1 ZN
 go_in
 go_wp2_with fail;refine Nr 0 rfl ?_;go_wp2_with fail;refine(ZK.o _).mono ?_;rintro e ZV ⟨rfl,ZZ⟩;have oM:=RS.new V3.o ZZ rfl;clear ZZ Vl;obtain⟨-,-,-,-,Ws,XX,V2,g0,g1,g2⟩:=oM.facts;go_wp2_with fail;clear Ws XX V2 g0 g1 g2;have Gh:=oM.av0 (m':=m) (n':=n) (p':=p) (q':=q);generalize((ZV.setCell ⟨w.heap.size,0,none⟩ (.int .u8 m)).setCell ⟨w.heap.size,1,none⟩ (Z9 n)).setCell ⟨w.heap.size,2,none⟩ (.complex .f64 p q)=YK at Gh⊢;clear oM;have q0:∀k:CW (RS w b w.heap.size s SV m n p q),k.w.cell? ⟨b,0,none⟩=some (.string s):=λk=>k.h.facts.1
 have q1:∀k:CW (RS w b w.heap.size s SV m n p q),k.w.cell? ⟨w.heap.size,0,none⟩=some (.int .u8 m):=λk=>k.h.facts.2.2.2.2.1
 have q2:∀k:CW (RS w b w.heap.size s SV m n p q),k.w.cell? ⟨w.heap.size,1,none⟩=some (Z9 n):=λk=>k.h.facts.2.2.2.2.2.1
 have q3:∀k:CW (RS w b w.heap.size s SV m n p q),k.w.cell? ⟨w.heap.size,2,none⟩=some (.complex .f64 p q):=λk=>k.h.facts.2.2.2.2.2.2.1
 by_cases Zp:U.af (U.aa c)<0
 ·have Z7:decide (0<=U.af (U.aa c))=false:=by rw[Bv];omega
  have Aw:=YE.o;rw[Z7]at Aw;have Oy:=bx Aw;have Xf:=bx (show U.dec s.data.toList=none by rw[W4.o];exact U.dZ Zp);clear Aw Z7;refine OL (RS w b w.heap.size s SV m n p q) (by kernel_rfl) (by kernel_rfl) Gh.drew (λXq=>?_);clear Gh
  repeat (any_goals (first
   |go_big_quiet_step (first|(go_at_call 238;exact Kw (Oy.o _) (λ_ Z8=>RS.below (CW.h _) Z8)))
   |quiet_step (first|(go_at_call 238;exact Kw (Oy.o _) (λ_ Z8=>RS.below (CW.h _) Z8)))))
  refine wpQuiet_nil ?_;rintro ZB ⟨⟨_,Md⟩,rfl⟩;clear q0 q1 q2 q3 Xq;have Zq:=(Xn.o.below (A6 Md.g hB (by omega))).cell 3 (by decide);obtain⟨RN,Vy,TX,Qa,-⟩:=Md.facts;go_wp2_with fail
  go_step3
  refine⟨rfl,?_⟩;go_wp2_with fail;rw[Exit.noGoto_ret];go_ret2;exact yO Xf.o rfl Md.cF.r Md.cF.g
 have tO:n=U.af (U.aa c):=by have:=ZE.o;rw[Y4 Zp]at this;exact this
 have Z7:decide (0<=U.af (U.aa c))=true:=by rw[SS];omega
 have Aw:=YE.o;rw[Z7]at Aw;have Oy:=bx Aw;have py:0<=n:=by omega
 have FL:n<=3:=by have:=U.cY (U.aa c);omega
 have Mr:=bx tO;have SG:=bx (show 0<=U.af (U.aa c) by omega);clear Aw Z7 tO Zp
 by_cases Ty:(s.size:Int)<=n
 ·have Zm:decide ((s.size:Int)<=n)=true:=by rw[SS];omega
  have Xf:=bx (show U.dec s.data.toList=none by rw[W4.o];exact U.fE (by have:=LP.o;have:=Mr.o;omega));refine OL (RS w b w.heap.size s SV m n p q) (by kernel_rfl) (by kernel_rfl) Gh.drew (λXq=>?_);clear Gh
  repeat (any_goals (first
   |go_big_quiet_step (first|(go_at_call 238;exact Kw (Oy.o _) (λ_ Z8=>RS.below (CW.h _) Z8)))
   |quiet_step (first|(go_at_call 238;exact Kw (Oy.o _) (λ_ Z8=>RS.below (CW.h _) Z8)))))
  refine wpQuiet_nil ?_;rintro ZB ⟨⟨_,Md⟩,rfl⟩;clear q0 q1 q2 q3 Xq;have Zq:=(Xn.o.below (A6 Md.g hB (by omega))).cell 3 (by decide);obtain⟨RN,Vy,TX,Qa,-⟩:=Md.facts;go_wp2_with fail
  go_step3
  refine⟨rfl,?_⟩;go_wp2_with fail;rw[Exit.noGoto_ret];go_ret2;exact yO Xf.o rfl Md.cF.r Md.cF.g
 have Zm:decide ((s.size:Int)<=n)=false:=by rw[Bv];omega
 have Vs:n=0\/0<n:=by omega
 rcases Vs with Vs|Vs
 case' inl=>
  have ue:decide (0<n)=false:=by rw[Bv];omega
  have abS:=bx (show n=0\/∃d1 TI,t=d1::TI/\U.ax (U.aa c)<=U.aa d1/\U.aa d1<=U.ay (U.aa c)from .inl Vs);clear Vs;refine OL (RS w b w.heap.size s SV m n p q) (by kernel_rfl) (by kernel_rfl) Gh.drew (λXq=>?_);clear Gh
  repeat (any_goals (first
   |go_big_quiet_step (first|(go_at_call 238;exact Kw (Oy.o _) (λ_ Z8=>RS.below (CW.h _) Z8)))
   |quiet_step (first|(go_at_call 238;exact Kw (Oy.o _) (λ_ Z8=>RS.below (CW.h _) Z8)))))
  refine wpQuiet_nil ?_;rintro ZB ⟨⟨_,Md⟩,rfl⟩;clear q0 q1 q2 q3 Xq
 case' inr=>
  have ue:decide (0<n)=true:=by rw[SS];omega
  obtain⟨d1,TI,ZM⟩:∃d1 TI,t=d1::TI:=by
   cases t with
   |nil=>have:=LP.o;simp at this;omega
   |cons d1 TI=>exact⟨d1,TI,rfl⟩
  have i1:=JT underlying9 s 1 (d:=d1) (by rw[W4.o,ZM];rfl) 1 rfl;have y3:=Xe.o d1
  by_cases sx:¬(U.ax (U.aa c)<=U.aa d1/\U.aa d1<=U.ay (U.aa c))
  case pos=>
   have Xf:=bx (show U.dec s.data.toList=none by rw[W4.o,ZM];exact U.aqf (by have:=Mr.o;omega) sx);rw[show(decide (U.ax (U.aa c)<=U.aa d1)&&decide (U.aa d1<=U.ay (U.aa c)))=false by rw[ajg,Bv,Bv];omega]at y3;have V1:=bx y3;clear y3 sx ZM;refine OL (RS w b w.heap.size s SV m n p q) (by kernel_rfl) (by kernel_rfl) Gh.drew (λXq=>?_);clear Gh
   repeat (any_goals (first
    |go_big_quiet_step (first|(go_at_call 238;exact Kw (Oy.o _) (λ_ Z8=>RS.below (CW.h _) Z8))|(go_at_call 239;exact Kw (V1.o _) (λ_ Z8=>RS.below (CW.h _) Z8)))
    |quiet_step (first|(go_at_call 238;exact Kw (Oy.o _) (λ_ Z8=>RS.below (CW.h _) Z8))|(go_at_call 239;exact Kw (V1.o _) (λ_ Z8=>RS.below (CW.h _) Z8)))))
   refine wpQuiet_nil ?_;rintro ZB ⟨⟨_,Md⟩,rfl⟩;clear q0 q1 q2 q3 Xq;have Zq:=(Xn.o.below (A6 Md.g hB (by omega))).cell 3 (by decide);obtain⟨RN,Vy,TX,Qa,-⟩:=Md.facts;go_wp2_with fail
   go_step3
   refine⟨rfl,?_⟩;go_wp2_with fail;rw[Exit.noGoto_ret];go_ret2;exact yO Xf.o rfl Md.cF.r Md.cF.g
  have vR:=Decidable.not_not.1 sx;rw[show(decide (U.ax (U.aa c)<=U.aa d1)&&decide (U.aa d1<=U.ay (U.aa c)))=true by simp[vR]]at y3;have V1:=bx y3;have abS:=bx (show n=0\/∃d1 TI,t=d1::TI/\U.ax (U.aa c)<=U.aa d1/\U.aa d1<=U.ay (U.aa c)from .inr ⟨d1,TI,ZM,vR⟩);clear y3 vR sx Vs ZM;refine OL (RS w b w.heap.size s SV m n p q) (by kernel_rfl) (by kernel_rfl) Gh.drew (λXq=>?_);clear Gh
  repeat (any_goals (first
   |go_big_quiet_step (first|(go_at_call 238;exact Kw (Oy.o _) (λ_ Z8=>RS.below (CW.h _) Z8))|(go_at_call 239;exact Kw (V1.o _) (λ_ Z8=>RS.below (CW.h _) Z8)))
   |quiet_step (first|(go_at_call 238;exact Kw (Oy.o _) (λ_ Z8=>RS.below (CW.h _) Z8))|(go_at_call 239;exact Kw (V1.o _) (λ_ Z8=>RS.below (CW.h _) Z8)))))
  refine wpQuiet_nil ?_;rintro ZB ⟨⟨_,Md⟩,rfl⟩;clear q0 q1 q2 q3 Xq
 all_goals
  clear Zm ue;have N5:IntKind.i64.wrap (n+1)=n+1:=IntWalk.i64_in _ (by omega);have Xa:∀W,(Instr.slice 9 (.string s) (some (Z9 1)) (some (Z9 (n+1))) none).run prog W=.ok (.string (s.extract 1 (n+1).toNat)) W:=by
   intro W;exact n3 underlying9 s 1 (n+1) (by omega) W
  generalize hsub:s.extract 1 (n+1).toNat=sub at *;go_wp2_with fail;have Kf:=λW s'=>run_bytes_of_string (P:=prog) W 9 126 5 s' underlying9 underlying126 underlying5
  obtain⟨xv,-,-,-,-,RZ,-⟩:=Md.facts
  go_region
  have EQ:=((Md.alloc (.cells (bytesRow sub (grownCap ZB.drew sub.size 0 5)) 5 ((bytesRow sub (grownCap ZB.drew sub.size 0 5)).size,(bytesRow sub (grownCap ZB.drew sub.size 0 5)).size+1))).drew).drew;have Kh:=λj d=>adr ZB 5 sub (grownCap ZB.drew sub.size 0 5) ((bytesRow sub (grownCap ZB.drew sub.size 0 5)).size,(bytesRow sub (grownCap ZB.drew sub.size 0 5)).size+1) j d
  replace Kh:∀j d,sub.data.toList[j]?=some d->(ZB.alloc (.cells (bytesRow sub (grownCap ZB.drew sub.size 0 5)) 5 ((bytesRow sub (grownCap ZB.drew sub.size 0 5)).size,(bytesRow sub (grownCap ZB.drew sub.size 0 5)).size+1))).drew.drew.cell? ⟨ZB.heap.size,j,none⟩=some (.int .u8 (U.aa d)):=Kh
  generalize(ZB.alloc (.cells (bytesRow sub (grownCap ZB.drew sub.size 0 5)) 5 ((bytesRow sub (grownCap ZB.drew sub.size 0 5)).size,(bytesRow sub (grownCap ZB.drew sub.size 0 5)).size+1))).drew.drew=XA at EQ Kh⊢;generalize ZB.heap.size=g6 at Kh⊢;have nU:sub.data.toList=t.take n.toNat:=by
   rw[<-hsub,Lib.extract_data,W4.o];rw[show(n+1).toNat-1=n.toNat by omega]
   rfl
  have acQ:(s.size:Int)=t.length+1:=LP.o;have acr:sub.size=n.toNat:=by rw[size_eq,nU,SW];omega
  have age:(∀d∈t.take n.toNat,U.aM d=true)->U.dec (c::t)=some (U.fold (U.aa c-m) (t.take n.toNat),n.toNat+1):=
   λS9=>U.ale Mr.o yH.o py (by omega) S9 abS.o
  have XF:∀d∈t.take n.toNat,U.aM d=false->U.dec (c::t)=none:=by
   intro d Zm Yz;have Z7:=Mr.o;rw[Z7]at Zm;exact U.dec_not (by omega) Zm Yz
  have aqc:=bx age;have RA:=bx XF;have ark:=bx Kh;have sE:=bx nU;have azi:=bx acr;have ED:sub.size<=3:=by omega
  have mG:=bx acQ;clear age XF Kh nU acr hsub Xa N5 Kf acQ;go_wp2_with fail
  go_loop[64] (λi=>∃j:Nat,j<=sub.size/\i=Z9 j/\∀d∈sub.data.toList.take j,U.aM d=true) (λi=>sub.size-(intOf i).toNat)
  ·exact⟨0,by omega,rfl,by simp⟩
  obtain⟨j,YO,rfl,S9⟩:=hrel;have RR:=bx S9;clear S9
  by_cases Zu:j<sub.size
  ·obtain⟨d,Zm⟩:=Yg sub.data.toList j (by rw[<-size_eq];exact Zu);have ZL:=ark.o j d Zm;have tP:d∈sub.data.toList:=Xh Zm;have ve:=bx (show U.aM d=true->∀x∈sub.data.toList.take (j+1),U.aM x=true by
    intro h x Z4;rw[Uo,Zm]at Z4
    rcases Nb.1 Z4 with Z4|Z4
    ·exact RR.o x Z4
    simp at Z4;rw[Z4];exact h)
   have zb:=bx tP;clear Zm tP;have Yn:=U.bl d;have ZZ:=U.bo d;have Zq:=(Xn.o.below (A6 EQ.g hB (by omega))).cell 3 (by decide);obtain⟨RN,Vy,TX,Qa,-⟩:=EQ.facts;go_wp2_with fail
   ·go_step3
    refine⟨rfl,?_⟩;go_wp2_with fail;rw[Exit.noGoto_ret];go_ret2;refine yO ?_ rfl EQ.cF.r EQ.cF.g;rw[W4.o];exact RA.o d (by have:=zb.o;rwa[sE.o]at this) ((U.fS d).2 (by omega))
   ·clear RN Vy TX Qa Zq;have Y8:=bx (ve.o ((U.a7 d).2 (by omega)));have TE:=bx Zu
    go_round
    ·exact⟨j+1,TE.o,by go_num,Y8.o⟩
    have:=TE.o;simp[intOf];omega
   go_step3
   refine⟨rfl,?_⟩;go_wp2_with fail;rw[Exit.noGoto_ret];go_ret2;refine yO ?_ rfl EQ.cF.r EQ.cF.g;rw[W4.o];exact RA.o d (by have:=zb.o;rwa[sE.o]at this) ((U.fS d).2 (by omega))
  obtain rfl:j=sub.size:=by omega
  have agd:=aqc.o (by have:=RR.o;rw[SU (by rw[<-size_eq];exact Wq _),sE.o]at this;exact this);have pg:=bx agd;clear agd;go_wp2_with fail;obtain⟨xv,S3,-,-,RZ,Lw,-⟩:=EQ.facts;have sS:=W3.o;have EE:0<=U.aa c-m/\U.aa c-m<128:=by have:=SG.o;omega
  have axa:IntKind.u8.wrap (U.aa c-m)=U.aa c-m:=IntWalk.u8_in _ (by omega)
  go_region
  clear xv S3 RZ Lw sS axa;have s5:=EQ.drew;generalize XA.drew=Va at s5⊢;clear EQ;go_wp2_with fail;obtain⟨xv,S3,p0,p1,RZ,Lw,-⟩:=s5.drew.facts;have Kf:=λW s'=>run_bytes_of_string (P:=prog) W 9 126 5 s' underlying9 underlying126 underlying5
  have N5:IntKind.i64.wrap (n+1)=n+1:=IntWalk.i64_in _ (by omega);have tO:((n+1).toNat:Int)=n+1:=by omega
  have Yo:=λW=>take_any b 0 s (n+1).toNat W (by have:=mG.o;omega) Z0
  rw[tO]at Yo;have TK:(s.extract 0 (n+1).toNat).data.toList=c::t.take n.toNat:=by
   rw[Lib.extract_data,W4.o,show(n+1).toNat-0=n.toNat+1 by omega];rfl
  have agQ:s.extract (n+1).toNat s.size=s.extract (n.toNat+1) s.size:=by rw[show(n+1).toNat=n.toNat+1 by omega]
  rw[agQ]at Yo;generalize PG:s.extract 0 (n+1).toNat=ZC at Yo TK;generalize aa1:s.extract (n.toNat+1) s.size=post at Yo;have zM:ZC.size=n.toNat+1:=by rw[size_eq,TK,U3,SW];have:=mG.o;omega
  have Xa:∀W,(Instr.slice 9 (.string ZC) (some (Z9 1)) none none).run prog W=.ok (.string (ZC.extract 1 ZC.size)) W:=by
   intro W;exact run_slice_string_l (P:=prog) W 9 ZC underlying9 .i64 1 (by omega) (by omega)
  have Fa:(ZC.extract 1 ZC.size).data.toList=t.take n.toNat:=by
   rw[Lib.extract_data,TK,zM];simp[List.take_take]
  generalize ZC.extract 1 ZC.size=S7 at Xa Fa;have j0:S7.size=n.toNat:=by rw[size_eq,Fa,SW];have:=mG.o;omega
  have Y8:=bx Yo;have iQ:=bx Fa;have n0:=bx j0;have ak7:=bx aa1;clear Yo Fa j0 zM TK PG aa1 agQ tO
  go_region_with (go_at_call 240;refine(Y8.o _ ?_ ?_).mono ?_;exact xv;exact p0;rintro e PM ⟨rfl,rfl⟩)
  simp only[List.getElem_toArray,List.getElem_cons_succ,List.getElem_cons_zero,Act.put,List.setIfInBounds_toArray,List.set_cons_succ,List.set_cons_zero];have s4:=(((s5.ati (s':=post)).alloc (.cells (bytesRow S7 (grownCap (Va.setCell ⟨b,0,none⟩ (.string post)).drew S7.size 0 5)) 5 ((bytesRow S7 (grownCap (Va.setCell ⟨b,0,none⟩ (.string post)).drew S7.size 0 5)).size,(bytesRow S7 (grownCap (Va.setCell ⟨b,0,none⟩ (.string post)).drew S7.size 0 5)).size+1))).drew).drew;have Kh:∀j d,S7.data.toList[j]?=some d->_:=λj d=>adr (Va.setCell ⟨b,0,none⟩ (.string post)) 5 S7 (grownCap (Va.setCell ⟨b,0,none⟩ (.string post)).drew S7.size 0 5) ((bytesRow S7 (grownCap (Va.setCell ⟨b,0,none⟩ (.string post)).drew S7.size 0 5)).size,(bytesRow S7 (grownCap (Va.setCell ⟨b,0,none⟩ (.string post)).drew S7.size 0 5)).size+1) j d
  replace Kh:∀j d,S7.data.toList[j]?=some d->(((Va.setCell ⟨b,0,none⟩ (.string post)).alloc (.cells (bytesRow S7 (grownCap (Va.setCell ⟨b,0,none⟩ (.string post)).drew S7.size 0 5)) 5 ((bytesRow S7 (grownCap (Va.setCell ⟨b,0,none⟩ (.string post)).drew S7.size 0 5)).size,(bytesRow S7 (grownCap (Va.setCell ⟨b,0,none⟩ (.string post)).drew S7.size 0 5)).size+1))).drew).drew.cell? ⟨Va.heap.size,j,none⟩=some (.int .u8 (U.aa d)):=by
   intro j d Zm;have:=Kh j d Zm;rw[World.size_setCell]at this;exact this
  generalize(((Va.setCell ⟨b,0,none⟩ (.string post)).alloc (.cells (bytesRow S7 (grownCap (Va.setCell ⟨b,0,none⟩ (.string post)).drew S7.size 0 5)) 5 ((bytesRow S7 (grownCap (Va.setCell ⟨b,0,none⟩ (.string post)).drew S7.size 0 5)).size,(bytesRow S7 (grownCap (Va.setCell ⟨b,0,none⟩ (.string post)).drew S7.size 0 5)).size+1))).drew).drew=zz at s4 Kh⊢;generalize Va.heap.size=gA at Kh⊢;have alh:=bx Kh;clear Kh s5 xv S3 p0 p1 RZ Lw Kf Xa N5;go_wp2_with fail;have jS:S7.data.toList=sub.data.toList:=iQ.o.trans sE.o.symm;have RF:=bx (λj=>U.aou (S7.data.toList.take j) (λd Zm=>by
   have Z7:=RR.o;rw[SU (by rw[<-size_eq];exact Wq _)]at Z7;rw[jS]at Zm;exact Z7 d (List.mem_of_mem_take Zm)) (U.aa c-m) EE.1 (by rw[SW,<-size_eq];have:=n0.o;omega) EE.2)
  have QQ:=bx (λd(Zm:d∈S7.data.toList)=>by
   have Z7:=RR.o;rw[SU (by rw[<-size_eq];exact Wq _)]at Z7;rw[jS]at Zm;exact(U.a7 d).1 (Z7 d Zm))
  have xB:S7.size<=3:=by have:=n0.o;omega
  clear jS
  go_loop[5,95] (λo i=>∃j:Nat,j<=S7.size/\i=Z9 j/\o=Z9 (U.fold (U.aa c-m) (S7.data.toList.take j))) (λ_ i=>S7.size-(intOf i).toNat)
  ·exact⟨0,by omega,rfl,rfl⟩
  obtain⟨j,YO,rfl,rfl⟩:=hrel;have awZ:=RF.o j;generalize hfold:U.fold (U.aa c-m) (S7.data.toList.take j)=x at *
  by_cases Zu:j<S7.size
  ·obtain⟨d,Zm⟩:=Yg S7.data.toList j (by rw[<-size_eq];exact Zu);have ZL:=alh.o j d Zm;have ZT:=QQ.o d (Xh Zm);have S6:=bx (show U.fold (U.aa c-m) (S7.data.toList.take (j+1))=64*x+U.aa d-128 by
    rw[Uo,Zm,<-hfold];exact U.apr _ _ _)
   clear Zm hfold;have X9:=bx (show bits .or .i64 (x*64) (bits .and .i64 (U.aa d) 63)=64*x+U.aa d-128 by
    rw[hZ _ (by omega) (by omega),akz _ _ awZ.1 (by omega) (by omega) (by omega)];omega)
   have TE:=bx Zu;go_wp2_with fail;refine⟨⟨j+1,TE.o,by go_num,PZ (by rw[X9.o,S6.o])⟩,?_⟩;have:=TE.o;simp[intOf];omega
  obtain rfl:j=S7.size:=by omega
  have Yt:=bx (show U.fold (U.aa c-m) (t.take n.toNat)=x by
   rw[<-hfold,iQ.o,n0.o,List.take_take,Nat.min_self])
  clear hfold;go_wp2_with fail;obtain⟨xv,S3,-,-,RZ,Lw,-⟩:=s4.facts
  go_region
  go_wp2_with fail;rw[Jq];go_ret2;refine ao0 (r:=x) (n:=n.toNat+1) (by rw[W4.o,pg.o,Yt.o]) ?_ ?_ ?_
  ·exact OB rfl (PZ (by omega))
  ·rw[ak7.o];exact s4.drew.r
  exact s4.drew.g
end
theorem at5:∀x:Fin 64,bits .or .u8 128 (x.val:Int)=128+(x.val:Int):=by decide +kernel
theorem ap3:∀x:Fin 32,bits .or .u8 192 (x.val:Int)=192+(x.val:Int):=by decide +kernel
theorem asF:∀x:Fin 16,bits .or .u8 224 (x.val:Int)=224+(x.val:Int):=by decide +kernel
theorem arQ:∀x:Fin 8,bits .or .u8 240 (x.val:Int)=240+(x.val:Int):=by decide +kernel
theorem yN(x:Int)(ZI:0<=x)(Z7:x<64):bits .or .u8 128 x=128+x:=by
 have:=at5 ⟨x.toNat,by omega⟩;grind
theorem asS(x:Int)(ZI:0<=x)(Z7:x<32):bits .or .u8 192 x=192+x:=by
 have:=ap3 ⟨x.toNat,by omega⟩;grind
theorem ape(x:Int)(ZI:0<=x)(Z7:x<16):bits .or .u8 224 x=224+x:=by
 have:=asF ⟨x.toNat,by omega⟩;grind
theorem au1(x:Int)(ZI:0<=x)(Z7:x<8):bits .or .u8 240 x=240+x:=by
 have:=arQ ⟨x.toNat,by omega⟩;grind
theorem DW(x:Int)(ZI:0<=x)(Z7:x<9223372036854775808):bits .and .i64 x 63%256=x%64:=by grind[hZ]
theorem qx(r:Int)(w:World):
  Calls prog 150 #[Z9 r] w λe w'=>e=.returned (.bool (U.right r))/\w=w':=by
 go_in
 go_wp2
 all_goals go_ret
 all_goals exact⟨YG (by grind[U.right]),rfl⟩
theorem an2(r:Int)(g:Nat)(w:World)(ZI:0<=r)(Z7:r<2048)(ZH:Zv w g 5 #[.int .u8 192,.int .u8 128]):
  Calls prog 151 #[Z9 r,.slice (some ⟨g,0,none⟩) 2 2] w λe w'=>e=.returned (.string (strOfNums [192+r/64,128+r%64]))/\Z6 w w':=by
 have Ip:∀w,(Instr.makeSlice 126 (Z9 2) (Z9 2)).run prog w=.ok (.slice (some ⟨w.heap.size,0,none⟩) 2 2) (w.alloc (.cells #[.int .u8 0,.int .u8 0] 5)):=λ_=>by kernel_rfl
 have YV:=ZH.q0;have c1:=ZH.q1;have Zu:=ZH.lt;have Rm:=λ(w:World)(a b:Int)=>B5 (P:=prog) (src:=126) (dst:=9) underlying126 underlying5 underlying9 [a,b] w 2 2 rfl 5
 simp only[RG,Pa]at Rm;have xm:=bx (show bits .or .u8 192 (bits .and .i64 (r/64) 63%256)=192+r/64 by grind[DW,asS]);have xl:=bx (show bits .or .u8 128 (bits .and .i64 r 63%256)=128+r%64 by grind[DW,yN]);clear ZH
 go_in
 go_wp2_with fail
 go_rounds 3
 go_ret
 exact⟨Lg (by rw[<-xm.o,<-xl.o];rfl),YU.alloc Ys _⟩
theorem aug(r:Int)(g:Nat)(w:World)(ZI:0<=r)(Z7:r<65536)(ZH:Zv w g 5 #[.int .u8 224,.int .u8 128,.int .u8 128]):
  Calls prog 151 #[Z9 r,.slice (some ⟨g,0,none⟩) 3 3] w λe w'=>e=.returned (.string (strOfNums [224+r/4096,128+r/64%64,128+r%64]))/\Z6 w w':=by
 have Ip:∀w,(Instr.makeSlice 126 (Z9 3) (Z9 3)).run prog w=.ok (.slice (some ⟨w.heap.size,0,none⟩) 3 3) (w.alloc (.cells #[.int .u8 0,.int .u8 0,.int .u8 0] 5)):=λ_=>by kernel_rfl
 have YV:=ZH.q0;have c1:=ZH.q1;have c2:=ZH.q2;have Zu:=ZH.lt;have Rm:=λ(w:World)(a b c:Int)=>B5 (P:=prog) (src:=126) (dst:=9) underlying126 underlying5 underlying9 [a,b,c] w 3 3 rfl 5
 simp only[RG,Pa]at Rm;have xm:=bx (show bits .or .u8 224 (bits .and .i64 (r/64/64) 63%256)=224+r/4096 by grind[DW,ape]);have xl:=bx (show bits .or .u8 128 (bits .and .i64 (r/64) 63%256)=128+r/64%64 by grind[DW,yN]);have pn:=bx (show bits .or .u8 128 (bits .and .i64 r 63%256)=128+r%64 by grind[DW,yN]);clear ZH
 go_in
 go_wp2_with fail
 go_rounds 4
 go_ret
 exact⟨Lg (by rw[<-xm.o,<-xl.o,<-pn.o];rfl),YU.alloc Ys _⟩
theorem atU(r:Int)(g:Nat)(w:World)(ZI:0<=r)(Z7:r<2097152)(ZH:Zv w g 5 #[.int .u8 240,.int .u8 128,.int .u8 128,.int .u8 128]):
  Calls prog 151 #[Z9 r,.slice (some ⟨g,0,none⟩) 4 4] w λe w'=>e=.returned (.string (strOfNums [240+r/262144,128+r/4096%64,128+r/64%64,128+r%64]))/\Z6 w w':=by
 have Ip:∀w,(Instr.makeSlice 126 (Z9 4) (Z9 4)).run prog w=.ok (.slice (some ⟨w.heap.size,0,none⟩) 4 4) (w.alloc (.cells #[.int .u8 0,.int .u8 0,.int .u8 0,.int .u8 0] 5)):=λ_=>by kernel_rfl
 have YV:=ZH.q0;have c1:=ZH.q1;have c2:=ZH.q2;have c3:=ZH.q3;have Zu:=ZH.lt;have Rm:=λ(w:World)(a b c d:Int)=>B5 (P:=prog) (src:=126) (dst:=9) underlying126 underlying5 underlying9 [a,b,c,d] w 4 4 rfl 5
 simp only[RG,Pa]at Rm;have xm:=bx (show bits .or .u8 240 (bits .and .i64 (r/64/64/64) 63%256)=240+r/262144 by grind[DW,au1]);have xl:=bx (show bits .or .u8 128 (bits .and .i64 (r/64/64) 63%256)=128+r/4096%64 by grind[DW,yN]);have pn:=bx (show bits .or .u8 128 (bits .and .i64 (r/64) 63%256)=128+r/64%64 by grind[DW,yN]);have ah7:=bx (show bits .or .u8 128 (bits .and .i64 r 63%256)=128+r%64 by grind[DW,yN]);clear ZH
 go_in
 go_wp2_with fail
 go_rounds 5
 go_ret
 exact⟨Lg (by rw[<-xm.o,<-xl.o,<-pn.o,<-ah7.o];rfl),YU.alloc Ys _⟩
theorem ou(A:Nat->Addr)(B:Nat)(r:Int)(w:World)(YN:E A B w):
  Calls prog 82 #[Z9 r] w λe w'=>e=.returned (Ei r)/\Z6 w w':=by
 by_cases ZT:U.right r=true
 case neg=>
  have zK:U.right r=false:=by grind
  have ZL:=qx r;rw[zK]at ZL;have Yq:=bx ZL;have Xf:=bx (rf zK);have Y8:=bx (ao2 A B w YN);have Wz:=YN.cell 2 (by decide);clear ZL ZT zK YN
  go_in
  go_wp2_with (first
   |(go_at_call 150;refine YW (Yq.o _) ?_)
   |(go_at_call 90;refine YW (Y8.o) ?_))
  go_ret2
  exact⟨by rw[Xf.o];rfl,Below.refl _ _⟩
 have Z8:=(U.cT r).1 ZT;obtain⟨g0,g1,_⟩:=Z8;have ZL:=qx r;rw[ZT]at ZL;have Yq:=bx ZL;have Xn:=bx (λ(l:List Int)=>h2 (l:=l) ZT);clear ZL ZT YN
 by_cases Zx:r<128
 ·have c1:=λ(w:World)(a:Int)=>B5 (P:=prog) (src:=126) (dst:=9) underlying126 underlying5 underlying9 [a] w 1 1 rfl 5
  simp only[RG,Pa]at c1
  go_in
  go_wp2_with (first|(go_at_call 150;refine YW (Yq.o _) ?_))
  go_ret2
  exact⟨Lg (Xn.o [r] (by grind[U.enc])),YU.alloc Ys _⟩
 by_cases Zr:r<2048
 ·
  have WI:=bx (λW=>an2 r w.heap.size W (by omega) (by omega));have ZN:=bx (Xn.o [192+r/64,128+r%64] (by grind[U.enc]))
  go_in
  go_wp2_with (first
   |(go_at_call 150;refine YW (Yq.o _) ?_)
   |(go_at_call 151;refine(WI.o _ (Zv.new w _ _)).mono ?_;rintro e w' ⟨rfl,Z8⟩))
  go_ret2
  exact⟨Lg ZN.o,(YU.alloc Ys _).trans (Z8.mono (by simp))⟩
 by_cases Zk:r<65536
 ·
  have WI:=bx (λW=>aug r w.heap.size W (by omega) (by omega));have ZN:=bx (Xn.o [224+r/4096,128+r/64%64,128+r%64] (by grind[U.enc]))
  go_in
  go_wp2_with (first
   |(go_at_call 150;refine YW (Yq.o _) ?_)
   |(go_at_call 151;refine(WI.o _ (Zv.new w _ _)).mono ?_;rintro e w' ⟨rfl,Z8⟩))
  go_ret2
  exact⟨Lg ZN.o,(YU.alloc Ys _).trans (Z8.mono (by simp))⟩
 
 have WI:=bx (λW=>atU r w.heap.size W (by omega) (by omega));have ZN:=bx (Xn.o [240+r/262144,128+r/4096%64,128+r/64%64,128+r%64] (by grind[U.enc]))
 go_in
 go_wp2_with (first
  |(go_at_call 150;refine YW (Yq.o _) ?_)
  |(go_at_call 151;refine(WI.o _ (Zv.new w _ _)).mono ?_;rintro e w' ⟨rfl,Z8⟩))
 go_ret2
 exact⟨Lg ZN.o,(YU.alloc Ys _).trans (Z8.mono (by simp))⟩
theorem rM(A:Nat->Addr)(B:Nat)(s:ByteArray)(w:World)(Z0:s.size<=maxLen)(YN:E A B w)(hB:B<=w.heap.size):
  Calls prog 159 #[.string s] w λe w'=>e=.returned (Of s.data.toList)/\Z6 w w':=by
 have ZE:=bx (next_any A B w.heap.size .nilIface s (w.alloc (.cells #[.string s,.nilIface] 152)) Z0 (YN.below ((Below.refl B w).alloc hB _)) hB (Zv.new w _ _));clear YN
 go_in
 go_wp2_with fail;refine ZE.o.mono ?_;intro e w' Zp;unfold Ar at Zp
 cases Zm:U.dec s.data.toList with
 |none=>
  rw[Zm]at Zp;obtain⟨rfl,Z3,ZH⟩:=Zp;have Xf:=bx Zm;clear Zm Z3;go_wp2_with fail
  go_ret3
  refine⟨by unfold Of;rw[Xf.o];rfl,?_⟩;exact(YU.alloc Ys _).trans (A6 ZH Ys (by simp))
 |some p=>
  obtain⟨r,n⟩:=p;rw[Zm]at Zp;obtain⟨rfl,Z3,ZH⟩:=Zp;have ZP:=(U.cX Zm).2.2.1;have Xf:=bx Zm;clear Zm Z3;go_wp2_with fail
  go_ret3
  refine⟨by unfold Of;rw[Xf.o];exact ad8 rfl rfl (rz (by grind)),?_⟩;exact(YU.alloc Ys _).trans (A6 ZH Ys (by simp))
