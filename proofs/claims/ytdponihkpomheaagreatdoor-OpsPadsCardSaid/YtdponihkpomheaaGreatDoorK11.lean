/- Texts of this claim. -/
import Derived.Shelf.Sort.Plain
import Derived.Ground.Names2Prog
import Derived.Shelf.Slices.CompactI
import Derived.Shelf.Slices.In.SortNone
import Derived.Shelf.Slices.Empties2
import Derived.Sort.OwnSortedInts
import Derived.Lib.SlicesCompact
import Derived.Lib.RowBridge
import Derived.Test.YtdponihkpomheaaGreatDoorK5

set_option maxHeartbeats 4000000
set_option maxRecDepth 10000
namespace Go.Proofs.YtdponihkpomheaaGreatDoor
open Go.RowKit
open Tryz
section
open Go.Shelf Go.Proofs
def apW:Go.Shelf.Ren:=⟨fun|189=>335|125=>340|257=>339|128=>349|129=>350|294=>341|295=>342|296=>343|297=>344|298=>345|299=>346|216=>288|300=>347|301=>348|328=>351|329=>352|330=>353|331=>354|332=>355|215=>314|343=>356|n=>n,fun|28=>22|3=>3|46=>316|0=>0|51=>437|53=>439|4=>4|183=>431|182=>430|131=>186|5=>5|9=>9|218=>440|222=>444|228=>446|229=>116|n=>n,fun|n=>n⟩
theorem ae7:Go.Proofs.Lays.n189 prog apW:={
 mixed:=by rfl
 f125:=func340.trans (congrArg some (by rfl))
 f128:=func349.trans (congrArg some (by rfl))
 f129:=func350.trans (congrArg some (by rfl))
 f189:=func335.trans (congrArg some (by rfl))
 f215:=func314.trans (congrArg some (by rfl))
 f216:=func288.trans (congrArg some (by rfl))
 f257:=func339.trans (congrArg some (by rfl))
 f294:=func341.trans (congrArg some (by rfl))
 f295:=func342.trans (congrArg some (by rfl))
 f296:=func343.trans (congrArg some (by rfl))
 f297:=func344.trans (congrArg some (by rfl))
 f298:=func345.trans (congrArg some (by rfl))
 f299:=func346.trans (congrArg some (by rfl))
 f300:=func347.trans (congrArg some (by rfl))
 f301:=func348.trans (congrArg some (by rfl))
 f328:=func351.trans (congrArg some (by rfl))
 f329:=func352.trans (congrArg some (by rfl))
 f330:=func353.trans (congrArg some (by rfl))
 f331:=func354.trans (congrArg some (by rfl))
 f332:=func355.trans (congrArg some (by rfl))
 f343:=func356.trans (congrArg some (by rfl))
 t0:=underlying0
 a0:=isAgg0
 z0:=sizeOf0
 v0:=zeroValue0
 t3:=underlying3
 a3:=isAgg3
 z3:=sizeOf3
 v3:=zeroValue3
 t4:=underlying4
 a4:=isAgg4
 z4:=sizeOf4
 v4:=zeroValue4
 t5:=underlying5
 a5:=isAgg5
 z5:=sizeOf5
 v5:=zeroValue5
 t9:=underlying9
 a9:=isAgg9
 z9:=sizeOf9
 v9:=zeroValue9
 t28:=underlying22
 a28:=isAgg22
 z28:=sizeOf22
 v28:=zeroValue22
 t46:=underlying316
 a46:=isAgg316
 z46:=sizeOf316
 v46:=zeroValue316
 t51:=underlying437
 a51:=isAgg437
 z51:=sizeOf437
 v51:=zeroValue437
 t53:=underlying439
 a53:=isAgg439
 z53:=sizeOf439
 v53:=zeroValue439
 t131:=underlying186
 a131:=isAgg186
 z131:=sizeOf186
 v131:=zeroValue186
 t182:=underlying430
 a182:=isAgg430
 z182:=sizeOf430
 v182:=zeroValue430
 t183:=underlying431
 a183:=isAgg431
 z183:=sizeOf431
 v183:=zeroValue431
 t218:=underlying440
 a218:=isAgg440
 z218:=sizeOf440
 v218:=zeroValue440
 t222:=underlying444
 a222:=isAgg444
 z222:=sizeOf444
 v222:=zeroValue444
 t228:=underlying446
 a228:=isAgg446
 z228:=sizeOf446
 v228:=zeroValue446
 t229:=underlying116
 a229:=isAgg116
 z229:=sizeOf116
 v229:=zeroValue116}
open Go.Sort Go.RowKit in
theorem ajU(blk off ZU:Nat)(zs:List Int)(w:World)(uq:Go.Sort.Holds (Value.int .i64) w blk off zs.toArray)(pV:blk<w.heap.size)(W1:zs.length<4611686018427387904):
  Calls prog 335 #[.slice (some ⟨blk,off,none⟩) zs.length ZU] w λe w' =>
   e=.returned (.tuple #[])/\∃n os,w'=grow (putRow (Value.int .i64) (Sort.ahead w n) blk off (zs.mergeSort λx y=>decide (x<=y)).toArray) os:=Any.slices_Sort_int ae7 blk off ZU zs w uq pV W1
def alz:Go.Shelf.Ren:=⟨fun|20=>336|n=>n,fun|22=>22|3=>3|4=>4|0=>0|n=>n,fun|n=>n⟩
theorem aew:Go.Proofs.Lays2.n20 prog alz:={
 mixed:=by rfl
 f20:=func336.trans (congrArg some (by rfl))
 t0:=underlying0
 a0:=isAgg0
 z0:=sizeOf0
 v0:=zeroValue0
 t3:=underlying3
 a3:=isAgg3
 z3:=sizeOf3
 v3:=zeroValue3
 t4:=underlying4
 a4:=isAgg4
 z4:=sizeOf4
 v4:=zeroValue4
 t22:=underlying22
 a22:=isAgg22
 z22:=sizeOf22
 v22:=zeroValue22
 i3:=by rfl}
open Go.Lib Go.Sort in
theorem amM(blk off ZU:Nat)(zs:List Int)(w:World)(uq:Go.Sort.Holds (Value.int .i64) w blk off zs.toArray)(W1:zs.length<=9223372036854775807)(Dd:zs.length<=ZU):
  Calls prog 336 #[.slice (some ⟨blk,off,none⟩) zs.length ZU] w λe w'=>e=.returned (.slice (some ⟨blk,off,none⟩) (Lib.compact zs).length ZU)/\∃q,w'=putRow (Value.int .i64) (Sort.ahead w q) blk off (Lib.compact zs++List.replicate (zs.length-(Lib.compact zs).length) 0).toArray:=Any.slices_Compact_int aew blk off ZU zs w uq W1 Dd
open Go.Lib Go.Sort in
theorem avJ(a:Option Addr)(ZU:Nat)(w:World):
  Calls prog 336 #[.slice a 0 ZU] w λe w'=>e=.returned (.slice a 0 ZU)/\w'=w:=Any.slices_Compact_int_empty aew a ZU w
open Go.Sort in
theorem al6(p:Option Addr)(ZU:Nat)(w:World):
  Calls prog 335 #[.slice p 0 ZU] w λe w'=>e=.returned (.tuple #[])/\w'=w:=Any.slices_Sort_int_none ae7 p ZU w
end
section
open Go.Sort
def KV(zs:List Int):List Int:=zs.mergeSort λx y=>decide (x<=y)
theorem hn(zs:List Int):(KV zs).length=zs.length:=List.length_mergeSort _
theorem ajJ{ps:List Pc}{W:World}(h:Sep ps W)(i:Nat){base n:Nat}{e:TypeId}{v:Value}{zs:List Int}(hi:ps[i]?=some (Pc.row base e 1 v n (zs.map (Value.int .i64))))(ZP:n=zs.length)(ZY:n<=1000000):
  Calls prog 335 #[v] W λR8 W'=>R8=.returned (.tuple #[])/\Sep (ps.set i (Pc.row base e 1 v n ((KV zs).map (Value.int .i64)))) W':=by
 subst ZP;have V7:=h.row i hi
 rcases V7.2 with⟨rfl,Z5⟩|⟨g,ZU,VY,rfl,Z8,ZH,ZS,ZG,Zi,Yu⟩
 ·have Vs:=L4 Z5;subst Vs;refine(al6 none 0 W).mono ?_;rintro R8 W' ⟨rfl,rfl⟩;refine⟨rfl,?_⟩;have Zq:ps.set i (Pc.row base e 1 Z1 ([]:List Int).length ((KV []).map (Value.int .i64)))=ps:=by
   obtain⟨Zx,Zr⟩:=R7 hi;rw[show(KV []).map (Value.int .i64)=([]:List Int).map (Value.int .i64) by simp[KV],<-Zr,List.set_getElem_self]
  grind
 rw[Nat.mul_one]at Yu;refine(ajU g 0 ZU zs W (holds_of_blockI ZH Yu) (J4.1 ZH).1 (by omega)).mono ?_;rintro R8 W' ⟨rfl,n,os,rfl⟩;exact⟨rfl,h.grow i hi (grownBy_sortedI _) (ownsRow_sortedI (hn zs) Z8 ZH ZS ZG Zi) (.inl rfl)⟩
theorem ak1(v:Value)(xs:List Int)(x:Int)(w:World)(Z2:Y6 w v xs)(ZY:xs.length<=16777216):
  Calls prog 163 #[v,Z9 x] w λe w'=>(∃i:Int,e=.returned (Z9 i)/\decide (0<=i)=decide (x∈xs))/\w=w':=by
 have ZN:=bx Z2;obtain⟨XH,ZU,rfl⟩:=Z2.slice;clear Z2
 go_in
 go_wp2
 go_loop[8] (λi=>∃k:Nat,k<=xs.length/\i=Z9 k/\Box (x∉xs.take k)) (λi=>xs.length-(intOf i).toNat)
 ·exact⟨0,by omega,rfl,⟨by simp⟩⟩
 obtain⟨k,Z3,rfl,ZP⟩:=hrel
 by_cases Zu:k<xs.length
 ·obtain⟨y,ZJ⟩:=Yg xs k Zu;obtain⟨g,off,XV,Y5,XL,Yi,XB,YX⟩:=ZN.o.get (by grind);obtain⟨rfl,rfl⟩:=XN Y5;have kw:=YX k y ZJ;have Wn:=bx ZJ;unfold maxLen at Yi;clear ZJ Y5 YX
  by_cases Hm:x=y
  ·subst Hm;have W3:=bx (Xh Wn.o)
   go_wp2
   go_ret
   exact⟨⟨k,rfl,by first|(rw[Yh W3.o];simp)|exact⟨λ_=>W3.o,λ_=>by omega⟩⟩,rfl⟩
  have ZE:=bx (show x∉xs.take (k+1) by
   rw[Uo,Wn.o,Nb];rintro(h|h)
   ·exact ZP.o h
   grind)
  have Zs:=Sz.2 Hm
  go_wp2
  go_round
  ·exact⟨k+1,Zu,by go_num,ZE⟩
  grind[intOf]
 have ZE:=bx (show x∉xs by have:=ZP.o;grind)
 go_wp2
 go_ret
 exact⟨⟨-1,rfl,by first|(rw[Yp ZE.o];rfl)|exact⟨λh=>by omega,λh=>absurd h ZE.o⟩⟩,rfl⟩
theorem avV(v:Value)(xs:List Int)(x:Int)(w:World)(Z2:Y6 w v xs)(ZY:xs.length<=16777216):
  Calls prog 95 #[v,Z9 x] w λe w'=>e=.returned (.bool (decide (x∈xs)))/\w=w':=by
 have YE:=bx (ak1 v xs x w Z2 ZY);clear Z2
 go_in
 go_wp2_with fail;refine YE.o.mono ?_;rintro e ZV ⟨⟨i,rfl,hi⟩,rfl⟩;have YD:=bx hi;clear hi
 go_wp2
 go_ret
 exact⟨YG YD.o,rfl⟩
end
section
open Go.Sort
theorem ng(d:Array Int)(Zm:∀i j,i<=j->j<d.size->d[i]!<=d[j]!):∀m,m<=d.size->
  (Lib.compactUpTo d m).Pairwise (·<·)/\(∀x∈Lib.compactUpTo d m,∃j,j<m/\x=d[j]!)/\∀j,j<m->d[j]!∈Lib.compactUpTo d m
 |0,_=>by
  simp[Lib.compactUpTo]
 |m+1,hm=>by
  obtain⟨Z7,Z5,ZS⟩:=ng d Zm m (by omega);rw[Lib.compactUpTo_succ]
  by_cases Z3:Lib.keeps d m=true
  ·rw[Y0 Z3];refine⟨List.pairwise_append.2 ⟨Z7,List.pairwise_singleton _ _,λx Z4 y ZJ=>?_⟩,?_,?_⟩
   ·obtain rfl:=Pe.1 ZJ;obtain⟨j,YO,rfl⟩:=Z5 x Z4;have Xq:d[m]!≠d[m-1]!:=by
     grind[Lib.keeps]
    have a:=Zm j (m-1) (by omega) (by omega);have b:=Zm (m-1) m (by omega) (by omega);omega
   ·grind
   grind
  grind[Lib.keeps]
theorem gK(zs:List Int):∀i j,i<=j->j<(KV zs).toArray.size->(KV zs).toArray[i]!<=(KV zs).toArray[j]!:=by
 intro i j LJ YO;have hp:(KV zs).Pairwise (λa b=>decide (a<=b)=true):=List.pairwise_mergeSort (λa b c Z7 Z5=>by grind) (λa b=>by grind) zs
 rcases Nat.eq_or_lt_of_le LJ with e|h
 ·grind
 have tS:j<(KV zs).length:=by omega
 have:=List.pairwise_iff_getElem.1 hp i j (by omega) tS h;grind
def bz(zs:List Int):List Int:=Lib.compact (KV zs)
theorem alG(zs:List Int):(bz zs).Pairwise (·<·):=(ng (KV zs).toArray (gK zs) (KV zs).length (by simp)).1
theorem abX(zs:List Int)(x:Int):x∈bz zs↔x∈zs:=by
 obtain⟨-,Z5,ZS⟩:=ng (KV zs).toArray (gK zs) (KV zs).length (by simp);have hm:x∈KV zs↔x∈zs:=List.mem_mergeSort;rw[<-hm]
 constructor
 ·intro h;obtain⟨j,YO,rfl⟩:=Z5 x h;grind
 intro h;obtain⟨j,YO,e⟩:=List.getElem_of_mem h;have:=ZS j YO;rw[getElem!_pos _ _ (by omega)]at this;rw[List.getElem_toArray,e]at this;exact this
theorem aeT:∀(l:List Int)(lo hi:Int),l.Pairwise (·<·)->(∀x∈l,lo<=x/\x<=hi)->l.length<=(hi-lo+1).toNat
 |[],_,_,_,_=>OQ _
 |x::l,lo,hi,hp,Z8=>by
  have Z7:=Z8 x (Pw ..);have Z5:=List.pairwise_cons.1 hp;have:=aeT l (x+1) hi Z5.2 (λy ZJ=>⟨by grind,(Z8 y (Oj _ ZJ)).2⟩);grind
namespace N
def rl(cs:List Int)(s:Int)(a:Nat):Nat:=((cs.drop a).takeWhile λc=>aV s c).length
def nx(cs:List Int)(x:Item)(a:Nat):List Nat:=
 if x.2=0 then(if rl cs x.1 a=0 then[]else[a+1])
 else if x.2=1 then(List.range (rl cs x.1 a+1)).map (a+·)
 else((List.range (rl cs x.1 a+1)).filter λd=>d%2==0).map (a+·)
theorem adF(l:List Item)(cs:List Int)(i a:Nat):nexts l cs i a=nx cs (l.getD i (0,0)) a:=rfl
theorem dU(cs:List Int)(s:Int)(a:Nat)(h:a<=cs.length):a+rl cs s a<=cs.length:=by
 have:=(List.takeWhile_sublist (l:=cs.drop a) (λc=>aV s c)).length_le;grind[rl]
theorem aoM(cs:List Int)(x:Item)(a b:Nat)(h:a<=cs.length)(Z8:b∈nx cs x a):a<=b/\b<=cs.length:=by
 have Z7:=dU cs x.1 a h;grind[nx]
theorem ak6(cs:List Int)(x:Item)(a:Nat)(h:a<=cs.length):(nx cs x a).length<=cs.length+1:=by
 have Z7:=dU cs x.1 a h;grind[nx]
theorem fZ{cs:List Int}{s:Int}{a k:Nat}(h:k<rl cs s a):∃c,cs[a+k]?=some c/\aV s c=true:=by
 obtain⟨c,Z7,Z5⟩:=(rE (λc=>aV s c) (cs.drop a) (rl cs s a)).2 Ys k h;grind
theorem akM{cs:List Int}{s:Int}{a:Nat}(h:a+rl cs s a<cs.length):∃c,cs[a+rl cs s a]?=some c/\aV s c=false:=by
 obtain⟨c,ZL⟩:=Yg cs (a+rl cs s a) h;refine⟨c,ZL,?_⟩;rw[Bool.eq_false_iff];intro Uy;have:=(rE (λc=>aV s c) (cs.drop a) (rl cs s a+1)).1 (λx Z4=>by
  rcases SM x (rl cs s a)with Z7|Z7
  ·obtain⟨d,Z5,ZS⟩:=fZ Z7;grind
  grind)
 grind[rl]
end N
def Q8(cs:List Int)(x:N.Item)(a:Int):List Int:=(N.nx cs x a.toNat).map λn:Nat=>(n:Int)
def N2(cs:List Int)(l:List N.Item)(a:Int)(k:Nat):List Int:=(l.take k).foldl (λout x=>bz (out.flatMap (Q8 cs x))) [a]
theorem sZ(cs:List Int)(l:List N.Item)(a:Int):N2 cs l a 0=[a]:=by rfl
theorem re(cs:List Int)(l:List N.Item)(a:Int)(k:Nat)(x:N.Item)(h:l[k]?=some x):N2 cs l a (k+1)=bz ((N2 cs l a k).flatMap (Q8 cs x)):=by
 unfold N2;rw[Uo,h,List.foldl_append]
 rfl
theorem aro(cs:List Int)(x:N.Item)(a:Int)(ZI:0<=a)(Z7:a<=cs.length):∀b∈Q8 cs x a,0<=b/\b<=cs.length:=by
 intro b Z8;obtain⟨n,ZP,rfl⟩:=SL.1 Z8;have:=N.aoM cs x a.toNat n (by omega) ZP;omega
theorem abz(cs:List Int)(x:N.Item)(a:Int)(ZI:0<=a)(Z7:a<=cs.length):(Q8 cs x a).length<=cs.length+1:=by
 unfold Q8;rw[X4];exact N.ak6 cs x a.toNat (by omega)
theorem aoJ(cs:List Int)(x:N.Item)(out:List Int)(h:∀b∈out,0<=b/\b<=cs.length):∀b∈out.flatMap (Q8 cs x),0<=b/\b<=cs.length:=by
 intro b Z8;obtain⟨a,YZ,Z8⟩:=List.mem_flatMap.1 Z8;exact aro cs x a (h a YZ).1 (h a YZ).2 b Z8
theorem lU(cs:List Int)(l:List N.Item)(a:Int)(ZI:0<=a)(Z7:a<=cs.length):∀k,k<=l.length->∀b∈N2 cs l a k,0<=b/\b<=cs.length
 |0,_=>by
  rw[sZ];grind
 |k+1,Z3=>by
  rw[re cs l a k _ (SA (by omega))];intro b Z8;exact aoJ cs _ _ (lU cs l a ZI Z7 k (by omega)) b ((abX _ b).1 Z8)
theorem amZ(cs:List Int)(l:List N.Item)(a:Int)(ZI:0<=a)(Z7:a<=cs.length)(k:Nat)(Z3:k<=l.length):(N2 cs l a k).length<=cs.length+1:=by
 cases k with
 |zero=>rw[sZ];simp
 |succ k=>
  have hm:=lU cs l a ZI Z7 (k+1) Z3;rw[re cs l a k _ (SA (by omega))]at hm⊢;have:=aeT _ 0 cs.length (alG _) hm;omega
theorem lB(cs:List Int)(x:N.Item):∀(out:List Int),(∀b∈out,0<=b/\b<=cs.length)->(out.flatMap (Q8 cs x)).length<=out.length*(cs.length+1)
 |[],_=>by simp
 |a::t,h=>by
  have XZ:=lB cs x t (λb Z8=>h b (Oj _ Z8));have YZ:=h a (Pw ..);have:=abz cs x a YZ.1 YZ.2;rw[I3,WR,U3,Nat.succ_mul];omega
theorem afq{l:List N.Item}{cs:List Int}(Uy:∀i,N.aJ l i=0\/N.aJ l i=1\/N.aJ l i=2)(a:Nat):∀k,k<=l.length->∀b:Int,b∈N2 cs l a k↔∃n:Nat,b=n/\N.Ends l cs k a n
 |0,_,b=>by
  rw[sZ,Pe];exact⟨λh=>⟨a,h,rfl⟩,λ⟨n,h,e⟩=>by rw[h,show n=a from e]⟩
 |k+1,Z3,b=>by
  have XZ:=afq (cs:=cs) Uy a k (by omega);have Z4:l[k]?=some (l.getD k (0,0)):=by
   grind
  rw[re cs l a k _ Z4,abX,List.mem_flatMap]
  constructor
  ·rintro⟨c,ZL,Z8⟩;obtain⟨n,rfl,he⟩:=(XZ c).1 ZL;obtain⟨m,hm,rfl⟩:=SL.1 Z8;rw[RU,<-N.adF]at hm;exact⟨m,rfl,n,he,(N.aay Uy k n m).1 hm⟩
  rintro⟨m,rfl,n,he,Yz⟩;refine⟨n,(XZ n).2 ⟨n,rfl,he⟩,SL.2 ⟨m,?_,rfl⟩⟩;rw[RU,<-N.adF];exact(N.aay Uy k n m).2 Yz
end
section
open Go.Shelf
attribute[local go_sem] Oper.semAt_some
theorem afh(set c:Int)(b:Bool)(h:N.aV set c=b)(w:World):Calls prog 309 #[Z9 set,Z9 c] w λe w'=>e=.returned (.bool b)/\w=w':=by
 rw[<-h];exact gL set c w
theorem my(p:Option Addr)(set a:Int)(w:World):
  Calls prog 334 #[.pointer p,Z9 set,Z9 a] w λe w'=>e=.returned (.func (.func 338) #[] #[Zn (w.heap.size+1+1),Zn (w.heap.size),Zn (w.heap.size+1)])/\
   ((w.alloc (.cells #[.pointer p] 426)).alloc (.cells #[Z9 set] 2)).alloc (.cells #[Z9 a] 3)=w':=by
 go_in
 go_wp2
 go_ret
 simp
def Jm(a k:Nat):List Nat:=(List.range k).map (a+1+·)
theorem aqO(a k:Nat):Jm a (k+1)=Jm a k++[a+k+1]:=by
 unfold Jm;rw[List.range_succ,T9];grind
theorem nH(a k:Nat):(Jm a k).length=k:=by simp[Jm]
def l5(w:World)(b:Nat):Nat:=match w.cell? ⟨b,0,none⟩ with|some v=>(intOf v).toNat|none=>0
theorem adl{w:World}{b k:Nat}{t:TypeId}(h:Zv w b t #[Z9 (k:Int)]):l5 w b=k:=by
 unfold l5;rw[(h.cell 0).trans (show _=some (Value.int .i64 (k:Int))from rfl)];rfl
theorem lF(n:Nat)(W0:World)(Xu:Nat)(UX:Value)(cs:List Int)(Xv:Zv W0 Xu 403 #[UX])(hC:Y6 W0 UX cs)(ZY:cs.length<=16777216)(set:Int)(a0:Nat)(UV:a0<=cs.length)(XD uw bs:Nat)(Zm:W0.heap.size<=XD)(kv:XD≠uw)(awY:XD≠bs)(l:Nat)(YH:World)(PA:Agree W0 YH)(Z7:Zv YH XD 3 #[.int .i64 (a0:Int)])(Z5:Zv YH uw 426 #[.pointer (some ⟨Xu,0,none⟩)])(ZS:Zv YH bs 2 #[.int .i64 set]):
  r5 (n+1) prog 338 #[.pointer (some ⟨XD,0,none⟩),.pointer (some ⟨uw,0,none⟩),.pointer (some ⟨bs,0,none⟩)] (λx:Nat=>#[.int .i64 x]) (λk=>k=XD) (GW W0 XD uw bs) (λZC x=>x=a0+ZC.length+1/\ZC.length<N.rl cs set a0)
   (λxs _=>xs=Jm a0 (N.rl cs set a0)) l YH:=by
 intro J PL Pj Gb VX ZI;have Wn:=bx VX;have TE:=bx Pj;have W3:=bx Xv;have Yq:=bx hC;have ER:=N.dU cs set a0 UV;obtain⟨r,ZT⟩:∃r,r=N.rl cs set a0:=⟨_,rfl⟩
 rw[<-ZT]at ER;have ZK:=bx ZT;obtain⟨XH,ZU,rfl⟩:=hC.slice;clear VX Pj Xv hC ZT;refine callsIn_of_wp func338 rfl trivial ?_;simp only[ntmps338,My,U3,SK,Nat.reduceAdd,Nat.reduceSub,Mu,Mg,Og,Mo,RQ,SI]
 gi_wp2
 refine wpIn_wide.2 (wp_scope_straight ((wpIn_wide (n:=n+1)).1 ?_))
 gi_wp2
 refine wpIn_label ?_
 gi_wp2
 gi_loopw [] (λwr=>∃k:Nat,k<=r/\Box (Agree W0 wr)/\Box (Zv wr XD 3 #[.int .i64 ((a0+k:Nat):Int)])/\Box (Zv wr uw 426 #[.pointer (some ⟨Xu,0,none⟩)])/\Box (Zv wr bs 2 #[.int .i64 set])/\Box (J (Jm a0 k) wr))
  (λwr=>a0+r-l5 wr XD)
 ·exact⟨0,OQ _,⟨PA⟩,⟨Z7⟩,⟨Z5⟩,⟨ZS⟩,⟨ZI⟩⟩
 obtain⟨k,Z3,YZ,U9,P6,WP,YO⟩:=hrel;obtain⟨p,hp⟩:∃p,p=a0+k:=⟨_,rfl⟩
 rw[<-hp]at U9;have WI:=bx hp;have aid:=bx (adl U9.o);have YV:=U9.o.q0;have c1:=P6.o.q0;have c2:=WP.o.q0;have c3:=(show Zv wr Xu 403 #[.slice XH cs.length ZU]from(YZ.o.block Xu W3.o.lt).trans W3.o).q0;clear ZI Z7 Z5 ZS PA;have agR:p<=a0+r:=by omega
 clear hp
 by_cases Zu:p<cs.length
 ·obtain⟨c,ZL⟩:=Yg cs p Zu;obtain⟨g,off,XV,Y5,XL,Yi,XB,YX⟩:=Yq.o.get (by grind);obtain⟨rfl,rfl⟩:=XN Y5;have kw:wr.cell? ⟨g,off+p,none⟩=some (.int .i64 c):=(World.cell?_of_block (YZ.o.block g XB)).trans (YX _ c ZL);have MI:decide (((p:Nat):Int)<(cs.length:Int))=true:=Yh (by omega);unfold maxLen at Yi;have OF:=bx ZL;clear Y5 YX ZL
  by_cases pM:k<r
  ·have ph:=bx (show N.aV set c=true by
    obtain⟨d,Zi,Yu⟩:=N.fZ (ZK.o▸pM);rw[<-WI.o]at Zi;have:=OF.o.symm.trans Zi
    grind)
   have ai1:=bx (λUF(ZM:Turns (λk=>k=XD) wr UF)=>Wn.o (Jm a0 k) (p+1) UF (TE.o _ _ _ YO.o ZM) ⟨by rw[nH,WI.o],by rw[nH,<-ZK.o];omega⟩)
   gi_wp2
   refine wpIn_wide.2 ?_
   go_quiet ((go_at_call 309;exact MQ (afh set c true ph.o _)))
   have NV:=bx (Turns.of_below (own:=λk=>k=XD) (below_drewN (Below.refl wr.heap.size wr) nq));have Nz:=ai1.o (wr.drewN nq) NV.o;simp only[show((p+1:Nat):Int)=(p:Int)+1 by omega]at Nz;obtain⟨fn,tmps,assign,body,ZJ,MT⟩:=Nz;have Kz:=bx MT;clear MT
   gi_wp2
   refine Kz.o.mono ?_;rintro e XE (⟨rfl,Oq,Sx⟩|⟨rfl,L7⟩)
   ·have sr:Zv XE XD 3 #[.int .i64 ((p:Nat):Int)]:=(Sx.block _ (.inr (.inl rfl))).trans U9.o;have YY:=bx sr;have HO:=bx Oq;have PQ:=bx Sx;have Ws:=sr.q0;have f0:=sr.frozen 0;clear Oq Sx sr
    gi_wp2
    go_roundw
    ·
     have Yo:=Turns.setCell (own:=λk=>k=XD) XE (p:=⟨XD,0,none⟩) rfl (.int .i64 ((p:Nat)+1:Int));refine⟨k+1,pM,⟨?_⟩,⟨?_⟩,⟨?_⟩,⟨?_⟩,⟨?_⟩⟩
     ·exact(((YZ.o.turns NV.o (λ_ h=>by omega)).holds PQ.o (λ_ h=>.inl h))).turns Yo (λ_ h=>by omega)
     ·have:=YY.o.ai 0 (.int .i64 ((p:Nat)+1:Int));rw[show((a0+(k+1):Nat):Int)=(p:Int)+1 by have:=WI.o;omega];grind
     ·exact Yo.blk ((PQ.o.block _ (.inr (.inr (.inl rfl)))).trans P6.o) (by omega)
     ·exact Yo.blk ((PQ.o.block _ (.inr (.inr (.inr rfl)))).trans WP.o) (by omega)
     rw[aqO,<-WI.o];exact TE.o _ _ _ HO.o Yo
    have Zi:=adl (k:=p+1) (YY.o.ai 0 (.int .i64 ((p:Nat)+1:Int)));have Yu:=aid.o;have VV:=WI.o;omega
   gi_wp2
   rw[Exit.noGoto_normal]
   go_end0
   grind
  obtain rfl:k=r:=by omega
  have ph:=bx (show N.aV set c=false by
   obtain⟨d,Zi,Yu⟩:=N.akM (cs:=cs) (s:=set) (a:=a0) (by rw[<-ZK.o,<-WI.o];omega);rw[<-ZK.o,<-WI.o]at Zi;have:=OF.o.symm.trans Zi
   grind)
  gi_wp2
  refine wpIn_wide.2 ?_
  go_quiet ((go_at_call 309;exact MQ (afh set c false ph.o _)))
  have NV:=bx (Turns.of_below (own:=λk=>k=XD) (below_drewN (Below.refl wr.heap.size wr) nq))
  gi_wp2
  rw[Exit.noGoto_normal]
  go_end0
  exact⟨⟨_,rfl⟩,.inl ⟨_,by rw[ZK.o],TE.o _ _ _ YO.o NV.o⟩⟩
 have pM:k=r:=by have:=WI.o;omega
 have MI:decide (((p:Nat):Int)<(cs.length:Int))=false:=Yp (by omega)
 gi_wp2
 refine wpIn_wide.2 ?_
 go_quiet (fail)
 have NV:=bx (Turns.of_below (own:=λk=>k=XD) (below_drewN (Below.refl wr.heap.size wr) nq))
 gi_wp2
 rw[Exit.noGoto_normal]
 go_end0
 exact⟨⟨_,rfl⟩,.inl ⟨_,by rw[pM,ZK.o],TE.o _ _ _ YO.o NV.o⟩⟩
theorem four(w:World)(YV c1 c2 c3:Array Value)(SD SC SB Ko:TypeId):
  Zv ((((w.alloc (.cells YV SD)).alloc (.cells c1 SC)).alloc (.cells c2 SB)).alloc (.cells c3 Ko)) w.heap.size SD YV/\Zv ((((w.alloc (.cells YV SD)).alloc (.cells c1 SC)).alloc (.cells c2 SB)).alloc (.cells c3 Ko)) (w.heap.size+1) SC c1/\
   Zv ((((w.alloc (.cells YV SD)).alloc (.cells c1 SC)).alloc (.cells c2 SB)).alloc (.cells c3 Ko)) (w.heap.size+1+1) SB c2/\Zv ((((w.alloc (.cells YV SD)).alloc (.cells c1 SC)).alloc (.cells c2 SB)).alloc (.cells c3 Ko)) (w.heap.size+1+1+1) Ko c3/\
   Z6 w ((((w.alloc (.cells YV SD)).alloc (.cells c1 SC)).alloc (.cells c2 SB)).alloc (.cells c3 Ko))/\((((w.alloc (.cells YV SD)).alloc (.cells c1 SC)).alloc (.cells c2 SB)).alloc (.cells c3 Ko)).heap.size=w.heap.size+4:=by
 refine⟨(((Zv.new w _ _).alloc _).alloc _).alloc _,?_,?_,?_,(((YU.alloc Ys _).alloc (by simp) _).alloc (by simp;omega) _).alloc (by simp;omega) _,by simp⟩
 ·have:=((Zv.new (w.alloc (.cells YV SD)) SC c1).alloc (.cells c2 SB)).alloc (.cells c3 Ko)
  simp_all
 ·have:=(Zv.new ((w.alloc (.cells YV SD)).alloc (.cells c1 SC)) SB c2).alloc (.cells c3 Ko)
  simp_all
 have:=Zv.new (((w.alloc (.cells YV SD)).alloc (.cells c1 SC)).alloc (.cells c2 SB)) Ko c3
 simp_all
theorem Be(w:World)(o:Obj):Z6 w (w.alloc o):=YU.alloc Ys o
theorem atK{w:World}{g:Nat}{T:TypeId}{x:Int}(h:Zv w g T #[Z9 x]):Y6 w (.slice (some ⟨g,0,none⟩) 1 1) [x]:=
 .inr ⟨g,0,none,1,rfl,by simp,by unfold maxLen;omega,λ_=>⟨rfl,h.lt,λi y ZJ=>by
  match i,ZJ with
  |0,ZJ=>
   simp only[Ig,OS]at ZJ;subst ZJ;exact(h.cell 0).trans rfl
  |i+1,ZJ=>simp at ZJ⟩⟩
theorem r6{P:Program}{fn:Func}{p:Tmp}{ty:TypeId}(h:fn.results=#[.cell p ty])(tmps:Array Value)(w:World)(g:Nat)(v:Value)(hp:tmps.getD p undef=Zn g)(ZL:w.cell? ⟨g,0,none⟩=some v)(YZ:(isAgg ty).run P w=.ok false w):(results fn tmps).run P w=.ok v w:=by
 have tN:tmps[p]?.getD undef=Zn g:=by simp_all
 simp[results,h,tN,asAddr,loadVar,YZ,ZL]
theorem ajy(Xu:Nat)(UX:Value)(cs:List Int)(set:Int)(a:Nat)(w:World)(Xv:Zv w Xu 403 #[UX])(hC:Y6 w UX cs)(ZY:cs.length<=16777216)(YZ:a<=cs.length):
  Calls prog 327 #[Zn Xu,Z9 set,Z9 a] w λe w'=>(∃v,e=.returned v/\Y6 w' v (Q8 cs (set,0) a))/\Z6 w w':=by
 have W3:=bx Xv;have Yq:=bx hC;have Nh:=Xv.lt;clear Xv hC;refine(callsIn_wide (n:=9)).1 (callsIn_of_wp_marks func327 rfl trivial (wpIn_wide.2 ?_));simp only[ntmps327,My,U3,SK,Nat.reduceAdd,Nat.reduceSub,Mu,Mg,Og,Mo,RQ,SI];go_wp2_with (go_at_call 334;refine YW (my _ _ _ _) ?_)
 obtain⟨Yn,ZZ,Zz,Zb,Us,W1⟩:=four w #[Z1] #[Zn Xu] #[Z9 set] #[Z9 (a:Int)] 22 426 2 3;generalize(((w.alloc (.cells #[Z1] 22)).alloc (.cells #[Zn Xu] 426)).alloc (.cells #[Z9 set] 2)).alloc (.cells #[Z9 (a:Int)] 3)=Xs at Yn ZZ Zz Zb Us W1⊢;have KE:Agree w Xs:=.of_below Us;refine(wpIn_wide (n:=9)).1 (vh (α:=Nat) (gf:=338) (lb:=#[Zn (w.heap.size+1+1+1),Zn (w.heap.size+1),Zn (w.heap.size+1+1)]) rfl (enters_of func338 (by rfl) rfl)
  (encs:=λx:Nat=>#[Z9 x]) (own:=λk=>k=w.heap.size+1+1+1) (keep:=GW w (w.heap.size+1+1+1) (w.heap.size+1) (w.heap.size+1+1)) (ok:=λZC x=>x=a+ZC.length+1/\ZC.length<N.rl cs set a) (S:=λxs _=>xs=Jm a (N.rl cs set a))
  (λk Z3=>by grind[GW])
  (λYH ZM=>lF 7 w Xu UX cs W3.o Yq.o ZY set a YZ (w.heap.size+1+1+1) (w.heap.size+1) (w.heap.size+1+1) (by omega) (by omega) (by omega) _ YH (KE.turns ZM (λ_ h=>h.elim)) (ZM.blk Zb (λh=>h)) (ZM.blk ZZ (λh=>h)) (ZM.blk Zz (λh=>h)))
  (λ_=>rfl)
  (λZC W=>ZC=[]/\Zv W w.heap.size 22 #[Z1]/\Z6 w W)
  (λc _ W=>c=.ret/\N.rl cs set a≠0/\(∃g,Zv W w.heap.size 22 #[.slice (some ⟨g,0,none⟩) 1 1]/\Zv W g 3 #[Z9 ((a+1:Nat):Int)]/\Xs.heap.size+2<=g)/\Z6 w W) ?UW ?Kk ⟨rfl,Yn,Us⟩
  (λx a1 _=>a1={tmps:=#[Zn Xu,Z9 set,Z9 (a:Int),undef,undef,undef,Zn (w.heap.size),Z9 (x:Int),Zn Xu,Zn Xu,Zn Xu,Z9 set,Z9 (a:Int),.func (.func 338) #[] #[Zn (w.heap.size+1+1+1),Zn (w.heap.size+1),Zn (w.heap.size+1+1)],Z9 (x:Int),undef,undef],defers:=[]})
  (λ_ _ _ _ h _=>h) ?assign ?body ?done ?stop (λ_ _ _ h _=>h))
 case UW=>
  rintro ZC W W' ⟨Z7,Z5,ZS⟩ ZM;exact⟨Z7,ZM.blk Z5 (by omega),ZS.trans (ZM.below ZS.size (λk Z3=>by omega))⟩
 case Kk=>
  rintro c ZC W W' ⟨Z7,Z5,⟨g,ZS,ZG,Zi⟩,Yu⟩ ZM;exact⟨Z7,Z5,⟨g,ZM.blk ZS (by omega),ZM.blk ZG (by omega),Zi⟩,Yu.trans (ZM.below Yu.size (λk Z3=>by omega))⟩
 case assign=>
  intro x W K _ Xc
  gi_wp2
  exact Xc _ _ (Turns.refl _ _) rfl
 case body=>
  rintro ZC x a1 W Yj ⟨rfl,Z7,Z5⟩ ⟨rfl,ZT⟩ rfl;have V3:=bx Z7;have U5:=bx Z5;have ZK:=bx ZT;have S4:=Z7.lt;have YV:=Z7.q0;have f0:=Z7.frozen 0;clear Z7 Z5 ZT Yn ZZ Zz Zb Us KE
  gi_wp2
  have F8:=Turns.setCell (own:=λk=>k=w.heap.size) W (p:=⟨w.heap.size,0,none⟩) rfl (.slice (some ⟨W.heap.size,0,none⟩) 1 1);have Yo:=F8.trans (Turns.alloc _ (.cells #[Z9 ((a:Int)+1)] 3));have ZP:=Zv.new (W.setCell ⟨w.heap.size,0,none⟩ (.slice (some ⟨W.heap.size,0,none⟩) 1 1)) 3 #[Z9 ((a:Int)+1)];rw[show(W.setCell ⟨w.heap.size,0,none⟩ (.slice (some ⟨W.heap.size,0,none⟩) 1 1)).heap.size=W.heap.size by simp]at ZP;exact⟨Holds.cA Yo (λk Z3=>by omega) (λk Z3=>by omega),rfl,by have:=ZK.o;omega,⟨W.heap.size,(V3.o.ai 0 _).alloc _,ZP,Yj⟩,U5.o.trans (Yo.below U5.o.size (λk Z3=>by omega))⟩
 case stop=>
  rintro c ZC W Yj ⟨rfl,ZT,⟨g,Z7,Z5,ZG⟩,ZS⟩ XU;have Xf:=bx XU;have H1:=bx Z7;have U5:=bx Z5;have Q3:=bx ZS;have ZK:=bx ZT;clear Z7 Z5 ZS ZT XU Yn ZZ Zz Zb Us KE;refine wpIn_wide.2 ?_;go_wp2_with fail;refine⟨by simp,.inl ⟨_,_,rfl,run_takeDeferred Xf.o,?_⟩⟩;have Yo:=Turns.putObj (own:=λk=>k=Xs.heap.size) W rfl (.deferred none);refine⟨_,r6 results327 _ _ w.heap.size _ rfl ((Yo.blk H1.o (by omega)).q0) (isAgg22 _),⟨_,rfl,?_⟩,Q3.o.trans (Yo.below Q3.o.size (λk Z3=>by omega))⟩;have Z4:Q8 cs (set,0) a=[((a+1:Nat):Int)]:=by
   unfold Q8 N.nx;rw[Y0 rfl,Y4 (by simpa using ZK.o)]
   rfl
  rw[Z4];exact atK (Yo.blk U5.o (by omega))
 case done=>
  intro xs W Yj hS ⟨Z7,Z5,ZS⟩ XU;have ZT:N.rl cs set a=0:=by
   grind[nH]
  have ZK:=bx ZT;have U5:=bx Z5;have Q3:=bx ZS;have Xf:=bx XU;have YV:=Z5.q0;have f0:=Z5.frozen 0;clear Z7 Z5 ZS XU hS ZT Yn ZZ Zz Zb Us KE;go_wp2_with fail;have hS:=Turns.setCell (own:=λk=>k=w.heap.size) W (p:=⟨w.heap.size,0,none⟩) rfl Z1;refine⟨by simp,.inl ⟨_,_,rfl,run_takeDeferred ((hS.block _ (by omega) (by omega)).trans Xf.o),?_⟩⟩;have Yo:Turns (λk=>k=Xs.heap.size) (W.setCell ⟨w.heap.size,0,none⟩ (Z1)) _:=Turns.putObj (own:=λk=>k=Xs.heap.size) _ rfl (.deferred none);refine⟨_,r6 results327 _ _ w.heap.size Z1 rfl ((Yo.blk (U5.o.ai 0 _) (by omega)).q0) (isAgg22 _),⟨_,rfl,?_⟩,
   (Q3.o.trans (hS.below Q3.o.size (λk Z3=>by omega))).trans (Yo.below (by have:=Q3.o.size;simp_all) (λk Z3=>by omega))⟩
  have Z4:Q8 cs (set,0) a=[]:=by
   unfold Q8 N.nx;rw[Y0 rfl,Y0 (by simpa using ZK.o)]
   rfl
  rw[Z4];exact .nil
def D2(xs:List Nat):List Value:=xs.map λn:Nat=>Value.int .i64 (n:Int)
theorem nz(xs:List Nat)(x:Nat):D2 (xs++[x])=D2 xs++[Z9 (x:Int)]:=by simp[D2]
theorem sw:(prog.info? 3).map (λi=>(i.zero,i.size,i.bytes))=some (some (Z9 0),1,8):=by rfl
theorem gY(cs:List Int)(set:Int)(a:Nat):N.nx cs (set,1) a=a::Jm a (N.rl cs set a):=by
 unfold N.nx Jm;rw[Y4 (by simp),Y0 rfl,List.range_succ_eq_map,RG,IZ]
 congr 1
 apply List.map_congr_left
 grind
theorem mJ{w:World}{base n:Nat}{v:Value}{xs:List Nat}(h:w.ownsRow base 3 1 v n (D2 xs))(ZP:n=xs.length):Y6 w v (xs.map λn:Nat=>(n:Int)):=
 Y6.au (base:=base) (n:=n) (T:=3) (by rw[IZ];exact h) (by simp[ZP])
theorem auL(Xu:Nat)(UX:Value)(cs:List Int)(set:Int)(a:Nat)(w:World)(Xv:Zv w Xu 403 #[UX])(hC:Y6 w UX cs)(ZY:cs.length<=1000000)(YZ:a<=cs.length):
  Calls prog 328 #[Zn Xu,Z9 set,Z9 a] w λe w'=>(∃v,e=.returned v/\Y6 w' v (Q8 cs (set,1) a))/\Z6 w w':=by
 have W3:=bx Xv;have Yq:=bx hC;have Nh:=Xv.lt;clear Xv hC;refine(callsIn_wide (n:=9)).1 (callsIn_of_wp_marks func328 rfl trivial (wpIn_wide.2 ?_));simp only[ntmps328,My,U3,SK,Nat.reduceAdd,Nat.reduceSub,Mu,Mg,Og,Mo,RQ,SI];go_wp2_with (go_at_call 334;refine YW (my _ _ _ _) ?_)
 obtain⟨Yn,ZZ,Zz,Zb,Us,W1⟩:=four (w.alloc (.cells #[Z9 (a:Int)] 3)) #[.slice (some ⟨w.heap.size,0,none⟩) 1 1] #[Zn Xu] #[Z9 set] #[Z9 (a:Int)] 22 426 2 3;have ME:=(((((World.ownsRow_lit (base:=w.heap.size) (e:=3) (size:=1) w #[Z9 (a:Int)] 1 Ys (by simp[maxLen]) rfl).alloc (.cells #[.slice (some ⟨w.heap.size,0,none⟩) 1 1] 22)).alloc (.cells #[Zn Xu] 426)).alloc (.cells #[Z9 set] 2)).alloc (.cells #[Z9 (a:Int)] 3))
 have Us:=(Be w (.cells #[Z9 (a:Int)] 3)).trans (Us.mono (Be w _).size);rw[show(w.alloc (.cells #[Z9 (a:Int)] 3)).heap.size=w.heap.size+1 from by simp]at Yn ZZ Zz Zb W1;generalize((((w.alloc (.cells #[Z9 (a:Int)] 3)).alloc (.cells #[.slice (some ⟨w.heap.size,0,none⟩) 1 1] 22)).alloc (.cells #[Zn Xu] 426)).alloc (.cells #[Z9 set] 2)).alloc (.cells #[Z9 (a:Int)] 3)=Xs at Yn ZZ Zz Zb Us W1 ME⊢;have KE:Agree w Xs:=.of_below Us;have ER:=N.dU cs set a YZ;refine(wpIn_wide (n:=9)).1 (vh (α:=Nat) (gf:=338) (lb:=#[Zn (w.heap.size+1+1+1+1),Zn (w.heap.size+1+1),Zn (w.heap.size+1+1+1)]) rfl (enters_of func338 (by rfl) rfl)
  (encs:=λx:Nat=>#[Z9 x]) (own:=λk=>k=w.heap.size+1+1+1+1) (keep:=GW w (w.heap.size+1+1+1+1) (w.heap.size+1+1) (w.heap.size+1+1+1)) (ok:=λZC x=>x=a+ZC.length+1/\ZC.length<N.rl cs set a) (S:=λxs _=>xs=Jm a (N.rl cs set a))
  (λk Z3=>by grind[GW])
  (λYH ZM=>lF 7 w Xu UX cs W3.o Yq.o (by omega) set a YZ (w.heap.size+1+1+1+1) (w.heap.size+1+1) (w.heap.size+1+1+1) (by omega) (by omega) (by omega) _ YH (KE.turns ZM (λ_ h=>h.elim)) (ZM.blk Zb (λh=>h)) (ZM.blk ZZ (λh=>h)) (ZM.blk Zz (λh=>h)))
  (λ_=>rfl)
  (λZC W=>(∃v,Zv W (w.heap.size+1) 22 #[v]/\W.ownsRow w.heap.size 3 1 v (ZC.length+1) (D2 (a::ZC))/\∀g,v.ownBlock=some g->g=w.heap.size\/Xs.heap.size+2<=g)/\Z6 w W)
  (λ_ _ _=>False) ?UW (λ_ _ _ _ h _=>h) ⟨⟨_,Yn,ME,λg ZH=>by cases ZH;simp⟩,Us⟩
  (λx a1 _=>a1={tmps:=#[Zn Xu,Z9 set,Z9 (a:Int),undef,undef,undef,Z1,Zn (w.heap.size+1),Z9 (x:Int),Z9 (a:Int),.slice (some ⟨w.heap.size,0,none⟩) 1 1,Zn Xu,Zn Xu,Zn Xu,Z9 set,Z9 (a:Int),.func (.func 338) #[] #[Zn (w.heap.size+1+1+1+1),Zn (w.heap.size+1+1),Zn (w.heap.size+1+1+1)],Z9 (x:Int),undef,undef,undef,undef,undef],defers:=[]})
  (λ_ _ _ _ h _=>h) ?assign ?body ?done (λ_ _ _ _ h _=>h.elim) (λ_ _ _ h _=>h))
 case UW=>
  rintro ZC W W' ⟨⟨v,Z7,Z5,ZS⟩,ZG⟩ ZM;exact⟨⟨v,ZM.blk Z7 (by omega),ZM.row Z5 (λk Z3=>by grind),ZS⟩,ZG.trans (ZM.below ZG.size (λk Z3=>by omega))⟩
 case assign=>
  intro x W K _ Xc
  gi_wp2
  exact Xc _ _ (Turns.refl _ _) rfl
 case body=>
  rintro ZC x a1 W Yj ⟨⟨v,Z7,Z5,ZS⟩,ZG⟩ ⟨Z4,ZT⟩ rfl;have Zu:=Z5.lt;have jV:=ZG.size;have ZL:=Z7.q0;have Yz:=Z7.frozen 0;have ZN:=bx Z7;have W4:=bx Zu;have Q3:=bx ZS;have Nq:=bx ZG;have ZK:=bx Z5;have S6:=bx (nz (a::ZC) x);obtain⟨i0,hi,Vs,Up,Vf⟩:=info_parts sw;have Q7:=bx (show v.ownBlock≠some (w.heap.size+1)from λe=>by grind);have TK:ZC.length<1000000:=by omega
  obtain⟨Tv,Wr,rfl⟩:=ownsRow_succ Z5;clear Z7 Z5 ZS ZG Yn ZZ Zz Zb Us ZT ME Zu KE Z4
  gi_wp2_with (gi_at_builtin;refine wpListIn_append_own_at _ rfl _ _ 22 rfl w.heap.size 3 i0 (Z9 0) 1 8 underlying22 hi Vs Up Vf rfl (by decide) (.slice (some ⟨Tv,0,none⟩) (ZC.length+1) Wr) _ _ rfl (ZK.o.alloc _) ⟨W.heap.size,0,none⟩ 1 1 [Z9 (x:Int)] rfl rfl (cell_one_new _ _ _) (by simp[Value.oneCell']) (by grind[maxLen]) (by omega) (by simp;omega) ?_;intro Zy ZV Tf UN _ MK;obtain⟨Ui,cap',rfl⟩:=ownsRow_succ Tf;have WV:=(ZN.o.alloc _).grown UN (Ne.symm Q7.o);have W2:=WV.cell 0;have MH:=WV.frozen 0;simp at W2)
  have K6:Ui=Tv\/Ui=W.heap.size+1:=by
   rcases MK with h|h
   ·grind[Value.ownBlock]
   right;simpa[Value.ownBlock]using h
  have pI:=Q3.o Tv rfl;have mI:=(W4.o Tv rfl).2;have Yo:Turns (λk=>k=Tv\/k=w.heap.size+1) W (ZV.setCell ⟨w.heap.size+1,0,none⟩ (.slice (some ⟨Ui,0,none⟩) (ZC.length+1+1) cap')):=
   ((Turns.alloc W _).trans (CH UN (λk Z3=>.inl (by grind[Value.ownBlock])))).trans (Turns.setCell _ (.inr rfl) _)
  refine⟨Holds.cA Yo (λk Z3=>by grind[GW]) (λk Z3 h=>by grind[GW]),⟨_,WV.ai 0 _,?_,λg ZH=>?_⟩,Nq.o.trans (Yo.below Nq.o.size (λk Z3=>by omega))⟩
  ·rw[<-SI,S6.o];have:=(Turns.setCell (own:=λk=>k=w.heap.size+1) ZV (p:=⟨w.heap.size+1,0,none⟩) rfl (.slice (some ⟨Ui,0,none⟩) (ZC.length+1+1) cap')).row Tf (λk Z3=>by grind[Value.ownBlock])
   grind
  grind[Value.ownBlock]
 case done=>
  intro xs W Yj hS ⟨⟨v,Z7,Z5,ZS⟩,ZG⟩ XU;have YV:=Z7.q0;have U5:=bx ZG;have Xf:=bx XU;have ZK:=bx Z5;have Xe:=bx hS;have Q3:=bx ZS;clear Z7 Z5 ZS ZG XU Yn ZZ Zz Zb Us hS ME KE;go_wp2_with fail;refine⟨by simp,.inl ⟨_,_,rfl,run_takeDeferred Xf.o,?_⟩⟩;refine⟨_,results_tmp rfl _ _ _,?_⟩;have ZT:=(Turns.putObj (own:=λk=>k=Xs.heap.size) W rfl (.deferred none)).row ZK.o (λk Z3=>by rcases Q3.o k Z3 with h|h <;> omega);refine⟨⟨v,rfl,?_⟩,U5.o.trans ((Turns.putObj (own:=λk=>k=Xs.heap.size) W rfl _).below U5.o.size (λk Z3=>by omega))⟩;have hi:=mJ ZT (by simp);rw[Xe.o,<-gY]at hi;exact hi
def evens(a:Nat)(xs:List Nat):List Nat:=xs.filter λn=>(n-a)%2==0
theorem au5(a:Nat)(xs:List Nat):(evens a xs).length<=xs.length:=List.length_filter_le _ _
theorem auD(a:Nat)(xs:List Nat)(x:Nat)(h:(x-a)%2=0):evens a (xs++[x])=evens a xs++[x]:=by simp[evens,h]
theorem akD(a:Nat)(xs:List Nat)(x:Nat)(h:(x-a)%2≠0):evens a (xs++[x])=evens a xs:=by simp[evens,h]
theorem ap2(cs:List Int)(set:Int)(a:Nat):N.nx cs (set,2) a=a::evens a (Jm a (N.rl cs set a)):=by
 have h:=gY cs set a;unfold N.nx at h⊢;rw[Y4 (by simp),Y0 rfl]at h;rw[Y4 (by simp),Y4 (by simp)];have e:(λd:Nat=>d%2==0)=((λn:Nat=>(n-a)%2==0)∘(a+·)):=by
  grind
 grind[evens]
theorem be(w:World)(cs NF NE:Array Value)(SD SC SB:TypeId):
  Zv (((w.alloc (.cells cs SD)).alloc (.cells NF SC)).alloc (.cells NE SB)) w.heap.size SD cs/\Zv (((w.alloc (.cells cs SD)).alloc (.cells NF SC)).alloc (.cells NE SB)) (w.heap.size+1) SC NF/\Zv (((w.alloc (.cells cs SD)).alloc (.cells NF SC)).alloc (.cells NE SB)) (w.heap.size+1+1) SB NE/\
   Z6 w (((w.alloc (.cells cs SD)).alloc (.cells NF SC)).alloc (.cells NE SB))/\(((w.alloc (.cells cs SD)).alloc (.cells NF SC)).alloc (.cells NE SB)).heap.size=w.heap.size+3:=by
 refine⟨((Zv.new w _ _).alloc _).alloc _,?_,?_,((YU.alloc Ys _).alloc (by simp) _).alloc (by simp;omega) _,by simp⟩
 ·have:=(Zv.new (w.alloc (.cells cs SD)) SC NF).alloc (.cells NE SB)
  simp_all
 have:=Zv.new ((w.alloc (.cells cs SD)).alloc (.cells NF SC)) SB NE
 simp_all
theorem alK(Xu:Nat)(UX:Value)(cs:List Int)(set:Int)(a:Nat)(w:World)(Xv:Zv w Xu 403 #[UX])(hC:Y6 w UX cs)(ZY:cs.length<=1000000)(YZ:a<=cs.length):
  Calls prog 329 #[Zn Xu,Z9 set,Z9 a] w λe w'=>(∃v,e=.returned v/\Y6 w' v (Q8 cs (set,2) a))/\Z6 w w':=by
 have W3:=bx Xv;have Yq:=bx hC;have Nh:=Xv.lt;clear Xv hC;refine(callsIn_wide (n:=9)).1 (callsIn_of_wp_marks func329 rfl trivial (wpIn_wide.2 ?_));simp only[ntmps329,My,U3,SK,Nat.reduceAdd,Nat.reduceSub,Mu,Mg,Og,Mo,RQ,SI];go_wp2_with fail;obtain⟨U9,Rh,Rx,sH,ag0⟩:=be w #[Z9 (a:Int)] #[Z9 (a:Int)] #[.slice (some ⟨w.heap.size+1,0,none⟩) 1 1] 3 3 22;have sI:=(World.ownsRow_lit (base:=w.heap.size) (e:=3) (size:=1) (w.alloc (.cells #[Z9 (a:Int)] 3)) #[Z9 (a:Int)] 1 (by simp) (by simp[maxLen]) rfl).alloc (.cells #[.slice (some ⟨w.heap.size+1,0,none⟩) 1 1] 22);rw[show(w.alloc (.cells #[Z9 (a:Int)] 3)).heap.size=w.heap.size+1 from by simp]at sI;generalize((w.alloc (.cells #[Z9 (a:Int)] 3)).alloc (.cells #[Z9 (a:Int)] 3)).alloc (.cells #[.slice (some ⟨w.heap.size+1,0,none⟩) 1 1] 22)=zz at U9 Rh Rx sH ag0 sI⊢;refine wp_region_still_tail 5 (by rfl) (by kernel_rfl) ?_;simp only[Lu,J3,List.drop_succ_cons,List.drop_zero]
 change wpStill _ _ (World.drew zz) (λOa=>wpList _ _ _ _ Oa (World.drew zz)) _ _
 have xR:Turns (λ_=>False) zz zz.drew:=Turns.drew zz;obtain⟨Mp,ag8⟩:∃Mp,Mp=zz.drew:=⟨_,rfl⟩
 rw[<-ag8]at xR⊢;have U9:=xR.blk U9 (λh=>h);have Rx:=xR.blk Rx (λh=>h);have jZ:=xR.row sI (λ_ _ h=>h);have pW:Z6 w Mp:=sH.trans (xR.below sH.size (λ_ h=>h.elim));have ob:Mp.heap.size=w.heap.size+3:=by simp_all
 have Wv:=U9.q0;have arv:=bx ob;clear ag8 xR sH ag0 sI Rh ob
 still_step
 still_step
 still_step
 still_step
 still_step
 refine wpStill_nil ?_
 change wpList _ _ _ _ _ _
 go_wp2_with (go_at_call 334;refine YW (my _ _ _ _) ?_)
 clear Wv;have ob:=Nat.le_of_eq arv.o.symm;obtain⟨ZZ,Zz,Zb,Us,W1⟩:=be Mp #[Zn Xu] #[Z9 set] #[Z9 (a:Int)] 426 2 3;have ME:=((jZ.alloc (.cells #[Zn Xu] 426)).alloc (.cells #[Z9 set] 2)).alloc (.cells #[Z9 (a:Int)] 3);generalize((Mp.alloc (.cells #[Zn Xu] 426)).alloc (.cells #[Z9 set] 2)).alloc (.cells #[Z9 (a:Int)] 3)=Xs at ZZ Zz Zb Us W1 ME⊢;have Yn:=Rx.below Us (by omega);have Ki:=U9.below Us (by omega);have Us:=bt pW Us;have KE:Agree w Xs:=.of_below Us;have ER:=N.dU cs set a YZ;refine(wpIn_wide (n:=9)).1 (vh (α:=Nat) (gf:=338) (lb:=#[Zn (Mp.heap.size+1+1),Zn (Mp.heap.size),Zn (Mp.heap.size+1)]) rfl (enters_of func338 (by rfl) rfl)
  (encs:=λx:Nat=>#[Z9 x]) (own:=λk=>k=Mp.heap.size+1+1) (keep:=GW w (Mp.heap.size+1+1) (Mp.heap.size) (Mp.heap.size+1)) (ok:=λZC x=>x=a+ZC.length+1/\ZC.length<N.rl cs set a) (S:=λxs _=>xs=Jm a (N.rl cs set a))
  (λk Z3=>by grind[GW])
  (λYH ZM=>lF 7 w Xu UX cs W3.o Yq.o (by omega) set a YZ (Mp.heap.size+1+1) (Mp.heap.size) (Mp.heap.size+1) (by omega) (by omega) (by omega) _ YH (KE.turns ZM (λ_ h=>h.elim)) (ZM.blk Zb (λh=>h)) (ZM.blk ZZ (λh=>h)) (ZM.blk Zz (λh=>h)))
  (λ_=>rfl)
  (λZC W=>(∃v,Zv W w.heap.size 3 #[Z9 (a:Int)]/\Zv W (w.heap.size+1+1) 22 #[v]/\W.ownsRow w.heap.size 3 1 v ((evens a ZC).length+1) (D2 (a::evens a ZC))/\∀g,v.ownBlock=some g->g=w.heap.size+1\/Xs.heap.size+2<=g)/\Z6 w W)
  (λ_ _ _=>False) ?UW (λ_ _ _ _ h _=>h) ⟨⟨_,Ki,Yn,ME,λg ZH=>by cases ZH;simp⟩,Us⟩
  (λx a1 _=>a1={tmps:=#[Zn Xu,Z9 set,Z9 (a:Int),undef,undef,Zn (w.heap.size),Z1,Zn (w.heap.size+1+1),Z9 (x:Int),Z9 (a:Int),.slice (some ⟨w.heap.size+1,0,none⟩) 1 1,Zn Xu,Zn Xu,Zn Xu,Z9 set,Z9 (a:Int),.func (.func 338) #[] #[Zn (Mp.heap.size+1+1),Zn (Mp.heap.size),Zn (Mp.heap.size+1)],Z9 (x:Int),undef,undef,undef,undef,undef,undef,undef,undef,undef,undef],defers:=[]})
  (λ_ _ _ _ h _=>h) ?assign ?body ?done (λ_ _ _ _ h _=>h.elim) (λ_ _ _ h _=>h))
 case UW=>
  rintro ZC W W' ⟨⟨v,ZI,Z7,Z5,ZS⟩,ZG⟩ ZM;exact⟨⟨v,ZM.blk ZI (by omega),ZM.blk Z7 (by omega),ZM.row Z5 (λk Z3=>by grind),ZS⟩,ZG.trans (ZM.below ZG.size (λk Z3=>by omega))⟩
 case assign=>
  intro x W K _ Xc
  gi_wp2
  exact Xc _ _ (Turns.refl _ _) rfl
 case body=>
  rintro ZC x a1 W Yj ⟨⟨v,ZI,Z7,Z5,ZS⟩,ZG⟩ ⟨Z4,ZT⟩ rfl;have Wv:=ZI.q0;have HI:=bx ZI;have YD:=bx Z4;have af8:a<=x:=by omega
  have I6:x<=cs.length:=by omega
  have Zu:=Z5.lt;have jV:=ZG.size;have ZL:=Z7.q0;have Yz:=Z7.frozen 0;have ZN:=bx Z7;have W4:=bx Zu;have Q3:=bx ZS;have Nq:=bx ZG;have ZK:=bx Z5;have S6:=bx (nz (a::evens a ZC) x);obtain⟨i0,hi,Vs,Up,Vf⟩:=info_parts sw;have Q7:=bx (show v.ownBlock≠some (w.heap.size+1+1)from λe=>by grind);have TK:(evens a ZC).length<1000000:=by have:=au5 a ZC;omega
  obtain⟨Tv,Wr,rfl⟩:=ownsRow_succ Z5;clear Z7 Z5 ZS ZG Yn ZZ Zz Zb Us ZT ME Zu KE ZI U9 Rx Ki jZ pW Z4
  by_cases he:(x-a)%2=0
  ·have Qu:=bx (auD a ZC x he);have t1:(((x:Int)-(a:Int))%2==0)=true:=by grind
   clear he
   gi_wp2_with (gi_at_builtin;refine wpListIn_append_own_at _ rfl _ _ 22 rfl w.heap.size 3 i0 (Z9 0) 1 8 underlying22 hi Vs Up Vf rfl (by decide) (.slice (some ⟨Tv,0,none⟩) ((evens a ZC).length+1) Wr) _ _ rfl (ZK.o.alloc _) ⟨W.heap.size,0,none⟩ 1 1 [Z9 (x:Int)] rfl rfl (cell_one_new _ _ _) (by simp[Value.oneCell']) (by grind[maxLen]) (by omega) (by simp;omega) ?_;intro Zy ZV Tf UN _ MK;obtain⟨Ui,cap',rfl⟩:=ownsRow_succ Tf;have WV:=(ZN.o.alloc _).grown UN (Ne.symm Q7.o);have W2:=WV.cell 0;have MH:=WV.frozen 0;simp at W2)
   have K6:Ui=Tv\/Ui=W.heap.size+1:=by
    rcases MK with h|h
    ·grind[Value.ownBlock]
    right;simpa[Value.ownBlock]using h
   have pI:=Q3.o Tv rfl;have mI:=(W4.o Tv rfl).2;have Yo:Turns (λk=>k=Tv\/k=w.heap.size+1+1) W (ZV.setCell ⟨w.heap.size+1+1,0,none⟩ (.slice (some ⟨Ui,0,none⟩) ((evens a ZC).length+1+1) cap')):=
    ((Turns.alloc W _).trans (CH UN (λk Z3=>.inl (by grind[Value.ownBlock])))).trans (Turns.setCell _ (.inr rfl) _)
   refine⟨Holds.cA Yo (λk Z3=>by grind[GW]) (λk Z3 h=>by grind[GW]),⟨_,Yo.blk HI.o (by omega),WV.ai 0 _,?_,λg ZH=>?_⟩,Nq.o.trans (Yo.below Nq.o.size (λk Z3=>by omega))⟩
   ·rw[Qu.o,<-SI,S6.o];have:=(Turns.setCell (own:=λk=>k=w.heap.size+1+1) ZV (p:=⟨w.heap.size+1+1,0,none⟩) rfl (.slice (some ⟨Ui,0,none⟩) ((evens a ZC).length+1+1) cap')).row Tf (λk Z3=>by grind[Value.ownBlock])
    grind
   grind[Value.ownBlock]
  have Qu:=bx (akD a ZC x he);have t1:(((x:Int)-(a:Int))%2==0)=false:=by grind
  clear he
  gi_wp2_with fail
  exact⟨Holds.refl _ _,⟨_,HI.o,ZN.o,by rw[Qu.o];exact ZK.o,Q3.o⟩,Nq.o⟩
 case done=>
  intro xs W Yj hS ⟨⟨v,ZI,Z7,Z5,ZS⟩,ZG⟩ XU;have YV:=Z7.q0;have U5:=bx ZG;have Xf:=bx XU;have ZK:=bx Z5;have Xe:=bx hS;have Q3:=bx ZS;clear ZI Z7 Z5 ZS ZG XU Yn ZZ Zz Zb Us hS ME KE U9 Rx Ki jZ pW;go_wp2_with fail;refine⟨by simp,.inl ⟨_,_,rfl,run_takeDeferred Xf.o,?_⟩⟩;refine⟨_,results_tmp rfl _ _ _,?_⟩;have ZT:=(Turns.putObj (own:=λk=>k=Xs.heap.size) W rfl (.deferred none)).row ZK.o (λk Z3=>by rcases Q3.o k Z3 with h|h <;> omega);refine⟨⟨v,rfl,?_⟩,U5.o.trans ((Turns.putObj (own:=λk=>k=Xs.heap.size) W rfl _).below U5.o.size (λk Z3=>by omega))⟩;have hi:=mJ ZT (by simp);rw[Xe.o,<-ap2]at hi;exact hi
end
section
open Go.Sort
theorem am1(w:World):grow w #[]=w:=by rfl
theorem amg{ps:List Pc}{W:World}(h:Sep ps W)(i:Nat){base n:Nat}{e:TypeId}{v:Value}{zs:List Int}(hi:ps[i]?=some (Pc.row base e 1 v n (zs.map (Value.int .i64))))(ZP:n=zs.length)(ZY:n<=1000000):
  Calls prog 336 #[v] W λR8 W'=>∃Zy,R8=.returned Zy/\Sep (ps.set i (Pc.row base e 1 Zy (Go.Lib.compact zs).length ((Go.Lib.compact zs).map (Value.int .i64)))) W':=by
 subst ZP;have V7:=h.row i hi
 rcases V7.2 with⟨rfl,Z5⟩|⟨g,ZU,VY,rfl,Z8,ZH,ZS,ZG,Zi,Yu⟩
 ·have Vs:=L4 Z5;subst Vs;refine(avJ none 0 W).mono ?_;rintro R8 W' ⟨rfl,rfl⟩;refine⟨_,rfl,?_⟩;have Zq:ps.set i (Pc.row base e 1 Z1 (Go.Lib.compact ([]:List Int)).length ((Go.Lib.compact ([]:List Int)).map (Value.int .i64)))=ps:=by
   obtain⟨Zx,Zr⟩:=R7 hi;rw[show Go.Lib.compact ([]:List Int)=[]from rfl,show([]:List Int).length=0 from rfl];have Zk:ps[i]=Pc.row base e 1 Z1 0 []:=Zr;rw[Pa,<-Zk,List.set_getElem_self]
  grind
 rw[Nat.mul_one]at Yu;refine(amM g 0 ZU zs W (holds_of_blockI ZH Yu) (by omega) ZS).mono ?_;rintro R8 W' ⟨rfl,q,rfl⟩;have LG:=Go.Lib.compact_length_le zs;obtain⟨d,Zm⟩:∃d,Go.Lib.compact zs++List.replicate (zs.length-(Go.Lib.compact zs).length) (0:Int)=d:=⟨_,rfl⟩
 have xO:d.length=zs.length:=by grind
 rw[Zm];have WG:=grownBy_sortedI (w:=W) (g:=g) (n:=q) (os:=#[]) d.toArray;have BD:=ownsRow_sortedI (n:=q) (os:=#[]) xO Z8 ZH ZS ZG Zi;rw[am1]at WG BD;refine⟨_,rfl,h.grow i hi WG ?_ (.inl rfl)⟩;refine⟨by simp,.inr ?_⟩
 rcases BD.2 with⟨VV,_⟩|⟨Ui,cap',afB,VV,Vz,WK,k1,k0,kZ,afL⟩
 ·cases VV
 cases VV;refine⟨g,ZU,afB,rfl,Vz,WK,by omega,k0,kZ,?_⟩;rw[Nat.mul_one]at afL⊢;have:=congrArg (List.take (Go.Lib.compact zs).length) afL;grind
theorem akI{ps:List Pc}{W:World}(h:Sep ps W)(i:Nat){base n:Nat}{e:TypeId}{v:Value}{zs:List Int}(hi:ps[i]?=some (Pc.row base e 1 v n (zs.map (Value.int .i64))))(ZP:n=zs.length)(ZY:n<=1000000):
  Calls prog 330 #[v] W λR8 W'=>∃Zy,R8=.returned Zy/\Sep (ps.set i (Pc.row base e 1 Zy (bz zs).length ((bz zs).map (Value.int .i64)))) W':=by
 have Xe:=bx (ajJ h i hi ZP ZY);have QI:=(R7 hi).1;clear h hi
 go_in
 go_wp2_with fail;refine Y3 Xe.o λZV Z7=>?_
 have Yq:=bx (amg Z7 i (by rw[List.getElem?_set_self QI]) (by grind[hn]) ZY);clear Z7;go_wp2_with fail;refine Yq.o.mono ?_;rintro YP ZB ⟨Zy,rfl,Z5⟩;rw[List.set_set]at Z5;have U5:=bx Z5;clear Z5
 go_wp2
 go_ret
 exact⟨_,rfl,U5.o⟩
end
theorem Iw:ID prog 22 3 1 8:=.mk' (z:=Z9 0) underlying22 (by rfl) rfl
theorem mv{w:World}{v:Value}{xs:List Int}(h:Y6 w v xs):IY w v xs.length (xs.map (Value.int .i64)):=by
 rcases h with⟨Z7,rfl⟩|⟨b,off,sp,ZU,Z7,Z5,ZS,ZG⟩
 ·exact .inl ⟨Z7,rfl,rfl⟩
 refine .inr ⟨_,ZU,Z7,λj u hu=>?_⟩;rw[RX]at hu
 cases Z4:xs[j]? with
 |none=>grind
 |some x=>
  rw[Z4]at hu
  cases hu;obtain⟨rfl,-,Yu⟩:=ZG (by grind)
  (try unfold ZQ at *);grind[Addr.add]
def Nt(Xu:Nat):MapEntry:=⟨Z9 0,.func (.func 327) #[Zn Xu] #[],0⟩
def M1(Xu:Nat):MapEntry:=⟨Z9 1,.func (.func 328) #[Zn Xu] #[],1⟩
def Mw(Xu:Nat):MapEntry:=⟨Z9 2,.func (.func 329) #[Zn Xu] #[],2⟩
def H4(xs:List Int):List Value:=xs.map (Value.int .i64)
theorem auB(xs Vi:List Int):H4 (xs++Vi)=H4 xs++Vi.map (Value.int .i64):=by simp[H4]
theorem lr(Vi:List Int):∀u∈Vi.map (Value.int .i64),u.oneCell'=true:=by
 intro u hu;obtain⟨y,-,rfl⟩:=SL.1 hu
 rfl
theorem ajZ(cs:List Int)(x:N.Item)(O:List Int)(j:Nat)(b:Int)(h:O[j]?=some b):(O.take (j+1)).flatMap (Q8 cs x)=(O.take j).flatMap (Q8 cs x)++Q8 cs x b:=by
 rw[Uo,h,Hi];simp
theorem ap8(Xu:Nat)(UX:Value)(cs:List Int)(ZD:Value)(l:List N.Item)(a:Nat)(w:World)(Xv:Zv w Xu 403 #[UX])(hC:Y6 w UX cs)(UW:VA w ZD l)(Uy:∀x∈l,x.2=0\/x.2=1\/x.2=2)(ZY:cs.length<=900)(hl:l.length<=1000)(YZ:a<=cs.length):
  Calls prog 310 #[Zn Xu,ZD,Z9 a] w λe w'=>(∃v,e=.returned v/\Y6 w' v (N2 cs l a l.length))/\Z6 w w':=by
 have W3:=bx Xv;have Yq:=bx hC;have YE:=bx UW;have Q2:=bx Uy;have Nh:=Xv.lt;have J9:=@run_makeMap prog;have D9:=IU (P:=prog) underlying417 underlying3 w #[] 0 0 (Nt Xu).val w.heap.size rfl rfl;have DO:=IU (P:=prog) underlying417 underlying3 w #[Nt Xu] 1 1 (M1 Xu).val w.heap.size rfl rfl;have D0:=IU (P:=prog) underlying417 underlying3 w #[Nt Xu,M1 Xu] 2 2 (Mw Xu).val w.heap.size rfl rfl;simp only[Og,RQ,SI,Nt,M1,Mw,Nat.reduceAdd,Nat.zero_add]at D9 DO D0;obtain⟨io,UQ,rfl⟩:=UW.slice;clear Xv hC UW Uy
 go_in
 go_wp2_with fail;clear J9 D9 DO D0;have XI:=bx (show Sep [Pc.row w.heap.size 3 1 (.slice (some ⟨w.heap.size+1,0,none⟩) (N2 cs l a 0).length 1) (N2 cs l a 0).length (H4 (N2 cs l a 0)),Pc.obj w.heap.size (.map #[Nt Xu,M1 Xu,Mw Xu] 3),Pc.old w.heap.size w] ((w.alloc (.map #[Nt Xu,M1 Xu,Mw Xu] 3)).alloc (.cells #[Z9 (a:Int)] 3)) by
  have Z7:Sep [Pc.obj w.heap.size (.map #[Nt Xu,M1 Xu,Mw Xu] 3),Pc.old w.heap.size w] (w.alloc (.map #[Nt Xu,M1 Xu,Mw Xu] 3)):=
   (Sep.start w).add (Be w _) (World.alloc_heap_new w _) (λk Z3=>by rw[show k=w.heap.size from Z3];omega)
  have Z5:=World.ownsRow_lit (base:=w.heap.size) (e:=3) (size:=1) (w.alloc (.map #[Nt Xu,M1 Xu,Mw Xu] 3)) #[Z9 (a:Int)] 1 (by simp) (by simp[maxLen]) rfl;rw[show(w.alloc (.map #[Nt Xu,M1 Xu,Mw Xu] 3)).heap.size=w.heap.size+1 from by simp]at Z5;rw[sZ];exact Z7.add (Be _ _) Z5 (λk Z3=>by simp[Pc.row,Value.ownBlock]at Z3;simp;omega))
 unfold Nt M1 Mw at XI
 go_loopw[26,8] (λi o wr=>∃(k:Nat)(UP:Option Addr)(Wr:Nat),k<=l.length/\i=Z9 k/\o=.slice UP (N2 cs l a k).length Wr/\Box (Sep [Pc.row w.heap.size 3 1 (.slice UP (N2 cs l a k).length Wr) (N2 cs l a k).length (H4 (N2 cs l a k)),Pc.obj w.heap.size (.map #[Nt Xu,M1 Xu,Mw Xu] 3),Pc.old w.heap.size w] wr))
  (λi _ _=>l.length-(intOf i).toNat)
 ·exact⟨0,_,_,OQ _,rfl,by rfl,XI⟩
 obtain⟨k,UP,Wr,Z3,rfl,rfl,hS⟩:=hrel;clear XI;have YA:=bx (hS.o.bel (n:=w.heap.size) (W0:=w) (by simp))
 by_cases Zu:k<l.length
 ·obtain⟨x,Z4⟩:=Yg l k Zu;obtain⟨g,off,XV,Y5,XL,Yi,XB,YX⟩:=(YE.o.below YA.o).get (by grind);obtain⟨rfl,rfl⟩:=XN Y5;obtain⟨W2,VM⟩:=YX k x Z4;have am7:=Q2.o x (Xh Z4);have ZE:=bx (re cs l a k x Z4);have kH:=lU cs l a (by omega) (by omega) k Z3;have awN:=amZ cs l a (by omega) (by omega) k Z3;obtain⟨O,afW⟩:∃O,N2 cs l a k=O:=⟨_,rfl⟩
  rw[afW]at kH awN ZE hS⊢;have oZ:=bx kH;unfold maxLen at Yi;obtain⟨set,how⟩:=x;have Lc:=bx ((hS.o.ak 389 #[Z9 set,Z9 how]).aH w.heap.size 1 3);obtain⟨ub,pC⟩:∃ub,ub=wr.heap.size:=⟨_,rfl⟩
  have B0:=bx pC;rw[<-pC]at Lc;clear Z4 Y5 YX afW kH pC;go_wp2_with fail;rw[<-B0.o];clear B0
  go_loopw[32,11] (λi Zo CQ=>∃(j:Nat)(v2:Value),j<=O.length/\i=Z9 j/\v2=Zo/\Box (Sep [Pc.row w.heap.size 3 1 v2 ((O.take j).flatMap (Q8 cs (set,how))).length (H4 ((O.take j).flatMap (Q8 cs (set,how)))),Pc.blk ub 389 #[Z9 set,Z9 how],Pc.row w.heap.size 3 1 (.slice UP O.length Wr) O.length (H4 O),Pc.obj w.heap.size (.map #[Nt Xu,M1 Xu,Mw Xu] 3),Pc.old w.heap.size w] CQ))
   (λi _ _=>O.length-(intOf i).toNat)
  ·exact⟨0,_,OQ _,rfl,rfl,Lc⟩
  obtain⟨j,v2,YO,rfl,rfl,Cw⟩:=hrel;have O7:=bx (Cw.o.bel (n:=w.heap.size) (W0:=w) (by simp));clear Lc hS
  by_cases Jc:j<O.length
  ·obtain⟨b,Z8⟩:=Yg O j Jc;obtain⟨OZ,Wx⟩:=oZ.o b (Xh Z8);obtain⟨q,rfl⟩:=PY OZ;have Zs:q<=cs.length:=by omega
   obtain⟨Tv,acY,qZ,Zx,Zr,Zk,Zl,Zg⟩:=(Y6.au (Cw.o.row 2 rfl) rfl).get (by grind);obtain⟨rfl,rfl⟩:=XN Zx;have c3:=Zg j _ Z8;have XY:=Cw.o.blk 1 rfl;have YV:=XY.q0;have c1:=XY.q1;have agC:=Cw.o.at' 3 (p:=Pc.obj w.heap.size (.map #[Nt Xu,M1 Xu,Mw Xu] 3)) rfl;have JN:=bx agC;have U2:=bx (ajZ cs (set,how) O j _ Z8);have Se:=bx (lB cs (set,how) (O.take j) (λb Z8=>oZ.o b (List.mem_of_mem_take Z8)));have xc:=bx (abz cs (set,how) (q:Int) OZ Wx);have abO:=W3.o.below O7.o Nh;have agc:=Yq.o.below O7.o;have ml:=bx abO;have lX:=bx agc;unfold maxLen at Zk;clear Zx Zg Z8 XY agC abO agc OZ Wx;have key:∀(ZB:World)(Sl:Value),Y6 ZB Sl (Q8 cs (set,how) (q:Int))->Z6 wr ZB->
     ∀Zy w',Sep ([Pc.row w.heap.size 3 1 v2 ((O.take j).flatMap (Q8 cs (set,how))).length (H4 ((O.take j).flatMap (Q8 cs (set,how)))),Pc.blk ub 389 #[Z9 set,Z9 how],Pc.row w.heap.size 3 1 (.slice (some ⟨Tv,acY,none⟩) O.length Wr) O.length (H4 O),Pc.obj w.heap.size (.map #[Nt Xu,M1 Xu,Mw Xu] 3),Pc.old w.heap.size w].set 0 (Pc.row w.heap.size 3 1 Zy (((O.take j).flatMap (Q8 cs (set,how))).length+(Q8 cs (set,how) (q:Int)).length) (H4 ((O.take j).flatMap (Q8 cs (set,how)))++(Q8 cs (set,how) (q:Int)).map (Value.int .i64)))) w'->
     Sep [Pc.row w.heap.size 3 1 Zy ((O.take (j+1)).flatMap (Q8 cs (set,how))).length (H4 ((O.take (j+1)).flatMap (Q8 cs (set,how)))),Pc.blk ub 389 #[Z9 set,Z9 how],Pc.row w.heap.size 3 1 (.slice (some ⟨Tv,acY,none⟩) O.length Wr) O.length (H4 O),Pc.obj w.heap.size (.map #[Nt Xu,M1 Xu,Mw Xu] 3),Pc.old w.heap.size w] w':=λZB Sl _ _ Zy w' h=>by
    rw[U2.o,auB,WR];exact h
   have aja:=bx key;have Rw:((O.take j).flatMap (Q8 cs (set,how))).length<=900000:=by
    have Z7:=Se.o;have Z5:(O.take j).length<=901:=by grind
    have ZS:(O.take j).length*(cs.length+1)<=901*901:=IA Z5 (by omega);omega
   have aAn:(Q8 cs (set,how) (q:Int)).length<=901:=by have:=xc.o;omega
   clear key
   rcases am7 with rfl|rfl|rfl
   focus
    have Ug:=ly (P:=prog) underlying417 underlying3 wr #[Nt Xu,M1 Xu,Mw Xu] 3 0 w.heap.size JN.o 0 (Nt Xu).val rfl;simp only[Nt]at Ug;have Uk:=bx (ajy Xu UX cs set q wr ml.o lX.o (by omega) Zs);go_wp2_with (first
     |(go_at_call 327;refine Uk.o.mono ?_;rintro e ZB ⟨⟨Sl,rfl,hi⟩,Zz⟩;have Rj:=Cw.o.below Zz;have agv:=O7.o.size;have agw:=Zz.size)
     |(at_builtin;refine IE rfl _ _ 22 rfl Iw (by decide) Rj 0 rfl rfl rfl (mv hi) (by simp) (lr _) (by omega) (by omega) (by omega) ?_;intro Zy w' Ri))
   rotate_left
   focus
    have Ug:=ly (P:=prog) underlying417 underlying3 wr #[Nt Xu,M1 Xu,Mw Xu] 3 1 w.heap.size JN.o 1 (M1 Xu).val rfl;simp only[M1]at Ug;have Uk:=bx (auL Xu UX cs set q wr ml.o lX.o (by omega) Zs);go_wp2_with (first
     |(go_at_call 328;refine Uk.o.mono ?_;rintro e ZB ⟨⟨Sl,rfl,hi⟩,Zz⟩;have Rj:=Cw.o.below Zz;have agv:=O7.o.size;have agw:=Zz.size)
     |(at_builtin;refine IE rfl _ _ 22 rfl Iw (by decide) Rj 0 rfl rfl rfl (mv hi) (by simp) (lr _) (by omega) (by omega) (by omega) ?_;intro Zy w' Ri))
   rotate_left
   focus
    have Ug:=ly (P:=prog) underlying417 underlying3 wr #[Nt Xu,M1 Xu,Mw Xu] 3 2 w.heap.size JN.o 2 (Mw Xu).val rfl;simp only[Mw]at Ug;have Uk:=bx (alK Xu UX cs set q wr ml.o lX.o (by omega) Zs);go_wp2_with (first
     |(go_at_call 329;refine Uk.o.mono ?_;rintro e ZB ⟨⟨Sl,rfl,hi⟩,Zz⟩;have Rj:=Cw.o.below Zz;have agv:=O7.o.size;have agw:=Zz.size)
     |(at_builtin;refine IE rfl _ _ 22 rfl Iw (by decide) Rj 0 rfl rfl rfl (mv hi) (by simp) (lr _) (by omega) (by omega) (by omega) ?_;intro Zy w' Ri))
   rotate_left
   all_goals
    have WT:=bx (aja.o ZB Sl hi Zz Zy w' Ri);clear Ri Rj hi Zz
    go_roundw
    ·exact⟨j+1,Zy,Jc,by go_num,rfl,WT⟩
    grind[intOf]
  have Jc:j=O.length:=by omega
  have TL:=lB cs (set,how) O oZ.o;have awM:O.length*(cs.length+1)<=901*901:=IA (by omega) (by omega);have EM:=Cw.o;rw[Jc,OR]at EM;have VB:=bx (akI EM 0 (zs:=O.flatMap (Q8 cs (set,how))) rfl rfl (by omega));clear TL awM EM;go_wp2_with fail;refine VB.o.mono ?_;rintro e ZB ⟨Zy,rfl,Rj⟩;have Ri:=(Rj.drop 1).drop 1;rw[<-ZE.o]at Ri;obtain⟨axT,GA,rfl⟩:=ownsRow_shape (Ri.row 0 rfl);have WT:=bx Ri;clear Rj Ri
  go_wp2
  go_roundw
  ·exact⟨k+1,axT,GA,Zu,by go_num,rfl,WT⟩
  grind[intOf]
 have PI:k=l.length:=by omega
 have ZK:=bx (show Y6 wr (.slice UP (N2 cs l a k).length Wr) (N2 cs l a l.length) by
  have:=Y6.au (hS.o.row 0 rfl) rfl
  grind)
 go_wp2
 go_ret
 exact⟨⟨_,rfl,ZK.o⟩,YA.o⟩
theorem lD{l:List N.Item}(h:Ss l=true):∀x∈l,x.2=0\/x.2=1\/x.2=2:=by
 intro x Z4;obtain⟨i,hi,e⟩:=List.getElem_of_mem Z4;have:=aa4 h (i:=i) (x:=x) (by grind);omega
theorem mf{l:List N.Item}(h:Ss l=true)(i:Nat):N.aJ l i=0\/N.aJ l i=1\/N.aJ l i=2:=by
 unfold N.aJ
 rcases SM i l.length with hi|hi
 ·have:=lD h l[i] (List.getElem_mem hi);grind
 grind
namespace D
def cut(n:Nat)(c:Int):Int:=if c<0\/(n:Int)<=c then -1 else c
def cuts(n:Nat)(cs:List Int):List Int:=cs.map (cut n)
end D
def NQ(st:Bool)(l:List N.Item)(cs:List Int)(p:Int):Bool:=
 Ss l&&decide (0<=p)&&decide (p<=cs.length)&&!(st&&decide (0<p))&&decide (0<(N2 cs l p l.length).length)
namespace G
def hit(R:List D.Rule)(ks:List Int)(f:Nat)(p:Int)(i:Nat):Bool:=f.testBit i&&match R[i]? with|some x=>NQ x.2.1.1 x.2.1.2 ks p|none=>false
def c0(R:List D.Rule)(ks:List Int)(f:Nat)(p:Int):Bool:=match (List.range R.length).find? (hit R ks f p)with|some i=>(R[i]?.map λx=>x.2.2).getD true|none=>true
theorem alW(q:Nat->Bool):∀n k,k<n->q k=true->(∀i,i<k->q i=false)->(List.range n).find? q=some k
 |0,_,h,_,_=>by omega
 |n+1,k,h,Z3,hi=>by
  simp_all
theorem aaw{R:List D.Rule}{ks:List Int}{f:Nat}{p:Int}{k:Nat}{x:D.Rule}(Z4:R[k]?=some x)(Z3:hit R ks f p k=true)(hi:∀i,i<k->hit R ks f p i=false):c0 R ks f p=x.2.2:=by
 unfold c0;rw[alW _ _ k (R7 Z4).1 Z3 hi];simp[Z4]
theorem ae6{R:List D.Rule}{ks:List Int}{f:Nat}{p:Int}(hi:∀i,i<R.length->hit R ks f p i=false):c0 R ks f p=true:=by
 grind[c0]
end G
def cutAt(R:List D.Rule)(M:D.ao)(Zj:Nat)(L:List Int)(p:Nat):Bool:=G.c0 R (D.cuts Zj L) (Jn M (stM Zj M L p)).toNat (p:Int)
def Fe(R:List D.Rule)(M:D.ao)(Zj:Nat)(L:List Int)(k:Nat):List Nat:=((List.range k).map (·+1)).filter (cutAt R M Zj L)
def KI(R:List D.Rule)(M:D.ao)(Zj:Nat)(L:List Int):List Int:=(0::Fe R M Zj L (L.length-1)).map (λn:Nat=>(n:Int))++if 0<L.length then[(L.length:Int)]else[]
theorem ajs(st:Bool)(v:Value)(l:List N.Item)(UX:Value)(cs:List Int)(p:Int)(w:World)(Z2:VA w v l)(ZY:l.length<=16777216)(ZL:Y6 w UX cs)(MJ:cs.length<=900):
  Calls prog 278 #[.agg #[.bool st,v],UX,Z9 p] w λe w'=>e=.returned (.bool (NQ st l cs p))/\Z6 w w':=by
 obtain⟨W,Yj⟩:∃W,W=w.alloc (.cells #[.bool st,v] 252):=⟨_,rfl⟩
 have Ou:Z6 w W:=by rw[Yj];exact Be _ _
 have XY:Zv W w.heap.size 252 #[.bool st,v]:=by rw[Yj];exact Zv.new _ _ _
 have WI:=bx (amd st v l W (Z2.below Ou) ZY);have ZN:=bx (Z2.below Ou);have Yq:=bx (ZL.below Ou);have WH:=bx XY;have YA:=bx Ou;obtain⟨XH,ZU,rfl⟩:=ZL.slice;have YV:=XY.q0;have c1:=XY.q1;have TW:=bx Yj;clear Z2 ZL XY Ou Yj
 go_in
 go_upto_region 1 with(fail)
 rw[<-TW.o]
 cases ZT:Ss l with
 |false=>
  have ZK:=bx (show NQ st l cs p=false by grind[NQ]);have SE:=bx ZT;clear ZT;go_wp2_with fail;refine WI.o.mono ?_;rintro e ZV ⟨rfl,ZZ⟩;rw[SE.o];have ZW:=bx ZZ;clear ZZ
  go_wp2
  go_ret
  exact⟨YG ZK.o.symm,bt YA.o ZW.o⟩
 |true=>
  have SE:=bx ZT;clear ZT
  rcases PX p 0 with ZI|ZI
  ·have ZK:=bx (show NQ st l cs p=false by grind[NQ]);go_wp2_with fail;refine WI.o.mono ?_;rintro e ZV ⟨rfl,ZZ⟩;rw[SE.o];have ZW:=bx ZZ;clear ZZ
   go_wp2
   go_ret
   exact⟨YG ZK.o.symm,bt YA.o ZW.o⟩
  rcases PX cs.length p with Z7|Z7
  ·have ZK:=bx (show NQ st l cs p=false by grind[NQ]);go_wp2_with fail;refine WI.o.mono ?_;rintro e ZV ⟨rfl,ZZ⟩;rw[SE.o];have ZW:=bx ZZ;clear ZZ
   go_wp2
   go_ret
   exact⟨YG ZK.o.symm,bt YA.o ZW.o⟩
  obtain⟨q,rfl⟩:=PY ZI;have Zs:q<=cs.length:=by omega
  go_wp2_with fail;refine WI.o.mono ?_;rintro e ZV ⟨rfl,ZZ⟩;rw[SE.o];have Hy:=WH.o.below ZZ WH.o.lt;have d0:=Hy.q0;have d1:=Hy.q1;have Sv:=Hy.lt;have ZW:=Zw YA ZZ;have VD:=bx (ZN.o.below ZZ);have UH:=bx (Yq.o.below ZZ);clear ZZ Hy YV c1
  by_cases Z0:st=true/\0<q
  ·obtain⟨V6,OU⟩:=Z0;have ZK:=bx (show NQ st l cs (q:Int)=false by grind[NQ]);rw[V6]at d0;clear V6
   go_wp2
   go_ret
   exact⟨YG ZK.o.symm,ZW.o⟩
  have oq:=bx (lD SE.o);have akE:=EV SE.o;obtain⟨UF,Nm⟩:∃UF,UF=ZV.alloc (.cells #[.slice XH cs.length ZU] 403):=⟨_,rfl⟩
  have Zz:Z6 ZV UF:=by rw[Nm];exact Be _ _
  have KD:=bx (ap8 ZV.heap.size (.slice XH cs.length ZU) cs v l q UF (by rw[Nm];exact Zv.new _ _ _) (UH.o.below Zz) (VD.o.below Zz) oq.o MJ (by omega) Zs);have Zt:=Zw ZW Zz;have R9:=bx Nm;have ZK:=bx (show NQ st l cs (q:Int)=decide (0<(N2 cs l q l.length).length) by
   unfold NQ;rw[SE.o,Yh ZI,Yh Z7]
   grind)
  clear Zz Nm;have fin:∀(Sl:Value)(Zh:World),Y6 Zh Sl (N2 cs l q l.length)->∃a c,Sl=.slice a (N2 cs l q l.length).length c:=λSl Zh h=>h.slice
  have th:=bx fin;clear fin
  rcases Bool.eq_false_or_eq_true st with e|e
  focus
   have tL:q=0:=by
    grind
   rw[e]at d0;subst tL
  rotate_left
  focus
   rw[e]at d0
  rotate_left
  all_goals
   clear e Z0;go_wp2_with fail;rw[<-R9.o];refine KD.o.mono ?_;rintro e Zh ⟨⟨Sl,rfl,hi⟩,Zb⟩;obtain⟨a,c,rfl⟩:=th.o _ _ hi;have YY:=Zw Zt Zb;clear hi Zb
   go_wp2
   go_ret
   exact⟨YG (by rw[ZK.o];first|done|simp),YY.o⟩
