/- Texts of this claim. -/
import Derived.Lib.OthersKept
import Derived.Test.YtdponihkpomheaaGreatDoorK21

set_option maxRecDepth 100000
set_option maxHeartbeats 16000000
namespace Go.Proofs.YtdponihkpomheaaGreatDoor
open Go.RowKit
open Tryz
def Jz(es:Array MapEntry)(q:Int):Option Value:=match Instr.findNow (.int .i32) (.int .i32 q) es.toList 0 with|some (some p)=>some p.2|_=>none
def D4(es:Array MapEntry):Prop:=∀x∈es.toList,∃k,x.key=.int .i32 k
def Fx:Value->Int->Bool
 | .int .i32 k,q=>decide (k=q)
 |_,_=>false
theorem anL(v:Value)(q:Int):Fx v q=true↔v=.int .i32 q:=by
 constructor
 ·intro h;unfold Fx at h
  grind
 grind[Fx]
def Mz:List MapEntry->Int->Option Value
 |[],_=>none
 |e::es,q=>if Fx e.key q=true then some e.val else Mz es q
theorem rT(q:Int):∀(l:List MapEntry)(i:Nat),(∀x∈l,∃k,x.key=.int .i32 k)->
  (Instr.findNow (.int .i32) (.int .i32 q) l i=some none/\Mz l q=none)\/∃j v,Instr.findNow (.int .i32) (.int .i32 q) l i=some (some (i+j,v))/\Mz l q=some v/\∃e,l[j]?=some e/\e.key=.int .i32 q/\e.val=v
 |[],_,_=>.inl ⟨rfl,rfl⟩
 |e::es,i,h=>by
  obtain⟨k,Z3⟩:=h e (Pw ..)
  by_cases Zs:q=k
  ·subst Zs;refine .inr ⟨0,e.val,?_,?_,e,rfl,Z3,rfl⟩
   ·simp[Instr.findNow,Instr.sameNow,Z3]
   simp[Mz,Fx,Z3]
  have tM:(q==k)=false:=by grind
  have xK:¬k=q:=λe=>Zs e.symm
  rcases rT q es (i+1) (λx Z4=>h x (Oj _ Z4))with⟨Z7,Z5⟩|⟨j,v,Z7,Z5,R8,ZS,ZG⟩
  ·grind[Instr.findNow,Instr.sameNow,Mz,Fx]
  exact .inr ⟨j+1,v,by grind[Instr.findNow,Instr.sameNow],by grind[Mz,Fx],R8,ZS,ZG⟩
theorem yy{es:Array MapEntry}(h:D4 es)(q:Int):Jz es q=Mz es.toList q:=by
 unfold Jz
 rcases rT q es.toList 0 h with⟨Z7,Z5⟩|⟨j,v,Z7,Z5,_⟩ <;> rw[Z7,Z5]
theorem aj6(l:List MapEntry)(e:MapEntry)(k q:Int)(_:e.key=.int .i32 k)(ZP:Mz l k=none):Mz (l++[e]) q=if q=k then some e.val else Mz l q:=by
 induction l with
 |nil=>
  grind[Mz,Fx]
 |cons x t XZ=>
  simp only[Mz]at ZP
  split at ZP
  ·cases ZP
  rename_i Z4
  simp only[SI,Mz];grind
theorem acP(k q:Int)(v:Value):∀(l:List MapEntry)(j:Nat)(e:MapEntry),l[j]?=some e->e.key=.int .i32 k->Mz l k=some e.val->(∀i x,i<j->l[i]?=some x->x.key≠.int .i32 k)->
  Mz (l.modify j (λe=>{e with key:=.int .i32 k,val:=v})) q=if q=k then some v else Mz l q
 |[],_,_,h,_,_,_=>by grind
 |x::t,0,e,h,Z3,_,_=>by
  grind[List.modify_zero_cons,Mz,Fx]
 |x::t,j+1,e,h,Z3,hl,Yz=>by
  have Z4:=Yz 0 x (by omega) rfl;simp only[List.getElem?_cons_succ]at h;simp only[Mz]at hl;have zF:¬Fx x.key k=true:=λe=>Z4 ((anL _ _).mp e)
  rw[Y4 zF]at hl;have XZ:=acP k q v t j e h Z3 hl (λi y _ _=>Yz (i+1) y (by omega) (by grind));simp only[List.modify_succ_cons,Mz];grind
theorem ad4(k:Int):∀(l:List MapEntry)(i j:Nat)(v:Value),(∀x∈l,∃k,x.key=.int .i32 k)->Instr.findNow (.int .i32) (.int .i32 k) l i=some (some (i+j,v))->∀m x,m<j->l[m]?=some x->x.key≠.int .i32 k
 |[],_,_,_,_,h=>by simp
 |e::es,i,j,v,Z3,h=>by
  obtain⟨tC,kf⟩:=Z3 e (Pw ..)
  by_cases Zs:k=tC
  ·grind[Instr.findNow,Instr.sameNow]
  have tM:(k==tC)=false:=by grind
  simp[Instr.findNow,Instr.sameNow,kf,tM]at h;intro m x hm Z4
  cases m with
  |zero=>
   grind
  |succ m=>
   exact ad4 k es (i+1) (j-1) v (λx Z4=>Z3 x (Oj _ Z4)) (by grind) m x (by omega) (by grind)
section
variable {P:Program} {T K E:TypeId}
theorem aaf(hm:P.underlying T=some (.map K E))(Z3:P.underlying K=some (.int .i32))(W:World)(es:Array MapEntry)(Vd:Nat)(k:Int)(v:Value)(n:Nat)(ZH:W.heap[n]?=some (.map es Vd))(TH:D4 es):
  ∃Si Qw,(Instr.mapUpdate T (.map (some n)) (.int .i32 k) v).run P W=.ok () (W.putObj n (.map Si Qw))/\D4 Si/\∀q,Jz Si q=if q=k then some v else Jz es q:=by
 have Z7:(Instr.checkKey false 10000 K (.int .i32 k)).run P W=.ok () W:=MapKept.run_checkKey Z3 (by rfl) false 9999
 rcases rT k es.toList 0 TH with⟨Yz,hl⟩|⟨j,v0,Yz,hl,e,he,ua,pR⟩
 ·have Z5:=MapKept.run_findKey (P:=P) (w:=W) Z3 Yz;have R5:D4 (es.push ⟨.int .i32 k,v,Vd⟩):=by
   intro x Z4;rw[Array.toList_push,Nb,Pe]at Z4
   rcases Z4 with Z4|rfl
   ·exact TH x Z4
   simp
  refine⟨es.push ⟨.int .i32 k,v,Vd⟩,Vd+1,?_,R5,λq=>?_⟩
  ·unfold Instr.mapUpdate;simp only[Sem.run_bind,run_underlying hm,Result.andThen,MapKept.run_getObj_map ZH,Z7,Z5,MapKept.run_setObj_map _ ZH]
   rfl
  rw[yy R5,yy TH,Array.toList_push,aj6 _ _ k q rfl hl]
 have Z5:=MapKept.run_findKey (P:=P) (w:=W) Z3 Yz;rw[Nat.zero_add]at Yz Z5;have ki:es[j]?=some e:=by grind
 have R5:D4 (es.modify j (λe=>{e with key:=.int .i32 k,val:=v})):=by
  intro x Z4
  rcases MapFrom.mem_modify Z4 with Z4|⟨R8,_,rfl⟩
  ·exact TH x Z4
  simp
 refine⟨es.modify j (λe=>{e with key:=.int .i32 k,val:=v}),Vd,?_,R5,λq=>?_⟩
 ·unfold Instr.mapUpdate;simp only[Sem.run_bind,run_underlying hm,Result.andThen,MapKept.run_getObj_map ZH,Z7,Z5,ki,Option.map_some,OT,ua,MapKept.run_keyThatStays (k:=.int .i32 k) (d:=.int .i32) (by rfl),MapKept.run_setObj_map _ ZH]
  rfl
 rw[yy R5,yy TH,Array.toList_modify];exact acP k q v es.toList j e he ua (by grind) (λi x hi Z4=>ad4 k es.toList 0 j v0 TH (by grind) i x hi Z4)
end
theorem aen{P:Program}{T K E:TypeId}(hm:P.underlying T=some (.map K E))(Z3:P.underlying K=some (.int .i32))(W:World)(es:Array MapEntry)(Vd:Nat)(k:Int)(n:Nat)(ZH:W.heap[n]?=some (.map es Vd))(TH:D4 es)(z:Value)(ZY:(zeroValue E).run P W=.ok z W):
  (Instr.lookup T (.map (some n)) (.int .i32 k) true).run P W=.ok (.tuple #[(Jz es k).getD z,.bool (Jz es k).isSome]) W:=by
 have Z7:(Instr.checkKey es.isEmpty 10000 K (.int .i32 k)).run P W=.ok () W:=MapKept.run_checkKey Z3 (by rfl) _ 9999
 rcases rT k es.toList 0 TH with⟨Yz,hl⟩|⟨j,v,Yz,hl,_⟩
 ·have Z5:=MapKept.run_findKey (P:=P) (w:=W) Z3 Yz;unfold Instr.lookup;rw[yy TH,hl];simp only[Sem.run_bind,run_underlying hm,Result.andThen,MapKept.run_getObj_map ZH,Z7,Z5,Sem.run_pure,if_true,ZY,Option.getD_none,Option.isSome_none]
 have Z5:=MapKept.run_findKey (P:=P) (w:=W) Z3 Yz;unfold Instr.lookup;rw[yy TH,hl];simp only[Sem.run_bind,run_underlying hm,Result.andThen,MapKept.run_getObj_map ZH,Z7,Z5,Sem.run_pure,if_true,OT,Option.isSome_some]
def HW(W:World)(Zf:Nat)(t:F.Trie):Prop:=∃es Vd,W.heap[Zf]?=some (.map es Vd)/\D4 es/\∀q v,Jz es q=some v->v=Z9 (F.says t q)
theorem HW.lt{W:World}{Zf:Nat}{t:F.Trie}(h:HW W Zf t):Zf<W.heap.size:=by
 obtain⟨es,Vd,h,-⟩:=h;grind
theorem HW.block{W W':World}{Zf:Nat}{t:F.Trie}(h:HW W Zf t)(Z8:W'.heap[Zf]?=W.heap[Zf]?):HW W' Zf t:=by
 obtain⟨es,Vd,Z7,Z5,ZS⟩:=h;exact⟨es,Vd,Z8.trans Z7,Z5,ZS⟩
theorem HW.turns{own:Nat->Prop}{W W':World}{Zf:Nat}{t:F.Trie}(h:HW W Zf t)(ZM:Turns own W W')(YT:¬own Zf):HW W' Zf t:=h.block (ZM.block _ h.lt YT)
def Pc.ea(Zf:Nat)(t:F.Trie):Pc where
 fp k:=k=Zf
 ok W:=HW W Zf t
 keep:=λ{_ _ _} h ZM YT=>h.turns ZM (YT Zf rfl)
 lt:=λ{_ _} h Z3=>Z3▸h.lt
theorem gR(W:World):(zeroValue 3).run prog W=.ok (Z9 0) W:=by rfl
theorem mj(W:World)(it:Nat)(s:ByteArray)(p:Nat):Turns (λk=>k=it) W (W.iterAt it s p):=
 ⟨rfl,rfl,rfl,by simp[Lib.iterAt_size],λk _ YT=>Lib.iterAt_other W it k s p (λe=>YT e)⟩
theorem adM{xs:List Int}{k:Nat}{x:Int}(h:xs[k]?=some x):(U.textOf xs).drop (U.textOf (xs.take k)).length=U.enc x++U.textOf (xs.drop (k+1))/\U.textOf (xs.take (k+1))=U.textOf (xs.take k)++U.enc x:=by
 have e:=H9 (l:=xs) (i:=k) (R7 h).1;rw[(R7 h).2]at e;have YP:xs=xs.take k++x::xs.drop (k+1):=by rw[<-e];simp
 grind[U.textOf]
section
attribute[local go_sem] Oper.semAt_some
def KG(W:World)(Zf:Nat)(c:C.Wd):Prop:=∃es Vd,W.heap[Zf]?=some (.map es Vd)/\D4 es/\∀q v,Jz es q=some v->v=Z9 (C.aI c q)
theorem KG.lt{W:World}{Zf:Nat}{c:C.Wd}(h:KG W Zf c):Zf<W.heap.size:=by
 obtain⟨es,Vd,h,-⟩:=h;grind
theorem KG.block{W W':World}{Zf:Nat}{c:C.Wd}(h:KG W Zf c)(Z8:W'.heap[Zf]?=W.heap[Zf]?):KG W' Zf c:=by
 obtain⟨es,Vd,Z7,Z5,ZS⟩:=h;exact⟨es,Vd,Z8.trans Z7,Z5,ZS⟩
theorem KG.turns{own:Nat->Prop}{W W':World}{Zf:Nat}{c:C.Wd}(h:KG W Zf c)(ZM:Turns own W W')(YT:¬own Zf):KG W' Zf c:=h.block (ZM.block _ h.lt YT)
def Pc.eb(Zf:Nat)(c:C.Wd):Pc where
 fp k:=k=Zf
 ok W:=KG W Zf c
 keep:=λ{_ _ _} h ZM YT=>h.turns ZM (YT Zf rfl)
 lt:=λ{_ _} h Z3=>Z3▸h.lt
def II(rg Zf:Nat)(ZD bv:Value)(c:C.Wd)(ps:List Pc):List Pc:=Pc.blk rg 373 #[ZD,bv,.bool c.wide,.map (some Zf)]::Pc.eb Zf c::ps
theorem apD(rg Zf:Nat)(ZD bv:Value)(c:C.Wd)(ps:List Pc)(r:Nat)(ZT:r<=1114111)(w:World)(Z0:Pp c)(ZM:F.aE c.p=true)(WS:∀W,Sep ps W->Y6 W ZD c.p.1/\TF W bv c.p.2)(hS:Sep (II rg Zf ZD bv c ps) w):
  Calls prog 287 #[Zn rg,.int .i32 (r:Int)] w λe w'=>e=.returned (Z9 (C.aI c (r:Int)))/\Turns (λk=>k=Zf) w w'/\KG w' Zf c:=by
 have St:=bx (show C.aI c (r:Int)=if F.says c.p (r:Int)=3\/F.says c.p (r:Int)=4\/(F.says c.p (r:Int)=1/\c.wide=true)then 2 else if F.says c.p (r:Int)=6 then 0 else 1 from rfl);have GV:=bx (show KG w Zf c from hS.at' 1 rfl);have WH:=bx (hS.blk 0 rfl);obtain⟨Z7,Z5⟩:=WS w hS.tail.tail;have G3:=bx (nO (.agg #[ZD,bv]) c.p r w ⟨ZD,bv,rfl,Z7,Z5⟩ ⟨Z0.p1,Z0.p2,Z0.p3⟩ ZM ZT);obtain⟨es,Vd,hm,TH,Je⟩:=GV.o;have Ug:=aen underlying215 underlying21 w es Vd (r:Int) Zf hm TH _ (gR w);obtain⟨wd,XS⟩:∃b,b=c.wide:=⟨_,rfl⟩
 rw[<-XS]at St WH;generalize F.says c.p (r:Int)=y at St G3;have YV:=WH.o.q0;have c1:=WH.o.q1;have c3:=WH.o.q3;have YJ:=WH.o.lt;have ahU:IntKind.i64.wrap (r:Int)=(r:Int):=by rw[QN];omega
 cases Zs:Jz es (r:Int)with
 |some v=>
  rw[Zs,OT,Option.isSome_some,Je _ v Zs]at Ug;generalize C.aI c (r:Int)=res at Ug⊢;clear Zs Je TH hm Z7 Z5 XS WS hS Z0 ZM G3 St
  go_in
  go_wp2
  go_ret
  exact⟨rfl,Turns.refl _ _,GV.o⟩
 |none=>
  rw[Zs,Option.getD_none,Option.isSome_none]at Ug;have MW:=bx (λ(ZV:World)(Z8:Z6 w ZV)(n:Int)(ZP:C.aI c (r:Int)=n)(Si:Array MapEntry)(Qw:Nat)(Z3:D4 Si)(ZH:∀q,Jz Si q=if q=(r:Int)then some (Z9 n)else Jz es q)=>
   show Ending.returned (Z9 n)=.returned (Z9 (C.aI c (r:Int)))/\Turns (λk=>k=Zf) w (ZV.putObj Zf (.map Si Qw))/\KG (ZV.putObj Zf (.map Si Qw)) Zf c from by
    have Pg:=(Z8.block Zf (J4.1 hm).1).trans hm;refine⟨by rw[ZP],(Turns.of_below Z8).trans (Turns.putObj (own:=λk=>k=Zf) _ rfl _),Si,Qw,World.putObj_heap_same (w7 Pg),Z3,λq v Zs=>?_⟩;grind)
  have JN:=bx (λ(ZV:World)(Z8:Z6 w ZV)(n:Int)=>aaf underlying215 underlying21 ZV es Vd (r:Int) (Z9 n) Zf ((Z8.block Zf (J4.1 hm).1).trans hm) TH);have zZ:y=3\/y=4\/(y=1/\wd=true)\/(y=1/\wd=false)\/y=6\/(y≠3/\y≠4/\y≠1/\y≠6):=by
   grind
  generalize C.aI c (r:Int)=res at St MW⊢;clear Zs Je TH hm Z7 Z5 XS WS hS Z0 ZM
  go_in
  go_wp2_with fail;refine Y3 G3.o λZV ZZ=>?_
  have ZW:=bx ZZ;have XY:=WH.o.below ZZ WH.o.lt;have d2:=XY.q2;have d3:=XY.q3;have dl:=XY.lt;clear ZZ XY YV c1 c3 YJ Ug
  rcases zZ with rfl|rfl|⟨rfl,rfl⟩|⟨rfl,rfl⟩|rfl|⟨FL,Ey,Ii,Hl⟩
  ·obtain⟨Si,Qw,hu,R5,Ot⟩:=JN.o ZV ZW.o 2;have Yt:=bx (MW.o ZV ZW.o 2 (by rw[St.o];simp) Si Qw R5 Ot);clear R5 Ot
   go_wp2
   go_ret
   exact Yt.o
  ·obtain⟨Si,Qw,hu,R5,Ot⟩:=JN.o ZV ZW.o 2;have Yt:=bx (MW.o ZV ZW.o 2 (by rw[St.o];simp) Si Qw R5 Ot);clear R5 Ot
   go_wp2
   go_ret
   exact Yt.o
  ·obtain⟨Si,Qw,hu,R5,Ot⟩:=JN.o ZV ZW.o 2;have Yt:=bx (MW.o ZV ZW.o 2 (by rw[St.o];simp) Si Qw R5 Ot);clear R5 Ot
   go_wp2
   go_ret
   exact Yt.o
  ·obtain⟨Si,Qw,hu,R5,Ot⟩:=JN.o ZV ZW.o 1;have Yt:=bx (MW.o ZV ZW.o 1 (by rw[St.o];simp) Si Qw R5 Ot);clear R5 Ot
   go_wp2
   go_ret
   exact Yt.o
  ·obtain⟨Si,Qw,hu,R5,Ot⟩:=JN.o ZV ZW.o 0;have Yt:=bx (MW.o ZV ZW.o 0 (by rw[St.o];simp) Si Qw R5 Ot);clear R5 Ot
   go_wp2
   go_ret
   exact Yt.o
  have Yb:(y==3)=false:=by grind
  have WW:(y==4)=false:=by grind
  have Zq:(y==1)=false:=by grind
  have BQ:(y != 6)=true:=by grind
  rw[Y4 (by omega),Y4 Hl]at St;clear FL Ey Ii Hl;obtain⟨Si,Qw,hu,R5,Ot⟩:=JN.o ZV ZW.o 1;have Yt:=bx (MW.o ZV ZW.o 1 (by exact St.o) Si Qw R5 Ot);clear R5 Ot
  go_wp2
  go_ret
  exact Yt.o
theorem nI{xs:List Int}{k:Nat}{x:Int}(Z4:xs[k]?=some x):C.emoji (xs.take (k+1))=(C.emoji (xs.take k)||(decide (0<k)&&(x==65039))):=by
 unfold C.emoji;rw[Uo,Z4,Option.toList_some,List.drop_append];have Z3:(xs.take k).length=k:=by grind
 rw[Z3,List.any_append]
 cases k with
 |zero=>simp
 |succ k=>simp
theorem yT:∀xs:List Int,xs.length<=(U.textOf xs).length
 |[]=>Wq _
 |x::t=>by
  unfold U.textOf;rw[I3,WR,U3];have Z7:=(U.c6 x).1;have Z5:=yT t;grind[U.textOf]
theorem nS{c:C.Wd}{xs:List Int}{k:Nat}{x:Int}(Z4:xs[k]?=some x):C.most c (xs.take (k+1))=max (C.most c (xs.take k)) (C.aI c x):=by
 rw[Uo,Z4];exact C.amT c _ x
theorem anI(A:Nat->Addr)(B:Nat)(v:Value)(t:Tab)(s:ByteArray)(w:World)(Z2:TabAt w v t)(Z0:Sr t)(_:s.size<=100000)(XU:Ed A B w)(Vg:Eg A B w)(hB:B<=w.heap.size)(he:Vn t s.data.toList≠0):
  Calls prog 86 #[v,.string s] w λe w'=>e=.returned (.tuple #[.pointer none,.iface 320 (.agg #[Z9 0,Z9 (Vn t s.data.toList)])])/\Z6 w w':=by
 have VE:=bx (λW(h:Z6 w W)=>Z2.below h);obtain⟨pi,YM,Y2,Zo,Za,rfl,Z7,Z5,ZS,ZG,Zi⟩:=Z2;obtain⟨V,ZO⟩:∃V,V=w.alloc (.cells #[Z9 t.n,pi,YM,Y2,Zo,Za] 31):=⟨_,rfl⟩
 have ZR:=bx (aB ZO);have Ze:=bx (aK ZO);have ZF:=bx (λW(h:Z6 V W)=>Ze.o.d6 h);have ZN:=bx ZO;have Xx:=bx (vC A B _ t V (VE.o V ZR.o) Z0 (XU.below (ZR.o.mono hB)) (Vg.below (ZR.o.mono hB)) (XJ hB ZR.o.size));have DR:=bx (λn(ZP:n≠0) W=>abD 0 n ZP W);have Xt:=bx (show Vn t s.data.toList=if Td t=false then 120 else if 2000<s.size then 121 else 0 by rfl);obtain⟨Yk,ZP⟩:∃n,n=t.n:=⟨_,rfl⟩
 rw[<-ZP]at ZN Ze VE ZF Xx⊢;clear Z7 Z5 ZS ZG Zi ZO Z0 ZP XU Vg hB;obtain⟨Zd,Zx,Zr,Zk,Zl,Zg,YS⟩:=ZF.o V YU
 cases K0:Td t with
 |false=>
  have Jy:=bx K0;have Xn:=bx (show Vn t s.data.toList=120 by rw[Xt.o,Y0 K0]);clear K0 he
  go_in
  go_upto_region 1 with(fail)
  rw[<-ZN.o];go_wp2_with fail;refine Nr 0 rfl ?_;go_wp2_with fail;refine YW (DR.o 120 (by decide) _) ?_;go_wp2_with fail;refine Y3 Xx.o λZB Zz=>?_
  rw[Jy.o];have Uv:=bx Zz;have Zt:=Zw ZR Zz;clear Zz Zd Zx Zr Zk Zl Zg YS;go_wp2_with fail
  go_step3
  refine⟨rfl,?_⟩;go_wp2_with fail;rw[Exit.noGoto_ret];go_ret2;exact⟨by rw[Xn.o];rfl,Zt.o⟩
 |true=>
  have Jy:=bx K0;have AK:2000<s.size:=by
   have WK:=Xt.o;grind
  have Xn:=bx (show Vn t s.data.toList=121 by rw[Xt.o,K0,Y4 (by simp),Y0 AK]);have Zq:decide ((2000:Int)<(s.size:Int))=true:=Yh (by omega);clear K0 he AK
  go_in
  go_upto_region 1 with(fail)
  rw[<-ZN.o];go_wp2_with fail;refine Nr 0 rfl ?_;go_wp2_with fail;refine YW (DR.o 120 (by decide) _) ?_;go_wp2_with fail;refine Y3 Xx.o λZB Zz=>?_
  rw[Jy.o];have Uv:=bx Zz;have Zt:=Zw ZR Zz;clear Zz Zd Zx Zr Zk Zl Zg YS;go_wp2_with fail;refine YW (DR.o 121 (by decide) _) ?_;go_wp2_with fail
  go_step3
  refine⟨rfl,?_⟩;go_wp2_with fail;rw[Exit.noGoto_ret];go_ret2;exact⟨by rw[Xn.o];rfl,Zt.o⟩
def Iv(n YM Zf it:Nat)(Yk:Int)(pi AE Y2 Zo Za:Value)(s:ByteArray)(pos:Nat)(Yd:Value)(Yc:List Int)(t:F.Trie)(W0:World):List Pc:=
 [Pc.obj it (.stringIter s pos),Pc.row n 3 1 Yd Yc.length (Yc.map (Value.int .i64)),Pc.blk YM 218 #[Z9 Yk,pi,AE,Y2,Zo,Za,.string s,Yd],Pc.ea Zf t,Pc.old n W0]
theorem ads{n VU Zf it:Nat}{Yk:Int}{pi AE Y2 Zo Za:Value}{s:ByteArray}{pos:Nat}{Yd S8:Value}{Yc r:List Int}{y:Int}{t:F.Trie}{W0 W:World}(h:Sep ((Iv n VU Zf it Yk pi AE Y2 Zo Za s pos Yd Yc t W0).set 1 (Pc.row n 3 1 S8 (Yc.length+1) (Yc.map (Value.int .i64)++[Z9 y]))) W)(ZT:r=Yc++[y]):Sep (Iv n VU Zf it Yk pi AE Y2 Zo Za s pos S8 r t W0) (W.setCell ⟨VU,7,none⟩ S8):=by
 subst ZT;rw[show Yc.map (Value.int .i64)++[Z9 y]=(Yc++[y]).map (Value.int .i64) by simp,show Yc.length+1=(Yc++[y]).length by simp]at h;exact h.set 2 rfl 7 S8
theorem nC(A:Nat->Addr)(B:Nat)(v:Value)(t:Tab)(s:ByteArray)(w:World)(Z2:TabAt w v t)(Z0:Sr t)(ZY:s.size<=100000)(YN:E A B w)(XU:Ed A B w)(Vg:Eg A B w)(hB:B<=w.heap.size)(he:Vn t s.data.toList=0):
  Calls prog 86 #[v,.string s] w λe w'=>∃pi AE Y2 Zo Za YM Yd,v=.agg #[Z9 t.n,pi,AE,Y2,Zo,Za]/\e=.returned (.tuple #[Zn YM,.nilIface])/\
   Zv w' YM 218 #[Z9 t.n,pi,AE,Y2,Zo,Za,.string ⟨(M.fix s.data.toList).toArray⟩,Yd]/\Y6 w' Yd (T5 t.p (Xw s.data.toList))/\Z6 w w':=by
 have VE:=bx (λW(h:Z6 w W)=>Z2.below h);obtain⟨pi,YM,Y2,Zo,Za,rfl,Z7,Z5,ZS,ZG,Zi⟩:=Z2;obtain⟨V,ZO⟩:∃V,V=w.alloc (.cells #[Z9 t.n,pi,YM,Y2,Zo,Za] 31):=⟨_,rfl⟩
 have ZR:=bx (aB ZO);have Ze:=bx (aK ZO);have ZF:=bx (λW(h:Z6 V W)=>Ze.o.d6 h);have ZN:=bx ZO;have Xx:=bx (vC A B _ t V (VE.o V ZR.o) Z0 (XU.below (ZR.o.mono hB)) (Vg.below (ZR.o.mono hB)) (XJ hB ZR.o.size));have DR:=bx (λn(ZP:n≠0) W=>abD 0 n ZP W);obtain⟨t1,t2⟩:=vX he;have t3:=t1;unfold Td at t3;rw[Vm]at t3;rw[<-size_eq]at t2;have Jy:=bx t1;have oW:=bx (λ(r:Nat)(ZT:r<=1114111)=>yq Z7 Z5 t3.2 r ZT);have Qu:=bx (λW(h:Z6 w W)=>E7 A B s W ZY (YN.below (h.mono hB)) (XJ hB h.size));have TL:=uH s.data.toList;rw[<-size_eq]at TL;have M5:=bx (IC s.data.toList);have Ry:=bx (asy s.data.toList);have Xa:=OO s.data.toList;rw[<-size_eq]at Xa;obtain⟨s',zI⟩:∃s':ByteArray,s'=⟨(M.fix s.data.toList).toArray⟩:=⟨_,rfl⟩
 have Wg:=bx (show s'.data.toList=M.fix s.data.toList by rw[zI]);have W1:s'.size<=8000:=by grind[size_eq]
 rw[<-Wg.o]at Ry;rw[<-zI]at Qu⊢;generalize Xw s.data.toList=xs at M5 Ry Xa⊢;obtain⟨N,Zp⟩:∃N,xs.length=N:=⟨_,rfl⟩
 rw[Zp]at Xa;have ZE:=bx Zp;have Zq:decide ((2000:Int)<(s.size:Int))=false:=Yp (by omega);have J9:=@run_makeMap prog;clear he t1 t3 zI Zp YN TL;obtain⟨Yk,ZP⟩:∃n,n=t.n:=⟨_,rfl⟩
 rw[<-ZP]at ZN Ze VE ZF Xx⊢;clear Z7 Z5 ZS ZG Zi ZO Z0 ZP XU Vg hB;obtain⟨Zd,Zx,Zr,Zk,Zl,Zg,YS⟩:=ZF.o V YU
 go_in
 go_upto_region 1 with(fail)
 rw[<-ZN.o];go_wp2_with fail;refine Nr 0 rfl ?_;go_wp2_with fail;refine YW (DR.o 120 (by decide) _) ?_;go_wp2_with fail;refine Y3 Xx.o λZB Zz=>?_
 rw[Jy.o];have Uv:=bx Zz;have Zt:=Zw ZR Zz;clear Zz Zd Zx Zr Zk Zl Zg YS;go_wp2_with fail;refine YW (DR.o 121 (by decide) _) ?_;go_wp2_with fail;have Z3:HW (ZB.alloc (.map #[] 0)) ZB.heap.size t.p:=⟨#[],0,World.alloc_heap_new ZB _,λ_ _=>by grind,λq v Zs=>by grind[Jz,Instr.findNow]⟩
 have V6:=((Sep.start w).below Zt.o).add (Xl ZB (.map #[] 0)) (p:=Pc.ea ZB.heap.size t.p) Z3 (λk Z3=>by rw[show k=ZB.heap.size from Z3];omega);have Wj:=bx (show Z6 V (ZB.alloc (.map #[] 0)).drew from(Uv.o.trans ((Xl ZB _).mono Uv.o.size)).trans ((VQ _ 1).mono (Uv.o.trans ((Xl ZB _).mono Uv.o.size)).size));have Xm:=bx (show Sep (Pc.ea ZB.heap.size t.p::[Pc.old w.heap.size w]) (ZB.alloc (.map #[] 0)).drew from V6.drewN 1);have YF:=bx (ZF.o _ Wj.o);clear Z3 V6;refine Vv 5 (λW'=>ZQ W' w.heap.size 0=some (Z9 Yk)/\ZQ W' w.heap.size 1=some pi/\ZQ W' w.heap.size 2=some YM/\ZQ W' w.heap.size 3=some Y2/\ZQ W' w.heap.size 4=some Zo/\ZQ W' w.heap.size 5=some Za/\w.heap.size<W'.heap.size) (by rfl) ?_;generalize(ZB.alloc (.map #[] 0)).drew=Yl at Wj Xm YF⊢;have KH:=bx (Qu.o Yl (bt ZR.o Wj.o));refine kS 0 ?_ rfl YF.o ?_ ?_;rotate_left
 ·rintro w ⟨q1,q2,q3,q4,q5,q6,q7⟩;go_simp;try with_reducible rfl
 refine kS 1 ?_ rfl YF.o ?_ ?_;rotate_left
 ·rintro w ⟨q1,q2,q3,q4,q5,q6,q7⟩;go_simp;try with_reducible rfl
 refine Y1 2 rfl λY7 ZX=>?_
 go_simp;refine Y3 KH.o λYL Yf=>?_
 have Wp:=bx (Xm.o.below Yf);have Ye:=Zw Wj Yf;have ji:=bx (ZF.o YL Ye.o);clear Yf;refine ZX.out _ _ (λ_=>ji.o) ?_;clear ZX Y7;refine Y1 3 rfl λY7 ZX=>?_
 go_simp;refine ZX.out _ _ (λ_=>ji.o) ?_;clear ZX Y7;refine Y1 4 rfl λY7 ZX=>?_
 go_simp;refine ZX.out _ _ (λ_=>ZF.o _ (Ye.o.trans ((Xl YL _).mono Ye.o.size))) ?_;clear ZX Y7;refine Y1 5 rfl λY7 ZX=>?_
 go_simp;refine ZX.out _ _ (λh=>by cases h) ?_;clear ZX Y7;refine kD ?_ _;have XO:=bx ((Wp.o.ak 218 #[Z9 Yk,pi,YM,Y2,Zo,Za,.string s',Z1]).aH w.heap.size 1 3);have S1:=(XO.o.blk 1 rfl).q6;have Sm:=(XO.o.blk 1 rfl).lt;generalize zG:YL.alloc (.cells #[Z9 Yk,pi,YM,Y2,Zo,Za,.string s',Z1] 218)=YK at XO S1 Sm⊢;clear zG;generalize YL.heap.size=VU at XO S1 Sm⊢;go_wp2_with fail;have O7:=bx (show Z6 YK (YK.iter s' 0)from Xl YK _);have WQ:=bx (show Sep (Iv w.heap.size VU ZB.heap.size YK.heap.size Yk pi YM Y2 Zo Za s' (U.textOf (xs.take 0)).length Z1 (T5 t.p (xs.take 0)) t.p w) (YK.iter s' 0)from
  XO.o.add O7.o (p:=Pc.obj YK.heap.size (.stringIter s' 0)) (World.iter_heap YK s' 0) (λk Z3=>by rw[show k=YK.heap.size from Z3];omega))
 clear S1 Sm J9;generalize YK.iter s' 0=Xi at WQ O7⊢;generalize YK.heap.size=it at WQ⊢
 go_loopw[10,11,12] (λ_ _ _ wr=>∃k:Nat,k<=N/\∃Yd,Box (Sep (Iv w.heap.size VU ZB.heap.size it Yk pi YM Y2 Zo Za s' (U.textOf (xs.take k)).length Yd (T5 t.p (xs.take k)) t.p w) wr)) (λ_ _ _ wr=>s'.size-wr.iterPos it)
 ·grind
 obtain⟨k,Z3,u9,YC⟩:=hrel;obtain⟨pos,LC⟩:∃pos,pos=(U.textOf (xs.take k)).length:=⟨_,rfl⟩
 rw[<-LC]at YC;have DA:=bx LC;have hit:wr.heap[it]?=some (.stringIter s' pos):=YC.o.at' 0 rfl;have MN:=bx hit;clear LC
 by_cases Zu:k<N
 ·obtain⟨z,P2⟩:=Yg xs k (by rw[ZE.o];omega);have A7:=M5.o z (Xh P2);obtain⟨r,rfl,MD⟩:=DV A7;obtain⟨MI,EJ⟩:=adM P2;rw[Ry.o,<-DA.o]at MI;have NZ:=bx EJ;have F3:=U.c6 (r:Int);have TK:pos+(U.enc (r:Int)).length<=s'.size:=by
   have WK:=congrArg List.length MI;rw[Px,WR,<-size_eq]at WK;omega
  have MR:=bx (show pos<s'.size/\1<=(U.enc (r:Int)).length/\pos+(U.enc (r:Int)).length<=s'.size from⟨by omega,F3.1,TK⟩);have K4:=λty=>Lib.run_next_any_at (P:=prog) wr it s' pos ty hit (by omega)
  rw[aba s' pos r _ A7 MI]at K4;simp only at K4;have M4:=bx (show T5 t.p (xs.take (k+1))=T5 t.p (xs.take k)++[F.says t.p (r:Int)] by unfold T5;rw[Uo,P2,T9];rfl);have SH:=bx (show(T5 t.p (xs.take k)).length<=1000000000 by grind[T5]);obtain⟨XA,Ho⟩:∃XA,XA=wr.iterAt it s' (pos+(U.enc (r:Int)).length):=⟨_,rfl⟩
  rw[<-Ho]at K4;have Wb:=bx (show Sep (Iv w.heap.size VU ZB.heap.size it Yk pi YM Y2 Zo Za s' (pos+(U.enc (r:Int)).length) u9 (T5 t.p (xs.take k)) t.p w) XA by
   rw[Ho];exact Sep.upd (ps:=Iv w.heap.size VU ZB.heap.size it Yk pi YM Y2 Zo Za s' pos u9 (T5 t.p (xs.take k)) t.p w) (own:=λq=>q=it) 0 YC.o rfl (mj wr it s' _) (λ_ h _=>h) (p':=Pc.obj it (.stringIter s' (pos+(U.enc (r:Int)).length))) (Lib.iterAt_heap wr it s' pos _ hit) (λ_ h=>.inl h))
  obtain⟨es,Vd,hm,TH,Je⟩:HW XA ZB.heap.size t.p:=Wb.o.at' 3 rfl;have Ug:=aen underlying215 underlying21 XA es Vd (r:Int) ZB.heap.size hm TH _ (gR XA);obtain⟨y,ZJ⟩:∃y,y=F.says t.p (r:Int):=⟨_,rfl⟩
  rw[<-ZJ]at M4;have Wn:=bx ZJ;generalize T5 t.p (xs.take k)=Yc at YC Wb M4 SH;clear hit MI EJ A7 P2 Ho TK F3
  cases Zs:Jz es (r:Int)with
  |some v=>
   rw[Zs,OT,Option.isSome_some,Je _ v Zs,<-ZJ]at Ug;clear Zs Je TH hm ZJ;obtain⟨PM,HJ⟩:∃PM,PM=XA:=⟨_,rfl⟩
   have TP:=bx (show Sep (Iv w.heap.size VU ZB.heap.size it Yk pi YM Y2 Zo Za s' (pos+(U.enc (r:Int)).length) u9 Yc t.p w) PM by rw[HJ];exact Wb.o);rw[<-HJ]at K4 Ug;clear HJ;have Cz:=bx (show pos+(U.enc (r:Int)).length=(U.textOf (xs.take (k+1))).length by rw[NZ.o,WR,<-DA.o]);rw[Cz.o]at TP;have WP:=(TP.o.bel (n:=w.heap.size) (W0:=w) (by simp[Iv])).size;have Uc:=(TP.o.blk 2 rfl).q7;have pl:=(TP.o.blk 2 rfl).lt;go_wp2_with (at_builtin;refine PC (u:=Z9 y) rfl _ _ 22 rfl OJ TP.o 1 rfl rfl rfl rfl SH.o (by omega) WP ?_;rintro O3 Va T4 ⟨AV,Ac,rfl,-,-⟩;have TS:=bx T4;have Tm:=(T4.blk 2 rfl).q7;have f8:=(T4.blk 2 rfl).frozen 7;have L6:=(T4.blk 2 rfl).lt;clear T4 Uc pl WP)
   have S6:=bx (ads TS.o M4.o);clear Tm f8 L6
   go_roundw
   ·exact⟨k+1,by omega,_,S6⟩
   have Z7:=S6.o.at' 0 rfl;have Z5:=MN.o;have ZS:=MR.o;simp only[World.iterPos];rw[show _=some (Obj.stringIter s' (U.textOf (xs.take (k+1))).length)from Z7,Z5];simp only;rw[Cz.o.symm];omega
  |none=>
   rw[Zs,Option.getD_none,Option.isSome_none]at Ug;have Mq:=bx Je;obtain⟨g,off,ZU,n',g2,OP,XV,g3,J2,Ji,hi,a2,a3,a4,a5,P8,Z8,Xd,Wk,UY,TN,c2,c3,VG,Wv⟩:=oW.o r MD;rw[<-ZJ]at Wv;have Vt:=Wb.o.bel (n:=w.heap.size) (W0:=w) (by simp[Iv]);have p1:XA.cell? ⟨VU,1,none⟩=some (.slice (some ⟨g,off,none⟩) 4352 ZU):=((Wb.o.blk 2 rfl).cell 1).trans (by rw[hi];rfl);have p2:XA.cell? ⟨VU,2,none⟩=some (.slice (some ⟨g2,OP,none⟩) t.p.2.length XV):=((Wb.o.blk 2 rfl).cell 2).trans (by rw[Z8];rfl);have axX:=(Wb.o.blk 2 rfl).lt;obtain⟨d,Zm⟩:∃d,r/256=d:=⟨_,rfl⟩
   obtain⟨q,j2⟩:∃q,r%256=q:=⟨_,rfl⟩
   have MI:d<4352:=by omega
   have NB:q<256:=by omega
   rw[Zm]at a5;rw[j2]at Wv;have d1:=(Vt.cell (p:=⟨g,off+d,none⟩) a4).trans a5;have d2:=(Vt.cell (p:=⟨g2,OP+n',none⟩) UY).trans TN;have d3:=(Vt.cell (p:=⟨g3,J2+q,none⟩) VG).trans Wv;obtain⟨M,Xv⟩:∃M,M=t.p.2.length:=⟨_,rfl⟩
   rw[<-Xv]at p2 P8 Xd;have xq:(r:Int).tdiv 256=(d:Int):=by rw[<-Zm];rfl
   have xp:(r:Int).tmod 256=(q:Int):=by rw[<-j2];rfl
   have wd:IntKind.i64.wrap (d:Int)=(d:Int):=by rw[QN];omega
   have Xz:IntKind.i64.wrap (q:Int)=(q:Int):=by rw[QN];omega
   have ahU:IntKind.i64.wrap (r:Int)=(r:Int):=by rw[QN];omega
   have afE:(d:Int)<4352:=by omega
   have ahN:(q:Int)<256:=by omega
   have ahE:(n':Int)<(M:Int):=by omega
   have W3:=bx hm;have pb:=bx TH;clear Je TH hm ZJ a4 a5 UY TN VG Wv Zm Zs j2 hi Z8 Vt Xv;go_wp2_with fail
   go_quiet (fail)
   obtain⟨Si,Qw,hu,R5,Ot⟩:=aaf underlying215 underlying21 (XA.drewN nq) es Vd (r:Int) (Z9 y) ZB.heap.size W3.o pb.o;have BL:HW ((XA.drewN nq).putObj ZB.heap.size (.map Si Qw)) ZB.heap.size t.p:=⟨Si,Qw,World.putObj_heap_same (w7 (w:=XA.drewN nq) W3.o),R5,λq v Zs=>by
    rw[Ot]at Zs
    split at Zs
    ·rename_i e;subst e;injection Zs with Zs;rw[<-Zs,Wn.o]
    exact Mq.o q v Zs⟩
   have TP:=bx (Sep.upd (ps:=Iv w.heap.size VU ZB.heap.size it Yk pi YM Y2 Zo Za s' (pos+(U.enc (r:Int)).length) u9 Yc t.p w) (own:=λq=>q=ZB.heap.size) 3 (Wb.o.drewN nq) rfl (Turns.putObj (own:=λq=>q=ZB.heap.size) _ rfl _) (λ_ h _=>h) (p':=Pc.ea ZB.heap.size t.p) BL (λ_ h=>.inl h));have TP:=bx (show Sep (Iv w.heap.size VU ZB.heap.size it Yk pi YM Y2 Zo Za s' (pos+(U.enc (r:Int)).length) u9 Yc t.p w) ((XA.drewN nq).putObj ZB.heap.size (.map Si Qw))from TP.o);obtain⟨PM,HJ⟩:∃PM,PM=(XA.drewN nq).putObj ZB.heap.size (.map Si Qw):=⟨_,rfl⟩
   rw[<-HJ]at TP hu;clear HJ BL R5 Ot K4 Ug p1 p2 axX d1 d2 d3 xq xp wd Xz ahU afE ahN ahE;have Cz:=bx (show pos+(U.enc (r:Int)).length=(U.textOf (xs.take (k+1))).length by rw[NZ.o,WR,<-DA.o]);rw[Cz.o]at TP;have WP:=(TP.o.bel (n:=w.heap.size) (W0:=w) (by simp[Iv])).size;have Uc:=(TP.o.blk 2 rfl).q7;have pl:=(TP.o.blk 2 rfl).lt;go_wp2_with (at_builtin;refine PC (u:=Z9 y) rfl _ _ 22 rfl OJ TP.o 1 rfl rfl rfl rfl SH.o (by omega) WP ?_;rintro O3 Va T4 ⟨AV,Ac,rfl,-,-⟩;have TS:=bx T4;have Tm:=(T4.blk 2 rfl).q7;have f8:=(T4.blk 2 rfl).frozen 7;have L6:=(T4.blk 2 rfl).lt;clear T4 Uc pl WP)
   have S6:=bx (ads TS.o M4.o);clear Tm f8 L6
   go_roundw
   ·exact⟨k+1,by omega,_,S6⟩
   have Z7:=S6.o.at' 0 rfl;have Z5:=MN.o;have ZS:=MR.o;simp only[World.iterPos];rw[show _=some (Obj.stringIter s' (U.textOf (xs.take (k+1))).length)from Z7,Z5];simp only;rw[Cz.o.symm];omega
 obtain rfl:k=N:=by omega
 have zO:¬pos<s'.size:=by
  have WK:=DA.o;rw[SU (by rw[ZE.o];exact Wq _),Ry.o,<-size_eq]at WK;omega
 have K4:=λty=>Lib.run_next_end_at (P:=prog) wr it s' pos ty hit zO
 have WF:=YC.o;rw[SU (by rw[ZE.o];exact Wq _)]at WF;have YE:=bx (Y6.au (WF.row 1 rfl) rfl);have WH:=bx (WF.blk 2 rfl);have TZ:=bx (WF.bel (n:=w.heap.size) (W0:=w) (by simp[Iv]));clear hit zO WF;go_wp2_with fail;rw[Jq];go_ret2;exact⟨pi,YM,Y2,Zo,Za,VU,u9,rfl,rfl,WH.o,YE.o,TZ.o⟩
end
namespace C
open Go.Proofs.YtdponihkpomheaaGreatDoor
theorem cg(s:List UInt8):M.fix s=U.textOf (Xw s):=((U.bI _ _).1 (Bc s)).1.symm
theorem hI(s:List UInt8):HR (M.fix s)=((List.range ((Xw s).length+1)).map (av (Xw s))).map (λn:Nat=>(n:Int)):=by
 grind[HR,cg,aeW,IC]
theorem akY(s:List UInt8){k:Nat}(_:k<=(Xw s).length):(HR (M.fix s))[k]?=some (av (Xw s) k:Int):=by
 rw[hI,RX,RX,jB (by omega)]
 rfl
theorem akh(s:List UInt8):(HR (M.fix s)).length=(Xw s).length+1:=by
 rw[hI,X4,X4,Bz]
def bz(xs:List Int)(ns:List Nat):List Int:=(places xs ns).map (λn:Nat=>(n:Int))
theorem alE(xs:List Int)(ns:List Nat){k a:Nat}(h:ns[k]?=some a):bz xs (ns.take (k+1))=bz xs (ns.take k)++[(av xs a:Int)]:=by
 unfold bz places;rw[Uo,h,T9,T9]
 rfl
theorem avD(xs:List Int)(ns:List Nat):(bz xs ns).length=ns.length:=by simp[bz,places]
theorem amB(xs:List Int)(ns:List Nat){k:Nat}(h:k+1<ns.length):(pieces xs ns).take (k+1)=(pieces xs ns).take k++[piece xs ns k]:=by
 have hl:k<(pieces xs ns).length:=by rw[pieces_len];omega
 rw[yl hl];have:=abd xs ns h;grind
theorem avU(g:Ga)(ls:List (List Int)):aj g ls ls.length=(ls.map (meas g)).sum:=by simp[aj]
theorem mw{g:Ga}{s:List UInt8}(_:aG g s=0):aA g=true/\s.length<=2000:=by
 grind[aG]
theorem bd{g:Ga}{s:List UInt8}(_:aA g=true)(_:s.length<=2000):aG g s=0:=by
 grind[aG]
theorem dS{g:Ga}(_:aA g=true):Td g.t=true/\aS g.w=true/\0<=g.k/\g.k<=2:=by
 grind[aA]
theorem bY{g:Ga}{s:List UInt8}(_:aA g=true)(_:s.length<=2000):Vn g.t s=0:=by
 unfold Vn;rw[Y4 (by grind[dS]),Y4 (by omega)]
theorem abG{g:Ga}{s:List UInt8}(h:aG g s=0):(ae g.t s).length=(ab g.t s).length:=by
 obtain⟨Z7,Z5⟩:=mw h;unfold ae;rw[Y0 (bY Z7 Z5),<-mz,X4]
theorem e4{g:Ga}{s:List UInt8}(h:aG g s=0):ae g.t s=(ab g.t s).map U.textOf:=by
 obtain⟨Z7,Z5⟩:=mw h;unfold ae;rw[Y0 (bY Z7 Z5),<-mz]
theorem di(g:Ga)(ls:List (List Int))(k:Nat):0<=aj g ls k:=by
 have:=arS g ls (OQ k);grind[fK]
end C
section
attribute[local go_sem] Oper.semAt_some
theorem qT(t:Tab)(s:List UInt8):(C.aQ t s).length<=s.length+1:=by
 unfold C.aQ
 split
 ·rw[C.c8];have Z7:=(QR t s).2.len;have Z5:=OO s;omega
 simp
theorem oh(v:Value)(t:Tab)(s:ByteArray)(w:World)(Z2:TabAt w v t)(Z0:Sr t)(ZY:s.size<=299):
  Calls prog 121 #[v,.string s] w λe w'=>(∃Zy,e=.returned (.tuple #[Zy,Z9 (Vn t s.data.toList)])/\Y6 w' Zy ((C.aQ t s.data.toList).map λn:Nat=>(n:Int)))/\Z6 w w':=by
 have VE:=bx (λW(h:Z6 w W)=>Z2.below h);obtain⟨pi,YM,Y2,Zo,Za,rfl,Z7,Z5,ZS,ZG,Zi⟩:=Z2;obtain⟨V,ZO⟩:∃V,V=w.alloc (.cells #[Z9 t.n,pi,YM,Y2,Zo,Za] 31):=⟨_,rfl⟩
 have ZR:=bx (aB ZO);have Ze:=bx (aK ZO);have ZF:=bx (λW(h:Z6 V W)=>Ze.o.d6 h);have ZN:=bx ZO;have Q6:=bx (afr _ t s V (VE.o V ZR.o) Z0 ZY);have UL:=bx (λW=>Ju s W (by omega));have TL:=C.ba s.data.toList;rw[<-size_eq]at TL;have JO:=bx (λW=>ht ⟨(M.fix s.data.toList).toArray⟩ W (by rw[size_mk];omega));have Xa:=OO s.data.toList;rw[<-size_eq]at Xa
 by_cases he:Vn t s.data.toList=0
 ·have AX:=bx he;obtain⟨P5,Pt⟩:=QR t s.data.toList;have Ll:=bx (show Kx t s.data.toList=(Wc t s.data.toList).map (λn:Nat=>(n:Int)) by grind[Kx]);have Nv:=bx (show(C.aQ t s.data.toList).map (λn:Nat=>(n:Int))=C.bz (Xw s.data.toList) (Wc t s.data.toList) by grind[C.aQ,C.bz]);rw[he,Ll.o]at Q6;have oT:=bx (λ(k:Nat)(h:k<=(Xw s.data.toList).length)=>C.akY s.data.toList h);have AQ:=bx (C.akh s.data.toList);obtain⟨us,jN⟩:∃us,us=HR (M.fix s.data.toList):=⟨_,rfl⟩
  have w5:=bx jN;rw[<-jN]at oT AQ;generalize Wc t s.data.toList=ns at Q6 Nv Pt;generalize Xw s.data.toList=xs at Nv Pt Xa oT AQ;have Xx:=bx Pt;obtain⟨N,Zp⟩:∃N,xs.length=N:=⟨_,rfl⟩
  rw[Zp]at Xa AQ;have ZE:=bx Zp;obtain⟨Q,VI⟩:∃Q,ns.length=Q:=⟨_,rfl⟩
  have Xy:=bx VI;have vJ:0<Q:=by rw[<-VI];exact Pt.ne
  have Cx:Q<=300:=by have:=Pt.len;omega
  clear Z7 Z5 ZS ZG Zi ZO Z0 he P5 Pt Zp VI jN;obtain⟨Yk,ZP⟩:∃n,n=t.n:=⟨_,rfl⟩
  rw[<-ZP]at ZN Ze VE ZF Q6⊢;clear ZP;obtain⟨Zd,Zx,Zr,Zk,Zl,Zg,YS⟩:=ZF.o V YU
  go_in
  go_upto_region 1 with(fail)
  rw[<-ZN.o];go_wp2_with fail;refine Q6.o.mono ?_;rintro e ZV ⟨⟨v1,rfl,WV⟩,ZZ⟩;have UH:=bx WV;obtain⟨ca,Rm,rfl⟩:=WV.slice;rw[X4,Xy.o]at UH⊢;have ZW:=Zw ZR ZZ;clear ZZ WV Zd Zx Zr Zk Zl Zg YS;go_wp2_with fail;refine Y3 (UL.o ZV) λZB Zz=>?_
  have UA:=bx (UH.o.below Zz);have Zt:=Zw ZW Zz;clear Zz;go_wp2_with fail;refine(JO.o ZB).mono ?_;rintro e Zh ⟨⟨v3,rfl,KZ⟩,Zb⟩;rw[toList_mk,<-w5.o]at KZ;have iK:=bx KZ;obtain⟨By,I1,rfl⟩:=KZ.slice;rw[AQ.o]at iK⊢;have Un:=bx (UA.o.below Zb);have YY:=Zw Zt Zb;clear Zb KZ;have XI:=bx (show Sep (RO Zh.heap.size Zh Z1 (C.bz xs (ns.take 0))) Zh from(Sep.start Zh).aH Zh.heap.size 1 3);go_wp2_with fail
  go_loopw[9,10] (λYd i wr=>∃k:Nat,k<=Q/\i=Z9 k/\Box (Sep (RO Zh.heap.size Zh Yd (C.bz xs (ns.take k))) wr)) (λ_ i _=>Q-(intOf i).toNat)
  ·grind
  obtain⟨k,Z3,rfl,YC⟩:=hrel;have XW:=bx (G5 YC.o);have YA:=bx (bt YY.o XW.o)
  by_cases Zu:k<Q
  ·obtain⟨a,YZ⟩:=Yg ns k (by rw[Xy.o];omega);have awP:a<=N:=by
    have:=Xx.o.le k (by grind);rw[Rl,YZ,OT,ZE.o]at this;omega
   have hu:=oT.o a (by rw[ZE.o];omega);obtain⟨VF,Um,AC,Zq,YP,Yb,WW,VK⟩:=Un.o.get (by intro h;simp_all);rw[X4,Xy.o]at Zq YP;obtain⟨rfl,rfl⟩:=XN Zq;obtain⟨ax8,amW,ayP,f1,f2,f3,f4,f5⟩:=iK.o.get (by grind);rw[AQ.o]at f1 f2;obtain⟨rfl,rfl⟩:=XN f1;have c1:=(XW.o.cell (p:=⟨VF,Um+k,none⟩) WW).trans (VK k (a:Int) (by grind));have c2:=(XW.o.cell (p:=⟨ax8,amW+a,none⟩) f4).trans (f5 a _ hu);have U1:=bx (C.alE xs ns YZ);have SH:=bx (show(C.bz xs (ns.take k)).length<=1000000000 by rw[C.avD,SW];omega);have WP:=XW.o.size;generalize(C.av xs a:Int)=y at c2 U1;generalize C.bz xs (ns.take k)=Yc at YC U1 SH;have az3:(a:Int)<(N:Int)+1:=by omega
   unfold maxLen at Yb f3;clear YZ hu Zq WW VK f1 f4 f5;go_wp2_with (at_builtin;refine PC rfl _ _ 22 rfl OJ YC.o 0 rfl rfl rfl rfl SH.o (by omega) WP ?_;rintro v6 XA WC -;have WQ:=bx (DQ (m:=[y]) WC (by simp) U1.o);clear WC)
   go_roundw
   ·exact⟨k+1,by omega,by go_num,WQ⟩
   grind[intOf]
  obtain rfl:k=Q:=by omega
  have WF:=YC.o;rw[SU (by rw[Xy.o];omega)]at WF;have YE:=bx (DD WF).1;clear WF
  go_wp2
  go_ret2
  exact⟨⟨_,OB rfl (PZ AX.o.symm),by rw[Nv.o];exact YE.o⟩,YA.o⟩
 have Nv:=bx (show(C.aQ t s.data.toList).map (λn:Nat=>(n:Int))=[] by grind[C.aQ]);obtain⟨r,ZT⟩:∃r,r=Vn t s.data.toList:=⟨_,rfl⟩
 have ZK:=bx ZT;rw[<-ZT]at he Q6;have YP:(r != 0)=true:=by grind
 obtain⟨Yk,ZP⟩:∃n,n=t.n:=⟨_,rfl⟩
 rw[<-ZP]at ZN Ze VE ZF Q6⊢;clear Z7 Z5 ZS ZG Zi ZO Z0 ZP he ZT;obtain⟨Zd,Zx,Zr,Zk,Zl,Zg,YS⟩:=ZF.o V YU
 go_in
 go_upto_region 1 with(fail)
 rw[<-ZN.o];go_wp2_with fail;refine Q6.o.mono ?_;rintro e ZV ⟨⟨v1,rfl,WV⟩,ZZ⟩;obtain⟨ca,Rm,rfl⟩:=WV.slice;have ZW:=Zw ZR ZZ;clear ZZ WV Zd Zx Zr Zk Zl Zg YS
 go_wp2
 go_ret2
 exact⟨⟨_,OB rfl (PZ ZK.o),by rw[Nv.o];exact .nil⟩,ZW.o⟩
def Sd(n:Nat)(W0:World)(Yd:Value)(l:List (List UInt8)):List Pc:=[Pc.row n 9 1 Yd l.length (l.map Vu),Pc.old n W0]
theorem JB{n:Nat}{W0 w:World}{Yd:Value}{l:List (List UInt8)}(h:Sep (Sd n W0 Yd l) w):Below n W0 w:=Sep.bel (ps:=Sd n W0 Yd l) h (by simp[Sd])
theorem Ay{n:Nat}{W0 w:World}{Yd:Value}{l:List (List UInt8)}(h:Sep (Sd n W0 Yd l) w):XC w Yd l:=XC.au (h.row 0 rfl) rfl
theorem adA{n:Nat}{W0 w:World}{Yd S8:Value}{l r:List (List UInt8)}{x:List UInt8}(_:Sep ((Sd n W0 Yd l).set 0 (Pc.row n 9 1 S8 (l.length+1) (l.map Vu++[Vu x]))) w)(_:r=l++[x]):Sep (Sd n W0 S8 r) w:=by
 grind[Sd]
theorem vt(n:Nat)(W0:World)(h:n=W0.heap.size):Sep (Sd n W0 Z1 []) W0:=by
 subst h;exact(Sep.start W0).aH W0.heap.size 1 9
theorem avu{t:Tab}{s:List UInt8}(he:Vn t s=0){k a b:Nat}(YZ:(C.aQ t s)[k]?=some a)(Z8:(C.aQ t s)[k+1]?=some b):
  a<=b/\b<=(M.fix s).length/\(C.ae t s).take (k+1)=(C.ae t s).take k++[((M.fix s).take b).drop a]:=by
 have ZT:=(QR t s).2;unfold C.aQ at YZ Z8;unfold C.ae;rw[Y0 he]at YZ Z8⊢;have Z3:k+1<(Wc t s).length:=by
  grind[C.c8]
 have azA:(C.places (Xw s) (Wc t s)).getD k 0=a:=by grind
 have azB:(C.places (Xw s) (Wc t s)).getD (k+1) 0=b:=by grind
 have Z7:=C.eV (xs:=Xw s) ZT Z3;have Z5:=C.cJ (xs:=Xw s) (ns:=Wc t s) Z3;grind[C.cg,C.amB,C.fY,List.drop_take]
theorem oE(v:Value)(t:Tab)(s:ByteArray)(w:World)(Z2:TabAt w v t)(Z0:Sr t)(ZY:s.size<=299):
  Calls prog 123 #[v,.string s] w λe w'=>(∃Zy,e=.returned (.tuple #[Zy,Z9 (Vn t s.data.toList)])/\XC w' Zy (C.ae t s.data.toList))/\Z6 w w':=by
 have VE:=bx (λW(h:Z6 w W)=>Z2.below h);obtain⟨pi,YM,Y2,Zo,Za,rfl,Z7,Z5,ZS,ZG,Zi⟩:=Z2;obtain⟨V,ZO⟩:∃V,V=w.alloc (.cells #[Z9 t.n,pi,YM,Y2,Zo,Za] 31):=⟨_,rfl⟩
 have ZR:=bx (aB ZO);have Ze:=bx (aK ZO);have ZF:=bx (λW(h:Z6 V W)=>Ze.o.d6 h);have ZN:=bx ZO;have VB:=bx (oh _ t s V (VE.o V ZR.o) Z0 ZY);have UL:=bx (λW=>Ju s W (by omega));have TK:=qT t s.data.toList;rw[<-size_eq]at TK;have TL:=C.ba s.data.toList;rw[<-size_eq]at TL
 by_cases he:Vn t s.data.toList=0
 ·have AX:=bx he;have Au:=bx (λ(k a b:Nat) YZ Z8=>avu he (k:=k) (a:=a) (b:=b) YZ Z8);have PW:=bx (show(C.ae t s.data.toList).length+1=(C.aQ t s.data.toList).length by
   unfold C.ae C.aQ;rw[Y0 he,Y0 he,C.pieces_len,C.c8];have:=(QR t s.data.toList).2.ne;omega)
  rw[he]at VB;have UL:=bx (λW=>show Calls prog 58 #[.string s] W λe w'=>e=.returned (.string (bs (M.fix s.data.toList)))/\Z6 W w' from UL.o W);generalize C.aQ t s.data.toList=ps at VB Au TK PW;generalize C.ae t s.data.toList=YJ at Au PW⊢;generalize M.fix s.data.toList=RW at UL Au TL;obtain⟨Q,VI⟩:∃Q,YJ.length=Q:=⟨_,rfl⟩
  rw[VI]at PW;have Xy:=bx VI;have Cx:Q<=299:=by have:=PW.o;omega
  clear Z7 Z5 ZS ZG Zi ZO Z0 he VI TK;obtain⟨Yk,ZP⟩:∃n,n=t.n:=⟨_,rfl⟩
  rw[<-ZP]at ZN Ze VE ZF VB⊢;clear ZP;obtain⟨Zd,Zx,Zr,Zk,Zl,Zg,YS⟩:=ZF.o V YU
  go_in
  go_upto_region 1 with(fail)
  rw[<-ZN.o];go_wp2_with fail;refine VB.o.mono ?_;rintro e ZV ⟨⟨v1,rfl,WV⟩,ZZ⟩;have UH:=bx WV;obtain⟨ca,Rm,rfl⟩:=WV.slice;rw[X4,<-PW.o]at UH⊢;have ZW:=Zw ZR ZZ;clear ZZ WV Zd Zx Zr Zk Zl Zg YS;go_wp2_with fail;refine Y3 (UL.o ZV) λZB Zz=>?_
  have UA:=bx (UH.o.below Zz);have Zt:=Zw ZW Zz;clear Zz;have XI:=bx (show Sep (Sd ZB.heap.size ZB Z1 (YJ.take 0)) ZB from vt _ _ rfl);go_wp2_with fail
  go_loopw[9,10] (λYd i wr=>∃k:Nat,k<=Q/\i=Z9 k/\Box (Sep (Sd ZB.heap.size ZB Yd (YJ.take k)) wr)) (λ_ i _=>Q-(intOf i).toNat)
  ·grind
  obtain⟨k,Z3,rfl,YC⟩:=hrel;have XW:=bx (JB YC.o);have YA:=bx (bt Zt.o XW.o)
  by_cases Zu:k<Q
  ·obtain⟨a,YZ⟩:=Yg ps k (by rw[<-PW.o];omega);obtain⟨b,Z8⟩:=Yg ps (k+1) (by rw[<-PW.o];omega);obtain⟨QK,F6,pD⟩:=Au.o k a b YZ Z8;obtain⟨VF,Um,AC,Zq,YP,Yb,WW,VK⟩:=UA.o.get (by intro h;simp_all);rw[X4,<-PW.o]at Zq YP;obtain⟨rfl,rfl⟩:=XN Zq;have Do:=VK k (a:Int) (by grind);have Dm:=VK (k+1) (b:Int) (by grind);have Xa:=uN (P:=prog) (T:=9) underlying9 RW a b a b rfl rfl ⟨QK,F6⟩;have U1:=bx pD;generalize(RW.take b).drop a=X at Xa pD U1;have U2:=bx (λW(h:Z6 ZB W)=>show ZQ W VF (Um+k)=some (Z9 (a:Nat))/\ZQ W VF (Um+(k+1))=some (Z9 (b:Nat))from⟨(h.cell (p:=⟨VF,Um+k,none⟩) WW).trans Do,(h.cell (p:=⟨VF,Um+(k+1),none⟩) WW).trans Dm⟩);have SH:=bx (show(YJ.take k).length<=1000000000 by grind);generalize YJ.take k=Yc at YC U1 SH;have Xm:=bx (show Sep (Sd ZB.heap.size ZB u9 Yc) wr.drew from YC.o.drewN 1);have Y9:=bx (show Z6 ZB wr.drew from XW.o.trans ((VQ wr 1).mono XW.o.size));have YF:=bx (U2.o wr.drew Y9.o);have WP:=Y9.o.size;have Iu:decide ((k:Int)+1<(Q:Int)+1)=true:=Yh (by omega);have wQ:(k:Int)<(Q:Int)+1:=by omega
   have agq:(k:Int)+1<(Q:Int)+1:=by omega
   have TT:IntKind.i64.wrap ((k:Int)+1)=(k:Int)+1:=by rw[QN];omega
   have Nj:(0:Int)<=(k:Int)+1:=by omega
   have Sx:((k:Int)+1).toNat=k+1:=by omega
   unfold maxLen at Yb;clear YZ Z8 Zq WW VK Do Dm pD QK F6;go_wp2_with fail;refine Vv 14 (λW'=>ZQ W' VF (Um+k)=some (Z9 (a:Nat))/\ZQ W' VF (Um+(k+1))=some (Z9 (b:Nat))) (by rfl) ?_;generalize wr.drew=Yl at Xm Y9 YF WP⊢;refine Vp [0,1,2,3,4,5,6,7,8,9,10,11] ?_
   iterate 12 (refine Vq ?_ rfl YF.o ?_ ?_;rotate_left;·rintro w ⟨q1,q2⟩;go_simp;try with_reducible rfl)
   refine Vr ?_;refine Y1 12 rfl λY7 ZX=>?_
   go_simp;refine ZX.out _ _ (λ_=>U2.o _ (Y9.o.trans ((Xl Yl _).mono Y9.o.size))) ?_;clear ZX Y7;refine Y1 13 rfl λY7 ZX=>?_
   refine H6 (u:=Vu X) rfl _ _ 49 rfl Iy Xm.o 0 rfl rfl (by rfl) rfl SH.o (by omega) WP ?_;rintro v6 XA WC -;have WQ:=bx (adA WC U1.o);have Tj:=bx (U2.o XA (JB WQ.o));clear WC;refine ZX.out _ _ (λ_=>Tj.o) ?_;clear ZX Y7;refine Y1 14 rfl λY7 ZX=>?_
   go_simp;refine ZX.out _ _ (λh=>by cases h) ?_;clear ZX Y7;refine kD ?_ _;clear TT Nj Sx Xa
   go_wp2
   go_roundw
   ·exact⟨k+1,by omega,by go_num,WQ⟩
   grind[intOf]
  obtain rfl:k=Q:=by omega
  have WF:=YC.o;rw[SU (by rw[Xy.o];omega)]at WF;have YE:=bx (Ay WF);clear WF;have Iu:decide ((k:Int)+1<(k:Int)+1)=false:=Yp (by omega)
  go_wp2
  go_ret2
  exact⟨⟨_,OB rfl (PZ AX.o.symm),YE.o⟩,YA.o⟩
 have Nv:=bx (show C.ae t s.data.toList=[] by grind[C.ae]);obtain⟨r,ZT⟩:∃r,r=Vn t s.data.toList:=⟨_,rfl⟩
 have ZK:=bx ZT;rw[<-ZT]at he VB;have YP:(r != 0)=true:=by grind
 obtain⟨Yk,ZP⟩:∃n,n=t.n:=⟨_,rfl⟩
 rw[<-ZP]at ZN Ze VE ZF VB⊢;clear Z7 Z5 ZS ZG Zi ZO Z0 ZP he ZT;obtain⟨Zd,Zx,Zr,Zk,Zl,Zg,YS⟩:=ZF.o V YU
 go_in
 go_upto_region 1 with(fail)
 rw[<-ZN.o];go_wp2_with fail;refine VB.o.mono ?_;rintro e ZV ⟨⟨v1,rfl,WV⟩,ZZ⟩;obtain⟨ca,Rm,rfl⟩:=WV.slice;have ZW:=Zw ZR ZZ;clear ZZ WV Zd Zx Zr Zk Zl Zg YS
 go_wp2
 go_ret2
 exact⟨⟨_,OB rfl (PZ ZK.o),by rw[Nv.o];exact U8.nil⟩,ZW.o⟩
theorem anf(A:Nat->Addr)(B:Nat)(s:List UInt8)(w:World)(_:s.length<=16777216)(Z0:U.valid s=true)(YN:E A B w)(hB:B<=w.heap.size):
  Calls prog 286 #[.string (bs s)] w λe w'=>e=.returned (.bool false)/\Z6 w w':=by
 have ZN:=bx (show Calls prog 32 #[.string (bs s)] w λe w'=>e=.returned (.bool true)/\Z6 w w' by
  have h:=alH A B (bs s) w (by grind[Wu]) YN hB;rw[Ky,Z0]at h;exact h)
 clear YN Z0
 go_in
 go_wp2_with fail;refine Y3 ZN.o λ_ _=>?_
 go_wp2
 go_ret
 simp_all
theorem amq(A:Nat->Addr)(B:Nat)(v:Value)(ls:List (List UInt8))(w:World)(Z2:XC w v ls)(ZY:ls.length<=16777216)(UU:∀s∈ls,U.valid s=true/\s.length<=16777216)(YN:E A B w)(hB:B<=w.heap.size):
  Calls prog 162 #[v,.func (.func 286) #[] #[]] w λe w'=>e=.returned (Z9 (-1))/\Z6 w w':=by
 have X9:=bx (λW(h:Z6 w W) s (Z0:s∈ls)=>anf A B s W (UU s Z0).2 (UU s Z0).1 (YN.below (h.mono hB)) (XJ hB h.size));have ZN:=bx Z2;obtain⟨N,Zp⟩:∃N,ls.length=N:=⟨_,rfl⟩
 obtain⟨XH,ZU,rfl,-⟩:=Z2.slice;rw[Zp]at ZY ZN⊢;have ZE:=bx Zp;clear Z2 UU YN hB Zp
 go_in
 go_wp2_with fail
 go_loopw[8] (λi wr=>∃k:Nat,k<=N/\i=Z9 k/\Box (Z6 w wr)) (λi _=>N-(intOf i).toNat)
 ·exact⟨0,by omega,rfl,⟨Below.refl _ _⟩⟩
 obtain⟨k,Z3,rfl,Z8⟩:=hrel
 by_cases Zu:k<N
 ·obtain⟨x,Z4⟩:=Yg ls k (by rw[ZE.o];omega);obtain⟨g,off,XV,Y5,XL,Yi,XB,YX⟩:=ZN.o.get (by grind);rw[ZE.o]at Y5 XL;obtain⟨rfl,rfl⟩:=XN Y5;have Ua:=(Z8.o.cell (p:=⟨g,off+k,none⟩) XB).trans (YX k x Z4);have LY:=bx (X9.o wr Z8.o x (Xh Z4));unfold maxLen at Yi;clear Z4 Y5 XB YX;go_wp2_with fail;refine X7 LY.o Z8.o λ_ ZW=>?_
  clear Ua
  go_wp2
  go_roundw
  ·exact⟨k+1,by omega,by go_num,ZW⟩
  grind[intOf]
 go_wp2
 go_ret
 exact⟨rfl,Z8.o⟩
theorem apP(A:Nat->Addr)(B:Nat)(v:Value)(ls:List (List UInt8))(w:World)(Z2:XC w v ls)(ZY:ls.length<=16777216)(UU:∀s∈ls,U.valid s=true/\s.length<=16777216)(YN:E A B w)(hB:B<=w.heap.size):
  Calls prog 93 #[v,.func (.func 286) #[] #[]] w λe w'=>e=.returned (.bool false)/\Z6 w w':=by
 have YE:=bx (amq A B v ls w Z2 ZY UU YN hB);clear Z2 UU YN hB
 go_in
 go_wp2_with fail;refine Y3 YE.o λ_ ZZ=>?_
 have ZW:=bx ZZ;clear ZZ
 go_wp2
 go_ret
 exact⟨rfl,ZW.o⟩
theorem alC(A:Nat->Addr)(B:Nat)(v Zc:Value)(c:C.Wd)(ls:List (List UInt8))(w:World)(Z2:WideAt w v c)(Z0:Pp c)(ZL:C.aS c=true)(hl:XC w Zc ls)(ZY:ls.length<=16777216)(UU:∀s∈ls,U.valid s=true/\s.length<=16777216)(YN:E A B w)(hB:B<=w.heap.size):
  Calls prog 227 #[v,Zc] w λe w'=>∃ZD bv rg Zf,v=.agg #[ZD,bv,.bool c.wide]/\e=.returned (.tuple #[Zn rg,.nilIface])/\Sep (II rg Zf ZD bv c [Pc.old w.heap.size w]) w':=by
 have GU:=bx (λW(h:Z6 w W)=>Z2.below h);obtain⟨ZD,bv,rfl,hi,Z8⟩:=Z2;obtain⟨V,ZO⟩:∃V,V=w.alloc (.cells #[ZD,bv,.bool c.wide] 33):=⟨_,rfl⟩
 have ZR:=bx (aB ZO);have Ze:=bx (aK ZO);obtain⟨wd,XS⟩:∃b,b=c.wide:=⟨_,rfl⟩
 rw[<-XS]at Ze ZO GU;have Q9:=bx XS;have ZN:=bx ZO;have ZF:=bx (λW(h:Z6 V W)=>Ze.o.d3 h);clear ZO XS hi Z8;have EW:=bx (show Calls prog 64 #[.agg #[ZD,bv,.bool wd]] V λe w'=>e=.returned (.bool true)/\Z6 V w' by
  have h:=mK _ c V (GU.o V ZR.o) Z0;rw[ZL]at h;exact h)
 have Pq:=bx (λW(h:Z6 w W)=>apP A B Zc ls W (hl.below h) ZY UU (YN.below (h.mono hB)) (XJ hB h.size));have US:=bx (λW(h:Z6 w W)=>show ZQ W 11 0=some (.iface 448 (.pointer (some (A 11))))/\ZQ W 12 0=some (.iface 448 (.pointer (some (A 12))))from
  ⟨(YN.below (h.mono hB)).cell 11 (by decide),(YN.below (h.mono hB)).cell 12 (by decide)⟩)
 rw[<-Q9.o];obtain⟨Yr,lc,rfl,-⟩:=hl.slice;generalize ls.length=Q at Pq ZY⊢;have J9:=@run_makeMap prog;obtain⟨Zd,Zx,Zr,YS⟩:=ZF.o V YU;obtain⟨g0,g1⟩:=US.o V ZR.o;clear Z0 ZL hl ZY UU YN hB
 go_in
 go_upto_region 1 with(fail)
 rw[<-ZN.o];go_wp2_with fail;refine Nr 0 rfl ?_;go_wp2_with fail;refine Y3 EW.o λZV ZZ=>?_
 have VD:=bx ZZ;have ZW:=Zw ZR ZZ;clear Zd Zx Zr YS g0 g1 ZZ;obtain⟨g0,g1⟩:=US.o ZV ZW.o;go_wp2_with fail;refine Y3 (Pq.o ZV ZW.o) λZB Zz=>?_
 have Uv:=Zw VD Zz;have Zt:=Zw ZW Zz;obtain⟨Zd,Zx,Zr,YS⟩:=ZF.o ZB Uv.o;have Z3:KG (ZB.alloc (.map #[] 0)) ZB.heap.size c:=⟨#[],0,World.alloc_heap_new ZB _,λ_ _=>by grind,λ_ v _=>by grind[Jz,Instr.findNow]⟩
 have V6:=((Sep.start w).below Zt.o).add (Xl ZB (.map #[] 0)) (p:=Pc.eb ZB.heap.size c) Z3 (λk Z3=>by rw[show k=ZB.heap.size from Z3];omega);have V1:=bx (show Sep (Pc.blk (ZB.heap.size+1) 373 #[ZD,bv,.bool wd,.map (some ZB.heap.size)]::Pc.eb ZB.heap.size c::[Pc.old w.heap.size w]) ((ZB.alloc (.map #[] 0)).alloc (.cells #[ZD,bv,.bool wd,.map (some ZB.heap.size)] 373)) by
  have h:=V6.ak 373 #[ZD,bv,.bool wd,.map (some ZB.heap.size)];simp_all)
 clear Z3 V6 Zz g0 g1;go_wp2_with fail;rw[Jq];go_ret2;exact⟨ZD,bv,_,ZB.heap.size,rfl,rfl,by unfold II;rw[<-Q9.o];exact V1.o⟩
theorem asQ(rg Zf:Nat)(ZD bv:Value)(c:C.Wd)(ps:List Pc)(s:ByteArray)(xs:List Int)(w:World)(Z0:Pp c)(ZM:F.aE c.p=true)(Z4:U.scalars s.data.toList=some xs)(_:s.size<=8000)(WS:∀W,Sep ps W->Y6 W ZD c.p.1/\TF W bv c.p.2)(hS:Sep (II rg Zf ZD bv c ps) w):
  Calls prog 229 #[Zn rg,.string s] w λe w'=>e=.returned (Z9 (C.aq c xs))/\Turns (λk=>k=Zf) w w'/\KG w' Zf c:=by
 have M5:=bx ((U.bI _ _).1 Z4).2;have Ry:=bx ((U.bI _ _).1 Z4).1;have Rz:=bx (show C.aq c xs=if(C.emoji xs&&decide (0<C.most c xs))=true then 2 else C.most c xs from rfl);have w4:=bx (λ(r:Nat)(ZT:r<=1114111) W (h:Sep (II rg Zf ZD bv c ps) W)=>apD rg Zf ZD bv c ps r ZT W Z0 ZM WS h);obtain⟨N,Zp⟩:∃N,xs.length=N:=⟨_,rfl⟩
 have kI:N<=8000:=by
  have Z7:=yT xs;rw[Ry.o,<-size_eq]at Z7;omega
 have ZE:=bx Zp;have O7:=bx (show Z6 w (w.iter s 0)from Xl w _);have WQ:=bx (show Sep (Pc.obj w.heap.size (.stringIter s (U.textOf (xs.take 0)).length)::II rg Zf ZD bv c ps) (w.iter s 0)from
  hS.add O7.o (p:=Pc.obj w.heap.size (.stringIter s 0)) (World.iter_heap w s 0) (λk Z3=>by rw[show k=w.heap.size from Z3];omega))
 have xh:=bx ((hS.at' 1 rfl:KG w Zf c).lt);clear Z4 Z0 ZM WS hS Zp
 go_in
 go_wp2_with fail;have Pr:=bx (Turns.of_below (own:=λk=>k=Zf\/k=w.heap.size) O7.o);generalize w.iter s 0=Xi at WQ Pr⊢;obtain⟨it,km⟩:∃it,it=w.heap.size:=⟨_,rfl⟩
 rw[<-km]at WQ Pr⊢;have anj:=bx km;clear O7 km
 go_loopw[5,6,7,8] (λn em _ _ wr=>∃k:Nat,k<=N/\n=Z9 (C.most c (xs.take k))/\em=.bool (C.emoji (xs.take k))/\Box (Sep (Pc.obj it (.stringIter s (U.textOf (xs.take k)).length)::II rg Zf ZD bv c ps) wr)/\Box (Turns (λk=>k=Zf\/k=it) w wr)) (λ_ _ _ _ wr=>s.size-wr.iterPos it)
 ·exact⟨0,by omega,rfl,rfl,WQ,Pr⟩
 obtain⟨k,Z3,rfl,rfl,YC,Io⟩:=hrel;obtain⟨pos,LC⟩:∃pos,pos=(U.textOf (xs.take k)).length:=⟨_,rfl⟩
 rw[<-LC]at YC;have DA:=bx LC;have hit:wr.heap[it]?=some (.stringIter s pos):=YC.o.at' 0 rfl;have MN:=bx hit;clear LC
 by_cases Zu:k<N
 ·obtain⟨z,P2⟩:=Yg xs k (by rw[ZE.o];omega);have A7:=M5.o z (Xh P2);obtain⟨r,rfl,MD⟩:=DV A7;obtain⟨MI,EJ⟩:=adM P2;rw[Ry.o,<-DA.o]at MI;have NZ:=bx EJ;have F3:=U.c6 (r:Int);have TK:pos+(U.enc (r:Int)).length<=s.size:=by
   have WK:=congrArg List.length MI;rw[Px,WR,<-size_eq]at WK;omega
  have MR:=bx (show pos<s.size/\1<=(U.enc (r:Int)).length/\pos+(U.enc (r:Int)).length<=s.size from⟨by omega,F3.1,TK⟩);have K4:=λty=>Lib.run_next_any_at (P:=prog) wr it s pos ty hit (by omega)
  rw[aba s pos r _ A7 MI]at K4;simp only at K4;have TR:=bx (nS (c:=c) P2);have Mq:=bx (nI P2);obtain⟨FM,FY⟩:∃m,C.most c (xs.take k)=m:=⟨_,rfl⟩
  obtain⟨em,F2⟩:∃m,C.emoji (xs.take k)=m:=⟨_,rfl⟩
  rw[FY]at TR;rw[F2]at Mq;rw[FY,F2];have AB:=bx (show(0<pos)=(0<k) by
   rw[DA.o]
   apply propext
   constructor
   ·grind[U.textOf]
   intro h;exact C.e9 (by intro ZI;have:=congrArg List.length ZI;grind))
  obtain⟨XA,Ho⟩:∃XA,XA=wr.iterAt it s (pos+(U.enc (r:Int)).length):=⟨_,rfl⟩
  rw[<-Ho]at K4;have Wb:=bx (show Sep (Pc.obj it (.stringIter s (pos+(U.enc (r:Int)).length))::II rg Zf ZD bv c ps) XA by
   rw[Ho];exact Sep.upd (ps:=Pc.obj it (.stringIter s pos)::II rg Zf ZD bv c ps) (own:=λq=>q=it) 0 YC.o rfl (mj wr it s _) (λ_ h _=>h) (p':=Pc.obj it (.stringIter s (pos+(U.enc (r:Int)).length))) (Lib.iterAt_heap wr it s pos _ hit) (λ_ h=>.inl h))
  have u1:=bx (show Turns (λk=>k=Zf\/k=it) w XA by
   rw[Ho];exact Io.o.trans ((mj wr it s _).mono (λq h=>.inr h)))
  have Cz:=bx (show pos+(U.enc (r:Int)).length=(U.textOf (xs.take (k+1))).length by rw[NZ.o,WR,<-DA.o]);rw[Cz.o]at Wb;have JN:=bx (show s.size-(U.textOf (xs.take (k+1))).length<s.size-pos by have:=MR.o;rw[<-Cz.o];omega);have AD:=bx (show wr.iterPos it=pos by grind[World.iterPos]);have LY:=bx (w4.o r MD XA Wb.o.tail);have ay3:pos<=8000:=by omega
  clear hit MI EJ A7 P2 Ho TK F3 FY F2;go_wp2_with fail;refine LY.o.mono ?_;rintro e Va ⟨rfl,jQ,agp⟩;have TS:=bx (Sep.upd (ps:=Pc.obj it (.stringIter s (U.textOf (xs.take (k+1))).length)::II rg Zf ZD bv c ps) (own:=λq=>q=Zf) 2 Wb.o rfl jQ (λ_ h _=>h) (p':=Pc.eb Zf c) agp (λ_ h=>.inl h));have TS:=bx (show Sep (Pc.obj it (.stringIter s (U.textOf (xs.take (k+1))).length)::II rg Zf ZD bv c ps) Va from TS.o);have CD:=bx (u1.o.trans (jQ.mono (λq h=>.inl h)));have qG:=bx (show Va.iterPos it=(U.textOf (xs.take (k+1))).length by
   have h:=TS.o.at' 0 rfl;simp only[World.iterPos];rw[show _=some (Obj.stringIter s (U.textOf (xs.take (k+1))).length)from h])
  clear jQ agp K4
  cases em with
  |true=>
   have Pu:=bx (show C.emoji (xs.take (k+1))=true by rw[Mq.o];rfl)
   go_wp2
   go_roundw
   ·exact⟨k+1,by omega,by rw[TR.o],by rw[Pu.o],TS,CD⟩
   rw[qG.o,AD.o];exact JN.o
  |false=>
   by_cases ZI:0<pos
   ·have d0:decide ((0:Int)<(pos:Int))=true:=Yh (by omega);have d1:=Yh ZI;have UW:(0:Int)<(pos:Int):=by omega
    have BM:0<k:=by rw[<-AB.o];exact ZI
    cases Cj:((r:Int)==65039)with
    |true=>
     have Pu:=bx (show C.emoji (xs.take (k+1))=true by rw[Mq.o,Cj,Yh BM];rfl)
     go_wp2
     go_roundw
     ·exact⟨k+1,by omega,by rw[TR.o],by rw[Pu.o],TS,CD⟩
     rw[qG.o,AD.o];exact JN.o
    |false=>
     have Pu:=bx (show C.emoji (xs.take (k+1))=false by rw[Mq.o,Cj];simp)
     go_wp2
     go_roundw
     ·exact⟨k+1,by omega,by rw[TR.o],by rw[Pu.o],TS,CD⟩
     rw[qG.o,AD.o];exact JN.o
   have d0:decide ((0:Int)<(pos:Int))=false:=Yp (by omega);have d1:=Yp ZI;have UW:¬(0:Int)<(pos:Int):=by omega
   have Pu:=bx (show C.emoji (xs.take (k+1))=false by rw[Mq.o,Yp (by rw[<-AB.o];exact ZI)];rfl)
   go_wp2
   go_roundw
   ·exact⟨k+1,by omega,by rw[TR.o],by rw[Pu.o],TS,CD⟩
   rw[qG.o,AD.o];exact JN.o
 obtain rfl:k=N:=by omega
 have zO:¬pos<s.size:=by
  have WK:=DA.o;rw[SU (by rw[ZE.o];omega),Ry.o,<-size_eq]at WK;omega
 have K4:=λty=>Lib.run_next_end_at (P:=prog) wr it s pos ty hit zO
 rw[SU (by rw[ZE.o];omega)];have y4:=bx (show KG wr Zf c from YC.o.at' 2 rfl);have Xt:=bx (mC Io.o (λq Z7 _=>by
  rcases Z7 with Z7|Z7
  ·exact Z7
  have:=anj.o;omega))
 generalize C.emoji xs=em at Rz⊢;generalize C.most c xs=FM at Rz⊢;clear hit zO
 cases em with
 |false=>
  go_wp2
  go_ret
  exact⟨SJ (by rw[Rz.o];simp),Xt.o,y4.o⟩
 |true=>
  by_cases h:0<FM
  ·have d0:=Yh h;have ZK:=bx (show C.aq c xs=2 by rw[Rz.o,d0];rfl);clear h
   go_wp2
   go_ret
   exact⟨SJ ZK.o.symm,Xt.o,y4.o⟩
  have d0:=Yp h;have ZK:=bx (show C.aq c xs=FM by rw[Rz.o,d0];rfl);clear h
  go_wp2
  go_ret
  exact⟨SJ ZK.o.symm,Xt.o,y4.o⟩
theorem aeC(A:Nat->Addr)(B:Nat)(v:Value)(c:C.Wd)(s:List UInt8)(xs:List Int)(w:World)(Z2:WideAt w v c)(Z0:Pp c)(ZL:C.aS c=true)(Z4:U.scalars s=some xs)(_:s.length<=8000)(YN:E A B w)(hB:B<=w.heap.size):
  Calls prog 140 #[v,.string (bs s)] w λe w'=>e=.returned (.tuple #[Z9 (C.aq c xs),Z9 0])/\Z6 w w':=by
 have tE:F.aE c.p=true:=by
  grind[C.aS]
 have GU:=bx (λW(h:Z6 w W)=>Z2.below h);obtain⟨ZD,bv,rfl,hi,Z8⟩:=Z2;obtain⟨V,ZO⟩:∃V,V=w.alloc (.cells #[ZD,bv,.bool c.wide] 33):=⟨_,rfl⟩
 have ZR:=bx (aB ZO);have Ze:=bx (aK ZO);obtain⟨wd,XS⟩:∃b,b=c.wide:=⟨_,rfl⟩
 rw[<-XS]at Ze ZO GU;have Q9:=bx XS;have ZN:=bx ZO;have ZF:=bx (λW(h:Z6 V W)=>Ze.o.d3 h);clear ZO XS hi Z8;have Sf:U.valid s=true:=by grind[U.valid]
 have G2:=bx (λW(h:Z6 w W)(Zc:Value)(hl:XC W Zc [s])=>alC A B _ Zc c [s] W (GU.o W h) Z0 ZL hl (by simp) (λq Zs=>by grind) (YN.below (h.mono hB)) (XJ hB h.size));have TJ:=bx (λrg Zf Jw Jx(W0 W:World)(ZI:Z6 w W0)(he:(.agg #[ZD,bv,.bool wd]:Value)=.agg #[Jw,Jx,.bool c.wide])(h:Sep (II rg Zf Jw Jx c [Pc.old W0.heap.size W0]) W)=>asQ rg Zf Jw Jx c [Pc.old W0.heap.size W0] (bs s) xs W Z0 tE (by grind[Ky]) (by grind[Wu]) (λW' TB=>by
  have awQ:=TB.bel (n:=W0.heap.size) (W0:=W0) (by simp);obtain⟨aAB,Aa,Zq,YP,Yb⟩:=GU.o W' (ZI.trans (awQ.mono ZI.size));grind) h)
 generalize C.aq c xs=res at TJ⊢;rw[<-Q9.o];obtain⟨Zd,Zx,Zr,YS⟩:=ZF.o V YU;clear Z0 ZL Z4 YN hB Sf tE
 go_in
 go_upto_region 1 with(fail)
 rw[<-ZN.o];have XW:=bx (ZR.o.trans ((Xl V (.cells #[.string (bs s)] 9)).mono ZR.o.size));have AR:=bx (show XC (V.alloc (.cells #[.string (bs s)] 9)) (.slice (some ⟨V.heap.size,0,none⟩) 1 1) [s]from U8.ei (xs:=[s].map Vu) (Zv.new V 9 #[.string (bs s)]) (by simp));have An:=bx (G2.o _ XW.o _ AR.o);go_wp2_with fail;refine An.o.mono ?_;rintro e ZV ⟨Jw,Jx,rg,Zf,he,rfl,V6⟩;have OF:=bx (TJ.o rg Zf Jw Jx _ ZV XW.o he V6);have ZW:=bx (XW.o.trans ((V6.bel (n:=(V.alloc (.cells #[.string (bs s)] 9)).heap.size) (W0:=V.alloc (.cells #[.string (bs s)] 9)) (by simp[II])).mono XW.o.size));have o7:=bx (Nat.not_lt.1 (V6.tail.apart (q:=Pc.old (V.alloc (.cells #[.string (bs s)] 9)).heap.size (V.alloc (.cells #[.string (bs s)] 9))) (by simp) (k:=Zf) rfl));clear V6 he Zd Zx Zr YS;go_wp2_with fail;refine OF.o.mono ?_;rintro e ZB ⟨rfl,Nd,-⟩;have Zt:=bx (ZW.o.trans (Nd.below ZW.o.size (λq Zs=>by have Z7:=o7.o;have Z5:=XW.o.size;omega)));clear Nd
 go_wp2
 go_ret2
 exact⟨rfl,Zt.o⟩
