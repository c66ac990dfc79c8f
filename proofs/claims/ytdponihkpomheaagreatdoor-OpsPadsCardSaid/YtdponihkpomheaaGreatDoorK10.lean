/- Texts of this claim. -/
import Derived.Lib.AppendStr
import Derived.Shelf.Strings.Builder1
import Derived.IntWalk
import Derived.Laws.IdiomStrings
import Derived.Laws.BytesArg
import Derived.Lib.BufferRead
import Derived.Shelf.Strings.OnBuilder
import Derived.Ground.Names2Prog
import Derived.Test.YtdponihkpomheaaGreatDoorK8

set_option maxRecDepth 100000
set_option maxHeartbeats 4000000
namespace Go.Proofs.YtdponihkpomheaaGreatDoor
open Go.RowKit
open Tryz
section
open Go.Shelf
def aah:Go.Shelf.Ren:=⟨fun|169=>85|n=>n,fun|70=>125|9=>9|0=>0|72=>128|37=>126|127=>214|3=>3|5=>5|n=>n,fun|n=>n⟩
theorem lays169:Go.Proofs.Lays.n169 prog aah:={
 mixed:=by rfl
 f169:=func85.trans (congrArg some (by rfl))
 t0:=underlying0
 a0:=isAgg0
 z0:=sizeOf0
 v0:=zeroValue0
 t3:=underlying3
 a3:=isAgg3
 z3:=sizeOf3
 v3:=zeroValue3
 t9:=underlying9
 a9:=isAgg9
 z9:=sizeOf9
 v9:=zeroValue9
 t37:=underlying126
 a37:=isAgg126
 z37:=sizeOf126
 v37:=zeroValue126
 t70:=underlying125
 a70:=isAgg125
 z70:=sizeOf125
 v70:=zeroValue125
 t72:=underlying128
 a72:=isAgg128
 z72:=sizeOf128
 v72:=zeroValue128
 t127:=underlying214
 a127:=isAgg214
 z127:=sizeOf214
 v127:=zeroValue214}
theorem rZ:Builder.Extra prog aah:={
 sizeBuilder:=by rfl
 liesBuilder:=by rfl
 t5:=underlying5
 a5:=isAgg5
 z5:=sizeOf5
 v5:=zeroValue5
 infoByte:=by rfl
 cellsByte:=by rfl
 sizeByte:=by rfl
 neB5:=by decide}
theorem lM(B b:Nat)(l:List UInt8)(w:World)(h:Lib.IsBuilder 128 5 B b (Lib.byteCells l) w)(hB:B<=w.heap.size):
  Calls prog 85 #[Zn b] w λe w'=>e=.returned (.string ⟨l.toArray⟩)/\Below B w w' :=
 Any.Builder_String_any lays169 rZ B b l w h hB
theorem bInfo:(prog.info? 128).map (·.size)=some 2:=by rfl
theorem ars:liesAt prog prog.depth 128 (2/prog.cellsOf 128) 0 128 1=true:=by rfl
theorem si:(prog.info? 5).map (λi=>(i.zero,i.size,i.bytes))=some (some (.int .u8 0),1,1):=by rfl
theorem abW(b:Nat)(w:World)(_:w.cell? ⟨b,0,none⟩=some (Zn b)):
  Calls prog 154 #[Zn b] w λe w'=>e=.returned (.tuple #[])/\w=w':=by
 obtain⟨j,YO,_⟩:=NU.1 bInfo
 go_in
 go_wp2
 rw[Lib.run_neq_ptr_same w _ underlying125 YO]
 go_wp2
 go_end0
 simp
theorem aa5(b:Nat)(w:World)(_:w.cell? ⟨b,0,none⟩=some (.pointer none))(Z0:w.shape? b=some (128,2))(_:w.frozen? ⟨b,0,none⟩=false):
  Calls prog 154 #[Zn b] w λe w'=>e=.returned (.tuple #[])/\w.setCell ⟨b,0,none⟩ (Zn b)=w':=by
 obtain⟨j,YO,ago⟩:=NU.1 bInfo
 go_in
 go_wp2
 rw[Lib.run_to_unsafe w ⟨b,0,none⟩ underlying125 underlying273 YO (by omega) Z0 (Nat.zero_lt_succ 1)];simp only[Result.andThen];rw[Oper.upon_value]
 go_wp2
 rw[run_callFunc_extern func236 (by rfl) (by rfl) (by rfl) (e:=Extern.AbiNoEscape.same) (by rfl)];rw[Lib.run_noEscape];simp only[Result.andThen];rw[Oper.upon_value]
 go_wp2
 rw[Lib.run_from_unsafe w ⟨b,0,none⟩ underlying273 underlying125 YO Z0 ars];simp only[Result.andThen];rw[Oper.upon_value]
 go_wp2
 go_end0
 simp
theorem atS(B b:Nat)(bs:List Value)(w:World)(h:Lib.IsBuilder 128 5 B b bs w):
  Calls prog 154 #[Zn b] w λe w'=>e=.returned (.tuple #[])/\Lib.BuilderAt 128 5 B b (Zn b) bs w'/\Below B w w':=by
 rcases h with h|h
 ·refine(aa5 b w h.cell0 h.shape h.frozen0).mono ?_;rintro e w' ⟨rfl,rfl⟩;exact⟨rfl,h.used _,(Below.refl B w).setCell (p:=⟨b,0,none⟩) h.1 _⟩
 refine(abW b w h.cell0).mono ?_;rintro e w' ⟨rfl,rfl⟩;exact⟨rfl,h,Below.refl B w⟩
theorem hL(B b:Nat)(l:List UInt8)(s:ByteArray)(w:World)(h:Lib.IsBuilder 128 5 B b (Lib.byteCells l) w)(_:l.length+s.size<=16777216)(_:B<=w.heap.size):
  Calls prog 84 #[Zn b,.string s] w λe w'=>e=.returned (.tuple #[Z9 s.size,.nilIface])/\Lib.IsBuilder 128 5 B b (Lib.byteCells (l++s.data.toList)) w'/\Below B w w':=by
 obtain⟨i0,hi,Vs,Up,Vf⟩:=info_parts si;have Ty:(Lib.byteCells l).length=l.length:=by simp[Lib.byteCells]
 go_in
 go_wp2_with (go_at_call 154;refine(atS B b _ _ h).mono ?_)
 rintro e ZV ⟨rfl,Z7,ZZ⟩;obtain⟨Km,v,XY,Wo,Xq⟩:=Z7;have YV:ZV.cell? ⟨b,0,none⟩=some (Zn b):=by rw[Lib.cell_of_heap XY];rfl
 have c1:ZV.cell? ⟨b,1,none⟩=some v:=by rw[Lib.cell_of_heap XY];rfl
 go_wp2_with (at_builtin;refine Lib.wpList_append_own_string _ rfl _ _ 126 9 rfl B 5 i0 underlying126 underlying9 hi Vs Up Vf _ _ _ rfl Wo s rfl ?c3 ?VG ?Wv ?_)
 case c3=>grind[maxLen]
 case VG=>omega
 case Wv=>grind
 intro Zy ZB Tf UN _;have Zu:b<ZV.heap.size:=by
  grind
 have Zz:ZB.heap[b]?=some (.cells #[Zn b,v] 128 (0,0)):=by
  rw[UN.block b Zu (λe=>Xq e.symm)];omega
 have d1:ZB.cell? ⟨b,1,none⟩=some v:=by rw[Lib.cell_of_heap Zz];rfl
 have f1:=Lib.frozen_of_heap Zz 1;obtain⟨XH,n',ZU,rfl⟩:∃XH n' ZU,Zy=.slice XH n' ZU:=by
  rcases Tf.2 with⟨Z2,_⟩|⟨g,ZU,VY,Z2,_⟩
  ·grind
  grind
 go_wp2
 go_ret2
 refine⟨rfl,.inr ?_,?_⟩
 ·have:=Lib.BuilderAt.put (T:=128) (e:=5) Km Zz (bs':=Lib.byteCells l++Lib.strCells s) (by rw[WR,Lib.strCells_length,Ty];exact Tf) (by decide);grind[Lib.byteCells,Lib.strCells]
 exact(ZZ.grown UN (by omega) (λk Z3=>(Wo.lt k Z3).1)).setCell (p:=⟨b,1,none⟩) Km _
end
structure HY(Kr b:Nat)(v:Value)(l:List UInt8)(w:World):Prop where
 blk:Zv w b 128 #[.pointer none,v]\/Zv w b 128 #[Zn b,v]
 own:w.ownsRow Kr 5 1 v l.length (Lib.byteCells l)
 ne:v.ownBlock≠some b
theorem HY.turns{Kr b:Nat}{v:Value}{l:List UInt8}{w w':World}{own:Nat->Prop}(h:HY Kr b v l w)(ZM:Turns own w w')(Z8:¬own b)(YT:∀k,v.ownBlock=some k->¬own k):HY Kr b v l w' :=
 ⟨h.blk.imp (λk=>ZM.blk k Z8) (λk=>ZM.blk k Z8),ZM.row h.own YT,h.ne⟩
theorem HY.lt{Kr b:Nat}{v:Value}{l:List UInt8}{w:World}(h:HY Kr b v l w):b<w.heap.size:=by
 rcases h.blk with k|k <;> exact k.lt
theorem Turns.aql{A B:World}{b:Nat}{row:Option Nat}(h:A.grownBy B row):Turns (λk=>k=b\/row=some k) A B:=
 ⟨h.os,h.tape,h.output,h.size,λi hi YT=>h.block i hi (λe=>YT (.inr e.symm))⟩
theorem aaJ(Kr b:Nat)(v:Value)(l:List UInt8)(s:ByteArray)(w:World)(h:HY Kr b v l w)(_:l.length+s.size<=16777216)(_:b<Kr)(_:Kr<=w.heap.size):
  Calls prog 84 #[Zn b,.string s] w λe w'=>e=.returned (.tuple #[Z9 s.size,.nilIface])/\(∃Zy,HY Kr b Zy (l++s.data.toList) w')/\Turns (λk=>k=b\/v.ownBlock=some k) w w':=by
 obtain⟨i0,hi,Vs,Up,Vf⟩:=info_parts si;have Ty:(Lib.byteCells l).length=l.length:=by simp[Lib.byteCells]
 have Zu:=h.lt;have agb:Calls prog 154 #[Zn b] w λe w'=>e=.returned (.tuple #[])/\Zv w' b 128 #[Zn b,v]/\Turns (λk=>k=b) w w':=by
  rcases h.blk with k|k
  ·refine(aa5 b w (k.q0) (by grind[Zv,World.shape?]) (k.frozen 0)).mono ?_;rintro e w' ⟨rfl,rfl⟩;exact⟨rfl,k.ai 0 _,Turns.setCell (own:=λk=>k=b) w (p:=⟨b,0,none⟩) rfl _⟩
  refine(abW b w (k.q0)).mono ?_;rintro e w' ⟨rfl,rfl⟩;exact⟨rfl,k,Turns.refl _ _⟩
 have agJ:=h.own;have Xq:=h.ne;clear h
 go_in
 go_wp2_with (go_at_call 154;refine agb.mono ?_)
 rintro e ZV ⟨rfl,XY,Sg⟩;have Wo:=Sg.row agJ (λk Z3 e=>by grind);have YV:=XY.q0;have c1:=XY.q1;have V6:=Sg.size;clear agJ agb;go_wp2_with (at_builtin;refine Lib.wpList_append_own_string _ rfl _ _ 126 9 rfl Kr 5 i0 underlying126 underlying9 hi Vs Up Vf _ _ _ rfl Wo s rfl ?c3 ?VG ?Wv ?_)
 case c3=>grind[maxLen]
 case VG=>omega
 case Wv=>omega
 intro Zy ZB Tf UN aAm;have Zz:=XY.grown UN (λe=>Xq e.symm);have d1:=Zz.q1;have f1:=Zz.frozen 1;have Uf:=Tf.lt;obtain⟨XH,n',ZU,rfl⟩:∃XH n' ZU,Zy=.slice XH n' ZU:=by
  rcases Tf.2 with⟨Z2,_⟩|⟨g,ZU,VY,Z2,_⟩
  ·grind
  grind
 have QJ:=Zz.ai 1 (.slice XH n' ZU);have nZ:=bx QJ;have Zt:=bx Zz;clear QJ Zz YV c1
 go_wp2
 go_ret2
 have B8:Turns (λk=>k=b) ZB (ZB.setCell ⟨b,1,none⟩ (.slice XH n' ZU)):=Turns.setCell (own:=λk=>k=b) ZB (p:=⟨b,1,none⟩) rfl _;refine⟨rfl,⟨.slice XH n' ZU,.inr nZ.o,?_,λe=>by grind⟩,?_⟩
 ·have:=B8.row Tf (λk Z3 e=>by grind);rw[WR,<-size_eq,show Lib.byteCells (l++s.data.toList)=Lib.byteCells l++Lib.strCells s by simp[Lib.byteCells,Lib.strCells]];omega
 exact((Sg.mono λk Z3=>.inl Z3).trans (Turns.aql UN)).trans (B8.mono λk Z3=>.inl Z3)
theorem auF(w:World)(g n:Nat):Turns (λk=>k=g) w (w.freeze ⟨g,0,none⟩ n):=by
 have Z8:=Lib.below_freeze (B:=0) (Below.refl 0 w) (p:=⟨g,0,none⟩) (OQ _) n;refine⟨Z8.os,Z8.tape,Z8.output,Z8.size,λk _ _=>?_⟩
 grind[World.freeze]
theorem avm(Kr b:Nat)(v:Value)(l:List UInt8)(w:World)(h:HY Kr b v l w):
  Calls prog 85 #[Zn b] w λe w'=>e=.returned (.string ⟨l.toArray⟩)/\Turns (λk=>v.ownBlock=some k) w w':=by
 obtain⟨p,XY⟩:∃p,Zv w b 128 #[p,v]:=by rcases h.blk with k|k <;> exact⟨_,k⟩
 have Wo:=h.own
 by_cases ZI:l=[]
 ·subst ZI;have key:Calls prog 85 #[Zn b] w λe w'=>e=.returned (.string ⟨#[]⟩)/\Z6 w w':=by
   rcases Wo.2 with⟨rfl,_⟩|⟨g,ZU,VY,rfl,awR,ZH,_⟩
   ·exact Any.Builder_String_nil lays169 rZ w.heap.size b p w XY
   by_cases Vl:ZU=0
   ·subst Vl;exact Any.Builder_String_noroom lays169 rZ w.heap.size b g p VY w Ys XY ZH
   exact Any.Builder_String_room lays169 rZ w.heap.size b g ZU p w Vl XY
  exact key.mono λe w' ⟨he,Z8⟩=>⟨he,Turns.of_below Z8⟩
 have LH:l.length≠0:=by grind
 obtain⟨g,ZU,VY,rfl,awR,ZH,aAk,Jg,Tg,axq⟩:∃g ZU VY,v=.slice (some ⟨g,0,none⟩) l.length ZU/\Kr<=g/\w.heap[g]?=some (.cells VY 5 (0,0))/\l.length<=ZU/\ZU<=maxLen/\VY.size=ZU*1/\VY.toList.take (l.length*1)=Lib.byteCells l:=by
  rcases Wo.2 with⟨_,ZY⟩|⟨g,ZU,VY,Z2,r⟩
  ·omega
  exact⟨g,ZU,VY,Z2,r⟩
 have c1:=XY.q1;have azZ:(Builtin.unsafeSliceData_ #[126] 214 #[.slice (some ⟨g,0,none⟩) l.length ZU]).run prog w.drew=.ok (Zn g) w.drew:=
  Lib.run_unsafeSliceData_row _ _ _ _ _ _ (by omega)
 have az0:(Builtin.unsafeString_ #[214,3] 9 #[Zn g,Z9 l.length]).run prog w.drew=.ok (.string ⟨l.toArray⟩) (w.drew.freeze ⟨g,0,none⟩ l.length):=by
  refine Lib.run_unsafeString_row w.drew 214 3 9 5 underlying214 (by rfl) g VY.size (by have K6:w.drew.heap[g]?=some (.cells VY 5 (0,0)):=ZH;simp[World.shape?,K6]) l ZI (by omega) (by grind[maxLen]) ?_;intro j x Z4;have:=Wo.cells (g:=g) rfl j (.int .u8 x.toNat) (by simp[Lib.byteCells,Z4]);exact this
 clear Wo axq ZI h XY
 go_in
 go_wp2
 go_region
 all_goals
  go_wp2
  go_ret
  refine⟨rfl,(Turns.drew w).trans ((auF w.drew g l.length).mono λk Z3=>by subst Z3;rfl)⟩
section
open Go.Shelf
attribute[local go_sem] Oper.semAt_some
theorem ae8(l:List UInt8)(ZC:List M.Place)(x:M.Place):M.repair l (ZC++[x])=M.repair l ZC++M.mended l x:=by
 simp[M.repair]
theorem amA(l:List UInt8)(x:M.Place)(_:x.2.1<=4):(M.mended l x).length<=4:=by
 unfold M.mended
 split
 ·grind
 decide
theorem aec(l:List UInt8)(ZC:List M.Place)(h:∀x∈ZC,x.2.1<=4):(M.repair l ZC).length<=4*ZC.length:=by
 induction ZC with
 |nil=>simp[M.repair]
 |cons x t XZ=>
  have Z7:=XZ (λy ZJ=>h y (Oj _ ZJ));have Z5:=amA l x (h x (Pw ..));grind[M.repair]
theorem alo{l:List UInt8}{ZC:List M.Place}{x:M.Place}(h:rQ l ZC x):(∀y∈ZC,y.2.1<=4)/\x.2.1<=4/\x.1+x.2.1<=l.length:=by
 obtain⟨t,ZM⟩:=h;have key:∀y∈M.places l,y.2.1<=4/\y.1+y.2.1<=l.length:=by
  intro y ZJ;rw[<-M.dG]at ZJ;have:=M.dY l 0 y ZJ;omega
 refine⟨λy ZJ=>(key y (by grind)).1,(key x (by grind)).1,(key x (by grind)).2⟩
def mkS:ByteArray:=⟨#[239,191,189]⟩
theorem apE:Ei 65533=.tuple #[.string mkS,Z9 0]:=by
 rfl
theorem E7(A:Nat->Addr)(B:Nat)(s:ByteArray)(w:World)(_:s.size<=100000)(YN:E A B w)(hB:B<=w.heap.size):
  Calls prog 33 #[.string s] w λe w'=>e=.returned (.string ⟨(M.fix s.data.toList).toArray⟩)/\Z6 w w':=by
 have lL:=sl w (.cells #[.string s] 9);have KD:=bx (ou A B 65533 _ (YN.below (lL.mono hB)));have av6:=bx lL;have abU:=bx (Zv.new w 9 #[.string s]);have Xn:=bx YN;have Wy:=bx (size_eq s);clear YN lL;refine(callsIn_wide (n:=9)).1 (callsIn_of_wp_marks func33 rfl trivial (wpIn_wide.2 ?_));simp only[ntmps33,My,U3,SK,Nat.reduceAdd,Nat.reduceSub,Mu,Mg,Og,Mo,RQ,SI];go_wp2_with fail;refine KD.o.mono ?_;rintro e ZV ⟨rfl,ZZ⟩;rw[apE];have ZW:=Zw av6 ZZ;have rL:=abU.o.below ZZ abU.o.lt;have YV:=rL.q0;have S4:=rL.lt;have h7:=bx rL;clear ZZ rL;go_wp2_with (go_at_call 83;refine YW (ajH _ _) ?_)
 clear YV;obtain⟨Yn,ZZ,Zz,Us,W1⟩:=three (ZV.alloc (.cells #[.string mkS] 9)) #[.pointer none,Z1] #[.string s] #[Zn (ZV.heap.size+1+1)] 128 135 131;have Ip:=(((Zv.new ZV 9 #[.string mkS]).alloc (.cells #[.pointer none,Z1] 128)).alloc (.cells #[.string s] 135)).alloc (.cells #[Zn (ZV.heap.size+1+1)] 131);have Us:=(sl ZV (.cells #[.string mkS] 9)).trans (Us.mono (sl ZV _).size);rw[show(ZV.alloc (.cells #[.string mkS] 9)).heap.size=ZV.heap.size+1 from by simp]at Yn ZZ Zz W1;generalize(((ZV.alloc (.cells #[.string mkS] 9)).alloc (.cells #[.pointer none,Z1] 128)).alloc (.cells #[.string s] 135)).alloc (.cells #[Zn (ZV.heap.size+1+1)] 131)=Xs at Yn ZZ Zz Us W1 Ip⊢;have N5:=ZW.o.size;have WP:=h7.o.below Us h7.o.lt;have qH:=bt ZW.o Us;have A1:=Xn.o.below (qH.mono hB);have kW:HY (Xs.heap.size+2) (ZV.heap.size+1) (Z1) (M.repair s.data.toList []) Xs:=⟨.inl Yn,World.ownsRow_nil _ _ _ _,by simp[Value.ownBlock]⟩
 refine(wpIn_wide (n:=9)).1 (aud (α:=M.Place) (gf:=152) (lb:=#[Zn (ZV.heap.size+1+1+1)]) rfl (enters_of func152 (by rfl) rfl)
  (encs:=qY) (own:=λ_=>False) (keep:=λk=>k=ZV.heap.size+1+1\/k=ZV.heap.size+1+1+1\/k<B) (ok:=rQ s.data.toList) (S:=λxs _=>xs=M.places s.data.toList)
  (λk Z3=>by grind)
  (λYH ZM=>ani 7 A B (ZV.heap.size+1+1) (ZV.heap.size+1+1+1) s (by omega) _ YH (A1.below (ZM.below (by omega) (λ_ h=>h.elim))) (by omega) (ZM.blk ZZ (λh=>h)) (ZM.blk Zz (λh=>h)))
  (λ_=>rfl)
  (λZC W=>Zv W w.heap.size 9 #[.string s]/\Zv W ZV.heap.size 9 #[.string mkS]/\(∃v,HY (Xs.heap.size+2) (ZV.heap.size+1) v (M.repair s.data.toList ZC) W)/\Z6 w W)
  (λ_ _ _=>False) ?UW (λ_ _ _ _ h _=>h) ⟨WP,Ip,⟨_,kW⟩,qH⟩
  (λx a1 W=>∃ub,Xs.heap.size+2<=ub/\Zv W ub 138 #[Z9 (x.2.1:Int),.bool x.2.2]/\a1={tmps:=#[.string s,Zn (w.heap.size),.string ⟨#[]⟩,Zn (ZV.heap.size),Z9 0,Zn (ZV.heap.size+1),Z9 (x.1:Int),Zn ub,undef,.tuple #[.string mkS,Z9 0],.tuple #[.string mkS,Z9 0],.string mkS,Z9 0,.string s,.agg #[.string s],.agg #[.string s],Zn (ZV.heap.size+1+1),.func (.func 152) #[] #[Zn (ZV.heap.size+1+1+1)],Z9 (x.1:Int),.agg #[Z9 (x.2.1:Int),.bool x.2.2],undef,undef,undef,undef,undef,undef,undef,undef,undef,undef,undef,undef,undef,undef,undef,undef,undef],defers:=[]})
  ?Gc ?assign ?body ?done (λ_ _ _ _ h _=>h.elim) (λ_ _ _ h _=>h))
 case UW=>
  rintro ZC W W' ⟨Z7,Z5,⟨v,ZS⟩,ZG⟩ ZM;exact⟨ZM.blk Z7 (by grind),ZM.blk Z5 (by grind),⟨v,ZS.turns ZM (by grind) (λk Z3=>by have:=(ZS.own.lt k Z3).1;grind)⟩,ZG.trans (ZM.below ZG.size (λk Z3=>by grind))⟩
 case Gc=>
  rintro x a1 W W' ⟨ub,Z7,Z5,ZS⟩ ZM;exact⟨ub,Z7,ZM.blk Z5 (by omega),ZS⟩
 case assign=>
  intro x W K Yj Xc;unfold qY
  gi_wp2
  exact Xc _ _ (Turns.alloc _ _) ⟨W.heap.size,Yj,Zv.new _ _ _,rfl⟩
 case body=>
  rintro ZC x a1 W0 W N um ⟨Z7,Z5,⟨v,ZS⟩,ZG⟩ ZM Zp YB ⟨ub,pC,SR,rfl⟩;have Ty:=anJ YB;rw[<-Wy.o]at Ty;obtain⟨Pg,Oo,wJ⟩:=alo YB;rw[<-Wy.o]at wJ;have zJ:=aec s.data.toList ZC Pg;have V6:=ZM.size;have Zx:=ZM.blk Z7 (by grind);have Zr:=ZM.blk Z5 (by grind);have Zk:=ZS.turns ZM (by grind) (λk Z3=>by have:=(ZS.own.lt k Z3).1;grind);have Zl:=ZG.trans (ZM.below ZG.size (λk Z3=>by grind));have Gl:=bx ZS.own.lt;have Ws:=SR.q0;have XX:=SR.q1;have V2:=SR.lt;have RN:=Zx.q0;have Vy:=Zr.q0;have TX:=Zx.lt;have Qa:=Zr.lt;have U4:=bx Zx;have LO:=bx Zr;have ta:=bx Zk;have Cm:=bx Zl;have S6:=bx (ae8 s.data.toList ZC x);obtain⟨Xo,MP,J1⟩:=x;have CX:Xo<=100000:=by omega
  have aAx:MP<=4:=Oo;have CV:Xo+MP<=s.size:=wJ;clear Z7 Z5 ZS ZG Zx Zr Zk Zl SR Yn ZZ Zz Us A1 YB ZM Ip WP qH kW Pg Oo wJ
  cases J1 with
  |true=>
   have ahc:(s.extract Xo (Xo+MP)).data.toList=(s.data.toList.drop Xo).take MP:=by simp
   have aiZ:=bx ahc;have ahd:(s.extract Xo (Xo+MP)).size<=4:=by simp_all
   clear ahc
   gi_wp2
   refine⟨trivial,((callsIn_wide (n:=6)).2 (aaJ (Xs.heap.size+2) (ZV.heap.size+1) v _ (s.extract Xo (Xo+MP)) _ (ta.o.turns (Turns.alloc (own:=λ_=>False) W _) (λh=>h) (λ_ _ h=>h)) (by omega) (by omega) (by simp;omega))).mono ?_⟩;rintro e Zh ⟨rfl,⟨Zy,Sh⟩,Uq⟩;have Wj:=bx (show HY (Xs.heap.size+2) (ZV.heap.size+1) Zy (M.repair s.data.toList (ZC++[(Xo,MP,true)])) Zh by
    rw[S6.o];rw[aiZ.o]at Sh;exact Sh)
   have Yo:=(Turns.alloc (own:=λk=>k=ZV.heap.size+1\/v.ownBlock=some k) W (.cells #[Z9 MP,.bool true] 138)).trans Uq;have Y8:=bx Yo;clear Sh Uq Yo
   gi_wp2
   refine⟨Holds.cA Y8.o (λk Z3=>by omega) (λk Z3 h=>?_),Y8.o.blk U4.o (λh=>?_),Y8.o.blk LO.o (λh=>?_),⟨Zy,Wj.o⟩,Cm.o.trans (Y8.o.below Cm.o.size (λk Z3=>?_))⟩
   ·rcases h with h|h
    ·omega
    have:=Gl.o k h;omega
   ·rcases h with h|h
    ·omega
    have:=Gl.o _ h;omega
   ·rcases h with h|h
    ·omega
    have:=Gl.o _ h;omega
   rcases Z3 with h|h
   ·omega
   have:=Gl.o _ h;omega
  |false=>
   gi_wp2
   refine⟨trivial,((callsIn_wide (n:=6)).2 (aaJ (Xs.heap.size+2) (ZV.heap.size+1) v _ mkS _ (ta.o.turns (Turns.alloc (own:=λ_=>False) W _) (λh=>h) (λ_ _ h=>h)) (by show _+3<=_;omega) (by omega) (by simp;omega))).mono ?_⟩;rintro e Zh ⟨rfl,⟨Zy,Sh⟩,Uq⟩;have Wj:=bx (show HY (Xs.heap.size+2) (ZV.heap.size+1) Zy (M.repair s.data.toList (ZC++[(Xo,MP,false)])) Zh by
    rw[S6.o]
    skip
    exact Sh)
   have Yo:=(Turns.alloc (own:=λk=>k=ZV.heap.size+1\/v.ownBlock=some k) W (.cells #[Z9 MP,.bool true] 138)).trans Uq;have Y8:=bx Yo;clear Sh Uq Yo
   gi_wp2
   refine⟨Holds.cA Y8.o (λk Z3=>by omega) (λk Z3 h=>?_),Y8.o.blk U4.o (λh=>?_),Y8.o.blk LO.o (λh=>?_),⟨Zy,Wj.o⟩,Cm.o.trans (Y8.o.below Cm.o.size (λk Z3=>?_))⟩
   ·rcases h with h|h
    ·omega
    have:=Gl.o k h;omega
   ·rcases h with h|h
    ·omega
    have:=Gl.o _ h;omega
   ·rcases h with h|h
    ·omega
    have:=Gl.o _ h;omega
   rcases Z3 with h|h
   ·omega
   have:=Gl.o _ h;omega
 case done=>
  intro xs W Yj hS ⟨Z7,Z5,⟨v,ZS⟩,ZG⟩ XU;have vW:=bx (avm (Xs.heap.size+2) (ZV.heap.size+1) v (M.repair s.data.toList xs) W ZS);have Gl:=bx ZS.own.lt;have Nq:=bx ZG;have Xf:=bx XU;have ZN:=bx (show M.repair s.data.toList xs=M.fix s.data.toList by rw[hS];rfl);have CY:=ZG.size;have ayZ:ZV.heap.size+1+3<=Xs.heap.size:=by omega
  clear W1 Z7 Z5 ZS ZG XU Yn ZZ Zz Us A1 Ip WP qH kW hS;go_wp2_with fail;refine Y3 vW.o λZB jR=>?_
  have Bt:=bx ((jR.block Xs.heap.size (by omega) (λh=>by have:=Gl.o _ h;omega)).trans Xf.o);have yh:=bx (Nq.o.trans (jR.below Nq.o.size (λk Z3=>by have:=Gl.o _ Z3;omega)));clear jR;go_wp2_with fail;refine⟨by simp,.inl ⟨_,_,rfl,run_takeDeferred Bt.o,?_⟩⟩;refine⟨_,results_tmp rfl _ _ _,?_⟩;exact⟨by rw[<-ZN.o];rfl,yh.o.trans ((Turns.putObj (own:=λk=>k=Xs.heap.size) ZB rfl _).below yh.o.size (λk Z3=>by omega))⟩
def aaF:Option M.Place->Nat
 |none=>0
 |some x=>x.2.1
def UX(pl:List M.Place)(q:Int):Value:=.complex .f64 (xU (aaF (M.fwd pl q))) (xU (aaF (M.bwd pl q)))
end
section
open Go.Shelf
attribute[local go_sem] Oper.semAt_some
theorem aly(P:Program)(w:World)(k:FloatKind)(b:Nat):(Op.unary .neg (.float k b)).run P w=.ok (.float k (Op.negFloat k b)) w:=rfl
attribute[local go_sem] aly
theorem apa{l:List UInt8}{x:M.Place}(h:x∈M.places l):x.1<l.length/\x.1+x.2.1<=l.length/\1<=x.2.1/\x.2.1<=4:=by
 rw[<-M.dG]at h;have:=M.dY l 0 x h;omega
end
section
section
variable {A:Nat->Addr} {B:Nat} {W0 w w':World}
end
def azf(s:ByteArray):ByteArray:=if 300<s.size then s.extract 0 300 else s
def uO(w:World)(g off ZU:Nat)(l:List UInt8):Prop:=g<w.heap.size/\(M.places l).length+1<=ZU/\ZU<=maxLen/\∀(k p:Nat),(M.cuts (M.places l))[k]?=some p->w.cell? ⟨g,off+k,none⟩=some (Z9 (p:Int))
theorem uO.below{w w':World}{g off ZU:Nat}{l:List UInt8}(h:uO w g off ZU l)(Z8:Z6 w w'):uO w' g off ZU l:=
 ⟨Vh h.1 Z8.size,h.2.1,h.2.2.1,λk p Z3=>(Z8.cell (p:=⟨g,off+k,none⟩) h.1).trans (h.2.2.2 k p Z3)⟩
theorem aqB{w:World}{v:Value}{l:List UInt8}(h:Y6 w v (HR l)):∃g off ZU,v=.slice (some ⟨g,off,none⟩) ((M.places l).length+1) ZU/\uO w g off ZU l:=by
 have hl:(HR l).length=(M.places l).length+1:=by simp[HR,M.aaa]
 obtain⟨g,off,ZU,Z7,Z5,ZS,ZG,Zi⟩:=h.get (by grind);rw[hl]at Z7 Z5;refine⟨g,off,ZU,Z7,ZG,Z5,ZS,λk p _=>Zi k p ?_⟩;grind[HR]
section
variable {A:Nat->Addr} {B:Nat} {W0 w:World}
end
theorem aqp(s:ByteArray)(m:Nat)(hm:Box ((M.places s.data.toList).length+1=m+1))(w:World)(Z0:s.size<=100000):
  Calls prog 118 #[.string s] w λe w'=>(∃g off ZU,e=.returned (.slice (some ⟨g,off,none⟩) (m+1) ZU)/\Box (uO w' g off ZU s.data.toList))/\Z6 w w':=by
 rw[<-hm.o];exact(ht s w Z0).mono λe w' ⟨⟨v,he,hi⟩,Z8⟩=>by
  obtain⟨g,off,ZU,rfl,ZL⟩:=aqB hi;exact⟨⟨g,off,ZU,he,⟨ZL⟩⟩,Z8⟩
theorem take_snoc{α:Type}{l:List α}{k:Nat}{x:α}(h:l[k]?=some x):l.take (k+1)=l.take k++[x]:=by
 rw[Uo,h];rfl
theorem uH(l:List UInt8):(M.fix l).length<=4*l.length:=by
 have Z7:=aec l (M.places l) (λ_ Z4=>(apa Z4).2.2.2);have Z5:=cJ l;grind[M.fix]
theorem aei(w:World)(n:Nat):Z6 w (w.drewN n):=below_drewN YU n
theorem apd{P:Program}{ops:Array Oper}{o:Oper}{a:Act}(w:World){K:Act->World->Prop}{Q:Exit->Act->World->Prop}{E:Prop}(Uz:o.guard=none)(pu x:Operand)(t u:TypeId)(YT:o.op=.call {callee:=.builtin .append,args:=#[pu,x],argTypes:=#[t,u]})(base:Nat)(e:TypeId)(i:TypeInfo)(ZM:P.underlying t=some (.slice e))(hu:P.underlying u=some .string)(hi:P.info? e=some i)(ZY:i.zero=some (.int .u8 0))(axm:i.size=1)(P6:i.bytes=1)(v:Value)(n:Nat)(xs:List Value)(Z0:a.eval pu=v)(Wo:w.ownsRow base e 1 v n xs)(s:ByteArray)(Z4:a.eval x=.string s)(awG:n+s.size<=maxLen)(awS:n+s.size<=140737488355328)(K8:base<=w.heap.size)(h:∀Zy w',w'.ownsRow base e 1 Zy (n+s.size) (xs++Lib.strCells s)->w.grownBy w' v.ownBlock->K (a.put o.dst Zy) w'):
  if Region.wanted o (yielded ops a.tmps)=true then Oper.wp P o a w K Q else E:=by
 have hw:Region.wanted o (yielded ops a.tmps)=true:=by simp[Region.wanted,Uz]
 rw[Y0 hw];obtain⟨Zy,w',ZT,Z5,ZS,ZG⟩:=Lib.run_append_own_string (P:=P) w base t u o.type e i ZM hu hi ZY axm P6 v n xs Wo s awG awS K8;unfold Oper.wp execOp;simp only[YT,resolve,invoke,builtin,Sem.run_bind,Sem.run_pure,Result.andThen_ok,List.map_toArray,RG,Pa,Z0,Z4,ZT];exact h Zy w' Z5 ZS
theorem avH{P:Program}{src dst e:TypeId}{W:World}{base n:Nat}{v:Value}{l:List UInt8}(Z0:P.underlying src=some (.slice e))(he:P.underlying e=some (.int .u8))(Zm:P.underlying dst=some .string)(h:W.ownsRow base e 1 v n (Lib.byteCells l)):(convert src dst v).run P W=.ok (.string ⟨l.toArray⟩) W:=by
 have ZP:l.length=n:=by have:=h.1;rw[Lib.byteCells_length,Nat.mul_one]at this;omega
 subst ZP
 rcases h.2 with⟨rfl,Z5⟩|⟨g,ZU,VY,rfl,-⟩
 ·obtain rfl:=L4 Z5;exact run_convert_bytes_nil W src e Z0 he 0 0 dst Zm
 refine run_convert_bytes_back W src dst e _ ZU l Z0 he Zm λj _=>?_
 exact h.cells (g:=g) rfl j (.int .u8 (l[j].toNat:Int)) (by grind[Lib.byteCells])
theorem arC(a b:List UInt8):Lib.byteCells (a++b)=Lib.byteCells a++Lib.byteCells b:=by simp[Lib.byteCells]
theorem ql{w:World}{base:Nat}{e:TypeId}{size:Nat}{v:Value}{n:Nat}{xs:List Value}(h:w.ownsRow base e size v n xs):∃a c,v=.slice a n c:=by
 rcases h.2 with⟨rfl,rfl⟩|⟨g,ZU,VY,rfl,_⟩
 ·simp
 simp
theorem avY{w w':World}{base:Nat}{e:TypeId}{v:Value}{n:Nat}{xs:List Value}(h:w.ownsRow base e 1 v n xs)(Z8:Z6 w w'):w'.ownsRow base e 1 v n xs:=
 (Turns.of_below Z8).row h (λ_ _ h=>h)
theorem Ju(s:ByteArray)(w:World)(Z0:s.size<=100000):
  Calls prog 58 #[.string s] w λe w'=>e=.returned (.string ⟨(M.fix s.data.toList).toArray⟩)/\Z6 w w':=by
 have Wy:=bx (size_eq s);obtain⟨m,hm⟩:∃m,(M.places s.data.toList).length=m:=⟨_,rfl⟩
 have agD:=cJ s.data.toList;rw[hm,<-Wy.o]at agD;have W3:=bx hm;have Me:=bx (aqp s m ⟨by rw[hm]⟩ w Z0);obtain⟨i0,hi,Vs,Up,Vf⟩:=info_parts si;clear hm
 go_in
 go_wp2_with fail;refine Me.o.mono ?_;rintro e ZV ⟨⟨g,off,ZU,rfl,Yq⟩,ZZ⟩;have ZW:=bx ZZ;have az6:m+1<=ZU:=by have:=Yq.o.2.1;have:=W3.o;omega
 have az7:ZU<=9223372036854775807:=by have:=Yq.o.2.2.1;grind[maxLen]
 clear ZZ;go_wp2_with fail
 go_loopw[3,5] (λo i wr=>∃k n:Nat,k<=m/\n<=4*k/\i=Z9 k/\Box (wr.ownsRow ZV.heap.size 5 1 o n (Lib.byteCells (M.repair s.data.toList ((M.places s.data.toList).take k))))/\Box (Z6 ZV wr)) (λ_ i _=>m-(intOf i).toNat)
 ·exact⟨0,0,by omega,by omega,rfl,⟨World.ownsRow_nil _ _ _ _⟩,⟨Below.refl _ _⟩⟩
 obtain⟨k,n,Z3,xF,rfl,YT,Z8⟩:=hrel
 by_cases Zu:k<m
 ·obtain⟨x,Z4,g1,g2,-,g3,g4,g5,g6,g7⟩:=M.alb (s:=s.data.toList) (i:=k) (by rw[W3.o];omega);have kx:=Yq.o.below Z8.o;have Zd:=kx.2.2.2 k x.1 g1;have Zx:=kx.2.2.2 (k+1) _ g2;have S6:=bx (show Lib.byteCells (M.repair s.data.toList ((M.places s.data.toList).take (k+1)))=Lib.byteCells (M.repair s.data.toList ((M.places s.data.toList).take k))++Lib.byteCells (M.mended s.data.toList x) by rw[take_snoc Z4,ae8,arC]);obtain⟨Xo,MP,J1⟩:=x;simp only at Zd Zx g5 g6 g7;have CX:Xo+MP<=s.size:=by simp_all
  obtain⟨X,TM⟩:∃X,s.extract Xo s.size=X:=⟨_,rfl⟩
  have Fy:=abK s Xo;rw[TM]at Fy;have ym:X.size<=16777216:=by rw[size_eq,Fy,Px,<-Wy.o];omega
  have ZN:=bx (show E4 X.data.toList=.tuple #[Z9 MP,.bool J1] by grind[E4]);have Xa:=aci (P:=prog) (T:=9) underlying9 s Xo ⟨by omega,by omega⟩;rw[RU,TM]at Xa;have JO:=bx (adw X wr ym);have vi:=bx (avY YT.o (aei wr 1));obtain⟨UC,Wr,rfl⟩:=ql YT.o;clear Z4 g1 g2 g3 g4 g6 g7 TM Fy ym kx
  cases J1 with
  |true=>
   have kB:(s.extract Xo (Xo+MP)).data.toList=(s.data.toList.drop Xo).take MP:=by simp
   have OU:=n3 (P:=prog) (T:=9) underlying9 s Xo ((Xo+MP:Nat):Int) ⟨by omega,by omega,by omega⟩;rw[RU,RU]at OU;obtain⟨Y,VX⟩:∃Y,s.extract Xo (Xo+MP)=Y:=⟨_,rfl⟩
   rw[VX]at OU kB;have az2:Y.size<=4:=by rw[size_eq,kB,SW];omega
   have Wn:=bx (show Lib.byteCells (M.mended s.data.toList (Xo,MP,true))=Lib.strCells Y by grind[M.mended,Lib.strCells,Lib.byteCells]);clear kB VX;generalize Xo+MP=z at Zx OU CX;have N5:IntKind.i64.wrap ((k:Int)+1)=(k:Int)+1:=IntWalk.i64_in _ (by omega);have RJ:0<=(k:Int)+1:=by omega
   have Nc:((k:Int)+1).toNat=k+1:=by omega
   have CZ:(k:Int)+1<(m:Int)+1:=by omega
   have zG:(k:Int)<(m:Int)+1:=by omega
   go_wp2_with fail;refine YW JO.o ?_;rw[ZN.o];go_wp2_with fail
   go_region_law (refine apd _ rfl _ _ 126 9 rfl ZV.heap.size 5 i0 underlying126 underlying9 hi Vs Up Vf _ _ _ rfl vi.o Y rfl ?c3 ?VG ?Wv ?_;(case c3=>grind[maxLen]);(case VG=>omega);(case Wv=>have:=Z8.o.size;simp;omega);intro Zy YL Tf UN;obtain⟨jD,jC,rfl⟩:=ql Tf)
   all_goals
    have WU:=bx (show YL.ownsRow ZV.heap.size 5 1 (.slice jD (n+Y.size) jC) (n+Y.size) (Lib.byteCells (M.repair s.data.toList ((M.places s.data.toList).take (k+1)))) by rw[S6.o,Wn.o];omega);have Ye:=bx (show Z6 ZV YL from(Z8.o.trans ((aei wr 1).mono Z8.o.size)).grown UN (by have:=Z8.o.size;simp;omega) (λq Zs=>(YT.o.lt q Zs).1));clear Tf UN N5 RJ Nc CZ zG
    go_wp2
    go_roundw
    ·exact⟨k+1,n+Y.size,Zu,by omega,by go_num,WU,Ye⟩
    grind[intOf]
  |false=>
   have Wn:=bx (show Lib.byteCells (M.mended s.data.toList (Xo,MP,false))=Lib.strCells ⟨#[239,191,189]⟩ by rfl);clear Zx;go_wp2_with fail;refine YW JO.o ?_;rw[ZN.o];go_wp2_with (at_builtin;refine Lib.wpList_append_own_string _ rfl _ _ 126 9 rfl ZV.heap.size 5 i0 underlying126 underlying9 hi Vs Up Vf _ _ _ rfl YT.o ⟨#[239,191,189]⟩ rfl ?c3 ?VG ?Wv ?_)
   case c3=>show n+3<=maxLen;grind[maxLen]
   case VG=>show n+3<=_;omega
   case Wv=>have:=Z8.o.size;omega
   intro Zy YL Tf UN _;obtain⟨jD,jC,rfl⟩:=ql Tf;have WU:=bx (show YL.ownsRow ZV.heap.size 5 1 (.slice jD (n+3) jC) (n+3) (Lib.byteCells (M.repair s.data.toList ((M.places s.data.toList).take (k+1)))) by rw[S6.o,Wn.o];exact Tf);have Ye:=bx (show Z6 ZV YL from Z8.o.grown UN (by have:=Z8.o.size;omega) (λq Zs=>(YT.o.lt q Zs).1));clear Tf UN
   go_wp2
   go_roundw
   ·exact⟨k+1,n+3,Zu,by omega,by go_num,WU,Ye⟩
   grind[intOf]
 obtain rfl:k=m:=by omega
 have V7:=YT.o;rw[SU (by rw[W3.o];omega)]at V7;have Kf:=avH (P:=prog) (src:=126) (dst:=9) underlying126 underlying5 underlying9 V7;obtain⟨F,hF⟩:∃F,M.repair s.data.toList (M.places s.data.toList)=F:=⟨_,rfl⟩
 rw[hF]at Kf;have Yt:=bx (show M.fix s.data.toList=F from hF);obtain⟨UC,Wr,rfl⟩:=ql YT.o;clear V7 hF
 go_wp2
 go_ret
 exact⟨by rw[Yt.o];rfl,bt ZW.o Z8.o⟩
theorem aa9(r:Int)(_:U.right r=true):Ei r=.tuple #[.string ⟨(U.enc r).toArray⟩,Z9 0]:=by grind[Ei]
theorem amX{l:List UInt8}(h:U.dec l=none):Of l=.tuple #[Z9 0,Z9 0,.bool false]:=by unfold Of;rw[h];rfl
theorem ar6{l:List UInt8}{r:Int}{n:Nat}(h:U.dec l=some (r,n)):Of l=.tuple #[Z9 r,Z9 n,.bool true]:=by unfold Of;rw[h];rfl
theorem nN(l:List UInt8):(⟨l.toArray⟩:ByteArray).size=l.length:=by rfl
theorem yw(s:ByteArray)(w:World)(Z0:s.size<=16777216):
  Calls prog 71 #[.string s] w (qU s w):=by
 obtain⟨i0,hi,Vs,Up,Vf⟩:=info_parts lP;have Xe:=bx Z0
 go_in
 go_wp2
 go_loopw[0,4] (λa v wr=>∃(ZC:List Int)(rest:ByteArray),rest.size<=s.size/\ZC.length+rest.size<=s.size/\a=.string rest/\Box (U.textOf ZC++rest.data.toList=s.data.toList/\∀r∈ZC,U.right r=true)/\Box (wr.ownsRow w.heap.size 3 1 v ZC.length (ZC.map (Value.int .i64)))/\Box (Z6 w wr))
  (λa _ _=>match a with|.string r=>r.size|_=>0)
 ·exact⟨[],s,Wq _,by simp,rfl,⟨⟨rfl,λr ZT=>by cases ZT⟩⟩,⟨World.ownsRow_nil _ _ _ _⟩,⟨Below.refl _ _⟩⟩
 obtain⟨ZC,rest,jW,TK,rfl,hp,YT,Z8⟩:=hrel
 cases hl:rest.data.toList with
 |nil=>
  have ZY:=isEmpty_nil hl;have YD:=bx (show U.scalars s.data.toList=some ZC from(U.bI _ _).2 ⟨by rw[<-hp.o.1,hl,L3],hp.o.2⟩);clear hl TK jW
  go_wp2
  go_ret2
  refine⟨Z8.o,?_⟩;rw[YD.o];exact⟨_,rfl,YT.o⟩
 |cons c t=>
  have ZY:=isEmpty_cons hl;have Xq:rest.data.toList≠[]:=by grind
  cases Zm:U.dec rest.data.toList with
  |none=>
   have ZN:=bx (amX Zm);have YD:=bx (show U.scalars s.data.toList=none by
    cases Z4:U.scalars s.data.toList with
    |none=>rfl
    |some l=>
     obtain⟨Z7,Z5⟩:=(U.bI _ _).1 Z4;have ZS:U.scalars (U.textOf ZC++rest.data.toList)=some l:=by rw[hp.o.1];exact Z4
     rw[U.eT ZC hp.o.2,U.fu Xq Zm]at ZS
     cases ZS)
   have ZK:=bx (show rest.size<=maxLen by grind[maxLen]);clear hl Xq Zm TK jW;go_wp2_with fail;refine YW (m1 rest _ ZK.o) ?_;rw[ZN.o]
   go_wp2
   go_ret2
   refine⟨Z8.o,?_⟩;rw[YD.o]
   rfl
  |some q=>
   obtain⟨r,n⟩:=q;obtain⟨ZT,he,Z7,ZG,Ty⟩:=U.cX Zm;have ZN:=bx (ar6 Zm);rw[<-size_eq]at Ty;have WI:=bx (show U.textOf (ZC++[r])++(rest.extract n rest.size).data.toList=s.data.toList/\∀x∈ZC++[r],U.right x=true by
    constructor
    ·rw[U.ds,M8,<-hp.o.1];refine congrArg (U.textOf ZC++·) ?_;rw[Lib.extract_data,SU (by simp)];show U.enc r++[]++_=_
     simp_all
    intro x Z4
    rcases Nb.1 Z4 with Z4|Z4
    ·exact hp.o.2 x Z4
    grind)
   have ZK:=bx (show rest.size<=maxLen by grind[maxLen]);have ZE:=bx (show(rest.extract n rest.size).size=rest.size-n by simp);have zM:ZC.length<=16777216:=by omega
   have V3:=bx (Z8.o.size);clear hl Xq Zm he ZT;go_wp2_with fail;refine YW (m1 rest _ ZK.o) ?_;rw[ZN.o];go_wp2_with (at_builtin;refine wpList_append_own _ rfl _ _ 22 rfl w.heap.size 3 i0 (Z9 0) 1 8 underlying22 hi Vs Up Vf rfl (by decide) _ _ _ rfl (YT.o.alloc _) ⟨wr.heap.size,0,none⟩ 1 1 [Z9 r] rfl rfl (cell_one_new _ _ _) (by simp[Value.oneCell']) (by grind[maxLen]) (by omega) (by have:=V3.o;simp;omega) ?_;intro Zy ZV Tf UN _;obtain⟨Ui,cap',rfl⟩:=ownsRow_succ Tf)
   have X9:=bx Tf;have Wh:=bx (show Z6 w ZV from(Z8.o.alloc V3.o _).grown UN (by have:=V3.o;simp;omega) (λk Z3=>(YT.o.lt k Z3).1));clear Tf UN
   go_roundw
   ·
    refine⟨ZC++[r],rest.extract n rest.size,by rw[ZE.o];omega,by rw[ZE.o,WR];grind,rfl,WI,⟨?_⟩,Wh⟩;have:=X9.o
    grind
   have:=ZE.o;grind
def AA(xs:List Int):Value:=if xs.all U.right=true then .tuple #[.string ⟨(U.textOf xs).toArray⟩,Z9 0]else .tuple #[.string ⟨#[]⟩,Z9 10]
theorem abj(xs:List Int):(U.textOf xs).length<=4*xs.length:=by
 induction xs with
 |nil=>simp[U.textOf]
 |cons x t XZ=>
  have:=U.c6 x;simp only[U.textOf,I3,WR,U3]at XZ⊢;omega
theorem gF(xs:List Int)(k:Nat)(x:Int)(h:xs[k]?=some x):U.textOf (xs.take (k+1))=U.textOf (xs.take k)++U.enc x:=by
 rw[Uo,h,U.ds];simp[U.textOf]
theorem acH(xs:List Int)(k:Nat)(x:Int)(h:xs[k]?=some x)(YZ:(xs.take k).all U.right=true)(Z4:U.right x=true):(xs.take (k+1)).all U.right=true:=by
 rw[Uo,h,List.all_append,YZ];simp[Z4]
theorem h5(xs:List Int)(k:Nat)(x:Int)(_:xs[k]?=some x)(_:U.right x=false):AA xs=.tuple #[.string ⟨#[]⟩,Z9 10]:=by
 grind[AA]
theorem l3(xs:List Int)(_:xs.all U.right=true):AA xs=.tuple #[.string ⟨(U.textOf xs).toArray⟩,Z9 0]:=by grind[AA]
theorem adI{w w':World}{B b:Nat}{bs:List Value}(h:Lib.IsBuilder 128 5 B b bs w)(Z8:Z6 w w'):Lib.IsBuilder 128 5 B b bs w':=by
 have key:∀p,Lib.BuilderAt 128 5 B b p bs w->Lib.BuilderAt 128 5 B b p bs w':=by
  rintro p hp;have Zu:=hp.lt;obtain⟨hB,v,Z3,YT,Xq⟩:=hp;refine⟨hB,v,(Z8.block b Zu).trans Z3,?_,Xq⟩;have Hs:=YT.lt;refine⟨YT.1,?_⟩
  rcases YT.2 with Z5|⟨g,ZU,VY,Z5,ZS,ZG,Zi⟩
  ·grind
  exact .inr ⟨g,ZU,VY,Z5,ZS,(Z8.block g (Hs g (by rw[Z5];rfl)).2).trans ZG,Zi⟩
 rcases h with h|h
 ·exact .inl (key _ h)
 exact .inr (key _ h)
theorem adW(A:Nat->Addr)(B:Nat)(v:Value)(xs:List Int)(w:World)(Z2:Y6 w v xs)(_:xs.length<=1000)(YN:E A B w)(hB:B<=w.heap.size):
  Calls prog 169 #[v] w λe w'=>e=.returned (AA xs)/\Z6 w w':=by
 have Qv:=bx Z2;obtain⟨XH,ZU,rfl⟩:=Z2.slice;clear Z2;have Xn:=bx YN;clear YN
 go_in
 go_wp2
 have ND:Z6 w (w.alloc (.cells #[.pointer none,Z1] 128)):=YU.alloc Ys _;have hF:=Lib.fresh_isBuilder 128 5 w
 go_loopw[11] (λi wr=>∃k:Nat,k<=xs.length/\i=Z9 k/\Box ((xs.take k).all U.right=true)/\Box (Lib.IsBuilder 128 5 w.heap.size w.heap.size (Lib.byteCells (U.textOf (xs.take k))) wr)/\Box (Z6 w wr))
  (λi _=>xs.length-(intOf i).toNat)
 ·exact⟨0,by omega,rfl,⟨rfl⟩,⟨hF⟩,⟨ND⟩⟩
 obtain⟨k,Z3,rfl,YZ,tT,Z8⟩:=hrel;clear ND hF
 by_cases Zu:k<xs.length
 ·obtain⟨x,Z4⟩:=Yg xs k Zu;have YD:=bx Z4;have CJ:=bx (Xn.o.below (Z8.o.mono hB));obtain⟨g,off,XV,Y5,XL,Yi,XB,YX⟩:=(Qv.o.below Z8.o).get (by grind);obtain⟨rfl,rfl⟩:=XN Y5;have ZL:=YX k x Z4;unfold maxLen at Yi;clear Z4 Y5 YX
  cases ZT:U.right x with
  |true=>
   have ZN:=bx (aa9 x ZT);have WO:=bx (acH xs k x YD.o YZ.o ZT);clear ZT;go_wp2_with fail;refine(ou A B x _ CJ.o).mono ?_;rintro e ZV ⟨rfl,ZZ⟩;rw[ZN.o];have ZW:=bx ZZ;have ais:=bx (adI tT.o ZZ);have V0:=bx (XJ Z8.o.size ZZ.size);have QQ:=bx (show(U.textOf (xs.take k)).length+(⟨(U.enc x).toArray⟩:ByteArray).size<=16777216 by
    have Z7:=abj (xs.take k);have Z5:=(U.c6 x).2;rw[SW]at Z7;rw[nN];omega)
   clear ZZ;go_wp2_with fail;refine(hL w.heap.size w.heap.size _ _ _ ais.o QQ.o V0.o).mono ?_;rintro e ZB ⟨rfl,QZ,Zz⟩;have Oy:=bx (show Lib.IsBuilder 128 5 w.heap.size w.heap.size (Lib.byteCells (U.textOf (xs.take (k+1)))) ZB by rw[gF xs k x YD.o];omega);have ao3:=bx (show Z6 w ZB from(bt Z8.o ZW.o).trans Zz);clear QZ Zz
   go_wp2
   go_roundw
   ·exact⟨k+1,Zu,by go_num,WO,Oy,ao3⟩
   grind[intOf]
  |false=>
   have ZN:=bx (rf ZT);have Y8:=bx (h5 xs k x YD.o ZT);clear ZT;go_wp2_with fail;refine(ou A B x _ CJ.o).mono ?_;rintro e ZV ⟨rfl,ZZ⟩;rw[ZN.o]
   go_wp2
   go_ret2
   exact⟨by rw[Y8.o];rfl,bt Z8.o ZZ⟩
 have Y8:=bx (show xs.all U.right=true by have:=YZ.o;grind);have YE:=bx (show Lib.IsBuilder 128 5 w.heap.size w.heap.size (Lib.byteCells (U.textOf xs)) wr by have:=tT.o;grind);go_wp2_with fail;refine Y3 (lM w.heap.size w.heap.size _ _ YE.o Z8.o.size) λZV ZZ=>?_
 go_wp2
 go_ret2
 exact⟨by rw[l3 xs Y8.o];rfl,Z8.o.trans ZZ⟩
end
section
open Go.Shelf Go.Proofs
def aal:Go.Shelf.Ren:=⟨fun|156=>70|165=>133|166=>84|169=>85|240=>154|241=>225|276=>236|277=>284|n=>n,fun|31=>49|9=>9|3=>3|4=>4|0=>0|20=>20|72=>128|76=>139|70=>125|37=>126|75=>87|127=>214|164=>273|5=>5|80=>141|n=>n,fun|n=>n⟩
theorem ae2:Go.Proofs.Lays.n156 prog aal:={
 mixed:=by rfl
 f156:=func70.trans (congrArg some (by rfl))
 f165:=func133.trans (congrArg some (by rfl))
 f166:=func84.trans (congrArg some (by rfl))
 f169:=func85.trans (congrArg some (by rfl))
 f240:=func154.trans (congrArg some (by rfl))
 f241:=func225.trans (congrArg some (by rfl))
 f276:=func236.trans (congrArg some (by rfl))
 f277:=func284.trans (congrArg some (by rfl))
 t0:=underlying0
 a0:=isAgg0
 z0:=sizeOf0
 v0:=zeroValue0
 t3:=underlying3
 a3:=isAgg3
 z3:=sizeOf3
 v3:=zeroValue3
 t4:=underlying4
 a4:=isAgg4
 z4:=sizeOf4
 v4:=zeroValue4
 t9:=underlying9
 a9:=isAgg9
 z9:=sizeOf9
 v9:=zeroValue9
 t20:=underlying20
 a20:=isAgg20
 z20:=sizeOf20
 v20:=zeroValue20
 t31:=underlying49
 a31:=isAgg49
 z31:=sizeOf49
 v31:=zeroValue49
 t37:=underlying126
 a37:=isAgg126
 z37:=sizeOf126
 v37:=zeroValue126
 t70:=underlying125
 a70:=isAgg125
 z70:=sizeOf125
 v70:=zeroValue125
 t72:=underlying128
 a72:=isAgg128
 z72:=sizeOf128
 v72:=zeroValue128
 t75:=underlying87
 a75:=isAgg87
 z75:=sizeOf87
 v75:=zeroValue87
 t76:=underlying139
 a76:=isAgg139
 z76:=sizeOf139
 v76:=zeroValue139
 t127:=underlying214
 a127:=isAgg214
 z127:=sizeOf214
 v127:=zeroValue214
 t164:=underlying273
 a164:=isAgg273
 z164:=sizeOf273
 v164:=zeroValue273}
theorem aad:Builder.Extra prog aal:={
 sizeBuilder:=by rfl
 liesBuilder:=by rfl
 t5:=underlying5
 a5:=isAgg5
 z5:=sizeOf5
 v5:=zeroValue5
 infoByte:=by rfl
 cellsByte:=by rfl
 sizeByte:=by rfl
 neB5:=by decide}
theorem aoN(a:Option Addr)(c:Nat)(sep:ByteArray)(w:World):
  Calls prog 70 #[.slice a 0 c,.string sep] w λe w'=>e=.returned (.string ⟨#[]⟩)/\w'=w:=Any.strings_Join_none ae2 aad a c sep w
theorem ak0(qi o c:Nat)(xs:List ByteArray)(sep:ByteArray)(w:World)(Kh:∀(j:Nat) x,xs[j]?=some x->w.cell? ⟨qi,o+j,none⟩=some (.string x))(XY:qi<w.heap.size)(Zp:xs.length<=140737488355328)(Dd:xs.length<=c)(Ty:(Lib.join (xs.map (·.data.toList)) sep.data.toList).length<=140737488355328):
  Calls prog 70 #[.slice (some ⟨qi,o,none⟩) xs.length c,.string sep] w λe w'=>e=.returned (.string ⟨(Lib.join (xs.map (·.data.toList)) sep.data.toList).toArray⟩)/\Z6 w w':=Any.strings_Join ae2 aad qi o c xs sep w Kh XY Zp Dd Ty
end
theorem afs(cs:List (List UInt8)):(cs.map bs).map (·.data.toList)=cs:=by
 rw[IZ];exact(List.map_congr_left (λx _=>Ky x)).trans (List.map_id _)
theorem afe(cs:List (List UInt8)):Lib.join cs []=cs.flatten:=by
 cases cs with
 |nil=>rfl
 |cons x r=>
  simp[Lib.joinTail,Lib.join_cons]
theorem abN(v:Value)(cs:List (List UInt8))(sep:List UInt8)(w:World)(Z2:XC w v cs)(_:(Lib.join cs sep).length<=140737488355328)(_:cs.length<=140737488355328):
  Calls prog 70 #[v,.string (bs sep)] w λe w'=>e=.returned (.string (bs (Lib.join cs sep)))/\Z6 w w':=by
 by_cases ZI:cs=[]
 ·subst ZI;obtain⟨a,ZU,rfl,-⟩:=Z2.slice;refine(aoN a ZU (bs sep) w).mono ?_;rintro e w' ⟨rfl,rfl⟩;exact⟨rfl,Below.refl _ _⟩
 obtain⟨b,off,ZU,rfl,Z7,Z5,ZS,ZG⟩:=Z2.get ZI;have h:=ak0 b off ZU (cs.map bs) (bs sep) w (λ_ _ _=>by
  grind) ZS (by grind) (by grind) (by grind[afs,Ky])
 rw[afs,Ky,X4]at h;exact h
theorem Cu(v:Value)(cs:List (List UInt8))(w:World)(Z2:XC w v cs)(_:cs.flatten.length<=140737488355328)(ZP:cs.length<=140737488355328):
  Calls prog 70 #[v,.string (bs [])] w λe w'=>e=.returned (.string (bs cs.flatten))/\Z6 w w':=by
 have h:=abN v cs [] w Z2 (by grind[afe]) ZP;rw[afe]at h;exact h
