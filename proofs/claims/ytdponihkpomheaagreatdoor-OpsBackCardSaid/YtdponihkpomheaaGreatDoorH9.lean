/- Texts of this claim. -/
import Derived.Lib.AppendStr
import Derived.Shelf.Strings.Builder1
import Derived.Lib.BufferRead
import Derived.Shelf.Strings.OnBuilder
import Derived.Ground.Names2Prog
import Derived.Test.YtdponihkpomheaaGreatDoorH8

set_option maxRecDepth 100000
set_option maxHeartbeats 4000000
namespace Go.Proofs.YtdponihkpomheaaGreatDoor
open Go.RowKit
open Tryz
section
open Go.Shelf
def abB:Go.Shelf.Ren:=⟨fun | 169=>85 | n=>n,fun | 70=>125 | 9=>9 | 0=>0 | 72=>128 | 37=>126 | 127=>214 | 3=>3 | 5=>5 | n=>n,fun | n=>n⟩
theorem lays169:Go.Proofs.Lays.n169 prog abB:={
 mixed:=by kernel_rfl
 f169:=func85.trans (congrArg some (by kernel_rfl))
 t0:=underlying0
 a0:=isAgg0
 z0:=sizeOf0
 v0:=zeroValue0
 t3:=underlying3
 a3:=isAgg3
 z3:=sizeOf3
 v3:=zeroValue3
 t9:=underlying9
 a9:=isAgg9
 z9:=sizeOf9
 v9:=zeroValue9
 t37:=underlying126
 a37:=isAgg126
 z37:=sizeOf126
 v37:=zeroValue126
 t70:=underlying125
 a70:=isAgg125
 z70:=sizeOf125
 v70:=zeroValue125
 t72:=underlying128
 a72:=isAgg128
 z72:=sizeOf128
 v72:=zeroValue128
 t127:=underlying214
 a127:=isAgg214
 z127:=sizeOf214
 v127:=zeroValue214 }
theorem Ti:Builder.Extra prog abB:={
 sizeBuilder:=by kernel_rfl
 liesBuilder:=by kernel_rfl
 t5:=underlying5
 a5:=isAgg5
 z5:=sizeOf5
 v5:=zeroValue5
 infoByte:=by kernel_rfl
 cellsByte:=by kernel_rfl
 sizeByte:=by kernel_rfl
 neB5:=by decide }
theorem VY (B b:Nat) (l:List UInt8) (w:World) (h:Lib.IsBuilder 128 5 B b (Lib.byteCells l) w) (hB:B<=w.heap.size) :
  Calls prog 85 #[aA b] w λe w'=>e = .returned (.string ⟨l.toArray⟩)/\Below B w w' :=
 Any.Builder_String_any lays169 Ti B b l w h hB
theorem bInfo:(prog.info? 128).map (·.size)=some 2:=by kernel_rfl
theorem aqv:liesAt prog prog.depth 128 (2 / prog.cellsOf 128) 0 128 1=true:=by kernel_rfl
theorem aeg:(prog.info? 5).map (λi=>(i.zero,i.size,i.bytes))=some (some (.int .u8 0),1,1):=by kernel_rfl
theorem agI (b:Nat) (w:World) (h0:w.cell? ⟨b,0,none⟩=some (aA b)) :
  Calls prog 154 #[aA b] w λe w'=>e = .returned (.tuple #[])/\w=w':=by
 obtain⟨j,hj,_⟩:=rC.1 bInfo
 go_in
 go_wp2
 rw [Lib.run_neq_ptr_same w _ underlying125 hj]
 go_wp2
 go_end0
 exact⟨rfl,rfl⟩
theorem agC (b:Nat) (w:World) (h0:w.cell? ⟨b,0,none⟩=some (.pointer none)) (hs:w.shape? b=some (128,2)) (hf:w.frozen? ⟨b,0,none⟩=false) :
  Calls prog 154 #[aA b] w λe w'=>e = .returned (.tuple #[])/\w.setCell ⟨b,0,none⟩ (aA b)=w':=by
 obtain⟨j,hj,hjs⟩:=rC.1 bInfo
 go_in
 go_wp2
 rw [Lib.run_to_unsafe w ⟨b,0,none⟩ underlying125 underlying273 hj (by rw [hjs];decide) hs (Nat.zero_lt_succ 1)];simp only [Result.andThen];rw [Oper.upon_value]
 go_wp2
 rw [run_callFunc_extern func236 (by kernel_rfl) (by kernel_rfl) (by kernel_rfl) (e:=Extern.AbiNoEscape.same) (by kernel_rfl)];rw [Lib.run_noEscape];simp only [Result.andThen];rw [Oper.upon_value]
 go_wp2
 rw [Lib.run_from_unsafe w ⟨b,0,none⟩ underlying273 underlying125 hj hs aqv];simp only [Result.andThen];rw [Oper.upon_value]
 go_wp2
 go_end0
 exact⟨rfl,rfl⟩
theorem amR (B b:Nat) (bs:List Value) (w:World) (h:Lib.IsBuilder 128 5 B b bs w) :
  Calls prog 154 #[aA b] w λe w'=>e = .returned (.tuple #[])/\Lib.BuilderAt 128 5 B b (aA b) bs w'/\Below B w w':=by
 rcases h with h | h
 ·refine(agC b w h.cell0 h.shape h.frozen0).mono ?_;rintro e w' ⟨rfl,rfl⟩;exact⟨rfl,h.used _,(Below.refl B w).setCell (p:=⟨b,0,none⟩) h.1 _⟩
 refine(agI b w h.cell0).mono ?_;rintro e w' ⟨rfl,rfl⟩;exact⟨rfl,h,Below.refl B w⟩
theorem abP (B b:Nat) (l:List UInt8) (s:ByteArray) (w:World) (h:Lib.IsBuilder 128 5 B b (Lib.byteCells l) w) (hz:l.length+s.size<=16777216) (hB:B<=w.heap.size) :
  Calls prog 84 #[aA b, .string s] w λe w'=>e = .returned (.tuple #[ah s.size, .nilIface])/\Lib.IsBuilder 128 5 B b (Lib.byteCells (l++s.data.toList)) w'/\Below B w w':=by
 obtain⟨i0,hi,hz0,hz1,hz2⟩:=info_parts aeg;have hlen:(Lib.byteCells l).length=l.length:=by simp [Lib.byteCells]
 go_in
 go_wp2_with (go_at_call 154;refine(amR B b _ _ h).mono ?_)
 rintro e w1 ⟨rfl,h1,hb1⟩;obtain⟨hB',v,hbk,hown,hne⟩:=h1;have c0:w1.cell? ⟨b,0,none⟩=some (aA b):=by rw [Lib.cell_of_heap hbk];rfl
 have c1:w1.cell? ⟨b,1,none⟩=some v:=by rw [Lib.cell_of_heap hbk];rfl
 go_wp2_with (at_builtin;refine Lib.wpList_append_own_string _ rfl _ _ 126 9 rfl B 5 i0 underlying126 underlying9 hi hz0 hz1 hz2 _ _ _ rfl hown s rfl ?c3 ?c4 ?c5 ?_)
 case c3=>unfold maxLen;omega
 case c4=>omega
 case c5=>have:=hb1.size;omega
 intro v' w2 hown' hgrow _;have hlt:b<w1.heap.size:=by
  rcases gZ b w1.heap.size with h' | h'
  ·exact h'
  simp [Array.getElem?_eq_none h'] at hbk
 have hb2:w2.heap[b]?=some (.cells #[aA b,v] 128 (0,0)):=by
  rw [hgrow.block b hlt (λe=>hne e.symm)];exact hbk
 have d1:w2.cell? ⟨b,1,none⟩=some v:=by rw [Lib.cell_of_heap hb2];rfl
 have f1:w2.frozen? ⟨b,1,none⟩=false:=Lib.frozen_of_heap hb2 1;obtain⟨ao,n',cap,rfl⟩:∃ ao n' cap,v' = .slice ao n' cap:=by
  rcases hown'.2 with⟨hv,_⟩ | ⟨g,cap,cur,hv,_⟩
  ·exact⟨_,_,_,hv⟩
  exact⟨_,_,_,hv⟩
 go_wp2
 go_ret2
 refine⟨rfl, .inr ?_,?_⟩
 ·have:=Lib.BuilderAt.put (T:=128) (e:=5) hB' hb2 (bs':=Lib.byteCells l++Lib.strCells s) (by rw [bC,Lib.strCells_length,hlen];exact hown') (by decide);rw [show Lib.byteCells (l++s.data.toList)=Lib.byteCells l++Lib.strCells s by simp [Lib.byteCells,Lib.strCells]];exact this
 exact(hb1.grown hgrow (by have:=hb1.size;omega) (λk hk=>(hown.lt k hk).1)).setCell (p:=⟨b,1,none⟩) hB' _
end
structure Aa (Bar b:Nat) (v:Value) (l:List UInt8) (w:World):Prop where
 blk:aC w b 128 #[.pointer none,v]\/aC w b 128 #[aA b,v]
 own:w.ownsRow Bar 5 1 v l.length (Lib.byteCells l)
 ne:v.ownBlock≠some b
theorem Aa.turns {Bar b:Nat} {v:Value} {l:List UInt8} {w w':World} {own:Nat->Prop} (h:Aa Bar b v l w) (ht:Turns own w w') (hb:¬ own b) (ho:∀ k,v.ownBlock=some k->¬ own k):Aa Bar b v l w' :=
 ⟨h.blk.imp (λk=>ht.blk k hb) (λk=>ht.blk k hb),ht.row h.own ho,h.ne⟩
theorem Aa.lt {Bar b:Nat} {v:Value} {l:List UInt8} {w:World} (h:Aa Bar b v l w):b<w.heap.size:=by
 rcases h.blk with k | k <;> exact k.lt
theorem Turns.av5 {A B:World} {b:Nat} {row:Option Nat} (h:A.grownBy B row):Turns (λk=>k=b\/row=some k) A B :=
 ⟨h.os,h.tape,h.output,h.size,λi hi ho=>h.block i hi (λe=>ho (.inr e.symm))⟩
theorem aiB (Bar b:Nat) (v:Value) (l:List UInt8) (s:ByteArray) (w:World) (h:Aa Bar b v l w) (hz:l.length+s.size<=16777216) (hbB:b<Bar) (hB:Bar<=w.heap.size) :
  Calls prog 84 #[aA b, .string s] w λe w'=>e = .returned (.tuple #[ah s.size, .nilIface])/\(∃ v',Aa Bar b v' (l++s.data.toList) w')/\Turns (λk=>k=b\/v.ownBlock=some k) w w':=by
 obtain⟨i0,hi,hz0,hz1,hz2⟩:=info_parts aeg;have hlen:(Lib.byteCells l).length=l.length:=by simp [Lib.byteCells]
 have hlt:=h.lt;have hcopy:Calls prog 154 #[aA b] w λe w'=>e = .returned (.tuple #[])/\aC w' b 128 #[aA b,v]/\Turns (λk=>k=b) w w':=by
  rcases h.blk with k | k
  ·refine(agC b w ((k.cell 0).trans rfl) (by unfold aC at k;simp [World.shape?,k]) (k.frozen 0)).mono ?_;rintro e w' ⟨rfl,rfl⟩;exact⟨rfl,k.bJ 0 _,Turns.setCell (own:=λk=>k=b) w (p:=⟨b,0,none⟩) rfl _⟩
  refine(agI b w ((k.cell 0).trans rfl)).mono ?_;rintro e w' ⟨rfl,rfl⟩;exact⟨rfl,k,Turns.refl _ _⟩
 have hown0:=h.own;have hne:=h.ne;clear h
 go_in
 go_wp2_with (go_at_call 154;refine hcopy.mono ?_)
 rintro e w1 ⟨rfl,hbk,ht1⟩;have hown:=ht1.row hown0 (λk hk e=>by subst e;exact hne hk);have c0:w1.cell? ⟨b,0,none⟩=some (aA b):=(hbk.cell 0).trans rfl;have c1:w1.cell? ⟨b,1,none⟩=some v:=(hbk.cell 1).trans rfl;have hs1:=ht1.size;clear hown0 hcopy;go_wp2_with (at_builtin;refine Lib.wpList_append_own_string _ rfl _ _ 126 9 rfl Bar 5 i0 underlying126 underlying9 hi hz0 hz1 hz2 _ _ _ rfl hown s rfl ?c3 ?c4 ?c5 ?_)
 case c3=>unfold maxLen;omega
 case c4=>omega
 case c5=>omega
 intro v' w2 hown' hgrow hnil;have hb2:=hbk.grown hgrow (λe=>hne e.symm);have d1:w2.cell? ⟨b,1,none⟩=some v:=(hb2.cell 1).trans rfl;have f1:=hb2.frozen 1;have hlt':=hown'.lt;obtain⟨ao,n',cap,rfl⟩:∃ ao n' cap,v' = .slice ao n' cap:=by
  rcases hown'.2 with⟨hv,_⟩ | ⟨g,cap,cur,hv,_⟩
  ·exact⟨_,_,_,hv⟩
  exact⟨_,_,_,hv⟩
 have hfin:=hb2.bJ 1 (.slice ao n' cap);have Zq:=bx hfin;have HB2:=bx hb2;clear hfin hb2 c0 c1
 go_wp2
 go_ret2
 have GX:Turns (λk=>k=b) w2 (w2.setCell ⟨b,1,none⟩ (.slice ao n' cap)):=Turns.setCell (own:=λk=>k=b) w2 (p:=⟨b,1,none⟩) rfl _;refine⟨rfl,⟨.slice ao n' cap, .inr Zq.o,?_,λe=>by have:=(hlt' b e).1;omega⟩,?_⟩
 ·have:=GX.row hown' (λk hk e=>by subst e;have:=(hlt' _ hk).1;omega);rw [bC,<- size_eq,show Lib.byteCells (l++s.data.toList)=Lib.byteCells l++Lib.strCells s by simp [Lib.byteCells,Lib.strCells]];exact this
 exact((ht1.mono λk hk=>.inl hk).trans (Turns.av5 hgrow)).trans (GX.mono λk hk=>.inl hk)
theorem ap0 (w:World) (g n:Nat):Turns (λk=>k=g) w (w.freeze ⟨g,0,none⟩ n):=by
 have hb:=Lib.below_freeze (B:=0) (Below.refl 0 w) (p:=⟨g,0,none⟩) (nK _) n;refine⟨hb.os,hb.tape,hb.output,hb.size,λk hk ho=>?_⟩
 rcases gZ k g with h | h
 ·exact(Lib.below_freeze (B:=g) (Below.refl g w) (p:=⟨g,0,none⟩) aU n).block k h
 have hgk:g≠k:=λe=>ho e.symm
 unfold World.freeze
 split
 ·rfl
 simp only [Array.getElem?_modify];rw [aF hgk]
theorem anY (Bar b:Nat) (v:Value) (l:List UInt8) (w:World) (h:Aa Bar b v l w) :
  Calls prog 85 #[aA b] w λe w'=>e = .returned (.string ⟨l.toArray⟩)/\Turns (λk=>v.ownBlock=some k) w w':=by
 obtain⟨p,hbk⟩:∃ p,aC w b 128 #[p,v]:=by rcases h.blk with k | k <;> exact⟨_,k⟩
 have hown:=h.own
 by_cases h0:l=[]
 ·subst h0;have key:Calls prog 85 #[aA b] w λe w'=>e = .returned (.string ⟨#[]⟩)/\ak w w':=by
   rcases hown.2 with⟨rfl,_⟩ | ⟨g,cap,cur,rfl,hbg,hg,_⟩
   ·exact Any.Builder_String_nil lays169 Ti w.heap.size b p w hbk
   by_cases hc0:cap=0
   ·subst hc0;exact Any.Builder_String_noroom lays169 Ti w.heap.size b g p cur w aU hbk hg
   exact Any.Builder_String_room lays169 Ti w.heap.size b g cap p w hc0 hbk
  exact key.mono λe w' ⟨he,hb⟩=>⟨he,Turns.of_below hb⟩
 have hl0:l.length≠0:=by simpa using h0
 obtain⟨g,cap,cur,rfl,hbg,hg,hnc,hcm,hcs,htake⟩:∃ g cap cur,v = .slice (some ⟨g,0,none⟩) l.length cap/\Bar<=g/\w.heap[g]?=some (.cells cur 5 (0,0))/\l.length<=cap/\cap<=maxLen/\cur.size=cap*1/\cur.toList.take (l.length*1)=Lib.byteCells l:=by
  rcases hown.2 with⟨_,hz⟩ | ⟨g,cap,cur,hv,r⟩
  ·exact absurd hz hl0
  exact⟨g,cap,cur,hv,r⟩
 have c1:w.cell? ⟨b,1,none⟩=some (.slice (some ⟨g,0,none⟩) l.length cap):=(hbk.cell 1).trans rfl;have hSD:(Builtin.unsafeSliceData_ #[126] 214 #[.slice (some ⟨g,0,none⟩) l.length cap]).run prog w.drew = .ok (aA g) w.drew :=
  Lib.run_unsafeSliceData_row _ _ _ _ _ _ (by omega)
 have hUS:(Builtin.unsafeString_ #[214,3] 9 #[aA g, ah l.length]).run prog w.drew = .ok (.string ⟨l.toArray⟩) (w.drew.freeze ⟨g,0,none⟩ l.length):=by
  refine Lib.run_unsafeString_row w.drew 214 3 9 5 underlying214 (by kernel_rfl) g cur.size (by have hg':w.drew.heap[g]?=some (.cells cur 5 (0,0)):=hg;simp [World.shape?,hg']) l h0 (by omega) (by unfold maxLen at hcm;omega) ?_;intro j x hx;have:=hown.cells (g:=g) rfl j (.int .u8 x.toNat) (by simp [Lib.byteCells,hx]);exact this
 clear hown htake h0 h hbk
 go_in
 go_wp2
 go_region
 all_goals
  go_wp2
  go_ret
  refine⟨rfl,(Turns.drew w).trans ((ap0 w.drew g l.length).mono λk hk=>by subst hk;rfl)⟩
section
open Go.Shelf
attribute [local go_sem] Oper.semAt_some
theorem aph (l:List UInt8) (pre:List M.Place) (x:M.Place):M.repair l (pre++[x])=M.repair l pre++M.mended l x:=by
 unfold M.repair;rw [oz];simp
theorem alG (l:List UInt8) (x:M.Place) (h:x.2.1<=4):(M.mended l x).length<=4:=by
 unfold M.mended
 split
 ·rw [dw];omega
 decide
theorem ab3 (l:List UInt8) (pre:List M.Place) (h:∀ x∈pre,x.2.1<=4):(M.repair l pre).length<=4*pre.length:=by
 induction pre with
 | nil=>simp [M.repair]
 | cons x t ih =>
  have h1:=ih (λy hy=>h y (mZ _ hy));have h2:=alG l x (h x (jZ ..));unfold M.repair at h1 ⊢;rw [pq,bC,dY];omega
theorem ape {l:List UInt8} {pre:List M.Place} {x:M.Place} (h:QD l pre x):(∀ y∈pre,y.2.1<=4)/\x.2.1<=4/\x.1+x.2.1<=l.length:=by
 obtain⟨t,ht⟩:=h;have key:∀ y∈M.places l,y.2.1<=4/\y.1+y.2.1<=l.length:=by
  intro y hy;rw [<- M.Qq] at hy;have:=M.ac3 l 0 y hy;exact⟨this.2.2.2.2.2,this.2.2.2.1⟩
 refine⟨λy hy=>(key y (by rw [<- ht];simp [hy])).1,(key x (by rw [<- ht];simp)).1,(key x (by rw [<- ht];simp)).2⟩
def mkS:ByteArray:=⟨#[239,191,189]⟩
theorem atm:En 65533 = .tuple #[.string mkS, ah 0]:=by
 unfold En;rw [aG (by decide +kernel),show U.enc 65533=[239,191,189] by decide +kernel]
 rfl
theorem wZ (A:Nat->Addr) (B:Nat) (s:ByteArray) (w:World) (hs:s.size<=100000) (hE:E A B w) (hB:B<=w.heap.size) :
  Calls prog 33 #[.string s] w λe w'=>e = .returned (.string ⟨(M.fix s.data.toList).toArray⟩)/\ak w w':=by
 have UW:=WS w (.cells #[.string s] 9);have Bz:=bx (YS A B 65533 _ (hE.below (UW.mono hB)));have ant:=bx UW;have afw:=bx (aC.new w 9 #[.string s]);have HE:=bx hE;have dU:=bx (size_eq s);clear hE UW;refine(callsIn_wide (n:=9)).1 (callsIn_of_wp_marks func33 rfl trivial (wpIn_wide.2 ?_));simp only [ntmps33,qH,dY,iG,Nat.reduceAdd,Nat.reduceSub,rE,qW,ou,qQ,iJ,jd];go_wp2_with fail;refine Bz.o.mono ?_;rintro e w1 ⟨rfl,hb1⟩;rw [atm];have HB1:=aJ ant hb1;have TB:=afw.o.below hb1 afw.o.lt;have c0:w1.cell? ⟨w.heap.size,0,none⟩=some (.string s):=(TB.cell 0).trans rfl;have l0:=TB.lt;have ab5:=bx TB;clear hb1 TB;go_wp2_with (go_at_call 83;refine aP (axh _ _) ?_)
 clear c0;obtain⟨hb0,hb1,hb2,hbL,hsz⟩:=three (w1.alloc (.cells #[.string mkS] 9)) #[.pointer none, aj] #[.string s] #[aA (w1.heap.size+1+1)] 128 135 131;have hmk:=(((aC.new w1 9 #[.string mkS]).alloc (.cells #[.pointer none, aj] 128)).alloc (.cells #[.string s] 135)).alloc (.cells #[aA (w1.heap.size+1+1)] 131);have hbL:=(WS w1 (.cells #[.string mkS] 9)).trans (hbL.mono (WS w1 _).size);rw [show (w1.alloc (.cells #[.string mkS] 9)).heap.size=w1.heap.size+1 from by simp] at hb0 hb1 hb2 hsz;generalize (((w1.alloc (.cells #[.string mkS] 9)).alloc (.cells #[.pointer none, aj] 128)).alloc (.cells #[.string s] 135)).alloc (.cells #[aA (w1.heap.size+1+1)] 131)=wL at hb0 hb1 hb2 hbL hsz hmk ⊢;have hw1:=HB1.o.size;have hbs:=ab5.o.below hbL ab5.o.lt;have Tq:ak w wL:=bt HB1.o hbL;have IE:E A B wL:=HE.o.below (Tq.mono hB);have XL:Aa (wL.heap.size+2) (w1.heap.size+1) (aj) (M.repair s.data.toList []) wL:=⟨.inl hb0,World.ownsRow_nil _ _ _ _,by simp [Value.ownBlock]⟩
 refine(wpIn_wide (n:=9)).1 (ath (α:=M.Place) (gf:=152) (lb:=#[aA (w1.heap.size+1+1+1)]) rfl (enters_of func152 (by kernel_rfl) rfl)
  (encs:=TN) (own:=λ_=>False) (keep:=λk=>k=w1.heap.size+1+1\/k=w1.heap.size+1+1+1\/k<B) (ok:=QD s.data.toList) (S:=λxs _=>xs=M.places s.data.toList)
  (λk hk=>by rcases hk with h | h;exact h.elim;omega)
  (λW1 ht=>aqj 7 A B (w1.heap.size+1+1) (w1.heap.size+1+1+1) s (by omega) _ W1 (IE.below (ht.below (by omega) (λ_ h=>h.elim))) (by omega) (ht.blk hb1 (λh=>h)) (ht.blk hb2 (λh=>h)))
  (λ_=>rfl)
  (λpre W=>aC W w.heap.size 9 #[.string s]/\aC W w1.heap.size 9 #[.string mkS]/\(∃ v,Aa (wL.heap.size+2) (w1.heap.size+1) v (M.repair s.data.toList pre) W)/\ak w W)
  (λ_ _ _=>False) ?hI (λ_ _ _ _ h _=>h) ⟨hbs,hmk,⟨_,XL⟩,Tq⟩
  (λx a1 W=>∃ ub,wL.heap.size+2<=ub/\aC W ub 138 #[ah (x.2.1:Int), .bool x.2.2]/\a1={ tmps:=#[.string s, aA (w.heap.size), .string ⟨#[]⟩, aA (w1.heap.size), ah 0, aA (w1.heap.size+1), ah (x.1:Int), aA ub,undef, .tuple #[.string mkS, ah 0], .tuple #[.string mkS, ah 0], .string mkS, ah 0, .string s, .agg #[.string s], .agg #[.string s], aA (w1.heap.size+1+1), .func (.func 152) #[] #[aA (w1.heap.size+1+1+1)], ah (x.1:Int), .agg #[ah (x.2.1:Int), .bool x.2.2],undef,undef,undef,undef,undef,undef,undef,undef,undef,undef,undef,undef,undef,undef,undef,undef,undef],defers:=[] })
  ?hAx ?assign ?body ?done (λ_ _ _ _ h _=>h.elim) (λ_ _ _ h _=>h))
 case hI =>
  rintro pre W W' ⟨h1,h2,⟨v,h3⟩,h4⟩ ht;exact⟨ht.blk h1 (by rintro(h | h);exact h;omega),ht.blk h2 (by rintro(h | h);exact h;omega),⟨v,h3.turns ht (by rintro(h | h);exact h;omega) (λk hk=>by have:=(h3.own.lt k hk).1;rintro(h | h);exact h;omega)⟩,h4.trans (ht.below h4.size (λk hk=>by rcases hk with h | h;exact h.elim;omega))⟩
 case hAx =>
  rintro x a1 W W' ⟨ub,h1,h2,h3⟩ ht;exact⟨ub,h1,ht.blk h2 (by omega),h3⟩
 case assign =>
  intro x W K hW hK;unfold TN
  gi_wp2
  exact hK _ _ (Turns.alloc _ _) ⟨W.heap.size,hW,aC.new _ _ _,rfl⟩
 case body =>
  rintro pre x a1 W0 W N hW0 ⟨h1,h2,⟨v,h3⟩,h4⟩ ht hN hok ⟨ub,hub,hbx,rfl⟩;have hlen:=axu hok;rw [<- dU.o] at hlen;obtain⟨hm1,hm2,L6⟩:=ape hok;rw [<- dU.o] at L6;have hrl:=ab3 s.data.toList pre hm1;have hs1:=ht.size;have k1:=ht.blk h1 (by rintro(h | h);exact h;omega);have k2:=ht.blk h2 (by rintro(h | h);exact h;omega);have k3:=h3.turns ht (by rintro(h | h);exact h;omega) (λk hk=>by have:=(h3.own.lt k hk).1;rintro(h | h);exact h;omega);have k4:=h4.trans (ht.below h4.size (λk hk=>by rcases hk with h | h;exact h.elim;omega));have HOL:=bx h3.own.lt;have x0:ay W ub 0=some (ah (x.2.1:Int)):=(hbx.cell 0).trans rfl;have x1:ay W ub 1=some (.bool x.2.2):=(hbx.cell 1).trans rfl;have x2:=hbx.lt;have y0:ay W w.heap.size 0=some (.string s):=(k1.cell 0).trans rfl;have y1:ay W w1.heap.size 0=some (.string mkS):=(k2.cell 0).trans rfl;have y2:=k1.lt;have y3:=k2.lt;have K1:=bx k1;have K2:=bx k2;have K3:=bx k3;have K4:=bx k4;have nC:=bx (aph s.data.toList pre x);obtain⟨xa,xm,xo⟩:=x;have hxa:xa<=100000:=by have h:xa+xm<=s.size:=L6;omega
  have hxm:xm<=4:=hm2;have hxs:xa+xm<=s.size:=L6;clear h1 h2 h3 h4 k1 k2 k3 k4 hbx hb0 hb1 hb2 hbL IE hok ht hmk hbs Tq XL hm1 hm2 L6
  cases xo with
  | true =>
   have hxe:(s.extract xa (xa+xm)).data.toList=(s.data.toList.drop xa).take xm:=by rw [Lib.extract_data];congr 1;omega
   have HXE:=bx hxe;have hxz:(s.extract xa (xa+xm)).size<=4:=by rw [size_eq,hxe,dw];omega
   clear hxe
   gi_wp2
   refine⟨trivial,((callsIn_wide (n:=6)).2 (aiB (wL.heap.size+2) (w1.heap.size+1) v _ (s.extract xa (xa+xm)) _ (K3.o.turns (Turns.alloc (own:=λ_=>False) W _) (λh=>h) (λ_ _ h=>h)) (by omega) (by omega) (by simp;omega))).mono ?_⟩;rintro e w3 ⟨rfl,⟨v',hbv⟩,ht3⟩;have fV:=bx (show Aa (wL.heap.size+2) (w1.heap.size+1) v' (M.repair s.data.toList (pre++[(xa,xm,true)])) w3 by
    rw [nC.o];rw [HXE.o] at hbv;exact hbv)
   have hT:=(Turns.alloc (own:=λk=>k=w1.heap.size+1\/v.ownBlock=some k) W (.cells #[ah xm, .bool true] 138)).trans ht3;have HT:=bx hT;clear hbv ht3 hT
   gi_wp2
   refine⟨Holds.zX HT.o (λk hk=>by omega) (λk hk h=>?_),HT.o.blk K1.o (λh=>?_),HT.o.blk K2.o (λh=>?_),⟨v',fV.o⟩,K4.o.trans (HT.o.below K4.o.size (λk hk=>?_))⟩
   ·rcases h with h | h
    ·omega
    have:=HOL.o k h;omega
   ·rcases h with h | h
    ·omega
    have:=HOL.o _ h;omega
   ·rcases h with h | h
    ·omega
    have:=HOL.o _ h;omega
   rcases hk with h | h
   ·omega
   have:=HOL.o _ h;omega
  | false =>
   gi_wp2
   refine⟨trivial,((callsIn_wide (n:=6)).2 (aiB (wL.heap.size+2) (w1.heap.size+1) v _ mkS _ (K3.o.turns (Turns.alloc (own:=λ_=>False) W _) (λh=>h) (λ_ _ h=>h)) (by show _+3<=_;omega) (by omega) (by simp;omega))).mono ?_⟩;rintro e w3 ⟨rfl,⟨v',hbv⟩,ht3⟩;have fV:=bx (show Aa (wL.heap.size+2) (w1.heap.size+1) v' (M.repair s.data.toList (pre++[(xa,xm,false)])) w3 by
    rw [nC.o]
    skip
    exact hbv)
   have hT:=(Turns.alloc (own:=λk=>k=w1.heap.size+1\/v.ownBlock=some k) W (.cells #[ah xm, .bool true] 138)).trans ht3;have HT:=bx hT;clear hbv ht3 hT
   gi_wp2
   refine⟨Holds.zX HT.o (λk hk=>by omega) (λk hk h=>?_),HT.o.blk K1.o (λh=>?_),HT.o.blk K2.o (λh=>?_),⟨v',fV.o⟩,K4.o.trans (HT.o.below K4.o.size (λk hk=>?_))⟩
   ·rcases h with h | h
    ·omega
    have:=HOL.o k h;omega
   ·rcases h with h | h
    ·omega
    have:=HOL.o _ h;omega
   ·rcases h with h | h
    ·omega
    have:=HOL.o _ h;omega
   rcases hk with h | h
   ·omega
   have:=HOL.o _ h;omega
 case done =>
  intro xs W hW hS ⟨h1,h2,⟨v,h3⟩,h4⟩ hD;have HBS:=bx (anY (wL.heap.size+2) (w1.heap.size+1) v (M.repair s.data.toList xs) W h3);have HOL:=bx h3.own.lt;have H4:=bx h4;have HD:=bx hD;have HV:=bx (show M.repair s.data.toList xs=M.fix s.data.toList by rw [hS];rfl);have hws:=h4.size;have ayp:w1.heap.size+1+3<=wL.heap.size:=by omega
  clear hsz h1 h2 h3 h4 hD hb0 hb1 hb2 hbL IE hmk hbs Tq XL hS;go_wp2_with fail;refine aT HBS.o λw2 ht5=>?_
  have HD2:=bx ((ht5.block wL.heap.size (by omega) (λh=>by have:=HOL.o _ h;omega)).trans HD.o);have MK:=bx (H4.o.trans (ht5.below H4.o.size (λk hk=>by have:=HOL.o _ hk;omega)));clear ht5;go_wp2_with fail;refine⟨by simp, .inl ⟨_,_,rfl,run_takeDeferred HD2.o,?_⟩⟩;refine⟨_,results_tmp rfl _ _ _,?_⟩;exact⟨by rw [<- HV.o];rfl,MK.o.trans ((Turns.putObj (own:=λk=>k=wL.heap.size) w2 rfl _).below MK.o.size (λk hk=>by omega))⟩
def aa3:Option M.Place->Nat
 | none=>0
 | some x=>x.2.1
def cv (pl:List M.Place) (q:Int):Value:=.complex .f64 (fN (aa3 (M.fwd pl q))) (fN (aa3 (M.bwd pl q)))
end
section
open Go.Shelf
attribute [local go_sem] Oper.semAt_some
theorem arF (P:Program) (w:World) (k:FloatKind) (b:Nat):(Op.unary .neg (.float k b)).run P w = .ok (.float k (Op.negFloat k b)) w:=rfl
attribute [local go_sem] arF
theorem aoQ {l:List UInt8} {x:M.Place} (h:x∈M.places l):x.1<l.length/\x.1+x.2.1<=l.length/\1<=x.2.1/\x.2.1<=4:=by
 rw [<- M.Qq] at h;have:=M.ac3 l 0 x h;exact⟨this.2.1,this.2.2.2.1,this.2.2.2.2.1,this.2.2.2.2.2⟩
end
section
section
variable {A:Nat->Addr} {B:Nat} {W0 w w':World}
end
def axW (s:ByteArray):ByteArray:=if 300<s.size then s.extract 0 300 else s
theorem adS (l:List UInt8):(M.fix l).length<=4*l.length:=by
 have h1:=ab3 l (M.places l) (λx hx=>(aoQ hx).2.2.2);have h2:=Ns l;unfold M.fix;omega
theorem anC (r:Int) (h:U.right r=true):En r = .tuple #[.string ⟨(U.enc r).toArray⟩, ah 0]:=by unfold En;rw [aG h]
theorem aql (l:List UInt8):(⟨l.toArray⟩:ByteArray).size=l.length:=by rw [size_eq]
def J5 (xs:List Int):Value:=if xs.all U.right=true then .tuple #[.string ⟨(U.textOf xs).toArray⟩, ah 0] else .tuple #[.string ⟨#[]⟩, ah 10]
theorem akI (xs:List Int):(U.textOf xs).length<=4*xs.length:=by
 induction xs with
 | nil=>simp [U.textOf]
 | cons x t ih =>
  have:=U.Jo x;simp only [U.textOf,pq,bC,dY] at ih ⊢;omega
theorem axD (xs:List Int) (k:Nat) (x:Int) (h:xs[k]?=some x):U.textOf (xs.take (k+1))=U.textOf (xs.take k)++U.enc x:=by
 rw [jw,h,U.Fq];simp [U.textOf]
theorem awm (xs:List Int) (k:Nat) (x:Int) (h:xs[k]?=some x) (ha:(xs.take k).all U.right=true) (hx:U.right x=true):(xs.take (k+1)).all U.right=true:=by
 rw [jw,h,List.all_append,ha];simp [hx]
theorem aqp (xs:List Int) (k:Nat) (x:Int) (h:xs[k]?=some x) (hx:U.right x=false):J5 xs = .tuple #[.string ⟨#[]⟩, ah 10]:=by
 unfold J5;rw [aF];intro ha;rw [jG] at ha;rw [ha x (dB h)] at hx
 cases hx
theorem ahx (xs:List Int) (h:xs.all U.right=true):J5 xs = .tuple #[.string ⟨(U.textOf xs).toArray⟩, ah 0]:=by unfold J5;rw [aG h]
theorem afr {w w':World} {B b:Nat} {bs:List Value} (h:Lib.IsBuilder 128 5 B b bs w) (hb:ak w w'):Lib.IsBuilder 128 5 B b bs w':=by
 have key:∀ p,Lib.BuilderAt 128 5 B b p bs w->Lib.BuilderAt 128 5 B b p bs w':=by
  rintro p hp;have hlt:=hp.lt;obtain⟨hB,v,hk,ho,hne⟩:=hp;refine⟨hB,v,(hb.block b hlt).trans hk,?_,hne⟩;have hol:=ho.lt;refine⟨ho.1,?_⟩
  rcases ho.2 with h2 | ⟨g,cap,cur,h2,h3,h4,h5⟩
  ·exact .inl h2
  exact .inr ⟨g,cap,cur,h2,h3,(hb.block g (hol g (by rw [h2];rfl)).2).trans h4,h5⟩
 rcases h with h | h
 ·exact .inl (key _ h)
 exact .inr (key _ h)
theorem as7 (A:Nat->Addr) (B:Nat) (v:Value) (xs:List Int) (w:World) (hv:aN w v xs) (hz:xs.length<=1000) (hE:E A B w) (hB:B<=w.heap.size) :
  Calls prog 169 #[v] w λe w'=>e = .returned (J5 xs)/\ak w w':=by
 have mO:=bx hv;obtain⟨ao,cap,rfl⟩:=hv.slice;clear hv;have HE:=bx hE;clear hE
 go_in
 go_wp2
 have hW1:ak w (w.alloc (.cells #[.pointer none, aj] 128)):=aZ.alloc aU _;have hF:=Lib.fresh_isBuilder 128 5 w
 go_loopw [11] (λi wr=>∃ k:Nat,k<=xs.length/\i = ah k/\Box ((xs.take k).all U.right=true)/\Box (Lib.IsBuilder 128 5 w.heap.size w.heap.size (Lib.byteCells (U.textOf (xs.take k))) wr)/\Box (ak w wr))
  (λi _=>xs.length-(intOf i).toNat)
 ·exact⟨0,by omega,rfl,⟨rfl⟩,⟨hF⟩,⟨hW1⟩⟩
 obtain⟨k,hk,rfl,ha,hib,hb⟩:=hrel;clear hW1 hF
 by_cases hlt:k<xs.length
 ·obtain⟨x,hx⟩:=bV xs k hlt;have HX:=bx hx;have HE2:=bx (HE.o.below (hb.o.mono hB));obtain⟨g,off,cap2,hg1,hg2,hg3,hg4,hg5⟩:=(mO.o.below hb.o).get (by rintro rfl;simp at hlt);obtain⟨rfl,rfl⟩:=dQ hg1;have hc:=hg5 k x hx;unfold maxLen at hg3;clear hx hg1 hg5
  cases hr:U.right x with
  | true =>
   have HV:=bx (anC x hr);have HA:=bx (awm xs k x HX.o ha.o hr);clear hr;go_wp2_with fail;refine(YS A B x _ HE2.o).mono ?_;rintro e w1 ⟨rfl,hb1⟩;rw [HV.o];have HB1:=bx hb1;have HI1:=bx (afr hib.o hb1);have eG:=bx (show w.heap.size<=w1.heap.size from bP hb.o.size hb1.size);have qC:=bx (show (U.textOf (xs.take k)).length+(⟨(U.enc x).toArray⟩:ByteArray).size<=16777216 by
    have h1:=akI (xs.take k);have h2:=(U.Jo x).2;rw [dw] at h1;rw [aql];omega)
   clear hb1;go_wp2_with fail;refine(abP w.heap.size w.heap.size _ _ _ HI1.o qC.o eG.o).mono ?_;rintro e w2 ⟨rfl,hi2,hb2⟩;have HI2:=bx (show Lib.IsBuilder 128 5 w.heap.size w.heap.size (Lib.byteCells (U.textOf (xs.take (k+1)))) w2 by rw [axD xs k x HX.o];exact hi2);have auK:=bx (show ak w w2 from(bt hb.o HB1.o).trans hb2);clear hi2 hb2
   go_wp2
   go_roundw
   ·exact⟨k+1,hlt,by go_num,HA,HI2,auK⟩
   simp [intOf];omega
  | false =>
   have HV:=bx (aco hr);have HT:=bx (aqp xs k x HX.o hr);clear hr;go_wp2_with fail;refine(YS A B x _ HE2.o).mono ?_;rintro e w1 ⟨rfl,hb1⟩;rw [HV.o]
   go_wp2
   go_ret2
   exact⟨by rw [HT.o];rfl,bt hb.o hb1⟩
 have HT:=bx (show xs.all U.right=true by have:=ha.o;rwa [gq (by omega)] at this);have HI:=bx (show Lib.IsBuilder 128 5 w.heap.size w.heap.size (Lib.byteCells (U.textOf xs)) wr by have:=hib.o;rwa [gq (by omega)] at this);go_wp2_with fail;refine aT (VY w.heap.size w.heap.size _ _ HI.o hb.o.size) λw1 hb1=>?_
 go_wp2
 go_ret2
 exact⟨by rw [ahx xs HT.o];rfl,hb.o.trans hb1⟩
end
section
open Go.Shelf Go.Proofs
def acu:Go.Shelf.Ren:=⟨fun | 156=>70 | 165=>133 | 166=>84 | 169=>85 | 240=>154 | 241=>225 | 276=>236 | 277=>284 | n=>n,fun | 31=>49 | 9=>9 | 3=>3 | 4=>4 | 0=>0 | 20=>20 | 72=>128 | 76=>139 | 70=>125 | 37=>126 | 75=>87 | 127=>214 | 164=>273 | 5=>5 | 80=>141 | n=>n,fun | n=>n⟩
theorem ae6:Go.Proofs.Lays.n156 prog acu:={
 mixed:=by kernel_rfl
 f156:=func70.trans (congrArg some (by kernel_rfl))
 f165:=func133.trans (congrArg some (by kernel_rfl))
 f166:=func84.trans (congrArg some (by kernel_rfl))
 f169:=func85.trans (congrArg some (by kernel_rfl))
 f240:=func154.trans (congrArg some (by kernel_rfl))
 f241:=func225.trans (congrArg some (by kernel_rfl))
 f276:=func236.trans (congrArg some (by kernel_rfl))
 f277:=func284.trans (congrArg some (by kernel_rfl))
 t0:=underlying0
 a0:=isAgg0
 z0:=sizeOf0
 v0:=zeroValue0
 t3:=underlying3
 a3:=isAgg3
 z3:=sizeOf3
 v3:=zeroValue3
 t4:=underlying4
 a4:=isAgg4
 z4:=sizeOf4
 v4:=zeroValue4
 t9:=underlying9
 a9:=isAgg9
 z9:=sizeOf9
 v9:=zeroValue9
 t20:=underlying20
 a20:=isAgg20
 z20:=sizeOf20
 v20:=zeroValue20
 t31:=underlying49
 a31:=isAgg49
 z31:=sizeOf49
 v31:=zeroValue49
 t37:=underlying126
 a37:=isAgg126
 z37:=sizeOf126
 v37:=zeroValue126
 t70:=underlying125
 a70:=isAgg125
 z70:=sizeOf125
 v70:=zeroValue125
 t72:=underlying128
 a72:=isAgg128
 z72:=sizeOf128
 v72:=zeroValue128
 t75:=underlying87
 a75:=isAgg87
 z75:=sizeOf87
 v75:=zeroValue87
 t76:=underlying139
 a76:=isAgg139
 z76:=sizeOf139
 v76:=zeroValue139
 t127:=underlying214
 a127:=isAgg214
 z127:=sizeOf214
 v127:=zeroValue214
 t164:=underlying273
 a164:=isAgg273
 z164:=sizeOf273
 v164:=zeroValue273 }
theorem ahl:Builder.Extra prog acu:={
 sizeBuilder:=by kernel_rfl
 liesBuilder:=by kernel_rfl
 t5:=underlying5
 a5:=isAgg5
 z5:=sizeOf5
 v5:=zeroValue5
 infoByte:=by kernel_rfl
 cellsByte:=by kernel_rfl
 sizeByte:=by kernel_rfl
 neB5:=by decide }
theorem aqY (a:Option Addr) (c:Nat) (sep:ByteArray) (w:World) :
  Calls prog 70 #[.slice a 0 c, .string sep] w λe w'=>e = .returned (.string ⟨#[]⟩)/\w'=w:=Any.strings_Join_none ae6 ahl a c sep w
theorem ato (bk o c:Nat) (xs:List ByteArray) (sep:ByteArray) (w:World) (hcells:∀ (j:Nat) x,xs[j]?=some x->w.cell? ⟨bk,o+j,none⟩=some (.string x)) (hbk:bk<w.heap.size) (hN:xs.length<=140737488355328) (hcap:xs.length<=c) (hlen:(Lib.join (xs.map (·.data.toList)) sep.data.toList).length<=140737488355328) :
  Calls prog 70 #[.slice (some ⟨bk,o,none⟩) xs.length c, .string sep] w λe w'=>e = .returned (.string ⟨(Lib.join (xs.map (·.data.toList)) sep.data.toList).toArray⟩)/\ak w w':=Any.strings_Join ae6 ahl bk o c xs sep w hcells hbk hN hcap hlen
end
theorem agM (cs:List (List UInt8)):(cs.map bs).map (·.data.toList)=cs:=by
 rw [EX];exact(List.map_congr_left (λx _=>xZ x)).trans (List.map_id _)
theorem ae9 (cs:List (List UInt8)):Lib.join cs []=cs.flatten:=by
 cases cs with
 | nil=>rfl
 | cons x r =>
  rw [Lib.join_cons,pY];unfold Lib.joinTail;simp
theorem agh (v:Value) (cs:List (List UInt8)) (sep:List UInt8) (w:World) (hv:cZ w v cs) (hz:(Lib.join cs sep).length<=140737488355328) (hn:cs.length<=140737488355328) :
  Calls prog 70 #[v, .string (bs sep)] w λe w'=>e = .returned (.string (bs (Lib.join cs sep)))/\ak w w':=by
 by_cases h0:cs=[]
 ·subst h0;obtain⟨a,cap,rfl,-⟩:=hv.slice;refine(aqY a cap (bs sep) w).mono ?_;rintro e w' ⟨rfl,rfl⟩;exact⟨rfl,Below.refl _ _⟩
 obtain⟨b,off,cap,rfl,h1,h2,h3,h4⟩:=hv.get h0;have h:=ato b off cap (cs.map bs) (bs sep) w (λj x hx=>by
  rw [eX] at hx;obtain⟨y,hy,rfl⟩:=rC.1 hx;exact h4 j y hy) h3 (by rw [aV];exact hn) (by rw [aV];exact h1) (by rw [agM,xZ];exact hz)
 rw [agM,xZ,aV] at h;exact h
theorem Eo (v:Value) (cs:List (List UInt8)) (w:World) (hv:cZ w v cs) (hz:cs.flatten.length<=140737488355328) (hn:cs.length<=140737488355328) :
  Calls prog 70 #[v, .string (bs [])] w λe w'=>e = .returned (.string (bs cs.flatten))/\ak w w':=by
 have h:=agh v cs [] w hv (by rw [ae9];exact hz) hn;rw [ae9] at h;exact h
end Go.Proofs.YtdponihkpomheaaGreatDoor
