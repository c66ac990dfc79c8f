/- Texts of this claim. -/
import Derived.Lib.AppendStr
import Derived.Shelf.Strings.Builder1
import Derived.Shelf.Strings.OnBuilder
import Derived.Ground.Names2Prog
import Derived.Test.YtdenoeakcflnmaaGreatDoorH10

set_option maxRecDepth 100000
set_option maxHeartbeats 2000000
namespace Go.Proofs.YtdenoeakcflnmaaGreatDoor
section
open Go.RowKit Go.Shelf
def acQ:Go.Shelf.Ren:=⟨fun | 169=>53 | n=>n,fun | 70=>93 | 9=>9 | 0=>0 | 72=>96 | 37=>94 | 127=>160 | 3=>3 | 5=>5 | n=>n,fun | n=>n⟩
theorem lays169:Go.Proofs.Lays.n169 Tryz.prog acQ:={
 mixed:=by kernel_rfl
 f169:=Tryz.func53.trans (congrArg some (by kernel_rfl))
 t0:=Tryz.underlying0
 a0:=Tryz.isAgg0
 z0:=Tryz.sizeOf0
 v0:=Tryz.zeroValue0
 t3:=Tryz.underlying3
 a3:=Tryz.isAgg3
 z3:=Tryz.sizeOf3
 v3:=Tryz.zeroValue3
 t9:=Tryz.underlying9
 a9:=Tryz.isAgg9
 z9:=Tryz.sizeOf9
 v9:=Tryz.zeroValue9
 t37:=Tryz.underlying94
 a37:=Tryz.isAgg94
 z37:=Tryz.sizeOf94
 v37:=Tryz.zeroValue94
 t70:=Tryz.underlying93
 a70:=Tryz.isAgg93
 z70:=Tryz.sizeOf93
 v70:=Tryz.zeroValue93
 t72:=Tryz.underlying96
 a72:=Tryz.isAgg96
 z72:=Tryz.sizeOf96
 v72:=Tryz.zeroValue96
 t127:=Tryz.underlying160
 a127:=Tryz.isAgg160
 z127:=Tryz.sizeOf160
 v127:=Tryz.zeroValue160 }
theorem UH:Builder.Extra Tryz.prog acQ:={
 sizeBuilder:=by kernel_rfl
 liesBuilder:=by kernel_rfl
 t5:=Tryz.underlying5
 a5:=Tryz.isAgg5
 z5:=Tryz.sizeOf5
 v5:=Tryz.zeroValue5
 infoByte:=by kernel_rfl
 cellsByte:=by kernel_rfl
 sizeByte:=by kernel_rfl
 neB5:=by decide }
theorem bInfo:(Tryz.prog.info? 96).map (·.size)=some 2:=by kernel_rfl
theorem aku:liesAt Tryz.prog Tryz.prog.depth 96 (2 / Tryz.prog.cellsOf 96) 0 96 1=true:=by kernel_rfl
theorem PK:(Tryz.prog.info? 5).map (λi=>(i.zero,i.size,i.bytes))=some (some (.int .u8 0),1,1):=by kernel_rfl
theorem alW (b:Nat) (w:World) (h0:w.cell? ⟨b,0,none⟩=some (.pointer (some ⟨b,0,none⟩))) :
  Calls Tryz.prog 99 #[.pointer (some ⟨b,0,none⟩)] w λe w'=>e = .returned (.tuple #[])/\w=w':=by
 obtain⟨j,hj,_⟩:=Option.map_eq_some_iff.1 bInfo
 go_enter Tryz.func99,Tryz.ntmps99
 go_wp2
 rw [Lib.run_neq_ptr_same w _ Tryz.underlying93 hj]
 go_wp2
 go_end0
 exact⟨rfl,rfl⟩
theorem agK (b:Nat) (w:World) (h0:w.cell? ⟨b,0,none⟩=some (.pointer none)) (hs:w.shape? b=some (96,2)) (hf:w.frozen? ⟨b,0,none⟩=false) :
  Calls Tryz.prog 99 #[.pointer (some ⟨b,0,none⟩)] w λe w'=>e = .returned (.tuple #[])/\w.setCell ⟨b,0,none⟩ (.pointer (some ⟨b,0,none⟩))=w':=by
 obtain⟨j,hj,hjs⟩:=Option.map_eq_some_iff.1 bInfo
 go_enter Tryz.func99,Tryz.ntmps99
 go_wp2
 rw [Lib.run_to_unsafe w ⟨b,0,none⟩ Tryz.underlying93 Tryz.underlying234 hj (by rw [hjs];decide) hs (Nat.zero_lt_succ 1)];simp only [Result.andThen];rw [Oper.upon_value]
 go_wp2
 rw [run_callFunc_extern Tryz.func150 (by kernel_rfl) (by kernel_rfl) (by kernel_rfl) (e:=Extern.AbiNoEscape.same) (by kernel_rfl)];rw [Lib.run_noEscape];simp only [Result.andThen];rw [Oper.upon_value]
 go_wp2
 rw [Lib.run_from_unsafe w ⟨b,0,none⟩ Tryz.underlying234 Tryz.underlying93 hj hs aku];simp only [Result.andThen];rw [Oper.upon_value]
 go_wp2
 go_end0
 exact⟨rfl,rfl⟩
end
section
open Go.RowKit
structure vV (Bar b:Nat) (v:Value) (l:List UInt8) (w:World):Prop where
 blk:aj w b 96 #[.pointer none,v]\/aj w b 96 #[.pointer (some ⟨b,0,none⟩),v]
 own:w.ownsRow Bar 5 1 v l.length (Lib.byteCells l)
 ne:v.ownBlock≠some b
theorem vV.turns {Bar b:Nat} {v:Value} {l:List UInt8} {w w':World} {own:Nat->Prop} (h:vV Bar b v l w) (ht:Turns own w w') (hb:¬ own b) (ho:∀ k,v.ownBlock=some k->¬ own k):vV Bar b v l w' :=
 ⟨h.blk.imp (λk=>ht.blk k hb) (λk=>ht.blk k hb),ht.row h.own ho,h.ne⟩
theorem vV.lt {Bar b:Nat} {v:Value} {l:List UInt8} {w:World} (h:vV Bar b v l w):b<w.heap.size:=by
 rcases h.blk with k | k <;> exact k.lt
theorem Turns.amY {A B:World} {b:Nat} {row:Option Nat} (h:A.grownBy B row):Turns (λk=>k=b\/row=some k) A B :=
 ⟨h.os,h.tape,h.output,h.size,λi hi ho=>h.block i hi (λe=>ho (.inr e.symm))⟩
theorem Zk (Bar b:Nat) (v:Value) (l:List UInt8) (s:ByteArray) (w:World) (h:vV Bar b v l w) (hz:l.length+s.size<=16777216) (hbB:b<Bar) (hB:Bar<=w.heap.size) :
  Calls Tryz.prog 52 #[.pointer (some ⟨b,0,none⟩), .string s] w λe w'=>e = .returned (.tuple #[.int .i64 s.size, .nilIface])/\(∃ v',vV Bar b v' (l++s.data.toList) w')/\Turns (λk=>k=b\/v.ownBlock=some k) w w':=by
 obtain⟨i0,hi,hz0,hz1,hz2⟩:=info_parts PK;have hlen:(Lib.byteCells l).length=l.length:=by simp [Lib.byteCells]
 have hlt:=h.lt;have hcopy:Calls Tryz.prog 99 #[.pointer (some ⟨b,0,none⟩)] w λe w'=>e = .returned (.tuple #[])/\aj w' b 96 #[.pointer (some ⟨b,0,none⟩),v]/\Turns (λk=>k=b) w w':=by
  rcases h.blk with k | k
  ·refine(agK b w ((k.cell 0).trans rfl) (by unfold aj at k;simp [World.shape?,k]) (k.frozen 0)).mono ?_;rintro e w' ⟨rfl,rfl⟩;exact⟨rfl,k.dh 0 _,Turns.setCell (own:=λk=>k=b) w (p:=⟨b,0,none⟩) rfl _⟩
  ·refine(alW b w ((k.cell 0).trans rfl)).mono ?_;rintro e w' ⟨rfl,rfl⟩;exact⟨rfl,k,Turns.refl _ _⟩
 have hown0:=h.own;have hne:=h.ne;clear h
 go_enter Tryz.func52,Tryz.ntmps52
 go_wp2_with (go_at_call 99;refine hcopy.mono ?_)
 rintro e w1 ⟨rfl,hbk,ht1⟩;have hown:=ht1.row hown0 (λk hk e=>by subst e;exact hne hk);have c0:w1.cell? ⟨b,0,none⟩=some (.pointer (some ⟨b,0,none⟩)):=(hbk.cell 0).trans rfl;have c1:w1.cell? ⟨b,1,none⟩=some v:=(hbk.cell 1).trans rfl;have hs1:=ht1.size;clear hown0 hcopy;go_wp2_with (at_builtin;refine Lib.wpList_append_own_string _ rfl _ _ 94 9 rfl Bar 5 i0 Tryz.underlying94 Tryz.underlying9 hi hz0 hz1 hz2 _ _ _ rfl hown s rfl ?c3 ?c4 ?c5 ?_)
 case c3=>unfold maxLen;omega
 case c4=>omega
 case c5=>omega
 intro v' w2 hown' hgrow hnil;have hb2:=hbk.grown hgrow (λe=>hne e.symm);have d1:w2.cell? ⟨b,1,none⟩=some v:=(hb2.cell 1).trans rfl;have f1:=hb2.frozen 1;have hlt':=hown'.lt;obtain⟨ao,n',cap,rfl⟩:∃ ao n' cap,v' = .slice ao n' cap:=by
  rcases hown'.2 with⟨hv,_⟩ | ⟨g,cap,cur,hv,_⟩
  ·exact⟨_,_,_,hv⟩
  ·exact⟨_,_,_,hv⟩
 have hfin:=hb2.dh 1 (.slice ao n' cap);have TG:=bx hfin;have HB2:=bx hb2;clear hfin hb2 c0 c1
 go_wp2
 go_ret2
 have xA:Turns (λk=>k=b) w2 (w2.setCell ⟨b,1,none⟩ (.slice ao n' cap)):=Turns.setCell (own:=λk=>k=b) w2 (p:=⟨b,1,none⟩) rfl _;refine⟨rfl,⟨.slice ao n' cap, .inr TG.o,?_,λe=>by have:=(hlt' b e).1;omega⟩,?_⟩
 ·have:=xA.row hown' (λk hk e=>by subst e;have:=(hlt' _ hk).1;omega);rw [List.length_append,<- size_eq,show Lib.byteCells (l++s.data.toList)=Lib.byteCells l++Lib.strCells s by simp [Lib.byteCells,Lib.strCells]];exact this
 ·exact((ht1.mono λk hk=>.inl hk).trans (Turns.amY hgrow)).trans (xA.mono λk hk=>.inl hk)
theorem alR (w:World) (g n:Nat):Turns (λk=>k=g) w (w.freeze ⟨g,0,none⟩ n):=by
 have hb:=Lib.below_freeze (B:=0) (Below.refl 0 w) (p:=⟨g,0,none⟩) (Nat.zero_le _) n;refine⟨hb.os,hb.tape,hb.output,hb.size,λk hk ho=>?_⟩
 rcases Nat.lt_or_ge k g with h | h
 ·exact(Lib.below_freeze (B:=g) (Below.refl g w) (p:=⟨g,0,none⟩) (Nat.le_refl _) n).block k h
 ·have hgk:g≠k:=λe=>ho e.symm
  unfold World.freeze
  split
  ·rfl
  ·simp only [Array.getElem?_modify];rw [if_neg hgk]
theorem anq (Bar b:Nat) (v:Value) (l:List UInt8) (w:World) (h:vV Bar b v l w) :
  Calls Tryz.prog 53 #[.pointer (some ⟨b,0,none⟩)] w λe w'=>e = .returned (.string ⟨l.toArray⟩)/\Turns (λk=>v.ownBlock=some k) w w':=by
 obtain⟨p,hbk⟩:∃ p,aj w b 96 #[p,v]:=by rcases h.blk with k | k <;> exact⟨_,k⟩
 have hown:=h.own
 by_cases h0:l=[]
 ·subst h0;have key:Calls Tryz.prog 53 #[.pointer (some ⟨b,0,none⟩)] w λe w'=>e = .returned (.string ⟨#[]⟩)/\Below w.heap.size w w':=by
   rcases hown.2 with⟨rfl,_⟩ | ⟨g,cap,cur,rfl,hbg,hg,_⟩
   ·exact Any.Builder_String_nil lays169 UH w.heap.size b p w hbk
   ·by_cases hc0:cap=0
    ·subst hc0;exact Any.Builder_String_noroom lays169 UH w.heap.size b g p cur w (Nat.le_refl _) hbk hg
    ·exact Any.Builder_String_room lays169 UH w.heap.size b g cap p w hc0 hbk
  exact key.mono λe w' ⟨he,hb⟩=>⟨he,Turns.of_below hb⟩
 ·have hl0:l.length≠0:=by simpa using h0
  obtain⟨g,cap,cur,rfl,hbg,hg,hnc,hcm,hcs,htake⟩:∃ g cap cur,v = .slice (some ⟨g,0,none⟩) l.length cap/\Bar<=g/\w.heap[g]?=some (.cells cur 5 (0,0))/\l.length<=cap/\cap<=maxLen/\cur.size=cap*1/\cur.toList.take (l.length*1)=Lib.byteCells l:=by
   rcases hown.2 with⟨_,hz⟩ | ⟨g,cap,cur,hv,r⟩
   ·exact absurd hz hl0
   ·exact⟨g,cap,cur,hv,r⟩
  have c1:w.cell? ⟨b,1,none⟩=some (.slice (some ⟨g,0,none⟩) l.length cap):=(hbk.cell 1).trans rfl;have hSD:(Builtin.unsafeSliceData_ #[94] 160 #[.slice (some ⟨g,0,none⟩) l.length cap]).run Tryz.prog w.drew = .ok (.pointer (some ⟨g,0,none⟩)) w.drew :=
   Lib.run_unsafeSliceData_row _ _ _ _ _ _ (by omega)
  have hUS:(Builtin.unsafeString_ #[160,3] 9 #[.pointer (some ⟨g,0,none⟩), .int .i64 l.length]).run Tryz.prog w.drew = .ok (.string ⟨l.toArray⟩) (w.drew.freeze ⟨g,0,none⟩ l.length):=by
   refine Lib.run_unsafeString_row w.drew 160 3 9 5 Tryz.underlying160 (by kernel_rfl) g cur.size (by have hg':w.drew.heap[g]?=some (.cells cur 5 (0,0)):=hg;simp [World.shape?,hg']) l h0 (by omega) (by unfold maxLen at hcm;omega) ?_;intro j x hx;have:=hown.cells (g:=g) rfl j (.int .u8 x.toNat) (by simp [Lib.byteCells,hx]);exact this
  clear hown htake h0 h hbk
  go_enter Tryz.func53,Tryz.ntmps53
  go_wp2
  go_region
  all_goals
   go_wp2
   go_ret
   refine⟨rfl,(Turns.drew w).trans ((alR w.drew g l.length).mono λk hk=>by subst hk;rfl)⟩
end
section
open Go.RowKit Go.Shelf
attribute [local go_sem] Oper.semAt_some
theorem Uj (l:List UInt8) (pre:List M.Place) (x:M.Place):M.repair l (pre++[x])=M.repair l pre++M.mended l x:=by
 unfold M.repair;rw [List.flatMap_append];simp
theorem al8 (l:List UInt8) (x:M.Place) (h:x.2.1<=4):(M.mended l x).length<=4:=by
 unfold M.mended
 split
 ·rw [List.length_take];omega
 ·decide
theorem acn (l:List UInt8) (pre:List M.Place) (h:∀ x∈pre,x.2.1<=4):(M.repair l pre).length<=4*pre.length:=by
 induction pre with
 | nil=>simp [M.repair]
 | cons x t ih =>
  have h1:=ih (λy hy=>h y (List.mem_cons_of_mem _ hy));have h2:=al8 l x (h x (List.mem_cons_self ..));unfold M.repair at h1 ⊢;rw [List.flatMap_cons,List.length_append,List.length_cons];omega
theorem amN {l:List UInt8} {pre:List M.Place} {x:M.Place} (h:NG l pre x):(∀ y∈pre,y.2.1<=4)/\x.2.1<=4/\x.1+x.2.1<=l.length:=by
 obtain⟨t,ht⟩:=h;have key:∀ y∈M.places l,y.2.1<=4/\y.1+y.2.1<=l.length:=by
  intro y hy;rw [<- M.zC] at hy;have:=M.BX l 0 y hy;exact⟨this.2.2.2.2.2,this.2.2.2.1⟩
 refine⟨λy hy=>(key y (by rw [<- ht];simp [hy])).1,(key x (by rw [<- ht];simp)).1,(key x (by rw [<- ht];simp)).2⟩
def mkS:ByteArray:=⟨#[239,191,189]⟩
theorem aeI:ER 65533 = .tuple #[.string mkS, .int .i64 0]:=by
 unfold ER;rw [if_pos (by decide +kernel),show U.enc 65533=[239,191,189] by decide +kernel]
 rfl
theorem NT (A:Nat->Addr) (B:Nat) (s:ByteArray) (w:World) (hs:s.size<=100000) (hE:E A B w) (hB:B<=w.heap.size) :
  Calls Tryz.prog 20 #[.string s] w λe w'=>e = .returned (.string ⟨(M.fix s.data.toList).toArray⟩)/\Below w.heap.size w w':=by
 have Tq:=Lu w (.cells #[.string s] 9);have mF:=bx (agC A B 65533 _ (hE.below (Tq.mono hB)));have ad3:=bx Tq;have ZA:=bx (aj.new w 9 #[.string s]);have HE:=bx hE;have aU:=bx (size_eq s);clear hE Tq;refine(callsIn_wide (n:=9)).1 (callsIn_of_wp_marks Tryz.func20 rfl trivial (wpIn_wide.2 ?_));simp only [Tryz.ntmps20,List.size_toArray,List.length_cons,List.length_nil,Nat.reduceAdd,Nat.reduceSub,Array.replicate_succ,Array.replicate_zero,List.push_toArray,List.append_toArray,List.nil_append,List.cons_append];go_wp2_with fail;refine mF.o.mono ?_;rintro e w1 ⟨rfl,hb1⟩;rw [aeI];have HB1:=bx (bt ad3.o hb1);have OL:=ZA.o.below hb1 ZA.o.lt;have c0:w1.cell? ⟨w.heap.size,0,none⟩=some (.string s):=(OL.cell 0).trans rfl;have l0:=OL.lt;have ZU:=bx OL;clear hb1 OL;go_wp2_with (go_at_call 51;refine(amu _ _).mono ?_;rintro e w' ⟨rfl,rfl⟩)
 clear c0;obtain⟨hb0,hb1,hb2,hbL,hsz⟩:=three (w1.alloc (.cells #[.string mkS] 9)) #[.pointer none, .slice none 0 0] #[.string s] #[.pointer (some ⟨w1.heap.size+1+1,0,none⟩)] 96 103 99;have hmk:=(((aj.new w1 9 #[.string mkS]).alloc (.cells #[.pointer none, .slice none 0 0] 96)).alloc (.cells #[.string s] 103)).alloc (.cells #[.pointer (some ⟨w1.heap.size+1+1,0,none⟩)] 99);have hbL:=(Lu w1 (.cells #[.string mkS] 9)).trans (hbL.mono (Lu w1 _).size);rw [show (w1.alloc (.cells #[.string mkS] 9)).heap.size=w1.heap.size+1 from by simp] at hb0 hb1 hb2 hsz;generalize (((w1.alloc (.cells #[.string mkS] 9)).alloc (.cells #[.pointer none, .slice none 0 0] 96)).alloc (.cells #[.string s] 103)).alloc (.cells #[.pointer (some ⟨w1.heap.size+1+1,0,none⟩)] 99)=wL at hb0 hb1 hb2 hbL hsz hmk ⊢;have hw1:=HB1.o.size;have hbs:=ZU.o.below hbL ZU.o.lt;have OO:Below w.heap.size w wL:=bt HB1.o hbL;have EF:E A B wL:=HE.o.below (OO.mono hB);have QZ:vV (wL.heap.size+2) (w1.heap.size+1) (.slice none 0 0) (M.repair s.data.toList []) wL:=⟨.inl hb0,World.ownsRow_nil _ _ _ _,by simp [Value.ownBlock]⟩
 refine(wpIn_wide (n:=9)).1 (afK (α:=M.Place) (gf:=97) (lb:=#[.pointer (some ⟨w1.heap.size+1+1+1,0,none⟩)]) rfl (enters_of Tryz.func97 (by kernel_rfl) rfl)
  (encs:=MV) (own:=λ_=>False) (keep:=λk=>k=w1.heap.size+1+1\/k=w1.heap.size+1+1+1\/k<B) (ok:=NG s.data.toList) (S:=λxs _=>xs=M.places s.data.toList)
  (λk hk=>by rcases hk with h | h;exact h.elim;omega)
  (λW1 ht=>aed 7 A B (w1.heap.size+1+1) (w1.heap.size+1+1+1) s (by omega) _ W1 (EF.below (ht.below (by omega) (λ_ h=>h.elim))) (by omega) (ht.blk hb1 (λh=>h)) (ht.blk hb2 (λh=>h)))
  (λ_=>rfl)
  (λpre W=>aj W w.heap.size 9 #[.string s]/\aj W w1.heap.size 9 #[.string mkS]/\(∃ v,vV (wL.heap.size+2) (w1.heap.size+1) v (M.repair s.data.toList pre) W)/\Below w.heap.size w W)
  (λ_ _ _=>False) ?hI (λ_ _ _ _ h _=>h) ⟨hbs,hmk,⟨_,QZ⟩,OO⟩
  (λx a1 W=>∃ ub,wL.heap.size+2<=ub/\aj W ub 106 #[.int .i64 (x.2.1:Int), .bool x.2.2]/\a1={ tmps:=#[.string s, .pointer (some ⟨w.heap.size,0,none⟩), .string ⟨#[]⟩, .pointer (some ⟨w1.heap.size,0,none⟩), .int .i64 0, .pointer (some ⟨w1.heap.size+1,0,none⟩), .int .i64 (x.1:Int), .pointer (some ⟨ub,0,none⟩),undef, .tuple #[.string mkS, .int .i64 0], .tuple #[.string mkS, .int .i64 0], .string mkS, .int .i64 0, .string s, .agg #[.string s], .agg #[.string s], .pointer (some ⟨w1.heap.size+1+1,0,none⟩), .func (.func 97) #[] #[.pointer (some ⟨w1.heap.size+1+1+1,0,none⟩)], .int .i64 (x.1:Int), .agg #[.int .i64 (x.2.1:Int), .bool x.2.2],undef,undef,undef,undef,undef,undef,undef,undef,undef,undef,undef,undef,undef,undef,undef,undef,undef],defers:=[] })
  ?hAx ?assign ?body ?done (λ_ _ _ _ h _=>h.elim) (λ_ _ _ h _=>h))
 case hI =>
  rintro pre W W' ⟨h1,h2,⟨v,h3⟩,h4⟩ ht;exact⟨ht.blk h1 (by rintro(h | h);exact h;omega),ht.blk h2 (by rintro(h | h);exact h;omega),⟨v,h3.turns ht (by rintro(h | h);exact h;omega) (λk hk=>by have:=(h3.own.lt k hk).1;rintro(h | h);exact h;omega)⟩,h4.trans (ht.below h4.size (λk hk=>by rcases hk with h | h;exact h.elim;omega))⟩
 case hAx =>
  rintro x a1 W W' ⟨ub,h1,h2,h3⟩ ht;exact⟨ub,h1,ht.blk h2 (by omega),h3⟩
 case assign =>
  intro x W K hW hK;unfold MV
  gi_wp2
  exact hK _ _ (Turns.alloc _ _) ⟨W.heap.size,hW,aj.new _ _ _,rfl⟩
 case body =>
  rintro pre x a1 W0 W N hW0 ⟨h1,h2,⟨v,h3⟩,h4⟩ ht hN hok ⟨ub,hub,hbx,rfl⟩;have hlen:=agU hok;rw [<- aU.o] at hlen;obtain⟨hm1,hm2,Gy⟩:=amN hok;rw [<- aU.o] at Gy;have hrl:=acn s.data.toList pre hm1;have hs1:=ht.size;have k1:=ht.blk h1 (by rintro(h | h);exact h;omega);have k2:=ht.blk h2 (by rintro(h | h);exact h;omega);have k3:=h3.turns ht (by rintro(h | h);exact h;omega) (λk hk=>by have:=(h3.own.lt k hk).1;rintro(h | h);exact h;omega);have k4:=h4.trans (ht.below h4.size (λk hk=>by rcases hk with h | h;exact h.elim;omega));have HOL:=bx h3.own.lt;have x0:W.cell? ⟨ub,0,none⟩=some (.int .i64 (x.2.1:Int)):=(hbx.cell 0).trans rfl;have x1:W.cell? ⟨ub,1,none⟩=some (.bool x.2.2):=(hbx.cell 1).trans rfl;have x2:=hbx.lt;have y0:W.cell? ⟨w.heap.size,0,none⟩=some (.string s):=(k1.cell 0).trans rfl;have y1:W.cell? ⟨w1.heap.size,0,none⟩=some (.string mkS):=(k2.cell 0).trans rfl;have y2:=k1.lt;have y3:=k2.lt;have K1:=bx k1;have K2:=bx k2;have K3:=bx k3;have K4:=bx k4;have jJ:=bx (Uj s.data.toList pre x);obtain⟨xa,xm,xo⟩:=x;have hxa:xa<=100000:=by have h:xa+xm<=s.size:=Gy;omega
  have hxm:xm<=4:=hm2;have hxs:xa+xm<=s.size:=Gy;clear h1 h2 h3 h4 k1 k2 k3 k4 hbx hb0 hb1 hb2 hbL EF hok ht hmk hbs OO QZ hm1 hm2 Gy
  cases xo with
  | true =>
   have hxe:(s.extract xa (xa+xm)).data.toList=(s.data.toList.drop xa).take xm:=by rw [Lib.extract_data];congr 1;omega
   have HXE:=bx hxe;have hxz:(s.extract xa (xa+xm)).size<=4:=by rw [size_eq,hxe,List.length_take];omega
   clear hxe
   gi_wp2
   refine⟨trivial,((callsIn_wide (n:=6)).2 (Zk (wL.heap.size+2) (w1.heap.size+1) v _ (s.extract xa (xa+xm)) _ (K3.o.turns (Turns.alloc (own:=λ_=>False) W _) (λh=>h) (λ_ _ h=>h)) (by omega) (by omega) (by simp;omega))).mono ?_⟩;rintro e w3 ⟨rfl,⟨v',hbv⟩,ht3⟩;have bI:=bx (show vV (wL.heap.size+2) (w1.heap.size+1) v' (M.repair s.data.toList (pre++[(xa,xm,true)])) w3 by
    rw [jJ.o];rw [HXE.o] at hbv;exact hbv)
   have hT:=(Turns.alloc (own:=λk=>k=w1.heap.size+1\/v.ownBlock=some k) W (.cells #[.int .i64 xm, .bool true] 106)).trans ht3;have HT:=bx hT;clear hbv ht3 hT
   gi_wp2
   refine⟨Holds.xJ HT.o (λk hk=>by omega) (λk hk h=>?_),HT.o.blk K1.o (λh=>?_),HT.o.blk K2.o (λh=>?_),⟨v',bI.o⟩,K4.o.trans (HT.o.below K4.o.size (λk hk=>?_))⟩
   ·rcases h with h | h
    ·omega
    ·have:=HOL.o k h;omega
   ·rcases h with h | h
    ·omega
    ·have:=HOL.o _ h;omega
   ·rcases h with h | h
    ·omega
    ·have:=HOL.o _ h;omega
   ·rcases hk with h | h
    ·omega
    ·have:=HOL.o _ h;omega
  | false =>
   gi_wp2
   refine⟨trivial,((callsIn_wide (n:=6)).2 (Zk (wL.heap.size+2) (w1.heap.size+1) v _ mkS _ (K3.o.turns (Turns.alloc (own:=λ_=>False) W _) (λh=>h) (λ_ _ h=>h)) (by show _+3<=_;omega) (by omega) (by simp;omega))).mono ?_⟩;rintro e w3 ⟨rfl,⟨v',hbv⟩,ht3⟩;have bI:=bx (show vV (wL.heap.size+2) (w1.heap.size+1) v' (M.repair s.data.toList (pre++[(xa,xm,false)])) w3 by
    rw [jJ.o]
    skip
    exact hbv)
   have hT:=(Turns.alloc (own:=λk=>k=w1.heap.size+1\/v.ownBlock=some k) W (.cells #[.int .i64 xm, .bool true] 106)).trans ht3;have HT:=bx hT;clear hbv ht3 hT
   gi_wp2
   refine⟨Holds.xJ HT.o (λk hk=>by omega) (λk hk h=>?_),HT.o.blk K1.o (λh=>?_),HT.o.blk K2.o (λh=>?_),⟨v',bI.o⟩,K4.o.trans (HT.o.below K4.o.size (λk hk=>?_))⟩
   ·rcases h with h | h
    ·omega
    ·have:=HOL.o k h;omega
   ·rcases h with h | h
    ·omega
    ·have:=HOL.o _ h;omega
   ·rcases h with h | h
    ·omega
    ·have:=HOL.o _ h;omega
   ·rcases hk with h | h
    ·omega
    ·have:=HOL.o _ h;omega
 case done =>
  intro xs W hW hS ⟨h1,h2,⟨v,h3⟩,h4⟩ hD;have uz:=bx (anq (wL.heap.size+2) (w1.heap.size+1) v (M.repair s.data.toList xs) W h3);have HOL:=bx h3.own.lt;have H4:=bx h4;have HD:=bx hD;have HV:=bx (show M.repair s.data.toList xs=M.fix s.data.toList by rw [hS];rfl);have hws:=h4.size;have anY:w1.heap.size+1+3<=wL.heap.size:=by omega
  clear hsz h1 h2 h3 h4 hD hb0 hb1 hb2 hbL EF hmk hbs OO QZ hS;go_wp2_with fail;refine uz.o.mono ?_;rintro e w2 ⟨rfl,DJ⟩;have HD2:=bx ((DJ.block wL.heap.size (by omega) (λh=>by have:=HOL.o _ h;omega)).trans HD.o);have BL:=bx (H4.o.trans (DJ.below H4.o.size (λk hk=>by have:=HOL.o _ hk;omega)));clear DJ;go_wp2_with fail;refine⟨by simp, .inl ⟨_,_,rfl,run_takeDeferred HD2.o,?_⟩⟩;refine⟨_,results_tmp rfl _ _ _,?_⟩;exact⟨by rw [<- HV.o];rfl,BL.o.trans ((Turns.putObj (own:=λk=>k=wL.heap.size) w2 rfl _).below BL.o.size (λk hk=>by omega))⟩
def Zc:Option M.Place->Nat
 | none=>0
 | some x=>x.2.1
def cv (pl:List M.Place) (q:Int):Value:=.complex .f64 (fN (Zc (M.fwd pl q))) (fN (Zc (M.bwd pl q)))
end
section
open Go.RowKit Go.Shelf
attribute [local go_sem] Oper.semAt_some
theorem alv (P:Program) (w:World) (k:FloatKind) (b:Nat):(Op.unary .neg (.float k b)).run P w = .ok (.float k (Op.negFloat k b)) w:=rfl
attribute [local go_sem] alv
theorem aei {l:List UInt8} {x:M.Place} (h:x∈M.places l):x.1<l.length/\x.1+x.2.1<=l.length/\1<=x.2.1/\x.2.1<=4:=by
 rw [<- M.zC] at h;have:=M.BX l 0 x h;exact⟨this.2.1,this.2.2.2.1,this.2.2.2.2.1,this.2.2.2.2.2⟩
end
section
open Go.RowKit
section
variable {A:Nat->Addr} {B:Nat} {W0 w w':World}
end
def aoH (s:ByteArray):ByteArray:=if 300<s.size then s.extract 0 300 else s
theorem Ri (l:List UInt8):(M.fix l).length<=4*l.length:=by
 have h1:=acn l (M.places l) (λx hx=>(aei hx).2.2.2);have h2:=sS l;unfold M.fix;omega
end
section
open Go.Shelf Go.Proofs
def ac4:Go.Shelf.Ren:=⟨fun | 156=>39 | 165=>78 | 166=>52 | 169=>53 | 240=>99 | 241=>129 | 276=>150 | 277=>173 | n=>n,fun | 31=>48 | 9=>9 | 3=>3 | 4=>4 | 0=>0 | 20=>20 | 72=>96 | 76=>107 | 70=>93 | 37=>94 | 75=>70 | 127=>160 | 164=>234 | 5=>5 | 80=>109 | n=>n,fun | n=>n⟩
theorem ZG:Go.Proofs.Lays.n156 Tryz.prog ac4:={
 mixed:=by kernel_rfl
 f156:=Tryz.func39.trans (congrArg some (by kernel_rfl))
 f165:=Tryz.func78.trans (congrArg some (by kernel_rfl))
 f166:=Tryz.func52.trans (congrArg some (by kernel_rfl))
 f169:=Tryz.func53.trans (congrArg some (by kernel_rfl))
 f240:=Tryz.func99.trans (congrArg some (by kernel_rfl))
 f241:=Tryz.func129.trans (congrArg some (by kernel_rfl))
 f276:=Tryz.func150.trans (congrArg some (by kernel_rfl))
 f277:=Tryz.func173.trans (congrArg some (by kernel_rfl))
 t0:=Tryz.underlying0
 a0:=Tryz.isAgg0
 z0:=Tryz.sizeOf0
 v0:=Tryz.zeroValue0
 t3:=Tryz.underlying3
 a3:=Tryz.isAgg3
 z3:=Tryz.sizeOf3
 v3:=Tryz.zeroValue3
 t4:=Tryz.underlying4
 a4:=Tryz.isAgg4
 z4:=Tryz.sizeOf4
 v4:=Tryz.zeroValue4
 t9:=Tryz.underlying9
 a9:=Tryz.isAgg9
 z9:=Tryz.sizeOf9
 v9:=Tryz.zeroValue9
 t20:=Tryz.underlying20
 a20:=Tryz.isAgg20
 z20:=Tryz.sizeOf20
 v20:=Tryz.zeroValue20
 t31:=Tryz.underlying48
 a31:=Tryz.isAgg48
 z31:=Tryz.sizeOf48
 v31:=Tryz.zeroValue48
 t37:=Tryz.underlying94
 a37:=Tryz.isAgg94
 z37:=Tryz.sizeOf94
 v37:=Tryz.zeroValue94
 t70:=Tryz.underlying93
 a70:=Tryz.isAgg93
 z70:=Tryz.sizeOf93
 v70:=Tryz.zeroValue93
 t72:=Tryz.underlying96
 a72:=Tryz.isAgg96
 z72:=Tryz.sizeOf96
 v72:=Tryz.zeroValue96
 t75:=Tryz.underlying70
 a75:=Tryz.isAgg70
 z75:=Tryz.sizeOf70
 v75:=Tryz.zeroValue70
 t76:=Tryz.underlying107
 a76:=Tryz.isAgg107
 z76:=Tryz.sizeOf107
 v76:=Tryz.zeroValue107
 t127:=Tryz.underlying160
 a127:=Tryz.isAgg160
 z127:=Tryz.sizeOf160
 v127:=Tryz.zeroValue160
 t164:=Tryz.underlying234
 a164:=Tryz.isAgg234
 z164:=Tryz.sizeOf234
 v164:=Tryz.zeroValue234 }
theorem aaO:Builder.Extra Tryz.prog ac4:={
 sizeBuilder:=by kernel_rfl
 liesBuilder:=by kernel_rfl
 t5:=Tryz.underlying5
 a5:=Tryz.isAgg5
 z5:=Tryz.sizeOf5
 v5:=Tryz.zeroValue5
 infoByte:=by kernel_rfl
 cellsByte:=by kernel_rfl
 sizeByte:=by kernel_rfl
 neB5:=by decide }
open Go.RowKit in
theorem aiN (a:Option Addr) (c:Nat) (sep:ByteArray) (w:World) :
  Calls Tryz.prog 39 #[.slice a 0 c, .string sep] w λe w'=>e = .returned (.string ⟨#[]⟩)/\w'=w:=Any.strings_Join_none ZG aaO a c sep w
open Go.RowKit in
theorem ahT (bk o c:Nat) (xs:List ByteArray) (sep:ByteArray) (w:World) (hcells:∀ (j:Nat) x,xs[j]?=some x->w.cell? ⟨bk,o+j,none⟩=some (.string x)) (hbk:bk<w.heap.size) (hN:xs.length<=140737488355328) (hcap:xs.length<=c) (hlen:(Lib.join (xs.map (·.data.toList)) sep.data.toList).length<=140737488355328) :
  Calls Tryz.prog 39 #[.slice (some ⟨bk,o,none⟩) xs.length c, .string sep] w λe w'=>e = .returned (.string ⟨(Lib.join (xs.map (·.data.toList)) sep.data.toList).toArray⟩)/\Below w.heap.size w w':=Any.strings_Join ZG aaO bk o c xs sep w hcells hbk hN hcap hlen
end
section
open Go.RowKit
theorem abL (cs:List (List UInt8)):(cs.map bs).map (·.data.toList)=cs:=by
 rw [List.map_map];exact(List.map_congr_left (λx _=>qP x)).trans (List.map_id _)
theorem YD (cs:List (List UInt8)):Lib.join cs []=cs.flatten:=by
 cases cs with
 | nil=>rfl
 | cons x r =>
  rw [Lib.join_cons,List.flatten_cons];unfold Lib.joinTail;simp
theorem aj1 (v:Value) (cs:List (List UInt8)) (sep:List UInt8) (w:World) (hv:dI w v cs) (hz:(Lib.join cs sep).length<=140737488355328) (hn:cs.length<=140737488355328) :
  Calls Tryz.prog 39 #[v, .string (bs sep)] w λe w'=>e = .returned (.string (bs (Lib.join cs sep)))/\Below w.heap.size w w':=by
 by_cases h0:cs=[]
 ·subst h0;obtain⟨a,cap,rfl,-⟩:=hv.slice;refine(aiN a cap (bs sep) w).mono ?_;rintro e w' ⟨rfl,rfl⟩;exact⟨rfl,Below.refl _ _⟩
 ·obtain⟨b,off,cap,rfl,h1,h2,h3,h4⟩:=hv.get h0;have h:=ahT b off cap (cs.map bs) (bs sep) w (λj x hx=>by
   rw [List.getElem?_map] at hx;obtain⟨y,hy,rfl⟩:=Option.map_eq_some_iff.1 hx;exact h4 j y hy) h3 (by rw [List.length_map];exact hn) (by rw [List.length_map];exact h1) (by rw [abL,qP];exact hz)
  rw [abL,qP,List.length_map] at h;exact h
theorem ace (v:Value) (cs:List (List UInt8)) (w:World) (hv:dI w v cs) (hz:cs.flatten.length<=140737488355328) (hn:cs.length<=140737488355328) :
  Calls Tryz.prog 39 #[v, .string (bs [])] w λe w'=>e = .returned (.string (bs cs.flatten))/\Below w.heap.size w w':=by
 have h:=aj1 v cs [] w hv (by rw [YD];exact hz) hn;rw [YD] at h;exact h
end
end Go.Proofs.YtdenoeakcflnmaaGreatDoor
