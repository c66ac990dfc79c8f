/- Texts of this claim. -/
import Derived.Laws.IdiomRangeMap
import Derived.Test.YtdponihkpomheaaGreatDoorH10

set_option maxHeartbeats 8000000
set_option maxRecDepth 100000
namespace Go.Proofs.YtdponihkpomheaaGreatDoor
open Go.RowKit
open Tryz
def inB (L:Nat) (f:Int):Bool:=decide (f<2 ^ L)
theorem div_pow (q L:Nat):((q:Int) / 2 ^ L==0)=inB L (q:Int):=by
 unfold inB;rw [show (2:Int) ^ L=((2 ^ L:Nat):Int) by simp,ny,lN,decide_eq_true_iff];have hp:0<2 ^ L:=Nat.two_pow_pos L
 constructor
 ·intro h;have h1:((q / 2 ^ L:Nat):Int)=0:=by rw [<- h];simp
  have h2:q / 2 ^ L=0:=by omega
  have:=(Nat.div_eq_zero_iff_lt hp).1 h2;omega
 intro h;have h2:q<2 ^ L:=by omega
 have:=Nat.div_eq_of_lt h2;rw [show (q:Int) / ((2 ^ L:Nat):Int)=((q / 2 ^ L:Nat):Int) by simp,this]
 rfl
theorem akk (q:Nat) (_hq:q<1099511627776) (bm:Nat) (na:Option Addr) (L nc:Nat) (hL:L<=40) (w:World) (hc:w.cell? ⟨bm,0,none⟩=some (.slice na L nc)) (_hlt:bm<w.heap.size) :
  Calls prog 274 #[ah q, aA bm] w λe w'=>e = .returned (.bool (!inB L q))/\w=w':=by
 have HD:=bx (div_pow q L)
 go_in
 go_wp2
 go_ret
 refine⟨aY ?_,rfl⟩;rw [<- HD.o];simp [bne]
theorem arv (v:Value) (xs:List Int) (hx:∀ x∈xs,0<=x/\x<1099511627776) (bm:Nat) (na:Option Addr) (L nc:Nat) (hL:L<=40) (w:World) (hv:aN w v xs) (hz:xs.length<=16777216) (hc:w.cell? ⟨bm,0,none⟩=some (.slice na L nc)) (hlt:bm<w.heap.size) :
  Calls prog 307 #[v, .func (.func 274) #[] #[aA bm]] w λe w'=>(∃ i:Int,e = .returned (ah i)/\decide (0<=i)=!xs.all (inB L))/\w=w':=by
 have mO:=bx hv;obtain⟨ao,cap,rfl⟩:=hv.slice;have HO:=bx (λt ht=>akk t ht bm na L nc hL w hc hlt);have Bf:=bx hx;clear hv hc hx
 go_in
 go_wp2
 go_loop [8] (λi=>∃ k:Nat,k<=xs.length/\i = ah k/\Box ((xs.take k).all (inB L)=true)) (λi=>xs.length-(intOf i).toNat)
 ·exact⟨0,by omega,rfl,⟨rfl⟩⟩
 obtain⟨k,hk,rfl,ha⟩:=hrel
 by_cases hlt':k<xs.length
 ·obtain⟨x,hx⟩:∃ x,xs[k]?=some x:=⟨_,dW hlt'⟩
  obtain⟨g,off,cap2,hg1,hg2,hg3,hg4,hg5⟩:=mO.o.get (by rintro rfl;simp at hlt');obtain⟨rfl,rfl⟩:=dQ hg1;obtain⟨x0,x1⟩:=Bf.o x (dB hx);obtain⟨q,rfl⟩:=oJ x0;have hq:q<1099511627776:=by omega
  have hcx:=hg5 k _ hx;have HX:=bx hx;unfold maxLen at hg3;clear hx hg1 hg5 x0 x1
  cases hi:inB L (q:Int) with
  | true =>
   have HT:=bx (show (xs.take (k+1)).all (inB L)=true by rw [jw,HX.o,List.all_append,ha.o];simp [hi]);have HI:=bx (show (!inB L (q:Int))=false by rw [hi];rfl);clear hi;go_wp2_with fail;refine aP (HO.o q hq) ?_;rw [HI.o];go_wp2_with fail
   go_round
   ·exact⟨k+1,hlt',by go_num,HT⟩
   simp [intOf];omega
  | false =>
   have HT:=bx (show xs.all (inB L)=false by
    rw [Bool.eq_false_iff];intro h;rw [jG] at h;rw [h _ (dB HX.o)] at hi
    cases hi)
   have HI:=bx (show (!inB L (q:Int))=true by rw [hi];rfl);clear hi;go_wp2_with fail;refine aP (HO.o q hq) ?_;rw [HI.o]
   go_wp2
   go_ret
   exact⟨⟨k,rfl,by rw [HT.o];simp⟩,rfl⟩
 have HT:=bx (show xs.all (inB L)=true by have:=ha.o;rwa [gq (by omega)] at this)
 go_wp2
 go_ret
 exact⟨⟨-1,rfl,by rw [HT.o];rfl⟩,rfl⟩
theorem an4 (v:Value) (xs:List Int) (hx:∀ x∈xs,0<=x/\x<1099511627776) (bm:Nat) (na:Option Addr) (L nc:Nat) (hL:L<=40) (w:World) (hv:aN w v xs) (hz:xs.length<=16777216) (hc:w.cell? ⟨bm,0,none⟩=some (.slice na L nc)) (hlt:bm<w.heap.size) :
  Calls prog 273 #[v, .func (.func 274) #[] #[aA bm]] w λe w'=>e = .returned (.bool (!xs.all (inB L)))/\w=w':=by
 have HI:=bx (arv v xs hx bm na L nc hL w hv hz hc hlt);clear hv hc hx
 go_in
 go_wp2_with fail;refine HI.o.mono ?_;rintro e w1 ⟨⟨i,rfl,hi⟩,rfl⟩;have HX:=bx hi;clear hi
 go_wp2
 go_ret
 exact⟨aY (by simpa using HX.o),rfl⟩
theorem ah3 (v:Value) (xs:List Int) (hx:∀ x∈xs,0<=x/\x<1099511627776) (na:Option Addr) (L nc:Nat) (hL:L<=40) (w:World) (hv:aN w v xs) (hz:xs.length<=16777216) :
  Calls prog 208 #[v, .slice na L nc] w λe w'=>e = .returned (.bool (xs.all (inB L)))/\ak w w':=by
 obtain⟨W,hW⟩:∃ W,W=w.alloc (.cells #[.slice na L nc] 26):=⟨_,rfl⟩
 have hbW:ak w W:=by rw [hW];exact dA w _
 have hbk:aC W w.heap.size 26 #[.slice na L nc]:=by rw [hW];exact aC.new _ _ _
 have HC:=bx (an4 v xs hx w.heap.size na L nc hL W (hv.below hbW) hz ((hbk.cell 0).trans rfl) hbk.lt);have HW:=bx hW;have HB:=bx hbW;obtain⟨ao,cap,rfl⟩:=hv.slice;clear hv hx hW hbW hbk
 go_in
 go_wp2_with fail;rw [<- HW.o];refine aP HC.o ?_
 go_wp2
 go_ret
 exact⟨aY (by simp),HB.o⟩
theorem PK {P:Program} {f:FuncId} {args:Array Value} {v v':Value} {W:World} {Inv:World->Prop} (h:Calls P f args W λe w'=>e = .returned v/\ak W w') (hv:v=v') (hI:∀ w',ak W w'->Inv w') :
  Calls P f args W λe w''=>e = .returned v'/\∃ m:CW Inv,w''=m.w:=hv▸wY h hI
theorem ahi {R:List D.Rule} {ks:List Int} {f:Nat} {p:Int} {k:Nat} {x:D.Rule} (hx:R[k]?=some x) (h:f.testBit k=false\/uU x.2.1.1 x.2.1.2 ks p=false):G.hit R ks f p k=false:=by
 unfold G.hit;rw [hx]
 rcases h with h | h <;> simp [h]
theorem amO {R:List D.Rule} {ks:List Int} {f:Nat} {p:Int} {k:Nat} {x:D.Rule} (hx:R[k]?=some x) (h:f.testBit k=true) (h2:uU x.2.1.1 x.2.1.2 ks p=true):G.hit R ks f p k=true:=by
 unfold G.hit;rw [hx];simp [h,h2]
theorem apL (cb:Nat) (nv fv rv lv:Value) (R:List D.Rule) (ks:List Int) (p:Int) (f:Nat) (w:World) (hC:aC w cb 291 #[nv,fv,rv,lv]) (hR:iD w rv R) (hL:aN w lv ks) (hf:∀ x∈R,uS x) (hks:ks.length<=900) (hfl:f<1099511627776) (hRl:R.length<=40) :
  Calls prog 212 #[aA cb, ah p, ah f] w λe w'=>e = .returned (.bool (G.JK R ks f p))/\ak w w':=by
 have HC:=bx hC;have HR:=bx hR;have HL:=bx hL;have HF:=bx hf;have hcl:=hC.lt;obtain⟨ro,rc,rfl⟩:=hR.slice;have c0:w.cell? ⟨cb,2,none⟩=some (.slice ro R.length rc):=(hC.cell 2).trans rfl;clear hC hR hL hf
 go_in
 go_wp2_with fail
 go_loopw [14] (λi wr=>∃ k:Nat,k<=R.length/\i = ah k/\Box (∀ i,i<k->G.hit R ks f p i=false)/\Box (ak w wr)) (λi _=>R.length-(intOf i).toNat)
 ·exact⟨0,nK _,rfl,⟨λi hi=>by omega⟩,⟨Below.refl _ _⟩⟩
 obtain⟨k,hk,rfl,hno,hb⟩:=hrel;clear c0
 by_cases hlt:k<R.length
 ·obtain⟨x,hx⟩:=bV R k hlt;obtain⟨g,off,cap,k1,k2,k3,k4,k5⟩:=(HR.o.below hb.o).get (by rintro rfl;simp at hlt);obtain⟨rfl,rfl⟩:=dQ k1;obtain⟨vl,vr,r0,r1,r2,r3,r4,hil,hir⟩:=k5 k x hx;obtain⟨al,acl,rfl⟩:=hil.slice;obtain⟨ar,PW,rfl⟩:=hir.slice;have hfit:=(HF.o x (dB hx)).2;obtain⟨V,hV⟩:∃ V,V=wr.alloc (.cells #[.bool x.1.1,(.slice al x.1.2.length acl), .bool x.2.1.1,(.slice ar x.2.1.2.length PW), .bool x.2.2] 254):=⟨_,rfl⟩
  have MI:ak wr V:=by rw [hV];exact dA wr _
  have dn:=bx (aK hV);have fV:=bx (show ak w V from bt hb.o MI);have HAH:=bx (λ(W:World) (h:ak V W)=>apJ x.2.1.1 (.slice ar x.2.1.2.length PW) x.2.1.2 lv ks p W ((hir.below MI).below h) hfit ((HL.o.below fV.o).below h) hks);have HX:=bx hx;have ht:=agL f k (by omega);have pJ:=bx (show G.hit R ks f p k=false->∀ i,i<k+1->G.hit R ks f p i=false from λh i hi=>by
   rcases gZ i k with h1 | h1
   ·exact hno.o i h1
   obtain rfl:i=k:=by omega
   exact h)
  have hcV:=HC.o.below fV.o hcl;have QS:V.cell? ⟨cb,3,none⟩=some lv:=(hcV.cell 3).trans rfl;have b2:V.cell? ⟨wr.heap.size,2,none⟩=some (.bool x.2.1.1):=(dn.o.cell 2).trans rfl;have b3:V.cell? ⟨wr.heap.size,3,none⟩=some (.slice ar x.2.1.2.length PW):=(dn.o.cell 3).trans rfl;have vT:=bx hV;have kK:=bx hcV.lt;have aga:k<40:=by omega
  unfold maxLen at k3;clear k1 k5 hx hil hir hV MI hcV
  cases hbit:f.testBit k with
  | false =>
   have HN:=bx (pJ.o (ahi HX.o (.inl hbit)));have HDR:=bx (λm=>fV.o.trans ((below_drewN (Below.refl V.heap.size V) m).mono fV.o.size));rw [hbit] at ht;clear hbit
   go_upto_region 4 with(fail)
   rw [<- vT.o]
   go_quiet (fail)
   go_wp2
   go_roundw
   ·exact⟨k+1,hlt,by go_num,HN,⟨HDR.o _⟩⟩
   simp [intOf];omega
  | true =>
   rw [hbit] at ht
   cases hah:uU x.2.1.1 x.2.1.2 ks p with
   | false =>
    have HN:=bx (pJ.o (ahi HX.o (.inr hah)));obtain⟨Inv,hI1,hI2⟩:∃ Inv:World->Prop,(∀ W,Inv W->ak V W)/\(∀ W,ak V W->Inv W):=⟨_,λ_ h=>h,λ_ h=>h⟩
    have iT:=bx (show ∀ q:CW Inv,ak V q.w from λq=>hI1 _ q.h);have BK:=bx (show ∀ (q:CW Inv) w',Below q.w.heap.size q.w w'->Inv w' from λq w' h=>hI2 _ ((iT.o q).trans (h.mono (iT.o q).size)));have q0:∀ q:CW Inv,q.w.cell? ⟨cb,3,none⟩=some lv:=λq=>((iT.o q).cell (p:=⟨cb,3,none⟩) kK.o).trans QS
    have q1:∀ q:CW Inv,q.w.cell? ⟨wr.heap.size,2,none⟩=some (.bool x.2.1.1):=λq=>((iT.o q).cell (p:=⟨wr.heap.size,2,none⟩) dn.o.lt).trans b2
    have q2:∀ q:CW Inv,q.w.cell? ⟨wr.heap.size,3,none⟩=some (.slice ar x.2.1.2.length PW):=λq=>((iT.o q).cell (p:=⟨wr.heap.size,3,none⟩) dn.o.lt).trans b3
    have K1:=bx (λq:CW Inv=>PK (HAH.o q.w (iT.o q)) (show Value.bool (uU x.2.1.1 x.2.1.2 ks p) = .bool false by rw [hah]) (BK.o q));have HDR:=bx (hI2 _ (jg V 1));clear hbit hah hI1 hI2
    go_upto_region 4 with(fail)
    rw [<- vT.o];clear QS b2 b3;refine Aq Inv (by kernel_rfl) (by kernel_rfl) HDR.o (λhne=>?_)
    repeat (any_goals (first | go_big_quiet_step ((go_at_call 278;exact K1.o _)) | quiet_step ((go_at_call 278;exact K1.o _))))
    refine wpQuiet_nil ?_;rintro w7 ⟨q7,rfl⟩;have bW:=bx (fV.o.trans ((iT.o q7).mono fV.o.size));clear q0 q1 q2 hne
    go_wp2
    go_roundw
    ·exact⟨k+1,hlt,by go_num,HN,bW⟩
    simp [intOf];omega
   | true =>
    have HN:=bx (G.axK HX.o (amO HX.o hbit hah) hno.o);obtain⟨Inv,hI1,hI2⟩:∃ Inv:World->Prop,(∀ W,Inv W->ak V W)/\(∀ W,ak V W->Inv W):=⟨_,λ_ h=>h,λ_ h=>h⟩
    have iT:=bx (show ∀ q:CW Inv,ak V q.w from λq=>hI1 _ q.h);have BK:=bx (show ∀ (q:CW Inv) w',Below q.w.heap.size q.w w'->Inv w' from λq w' h=>hI2 _ ((iT.o q).trans (h.mono (iT.o q).size)));have q0:∀ q:CW Inv,q.w.cell? ⟨cb,3,none⟩=some lv:=λq=>((iT.o q).cell (p:=⟨cb,3,none⟩) kK.o).trans QS
    have q1:∀ q:CW Inv,q.w.cell? ⟨wr.heap.size,2,none⟩=some (.bool x.2.1.1):=λq=>((iT.o q).cell (p:=⟨wr.heap.size,2,none⟩) dn.o.lt).trans b2
    have q2:∀ q:CW Inv,q.w.cell? ⟨wr.heap.size,3,none⟩=some (.slice ar x.2.1.2.length PW):=λq=>((iT.o q).cell (p:=⟨wr.heap.size,3,none⟩) dn.o.lt).trans b3
    have K1:=bx (λq:CW Inv=>PK (HAH.o q.w (iT.o q)) (show Value.bool (uU x.2.1.1 x.2.1.2 ks p) = .bool true by rw [hah]) (BK.o q));have HDR:=bx (hI2 _ (jg V 1));clear hbit hah hI1 hI2
    go_upto_region 4 with(fail)
    rw [<- vT.o];clear QS b2 b3;refine Aq Inv (by kernel_rfl) (by kernel_rfl) HDR.o (λhne=>?_)
    repeat (any_goals (first | go_big_quiet_step ((go_at_call 278;exact K1.o _)) | quiet_step ((go_at_call 278;exact K1.o _))))
    refine wpQuiet_nil ?_;rintro w7 ⟨q7,rfl⟩;have bW:=bx (fV.o.trans ((iT.o q7).mono fV.o.size));have b4:q7.w.cell? ⟨wr.heap.size,4,none⟩=some (.bool x.2.2):=((iT.o q7).cell (p:=⟨wr.heap.size,4,none⟩) dn.o.lt).trans ((dn.o.cell 4).trans rfl);clear q0 q1 q2 hne
    go_wp2
    go_ret
    exact⟨aY HN.o.symm,bW.o⟩
 have HN:=bx (G.ark (R:=R) (ks:=ks) (f:=f) (p:=p) (λi hi=>hno.o i (by omega)))
 go_wp2
 go_ret
 exact⟨aY HN.o.symm,hb.o⟩
section
attribute [local go_sem] Oper.semAt_some
def dR (x:F.bI):List Value:=[ah x.1, ah x.2.1, ah x.2.2]
def jO (w:World) (v:Value) (l:List F.bI):Prop:=nZ 3 w v (l.map dR)
theorem jO.below {w w':World} {v:Value} {l:List F.bI} (h:jO w v l) (hb:ak w w'):jO w' v l:=nZ.below h hb
theorem jO.slice {w:World} {v:Value} {l:List F.bI} (h:jO w v l):∃ a cap,v = .slice a l.length cap/\l.length<=cap/\cap<=9223372036854775807:=by
 have:=nZ.slice h
 rwa [aV] at this
theorem jO.get {w:World} {v:Value} {l:List F.bI} (h:jO w v l) (hn:l≠[]) :
  ∃ b off cap,v = .slice (some ⟨b,off,none⟩) l.length cap/\l.length<=cap/\cap<=maxLen/\b<w.heap.size/\∀ i x,l[i]?=some x->w.cell? ⟨b,off+i*3,none⟩=some (ah x.1)/\w.cell? ⟨b,off+i*3+1,none⟩=some (ah x.2.1)/\w.cell? ⟨b,off+i*3+2,none⟩=some (ah x.2.2):=by
 obtain⟨b,off,cap,h1,h2,h3,h4,h5⟩:=nZ.get h (by simpa using hn);rw [aV] at h1 h2;refine⟨b,off,cap,h1,h2,h3,h4,λi x hx=>?_⟩;have hc:(l.map dR)[i]?=some (dR x):=by rw [eX,hx];rfl
 exact⟨h5 i _ hc 0 _ rfl,h5 i _ hc 1 _ rfl,h5 i _ hc 2 _ rfl⟩
theorem jO.iy {w:World} {base n:Nat} {T:TypeId} {v:Value} {l:List F.bI} (h:w.ownsRow base T 3 v n (l.flatMap dR)) (hn:n=l.length):jO w v l:=by
 rw [QV] at h;exact nZ.iy h (by rw [aV];exact hn) (λc hc=>by obtain⟨y,-,rfl⟩:=jM.1 hc;rfl)
theorem aiO (x:F.bI) (w:World):Calls prog 255 #[.agg #[ah x.1, ah x.2.1, ah x.2.2]] w λe w'=>e = .returned (.bool (F.Gn x))/\ak w w':=by
 obtain⟨a,b,c⟩:=x;unfold F.Gn;simp only;have hb:ak w (w.alloc (.cells #[ah a, ah b, ah c] 245)):=aZ.alloc aU _;have HB:=bx hb;clear hb
 go_in
 go_wp2_with fail
 all_goals go_returns
 all_goals exact⟨aY (by first | rfl | (rw [ny];simp;done) | (rw [ny];simp;omega)),HB.o⟩
theorem aeI (v:Value) (l:List F.bI) (w:World) (hv:jO w v l) (hok:F.uy l=true) :
  Calls prog 188 #[v] w λe w'=>e = .returned (.bool true)/\ak w w':=by
 unfold F.uy at hok;rw [dD,fD,jG] at hok;obtain⟨hall,Xl⟩:=hok;have qK:=bx hall;have HV:=bx hv;obtain⟨a,cap,rfl,hc1,hc2⟩:=hv.slice;clear hv hall
 go_in
 go_wp2_with fail
 go_loopw [3] (λi wr=>∃ k:Nat,k<=l.length/\i = ah k/\Box (ak w wr)) (λi _=>l.length-(intOf i).toNat)
 ·exact⟨0,by omega,rfl,⟨Below.refl _ _⟩⟩
 obtain⟨k,hk,rfl,hb⟩:=hrel
 by_cases hlt:k<l.length
 ·have hko:=qK.o k (oM.2 hlt);obtain⟨x,hx⟩:=bV l k hlt;have hgd:l.getD k (0,0,0)=x:=by rw [fO,hx];rfl
  rw [hgd,dD,Bool.or_eq_true,fD,fD] at hko;obtain⟨hr,hlo⟩:=hko;obtain⟨g,off,cap2,hg1,hg2,hg3,hg4,hg5⟩:=(HV.o.below hb.o).get (by rintro rfl;simp at hlt);obtain⟨rfl,rfl⟩:=dQ hg1;obtain⟨x0,x1,x2⟩:=hg5 k x hx;have wu:=bx (λW=>aiO x W);rw [hr] at wu;have um:=bx hlo;obtain⟨Inv,hI1,hI2⟩:∃ Inv:World->Prop,(∀ W,Inv W->ak wr W)/\(∀ W,ak wr W->Inv W):=⟨_,λ_ h=>h,λ_ h=>h⟩
  have iT:=bx (show ∀ q:CW Inv,ak wr q.w from λq=>hI1 _ q.h);have BK:=bx (show ∀ (q:CW Inv) w',Below q.w.heap.size q.w w'->Inv w' from λq w' h=>hI2 _ ((iT.o q).trans (h.mono (iT.o q).size)));have q0:∀ q:CW Inv,q.w.cell? ⟨g,off+k*3,none⟩=some (ah x.1):=λq=>((iT.o q).cell (p:=⟨g,off+k*3,none⟩) hg4).trans x0
  have q1:∀ q:CW Inv,q.w.cell? ⟨g,off+k*3+1,none⟩=some (ah x.2.1):=λq=>((iT.o q).cell (p:=⟨g,off+k*3+1,none⟩) hg4).trans x1
  have q2:∀ q:CW Inv,q.w.cell? ⟨g,off+k*3+2,none⟩=some (ah x.2.2):=λq=>((iT.o q).cell (p:=⟨g,off+k*3+2,none⟩) hg4).trans x2
  have K1:=bx (λq:CW Inv=>PK (wu.o q.w) rfl (BK.o q));have HDR:=bx (hI2 _ (jg wr 1));unfold maxLen at hg3
  rcases Ah k with h0 | h0
  ·have e0:decide (0<k)=false:=dh (by omega);clear hx hgd hr hlo hg1 hg5 x0 x1 x2 hI1 hI2 h0;go_wp2_with fail;refine Aq Inv (by kernel_rfl) (by kernel_rfl) HDR.o (λhne=>?_)
   repeat (any_goals (first | go_big_quiet_step ((go_at_call 255;exact K1.o _)) | quiet_step ((go_at_call 255;exact K1.o _))))
   refine wpQuiet_nil ?_;rintro w7 ⟨q7,rfl⟩;have bW:=bx (hb.o.trans ((iT.o q7).mono hb.o.size));clear q0 q1 q2 hne
   go_wp2
   go_roundw
   ·exact⟨k+1,hlt,by go_num,bW⟩
   simp [intOf];omega
  obtain⟨y,hy⟩:=bV l (k-1) (by omega);have hyd:l.getD (k-1) (0,0,0)=y:=by rw [fO,hy];rfl
  have hxy:y.2.1<x.1:=by
   rcases hlo with h | h
   ·omega
   rw [hyd] at h;exact h
  obtain⟨y0,y1,y2⟩:=hg5 (k-1) y hy;have q3:∀ q:CW Inv,q.w.cell? ⟨g,off+(k-1)*3+1,none⟩=some (ah y.2.1):=λq=>((iT.o q).cell (p:=⟨g,off+(k-1)*3+1,none⟩) hg4).trans y1
  have e0:decide (0<k)=true:=bD (by omega);have e1:decide (x.1<=y.2.1)=false:=dh (by omega);have i0:(0:Int)<=(k:Int)-1:=by omega
  have i1:(k:Int)-1<(l.length:Int):=by omega
  have i2:((k:Int)-1).toNat=k-1:=by omega
  clear hx hgd hr hlo hg1 hg5 x0 x1 x2 hI1 hI2 hy hyd y0 y1 y2;go_wp2_with fail;refine Aq Inv (by kernel_rfl) (by kernel_rfl) HDR.o (λhne=>?_)
  repeat (any_goals (first | go_big_quiet_step ((go_at_call 255;exact K1.o _)) | quiet_step ((go_at_call 255;exact K1.o _))))
  refine wpQuiet_nil ?_;rintro w7 ⟨q7,rfl⟩;have bW:=bx (hb.o.trans ((iT.o q7).mono hb.o.size));clear q0 q1 q2 q3 hne
  go_wp2
  go_roundw
  ·exact⟨k+1,hlt,by go_num,bW⟩
  simp [intOf];omega
 have lK:=bx hb.o
 go_wp2
 go_ret
 exact⟨aY (bD (by omega)),lK.o⟩
theorem akP {w:World} {base n s:Nat} {e:TypeId} {v:Value} {xs:List Value} (h:w.ownsRow base e s v n xs) {g:Nat} (hg:v.ownBlock=some g) (i:Nat) (hi:i<n*s) (u:Value):(w.setCell ⟨g,i,none⟩ u).ownsRow base e s v n (xs.set i u):=by
 refine⟨by rw [List.length_set];exact h.1,?_⟩
 rcases h.2 with⟨-,h0⟩ | ⟨g',cap,cur,rfl,h2,h3,h4,h5,h6,h7⟩
 ·subst h0;omega
 simp [Value.ownBlock] at hg;subst hg;refine .inr ⟨g',cap,cur.setIfInBounds i u,rfl,h2,aC.bJ (w:=w) (t:=e) h3 i u,h4,h5,by simpa using h6,?_⟩;rw [Array.toList_setIfInBounds,<- h7];generalize n*s=m at hi
 apply List.ext_getElem?
 intro j;rw [wE,List.getElem?_set,List.getElem?_set,wE,dw]
 by_cases hj:j<m
 ·simp only [hj,if_true]
  by_cases e1:i=j
  ·subst e1;simp only [if_true];have:i<min m cur.toList.length↔i<cur.toList.length:=by omega
   simp only [this]
  simp [e1]
 simp only [hj,if_false]
 by_cases e1:i=j
 ·omega
 simp [e1]
theorem Sep.amW {W:World} {ps:List Pc} (h:Sep ps W) (k:Nat) {base n s:Nat} {e:TypeId} {v:Value} {xs:List Value} (hk:ps[k]?=some (Pc.row base e s v n xs)) {g:Nat} (hg:v.ownBlock=some g) (i:Nat) (hi:i<n*s) (u:Value) :
  Sep (ps.set k (Pc.row base e s v n (xs.set i u))) (W.setCell ⟨g,i,none⟩ u) :=
 h.upd (own:=λq=>q=g) k hk (Turns.setCell (own:=λq=>q=g) W (p:=⟨g,i,none⟩) rfl u) (λq hq _=>by subst hq;exact hg) (akP (h.row k hk) hg i hi u) (λq hq=>.inl hq)
theorem ajW {w:World} {base n s:Nat} {e:TypeId} {v:Value} {xs:List Value} (h:w.ownsRow base e s v n xs) (hn:0<n):∃ (g cap:Nat) (cur:Array Value),v = .slice (some ⟨g,0,none⟩) n cap/\base<=g/\n<=cap/\cap<=9223372036854775807/\aC w g e cur/\∀ (i:Nat) (x:Value),xs[i]?=some x->cur[i]?=some x:=by
 rcases h.2 with⟨-,h0⟩ | ⟨g,cap,cur,rfl,h2,h3,h4,h5,h6,h7⟩
 ·omega
 refine⟨g,cap,cur,rfl,h2,h4,by unfold maxLen at h5;omega,h3,λi x hx=>?_⟩;rw [<- h7,wE] at hx
 split at hx
 ·rw [<- Array.getElem?_toList];exact hx
 cases hx
theorem qx:zk prog 164 245 3 24:=.mk' (z:=.agg #[ah 0, ah 0, ah 0]) underlying164 (by kernel_rfl) rfl
theorem zG (l:List F.bI):(l.flatMap dR).length=l.length*3:=by
 induction l with
 | nil=>rfl
 | cons x t ih=>rw [pq,bC,ih,dY];simp [dR];omega
theorem Xw (r:List F.bI) (y:F.bI) (j:Nat) (hj:j<3):((r++[y]).flatMap dR)[r.length*3+j]?=(dR y)[j]?:=by
 rw [oz,List.flatMap_singleton,yD (by rw [zG];omega),zG]
 congr 1
 omega
theorem asQ (r:List F.bI) (y:F.bI) (u:Int):((r++[y]).flatMap dR).set (r.length*3+1) (ah u)=(r++[(y.1,u,y.2.2)]).flatMap dR:=by
 rw [oz,oz,List.flatMap_singleton,List.flatMap_singleton,List.set_append,aF (by rw [zG];omega),zG,show r.length*3+1-r.length*3=1 by omega]
 rfl
theorem avC {ps:List Pc} (i:Nat) (base:Nat) (v:Value) (l:List F.bI) (x:F.bI) (w:World) (hS:Sep ps w) (hi:ps[i]?=some (Pc.row base 245 3 v l.length (l.flatMap dR))) (hz:l.length<=100000) (hl:∀ y∈l,0<=y.2.1/\y.2.1<=1114111) (hbase:base<=w.heap.size) :
  Calls prog 257 #[v, .agg #[ah x.1, ah x.2.1, ah x.2.2]] w λe w'=>∃ v',e = .returned v'/\Sep (ps.set i (Pc.row base 245 3 v' (F.yR l x).length ((F.yR l x).flatMap dR))) w':=by
 obtain⟨a,b,c⟩:=x;obtain⟨V,hV⟩:∃ V,V=w.alloc (.cells #[ah a, ah b, ah c] 245):=⟨_,rfl⟩
 have hsV:V.heap.size=w.heap.size+1:=by rw [hV];simp
 have O3:Sep (Pc.blk w.heap.size 245 #[ah a, ah b, ah c]::ps) V:=by rw [hV];exact hS.eu _ _
 have hbk:=O3.blk 0 rfl;have c0:V.cell? ⟨w.heap.size,0,none⟩=some (ah a):=(hbk.cell 0).trans rfl;have c1:V.cell? ⟨w.heap.size,1,none⟩=some (ah b):=(hbk.cell 1).trans rfl;have c2:V.cell? ⟨w.heap.size,2,none⟩=some (ah c):=(hbk.cell 2).trans rfl;have cl:=hbk.lt;have xJ:=bx O3;have HV:=bx hV;have HI:=bx hi;have hbs:base<=V.heap.size:=by omega
 -- one more behind them
 have ayt:=bx (show ∀ W,Sep (Pc.blk w.heap.size 245 #[ah a, ah b, ah c]::ps) W->Sep ps W from λW h=>h.tail)
 rcases List.eq_nil_or_concat l with rfl | ⟨r,y,rfl⟩
 ·have HA:=bx (show F.yR [] (a,b,c)=[(a,b,c)] from rfl);obtain⟨oo,oc,rfl,-,-⟩:=gI (hS.row i hi);have HI:=bx (show (Pc.blk w.heap.size 245 #[ah a, ah b, ah c]::ps)[i+1]?=some (Pc.row base 245 3 (.slice oo 0 oc) 0 []) from hi);rw [iG];clear hS hi hV O3 hbk hl
  go_in
  go_upto_region 1 with(fail)
  rw [<- HV.o];go_wp2_with fail
  go_quiet (fail)
  have BP:=bx (xJ.o.drewN nq);have hbq:base<=(V.drewN nq).heap.size:=hbs;have Qn:=bx (show (V.drewN nq).heap.size=w.heap.size+1 from hsV);go_wp2_with (at_builtin;refine Bh (cs:=dR (a,b,c)) rfl _ _ 164 rfl qx (by decide) BP.o (i+1) HI.o rfl (by rw [Qn.o];rfl) rfl (by intro u hu;simp only [dR,fB,iH,or_false] at hu;rcases hu with rfl | rfl | rfl <;> rfl) (by omega) (by omega) hbq ?_;rintro v' w6 hS6 ⟨go',gc',rfl,-,-⟩)
  have dV:=bx hS6;clear hS6
  go_wp2
  go_ret
  refine⟨_,rfl,?_⟩;have h8:=dV.o.tail;rw [HA.o]
  skip
  exact h8
 rw [List.concat_eq_append] at *;have hlen:(r++[y]).length=r.length+1:=by simp
 rw [hlen] at hi hz;have hy:=hl y (by simp);obtain⟨g,cap,cur,rfl,r1,r2,r3,hbl,hcur⟩:=ajW (O3.row (i+1) hi) (by omega);have y0:V.cell? ⟨g,r.length*3,none⟩=some (ah y.1):=(hbl.cell _).trans (hcur _ _ (by have:=Xw r y 0 (by omega);rw [Nat.add_zero] at this;exact this));have y1:V.cell? ⟨g,r.length*3+1,none⟩=some (ah y.2.1):=(hbl.cell _).trans (hcur _ _ (Xw r y 1 (by omega)));have y2:V.cell? ⟨g,r.length*3+2,none⟩=some (ah y.2.2):=(hbl.cell _).trans (hcur _ _ (Xw r y 2 (by omega)));have yl:=hbl.lt;have yf:=hbl.frozen (r.length*3+1);have HI:=bx (show (Pc.blk w.heap.size 245 #[ah a, ah b, ah c]::ps)[i+1]?=some (Pc.row base 245 3 (.slice (some ⟨g,0,none⟩) (r.length+1) cap) (r.length+1) ((r++[y]).flatMap dR)) from hi);have HLEN:=bx hlen;obtain⟨ya,yb,yc⟩:=y;simp only at hy y0 y1 y2;have Hu:=bx (show F.yR (r++[(ya,yb,yc)]) (a,b,c)=if yb+1=a/\yc=c then r++[(ya,b,yc)] else (r++[(ya,yb,yc)])++[(a,b,c)] by
  unfold F.yR;rw [List.getLast?_append,List.getLast?_singleton,Option.some_or,List.dropLast_concat])
 clear hS hi hV O3 hbk hl hbl hcur hlen
 go_in
 go_upto_region 1 with(fail)
 rw [<- HV.o]
 by_cases hA:yb+1=a
 ·by_cases hB:yc=c
  ·have HA:=bx (show F.yR (r++[(ya,yb,yc)]) (a,b,c)=r++[(ya,b,yc)] by rw [Hu.o,aG ⟨hA,hB⟩]);have e1:(yb+1==a)=true:=by rw [lN];exact hA
   have e2:(yc==c)=true:=by rw [lN];exact hB
   clear hA hB;go_wp2_with fail
   go_quiet (fail)
   have BP:=bx (xJ.o.drewN nq)
   go_wp2
   go_ret
   refine⟨_,rfl,?_⟩;have h8:=(BP.o.amW (i+1) HI.o (g:=g) rfl (r.length*3+1) (by omega) (ah b)).tail;rw [asQ] at h8;rw [HA.o,bC];exact h8
  have HA:=bx (show F.yR (r++[(ya,yb,yc)]) (a,b,c)=(r++[(ya,yb,yc)])++[(a,b,c)] by rw [Hu.o,aF (λh=>hB h.2)]);have e1:(yb+1==a)=true:=by rw [lN];exact hA
  have e2:(yc==c)=false:=by rw [fG];exact hB
  clear hA hB;go_wp2_with fail
  go_quiet (fail)
  have BP:=bx (xJ.o.drewN nq);have hbq:base<=(V.drewN nq).heap.size:=hbs;have Qn:=bx (show (V.drewN nq).heap.size=w.heap.size+1 from hsV);go_wp2_with (at_builtin;refine Bh (cs:=dR (a,b,c)) rfl _ _ 164 rfl qx (by decide) BP.o (i+1) HI.o rfl (by rw [Qn.o];rfl) rfl (by intro u hu;simp only [dR,fB,iH,or_false] at hu;rcases hu with rfl | rfl | rfl <;> rfl) (by omega) (by omega) hbq ?_;rintro v' w6 hS6 ⟨go',gc',rfl,-,-⟩)
  have dV:=bx hS6;clear hS6
  go_wp2
  go_ret
  refine⟨_,rfl,?_⟩;have h8:=dV.o.tail;rw [HA.o];rw [bC,HLEN.o,oz (xs:=r++[(ya,yb,yc)]),List.flatMap_singleton];exact h8
 have HA:=bx (show F.yR (r++[(ya,yb,yc)]) (a,b,c)=(r++[(ya,yb,yc)])++[(a,b,c)] by rw [Hu.o,aF (λh=>hA h.1)]);have e1:(yb+1==a)=false:=by rw [fG];exact hA
 clear hA;go_wp2_with fail
 go_quiet (fail)
 have BP:=bx (xJ.o.drewN nq);have hbq:base<=(V.drewN nq).heap.size:=hbs;have Qn:=bx (show (V.drewN nq).heap.size=w.heap.size+1 from hsV);go_wp2_with (at_builtin;refine Bh (cs:=dR (a,b,c)) rfl _ _ 164 rfl qx (by decide) BP.o (i+1) HI.o rfl (by rw [Qn.o];rfl) rfl (by intro u hu;simp only [dR,fB,iH,or_false] at hu;rcases hu with rfl | rfl | rfl <;> rfl) (by omega) (by omega) hbq ?_;rintro v' w6 hS6 ⟨go',gc',rfl,-,-⟩)
 have dV:=bx hS6;clear hS6
 go_wp2
 go_ret
 refine⟨_,rfl,?_⟩;have h8:=dV.o.tail;rw [HA.o];rw [bC,HLEN.o,oz (xs:=r++[(ya,yb,yc)]),List.flatMap_singleton];exact h8
theorem anM {l:List F.bI} {x:F.bI} (hl:∀ y∈l,0<=y.2.1/\y.2.1<=1114111) (hx:0<=x.2.1/\x.2.1<=1114111):(∀ y∈F.yR l x,0<=y.2.1/\y.2.1<=1114111)/\(F.yR l x).length<=l.length+1:=by
 unfold F.yR
 split
 ·exact⟨λy hy=>by
   rcases lM.1 hy with h | h
   ·exact hl y h
   rw [fU.1 h];exact hx,by simp⟩
 rename_i z hz
 split
 ·exact⟨λy hy=>by
   rcases lM.1 hy with h | h
   ·exact hl y (List.dropLast_subset l h)
   rw [fU.1 h];exact hx,by simp⟩
 exact⟨λy hy=>by
  rcases lM.1 hy with h | h
  ·exact hl y h
  rw [fU.1 h];exact hx,by simp⟩
theorem ami (v:Value) (l:List F.bI) (w:World) (hv:jO w v l) (hok:F.uy l=true) :
  Calls prog 179 #[v] w λe w'=>(∃ v',e = .returned (.tuple #[v', ah 0])/\jO w' v' (F.Dn l l.length))/\ak w w':=by
 have jX:=bx (aeI v l w hv hok);have HV:=bx hv;unfold F.uy at hok;rw [dD,fD,jG] at hok;obtain⟨hall,Xl⟩:=hok;have qK:=bx (show ∀ (i:Nat) (x:F.bI),l[i]?=some x->0<=x.2.1/\x.2.1<=1114111 from λi x hx=>by
  have hi:=(dO hx).1;have h:=hall i (oM.2 hi);have hgd:l.getD i (0,0,0)=x:=by rw [fO,hx];rfl
  rw [hgd,dD] at h;have h2:=h.1;unfold F.Gn at h2;simp only [dD,fD] at h2;omega)
 obtain⟨a,cap,rfl,hc1,hc2⟩:=hv.slice;clear hv hall
 go_in
 go_wp2_with fail;refine aT jX.o λw1 hb1=>?_
 have HB1:=bx hb1;have mV:=bx (HV.o.below hb1);have bQ:=bx ((Sep.start w1).kV w1.heap.size 3 245);clear hb1;go_wp2_with fail
 go_loopw [5,4] (λi o wr=>∃ k:Nat,k<=l.length/\i = ah k/\(F.Dn l k).length<=k/\Box (∀ y∈F.Dn l k,0<=y.2.1/\y.2.1<=1114111)/\Box (Sep [Pc.row w1.heap.size 245 3 o (F.Dn l k).length ((F.Dn l k).flatMap dR),Pc.old w1.heap.size w1] wr)) (λi _ _=>l.length-(intOf i).toNat)
 ·exact⟨0,by omega,rfl,bK _,⟨λy hy=>absurd hy iH⟩,bQ⟩
 obtain⟨k,hk,rfl,hln,hrg,hse⟩:=hrel;have dL:=bx (hse.o.bel (n:=w1.heap.size) (W0:=w1) (by simp));clear bQ;obtain⟨oo,oc,rfl,ho1,ho2⟩:=gI (hse.o.row 0 rfl)
 by_cases hlt:k<l.length
 ·obtain⟨x,hx⟩:=bV l k hlt;have hgd:l.getD k (0,0,0)=x:=by rw [fO,hx];rfl
  have BG:=bx (qK.o k x hx);have HT:=bx (show F.Dn l (k+1)=F.yR (F.Dn l k) x by rw [<- hgd];rfl);obtain⟨g,off,cap2,hg1,hg2,hg3,hg4,hg5⟩:=(mV.o.below dL.o).get (by rintro rfl;simp at hlt);obtain⟨rfl,rfl⟩:=dQ hg1;obtain⟨x0,x1,x2⟩:=hg5 k x hx;have HAD:=bx (avC 0 w1.heap.size _ (F.Dn l k) x wr hse.o rfl (by omega) hrg.o dL.o.size);have OT:=bx (anM hrg.o BG.o);rw [<- HT.o] at HAD OT;unfold maxLen at hg3;clear hx hgd hg1 hg5;go_wp2_with fail;refine HAD.o.mono ?_;rintro e w2 ⟨v',rfl,hS2⟩;have HS2:=bx hS2;clear hS2
  go_wp2
  go_roundw
  ·exact⟨k+1,hlt,by go_num,by have:=OT.o.2;omega,⟨OT.o.1⟩,HS2⟩
  simp [intOf];omega
 obtain rfl:k=l.length:=by omega
 have HO:=bx (jO.iy (hse.o.row 0 rfl) rfl);have lK:=bx (bt HB1.o dL.o)
 go_wp2
 go_ret2
 exact⟨⟨_,rfl,HO.o⟩,lK.o⟩
theorem uq {P:Program} {w0:World} {o:Oper} {a:Act} {K:Act->World->Prop} {Q:Exit->Act->World->Prop} {E':Prop} {ops:Array Oper} (hgd:o.guard=none) (s x:Operand) (t:TypeId)
  (ho:o.op = .call { callee:=.builtin .append,args:=#[s,x],argTypes:=#[t,t] }) {base:Nat} {e:TypeId} {sz bytes:Nat} (hP:zk P t e sz bytes) (hsz:0<sz) {ps:List Pc} (hS:Sep ps w0) (k:Nat) {v xv:Value} {cs:List Value} {n m:Nat} {xs:List Value}
  (hk:ps[k]?=some (Pc.row base e sz v n xs)) (hs:a.eval s=v) (hx:a.eval x=xv) (hX:tH w0 xv m cs) (hc:cs.length=m*sz) (h1:∀ u∈cs,u.oneCell'=true) (hn:n+m<=1000000000) (hby:bytes<=10000) (hbase:base<=w0.heap.size)
  (h:∀ v' w',Sep (ps.set k (Pc.row base e sz v' (n+m) (xs++cs))) w'->K (a.put o.dst v') w') :
  if Region.wanted o (yielded ops a.tmps)=true then Oper.wp P o a w0 K Q else E':=by
 rw [aG (by simp [Region.wanted,hgd])];obtain⟨i,z,ht,hi,hz0,hz1,hz2,hz3⟩:=hP.o
 rcases hX with⟨rfl,rfl,rfl⟩ | ⟨ad,c,rfl,hcl⟩
 ·have hrun:=run_append_owned_none (P:=P) (w:=w0) base t o.type e i sz ht hi v n xs (hS.row k hk);have h8:=h v w0;rw [Nat.add_zero,oG,show ps.set k (Pc.row base e sz v n xs)=ps by
   obtain⟨h2,h3⟩:=dO hk;rw [<- h3,List.set_getElem_self]] at h8
  unfold Oper.wp;simp [execOp,ho,resolve,invoke,builtin,hs,hx,hrun,Result.andThen];exact h8 hS
 have hb:(n+m)*bytes<=1000000000*10000:=zA hn hby;obtain⟨v',w',hr,hown,hgrow,-,hat⟩:=run_append_own_at (P:=P) w0 base t o.type e i z sz bytes ht hi hz0 hz1 hz2 hz3 hsz v n xs (hS.row k hk) ad m c cs hc hcl h1 (by unfold maxLen;omega) (by omega) hbase;unfold Oper.wp execOp;simp only [ho,resolve,invoke,builtin,Sem.run_bind,Sem.run_pure,Result.andThen_ok,List.map_toArray,iR,oV,hs,hx,hr];exact h v' w' (hS.grow k hk hgrow hown (by
  rcases hat with e1 | e1
  ·exact .inl e1
  exact .inr (λq hq=>by rw [e1] at hq;simp only [iQ] at hq;omega)))
theorem alU {l:List F.bI} {a:Int}:∀ {k:Nat},(∀ (j:Nat) (y:F.bI),j<k->l[j]?=some y->y.1<a)->k<=l.length->(∀ y,l[k]?=some y->¬ y.1<a)->l.takeWhile (λy=>decide (y.1<a))=l.take k/\l.dropWhile (λy=>decide (y.1<a))=l.drop k:=by
 induction l with
 | nil =>
  intro k _ hk _;simp at hk;subst hk;exact⟨rfl,rfl⟩
 | cons x t ih =>
  intro k h1 hk h2
  cases k with
  | zero =>
   have hx:=h2 x rfl;exact⟨List.takeWhile_cons_of_neg (by simpa using hx),List.dropWhile_cons_of_neg (by simpa using hx)⟩
  | succ k =>
   have hx:=h1 0 x (by omega) rfl;obtain⟨i1,i2⟩:=ih (k:=k) (λj y hj hy=>h1 (j+1) y (by omega) (by simpa using hy)) (by simp at hk;omega) (λy hy=>h2 y (by simpa using hy));rw [List.takeWhile_cons_of_pos (by simpa using hx),List.dropWhile_cons_of_pos (by simpa using hx),i1,i2];exact⟨rfl,rfl⟩
theorem DV:∀ {l:List F.bI},∀ u∈l.flatMap dR,u.oneCell'=true:=by
 intro l u hu;obtain⟨y,-,hy⟩:=List.mem_flatMap.1 hu;simp only [dR,fB,iH,or_false] at hy
 rcases hy with rfl | rfl | rfl <;> rfl
theorem jO.cells {w:World} {b off cap:Nat} {l:List F.bI} (h:∀ i x,l[i]?=some x->w.cell? ⟨b,off+i*3,none⟩=some (ah x.1)/\w.cell? ⟨b,off+i*3+1,none⟩=some (ah x.2.1)/\w.cell? ⟨b,off+i*3+2,none⟩=some (ah x.2.2)) (n:Nat):tH w (.slice (some ⟨b,off,none⟩) n cap) n (l.flatMap dR):=by
 refine .inr ⟨_,_,rfl,λj u hu=>?_⟩;have hj:j<(l.flatMap dR).length:=(dO hu).1;rw [zG] at hj;obtain⟨x,hx⟩:=bV l (j / 3) (by omega);obtain⟨h0,h1,h2⟩:=h (j / 3) x hx;have hg:=flat_get dR 3 l (j / 3) (j % 3) x (λy _=>rfl) hx (by omega);have ej:j / 3*3+j % 3=j:=by omega
 rw [ej] at hg;have e2:(⟨b,off,none⟩:Addr).add j=⟨b,off+(j / 3*3+j % 3),none⟩:=by rw [ej];unfold Addr.add;by_cases h0:j=0 <;> simp [h0]
 rw [e2];rw [hu] at hg
 rcases (show j % 3=0\/j % 3=1\/j % 3=2 by omega) with e | e | e
 ·rw [e] at hg ⊢
  cases hg;exact h0
 ·rw [e] at hg ⊢
  cases hg;rw [<- Nat.add_assoc];exact h1
 rw [e] at hg ⊢
 cases hg;rw [<- Nat.add_assoc];exact h2
theorem MC {W:World} {q:Nat} {T:TypeId} {cs:List Value} (h:aC W q T cs.toArray):tH W (.slice (some ⟨q,0,none⟩) 1 1) 1 cs :=
 .inr ⟨_,_,rfl,λj u hu=>by
  (try unfold ay at *);rw [show (⟨q,0,none⟩:Addr).add j=⟨q,j,none⟩ by unfold Addr.add;by_cases h0:j=0 <;> simp [h0]]
  exact(h.cell j).trans (by rw [List.getElem?_toArray];exact hu)⟩
theorem adT {w:World} {ad ad':Addr} {cap k:Nat} {l:List F.bI} (h:jO w (.slice (some ad) l.length cap) l) (hk:k<=l.length) (had:k<l.length->ad'=ad.add (k*3)):tH w (.slice (some ad) k cap) k ((l.take k).flatMap dR)/\tH w (.slice (some ad') (l.length-k) (cap-k)) (l.length-k) ((l.drop k).flatMap dR):=by
 by_cases hn:l=[]
 ·subst hn;exact⟨.inr ⟨_,_,rfl,λj u hu=>by simp at hu⟩, .inr ⟨_,_,rfl,λj u hu=>by simp at hu⟩⟩
 obtain⟨b,off,cap2,e1,-,-,-,hg⟩:=h.get hn;obtain⟨rfl,rfl⟩:ad=⟨b,off,none⟩/\cap=cap2:=by injection e1 with h1 h2 h3;injection h1 with h1;exact⟨h1,h3⟩
 refine⟨jO.cells (λi x hx=>hg i x ?_) k,?_⟩
 ·rw [wE] at hx
  split at hx
  ·exact hx
  cases hx
 rcases gZ k l.length with h1 | h1
 ·rw [had h1,show (⟨b,off,none⟩:Addr).add (k*3)=⟨b,off+k*3,none⟩ by unfold Addr.add;by_cases h0:k*3=0 <;> simp [h0]];refine jO.cells (λi x hx=>?_) _;rw [xY] at hx;have h9:=hg (k+i) x hx;rw [show off+k*3+i*3=off+(k+i)*3 by rw [BX];omega];exact h9
 rw [zF h1];exact .inr ⟨_,_,rfl,λj u hu=>by simp at hu⟩
theorem apy (a:Option Addr) (N cap k:Nat) (l:List F.bI) (hk:k<=N) (hc:N<=cap) (hz:cap<=9223372036854775807) (hN:l.length=N) {w0:World} (h0:jO w0 (.slice a N cap) l):∃ L X Y,L+k=N/\(∀ W,(Instr.slice 164 (.slice a N cap) none (some (ah (k:Int))) none).run prog W = .ok X W)/\(∀ W,(Instr.slice 164 (.slice a N cap) (some (ah (k:Int))) none none).run prog W = .ok Y W)/\∀ W,jO W (.slice a N cap) l->tH W X k ((l.take k).flatMap dR)/\tH W Y L ((l.drop k).flatMap dR):=by
 subst hN;have hkc:k<=cap:=by omega
 cases a with
 | none =>
  obtain⟨rfl,rfl⟩:l=[]/\cap=0:=by
   rcases h0 with⟨h1,h2⟩ | ⟨b,off,sp,cap2,h1,_⟩
   ·injection h1 with h1 h2' h3';exact⟨by simpa using h2,h3'⟩
   injection h1 with h1;cases h1
  obtain rfl:k=0:=by simpa using hk
  exact⟨0, aj, aj,rfl,λW=>by go_simp,λW=>by go_simp,λW _=>⟨.inl ⟨rfl,rfl,rfl⟩, .inl ⟨rfl,rfl,rfl⟩⟩⟩
 | some ad =>
  have YH:∀ W,(Instr.slice 164 (.slice (some ad) l.length cap) none (some (ah (k:Int))) none).run prog W = .ok (.slice (some ad) k cap) W:=λW=>by go_simp
  by_cases h:cap=k
  ·exact⟨l.length-k, .slice (some ad) k cap, .slice (some ad) (l.length-k) (cap-k),by omega,YH,λW=>by go_simp,λW hW=>adT hW hk (λh1=>by omega)⟩
  exact⟨l.length-k, .slice (some ad) k cap, .slice (some (ad.add (k*3))) (l.length-k) (cap-k),by omega,YH,λW=>by go_simp,λW hW=>adT hW hk (λ_=>rfl)⟩
theorem aky (v:Value) (l:List F.bI) (x:F.bI) (w:World) (hv:jO w v l) (hz:l.length<=100000) :
  Calls prog 256 #[v, .agg #[ah x.1, ah x.2.1, ah x.2.2]] w λe w'=>(∃ v',e = .returned v'/\w'.ownsRow w.heap.size 245 3 v' (l.length+1) ((F.Il l x).flatMap dR))/\ak w w':=by
 obtain⟨xa,xb,xc⟩:=x;obtain⟨a,cap,rfl,hc1,hc2⟩:=hv.slice;obtain⟨N,hN⟩:∃ N,l.length=N:=⟨_,rfl⟩
 have HN:=bx hN;rw [hN] at hv hc1 hz ⊢;have HV:=bx hv;clear hN;obtain⟨V,hV⟩:∃ V,V=w.alloc (.cells #[ah xa, ah xb, ah xc] 245):=⟨_,rfl⟩
 have MI:ak w V:=by rw [hV];exact(Below.refl _ _).alloc aU _
 have fV:=bx MI;have dn:=bx (aK hV);have HV0:=bx hV;clear hv hV MI
 go_in
 go_upto_region 1 with(fail)
 rw [<- HV0.o];go_wp2_with fail
 go_loopw [5] (λi wr=>∃ k:Nat,k<=N/\i = ah k/\Box (∀ (j:Nat) (y:F.bI),j<k->l[j]?=some y->y.1<xa)/\Box (ak V wr)) (λi _=>N-(intOf i).toNat)
 ·exact⟨0,by omega,rfl,⟨λj y h=>by omega⟩,⟨Below.refl _ _⟩⟩
 obtain⟨k,hk,rfl,hno,hb⟩:=hrel;have hbk:=dn.o.below hb.o dn.o.lt;have c0:wr.cell? ⟨w.heap.size,0,none⟩=some (ah xa):=(hbk.cell 0).trans rfl;have c1:wr.cell? ⟨w.heap.size,1,none⟩=some (ah xb):=(hbk.cell 1).trans rfl;have c2:wr.cell? ⟨w.heap.size,2,none⟩=some (ah xc):=(hbk.cell 2).trans rfl;have cl:=hbk.lt;have bM:=bx (bt fV.o hb.o);have HDR:=bx (λm=>hb.o.trans ((uT wr m).mono hb.o.size));clear hbk
 by_cases hgo:∃ y,l[k]?=some y/\y.1<xa
 ·obtain⟨y,hy,hlt⟩:=hgo;have hkl:k<N:=by rw [<- HN.o];exact(dO hy).1
  obtain⟨g,off,cap2,hg1,hg2,hg3,hg4,hg5⟩:=(HV.o.below bM.o).get (by rintro rfl;simp at hy);rw [HN.o] at hg1;obtain⟨rfl,rfl⟩:=dQ hg1;obtain⟨y0,y1,y2⟩:=hg5 k y hy;have HN:=bx (show ∀ (j:Nat) (z:F.bI),j<k+1->l[j]?=some z->z.1<xa from λj z hj hz=>by
   rcases gZ j k with h1 | h1
   ·exact hno.o j z h1 hz
   obtain rfl:j=k:=by omega
   rw [hy] at hz
   cases hz;exact hlt)
  have e0:decide ((k:Int)<(N:Int))=true:=bD (by omega);have e1:decide (y.1<xa)=true:=bD hlt;unfold maxLen at hg3;clear hy hlt hg1 hg5;go_wp2_with fail
  go_quiet (fail)
  go_wp2
  go_roundw
  ·exact⟨k+1,by omega,by go_num,HN,⟨HDR.o _⟩⟩
  simp [intOf];omega
 obtain⟨xk,KZ⟩:Box (l.takeWhile (λy=>decide (y.1<xa))=l.take k)/\Box (l.dropWhile (λy=>decide (y.1<xa))=l.drop k):=by
  obtain⟨h1,h2⟩:=alU (a:=xa) hno.o (by rw [HN.o];exact hk) (λy hy h=>hgo ⟨y,hy,h⟩);exact⟨⟨h1⟩,⟨h2⟩⟩
 have Ai:=bx (show F.Il l (xa,xb,xc)=l.take k++(xa,xb,xc)::l.drop k by unfold F.Il;rw [xk.o,KZ.o]);have zZ:=bx hk;obtain⟨L,X,Y,hLk,YH,Vg,hcut⟩:=apy a N cap k l hk hc1 hc2 HN.o HV.o;have DW:=bx (λW (h:ak w W)=>hcut W (HV.o.below h));have kG:=bx hLk;clear hcut hLk;have XM:N=k\/∃ y,l[k]?=some y/\¬ y.1<xa:=by
  rcases gZ k N with h | h
  ·exact .inr ⟨l[k]'(by rw [HN.o];exact h),dW (by rw [HN.o];exact h),λh9=>hgo ⟨_,dW (by rw [HN.o];exact h),h9⟩⟩
  exact .inl (by omega)
 clear hgo hno xk KZ
 rcases XM with rfl | ⟨y,hy,hlt⟩
 ·go_wp2_with fail
  go_quiet (fail)
  go_wp2_with fail;have aX:=bx (show ak w (wr.drewN nq).drew from bM.o.trans (((uT wr nq).trans (show Below wr.heap.size (wr.drewN nq) (wr.drewN nq).drew from jg (wr.drewN nq) 1)).mono bM.o.size));have dH:=bx (show (λW=>ay W w.heap.size 0=some (ah xa)/\ay W w.heap.size 1=some (ah xb)/\ay W w.heap.size 2=some (ah xc)) (wr.drewN nq).drew from⟨c0,c1,c2⟩);have wR:=bx (show w.heap.size<(wr.drewN nq).drew.heap.size from cl);refine jl 12 (λW=>ay W w.heap.size 0=some (ah xa)/\ay W w.heap.size 1=some (ah xb)/\ay W w.heap.size 2=some (ah xc)) (by kernel_rfl) ?_;generalize (wr.drewN nq).drew=WR at aX dH wR ⊢;have fQ:=bx (show ∀ W,ak WR W->(λW=>ay W w.heap.size 0=some (ah xa)/\ay W w.heap.size 1=some (ah xb)/\ay W w.heap.size 2=some (ah xc)) W from λW h=>⟨(h.cell (p:=⟨w.heap.size,0,none⟩) wR.o).trans dH.o.1,(h.cell (p:=⟨w.heap.size,1,none⟩) wR.o).trans dH.o.2.1,(h.cell (p:=⟨w.heap.size,2,none⟩) wR.o).trans dH.o.2.2⟩);have Nj:=bx (show ∀ W,ak WR W->tH W (X) N ((l.take N).flatMap dR) from λW h=>(DW.o W (bt aX.o h)).1);have OG:=bx (show ∀ W,ak WR W->tH W (Y) L ((l.drop N).flatMap dR) from λW h=>(DW.o W (bt aX.o h)).2);have bQ:=bx ((Sep.start WR).kV WR.heap.size 3 245);have htl:((l.take N).flatMap dR).length=N*3:=by rw [zG,dw,HN.o,sH zZ.o]
  clear c0 c1 c2 cl;refine jB [0,1,2,3,8,9,10,5] ?_
  iterate 8 (refine jA ?_ rfl dH.o ?_ ?_;rotate_left;·rintro w ⟨q1,q2,q3⟩;go_simp;try with_reducible rfl)
  refine jr ?_;refine Qg (rs:=[4,6]) (by kernel_rfl) (by simp) (rD.cons rfl (λKK au=>?_) (rD.cons rfl (λKK au=>?_) rD.nil))
  ·refine uq rfl _ _ 164 rfl qx (by decide) bQ.o 0 rfl (by kernel_rfl) (by kernel_rfl) (m:=N) (cs:=(l.take N).flatMap dR) (Nj.o _ aZ) htl DV (by omega) (by omega) aU ?_;rintro v4 w4 hS4;have dJ:=bx hS4;have HB4:=bx (dJ.o.bel (n:=WR.heap.size) (W0:=WR) (by simp));clear hS4;refine au.out _ _ (λ_=>fQ.o _ HB4.o) ?_;clear au KK;refine kP 6 rfl λKK au=>?_
   go_simp;have bG:=bx (dJ.o.eu 245 #[ah xa, ah xb, ah xc]);refine au.out _ _ (λ_=>fQ.o _ (bG.o.bel (n:=WR.heap.size) (W0:=WR) (by simp))) ?_;clear au KK;have bU:=bx (bG.o.bel (n:=WR.heap.size) (W0:=WR) (by simp));refine kP 7 rfl λKK au=>?_
   refine uq rfl _ _ 164 rfl qx (by decide) bG.o 1 rfl (by kernel_rfl) (by kernel_rfl) (m:=1) (cs:=dR (xa,xb,xc)) (MC (bG.o.blk 0 rfl)) rfl (by intro u hu;simp only [dR,fB,iH,or_false] at hu;rcases hu with rfl | rfl | rfl <;> rfl) (by omega) (by omega) bU.o.size ?_;rintro v7 w7 hS7;have cO:=bx hS7;have bW:=bx (cO.o.bel (n:=WR.heap.size) (W0:=WR) (by simp));clear hS7;refine au.out _ _ (λ_=>fQ.o _ bW.o) ?_;clear au KK;refine kP 11 rfl λKK au=>?_
   refine uq rfl _ _ 164 rfl qx (by decide) cO.o 1 rfl (by kernel_rfl) (by kernel_rfl) (m:=L) (cs:=(l.drop N).flatMap dR) (OG.o _ bW.o) (by rw [zG,gy];have:=kG.o;have:=HN.o;omega) DV (by have:=kG.o;omega) (by omega) bW.o.size ?_;rintro v8 w8 fZ;have fM:=bx fZ;have eU:=bx (fM.o.bel (n:=WR.heap.size) (W0:=WR) (by simp));clear fZ;refine au.out _ _ (λ_=>fQ.o _ eU.o) ?_;clear au KK;refine kP 12 rfl λKK au=>?_
   go_simp;refine au.out _ _ (λh=>by cases h) ?_;clear au KK;refine kD ?_ _
   go_wp2
   go_ret
   refine⟨⟨_,rfl,?_⟩,bt aX.o eU.o⟩;have hrow:=own_base (fM.o.row 1 rfl) (show w.heap.size<=WR.heap.size from aX.o.size);rw [show 0+N+1+L=N+1 by have:=kG.o;omega,iJ] at hrow;rw [Ai.o,oz,pq,<- pz];exact hrow
  go_simp;have bG:=bx (bQ.o.eu 245 #[ah xa, ah xb, ah xc]);have eY:=bx (bG.o.bel (n:=WR.heap.size) (W0:=WR) (by simp));refine au.out _ _ (λ_=>fQ.o _ eY.o) ?_;clear au KK;refine kP 4 rfl λKK au=>?_
  refine uq rfl _ _ 164 rfl qx (by decide) bG.o 1 rfl (by kernel_rfl) (by kernel_rfl) (m:=N) (cs:=(l.take N).flatMap dR) (Nj.o _ eY.o) htl DV (by omega) (by omega) eY.o.size ?_;rintro v4 w4 hS4;have dJ:=bx hS4;have HB4:=bx (dJ.o.bel (n:=WR.heap.size) (W0:=WR) (by simp));clear hS4;refine au.out _ _ (λ_=>fQ.o _ HB4.o) ?_;clear au KK;have bU:=bx (dJ.o.bel (n:=WR.heap.size) (W0:=WR) (by simp));refine kP 7 rfl λKK au=>?_
  refine uq rfl _ _ 164 rfl qx (by decide) dJ.o 1 rfl (by kernel_rfl) (by kernel_rfl) (m:=1) (cs:=dR (xa,xb,xc)) (MC (dJ.o.blk 0 rfl)) rfl (by intro u hu;simp only [dR,fB,iH,or_false] at hu;rcases hu with rfl | rfl | rfl <;> rfl) (by omega) (by omega) bU.o.size ?_;rintro v7 w7 hS7;have cO:=bx hS7;have bW:=bx (cO.o.bel (n:=WR.heap.size) (W0:=WR) (by simp));clear hS7;refine au.out _ _ (λ_=>fQ.o _ bW.o) ?_;clear au KK;refine kP 11 rfl λKK au=>?_
  refine uq rfl _ _ 164 rfl qx (by decide) cO.o 1 rfl (by kernel_rfl) (by kernel_rfl) (m:=L) (cs:=(l.drop N).flatMap dR) (OG.o _ bW.o) (by rw [zG,gy];have:=kG.o;have:=HN.o;omega) DV (by have:=kG.o;omega) (by omega) bW.o.size ?_;rintro v8 w8 fZ;have fM:=bx fZ;have eU:=bx (fM.o.bel (n:=WR.heap.size) (W0:=WR) (by simp));clear fZ;refine au.out _ _ (λ_=>fQ.o _ eU.o) ?_;clear au KK;refine kP 12 rfl λKK au=>?_
  go_simp;refine au.out _ _ (λh=>by cases h) ?_;clear au KK;refine kD ?_ _
  go_wp2
  go_ret
  refine⟨⟨_,rfl,?_⟩,bt aX.o eU.o⟩;have hrow:=own_base (fM.o.row 1 rfl) (show w.heap.size<=WR.heap.size from aX.o.size);rw [show 0+N+1+L=N+1 by have:=kG.o;omega,iJ] at hrow;rw [Ai.o,oz,pq,<- pz];exact hrow
 have hkl:k<N:=by rw [<- HN.o];exact(dO hy).1
 obtain⟨g,off,cap2,hg1,hg2,hg3,hg4,hg5⟩:=(HV.o.below bM.o).get (by rintro rfl;simp at hy);rw [HN.o] at hg1;obtain⟨rfl,rfl⟩:=dQ hg1;obtain⟨y0,y1,y2⟩:=hg5 k y hy;have e0:decide ((k:Int)<(N:Int))=true:=bD (by omega);have e1:decide (y.1<xa)=false:=dh hlt;unfold maxLen at hg3;clear hy hlt hg1 hg5;go_wp2_with fail
 go_quiet (fail)
 go_wp2_with fail;clear y0 y1 y2 e1;have aX:=bx (show ak w (wr.drewN nq).drew from bM.o.trans (((uT wr nq).trans (show Below wr.heap.size (wr.drewN nq) (wr.drewN nq).drew from jg (wr.drewN nq) 1)).mono bM.o.size));have dH:=bx (show (λW=>ay W w.heap.size 0=some (ah xa)/\ay W w.heap.size 1=some (ah xb)/\ay W w.heap.size 2=some (ah xc)) (wr.drewN nq).drew from⟨c0,c1,c2⟩);have wR:=bx (show w.heap.size<(wr.drewN nq).drew.heap.size from cl);refine jl 12 (λW=>ay W w.heap.size 0=some (ah xa)/\ay W w.heap.size 1=some (ah xb)/\ay W w.heap.size 2=some (ah xc)) (by kernel_rfl) ?_;generalize (wr.drewN nq).drew=WR at aX dH wR ⊢;have fQ:=bx (show ∀ W,ak WR W->(λW=>ay W w.heap.size 0=some (ah xa)/\ay W w.heap.size 1=some (ah xb)/\ay W w.heap.size 2=some (ah xc)) W from λW h=>⟨(h.cell (p:=⟨w.heap.size,0,none⟩) wR.o).trans dH.o.1,(h.cell (p:=⟨w.heap.size,1,none⟩) wR.o).trans dH.o.2.1,(h.cell (p:=⟨w.heap.size,2,none⟩) wR.o).trans dH.o.2.2⟩);have Nj:=bx (show ∀ W,ak WR W->tH W (X) k ((l.take k).flatMap dR) from λW h=>(DW.o W (bt aX.o h)).1);have OG:=bx (show ∀ W,ak WR W->tH W (Y) L ((l.drop k).flatMap dR) from λW h=>(DW.o W (bt aX.o h)).2);have bQ:=bx ((Sep.start WR).kV WR.heap.size 3 245);have htl:((l.take k).flatMap dR).length=k*3:=by rw [zG,dw,HN.o,sH zZ.o]
 clear c0 c1 c2 cl;refine jB [0,1,2,3,8,9,10,5] ?_
 iterate 8 (refine jA ?_ rfl dH.o ?_ ?_;rotate_left;·rintro w ⟨q1,q2,q3⟩;go_simp;try with_reducible rfl)
 refine jr ?_;refine Qg (rs:=[4,6]) (by kernel_rfl) (by simp) (rD.cons rfl (λKK au=>?_) (rD.cons rfl (λKK au=>?_) rD.nil))
 ·refine uq rfl _ _ 164 rfl qx (by decide) bQ.o 0 rfl (by kernel_rfl) (by kernel_rfl) (m:=k) (cs:=(l.take k).flatMap dR) (Nj.o _ aZ) htl DV (by omega) (by omega) aU ?_;rintro v4 w4 hS4;have dJ:=bx hS4;have HB4:=bx (dJ.o.bel (n:=WR.heap.size) (W0:=WR) (by simp));clear hS4;refine au.out _ _ (λ_=>fQ.o _ HB4.o) ?_;clear au KK;refine kP 6 rfl λKK au=>?_
  go_simp;have bG:=bx (dJ.o.eu 245 #[ah xa, ah xb, ah xc]);refine au.out _ _ (λ_=>fQ.o _ (bG.o.bel (n:=WR.heap.size) (W0:=WR) (by simp))) ?_;clear au KK;have bU:=bx (bG.o.bel (n:=WR.heap.size) (W0:=WR) (by simp));refine kP 7 rfl λKK au=>?_
  refine uq rfl _ _ 164 rfl qx (by decide) bG.o 1 rfl (by kernel_rfl) (by kernel_rfl) (m:=1) (cs:=dR (xa,xb,xc)) (MC (bG.o.blk 0 rfl)) rfl (by intro u hu;simp only [dR,fB,iH,or_false] at hu;rcases hu with rfl | rfl | rfl <;> rfl) (by omega) (by omega) bU.o.size ?_;rintro v7 w7 hS7;have cO:=bx hS7;have bW:=bx (cO.o.bel (n:=WR.heap.size) (W0:=WR) (by simp));clear hS7;refine au.out _ _ (λ_=>fQ.o _ bW.o) ?_;clear au KK;refine kP 11 rfl λKK au=>?_
  refine uq rfl _ _ 164 rfl qx (by decide) cO.o 1 rfl (by kernel_rfl) (by kernel_rfl) (m:=L) (cs:=(l.drop k).flatMap dR) (OG.o _ bW.o) (by rw [zG,gy];have:=kG.o;have:=HN.o;omega) DV (by have:=kG.o;omega) (by omega) bW.o.size ?_;rintro v8 w8 fZ;have fM:=bx fZ;have eU:=bx (fM.o.bel (n:=WR.heap.size) (W0:=WR) (by simp));clear fZ;refine au.out _ _ (λ_=>fQ.o _ eU.o) ?_;clear au KK;refine kP 12 rfl λKK au=>?_
  go_simp;refine au.out _ _ (λh=>by cases h) ?_;clear au KK;refine kD ?_ _
  go_wp2
  go_ret
  refine⟨⟨_,rfl,?_⟩,bt aX.o eU.o⟩;have hrow:=own_base (fM.o.row 1 rfl) (show w.heap.size<=WR.heap.size from aX.o.size);rw [show 0+k+1+L=N+1 by have:=kG.o;omega,iJ] at hrow;rw [Ai.o,oz,pq,<- pz];exact hrow
 go_simp;have bG:=bx (bQ.o.eu 245 #[ah xa, ah xb, ah xc]);have eY:=bx (bG.o.bel (n:=WR.heap.size) (W0:=WR) (by simp));refine au.out _ _ (λ_=>fQ.o _ eY.o) ?_;clear au KK;refine kP 4 rfl λKK au=>?_
 refine uq rfl _ _ 164 rfl qx (by decide) bG.o 1 rfl (by kernel_rfl) (by kernel_rfl) (m:=k) (cs:=(l.take k).flatMap dR) (Nj.o _ eY.o) htl DV (by omega) (by omega) eY.o.size ?_;rintro v4 w4 hS4;have dJ:=bx hS4;have HB4:=bx (dJ.o.bel (n:=WR.heap.size) (W0:=WR) (by simp));clear hS4;refine au.out _ _ (λ_=>fQ.o _ HB4.o) ?_;clear au KK;have bU:=bx (dJ.o.bel (n:=WR.heap.size) (W0:=WR) (by simp));refine kP 7 rfl λKK au=>?_
 refine uq rfl _ _ 164 rfl qx (by decide) dJ.o 1 rfl (by kernel_rfl) (by kernel_rfl) (m:=1) (cs:=dR (xa,xb,xc)) (MC (dJ.o.blk 0 rfl)) rfl (by intro u hu;simp only [dR,fB,iH,or_false] at hu;rcases hu with rfl | rfl | rfl <;> rfl) (by omega) (by omega) bU.o.size ?_;rintro v7 w7 hS7;have cO:=bx hS7;have bW:=bx (cO.o.bel (n:=WR.heap.size) (W0:=WR) (by simp));clear hS7;refine au.out _ _ (λ_=>fQ.o _ bW.o) ?_;clear au KK;refine kP 11 rfl λKK au=>?_
 refine uq rfl _ _ 164 rfl qx (by decide) cO.o 1 rfl (by kernel_rfl) (by kernel_rfl) (m:=L) (cs:=(l.drop k).flatMap dR) (OG.o _ bW.o) (by rw [zG,gy];have:=kG.o;have:=HN.o;omega) DV (by have:=kG.o;omega) (by omega) bW.o.size ?_;rintro v8 w8 fZ;have fM:=bx fZ;have eU:=bx (fM.o.bel (n:=WR.heap.size) (W0:=WR) (by simp));clear fZ;refine au.out _ _ (λ_=>fQ.o _ eU.o) ?_;clear au KK;refine kP 12 rfl λKK au=>?_
 go_simp;refine au.out _ _ (λh=>by cases h) ?_;clear au KK;refine kD ?_ _
 go_wp2
 go_ret
 refine⟨⟨_,rfl,?_⟩,bt aX.o eU.o⟩;have hrow:=own_base (fM.o.row 1 rfl) (show w.heap.size<=WR.heap.size from aX.o.size);rw [show 0+k+1+L=N+1 by have:=kG.o;omega,iJ] at hrow;rw [Ai.o,oz,pq,<- pz];exact hrow
theorem F.afk {l:List F.bI} {k:Nat}:∀ {n:Nat} {r:List F.bI},k<=n->F.xP l n=some r->∃ q,F.xP l k=some q
 | 0,r,hk,h=>by obtain rfl:k=0:=(by omega);exact⟨r,h⟩
 | n+1,r,hk,h=>by
  rcases gZ k (n+1) with h1 | h1
  ·unfold F.xP at h
   cases hq:F.xP l n with
   | none=>rw [hq] at h;cases h
   | some q=>exact F.afk (by omega) hq
  obtain rfl:k=n+1:=by omega
  exact⟨r,h⟩
theorem F.aoL (l:List F.bI) (x:F.bI):(F.Il l x).length=l.length+1:=by
 unfold F.Il;rw [bC,dY];have:=congrArg List.length (List.takeWhile_append_dropWhile (p:=λy:F.bI=>decide (y.1<x.1)) (l:=l));rw [bC] at this;omega
theorem F.aiC {l:List F.bI}:∀ {n:Nat} {r:List F.bI},F.xP l n=some r->r.length=n
 | 0,r,h=>by cases h;rfl
 | n+1,r,h=>by
  unfold F.xP at h
  cases hq:F.xP l n with
  | none=>rw [hq] at h;cases h
  | some q =>
   rw [hq] at h;simp only at h
   split at h
   ·cases h
   cases h;rw [F.aoL,F.aiC hq]
theorem F.avO {l:List F.bI} {k:Nat} {x:F.bI} {q r:List F.bI} (hx:l[k]?=some x) (hq:F.xP l k=some q) (hr:F.xP l (k+1)=some r):r=F.Il q x/\∀ (j:Nat) (y:F.bI),j<k->l[j]?=some y->¬ (x.1<=y.2.1/\y.1<=x.2.1):=by
 have hgd:l.getD k (0,0,0)=x:=by rw [fO,hx];rfl
 unfold F.xP at hr;rw [hq,hgd] at hr;simp only at hr
 split at hr
 ·cases hr
 rename_i h
 cases hr;refine⟨rfl,λj y hj hy hl=>h ?_⟩;rw [zO];refine⟨j,oM.2 hj,?_⟩;rw [fO,hy,jE];unfold F.lap;rw [dD,fD,fD];exact hl
theorem acI (v:Value) (l m:List F.bI) (w:World) (hv:jO w v l) (hok:F.La l=some m) :
  Calls prog 178 #[v] w λe w'=>(∃ v',e = .returned (.tuple #[v', ah 0, ah 0])/\jO w' v' m)/\ak w w':=by
 unfold F.La at hok
 split at hok
 rotate_left
 ·cases hok
 rename_i hc
 obtain⟨hall,Xl⟩:=hc;rw [jG] at hall;have qK:=bx hall;have nX:=bx hok;have HV:=bx hv;obtain⟨a,cap,rfl,hc1,hc2⟩:=hv.slice;obtain⟨N,hN⟩:∃ N,l.length=N:=⟨_,rfl⟩
 have HN:=bx hN;rw [hN] at HV nX hc1 Xl ⊢;clear hv hall hok hN
 go_in
 go_wp2_with fail
 go_loopw [5] (λi wr=>∃ k:Nat,k<=N/\i = ah k/\Box (ak w wr)) (λi _=>N-(intOf i).toNat)
 ·exact⟨0,by omega,rfl,⟨Below.refl _ _⟩⟩
 obtain⟨k,hk,rfl,hb⟩:=hrel
 by_cases hlt:k<N
 ·obtain⟨x,hx⟩:=bV l k (by rw [HN.o];exact hlt);have hr:=qK.o x (dB hx);obtain⟨g,off,cap2,hg1,hg2,hg3,hg4,hg5⟩:=(HV.o.below hb.o).get (by rintro rfl;simp at hx);rw [HN.o] at hg1;obtain⟨rfl,rfl⟩:=dQ hg1;obtain⟨x0,x1,x2⟩:=hg5 k x hx;have wu:=bx (λW=>aiO x W);rw [hr] at wu;unfold maxLen at hg3;clear hx hr hg1 hg2 hg5;go_wp2_with fail;refine dI (wu.o _) hb.o λw2 HB2=>?_
  clear x0 x1 x2
  go_wp2
  go_roundw
  ·exact⟨k+1,hlt,by go_num,HB2⟩
  simp [intOf];omega
 obtain rfl:k=N:=by omega
 go_wp2_with fail
 go_loopw [7,6] (λi o ws=>∃ (j:Nat) (q:List F.bI) (qa:Option Addr) (qc:Nat),j<=k/\i = ah j/\o = .slice qa j qc/\j<=qc/\qc<=9223372036854775807/\Box (q.length=j/\F.xP l j=some q)/\Box (jO ws (.slice qa j qc) q)/\Box (ak w ws)) (λi _ _=>k-(intOf i).toNat)
 ·exact⟨0,[],none,0,by omega,rfl,rfl,by omega,by omega,⟨rfl,rfl⟩,⟨.inl ⟨rfl,rfl⟩⟩,hb⟩
 obtain⟨j,q,qa,qc,hj,rfl,rfl,ayc,ayf,hq,hqv,hbs⟩:=hrel;obtain⟨ws,rfl⟩:∃ W,W=wr:=⟨_,rfl⟩
 by_cases hjl:j<k
 ·obtain⟨x,hx⟩:=bV l j (by rw [HN.o];exact hjl);obtain⟨r,hr⟩:=F.afk (k:=j+1) (by omega) nX.o;obtain⟨hrq,hno⟩:=F.avO hx hq.o.2 hr;obtain⟨g,off,cap2,hg1,hg2,hg3,hg4,hg5⟩:=(HV.o.below hbs.o).get (by rintro rfl;simp at hx);rw [HN.o] at hg1;obtain⟨rfl,rfl⟩:=dQ hg1;have Pg:=bx (show r.length=j+1/\F.xP l (j+1)=some r from⟨F.aiC hr,hr⟩);have vP:=bx hrq;have pJ:=bx hno;have HC:=bx (λ(i:Nat) (y:F.bI) (hy:l[i]?=some y) W (hW:ak ws W)=>show ay W g (off+i*3)=some (ah y.1)/\ay W g (off+i*3+1)=some (ah y.2.1)/\ay W g (off+i*3+2)=some (ah y.2.2) from⟨(hW.cell (p:=⟨g,off+i*3,none⟩) hg4).trans (hg5 i y hy).1,(hW.cell (p:=⟨g,off+i*3+1,none⟩) hg4).trans (hg5 i y hy).2.1,(hW.cell (p:=⟨g,off+i*3+2,none⟩) hg4).trans (hg5 i y hy).2.2⟩);unfold maxLen at hg3;have HX:=bx hx;clear hx hr hrq hno hg1 hg2 hg5;go_wp2_with fail
  go_loopw [8] (λi wr=>∃ (u:Nat),u<=j/\i = ah u/\Box (ak ws wr)) (λi _=>j-(intOf i).toNat)
  ·exact⟨0,by omega,rfl,⟨Below.refl _ _⟩⟩
  obtain⟨u,hu,rfl,hbw⟩:=hrel;obtain⟨x0,x1,x2⟩:=HC.o j x HX.o _ hbw.o;have HDR:=bx (λm=>hbw.o.trans ((uT wr m).mono hbw.o.size))
  by_cases OZ:u<j
  ·obtain⟨y,hy⟩:=bV l u (by rw [HN.o];omega);obtain⟨y0,y1,y2⟩:=HC.o u y hy _ hbw.o;have hno:=pJ.o u y OZ hy;clear hy
   by_cases h1:x.1<=y.2.1
   ·have e1:decide (x.1<=y.2.1)=true:=bD h1;have e2:decide (y.1<=x.2.1)=false:=dh (λh=>hno ⟨h1,h⟩);clear h1 hno;go_wp2_with fail
    go_quiet (fail)
    go_wp2
    go_roundw
    ·exact⟨u+1,OZ,by go_num,⟨HDR.o _⟩⟩
    simp [intOf];omega
   have e1:decide (x.1<=y.2.1)=false:=dh h1;clear h1 hno;go_wp2_with fail
   go_quiet (fail)
   go_wp2
   go_roundw
   ·exact⟨u+1,OZ,by go_num,⟨HDR.o _⟩⟩
   simp [intOf];omega
  obtain rfl:u=j:=by omega
  have Ai:=bx (aky (.slice qa u qc) q x wr (hqv.o.below hbw.o) (by rw [hq.o.1];omega));have HBM:=bx (bt hbs.o hbw.o);go_wp2_with fail;refine Ai.o.mono ?_;rintro e w4 ⟨⟨v',rfl,hown⟩,hb4⟩;rw [<- vP.o,hq.o.1] at hown;obtain⟨va,vc,rfl,arH,ao2⟩:=gI hown;have HR4:=bx (show jO w4 (.slice va (u+1) vc) r from jO.iy hown Pg.o.1.symm);have HB4:=aJ HBM hb4;clear hown hb4 x0 x1 x2
  go_wp2
  go_roundw
  ·exact⟨u+1,r,va,vc,hjl,by go_num,rfl,arH,ao2,Pg,HR4,HB4⟩
  simp [intOf];omega
 obtain rfl:j=k:=by omega
 have HM:=bx (show q=m by have:=hq.o.2.symm.trans nX.o;simpa using this);go_wp2_with fail
 go_ret3
 exact⟨⟨_,rfl,HM.o▸hqv.o⟩,hbs.o⟩
end
end Go.Proofs.YtdponihkpomheaaGreatDoor
