/- Texts of this claim. -/
import Derived.ChangeSlices
import Derived.WideShapes
import Derived.Maps.AppendAt
import Derived.Shelf.Abstract
import Derived.Shelf.RegionOpen
import Derived.RangeFuncNested
import Derived.RangeFuncBound
import Derived.RangeFuncCalls
import Derived.RangeFuncLeaves
import Derived.OwnWalkIn
import Derived.TacticsInMore
import Derived.LoopNIn
import Derived.LoopIn
import Derived.Test.YtdponihkpomheaaGreatDoorH1

set_option maxHeartbeats 2000000
namespace Go.Proofs.YtdponihkpomheaaGreatDoor
open Go.RowKit
open Tryz
def oP (n:Int) (x:N.Item):Bool:=xE n x.1&&decide (0<=x.2)&&decide (x.2<=2)
def sF (n:Int) (l:List N.Item):Bool:=decide (1<=n)&&decide (n<=32)&&decide (l.length<=10)&&l.all (oP n)
theorem anL {n set:Int} (h:xE n set=true):setB set=true:=by
 unfold xE at h;simp only [dD,fD] at h;obtain⟨⟨⟨h1,h2⟩,h3⟩,h4⟩:=h;have hp:2 ^ n.toNat<=2 ^ 32:=Nat.pow_le_pow_right (by omega) (by omega);rw [show ((2:Int) ^ n.toNat)=((2 ^ n.toNat:Nat):Int) by simp] at h4;unfold setB;simp only [dD,fD];omega
theorem aoR {n:Int} {l:List N.Item} (h:sF n l=true):kL l=true:=by
 unfold sF at h;simp only [dD,fD] at h;unfold kL;rw [dD];refine⟨bD h.1.2,?_⟩;rw [jG];intro x hx;have:=jG.1 h.2 x hx;unfold oP at this;unfold nY;simp only [dD] at this ⊢;exact⟨⟨anL this.1.1,this.1.2⟩,this.2⟩
theorem afe (x:N.Item) (n:Int) (bn:Nat) (w:World) (hn:w.cell? ⟨bn,0,none⟩=some (ah n)) (hlt:bn<w.heap.size) :
  Calls prog 323 #[.agg #[ah x.1, ah x.2], aA bn] w λe w'=>e = .returned (.bool (!oP n x))/\ak w w':=by
 obtain⟨set,how⟩:=x;unfold oP;have hb:∀ o1 o2,ak w ((w.alloc o1).alloc o2):=λo1 o2=>(aZ.alloc aU _).alloc (by simp) _
 go_in
 rcases sZ how 0 with h | h
 ·go_wp2
  go_ret
  exact⟨aY (by simp;omega),hb _ _⟩
 rcases sZ 2 how with h2 | h2
 ·go_wp2
  go_ret
  exact⟨aY (by simp;omega),hb _ _⟩
 have ho:=World.cell?_alloc_old;go_wp2_with (go_at_call 324;refine aP (acv _ _ _) ?_)
 go_ret
 exact⟨aY (by simp [h,h2]),hb _ _⟩
theorem aev (n:Int) (l:List N.Item) (k:Nat) (x:N.Item) (h:l[k]?=some x) (ha:(l.take k).all (oP n)=true) (hx:oP n x=true):(l.take (k+1)).all (oP n)=true:=by
 rw [jw,h,List.all_append,ha];simp [hx]
theorem Uc (n:Int) (l:List N.Item) (k:Nat) (x:N.Item) (h:l[k]?=some x) (hx:oP n x=false):l.all (oP n)=false:=by
 rw [Bool.eq_false_iff];intro ha;rw [jG] at ha;rw [ha x (dB h)] at hx
 cases hx
theorem ap1 (v:Value) (l:List N.Item) (n:Int) (bn:Nat) (w:World) (hv:fE w v l) (hz:l.length<=16777216) (hn:w.cell? ⟨bn,0,none⟩=some (ah n)) (hlt:bn<w.heap.size) :
  Calls prog 333 #[v, .func (.func 323) #[] #[aA bn]] w λe w'=>(∃ i:Int,e = .returned (ah i)/\decide (0<=i)=!l.all (oP n))/\ak w w':=by
 have mO:=bx hv;obtain⟨ao,cap,rfl⟩:=hv.slice;clear hv;have HN:=bx hn;clear hn
 go_in
 go_wp2
 go_loopw [8] (λi wr=>∃ k:Nat,k<=l.length/\i = ah k/\Box ((l.take k).all (oP n)=true)/\Box (ak w wr)) (λi _=>l.length-(intOf i).toNat)
 ·exact⟨0,by omega,rfl,⟨rfl⟩,⟨Below.refl _ _⟩⟩
 obtain⟨k,hk,rfl,ha,hb⟩:=hrel
 by_cases hlt':k<l.length
 ·obtain⟨x,hx⟩:∃ x,l[k]?=some x:=⟨_,dW hlt'⟩
  have HX:=bx hx;obtain⟨g,off,cap2,hg1,hg2,hg3,hg4,hg5⟩:=(mO.o.below hb.o).get (by rintro rfl;simp at hlt');obtain⟨rfl,rfl⟩:=dQ hg1;obtain⟨hc1,hc2⟩:=hg5 k x hx;unfold maxLen at hg3;have FH:=bx (show wr.cell? ⟨bn,0,none⟩=some (ah n) from(hb.o.cell (p:=⟨bn,0,none⟩) hlt).trans HN.o);have HL2:=bx (show bn<wr.heap.size from fC hlt hb.o.size);clear hx hg1 hg5
  cases hi:oP n x with
  | true =>
   have HT:=bx (aev n l k x HX.o ha.o hi);have HI:=bx (show (!oP n x)=false by rw [hi];rfl);clear hi;go_wp2_with fail;refine(afe x n bn _ FH.o HL2.o).mono ?_;rintro e w1 ⟨rfl,hb1⟩;rw [HI.o];have HB1:=bx (show ak w w1 from bt hb.o hb1);clear hb1
   go_wp2
   go_roundw
   ·exact⟨k+1,hlt',by go_num,HT,HB1⟩
   simp [intOf];omega
  | false =>
   have HT:=bx (Uc n l k x HX.o hi);have HI:=bx (show (!oP n x)=true by rw [hi];rfl);clear hi;go_wp2_with fail;refine(afe x n bn _ FH.o HL2.o).mono ?_;rintro e w1 ⟨rfl,hb1⟩;rw [HI.o]
   go_wp2
   go_ret
   exact⟨⟨k,rfl,by rw [HT.o];simp⟩,bt hb.o hb1⟩
 have HT:=bx (show l.all (oP n)=true by have:=ha.o;rwa [gq (by omega)] at this)
 go_wp2
 go_ret
 exact⟨⟨-1,rfl,by rw [HT.o];rfl⟩,hb.o⟩
theorem arV (v:Value) (l:List N.Item) (n:Int) (bn:Nat) (w:World) (hv:fE w v l) (hz:l.length<=16777216) (hn:w.cell? ⟨bn,0,none⟩=some (ah n)) (hlt:bn<w.heap.size) :
  Calls prog 325 #[v, .func (.func 323) #[] #[aA bn]] w λe w'=>e = .returned (.bool (!l.all (oP n)))/\ak w w':=by
 have HI:=bx (ap1 v l n bn w hv hz hn hlt);clear hv hn
 go_in
 go_wp2_with fail;refine HI.o.mono ?_;rintro e w1 ⟨⟨i,rfl,hi⟩,hb⟩;have HX:=bx hi;clear hi
 go_wp2
 go_ret
 exact⟨aY (by simpa using HX.o),hb⟩
theorem ain (st:Bool) (v:Value) (l:List N.Item) (n:Int) (w:World) (hv:fE w v l) (hz:l.length<=16777216) :
  Calls prog 305 #[.agg #[.bool st,v], ah n] w λe w'=>e = .returned (.bool (sF n l))/\ak w w':=by
 unfold sF;have hw:ak w ((w.alloc (.cells #[.bool st,v] 252)).alloc (.cells #[ah n] 3)):=(aZ.alloc aU _).alloc (by simp) _;have HW:=bx hw;have HV:=bx (hv.below hw);have HN:=bx (show ((w.alloc (.cells #[.bool st,v] 252)).alloc (.cells #[ah n] 3)).cell? ⟨w.heap.size+1,0,none⟩=some (ah n) by
  have:=World.cell?_alloc_mark (w.alloc (.cells #[.bool st,v] 252)) #[ah n] 3 (0,0) 0;simp at this ⊢)
 obtain⟨ao,cap,rfl⟩:=hv.slice;clear hv hw
 by_cases hn:1<=n/\n<=32
 ·obtain⟨hn1,hn2⟩:=hn
  by_cases hl:l.length<=10
  ·go_in
   go_wp2_with fail;refine aT (arV _ l n (w.heap.size+1) _ HV.o hz HN.o (by simp)) λw1 hb=>?_
   have HB:=bx hb;clear hb
   go_wp2
   go_ret
   exact⟨aY (by simp [hl,hn1,hn2]),bt HW.o HB.o⟩
  have hl':10<l.length:=by omega
  go_in
  go_wp2
  go_ret
  exact⟨aY (by simp <;> omega),HW.o⟩
 have hn':n<1\/(1<=n/\32<n):=by omega
 rcases hn' with h | ⟨h,h'⟩
 all_goals
  go_in
  go_wp2
  go_ret
  exact⟨aY (by simp <;> omega),HW.o⟩
theorem ad3 (st:Bool) (v:Value) (l:List N.Item) (n:Int) (w:World) (hv:fE w v l) (hz:l.length<=16777216) :
  Calls prog 260 #[.agg #[.bool st,v], ah n] w λe w'=>e = .returned (.bool (sF n l))/\ak w w':=by
 have mO:=bx hv;obtain⟨ao,cap,rfl⟩:=hv.slice;clear hv;have HB0:=bx (aC.new w 252 #[.bool st, .slice ao l.length cap]);have HW0:=bx (((Below.refl w.heap.size w).alloc aU (.cells #[.bool st, .slice ao l.length cap] 252)))
 go_in
 go_wp2
 go_loopw [5] (λi wr=>∃ k:Nat,k<=l.length/\i = ah k/\Box ((l.take k).all (oP n)=true)/\aC wr w.heap.size 252 #[.bool st, .slice ao l.length cap]/\Box (ak w wr)) (λi _=>l.length-(intOf i).toNat)
 ·exact⟨0,by omega,rfl,⟨rfl⟩,HB0.o,HW0⟩
 obtain⟨k,hk,rfl,ha,hbk,hb⟩:=hrel;have c1:wr.cell? ⟨w.heap.size,1,none⟩=some (.slice ao l.length cap):=(hbk.cell 1).trans rfl;have hl0:=hbk.lt;have dn:=bx hbk;clear hbk
 by_cases hlt:k<l.length
 ·obtain⟨x,hx⟩:=bV l k hlt;have HX:=bx hx;obtain⟨g,off,cap2,hg1,hg2,hg3,hg4,hg5⟩:=(mO.o.below hb.o).get (by rintro rfl;simp at hlt);obtain⟨rfl,rfl⟩:=dQ hg1;obtain⟨hc1,hc2⟩:=hg5 k x hx;unfold maxLen at hg3;have kX:=bx (λo=>hb.o.alloc hb.o.size o);clear hx hg1 hg5;obtain⟨set,how⟩:=x
  cases hs:xE n set with
  | true =>
   have HS:=bx hs
   rcases sZ how 0 with h | h
   ·have HT:=bx (show sF n l=false by unfold sF;rw [Uc n l k _ HX.o (by unfold oP;simp;omega)];simp);clear hs;go_wp2_with fail;refine aP (Rh _ _ _) ?_;rw [HS.o]
    go_wp2
    go_ret
    exact⟨by rw [HT.o];rfl,kX.o _⟩
   rcases sZ 2 how with h2 | h2
   ·have HT:=bx (show sF n l=false by unfold sF;rw [Uc n l k _ HX.o (by unfold oP;simp;omega)];simp);clear hs;go_wp2_with fail;refine aP (Rh _ _ _) ?_;rw [HS.o]
    go_wp2
    go_ret
    exact⟨by rw [HT.o];rfl,kX.o _⟩
   have HT:=bx (aev n l k _ HX.o ha.o (show oP n (set,how)=true by unfold oP;simp [hs,h,h2]));clear hs;go_wp2_with fail;refine aP (Rh _ _ _) ?_;rw [HS.o]
   go_wp2
   go_roundw
   ·exact⟨k+1,hlt,by go_num,HT,dn.o.alloc _,⟨kX.o _⟩⟩
   simp [intOf];omega
  | false =>
   have HS:=bx hs;have HT:=bx (show sF n l=false by unfold sF;rw [Uc n l k _ HX.o (by unfold oP;simp [hs])];simp);clear hs;go_wp2_with fail;refine aP (Rh _ _ _) ?_;rw [HS.o]
   go_wp2
   go_ret
   exact⟨by rw [HT.o];rfl,kX.o _⟩
 have HT:=bx (show l.all (oP n)=true by have:=ha.o;rwa [gq (by omega)] at this);go_wp2_with fail
 all_goals go_ret
 all_goals refine⟨aY ?_,hb.o⟩
 all_goals unfold sF
 all_goals rw [HT.o,ny]
 all_goals (simp <;> omega)
def aN (w:World) (v:Value) (xs:List Int):Prop :=
 (v = aj/\xs=[])\/∃ b off sp cap,v = .slice (some ⟨b,off,sp⟩) xs.length cap/\xs.length<=cap/\cap<=maxLen/\(xs≠[]->sp=none/\b<w.heap.size/\∀ i x,xs[i]?=some x->w.cell? ⟨b,off+i,none⟩=some (ah x))
theorem aN.below {w w':World} {v:Value} {xs:List Int} (h:aN w v xs) (hb:ak w w'):aN w' v xs:=by
 rcases h with h | ⟨b,off,sp,cap,h1,h2,h3,h4⟩
 ·exact .inl h
 exact .inr ⟨b,off,sp,cap,h1,h2,h3,λhn=>⟨(h4 hn).1,fC (h4 hn).2.1 hb.size,λi x hx=>(hb.cell (p:=⟨b,off+i,none⟩) (h4 hn).2.1).trans ((h4 hn).2.2 i x hx)⟩⟩
theorem aN.get {w:World} {v:Value} {xs:List Int} (h:aN w v xs) (hn:xs≠[]) :
  ∃ b off cap,v = .slice (some ⟨b,off,none⟩) xs.length cap/\xs.length<=cap/\cap<=maxLen/\b<w.heap.size/\∀ i x,xs[i]?=some x->w.cell? ⟨b,off+i,none⟩=some (ah x):=by
 rcases h with⟨_,h⟩ | ⟨b,off,sp,cap,h1,h2,h3,h4⟩
 ·exact absurd h hn
 obtain⟨rfl,h5,h6⟩:=h4 hn;exact⟨b,off,cap,h1,h2,h3,h5,h6⟩
theorem aN.iy {w:World} {base n:Nat} {T:TypeId} {v:Value} {xs:List Int} (h:w.ownsRow base T 1 v n (xs.map (Value.int .i64))) (hn:n=xs.length):aN w v xs:=by
 subst hn;have hl:=h.lt
 rcases h.2 with⟨h1,h2⟩ | ⟨g,cap,cur,rfl,h2,h3,h4,h5,h6,h7⟩
 ·exact .inl ⟨h1,nR h2⟩
 refine .inr ⟨g,0,none,cap,rfl,h4,h5,λ_=>⟨rfl,(hl g rfl).2,λi x hx=>?_⟩⟩;have:=h.cells (g:=g) rfl i (ah x) (by rw [eX,hx];rfl)
 (try unfold ay at *);rw [show (⟨g,0+i,none⟩:Addr)=(⟨g,0,none⟩:Addr).add i by unfold Addr.add;by_cases h0:i=0 <;> simp [h0]]
 exact this
theorem aN.nil {w:World}:aN w (aj) []:=.inl ⟨rfl,rfl⟩
theorem aN.slice {w:World} {v:Value} {xs:List Int} (h:aN w v xs):∃ a cap,v = .slice a xs.length cap:=by
 rcases h with⟨rfl,rfl⟩ | ⟨b,off,sp,cap,rfl,_⟩
 ·exact⟨_,_,rfl⟩
 exact⟨_,_,rfl⟩
namespace N
theorem drop_at (l:List Item) (i:Nat) (h:i<l.length):l.drop i=(l.getD i (0,0))::l.drop (i+1):=by
 rw [zS h];simp [List.getD,dW h]
theorem aoS (l:List Item) (n:Nat) (h:n % 2=1):clo l n=2 ^ n:=by unfold clo;rw [aG h]
theorem ajc (l:List Item) (n:Nat) (h:l.length<=n / 2):clo l n=2 ^ n:=by
 unfold clo
 split
 ·rfl
 rw [zF h];rfl
theorem atO (l:List Item) (n:Nat) (h:DF l (n / 2)=0):clo l n=2 ^ n:=by
 by_cases hl:n / 2<l.length
 ·unfold clo
  split
  ·rfl
  rw [drop_at l _ hl];unfold J9;unfold DF at h;rw [aG h]
 exact ajc l n (by omega)
theorem amN (l:List Item) (n:Nat) (h0:n % 2=0) (hl:n / 2<l.length) (h:DF l (n / 2)≠0):clo l n=2 ^ n ||| clo l (n+2):=by
 unfold clo;rw [aF (by omega),aF (by omega),drop_at l _ hl,show (n+2) / 2=n / 2+1 by omega];unfold DF at h;rw [J9,aF h]
end N
namespace D
abbrev Side:=Bool×List N.Item
abbrev Sets:=List Nat
def Fb (rs:List Side) (i:Nat):Side:=rs.getD i (false,[])
def cls (n k:Nat):Int:=if k=n then -1 else k
def OL (rs:List Side) (S:Sets) (c:Int) (i:Nat):Nat:=N.step (Fb rs i).2 (Fb rs i).1 (S.getD i 0) c
def wI (rs:List Side) (S:Sets) (c:Int):Sets:=(List.range rs.length).map (OL rs S c)
def firstAt (rs:List Side) (i:Nat):Nat:=N.clo (Fb rs i).2 0
def wC (rs:List Side):Sets:=(List.range rs.length).map (firstAt rs)
def TY (rs:List Side) (S:Sets) (i:Nat):Bool:=N.XY (Fb rs i).2 (S.getD i 0)
def pI (rs:List Side) (S:Sets):Nat->Nat
 | 0=>0
 | k+1=>if TY rs S k=true then pI rs S k ||| 2 ^ k else pI rs S k
def place (t:List Sets) (s:Sets):Nat:=t.idxOf s
def add (t:List Sets) (s:Sets):List Sets:=if s∈t then t else t++[s]
def row (rs:List Side) (n:Nat) (S:Sets) (t:List Sets):Nat->List Nat×List Sets
 | 0=>([],t)
 | k+1=>((row rs n S t k).1++[place (row rs n S t k).2 (wI rs S (cls n k))],add (row rs n S t k).2 (wI rs S (cls n k)))
structure zK where
 todo:List Sets
 next:List (List Nat)
 fits:List Nat
def zK.go (rs:List Side) (n:Nat) (b:zK):zK :=
 match b.todo[b.next.length]? with
 | none=>b
 | some S=>⟨(row rs n S b.todo (n+1)).2,b.next++[(row rs n S b.todo (n+1)).1],b.fits++[pI rs S rs.length]⟩
def build (rs:List Side) (n:Nat):Nat->zK
 | 0=>⟨[wC rs],[],[]⟩
 | k+1=>(build rs n k).go rs n
def EI (rs:List Side) (n:Nat):Bool:=decide ((build rs n 300).todo.length<=300)
theorem abA (rs:List Side) (S:Sets) (c:Int):(wI rs S c).length=rs.length:=by simp [wI]
theorem axz (rs:List Side):(wC rs).length=rs.length:=by simp [wC]
theorem amC (rs:List Side) (S:Sets) (c:Int) (i:Nat) (h:i<rs.length):(wI rs S c)[i]?=some (OL rs S c i):=by
 unfold wI;rw [eX,yj h];rfl
theorem ao6 {rs:List Side} {i:Nat} {r:Side} (h:rs[i]?=some r):Fb rs i=r:=by unfold Fb;rw [List.getD,h];rfl
theorem VO (rs:List Side) (S:Sets):∀ k,pI rs S k<2 ^ k
 | 0=>by unfold pI;decide
 | k+1=>by
  have ih:=VO rs S k;have h2:2 ^ k<2 ^ (k+1):=Nat.pow_lt_pow_right (by omega) (by omega);unfold pI
  split
  ·exact Nat.or_lt_two_pow (by omega) h2
  omega
theorem auu (rs:List Side) (S:Sets) (k:Nat):pI rs S k+2 ^ k=pI rs S k ||| 2 ^ k:=by
 have:=Nat.two_pow_add_eq_or_of_lt (VO rs S k) 1;rw [Nat.mul_one] at this;rw [Nat.add_comm,this,Nat.or_comm]
theorem aiX {t:List Sets} {s:Sets} (h:s∈t):place t s<t.length:=List.idxOf_lt_length_of_mem h
theorem YL {t:List Sets} {s:Sets} (h:s∉t):place t s=t.length:=List.idxOf_eq_length h
theorem aor (t:List Sets) (s:Sets):place t s<=t.length:=by
 by_cases h:s∈t
 ·exact G9 (aiX h)
 rw [YL h];exact bK _
theorem afO (t:List Sets) (s:Sets):t <+: add t s:=by
 unfold add;split
 ·exact List.prefix_refl _
 exact List.prefix_append _ _
theorem akX {p:Sets->Prop} {t:List Sets} {s:Sets} (h:∀ x∈t,p x) (hs:p s):∀ x∈add t s,p x:=by
 unfold add;split
 ·exact h
 intro x hx
 rcases lM.1 hx with hx | hx
 ·exact h x hx
 rw [fU] at hx;subst hx;exact hs
theorem aaW {α:Type} {a b:List α} (h:a <+: b) {i:Nat} {x:α} (hx:a[i]?=some x):b[i]?=some x:=by
 obtain⟨c,rfl⟩:=h;rw [zU (dO hx).1];exact hx
section
variable (rs:List Side) (n:Nat) (S:Sets) (t:List Sets)
theorem Ov (k:Nat):row rs n S t (k+1)=((row rs n S t k).1++[place (row rs n S t k).2 (wI rs S (cls n k))],add (row rs n S t k).2 (wI rs S (cls n k))):=rfl
theorem abH:∀ k,(row rs n S t k).1.length=k
 | 0=>rfl
 | k+1=>by rw [Ov,bC,abH k];rfl
theorem Oi:∀ k,t <+: (row rs n S t k).2
 | 0=>List.prefix_refl _
 | k+1=>(Oi k).trans (by rw [Ov];exact afO _ _)
theorem ahG (j:Nat):∀ k,(row rs n S t j).2 <+: (row rs n S t (j+k)).2
 | 0=>List.prefix_refl _
 | k+1=>(ahG j k).trans (by rw [<- Nat.add_assoc,Ov];exact afO _ _)
theorem auI {j k:Nat} (h:j<=k):(row rs n S t j).2.length<=(row rs n S t k).2.length:=by
 obtain⟨d,rfl⟩:=Nat.exists_eq_add_of_le h;exact(ahG rs n S t j d).length_le
theorem ZI {p:Sets->Prop} (ht:∀ x∈t,p x) (hs:∀ c,p (wI rs S c)):∀ k,∀ x∈(row rs n S t k).2,p x
 | 0=>ht
 | k+1=>by rw [Ov];exact akX (ZI ht hs k) (hs _)
end
section
variable (rs:List Side) (n:Nat)
theorem agR {b:zK} (h:b.todo.length<=b.next.length):b.go rs n=b:=by
 unfold zK.go;rw [List.getElem?_eq_none h]
theorem ZQ {b:zK} {S:Sets} (h:b.todo[b.next.length]?=some S):b.go rs n=⟨(row rs n S b.todo (n+1)).2,b.next++[(row rs n S b.todo (n+1)).1],b.fits++[pI rs S rs.length]⟩:=by
 unfold zK.go;rw [h]
theorem aqJ (b:zK):b.todo <+: (b.go rs n).todo:=by
 unfold zK.go
 split
 ·exact List.prefix_refl _
 exact Oi _ _ _ _ _
theorem adk (j:Nat):∀ k,(build rs n j).todo.length<=(build rs n (j+k)).todo.length
 | 0=>bK _
 | k+1=>bP (adk j k) (by rw [<- Nat.add_assoc];exact(aqJ rs n _).length_le)
theorem avp {j k:Nat} (h:j<=k):(build rs n j).todo.length<=(build rs n k).todo.length:=by
 obtain⟨d,rfl⟩:=Nat.exists_eq_add_of_le h;exact adk rs n j d
theorem ae8:∀ k,(build rs n k).next.length=(build rs n k).fits.length/\(build rs n k).next.length<=(build rs n k).todo.length/\((build rs n k).next.length=k\/((build rs n k).next.length<k/\(build rs n k).next.length=(build rs n k).todo.length))
 | 0=>⟨rfl,nK _, .inl rfl⟩
 | k+1=>by
  obtain⟨h1,h2,h3⟩:=ae8 k;show _=_/\_/\_
  rcases gZ (build rs n k).next.length (build rs n k).todo.length with h | h
  ·obtain⟨S,hS⟩:∃ S,(build rs n k).todo[(build rs n k).next.length]?=some S:=⟨_,dW h⟩
   have e:build rs n (k+1)=_:=ZQ rs n hS;rw [e];simp only [bC,dY,iG];have hp:=(Oi rs n S (build rs n k).todo (n+1)).length_le;refine⟨by omega,by omega, .inl ?_⟩
   rcases h3 with h3 | h3
   ·omega
   omega
  have e:build rs n (k+1)=_:=agR rs n h;rw [e];exact⟨h1,h2, .inr ⟨by rcases h3 with h3 | h3 <;> omega,by omega⟩⟩
theorem acw {k:Nat} (h:(build rs n k).todo.length<=(build rs n k).next.length):∀ m,build rs n (k+m)=build rs n k
 | 0=>rfl
 | m+1=>by
  have ih:=acw h m;show (build rs n (k+m)).go rs n=_
  rw [ih];exact agR rs n h
theorem Wp {k:Nat} (hk:k<=300) (h:(build rs n k).todo.length<=(build rs n k).next.length):build rs n 300=build rs n k:=by
 obtain⟨d,hd⟩:=Nat.exists_eq_add_of_le hk;rw [hd];exact acw rs n h d
theorem ad8 {k:Nat} (hk:k<=300) (h:(build rs n k).todo.length<=(build rs n k).next.length) (hl:(build rs n k).todo.length<=300):EI rs n=true:=by
 unfold EI;rw [Wp rs n hk h];exact bD hl
theorem arS {k:Nat} (hk:k<=300) (h:300<(build rs n k).todo.length):EI rs n=false:=by
 unfold EI;have:=avp rs n hk;exact dh (by omega)
theorem af8 {p:Sets->Prop} (h0:p (wC rs)) (hs:∀ S c,p S->p (wI rs S c)):∀ k,∀ x∈(build rs n k).todo,p x
 | 0=>by intro x hx;simp only [build,fU] at hx;subst hx;exact h0
 | k+1=>by
  have ih:=af8 h0 hs k;show ∀ x∈((build rs n k).go rs n).todo,p x
  unfold zK.go
  split
  ·exact ih
  rename_i S hS
  exact ZI rs n S _ ih (λc=>hs S c (ih S (dB hS))) _
end
def Good (rs:List Side) (S:Sets):Prop:=S.length=rs.length/\∀ i,i<rs.length->S.getD i 0<2 ^ (2*(Fb rs i).2.length+1)
theorem aem (rs:List Side) (f:Nat->Nat) (h:∀ i,i<rs.length->f i<2 ^ (2*(Fb rs i).2.length+1)):Good rs ((List.range rs.length).map f):=by
 refine⟨by simp,λi hi=>?_⟩;rw [List.getD,eX,yj hi];exact h i hi
theorem good_step (rs:List Side) (S:Sets) (c:Int):Good rs (wI rs S c):=aem rs _ λ_ _=>N.aru _ _ _ _
theorem an9 (rs:List Side):Good rs (wC rs):=aem rs _ λ_ _=>N.VK _ 0 (by omega)
theorem apC (rs:List Side) (n k:Nat):∀ x∈(build rs n k).todo,Good rs x:=af8 rs n (an9 rs) (λS c _=>good_step rs S c) k
end D
abbrev D.Rule:=D.Side×D.Side×Bool
def ZR (x:D.Rule) (vl vr:Value):Value:=.agg #[.bool x.1.1,vl, .bool x.2.1.1,vr, .bool x.2.2]
def Qk (w:World) (b o:Nat) (x:D.Rule):Prop:=∃ vl vr,w.cell? ⟨b,o,none⟩=some (.bool x.1.1)/\w.cell? ⟨b,o+1,none⟩=some vl/\w.cell? ⟨b,o+2,none⟩=some (.bool x.2.1.1)/\w.cell? ⟨b,o+3,none⟩=some vr/\w.cell? ⟨b,o+4,none⟩=some (.bool x.2.2)/\fE w vl x.1.2/\fE w vr x.2.1.2
theorem Qk.below {w w':World} {b o:Nat} {x:D.Rule} (h:Qk w b o x) (hlt:b<w.heap.size) (hb:ak w w'):Qk w' b o x:=by
 obtain⟨vl,vr,h0,h1,h2,h3,h4,hl,hr⟩:=h;have key:=λj=>hb.cell (p:=⟨b,j,none⟩) hlt
 exact⟨vl,vr,(key o).trans h0,(key (o+1)).trans h1,(key (o+2)).trans h2,(key (o+3)).trans h3,(key (o+4)).trans h4,hl.below hb,hr.below hb⟩
def iD (w:World) (v:Value) (l:List D.Rule):Prop :=
 (v = aj/\l=[])\/∃ b off sp cap,v = .slice (some ⟨b,off,sp⟩) l.length cap/\l.length<=cap/\cap<=maxLen/\(l≠[]->sp=none/\b<w.heap.size/\∀ i x,l[i]?=some x->Qk w b (off+i*5) x)
theorem iD.below {w w':World} {v:Value} {l:List D.Rule} (h:iD w v l) (hb:ak w w'):iD w' v l:=by
 rcases h with h | ⟨b,off,sp,cap,h1,h2,h3,h4⟩
 ·exact .inl h
 exact .inr ⟨b,off,sp,cap,h1,h2,h3,λhn=>⟨(h4 hn).1,fC (h4 hn).2.1 hb.size,λi x hx=>((h4 hn).2.2 i x hx).below (h4 hn).2.1 hb⟩⟩
theorem iD.get {w:World} {v:Value} {l:List D.Rule} (h:iD w v l) (hn:l≠[]) :
  ∃ b off cap,v = .slice (some ⟨b,off,none⟩) l.length cap/\l.length<=cap/\cap<=maxLen/\b<w.heap.size/\∀ i x,l[i]?=some x->Qk w b (off+i*5) x:=by
 rcases h with⟨_,h⟩ | ⟨b,off,sp,cap,h1,h2,h3,h4⟩
 ·exact absurd h hn
 obtain⟨rfl,h5,h6⟩:=h4 hn;exact⟨b,off,cap,h1,h2,h3,h5,h6⟩
theorem iD.slice {w:World} {v:Value} {l:List D.Rule} (h:iD w v l):∃ a cap,v = .slice a l.length cap:=by
 rcases h with⟨rfl,rfl⟩ | ⟨b,off,sp,cap,rfl,_⟩
 ·exact⟨_,_,rfl⟩
 exact⟨_,_,rfl⟩
theorem iD.WE {w:World} {ao:Option Addr} {cap n:Nat} {l:List D.Rule} (h:iD w (.slice ao n cap) l):l.length<=cap/\cap<=9223372036854775807:=by
 rcases h with⟨h1,rfl⟩ | ⟨b,off,sp,cap,h1,h2,h3,h4⟩
 ·injection h1 with h1 h2 h3;subst h3;simp
 injection h1 with h1 h2' h3';subst h3';unfold maxLen at h3;omega
theorem iD.take {w:World} {ao:Option Addr} {cap cap':Nat} {l:List D.Rule} (h:iD w (.slice ao l.length cap) l) (n:Nat) (hc:(l.take n).length<=cap') (hc':cap'<=cap):iD w (.slice ao (l.take n).length cap') (l.take n):=by
 rcases h with⟨h1,rfl⟩ | ⟨b,off,sp,cap,h1,h2,h3,h4⟩
 ·injection h1 with h1 h2 h3;subst h1 h3;obtain rfl:cap'=0:=by omega
  simp [iD]
 injection h1 with h1 h2' h3';subst h1 h3';refine .inr ⟨b,off,sp,_,rfl,hc,bP hc' h3,λhn=>?_⟩;have hn':l≠[]:=by rintro rfl;simp at hn
 refine⟨(h4 hn').1,(h4 hn').2.1,λi x hx=>(h4 hn').2.2 i x ?_⟩;rw [wE] at hx
 split at hx
 ·exact hx
 cases hx
def uS (x:D.Rule):Prop:=x.1.2.length<=16777216/\x.2.1.2.length<=16777216
def mP (n:Int) (x:D.Rule):Bool:=sF n x.1.2&&sF n x.2.1.2&&!x.2.1.1
def uN (n:Int) (l:List D.Rule):Bool:=decide (1<=n)&&decide (n<=32)&&decide (l.length<=40)&&l.all (mP n)
theorem aoV {n:Int} {x:D.Rule} (h:mP n x=true):sF n x.1.2=true:=by unfold mP at h;simp only [dD] at h;exact h.1.1
theorem avE (x:D.Rule) (vl vr:Value) (n:Int) (bn:Nat) (w:World) (hf:uS x) (hl:fE w vl x.1.2) (hr:fE w vr x.2.1.2) (hn:w.cell? ⟨bn,0,none⟩=some (ah n)) (hlt:bn<w.heap.size) :
  Calls prog 304 #[ZR x vl vr, aA bn] w λe w'=>e = .returned (.bool (!mP n x))/\ak w w':=by
 obtain⟨⟨vV,il⟩,⟨str,ir⟩,br⟩:=x;unfold ZR mP;obtain⟨hz1,hz2⟩:=hf;have hb0:ak w (w.alloc (.cells #[.bool vV,vl, .bool str,vr, .bool br] 254)):=aZ.alloc aU _;have HB0:=bx hb0;have Ky:=bx (ain vV vl il n _ (hl.below hb0) hz1);have HP2:=bx (λw' (hb:ak w w')=>ain str vr ir n w' (hr.below hb) hz2);have HN:=bx (λw' (hb:ak w w')=>(hb.cell (p:=⟨bn,0,none⟩) hlt).trans hn);have dn:=bx (aC.new w 254 #[.bool vV,vl, .bool str,vr, .bool br]);have hn0:=HN.o _ hb0;clear hl hr hn hb0;have hlt1:bn<w.heap.size+1:=by omega
 cases h1:sF n il with
 | false =>
  have H1:=bx h1;clear h1
  go_in
  go_wp2_with fail;refine Ky.o.mono ?_;rintro e w1 ⟨rfl,hb1⟩;rw [H1.o];have HB1:=aJ HB0 hb1;clear hb1 hn0
  go_wp2
  go_ret
  exact⟨rfl,HB1.o⟩
 | true =>
  have H1:=bx h1;clear h1
  go_in
  go_wp2_with fail;refine Ky.o.mono ?_;rintro e w1 ⟨rfl,hb1⟩;rw [H1.o];have HB1:=aJ HB0 hb1;have fJ:=dn.o.below hb1 dn.o.lt;have c2:w1.cell? ⟨w.heap.size,2,none⟩=some (.bool str):=(fJ.cell 2).trans rfl;have c3:w1.cell? ⟨w.heap.size,3,none⟩=some vr:=(fJ.cell 3).trans rfl;have hn1:=HN.o _ HB1.o;have l1:=fJ.lt;have hs1:=HB1.o.size;have Ut:bn<w1.heap.size:=by omega
  clear hb1 hn0 fJ
  cases h2:sF n ir with
  | false =>
   have H2:=bx h2;clear h2;go_wp2_with fail;refine(HP2.o _ HB1.o).mono ?_;rintro e w2 ⟨rfl,hb2⟩;rw [H2.o];have HB2:=aJ HB1 hb2;clear hb2 hn1 c2 c3
   go_wp2
   go_ret
   exact⟨aY (by simp [H2.o]),HB2.o⟩
  | true =>
   have H2:=bx h2;clear h2;go_wp2_with fail;refine(HP2.o _ HB1.o).mono ?_;rintro e w2 ⟨rfl,hb2⟩;rw [H2.o];have HB2:=aJ HB1 hb2;have c2':w2.cell? ⟨w.heap.size,2,none⟩=some (.bool str):=(hb2.cell (p:=⟨w.heap.size,2,none⟩) l1).trans c2;have l2:w.heap.size<w2.heap.size:=fC l1 hb2.size;clear hb2 hn1 c2 c3
   go_wp2
   go_ret
   exact⟨aY (by simp [H2.o]),HB2.o⟩
theorem afn (n:Int) (l:List D.Rule) (k:Nat) (x:D.Rule) (h:l[k]?=some x) (ha:(l.take k).all (mP n)=true) (hx:mP n x=true):(l.take (k+1)).all (mP n)=true:=by
 rw [jw,h,List.all_append,ha];simp [hx]
theorem abz (n:Int) (l:List D.Rule) (k:Nat) (x:D.Rule) (h:l[k]?=some x) (hx:mP n x=false):l.all (mP n)=false:=by
 rw [Bool.eq_false_iff];intro ha;rw [jG] at ha;rw [ha x (dB h)] at hx
 cases hx
theorem anR (v:Value) (l:List D.Rule) (n:Int) (bn:Nat) (w:World) (hf:∀ x∈l,uS x) (hv:iD w v l) (hz:l.length<=16777216) (hn:w.cell? ⟨bn,0,none⟩=some (ah n)) (hlt:bn<w.heap.size) :
  Calls prog 326 #[v, .func (.func 304) #[] #[aA bn]] w λe w'=>(∃ i:Int,e = .returned (ah i)/\decide (0<=i)=!l.all (mP n))/\ak w w':=by
 have mO:=bx hv;have HF:=bx hf;obtain⟨ao,cap,rfl⟩:=hv.slice;clear hv hf;have HN:=bx hn;clear hn
 go_in
 go_wp2
 go_loopw [8] (λi wr=>∃ k:Nat,k<=l.length/\i = ah k/\Box ((l.take k).all (mP n)=true)/\Box (ak w wr)) (λi _=>l.length-(intOf i).toNat)
 ·exact⟨0,by omega,rfl,⟨rfl⟩,⟨Below.refl _ _⟩⟩
 obtain⟨k,hk,rfl,ha,hb⟩:=hrel
 by_cases hlt':k<l.length
 ·obtain⟨x,hx⟩:∃ x,l[k]?=some x:=⟨_,dW hlt'⟩
  have HX:=bx hx;have FU:=bx (HF.o x (dB hx));obtain⟨g,off,cap2,hg1,hg2,hg3,hg4,hg5⟩:=(mO.o.below hb.o).get (by rintro rfl;simp at hlt');obtain⟨rfl,rfl⟩:=dQ hg1;obtain⟨vl,vr,hc0,hc1,hc2,hc3,hc4,hil,hir⟩:=hg5 k x hx;have zq:=bx hil;have HIR:=bx hir;unfold maxLen at hg3;have FH:=bx (show wr.cell? ⟨bn,0,none⟩=some (ah n) from(hb.o.cell (p:=⟨bn,0,none⟩) hlt).trans HN.o);have HL2:=bx (show bn<wr.heap.size from fC hlt hb.o.size);have HC:=bx (avE x vl vr n bn wr FU.o zq.o HIR.o FH.o HL2.o);clear hx hg1 hg5 hil hir;unfold ZR at HC
  cases hi:mP n x with
  | true =>
   have HT:=bx (afn n l k x HX.o ha.o hi);have HI:=bx (show (!mP n x)=false by rw [hi];rfl);clear hi;go_wp2_with fail;refine HC.o.mono ?_;rintro e w1 ⟨rfl,hb1⟩;rw [HI.o];have HB1:=bx (show ak w w1 from bt hb.o hb1);clear hb1
   go_wp2
   go_roundw
   ·exact⟨k+1,hlt',by go_num,HT,HB1⟩
   simp [intOf];omega
  | false =>
   have HT:=bx (abz n l k x HX.o hi);have HI:=bx (show (!mP n x)=true by rw [hi];rfl);clear hi;go_wp2_with fail;refine HC.o.mono ?_;rintro e w1 ⟨rfl,hb1⟩;rw [HI.o]
   go_wp2
   go_ret
   exact⟨⟨k,rfl,by rw [HT.o];simp⟩,bt hb.o hb1⟩
 have HT:=bx (show l.all (mP n)=true by have:=ha.o;rwa [gq (by omega)] at this)
 go_wp2
 go_ret
 exact⟨⟨-1,rfl,by rw [HT.o];rfl⟩,hb.o⟩
theorem aqx (v:Value) (l:List D.Rule) (n:Int) (bn:Nat) (w:World) (hf:∀ x∈l,uS x) (hv:iD w v l) (hz:l.length<=16777216) (hn:w.cell? ⟨bn,0,none⟩=some (ah n)) (hlt:bn<w.heap.size) :
  Calls prog 306 #[v, .func (.func 304) #[] #[aA bn]] w λe w'=>e = .returned (.bool (!l.all (mP n)))/\ak w w':=by
 have HI:=bx (anR v l n bn w hf hv hz hn hlt);clear hf hv hn
 go_in
 go_wp2_with fail;refine HI.o.mono ?_;rintro e w1 ⟨⟨i,rfl,hi⟩,hb⟩;have HX:=bx hi;clear hi
 go_wp2
 go_ret
 exact⟨aY (by simpa using HX.o),hb⟩
theorem alO (v:Value) (l:List D.Rule) (n:Int) (w:World) (hf:∀ x∈l,uS x) (hv:iD w v l) (hz:l.length<=16777216) :
  Calls prog 271 #[ah n,v] w λe w'=>e = .returned (.bool (uN n l))/\ak w w':=by
 unfold uN;have hw:ak w (w.alloc (.cells #[ah n] 3)):=aZ.alloc aU _;have HW:=bx hw;have HC:=bx (λhc=>aqx v l n w.heap.size _ hf (hv.below hw) hz hc (by simp));have HN:=bx ((aC.new w 3 #[ah n]).cell 0);obtain⟨ao,cap,rfl⟩:=hv.slice;clear hv hw hf
 by_cases hn:1<=n/\n<=32
 ·obtain⟨hn1,hn2⟩:=hn
  by_cases hl:l.length<=40
  ·go_in
   go_wp2_with fail;refine aT (HC.o (HN.o.trans rfl)) λw1 hb=>?_
   have HB:=bx hb;clear hb
   go_wp2
   go_ret
   exact⟨aY (by simp [hl,hn1,hn2]),bt HW.o HB.o⟩
  have hl':40<l.length:=by omega
  go_in
  go_wp2
  go_ret
  exact⟨aY (by simp <;> omega),HW.o⟩
 have hn':n<1\/(1<=n/\32<n):=by omega
 rcases hn' with h | ⟨h,h'⟩
 all_goals
  go_in
  go_wp2
  go_ret
  exact⟨aY (by simp <;> omega),HW.o⟩
theorem afP (v:Value) (l:List D.Rule) (n:Int) (w:World) (hf:∀ x∈l,uS x) (hv:iD w v l) (hz:l.length<=16777216) :
  Calls prog 206 #[v, ah n] w λe w'=>e = .returned (.bool (uN n l))/\ak w w':=by
 have HA:=bx (alO v l n w hf hv hz);clear hv hf
 go_in
 go_wp2_with fail;refine aT HA.o λw1 hb=>?_
 go_wp2
 go_ret
 exact⟨rfl,hb⟩
structure Turns (own:Nat->Prop) (W W':World):Prop where
 os:W'.os=W.os
 tape:W'.tape=W.tape
 output:W'.output=W.output
 size:W.heap.size<=W'.heap.size
 block:∀ k,k<W.heap.size->¬ own k->W'.heap[k]?=W.heap[k]?
structure Holds (own:Nat->Prop) (W W':World):Prop where
 size:W.heap.size<=W'.heap.size
 block:∀ k,own k->W'.heap[k]?=W.heap[k]?
section
variable {own own':Nat->Prop} {A B C:World}
theorem Turns.refl (own:Nat->Prop) (A:World):Turns own A A:=⟨rfl,rfl,rfl,bK _,λ_ _ _=>rfl⟩
theorem Turns.trans (h:Turns own A B) (k:Turns own B C):Turns own A C :=
 ⟨k.os.trans h.os,k.tape.trans h.tape,k.output.trans h.output,bP h.size k.size,λi hi ho=>(k.block i (fC hi h.size) ho).trans (h.block i hi ho)⟩
theorem Turns.mono (h:Turns own A B) (hm:∀ k,own k->own' k):Turns own' A B:=⟨h.os,h.tape,h.output,h.size,λi hi ho=>h.block i hi (λk=>ho (hm i k))⟩
theorem Turns.of_below (h:ak A B):Turns own A B:=⟨h.os,h.tape,h.output,h.size,λi hi _=>h.block i hi⟩
theorem Turns.ajf {b:Nat} (h:A.grownBy B (some b)) (hb:own b):Turns own A B :=
 ⟨h.os,h.tape,h.output,h.size,λi hi ho=>h.block i hi (λe=>ho (by cases e;exact hb))⟩
theorem Turns.drew (A:World):Turns own A A.drew:=⟨rfl,rfl,rfl,bK _,λ_ _ _=>rfl⟩
theorem Turns.alloc (A:World) (o:Obj):Turns own A (A.alloc o):=.of_below (aZ.alloc aU o)
theorem Turns.setCell (A:World) {p:Addr} (hp:own p.block) (u:Value):Turns own A (A.setCell p u) :=
 ⟨rfl,rfl,rfl,by simp [World.setCell],λk _ ho=>Below.heap_setCell _ _ _ _ (λe=>ho (by rw [e];exact hp))⟩
theorem Turns.putObj (A:World) {l:Nat} (hl:own l) (o:Obj):Turns own A (A.putObj l o) :=
 ⟨rfl,rfl,rfl,by simp,λk _ ho=>World.putObj_heap_other (λe=>ho (by rw [e];exact hl))⟩
theorem Turns.below (h:Turns own A B) {n:Nat} (hn:n<=A.heap.size) (ho:∀ k,own k->n<=k):Below n A B :=
 ⟨h.os,h.tape,h.output,h.size,λk hk=>h.block k (by omega) (λe=>by have:=ho k e;omega)⟩
theorem Turns.blk (h:Turns own A B) {g:Nat} {t:TypeId} {cs:Array Value} (hb:aC A g t cs) (hg:¬ own g):aC B g t cs:=(h.block g hb.lt hg).trans hb
theorem Turns.cell (h:Turns own A B) {p:Addr} {v:Value} (hp:A.cell? p=some v) (hg:¬ own p.block):B.cell? p=some v :=
 (World.cell?_of_block (h.block p.block (World.block_lt_of_cell? A p hp) hg)).trans hp
theorem Turns.row (h:Turns own A B) {base:Nat} {e:TypeId} {size:Nat} {v:Value} {n:Nat} {xs:List Value} (hr:A.ownsRow base e size v n xs) (hg:∀ k,v.ownBlock=some k->¬ own k):B.ownsRow base e size v n xs:=by
 refine⟨hr.1,?_⟩
 rcases hr.2 with hn | ⟨g,cap,cur,rfl,hb,hgg,rest⟩
 ·exact .inl hn
 exact .inr ⟨g,cap,cur,rfl,hb,(h.block g (fF.1 hgg).1 (hg g rfl)).trans hgg,rest⟩
theorem Holds.refl (own:Nat->Prop) (A:World):Holds own A A:=⟨bK _,λ_ _=>rfl⟩
theorem Holds.mono (h:Holds own A B) (hm:∀ k,own' k->own k):Holds own' A B:=⟨h.size,λi hi=>h.block i (hm i hi)⟩
theorem Holds.zX (h:Turns own' A B) (hl:∀ k,own k->k<A.heap.size) (hd:∀ k,own k->¬ own' k):Holds own A B:=⟨h.size,λk hk=>h.block k (hl k hk) (hd k hk)⟩
end
def Sz {α:Type} (n:Nat) (P:Program) (gf:Nat) (lb:Array Value) (encs:α->Array Value) (own keep:Nat->Prop) (ok:List α->α->Prop) (S:List α->World->Prop) (l:Nat) (W1:World):Prop :=
 ∀ (J Jx:List α->World->Prop),(∀ pre W W',J pre W->Turns own W W'->J pre W')->(∀ pre W W',Jx pre W->Turns own W W'->Jx pre W') ->
  (∀ pre x W,J pre W->ok pre x->YieldAt Fence.wide (n-1) P l (encs x) W λe W'=>(e = .returned (.bool true)/\J (pre++[x]) W'/\Holds keep W W')\/(e = .returned (.bool false)/\Jx (pre++[x]) W')) ->
  J [] W1->CallsIn Fence.wide n P gf (#[.func (.yield l) #[] #[]]++lb) W1 λe W'=>(∃ v,e = .returned v)/\((∃ xs,S xs W'/\J xs W')\/(∃ pre,Jx pre W'))
def ahA {α:Type} (keep:Nat->Prop) (I:List α->World->Prop) (Ix:Code->List α->World->Prop) (l D:Nat) (xs:List α) (W:World):Exit->Act->World->Prop
 | .normal,_,W'=>Holds (λk=>keep k\/k=l\/k=D) W W'/\I xs W'
 | .ret,_,W'=>Holds (λk=>k=l\/k=D) W W'/\Ix .ret xs W'
 | .exit id,_,W'=>Holds (λk=>k=l\/k=D) W W'/\Ix (.exit id) xs W'
 | .goto t,_,W'=>Holds (λk=>k=l\/k=D) W W'/\Ix (.goto t) xs W'
 | .panic _,_,_=>False
 | .outgrown,_,_=>False
theorem Pn {α:Type} {P:Program} {n:Nat} {g:Operand} {ps:Array Tmp} {assign body:Code} {Q:Exit->Act->World->Prop} {a:Act} {w:World}
  {gf:Nat} {lb:Array Value} (hg:a.eval g = .func (.func gf) #[] lb) (eg:∀ args w,(callFunc gf args).run P w = .ok (.enter gf args) w)
  {encs:α->Array Value} {own keep:Nat->Prop} {ok:List α->α->Prop} {S:List α->World->Prop} (hown:∀ k,own k\/keep k->k<w.heap.size)
  (hit:∀ W1,Turns (λ_=>False) w W1->Sz (n-1) P gf lb encs own keep ok S (w.heap.size+1) W1)
  (hps:∀ x,(encs x).size=ps.size)
  (I:List α->World->Prop) (Ix:Code->List α->World->Prop)
  (hI:∀ pre W W',I pre W->Turns (λk=>own k\/k=w.heap.size+1) W W'->I pre W')
  (hIx:∀ c pre W W',Ix c pre W->Turns (λk=>own k\/k=w.heap.size+1) W W'->Ix c pre W')
  (h0:I [] w) (Ax:α->Act->World->Prop) (hAx:∀ x a1 W W',Ax x a1 W->Turns (λk=>k=w.heap.size+1) W W'->Ax x a1 W')
  (hassign:∀ (x:α) (W:World) (K:Act->World->Prop),w.heap.size+2<=W.heap.size->(∀ a1 W1,Turns (λ_=>False) W W1->Ax x a1 W1->K a1 W1) ->
   assign.wpIn (Fence.wide.inRound (w.heap.size+1)) (n-1-1) P (Exit.then K (λ_ _ _=>False)) { tmps:=(ps.zip (encs x)).foldl (λt (p,v)=>t.setIfInBounds p v) a.tmps,defers:=[] } W)
  (hbody:∀ (pre:List α) (x:α) (a1:Act) (W:World),w.heap.size+2<=W.heap.size->I pre W->ok pre x->Ax x a1 W ->
   body.wpIn (Fence.wide.inRound (w.heap.size+1)) (n-1-1) P (ahA keep I Ix (w.heap.size+1) w.heap.size (pre++[x]) W) a1 W)
  (hdone:∀ (xs:List α) (W:World),w.heap.size+2<=W.heap.size->S xs W->I xs W->W.heap[w.heap.size]?=some (.deferred (some []))->Q .normal { a with defers:={ target:=.collected w.heap.size,args:=#[] }::a.defers } W)
  (hstop:∀ (c:Code) (pre:List α) (W:World),w.heap.size+2<=W.heap.size->Ix c pre W->W.heap[w.heap.size]?=some (.deferred (some []))->c.wpIn Fence.wide n P Q { a with defers:={ target:=.collected w.heap.size,args:=#[] }::a.defers } W)
  (hS:∀ xs W W',S xs W->Turns (λk=>k=w.heap.size+1) W W'->S xs W') :
  (Code.rangeFunc g ps assign body).wpIn Fence.wide n P Q a w:=by
 refine wpIn_rangeFunc ?_;intro fn hfn;obtain⟨rec,hrec⟩:∃ rec:LoopState->Option Code->Loop,rec=λst pe=>{ state:=st,pending:=pe,fn,tmps:=a.tmps,params:=ps,assign,body,defers:=w.heap.size }:=⟨_,rfl⟩
 obtain⟨W1,hW1⟩:∃ W1,(w.alloc (.deferred (some []))).alloc (.loop (rec .ready none))=W1:=⟨_,rfl⟩
 have hL1:W1.heap[w.heap.size+1]?=some (.loop (rec .ready none)):=by
  rw [<- hW1];have:=World.alloc_heap_new (w.alloc (.deferred (some []))) (.loop (rec .ready none));rwa [World.size_alloc] at this
 have hK1:W1.heap[w.heap.size]?=some (.deferred (some [])):=by
  rw [<- hW1];exact(Below.heap_alloc _ _ _ (by simp)).trans (World.alloc_heap_new w _)
 have hT1:∀ o,Turns o w W1:=λo=>by rw [<- hW1];exact(Turns.alloc w _).trans (Turns.alloc _ _)
 have hI1:I [] W1:=hI _ _ _ h0 (hT1 _);refine⟨w.heap.size+1,[{ target:=.collected w.heap.size,args:=#[] }],W1,{ target:=.fn (.func gf) lb,args:=#[.func (.yield (w.heap.size+1)) #[] #[]] },W1,gf,
  #[.func (.yield (w.heap.size+1)) #[] #[]]++lb,W1,?_,?_,?_,?_,λh=>by simp [Fence.wide] at h,?_⟩
 ·rw [<- hW1,hrec];exact run_enterLoop_outer _ _ _ _ _
 ·simp only [resolve,hg];simp [go_sem]
 ·intro f' _;trivial
 ·simp [invoke,go_sem,eg]
 have hnl:¬ own (w.heap.size+1):=λh=>by have:=hown _ (.inl h);omega
 have hnd:¬ own w.heap.size:=λh=>by have:=hown _ (.inl h);omega
 refine(hit W1 (hT1 _)
  (λpre W=>I pre W/\W.heap[w.heap.size+1]?=some (.loop (rec .ready none))/\W.heap[w.heap.size]?=some (.deferred (some [])))
  (λpre W=>∃ c,Ix c pre W/\W.heap[w.heap.size+1]?=some (.loop (rec .done (some c)))/\W.heap[w.heap.size]?=some (.deferred (some [])))
  ?_ ?_ ?_ ⟨hI1,hL1,hK1⟩).mono ?_
 ·rintro pre W W' ⟨hi,hl,hk⟩ ht;exact⟨hI _ _ _ hi (ht.mono λk=>.inl),(ht.block _ (fF.1 hl).1 hnl).trans hl,(ht.block _ (fF.1 hk).1 hnd).trans hk⟩
 ·rintro pre W W' ⟨c,hi,hl,hk⟩ ht;exact⟨c,hIx _ _ _ _ hi (ht.mono λk=>.inl),(ht.block _ (fF.1 hl).1 hnl).trans hl,(ht.block _ (fF.1 hk).1 hnd).trans hk⟩
 ·-- one round
  rintro pre x W ⟨hi,hl,hk⟩ hok;have hlt:w.heap.size+1<W.heap.size:=(fF.1 hl).1;have hy:=run_yield (P:=P) (args:=encs x) hl (by rw [hrec];exact hps x);rw [hrec] at hy;refine⟨fn,_,assign,body,hy,roundIn_of_wpIn hfn (hassign x W _ (by omega) λa1 Wa ha hax=>?_)⟩;have hla:Wa.heap[w.heap.size+1]?=some (.loop (rec .ready none)):=(ha.block _ hlt (λh=>h)).trans hl;have hka:Wa.heap[w.heap.size]?=some (.deferred (some [])):=(ha.block _ (by omega) (λh=>h)).trans hk;have JG:w.heap.size+1<Wa.heap.size:=(fF.1 hla).1;refine⟨_,run_beginRound hla (by rw [hrec]),?_⟩;obtain⟨Wb,nJ⟩:∃ Wb,Wa.putObj (w.heap.size+1) (.loop { rec .ready none with state:=.busy })=Wb:=⟨_,rfl⟩
  rw [nJ];have htb:∀ o:Nat->Prop,o (w.heap.size+1)->Turns o Wa Wb:=λo ho=>by rw [<- nJ];exact Turns.putObj _ ho _
  have hlb:Wb.heap[w.heap.size+1]?=some (.loop { rec .ready none with state:=.busy }):=by rw [<- nJ];exact World.putObj_heap_same JG
  have hkb:Wb.heap[w.heap.size]?=some (.deferred (some [])):=by rw [<- nJ];exact(World.putObj_heap_other (by omega)).trans hka
  have hsb:Wb.heap.size=Wa.heap.size:=by rw [<- nJ];simp
  refine wpIn_mono (hbody pre x a1 Wb (by omega) (hI _ _ _ hi ((ha.mono λ_ h=>h.elim).trans (htb _ (.inr rfl)))) hok (hAx _ _ _ _ hax (htb _ rfl))) ?_;have fin:∀ (jump:Option Code) (W3:World),Holds (λk=>k=w.heap.size+1\/k=w.heap.size) Wb W3 ->
    (Instr.endRound (w.heap.size+1) jump).run P W3 = .ok (.bool jump.isNone) (W3.putObj (w.heap.size+1) (.loop (rec (if jump.isNone then .ready else .done) jump))) /\
    (W3.putObj (w.heap.size+1) (.loop (rec (if jump.isNone then .ready else .done) jump))).heap[w.heap.size+1]?=some (.loop (rec (if jump.isNone then .ready else .done) jump)) /\
    (W3.putObj (w.heap.size+1) (.loop (rec (if jump.isNone then .ready else .done) jump))).heap[w.heap.size]?=some (.deferred (some [])):=λjump W3 hk3=>by
   have hl3:=(hk3.block _ (.inl rfl)).trans hlb;have:=run_endRound (P:=P) jump hl3;rw [hrec] at this ⊢;exact⟨this,World.putObj_heap_same (fF.1 hl3).1,(World.putObj_heap_other (by omega)).trans ((hk3.block _ (.inr rfl)).trans hkb)⟩
  rintro e a3 W3 hp
  cases e with
  | normal =>
   obtain⟨hh,hi3⟩:=hp;obtain⟨hr,hl4,hk4⟩:=fin none W3 (hh.mono λ_ h=>.inr h);refine⟨_,_,hr, .inl ⟨rfl,⟨hI _ _ _ hi3 (Turns.putObj _ (.inr rfl) _),hl4,hk4⟩,?_⟩⟩;refine⟨?_,λk ho=>?_⟩
   ·have:=ha.size;have:=hh.size;simp;omega
   have hkw:=hown k (.inr ho);rw [World.putObj_heap_other (by omega),hh.block k (.inl ho),<- nJ,World.putObj_heap_other (by omega)];exact ha.block k (by omega) (λh=>h)
  | ret =>
   obtain⟨hh,hi3⟩:=hp;obtain⟨hr,hl4,hk4⟩:=fin (some .ret) W3 hh;exact⟨_,_,hr, .inr ⟨rfl, .ret,hIx _ _ _ _ hi3 (Turns.putObj _ (.inr rfl) _),hl4,hk4⟩⟩
  | exit id =>
   obtain⟨hh,hi3⟩:=hp;obtain⟨hr,hl4,hk4⟩:=fin (some (.exit id)) W3 hh;exact⟨_,_,hr, .inr ⟨rfl, .exit id,hIx _ _ _ _ hi3 (Turns.putObj _ (.inr rfl) _),hl4,hk4⟩⟩
  | goto t =>
   obtain⟨hh,hi3⟩:=hp;obtain⟨hr,hl4,hk4⟩:=fin (some (.goto t)) W3 hh;exact⟨_,_,hr, .inr ⟨rfl, .goto t,hIx _ _ _ _ hi3 (Turns.putObj _ (.inr rfl) _),hl4,hk4⟩⟩
  | panic ch=>exact hp.elim
  | outgrown=>exact hp.elim
 -- behind the iterator
 rintro e W2 ⟨⟨v,rfl⟩,(⟨xs,IW,hi,hl,hk⟩ | ⟨pre,c,hi,hl,hk⟩)⟩
 ·have hlt:=(fF.1 hl).1;exact⟨none,_,by have:=run_endLoop (P:=P) hl (by rw [hrec];simp);rw [hrec] at this;exact this,
   hdone xs _ (by simp;omega) (hS _ _ _ IW (Turns.putObj (own:=λk=>k=w.heap.size+1) _ rfl _)) (hI _ _ _ hi (Turns.putObj _ (.inr rfl) _)) ((World.putObj_heap_other (by omega)).trans hk)⟩
 have hlt:=(fF.1 hl).1;exact⟨some c,_,by have:=run_endLoop (P:=P) hl (by rw [hrec];simp);rw [hrec] at this;exact this,
  hstop c pre _ (by simp;omega) (hIx _ _ _ _ hi (Turns.putObj _ (.inr rfl) _)) ((World.putObj_heap_other (by omega)).trans hk)⟩
structure Pc where
 fp:Nat->Prop
 ok:World->Prop
 keep:∀ {own:Nat->Prop} {W W':World},ok W->Turns own W W'->(∀ k,fp k->¬ own k)->ok W'
 lt:∀ {W:World} {k:Nat},ok W->fp k->k<W.heap.size
def Sep:List Pc->World->Prop
 | [],_=>True
 | p::ps,w=>p.ok w/\(∀ q∈ps,∀ k,p.fp k->¬ q.fp k)/\Sep ps w
section
variable {W W':World}
theorem Sep.Ud:∀ {ps:List Pc},Sep ps W->∀ p∈ps,p.ok W
 | _::_,⟨h,_,hs⟩,q,hq=>(fB.1 hq).elim (λe=>e▸h) (λe=>Sep.Ud hs q e)
theorem Sep.keep {own:Nat->Prop}:∀ {ps:List Pc},Sep ps W->Turns own W W'->(∀ p∈ps,∀ k,p.fp k->¬ own k)->Sep ps W'
 | [],_,_,_=>trivial
 | p::_,⟨h,hd,hs⟩,ht,ho=>⟨p.keep h ht (ho p (jZ ..)),hd,Sep.keep hs ht (λq hq=>ho q (mZ _ hq))⟩
theorem Sep.below {ps:List Pc} (h:Sep ps W) (hb:ak W W'):Sep ps W':=h.keep (own:=λ_=>False) (Turns.of_below hb) (λ_ _ _ _ h=>h)
theorem Sep.head {p:Pc} {ps:List Pc} (h:Sep (p::ps) W):p.ok W:=h.1
theorem Sep.tail {p:Pc} {ps:List Pc} (h:Sep (p::ps) W):Sep ps W:=h.2.2
theorem Sep.at' {ps:List Pc} (h:Sep ps W) (i:Nat) {p:Pc} (hi:ps[i]?=some p):p.ok W:=h.Ud p (dB hi)
theorem Sep.lt {ps:List Pc} (h:Sep ps W) {p:Pc} (hp:p∈ps) {k:Nat} (hk:p.fp k):k<W.heap.size:=p.lt (h.Ud p hp) hk
theorem Sep.add {p:Pc} {ps:List Pc} (h:Sep ps W) (hb:ak W W') (hp:p.ok W') (hn:∀ k,p.fp k->W.heap.size<=k):Sep (p::ps) W' :=
 ⟨hp,λq hq k hk hqk=>by have:=hn k hk;have:=h.lt hq hqk;omega,h.below hb⟩
theorem Sep.upd {own:Nat->Prop}:∀ {ps:List Pc} (i:Nat) {p p':Pc},Sep ps W->ps[i]?=some p->Turns own W W'->(∀ k,own k->k<W.heap.size->p.fp k)->p'.ok W'->(∀ k,p'.fp k->p.fp k\/W.heap.size<=k)->Sep (ps.set i p') W'
 | [],_,_,_,_,hi,_,_,_,_=>by simp at hi
 | q::ps,0,p,p',h,hi,ht,ho,hp,hn=>by
  simp only [rQ,iQ] at hi;subst hi;have h':=h;obtain⟨h1,h2,h3⟩:=h;refine⟨hp,λr hr k hk hrk=>?_,h3.keep ht (λr hr k hk hok=>?_)⟩
  ·rcases hn k hk with e | e
   ·exact h2 r hr k e hrk
   have:=h3.lt hr hrk;omega
  exact h2 r hr k (ho k hok (h3.lt hr hk)) hk
 | q::ps,i+1,p,p',h,hi,ht,ho,hp,hn=>by
  rw [List.getElem?_cons_succ] at hi;have h':=h;obtain⟨h1,h2,h3⟩:=h;have hm:=dB hi;have hq:q.ok W':=q.keep h1 ht (λk hk hok=>h2 p hm k hk (ho k hok (q.lt h1 hk)));refine⟨hq,λr hr k hk hrk=>?_,Sep.upd i h3 hi ht ho hp hn⟩
  rcases List.mem_or_eq_of_mem_set hr with e | e
  ·exact h2 r e k hk hrk
  subst e
  rcases hn k hrk with e | e
  ·exact h2 p hm k hk e
  have:=q.lt h1 hk;omega
theorem Sep.perm {ps qs:List Pc} (hp:ps.Perm qs):Sep ps W->Sep qs W:=by
 induction hp with
 | nil=>exact id
 | cons a hp ih=>exact λ⟨h1,h2,h3⟩=>⟨h1,λq hq=>h2 q (hp.mem_iff.2 hq),ih h3⟩
 | swap a b l =>
  rintro⟨h1,h2,h3,h4,h5⟩;refine⟨h3,λq hq k hk hqk=>?_,h1,λq hq=>h2 q (mZ _ hq),h5⟩
  rcases fB.1 hq with e | e
  ·subst e;exact h2 a (jZ ..) k hqk hk
  exact h4 q e k hk hqk
 | trans _ _ i1 i2=>exact λh=>i2 (i1 h)
theorem Sep.drop {ps:List Pc} (i:Nat) (h:Sep ps W):Sep (ps.eraseIdx i) W:=by
 induction ps generalizing i with
 | nil=>exact trivial
 | cons p ps ih =>
  cases i with
  | zero=>exact h.2.2
  | succ i=>exact⟨h.1,λq hq=>h.2.1 q (List.mem_of_mem_eraseIdx hq),ih i h.2.2⟩
theorem Sep.merge {p q r:Pc} {ps:List Pc} (h:Sep (p::q::ps) W) (hr:r.ok W) (hf:∀ k,r.fp k->p.fp k\/q.fp k):Sep (r::ps) W :=
 ⟨hr,λs hs k hk hsk=>(hf k hk).elim (λe=>h.2.1 s (mZ _ hs) k e hsk) (λe=>h.2.2.2.1 s hs k e hsk),h.2.2.2.2⟩
theorem Sep.as:∀ {ps:List Pc} (i:Nat) {p p':Pc},Sep ps W->ps[i]?=some p->(p.ok W->p'.ok W)->(∀ k,p'.fp k->p.fp k)->Sep (ps.set i p') W:=by
 intro ps i p p' h hi h1 h2;exact h.upd (own:=λ_=>False) i hi (Turns.refl _ _) (λ_ h _=>h.elim) (h1 (h.at' i hi)) (λk hk=>.inl (h2 k hk))
theorem Sep.apart {p q:Pc} {ps:List Pc} (h:Sep (p::ps) W) (hq:q∈ps) {k:Nat} (hk:p.fp k):¬ q.fp k:=h.2.1 q hq k hk
end
def Pc.old (n:Nat) (W0:World):Pc where
 fp k:=k<n
 ok W:=n<=W.heap.size/\Below n W0 W
 keep:=λ{_ _ _} h ht ho=>⟨bP h.1 ht.size,h.2.trans ⟨ht.os,ht.tape,ht.output,ht.size,λk hk=>ht.block k (fC hk h.1) (ho k hk)⟩⟩
 lt:=λ{_ _} h hk=>fC hk h.1
def Pc.blk (g:Nat) (t:TypeId) (cs:Array Value):Pc where
 fp k:=k=g
 ok W:=aC W g t cs
 keep:=λ{_ _ _} h ht ho=>ht.blk h (ho g rfl)
 lt:=λ{_ _} h hk=>hk▸h.lt
def Pc.row (base:Nat) (e:TypeId) (s:Nat) (v:Value) (n:Nat) (xs:List Value):Pc where
 fp k:=v.ownBlock=some k
 ok W:=W.ownsRow base e s v n xs
 keep:=λ{_ _ _} h ht ho=>ht.row h ho
 lt:=λ{_ _} h hk=>(h.lt _ hk).2
def Pc.obj (g:Nat) (o:Obj):Pc where
 fp k:=k=g
 ok W:=W.heap[g]?=some o
 keep:=λ{_ _ _} h ht ho=>(ht.block g (fF.1 h).1 (ho g rfl)).trans h
 lt:=λ{_ _} h hk=>hk▸(fF.1 h).1
def Pc.N7 (m base:Nat) (E e:TypeId) (v:Value) (vs:List Value) (xss:List (List Value)):Pc where
 fp k:=v.ownBlock=some k\/∃ i x,i<xss.length/\vs[i]?=some x/\x.ownBlock=some k
 ok W:=vs.length=xss.length+m/\W.ownsRow base E 1 v vs.length vs/\∀ (i:Nat) (xs:List Value),xss[i]?=some xs->∃ x,vs[i]?=some x/\W.ownsRow base e 1 x xs.length xs/\x.ownBlock≠some (v.ownBlock.getD W.heap.size)
 keep:=λ{own W W'} ⟨h0,h1,h2⟩ ht ho=>⟨h0,ht.row h1 (λk hk=>ho k (.inl hk)),λi xs hi=>by
  obtain⟨x,hx,hr,hn⟩:=h2 i xs hi;refine⟨x,hx,ht.row hr (λk hk=>ho k (.inr ⟨i,x,(dO hi).1,hx,hk⟩)),?_⟩
  cases hv:v.ownBlock with
  | some k=>rw [hv] at hn;exact hn
  | none=>intro e;have h8:=(hr.lt _ e).2;have h9:=ht.size;rw [Option.getD_none] at h8;omega⟩
 lt:=λ{_ _} ⟨_,h1,h2⟩ hk=>hk.elim (λh=>(h1.lt _ h).2) (λ⟨i,x,hi,hx,h⟩=>by
  obtain⟨x',hx',hr,_⟩:=h2 i _ (dW hi);rw [hx] at hx'
  cases hx';exact(hr.lt _ h).2)
abbrev Pc.rows (base:Nat) (E e:TypeId) (v:Value) (vs:List Value) (xss:List (List Value)):Pc:=Pc.N7 0 base E e v vs xss
section
variable {W W':World}
theorem Pc.amA (W:World):(Pc.old W.heap.size W).ok W:=⟨bK _,Below.refl _ _⟩
theorem Sep.start (W:World):Sep [Pc.old W.heap.size W] W:=⟨Pc.amA W,λ_ h=>absurd h iH,trivial⟩
theorem Sep.bel {n:Nat} {W0:World} {ps:List Pc} (h:Sep ps W) (hi:Pc.old n W0∈ps):Below n W0 W:=(h.Ud _ hi).2
theorem Sep.blk {ps:List Pc} (h:Sep ps W) (i:Nat) {g:Nat} {t:TypeId} {cs:Array Value} (hi:ps[i]?=some (Pc.blk g t cs)):aC W g t cs:=h.at' i hi
theorem Sep.row {ps:List Pc} (h:Sep ps W) (i:Nat) {base n s:Nat} {e:TypeId} {v:Value} {xs:List Value} (hi:ps[i]?=some (Pc.row base e s v n xs)):W.ownsRow base e s v n xs:=h.at' i hi
theorem Sep.eu {ps:List Pc} (h:Sep ps W) (t:TypeId) (cs:Array Value):Sep (Pc.blk W.heap.size t cs::ps) (W.alloc (.cells cs t)) :=
 h.add (aZ.alloc aU _) (aC.new W t cs) (λk hk=>by rw [show k=W.heap.size from hk];exact bK _)
theorem Sep.alloc {ps:List Pc} (h:Sep ps W) (o:Obj):Sep ps (W.alloc o):=h.below (aZ.alloc aU o)
theorem Sep.drew {ps:List Pc} (h:Sep ps W):Sep ps W.drew:=h.keep (own:=λ_=>False) (Turns.drew W) (λ_ _ _ _ h=>h)
theorem aib (own:Nat->Prop) (W:World) (n:Nat):Turns own W (W.drewN n):=⟨rfl,rfl,rfl,bK _,λ_ _ _=>rfl⟩
theorem Sep.drewN {ps:List Pc} (h:Sep ps W) (n:Nat):Sep ps (W.drewN n):=h.keep (own:=λ_=>False) (aib _ W n) (λ_ _ _ _ h=>h)
theorem Sep.kV {ps:List Pc} (h:Sep ps W) (base s:Nat) (e:TypeId):Sep (Pc.row base e s (aj) 0 []::ps) W :=
 ⟨World.ownsRow_nil _ _ _ _,λ_ _ k hk=>by simp [Pc.row,Value.ownBlock] at hk,h⟩
theorem Sep.set {ps:List Pc} (h:Sep ps W) (i:Nat) {g:Nat} {t:TypeId} {cs:Array Value} (hi:ps[i]?=some (Pc.blk g t cs)) (j:Nat) (u:Value):Sep (ps.set i (Pc.blk g t (cs.setIfInBounds j u))) (W.setCell ⟨g,j,none⟩ u) :=
 h.upd (own:=λk=>k=g) i hi (Turns.setCell (own:=λk=>k=g) W (p:=⟨g,j,none⟩) rfl u) (λ_ hk _=>hk) ((h.blk i hi).bJ j u) (λ_ hk=>.inl hk)
theorem own_base {w:World} {base base':Nat} {e:TypeId} {s:Nat} {v:Value} {n:Nat} {xs:List Value} (h:w.ownsRow base e s v n xs) (hb:base'<=base):w.ownsRow base' e s v n xs :=
 ⟨h.1,h.2.imp id (λ⟨g,cap,cur,h1,h2,r⟩=>⟨g,cap,cur,h1,bP hb h2,r⟩)⟩
theorem Hw {own:Nat->Prop} {A B:World} {row:Option Nat} (h:A.grownBy B row) (hr:∀ k,row=some k->own k):Turns own A B :=
 ⟨h.os,h.tape,h.output,h.size,λi hi ho=>h.block i hi (λe=>ho (hr i e.symm))⟩
theorem Sep.grow {ps:List Pc} (h:Sep ps W) (i:Nat) {base n n' s:Nat} {e:TypeId} {v v':Value} {xs xs':List Value} (hi:ps[i]?=some (Pc.row base e s v n xs)) (hg:W.grownBy W' v.ownBlock) (hr:W'.ownsRow base e s v' n' xs')
  (ho:v'.ownBlock=v.ownBlock\/∀ k,v'.ownBlock=some k->W.heap.size<=k):Sep (ps.set i (Pc.row base e s v' n' xs')) W' :=
 h.upd (own:=λk=>v.ownBlock=some k) i hi (Hw hg (λ_ h=>h)) (λ_ hk _=>hk) hr (λk hk=>by
  rcases ho with e | e
  ·exact .inl (show v.ownBlock=some k by rw [<- e];exact hk)
  exact .inr (e k hk))
theorem Sep.got {ps:List Pc} (h:Sep ps W) {base n s:Nat} {e:TypeId} {v:Value} {xs:List Value} (hb:ak W W') (hr:W'.ownsRow W.heap.size e s v n xs) (hB:base<=W.heap.size):Sep (Pc.row base e s v n xs::ps) W' :=
 h.add hb (own_base hr hB) (λk hk=>(hr.lt k hk).1)
end
theorem Sep.join:∀ {ps:List Pc} (i:Nat) {p q r:Pc} {W:World},Sep (p::ps) W->ps[i]?=some q->r.ok W->(∀ k,r.fp k->p.fp k\/q.fp k)->Sep (ps.set i r) W
 | [],_,_,_,_,_,_,hi,_,_=>by simp at hi
 | s::ps,0,p,q,r,W,h,hi,hr,hf=>by
  simp only [rQ,iQ] at hi;subst hi;exact Sep.merge (ps:=ps) h hr hf
 | s::ps,i+1,p,q,r,W,h,hi,hr,hf=>by
  rw [List.getElem?_cons_succ] at hi;obtain⟨h1,h2,h3,h4,h5⟩:=h;have hm:=dB hi;refine⟨h3,λt ht k hk htk=>?_,Sep.join i (p:=p) ⟨h1,λt ht=>h2 t (mZ _ ht),h5⟩ hi hr hf⟩
  rcases List.mem_or_eq_of_mem_set ht with e | e
  ·exact h4 t e k hk htk
  subst e
  rcases hf k htk with e | e
  ·exact h2 s (jZ ..) k e hk
  exact h4 q hm k hk e
theorem Sep.au9 {ps:List Pc} {W:World} (h:Sep ps W) (base:Nat) (E e:TypeId):Sep (Pc.rows base E e (aj) [] []::ps) W:=by
 refine⟨⟨rfl,World.ownsRow_nil _ _ _ _,λi xs hi=>by simp at hi⟩,λ_ _ k hk=>?_,h⟩
 rcases hk with hk | ⟨i,x,hi,_⟩
 ·simp [Value.ownBlock] at hk
 simp at hi
theorem Sep.axv {ps:List Pc} {W:World} {base:Nat} {E e:TypeId} {x:Value} {xs:List Value} (h:Sep (Pc.row base e 1 x xs.length xs::ps) W) (hb:base<=W.heap.size) :
  Sep (Pc.rows base E e (.slice (some ⟨W.heap.size,0,none⟩) 1 1) [x] [xs]::ps) (W.alloc (.cells #[x] E)):=by
 have h1:=h.row 0 rfl;have h2:=h.alloc (.cells #[x] E);have hlt:=h1.lt;have hnew:(W.alloc (.cells #[x] E)).ownsRow base E 1 (.slice (some ⟨W.heap.size,0,none⟩) 1 1) 1 [x] :=
  ⟨rfl, .inr ⟨W.heap.size,1,#[x],rfl,hb,heap_alloc_new _ _,bK _,by unfold maxLen;omega,rfl,rfl⟩⟩
 have h3:Sep (Pc.row base E 1 (.slice (some ⟨W.heap.size,0,none⟩) 1 1) 1 [x]::Pc.row base e 1 x xs.length xs::ps) (W.alloc (.cells #[x] E)) :=
  h.add (aZ.alloc aU _) hnew (λk hk=>by simp [Pc.row,Value.ownBlock] at hk;omega)
 refine h3.merge ⟨rfl,hnew,λi ys hi=>?_⟩ (λk hk=>?_)
 ·match i,hi with
  | 0,hi =>
   simp only [rQ,iQ] at hi;subst hi;exact⟨x,rfl,h1.alloc _,λe=>by have:=(hlt _ e).2;simp [Value.ownBlock] at this⟩
  | i+1,hi=>simp at hi
 rcases hk with hk | ⟨i,y,hi,hy,hk⟩
 ·exact .inl hk
 simp only [dY,iG] at hi;obtain rfl:i=0:=by omega
 simp only [rQ,iQ] at hy;subst hy;exact .inr hk
theorem Sep.aq2 {ps:List Pc} {W W':World} {base n:Nat} {E e:TypeId} {x v v':Value} {xs:List Value} {vs:List Value} {xss:List (List Value)} (h:Sep (Pc.row base e 1 x n xs::ps) W) (i:Nat) (hi:ps[i]?=some (Pc.rows base E e v vs xss)) (hn:n=xs.length)
  (hg:W.grownBy W' v.ownBlock) (hr:W'.ownsRow base E 1 v' (vs.length+1) (vs++[x])) (ho:v'.ownBlock=v.ownBlock\/∀ k,v'.ownBlock=some k->W.heap.size<=k):Sep (ps.set i (Pc.rows base E e v' (vs++[x]) (xss++[xs]))) W':=by
 subst hn;obtain⟨h0,h1,h2⟩:=h.at' (i+1) (p:=Pc.rows base E e v vs xss) (by simpa using hi);have hT:Turns (λk=>v.ownBlock=some k) W W':=Hw hg (λ_ h=>h);have hblk:∀ k,v'.ownBlock=some k->v.ownBlock=some k\/W.heap.size<=k:=λk hk=>by
  rcases ho with e | e
  ·exact .inl (e▸hk)
  exact .inr (e k hk)
 have hin:∀ (j:Nat) (ys:List Value),xss[j]?=some ys->∃ y,vs[j]?=some y/\W'.ownsRow base e 1 y ys.length ys/\y.ownBlock≠some (v'.ownBlock.getD W'.heap.size):=by
  intro j ys hj;obtain⟨y,hy,hyr,hyn⟩:=h2 j ys hj;have hne:∀ k,y.ownBlock=some k->¬ v.ownBlock=some k:=λk hk hv=>by rw [hv] at hyn;exact hyn hk
  have aii:=hT.row hyr hne;refine⟨y,hy,aii,?_⟩
  cases hv:v'.ownBlock with
  | none=>intro e;have:=(aii.lt _ e).2;simp at this
  | some k =>
   intro e
   rcases hblk k hv with h | h
   ·exact hne k e h
   have:=(hyr.lt k e).2;omega
 have awK:(Pc.N7 1 base E e v' (vs++[x]) xss).ok W':=⟨by rw [bC];simp at h0 ⊢;omega,by rw [bC];exact hr,λj ys hj=>by
  obtain⟨y,hy,h3⟩:=hin j ys hj;exact⟨y,by rw [zU (dO hy).1];exact hy,h3⟩⟩
 have hlv:vs.length=xss.length:=by simpa using h0
 have hS:=h.upd (own:=λk=>v.ownBlock=some k) (i+1) (p':=Pc.N7 1 base E e v' (vs++[x]) xss) (by simpa using hi) hT (λk hk _=>Or.inl hk) awK (λk hk=>by
  rcases hk with hk | ⟨j,y,hj,hy,hk⟩
  ·rcases hblk k hk with e | e
   ·exact .inl (.inl e)
   exact .inr e
  rw [zU (by omega)] at hy;exact .inl (.inr ⟨j,y,hj,hy,hk⟩))
 rw [List.set_cons_succ] at hS;have hx:=hS.row 0 rfl;have hget:(ps.set i (Pc.N7 1 base E e v' (vs++[x]) xss))[i]?=some (Pc.N7 1 base E e v' (vs++[x]) xss):=by
  rw [List.getElem?_set_self (dO hi).1]
 have hxv:∀ k,x.ownBlock=some k->¬ v'.ownBlock=some k:=λk hk hv=>hS.apart (dB hget) (k:=k) hk (.inl hv)
 have:=hS.join i (r:=Pc.rows base E e v' (vs++[x]) (xss++[xs])) hget ⟨by simp [hlv],by rw [bC];exact hr,λj ys hj=>by
   rcases gZ j xss.length with hl | hl
   ·rw [zU hl] at hj;obtain⟨y,hy,h3⟩:=hin j ys hj;exact⟨y,by rw [zU (dO hy).1];exact hy,h3⟩
   ·rw [yD hl] at hj;have hj0:j-xss.length=0:=by have:=(dO hj).1;simp at this;omega
    rw [hj0] at hj;simp only [rQ,iQ] at hj;subst hj;refine⟨x,by rw [yD (by omega),show j-vs.length=0 by omega];rfl,hx,?_⟩
    cases hv:v'.ownBlock with
    | none=>intro e;have:=(hx.lt _ e).2;simp at this
    | some k=>intro e;exact hxv k e hv⟩ (λk hk=>by
   rcases hk with hk | ⟨j,y,hj,hy,hk⟩
   ·exact .inr (.inl hk)
   rcases gZ j vs.length with hl | hl
   ·exact .inr (.inr ⟨j,y,by omega,hy,hk⟩)
   rw [yD hl] at hy;have hj0:j-vs.length=0:=by have:=(dO hy).1;simp at this;omega
   rw [hj0] at hy;simp only [rQ,iQ] at hy;subst hy;exact .inl hk)
 rwa [List.set_set] at this
theorem aip:∀ {ps:List Pc} (i:Nat) {p:Pc},ps[i]?=some p->(ps.Perm (p::ps.eraseIdx i))
 | [],_,_,h=>by simp at h
 | q::ps,0,p,h=>by
  simp only [rQ,iQ] at h;subst h;exact List.Perm.refl _
 | q::ps,i+1,p,h=>by
  rw [List.getElem?_cons_succ] at h;exact((aip i h).cons q).trans (List.Perm.swap p q _)
theorem Sep.front {ps:List Pc} {W:World} (h:Sep ps W) (i:Nat) {p:Pc} (hi:ps[i]?=some p):Sep (p::ps.eraseIdx i) W:=h.perm (aip i hi)
structure Pushes (P:Program) (t e:TypeId) (bytes:Nat):Prop where
 o:∃ (i:TypeInfo) (z:Value),P.underlying t=some (.slice e)/\P.info? e=some i/\i.zero=some z/\i.size=1/\i.bytes=bytes/\z.cells.size=1
theorem Pushes.mk' {P:Program} {t e:TypeId} {bytes:Nat} {z:Value} (ht:P.underlying t=some (.slice e)) (h:(P.info? e).map (λi=>(i.zero,i.size,i.bytes))=some (some z,1,bytes)) (hz:z.cells.size=1):Pushes P t e bytes:=by
 cases hi:P.info? e with
 | none=>rw [hi] at h;cases h
 | some i =>
  rw [hi] at h;simp only [Option.map_some,iQ,Prod.mk.injEq] at h;exact⟨i,z,ht,hi,h.1,h.2.1,h.2.2,hz⟩
theorem vM {P:Program} {w0:World} {ops:Array Oper} {rest:List Oper} {o:Oper} {a:Act} {Q:Exit->Act->World->Prop} (hgd:o.guard=none) (s x:Operand) (t:TypeId)
  (ho:o.op = .call { callee:=.builtin .append,args:=#[s,x],argTypes:=#[t,t] }) {base:Nat} {e te:TypeId} {bytes:Nat} (hP:Pushes P t e bytes) {ps:List Pc} (hS:Sep ps w0) (k:Nat) {v u:Value} {n:Nat} {xs:List Value}
  (hk:ps[k]?=some (Pc.row base e 1 v n xs)) (hs:a.eval s=v) (hx:a.eval x = .slice (some ⟨w0.heap.size,0,none⟩) 1 1) (h1:u.oneCell'=true) (hn:n<=1000000000) (hby:bytes<=1000) (hbase:base<=w0.heap.size)
  (h:∀ v' w',Sep (ps.set k (Pc.row base e 1 v' (n+1) (xs++[u]))) w'->(∃ g c,v' = .slice (some ⟨g,0,none⟩) (n+1) c/\n+1<=c/\c<=9223372036854775807)->wpList P ops Q rest (a.put o.dst v') w'):wpList P ops Q (o::rest) a (w0.alloc (.cells #[u] te)):=by
 obtain⟨i,z,ht,hi,hz0,hz1,hz2,hz3⟩:=hP.o;have hb:(n+1)*bytes<=1000000001*1000:=zA (by omega) hby;refine wpList_append_own_at _ hgd s x t ho base e i z 1 bytes ht hi hz0 hz1 hz2 hz3 (by decide) v n xs hs ((hS.row k hk).alloc _) ⟨w0.heap.size,0,none⟩ 1 1 [u] hx rfl (cell_one_new _ _ _) (by simpa using h1) (by unfold maxLen;omega) (by omega) (by simp;omega) ?_;intro v' w' hown hgrow _ hat
 have hS':=(hS.alloc (.cells #[u] te)).grow k hk hgrow hown (by
  rcases hat with e1 | e1
  ·exact .inl e1
  exact .inr (λq hq=>by rw [e1] at hq;simp only [iQ] at hq;omega))
 refine h v' w' hS' ?_
 rcases hown.2 with⟨_,h2⟩ | ⟨g,cap,cur,h2,_,_,h3,h4,_⟩
 ·omega
 exact⟨g,cap,h2,h3,by unfold maxLen at h4;omega⟩
theorem ac1 {P:Program} {w0:World} {ops:Array Oper} {rest:List Oper} {o:Oper} {a:Act} {Q:Exit->Act->World->Prop} (hgd:o.guard=none) (s x:Operand) (t:TypeId)
  (ho:o.op = .call { callee:=.builtin .append,args:=#[s,x],argTypes:=#[t,t] }) {base:Nat} {E e te:TypeId} {bytes:Nat} (hP:Pushes P t E bytes) {ps:List Pc} {u:Value} {n:Nat} {xs:List Value} (hS:Sep (Pc.row base e 1 u n xs::ps) w0) (k:Nat) {v:Value} {vs:List Value} {xss:List (List Value)}
  (hk:ps[k]?=some (Pc.rows base E e v vs xss)) (hs:a.eval s=v) (hx:a.eval x = .slice (some ⟨w0.heap.size,0,none⟩) 1 1) (h1:u.oneCell'=true) (hlen:n=xs.length) (hn:vs.length<=1000000000) (hby:bytes<=1000) (hbase:base<=w0.heap.size)
  (h:∀ v' w',Sep (ps.set k (Pc.rows base E e v' (vs++[u]) (xss++[xs]))) w'->(∃ g c,v' = .slice (some ⟨g,0,none⟩) (vs.length+1) c/\vs.length+1<=c/\c<=9223372036854775807)->wpList P ops Q rest (a.put o.dst v') w'):wpList P ops Q (o::rest) a (w0.alloc (.cells #[u] te)):=by
 obtain⟨i,z,ht,hi,hz0,hz1,hz2,hz3⟩:=hP.o;have hb:(vs.length+1)*bytes<=1000000001*1000:=zA (by omega) hby;have hrow:=(hS.at' (k+1) (p:=Pc.rows base E e v vs xss) (by simpa using hk)).2.1;refine wpList_append_own_at _ hgd s x t ho base E i z 1 bytes ht hi hz0 hz1 hz2 hz3 (by decide) v vs.length vs hs (hrow.alloc _) ⟨w0.heap.size,0,none⟩ 1 1 [u] hx rfl (cell_one_new _ _ _) (by simpa using h1) (by unfold maxLen;omega) (by omega) (by simp;omega) ?_;intro v' w' hown hgrow _ hat
 have hS':=(hS.alloc (.cells #[u] te)).aq2 k hk hlen hgrow hown (by
  rcases hat with e1 | e1
  ·exact .inl e1
  exact .inr (λq hq=>by rw [e1] at hq;simp only [iQ] at hq;omega))
 refine h v' w' hS' ?_
 rcases hown.2 with⟨_,h2⟩ | ⟨g,cap,cur,h2,_,_,h3,h4,_⟩
 ·omega
 exact⟨g,cap,h2,h3,by unfold maxLen at h4;omega⟩
theorem gI {w:World} {base s n:Nat} {e:TypeId} {v:Value} {xs:List Value} (h:w.ownsRow base e s v n xs):∃ a c,v = .slice a n c/\n<=c/\c<=9223372036854775807:=by
 rcases h.2 with⟨rfl,rfl⟩ | ⟨g,cap,cur,rfl,_,_,h3,h4,_⟩
 ·exact⟨_,_,rfl,bK _,by omega⟩
 exact⟨_,_,rfl,h3,by unfold maxLen at h4;omega⟩
end Go.Proofs.YtdponihkpomheaaGreatDoor
