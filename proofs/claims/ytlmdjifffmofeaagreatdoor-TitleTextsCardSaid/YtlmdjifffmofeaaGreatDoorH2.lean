/- Texts of this claim. -/
import Derived.Deep.SlicePairs
import Derived.Lib.SmallJoins
import Derived.DataReads
import Derived.RegionTactic
import Derived.Test.YtlmdjifffmofeaaGreatDoorH1

set_option maxHeartbeats 4000000
set_option maxRecDepth 100000
namespace Go.Proofs.YtlmdjifffmofeaaGreatDoor
section
open Go.RowKit
def bM (w:World) (v:Value) (l:List N.Item):Prop :=
 (v = .slice none 0 0/\l=[])\/∃ b off sp cap,v = .slice (some ⟨b,off,sp⟩) l.length cap/\l.length<=cap/\cap<=maxLen /\
  (l≠[]->sp=none/\b<w.heap.size/\∀ i x,l[i]?=some x->w.cell? ⟨b,off+i*2,none⟩=some (.int .i64 x.1)/\w.cell? ⟨b,off+i*2+1,none⟩=some (.int .i64 x.2))
theorem bM.below {w w':World} {v:Value} {l:List N.Item} (h:bM w v l) (hb:Below w.heap.size w w'):bM w' v l:=by
 rcases h with h | ⟨b,off,sp,cap,h1,h2,h3,h4⟩
 ·exact .inl h
 ·exact .inr ⟨b,off,sp,cap,h1,h2,h3,λhn=>⟨(h4 hn).1,Nat.lt_of_lt_of_le (h4 hn).2.1 hb.size,λi x hx =>
   ⟨(hb.cell (p:=⟨b,off+i*2,none⟩) (h4 hn).2.1).trans ((h4 hn).2.2 i x hx).1,(hb.cell (p:=⟨b,off+i*2+1,none⟩) (h4 hn).2.1).trans ((h4 hn).2.2 i x hx).2⟩⟩⟩
theorem bM.get {w:World} {v:Value} {l:List N.Item} (h:bM w v l) (hn:l≠[]) :
  ∃ b off cap,v = .slice (some ⟨b,off,none⟩) l.length cap/\l.length<=cap/\cap<=maxLen/\b<w.heap.size /\
   ∀ i x,l[i]?=some x->w.cell? ⟨b,off+i*2,none⟩=some (.int .i64 x.1)/\w.cell? ⟨b,off+i*2+1,none⟩=some (.int .i64 x.2):=by
 rcases h with⟨_,h⟩ | ⟨b,off,sp,cap,h1,h2,h3,h4⟩
 ·exact absurd h hn
 ·obtain⟨rfl,h5,h6⟩:=h4 hn;exact⟨b,off,cap,h1,h2,h3,h5,h6⟩
theorem bM.slice {w:World} {v:Value} {l:List N.Item} (h:bM w v l):∃ a cap,v = .slice a l.length cap:=by
 rcases h with⟨rfl,rfl⟩ | ⟨b,off,sp,cap,rfl,_⟩
 ·exact⟨_,_,rfl⟩
 ·exact⟨_,_,rfl⟩
def l9 (x:N.Item):Bool:=setB x.1&&decide (0<=x.2)&&decide (x.2<=2)
def iO (l:List N.Item):Bool:=decide (l.length<=10)&&l.all l9
theorem Z9 (x:N.Item) (bn:Nat) (w:World) (hn:w.cell? ⟨bn,0,none⟩=some (.int .i64 32)) (hlt:bn<w.heap.size) :
  Calls Tryz.prog 221 #[.agg #[.int .i64 x.1, .int .i64 x.2], .pointer (some ⟨bn,0,none⟩)] w λe w'=>e = .returned (.bool (!l9 x))/\Below w.heap.size w w':=by
 obtain⟨set,how⟩:=x;unfold l9;have hb:∀ o1 o2,Below w.heap.size w ((w.alloc o1).alloc o2):=λo1 o2=>((Below.refl _ _).alloc (Nat.le_refl _) _).alloc (by simp) _
 go_enter Tryz.func221,Tryz.ntmps221
 rcases Int.lt_or_le how 0 with h | h
 ·go_wp2_with fail;go_ret
  exact⟨aI (by simp;omega),hb _ _⟩
 rcases Int.lt_or_le 2 how with h2 | h2
 ·go_wp2_with fail;go_ret
  exact⟨aI (by simp;omega),hb _ _⟩
 have ho:=World.cell?_alloc_old;go_wp2_with (go_at_call 222;refine(Oo _ _).mono ?_;rintro e w1 ⟨rfl,rfl⟩)
 go_ret
 exact⟨aI (by simp [h,h2]),hb _ _⟩
theorem X3 (l:List N.Item) (k:Nat) (x:N.Item) (h:l[k]?=some x) (ha:(l.take k).all l9=true) (hx:l9 x=true):(l.take (k+1)).all l9=true:=by
 rw [List.take_add_one,h,List.all_append,ha];simp [hx]
theorem O9 (l:List N.Item) (k:Nat) (x:N.Item) (h:l[k]?=some x) (hx:l9 x=false):l.all l9=false:=by
 rw [Bool.eq_false_iff];intro ha;rw [List.all_eq_true] at ha;rw [ha x (List.mem_of_getElem? h)] at hx
 cases hx
theorem akf (v:Value) (l:List N.Item) (bn:Nat) (w:World) (hv:bM w v l) (hz:l.length<=16777216) (hn:w.cell? ⟨bn,0,none⟩=some (.int .i64 32)) (hlt:bn<w.heap.size) :
  Calls Tryz.prog 229 #[v, .func (.func 221) #[] #[.pointer (some ⟨bn,0,none⟩)]] w λe w'=>(∃ i:Int,e = .returned (.int .i64 i)/\decide (0<=i)=!l.all l9)/\Below w.heap.size w w':=by
 have jw:=bx hv;obtain⟨ao,cap,rfl⟩:=hv.slice;clear hv;have HN:=bx hn;clear hn
 go_enter Tryz.func229,Tryz.ntmps229
 go_wp2
 go_loopw [8] (λi wr=>∃ k:Nat,k<=l.length/\i = .int .i64 k/\Box ((l.take k).all l9=true)/\Box (Below w.heap.size w wr)) (λi _=>l.length-(intOf i).toNat)
 case atStart=>exact⟨0,by omega,rfl,⟨rfl⟩,⟨Below.refl _ _⟩⟩
 case round =>
  obtain⟨k,hk,rfl,ha,hb⟩:=hrel
  by_cases hlt':k<l.length
  ·obtain⟨x,hx⟩:∃ x,l[k]?=some x:=⟨_,List.getElem?_eq_getElem hlt'⟩
   have HX:=bx hx;obtain⟨g,off,cap2,hg1,hg2,hg3,hg4,hg5⟩:=(jw.o.below hb.o).get (by rintro rfl;simp at hlt');obtain⟨rfl,rfl⟩:ao=some ⟨g,off,none⟩/\cap=cap2:=by injection hg1 with h1 h2 h3;exact⟨h1,h3⟩
   obtain⟨hc1,hc2⟩:=hg5 k x hx;unfold maxLen at hg3;have xu:=bx (show wr.cell? ⟨bn,0,none⟩=some (.int .i64 32) from(hb.o.cell (p:=⟨bn,0,none⟩) hlt).trans HN.o);have HL2:=bx (show bn<wr.heap.size from Nat.lt_of_lt_of_le hlt hb.o.size);clear hx hg1 hg5
   cases hi:l9 x with
   | true =>
    have HT:=bx (X3 l k x HX.o ha.o hi);have HI:=bx (show (!l9 x)=false by rw [hi];rfl);clear hi;go_wp2_with fail;refine(Z9 x bn _ xu.o HL2.o).mono ?_;rintro e w1 ⟨rfl,hb1⟩;rw [HI.o];have HB1:=bx (show Below w.heap.size w w1 from bt hb.o hb1);clear hb1;go_wp2_with fail
    go_roundw
    case rel=>exact⟨k+1,hlt',by go_num,HT,HB1⟩
    case measure=>simp [intOf];omega
   | false =>
    have HT:=bx (O9 l k x HX.o hi);have HI:=bx (show (!l9 x)=true by rw [hi];rfl);clear hi;go_wp2_with fail;refine(Z9 x bn _ xu.o HL2.o).mono ?_;rintro e w1 ⟨rfl,hb1⟩;rw [HI.o];go_wp2_with fail;go_ret
    exact⟨⟨k,rfl,by rw [HT.o];simp⟩,bt hb.o hb1⟩
  ·have HT:=bx (show l.all l9=true by have:=ha.o;rwa [List.take_of_length_le (by omega)] at this);go_wp2_with fail;go_ret
   exact⟨⟨-1,rfl,by rw [HT.o];rfl⟩,hb.o⟩
theorem aj0 (v:Value) (l:List N.Item) (bn:Nat) (w:World) (hv:bM w v l) (hz:l.length<=16777216) (hn:w.cell? ⟨bn,0,none⟩=some (.int .i64 32)) (hlt:bn<w.heap.size) :
  Calls Tryz.prog 223 #[v, .func (.func 221) #[] #[.pointer (some ⟨bn,0,none⟩)]] w λe w'=>e = .returned (.bool (!l.all l9))/\Below w.heap.size w w':=by
 have HI:=bx (akf v l bn w hv hz hn hlt);clear hv hn
 go_enter Tryz.func223,Tryz.ntmps223
 go_wp2_with fail;refine HI.o.mono ?_;rintro e w1 ⟨⟨i,rfl,hi⟩,hb⟩;have HX:=bx hi;clear hi;go_wp2_with fail;go_ret
 exact⟨aI (by simpa using HX.o),hb⟩
theorem agK (st:Bool) (v:Value) (l:List N.Item) (w:World) (hv:bM w v l) (hz:l.length<=16777216) :
  Calls Tryz.prog 214 #[.agg #[.bool st,v], .int .i64 32] w λe w'=>e = .returned (.bool (iO l))/\Below w.heap.size w w':=by
 unfold iO;have hw:Below w.heap.size w ((w.alloc (.cells #[.bool st,v] 144)).alloc (.cells #[.int .i64 32] 3)):=((Below.refl _ _).alloc (Nat.le_refl _) _).alloc (by simp) _;have HW:=bx hw;have HV:=bx (hv.below hw);have HN:=bx (show ((w.alloc (.cells #[.bool st,v] 144)).alloc (.cells #[.int .i64 32] 3)).cell? ⟨w.heap.size+1,0,none⟩=some (.int .i64 32) by
  have:=World.cell?_alloc_mark (w.alloc (.cells #[.bool st,v] 144)) #[.int .i64 32] 3 (0,0) 0;simp at this ⊢)
 obtain⟨ao,cap,rfl⟩:=hv.slice;clear hv hw
 by_cases hl:l.length<=10
 ·go_enter Tryz.func214,Tryz.ntmps214
  go_wp2_with fail;refine(aj0 _ l (w.heap.size+1) _ HV.o hz HN.o (by simp)).mono ?_;rintro e w1 ⟨rfl,hb⟩;have HB:=bx hb;clear hb;go_wp2_with fail;go_ret
  exact⟨aI (by simp [hl]),bt HW.o HB.o⟩
 ·have hl':10<l.length:=by omega
  go_enter Tryz.func214,Tryz.ntmps214
  go_wp2_with fail;go_ret
  exact⟨aI (by simp),HW.o⟩
theorem LW (st:Bool) (v:Value) (l:List N.Item) (w:World) (hv:bM w v l) (hz:l.length<=16777216) :
  Calls Tryz.prog 161 #[.agg #[.bool st,v], .int .i64 32] w λe w'=>e = .returned (.bool (iO l))/\Below w.heap.size w w':=by
 have jw:=bx hv;obtain⟨ao,cap,rfl⟩:=hv.slice;clear hv;have HB0:=bx (ak.new w 144 #[.bool st, .slice ao l.length cap]);have HW0:=bx (((Below.refl w.heap.size w).alloc (Nat.le_refl _) (.cells #[.bool st, .slice ao l.length cap] 144)))
 go_enter Tryz.func161,Tryz.ntmps161
 go_wp2
 go_loopw [5] (λi wr=>∃ k:Nat,k<=l.length/\i = .int .i64 k/\Box ((l.take k).all l9=true)/\ak wr w.heap.size 144 #[.bool st, .slice ao l.length cap]/\Box (Below w.heap.size w wr)) (λi _=>l.length-(intOf i).toNat)
 case atStart=>exact⟨0,by omega,rfl,⟨rfl⟩,HB0.o,HW0⟩
 case round =>
  obtain⟨k,hk,rfl,ha,hbk,hb⟩:=hrel;have c1:wr.cell? ⟨w.heap.size,1,none⟩=some (.slice ao l.length cap):=(hbk.cell 1).trans rfl;have hl0:=hbk.lt;have dR:=bx hbk;clear hbk
  by_cases hlt:k<l.length
  ·obtain⟨x,hx⟩:∃ x,l[k]?=some x:=⟨_,List.getElem?_eq_getElem hlt⟩
   have HX:=bx hx;obtain⟨g,off,cap2,hg1,hg2,hg3,hg4,hg5⟩:=(jw.o.below hb.o).get (by rintro rfl;simp at hlt);obtain⟨rfl,rfl⟩:ao=some ⟨g,off,none⟩/\cap=cap2:=by injection hg1 with h1 h2 h3;exact⟨h1,h3⟩
   obtain⟨hc1,hc2⟩:=hg5 k x hx;unfold maxLen at hg3;have gV:=bx (λo=>hb.o.alloc hb.o.size o);clear hx hg1 hg5;obtain⟨set,how⟩:=x
   cases hs:setB set with
   | true =>
    have HS:=bx hs
    rcases Int.lt_or_le how 0 with h | h
    ·have HT:=bx (show iO l=false by unfold iO;rw [O9 l k _ HX.o (by unfold l9;simp;omega)];simp);clear hs;go_wp2_with fail;refine(E5 _ _).mono ?_;rintro e w1 ⟨rfl,rfl⟩;rw [HS.o];go_wp2_with fail;go_ret
     exact⟨by rw [HT.o];rfl,gV.o _⟩
    rcases Int.lt_or_le 2 how with h2 | h2
    ·have HT:=bx (show iO l=false by unfold iO;rw [O9 l k _ HX.o (by unfold l9;simp;omega)];simp);clear hs;go_wp2_with fail;refine(E5 _ _).mono ?_;rintro e w1 ⟨rfl,rfl⟩;rw [HS.o];go_wp2_with fail;go_ret
     exact⟨by rw [HT.o];rfl,gV.o _⟩
    have HT:=bx (X3 l k _ HX.o ha.o (show l9 (set,how)=true by unfold l9;simp [hs,h,h2]));clear hs;go_wp2_with fail;refine(E5 _ _).mono ?_;rintro e w1 ⟨rfl,rfl⟩;rw [HS.o];go_wp2_with fail
    go_roundw
    case rel=>exact⟨k+1,hlt,by go_num,HT,dR.o.alloc _,⟨gV.o _⟩⟩
    case measure=>simp [intOf];omega
   | false =>
    have HS:=bx hs;have HT:=bx (show iO l=false by unfold iO;rw [O9 l k _ HX.o (by unfold l9;simp [hs])];simp);clear hs;go_wp2_with fail;refine(E5 _ _).mono ?_;rintro e w1 ⟨rfl,rfl⟩;rw [HS.o];go_wp2_with fail;go_ret
    exact⟨by rw [HT.o];rfl,gV.o _⟩
  ·have HT:=bx (show l.all l9=true by have:=ha.o;rwa [List.take_of_length_le (by omega)] at this);go_wp2_with fail;go_ret
   refine⟨aI ?_,hb.o⟩;unfold iO;rw [HT.o,Bool.eq_iff_iff];simp;omega
def uq (n set:Int):Bool:=decide (1<=n)&&decide (n<=32)&&decide (0<=set)&&decide (set<2 ^ n.toNat)
theorem Vq (m S:Nat) (h1:1<=m) (h2:m<=32):uq (m:Int) (S:Int)=decide (S<2 ^ m):=by
 unfold uq;rw [Bool.eq_iff_iff];simp only [Bool.and_eq_true,decide_eq_true_eq,Int.toNat_natCast];have e:((2:Int) ^ m)=((2 ^ m:Nat):Int):=by simp
 rw [e];omega
theorem div_zero (S m:Nat):((S:Int) / 2 ^ m==0)=decide (S<2 ^ m):=by
 have hd:(S:Int) / 2 ^ m=((S / 2 ^ m:Nat):Int):=by simp
 rw [hd,Bool.eq_iff_iff];simp only [beq_iff_eq,decide_eq_true_eq];have h:S / 2 ^ m=0↔S<2 ^ m:=by
  rw [Nat.div_eq_zero_iff]
  constructor
  ·rintro(h | h)
   ·exact absurd h (Nat.pos_iff_ne_zero.1 (Nat.two_pow_pos m))
   ·exact h
  ·exact .inr
 omega
theorem acB (set n:Int) (w:World) :
  Calls Tryz.prog 222 #[.int .i64 set, .int .i64 n] w λe w'=>e = .returned (.bool (uq n set))/\w=w':=by
 by_cases h1:1<=n
 ·by_cases h2:n<=32
  ·by_cases h0:0<=set
   ·obtain⟨m,rfl⟩:=Int.eq_ofNat_of_zero_le (show 0<=n by omega);obtain⟨S,rfl⟩:=Int.eq_ofNat_of_zero_le h0;rw [Vq m S (by omega) (by omega)];have hz:=div_zero S m
    cases hd:decide (S<2 ^ m) with
    | true =>
     rw [hd] at hz;clear hd
     go_enter Tryz.func222,Tryz.ntmps222
     go_wp2
     go_ret
     exact⟨rfl,rfl⟩
    | false =>
     rw [hd] at hz;clear hd
     go_enter Tryz.func222,Tryz.ntmps222
     go_wp2
     go_ret
     exact⟨rfl,rfl⟩
   ·go_enter Tryz.func222,Tryz.ntmps222
    go_wp2
    go_ret
    exact⟨aI (by unfold uq;simp;omega),rfl⟩
  ·go_enter Tryz.func222,Tryz.ntmps222
   go_wp2
   go_ret
   exact⟨aI (by unfold uq;simp;omega),rfl⟩
 ·go_enter Tryz.func222,Tryz.ntmps222
  go_wp2
  go_ret
  exact⟨aI (by unfold uq;simp;omega),rfl⟩
theorem QU (set n:Int) (w:World) :
  Calls Tryz.prog 190 #[.int .i64 set, .int .i64 n] w λe w'=>e = .returned (.bool (uq n set))/\w=w':=by
 by_cases h1:1<=n
 ·by_cases h2:n<=32
  ·by_cases h0:0<=set
   ·obtain⟨m,rfl⟩:=Int.eq_ofNat_of_zero_le (show 0<=n by omega);obtain⟨S,rfl⟩:=Int.eq_ofNat_of_zero_le h0;rw [Vq m S (by omega) (by omega)];obtain⟨q,hq⟩:∃ q,2 ^ m=q:=⟨_,rfl⟩
    have HQ:=bx hq;rw [hq];clear hq
    go_enter Tryz.func190,Tryz.ntmps190
    go_wp2_with fail;refine(OH m _ (by omega)).mono ?_;rintro e w1 ⟨rfl,rfl⟩;rw [HQ.o];go_wp2_with fail;go_ret
    exact⟨rfl,rfl⟩
   ·go_enter Tryz.func190,Tryz.ntmps190
    go_wp2_with fail;go_ret
    exact⟨aI (by unfold uq;simp;omega),rfl⟩
  ·go_enter Tryz.func190,Tryz.ntmps190
   go_wp2_with fail;go_ret
   exact⟨aI (by unfold uq;simp;omega),rfl⟩
 ·go_enter Tryz.func190,Tryz.ntmps190
  go_wp2_with fail;go_ret
  exact⟨aI (by unfold uq;simp;omega),rfl⟩
def ny (n:Int) (x:N.Item):Bool:=uq n x.1&&decide (0<=x.2)&&decide (x.2<=2)
def qI (n:Int) (l:List N.Item):Bool:=decide (1<=n)&&decide (n<=32)&&decide (l.length<=10)&&l.all (ny n)
theorem ajg {n set:Int} (h:uq n set=true):setB set=true:=by
 unfold uq at h;simp only [Bool.and_eq_true,decide_eq_true_eq] at h;obtain⟨⟨⟨h1,h2⟩,h3⟩,h4⟩:=h;have hp:2 ^ n.toNat<=2 ^ 32:=Nat.pow_le_pow_right (by omega) (by omega);rw [show ((2:Int) ^ n.toNat)=((2 ^ n.toNat:Nat):Int) by simp] at h4;unfold setB;simp only [Bool.and_eq_true,decide_eq_true_eq];omega
theorem alo {n:Int} {l:List N.Item} (h:qI n l=true):iO l=true:=by
 unfold qI at h;simp only [Bool.and_eq_true,decide_eq_true_eq] at h;unfold iO;rw [Bool.and_eq_true];refine⟨decide_eq_true h.1.2,?_⟩;rw [List.all_eq_true];intro x hx;have:=List.all_eq_true.1 h.2 x hx;unfold ny at this;unfold l9;simp only [Bool.and_eq_true] at this ⊢;exact⟨⟨ajg this.1.1,this.1.2⟩,this.2⟩
theorem YD (x:N.Item) (n:Int) (bn:Nat) (w:World) (hn:w.cell? ⟨bn,0,none⟩=some (.int .i64 n)) (hlt:bn<w.heap.size) :
  Calls Tryz.prog 221 #[.agg #[.int .i64 x.1, .int .i64 x.2], .pointer (some ⟨bn,0,none⟩)] w λe w'=>e = .returned (.bool (!ny n x))/\Below w.heap.size w w':=by
 obtain⟨set,how⟩:=x;unfold ny;have hb:∀ o1 o2,Below w.heap.size w ((w.alloc o1).alloc o2):=λo1 o2=>((Below.refl _ _).alloc (Nat.le_refl _) _).alloc (by simp) _
 go_enter Tryz.func221,Tryz.ntmps221
 rcases Int.lt_or_le how 0 with h | h
 ·go_wp2_with fail;go_ret
  exact⟨aI (by simp;omega),hb _ _⟩
 rcases Int.lt_or_le 2 how with h2 | h2
 ·go_wp2_with fail;go_ret
  exact⟨aI (by simp;omega),hb _ _⟩
 have ho:=World.cell?_alloc_old;go_wp2_with (go_at_call 222;refine(acB _ _ _).mono ?_;rintro e w1 ⟨rfl,rfl⟩)
 go_ret
 exact⟨aI (by simp [h,h2]),hb _ _⟩
theorem acp (n:Int) (l:List N.Item) (k:Nat) (x:N.Item) (h:l[k]?=some x) (ha:(l.take k).all (ny n)=true) (hx:ny n x=true):(l.take (k+1)).all (ny n)=true:=by
 rw [List.take_add_one,h,List.all_append,ha];simp [hx]
theorem NG (n:Int) (l:List N.Item) (k:Nat) (x:N.Item) (h:l[k]?=some x) (hx:ny n x=false):l.all (ny n)=false:=by
 rw [Bool.eq_false_iff];intro ha;rw [List.all_eq_true] at ha;rw [ha x (List.mem_of_getElem? h)] at hx
 cases hx
theorem aeX (v:Value) (l:List N.Item) (n:Int) (bn:Nat) (w:World) (hv:bM w v l) (hz:l.length<=16777216) (hn:w.cell? ⟨bn,0,none⟩=some (.int .i64 n)) (hlt:bn<w.heap.size) :
  Calls Tryz.prog 229 #[v, .func (.func 221) #[] #[.pointer (some ⟨bn,0,none⟩)]] w λe w'=>(∃ i:Int,e = .returned (.int .i64 i)/\decide (0<=i)=!l.all (ny n))/\Below w.heap.size w w':=by
 have jw:=bx hv;obtain⟨ao,cap,rfl⟩:=hv.slice;clear hv;have HN:=bx hn;clear hn
 go_enter Tryz.func229,Tryz.ntmps229
 go_wp2
 go_loopw [8] (λi wr=>∃ k:Nat,k<=l.length/\i = .int .i64 k/\Box ((l.take k).all (ny n)=true)/\Box (Below w.heap.size w wr)) (λi _=>l.length-(intOf i).toNat)
 case atStart=>exact⟨0,by omega,rfl,⟨rfl⟩,⟨Below.refl _ _⟩⟩
 case round =>
  obtain⟨k,hk,rfl,ha,hb⟩:=hrel
  by_cases hlt':k<l.length
  ·obtain⟨x,hx⟩:∃ x,l[k]?=some x:=⟨_,List.getElem?_eq_getElem hlt'⟩
   have HX:=bx hx;obtain⟨g,off,cap2,hg1,hg2,hg3,hg4,hg5⟩:=(jw.o.below hb.o).get (by rintro rfl;simp at hlt');obtain⟨rfl,rfl⟩:ao=some ⟨g,off,none⟩/\cap=cap2:=by injection hg1 with h1 h2 h3;exact⟨h1,h3⟩
   obtain⟨hc1,hc2⟩:=hg5 k x hx;unfold maxLen at hg3;have xu:=bx (show wr.cell? ⟨bn,0,none⟩=some (.int .i64 n) from(hb.o.cell (p:=⟨bn,0,none⟩) hlt).trans HN.o);have HL2:=bx (show bn<wr.heap.size from Nat.lt_of_lt_of_le hlt hb.o.size);clear hx hg1 hg5
   cases hi:ny n x with
   | true =>
    have HT:=bx (acp n l k x HX.o ha.o hi);have HI:=bx (show (!ny n x)=false by rw [hi];rfl);clear hi;go_wp2_with fail;refine(YD x n bn _ xu.o HL2.o).mono ?_;rintro e w1 ⟨rfl,hb1⟩;rw [HI.o];have HB1:=bx (show Below w.heap.size w w1 from bt hb.o hb1);clear hb1;go_wp2_with fail
    go_roundw
    case rel=>exact⟨k+1,hlt',by go_num,HT,HB1⟩
    case measure=>simp [intOf];omega
   | false =>
    have HT:=bx (NG n l k x HX.o hi);have HI:=bx (show (!ny n x)=true by rw [hi];rfl);clear hi;go_wp2_with fail;refine(YD x n bn _ xu.o HL2.o).mono ?_;rintro e w1 ⟨rfl,hb1⟩;rw [HI.o];go_wp2_with fail;go_ret
    exact⟨⟨k,rfl,by rw [HT.o];simp⟩,bt hb.o hb1⟩
  ·have HT:=bx (show l.all (ny n)=true by have:=ha.o;rwa [List.take_of_length_le (by omega)] at this);go_wp2_with fail;go_ret
   exact⟨⟨-1,rfl,by rw [HT.o];rfl⟩,hb.o⟩
theorem aeT (v:Value) (l:List N.Item) (n:Int) (bn:Nat) (w:World) (hv:bM w v l) (hz:l.length<=16777216) (hn:w.cell? ⟨bn,0,none⟩=some (.int .i64 n)) (hlt:bn<w.heap.size) :
  Calls Tryz.prog 223 #[v, .func (.func 221) #[] #[.pointer (some ⟨bn,0,none⟩)]] w λe w'=>e = .returned (.bool (!l.all (ny n)))/\Below w.heap.size w w':=by
 have HI:=bx (aeX v l n bn w hv hz hn hlt);clear hv hn
 go_enter Tryz.func223,Tryz.ntmps223
 go_wp2_with fail;refine HI.o.mono ?_;rintro e w1 ⟨⟨i,rfl,hi⟩,hb⟩;have HX:=bx hi;clear hi;go_wp2_with fail;go_ret
 exact⟨aI (by simpa using HX.o),hb⟩
theorem X8 (st:Bool) (v:Value) (l:List N.Item) (n:Int) (w:World) (hv:bM w v l) (hz:l.length<=16777216) :
  Calls Tryz.prog 214 #[.agg #[.bool st,v], .int .i64 n] w λe w'=>e = .returned (.bool (qI n l))/\Below w.heap.size w w':=by
 unfold qI;have hw:Below w.heap.size w ((w.alloc (.cells #[.bool st,v] 144)).alloc (.cells #[.int .i64 n] 3)):=((Below.refl _ _).alloc (Nat.le_refl _) _).alloc (by simp) _;have HW:=bx hw;have HV:=bx (hv.below hw);have HN:=bx (show ((w.alloc (.cells #[.bool st,v] 144)).alloc (.cells #[.int .i64 n] 3)).cell? ⟨w.heap.size+1,0,none⟩=some (.int .i64 n) by
  have:=World.cell?_alloc_mark (w.alloc (.cells #[.bool st,v] 144)) #[.int .i64 n] 3 (0,0) 0;simp at this ⊢)
 obtain⟨ao,cap,rfl⟩:=hv.slice;clear hv hw
 by_cases hn:1<=n/\n<=32
 ·obtain⟨hn1,hn2⟩:=hn
  by_cases hl:l.length<=10
  ·go_enter Tryz.func214,Tryz.ntmps214
   go_wp2_with fail;refine(aeT _ l n (w.heap.size+1) _ HV.o hz HN.o (by simp)).mono ?_;rintro e w1 ⟨rfl,hb⟩;have HB:=bx hb;clear hb;go_wp2_with fail;go_ret
   exact⟨aI (by simp [hl,hn1,hn2]),bt HW.o HB.o⟩
  ·have hl':10<l.length:=by omega
   go_enter Tryz.func214,Tryz.ntmps214
   go_wp2_with fail;go_ret
   exact⟨aI (by simp <;> omega),HW.o⟩
 ·have hn':n<1\/(1<=n/\32<n):=by omega
  rcases hn' with h | ⟨h,h'⟩
  all_goals
   go_enter Tryz.func214,Tryz.ntmps214
   go_wp2_with fail;go_ret
   exact⟨aI (by simp <;> omega),HW.o⟩
theorem ZX (st:Bool) (v:Value) (l:List N.Item) (n:Int) (w:World) (hv:bM w v l) (hz:l.length<=16777216) :
  Calls Tryz.prog 161 #[.agg #[.bool st,v], .int .i64 n] w λe w'=>e = .returned (.bool (qI n l))/\Below w.heap.size w w':=by
 have jw:=bx hv;obtain⟨ao,cap,rfl⟩:=hv.slice;clear hv;have HB0:=bx (ak.new w 144 #[.bool st, .slice ao l.length cap]);have HW0:=bx (((Below.refl w.heap.size w).alloc (Nat.le_refl _) (.cells #[.bool st, .slice ao l.length cap] 144)))
 go_enter Tryz.func161,Tryz.ntmps161
 go_wp2
 go_loopw [5] (λi wr=>∃ k:Nat,k<=l.length/\i = .int .i64 k/\Box ((l.take k).all (ny n)=true)/\ak wr w.heap.size 144 #[.bool st, .slice ao l.length cap]/\Box (Below w.heap.size w wr)) (λi _=>l.length-(intOf i).toNat)
 case atStart=>exact⟨0,by omega,rfl,⟨rfl⟩,HB0.o,HW0⟩
 case round =>
  obtain⟨k,hk,rfl,ha,hbk,hb⟩:=hrel;have c1:wr.cell? ⟨w.heap.size,1,none⟩=some (.slice ao l.length cap):=(hbk.cell 1).trans rfl;have hl0:=hbk.lt;have dR:=bx hbk;clear hbk
  by_cases hlt:k<l.length
  ·obtain⟨x,hx⟩:∃ x,l[k]?=some x:=⟨_,List.getElem?_eq_getElem hlt⟩
   have HX:=bx hx;obtain⟨g,off,cap2,hg1,hg2,hg3,hg4,hg5⟩:=(jw.o.below hb.o).get (by rintro rfl;simp at hlt);obtain⟨rfl,rfl⟩:ao=some ⟨g,off,none⟩/\cap=cap2:=by injection hg1 with h1 h2 h3;exact⟨h1,h3⟩
   obtain⟨hc1,hc2⟩:=hg5 k x hx;unfold maxLen at hg3;have gV:=bx (λo=>hb.o.alloc hb.o.size o);clear hx hg1 hg5;obtain⟨set,how⟩:=x
   cases hs:uq n set with
   | true =>
    have HS:=bx hs
    rcases Int.lt_or_le how 0 with h | h
    ·have HT:=bx (show qI n l=false by unfold qI;rw [NG n l k _ HX.o (by unfold ny;simp;omega)];simp);clear hs;go_wp2_with fail;refine(QU _ _ _).mono ?_;rintro e w1 ⟨rfl,rfl⟩;rw [HS.o];go_wp2_with fail;go_ret
     exact⟨by rw [HT.o];rfl,gV.o _⟩
    rcases Int.lt_or_le 2 how with h2 | h2
    ·have HT:=bx (show qI n l=false by unfold qI;rw [NG n l k _ HX.o (by unfold ny;simp;omega)];simp);clear hs;go_wp2_with fail;refine(QU _ _ _).mono ?_;rintro e w1 ⟨rfl,rfl⟩;rw [HS.o];go_wp2_with fail;go_ret
     exact⟨by rw [HT.o];rfl,gV.o _⟩
    have HT:=bx (acp n l k _ HX.o ha.o (show ny n (set,how)=true by unfold ny;simp [hs,h,h2]));clear hs;go_wp2_with fail;refine(QU _ _ _).mono ?_;rintro e w1 ⟨rfl,rfl⟩;rw [HS.o];go_wp2_with fail
    go_roundw
    case rel=>exact⟨k+1,hlt,by go_num,HT,dR.o.alloc _,⟨gV.o _⟩⟩
    case measure=>simp [intOf];omega
   | false =>
    have HS:=bx hs;have HT:=bx (show qI n l=false by unfold qI;rw [NG n l k _ HX.o (by unfold ny;simp [hs])];simp);clear hs;go_wp2_with fail;refine(QU _ _ _).mono ?_;rintro e w1 ⟨rfl,rfl⟩;rw [HS.o];go_wp2_with fail;go_ret
    exact⟨by rw [HT.o];rfl,gV.o _⟩
  ·have HT:=bx (show l.all (ny n)=true by have:=ha.o;rwa [List.take_of_length_le (by omega)] at this);go_wp2_with fail
   all_goals go_ret
   all_goals refine⟨aI ?_,hb.o⟩
   all_goals unfold qI
   all_goals rw [HT.o,Bool.eq_iff_iff]
   all_goals (simp <;> omega)
end
namespace N
theorem drop_at (l:List Item) (i:Nat) (h:i<l.length):l.drop i=(l.getD i (0,0))::l.drop (i+1):=by
 rw [List.drop_eq_getElem_cons h];simp [List.getD,List.getElem?_eq_getElem h]
theorem alI (l:List Item) (n:Nat) (h:n % 2=1):clo l n=2 ^ n:=by unfold clo;rw [if_pos h]
theorem ade (l:List Item) (n:Nat) (h:l.length<=n / 2):clo l n=2 ^ n:=by
 unfold clo
 split
 ·rfl
 ·rw [List.drop_eq_nil_of_le h];rfl
theorem amP (l:List Item) (n:Nat) (h:iM l (n / 2)=0):clo l n=2 ^ n:=by
 by_cases hl:n / 2<l.length
 ·unfold clo
  split
  ·rfl
  ·rw [drop_at l _ hl];unfold Ip;unfold iM at h;rw [if_pos h]
 ·exact ade l n (by omega)
theorem alV (l:List Item) (n:Nat) (h0:n % 2=0) (hl:n / 2<l.length) (h:iM l (n / 2)≠0):clo l n=2 ^ n ||| clo l (n+2):=by
 unfold clo;rw [if_neg (by omega),if_neg (by omega),drop_at l _ hl,show (n+2) / 2=n / 2+1 by omega];unfold iM at h;rw [Ip,if_neg h]
end N
namespace D
abbrev Side:=Bool×List N.Item
abbrev Sets:=List Nat
def Bj (rs:List Side) (i:Nat):Side:=rs.getD i (false,[])
def cls (n k:Nat):Int:=if k=n then -1 else k
def Ju (rs:List Side) (S:Sets) (c:Int) (i:Nat):Nat:=N.step (Bj rs i).2 (Bj rs i).1 (S.getD i 0) c
def sK (rs:List Side) (S:Sets) (c:Int):Sets:=(List.range rs.length).map (Ju rs S c)
def firstAt (rs:List Side) (i:Nat):Nat:=N.clo (Bj rs i).2 0
def sQ (rs:List Side):Sets:=(List.range rs.length).map (firstAt rs)
def OJ (rs:List Side) (S:Sets) (i:Nat):Bool:=N.VA (Bj rs i).2 (S.getD i 0)
def nO (rs:List Side) (S:Sets):Nat->Nat
 | 0=>0
 | k+1=>if OJ rs S k=true then nO rs S k ||| 2 ^ k else nO rs S k
def place (t:List Sets) (s:Sets):Nat:=t.idxOf s
def add (t:List Sets) (s:Sets):List Sets:=if s∈t then t else t++[s]
def row (rs:List Side) (n:Nat) (S:Sets) (t:List Sets):Nat->List Nat×List Sets
 | 0=>([],t)
 | k+1=>((row rs n S t k).1++[place (row rs n S t k).2 (sK rs S (cls n k))],add (row rs n S t k).2 (sK rs S (cls n k)))
structure wG where
 todo:List Sets
 next:List (List Nat)
 fits:List Nat
def wG.go (rs:List Side) (n:Nat) (b:wG):wG :=
 match b.todo[b.next.length]? with
 | none=>b
 | some S=>⟨(row rs n S b.todo (n+1)).2,b.next++[(row rs n S b.todo (n+1)).1],b.fits++[nO rs S rs.length]⟩
def build (rs:List Side) (n:Nat):Nat->wG
 | 0=>⟨[sQ rs],[],[]⟩
 | k+1=>(build rs n k).go rs n
def Bd (rs:List Side) (n:Nat):Bool:=decide ((build rs n 300).todo.length<=300)
theorem Zx (rs:List Side) (S:Sets) (c:Int):(sK rs S c).length=rs.length:=by simp [sK]
theorem amO (rs:List Side):(sQ rs).length=rs.length:=by simp [sQ]
theorem amv (rs:List Side) (S:Sets) (c:Int) (i:Nat) (h:i<rs.length):(sK rs S c)[i]?=some (Ju rs S c i):=by
 unfold sK;rw [List.getElem?_map,List.getElem?_range h];rfl
theorem aiV {rs:List Side} {i:Nat} {r:Side} (h:rs[i]?=some r):Bj rs i=r:=by unfold Bj;rw [List.getD,h];rfl
theorem Xl (rs:List Side) (S:Sets):∀ k,nO rs S k<2 ^ k
 | 0=>by unfold nO;decide
 | k+1=>by
  have ih:=Xl rs S k;have h2:2 ^ k<2 ^ (k+1):=Nat.pow_lt_pow_right (by omega) (by omega);unfold nO
  split
  ·exact Nat.or_lt_two_pow (by omega) h2
  ·omega
theorem agc (rs:List Side) (S:Sets) (k:Nat):nO rs S k+2 ^ k=nO rs S k ||| 2 ^ k:=by
 have:=Nat.two_pow_add_eq_or_of_lt (Xl rs S k) 1;rw [Nat.mul_one] at this;rw [Nat.add_comm,this,Nat.or_comm]
theorem aa4 {t:List Sets} {s:Sets} (h:s∈t):place t s<t.length:=List.idxOf_lt_length_of_mem h
theorem Vt {t:List Sets} {s:Sets} (h:s∉t):place t s=t.length:=List.idxOf_eq_length h
theorem afD (t:List Sets) (s:Sets):place t s<=t.length:=by
 by_cases h:s∈t
 ·exact Nat.le_of_lt (aa4 h)
 ·rw [Vt h];exact Nat.le_refl _
theorem aaC (t:List Sets) (s:Sets):t <+: add t s:=by
 unfold add;split
 ·exact List.prefix_refl _
 ·exact List.prefix_append _ _
theorem aeJ {p:Sets->Prop} {t:List Sets} {s:Sets} (h:∀ x∈t,p x) (hs:p s):∀ x∈add t s,p x:=by
 unfold add;split
 ·exact h
 ·intro x hx
  rcases List.mem_append.1 hx with hx | hx
  ·exact h x hx
  ·rw [List.mem_singleton] at hx;subst hx;exact hs
theorem adz {α:Type} {a b:List α} (h:a <+: b) {i:Nat} {x:α} (hx:a[i]?=some x):b[i]?=some x:=by
 obtain⟨c,rfl⟩:=h;rw [List.getElem?_append_left (List.getElem?_eq_some_iff.1 hx).1];exact hx
section
variable (rs:List Side) (n:Nat) (S:Sets) (t:List Sets)
theorem MZ (k:Nat):row rs n S t (k+1)=((row rs n S t k).1++[place (row rs n S t k).2 (sK rs S (cls n k))],add (row rs n S t k).2 (sK rs S (cls n k))):=rfl
theorem abL:∀ k,(row rs n S t k).1.length=k
 | 0=>rfl
 | k+1=>by rw [MZ,List.length_append,abL k];rfl
theorem KZ:∀ k,t <+: (row rs n S t k).2
 | 0=>List.prefix_refl _
 | k+1=>(KZ k).trans (by rw [MZ];exact aaC _ _)
theorem Yp (j:Nat):∀ k,(row rs n S t j).2 <+: (row rs n S t (j+k)).2
 | 0=>List.prefix_refl _
 | k+1=>(Yp j k).trans (by rw [<- Nat.add_assoc,MZ];exact aaC _ _)
theorem anf {j k:Nat} (h:j<=k):(row rs n S t j).2.length<=(row rs n S t k).2.length:=by
 obtain⟨d,rfl⟩:=Nat.exists_eq_add_of_le h;exact(Yp rs n S t j d).length_le
theorem Ul {p:Sets->Prop} (ht:∀ x∈t,p x) (hs:∀ c,p (sK rs S c)):∀ k,∀ x∈(row rs n S t k).2,p x
 | 0=>ht
 | k+1=>by rw [MZ];exact aeJ (Ul ht hs k) (hs _)
end
section
variable (rs:List Side) (n:Nat)
theorem abK {b:wG} (h:b.todo.length<=b.next.length):b.go rs n=b:=by
 unfold wG.go;rw [List.getElem?_eq_none h]
theorem Ud {b:wG} {S:Sets} (h:b.todo[b.next.length]?=some S):b.go rs n=⟨(row rs n S b.todo (n+1)).2,b.next++[(row rs n S b.todo (n+1)).1],b.fits++[nO rs S rs.length]⟩:=by
 unfold wG.go;rw [h]
theorem aep (b:wG):b.todo <+: (b.go rs n).todo:=by
 unfold wG.go
 split
 ·exact List.prefix_refl _
 ·exact KZ _ _ _ _ _
theorem Zc (j:Nat):∀ k,(build rs n j).todo.length<=(build rs n (j+k)).todo.length
 | 0=>Nat.le_refl _
 | k+1=>Nat.le_trans (Zc j k) (by rw [<- Nat.add_assoc];exact(aep rs n _).length_le)
theorem anA {j k:Nat} (h:j<=k):(build rs n j).todo.length<=(build rs n k).todo.length:=by
 obtain⟨d,rfl⟩:=Nat.exists_eq_add_of_le h;exact Zc rs n j d
theorem adg:∀ k,(build rs n k).next.length=(build rs n k).fits.length/\(build rs n k).next.length<=(build rs n k).todo.length/\((build rs n k).next.length=k\/((build rs n k).next.length<k/\(build rs n k).next.length=(build rs n k).todo.length))
 | 0=>⟨rfl,Nat.zero_le _, .inl rfl⟩
 | k+1=>by
  obtain⟨h1,h2,h3⟩:=adg k;show _=_/\_/\_
  rcases Nat.lt_or_ge (build rs n k).next.length (build rs n k).todo.length with h | h
  ·obtain⟨S,hS⟩:∃ S,(build rs n k).todo[(build rs n k).next.length]?=some S:=⟨_,List.getElem?_eq_getElem h⟩
   have e:build rs n (k+1)=_:=Ud rs n hS;rw [e];simp only [List.length_append,List.length_cons,List.length_nil];have hp:=(KZ rs n S (build rs n k).todo (n+1)).length_le;refine⟨by omega,by omega, .inl ?_⟩
   rcases h3 with h3 | h3
   ·omega
   ·omega
  ·have e:build rs n (k+1)=_:=abK rs n h;rw [e];exact⟨h1,h2, .inr ⟨by rcases h3 with h3 | h3 <;> omega,by omega⟩⟩
theorem adA {k:Nat} (h:(build rs n k).todo.length<=(build rs n k).next.length):∀ m,build rs n (k+m)=build rs n k
 | 0=>rfl
 | m+1=>by
  have ih:=adA h m;show (build rs n (k+m)).go rs n=_
  rw [ih];exact abK rs n h
theorem Xh {k:Nat} (hk:k<=300) (h:(build rs n k).todo.length<=(build rs n k).next.length):build rs n 300=build rs n k:=by
 obtain⟨d,hd⟩:=Nat.exists_eq_add_of_le hk;rw [hd];exact adA rs n h d
theorem Y8 {k:Nat} (hk:k<=300) (h:(build rs n k).todo.length<=(build rs n k).next.length) (hl:(build rs n k).todo.length<=300):Bd rs n=true:=by
 unfold Bd;rw [Xh rs n hk h];exact decide_eq_true hl
theorem anI {k:Nat} (hk:k<=300) (h:300<(build rs n k).todo.length):Bd rs n=false:=by
 unfold Bd;have:=anA rs n hk;exact decide_eq_false (by omega)
theorem Yz {p:Sets->Prop} (h0:p (sQ rs)) (hs:∀ S c,p S->p (sK rs S c)):∀ k,∀ x∈(build rs n k).todo,p x
 | 0=>by intro x hx;simp only [build,List.mem_singleton] at hx;subst hx;exact h0
 | k+1=>by
  have ih:=Yz h0 hs k;show ∀ x∈((build rs n k).go rs n).todo,p x
  unfold wG.go
  split
  ·exact ih
  ·rename_i S hS
   exact Ul rs n S _ ih (λc=>hs S c (ih S (List.mem_of_getElem? hS))) _
end
def Good (rs:List Side) (S:Sets):Prop:=S.length=rs.length/\∀ i,i<rs.length->S.getD i 0<2 ^ (2*(Bj rs i).2.length+1)
theorem aaB (rs:List Side) (f:Nat->Nat) (h:∀ i,i<rs.length->f i<2 ^ (2*(Bj rs i).2.length+1)):Good rs ((List.range rs.length).map f):=by
 refine⟨by simp,λi hi=>?_⟩;rw [List.getD,List.getElem?_map,List.getElem?_range hi];exact h i hi
theorem good_step (rs:List Side) (S:Sets) (c:Int):Good rs (sK rs S c):=aaB rs _ λ_ _=>N.ahd _ _ _ _
theorem afg (rs:List Side):Good rs (sQ rs):=aaB rs _ λ_ _=>N.Tn _ 0 (by omega)
theorem ai2 (rs:List Side) (n k:Nat):∀ x∈(build rs n k).todo,Good rs x:=Yz rs n (afg rs) (λS c _=>good_step rs S c) k
end D
section
open Go.RowKit
theorem XU (k:Nat):(2:Int) ^ k=((2 ^ k:Nat):Int):=by simp
theorem ai8 (S m k:Nat) (hS:S<2 ^ k) (hm:m<k):S ||| 2 ^ m<2 ^ k:=Nat.or_lt_two_pow hS (Nat.pow_lt_pow_right (by omega) hm)
theorem aiZ (S k:Nat) (hS:S<2 ^ k) (hk:k<=40):S<1099511627776:=by
 have:2 ^ k<=2 ^ 40:=Nat.pow_le_pow_right (by omega) hk;omega
structure Agree (W0 w:World):Prop where
 size:W0.heap.size<=w.heap.size
 block:∀ k,k<W0.heap.size->w.heap[k]?=W0.heap[k]?
theorem Agree.of_below {W0 w:World} (h:Below W0.heap.size W0 w):Agree W0 w:=⟨h.size,h.block⟩
theorem Agree.turns {A B C:World} {own:Nat->Prop} (h:Agree A B) (k:Turns own B C) (ho:∀ i,own i->A.heap.size<=i):Agree A C :=
 ⟨Nat.le_trans h.size k.size,λi hi=>(k.block i (Nat.lt_of_lt_of_le hi h.size) (λe=>by have:=ho i e;omega)).trans (h.block i hi)⟩
theorem Agree.holds {A B C:World} {own:Nat->Prop} (h:Agree A B) (k:Holds own B C) (ho:∀ i,i<A.heap.size->own i):Agree A C :=
 ⟨Nat.le_trans h.size k.size,λi hi=>(k.block i (ho i hi)).trans (h.block i hi)⟩
theorem Xj {P:Program} {T K E:TypeId} {q:IntKind} (hm:P.underlying T=some (.map K E)) (hk:P.underlying K=some (.int q)) (W:World) (es:Array MapEntry) (clk:Nat) (k:Int) (n:Nat) (hg:W.heap[n]?=some (.map es clk))
  (i:Nat) (v:Value) (hf:Instr.findNow (.int q) (.int q k) es.toList 0=some (some (i,v))) :
  (Instr.lookup T (.map (some n)) (.int q k) false).run P W = .ok v W:=by
 have h1:(Instr.checkKey es.isEmpty 10000 K (.int q k)).run P W = .ok () W:=MapKept.run_checkKey hk (by simp [MapKept.IsKey]) _ 9999;have h2:=MapKept.run_findKey (P:=P) (w:=W) hk hf;unfold Instr.lookup;simp only [Sem.run_bind,run_underlying hm,Result.andThen,MapKept.run_getObj_map hg,h1,h2,Sem.run_pure,Bool.false_eq_true,if_false]
theorem fV {P:Program} {f:FuncId} {args:Array Value} {w:World} {n:Nat} {v:Value}
  (h:Calls P f args (w.drewN n) λe w'=>e = .returned v/\w.drewN n=w'):Calls P f args (w.drewN n) λe w''=>e = .returned v/\∃ m,w''=w.drewN m :=
 h.mono λ_ _ ⟨he,hm⟩=>⟨he,n,hm.symm⟩
theorem ab9 {l:List N.Item} (h:iO l=true) {i:Nat} {x:N.Item} (hx:l[i]?=some x):0<=x.2/\x.2<=2:=by
 unfold iO at h;rw [Bool.and_eq_true,List.all_eq_true] at h;have:=h.2 x (List.mem_of_getElem? hx);unfold l9 at this;simp only [Bool.and_eq_true,decide_eq_true_eq] at this;exact⟨this.1.2,this.2⟩
def y7 (W0:World) (Br Bs Bc:Nat) (k:Nat):Prop:=k<W0.heap.size\/k=Br\/k=Bs\/k=Bc
end
namespace N
theorem N8 (p:Int->Bool):∀ (t:List Int) (j:Nat),(∀ x,x<j->∃ c,t[x]?=some c/\p c=true)↔j<=(t.takeWhile p).length
 | [],j=>by
  simp only [List.takeWhile_nil,List.length_nil]
  constructor
  ·intro h
   rcases Nat.eq_zero_or_pos j with h0 | h0
   ·omega
   ·obtain⟨c,hc,-⟩:=h 0 h0;simp at hc
  ·intro h x hx;omega
 | c::t,j=>by
  cases j with
  | zero=>exact⟨λ_=>Nat.zero_le _,λ_ x hx=>by omega⟩
  | succ j =>
   by_cases hc:p c=true
   ·rw [List.takeWhile_cons_of_pos hc,List.length_cons];have ih:=N8 p t j
    constructor
    ·intro h;have:=ih.1 λx hx=>by
      obtain⟨d,h1,h2⟩:=h (x+1) (by omega);exact⟨d,by simpa using h1,h2⟩
     omega
    ·intro h x hx
     cases x with
     | zero=>exact⟨c,rfl,hc⟩
     | succ x =>
      obtain⟨d,h1,h2⟩:=ih.2 (by omega) x (by omega);exact⟨d,by simpa using h1,h2⟩
   ·rw [List.takeWhile_cons_of_neg hc,List.length_nil]
    constructor
    ·intro h;obtain⟨d,h1,h2⟩:=h 0 (by omega);simp at h1;subst h1;exact absurd h2 hc
    ·intro h;omega
end N
section
open Go.RowKit
def Xd:Option (Int×Nat)->Value
 | none=>.tuple #[.int .i64 0, .int .i64 0, .bool false]
 | some (r,n)=>.tuple #[.int .i64 r, .int .i64 (n:Int), .bool true]
def oK (l:List UInt8):Value:=Xd (U.dec l)
theorem wC (r:Int) (w:World) :
  Calls Tryz.prog 75 #[.int .i64 r] w λe w'=>e = .returned (.bool (U.right r))/\w=w':=by
 go_enter Tryz.func75,Tryz.ntmps75
 go_wp2
 all_goals go_ret
 all_goals exact⟨aI (by first | (simp [U.right, *];done) | (simp [U.right];omega)),rfl⟩
theorem isEmpty_nil {s:ByteArray} (h:s.data.toList=[]):s.toList.isEmpty=true:=by rw [ByteArray.toList_eq,h];rfl
theorem isEmpty_cons {s:ByteArray} {c:UInt8} {t:List UInt8} (h:s.data.toList=c::t):s.toList.isEmpty=false:=by rw [ByteArray.toList_eq,h];rfl
def Ap (r:Int):Value:=if U.right r=true then .tuple #[.string ⟨(U.enc r).toArray⟩, .int .i64 0] else .tuple #[.string ⟨#[]⟩, .int .i64 10]
theorem Ov {r:Int} (h:U.right r=false):Ap r = .tuple #[.string ⟨#[]⟩, .int .i64 10]:=by unfold Ap;rw [if_neg (by rw [h];decide)]
theorem aav {r:Int} {l:List Int} (h:U.right r=true) (hl:l.map U.byte=U.enc r):Value.tuple #[.string (strOfNums l), .int .i64 0]=Ap r:=by
 unfold Ap;rw [if_pos h,<- hl];rfl
end
section
open Go.RowKit
attribute [local go_sem] TL SQ
def rH (n:Int):Nat :=
 if n=0 then 0 else if n=128 then 4638707616191610880 else if n=143 then 4639235381772943360 else if n=144 then 4639270566145032192
 else if n=159 then 4639798331726364672 else if n=160 then 4639833516098453504 else 4640924231633207296
def Ci (c:Int):Int:=if U.bF c<0 then 0 else U.bF c
def Dz (c:Int):Value:=.agg #[.int .u8 (U.gG c), .int .i64 (Ci c), .complex .f64 (rH (U.eX c)) (rH (U.eU c))]
theorem Yu {c m n lo hi:Int} {a b:Nat} (h1:U.gG c=m) (h2:Ci c=n) (h3:U.eX c=lo) (h4:U.eU c=hi) (h5:rH lo=a) (h6:rH hi=b) :
  Value.agg #[.int .u8 m, .int .i64 n, .complex .f64 a b]=Dz c:=by subst h1 h2 h3 h4 h5 h6;rfl
theorem KY {c m n lo hi:Int} {a b:Nat} (h2:U.bF c=n) (hn:0<=n) (h1:U.gG c=m) (h3:U.eX c=lo) (h4:U.eU c=hi) (h5:rH lo=a) (h6:rH hi=b) :
  Value.agg #[.int .u8 m, .int .i64 n, .complex .f64 a b]=Dz c:=Yu h1 (by unfold Ci;rw [h2,if_neg (by omega)]) h3 h4 h5 h6
theorem ah9 (w:World):(zeroValue 223).run Tryz.prog w = .ok (.agg #[.int .u8 0, .int .i64 0, .complex .f64 0 0]) w:=by kernel_rfl
def e1:MapEntry:=⟨.int .u8 224, .agg #[.int .u8 224, .int .i64 2, .complex .f64 4639833516098453504 4640924231633207296],0⟩
def e2:MapEntry:=⟨.int .u8 237, .agg #[.int .u8 224, .int .i64 2, .complex .f64 4638707616191610880 4639798331726364672],1⟩
def e3:MapEntry:=⟨.int .u8 240, .agg #[.int .u8 240, .int .i64 3, .complex .f64 4639270566145032192 4640924231633207296],2⟩
def e4:MapEntry:=⟨.int .u8 244, .agg #[.int .u8 240, .int .i64 3, .complex .f64 4638707616191610880 4639235381772943360],3⟩
theorem anC (c:Int) (h:¬ c=224/\¬ c=237/\¬ c=240/\¬ c=244):Instr.findNow (.int .u8) (.int .u8 c) [e1,e2,e3,e4] 0=some none:=by
 obtain⟨h1,h2,h3,h4⟩:=h
 replace h1:=beq_eq_false_iff_ne.2 h1
 replace h2:=beq_eq_false_iff_ne.2 h2
 replace h3:=beq_eq_false_iff_ne.2 h3
 replace h4:=beq_eq_false_iff_ne.2 h4
 simp only [Instr.findNow,Instr.sameNow,e1,e2,e3,e4,h1,h2,h3,h4,if_true]
theorem aiI (c:Int) (h0:0<=c) (h1:c<256) (w:World) :
  Calls Tryz.prog 146 #[.int .u8 c] w λe w'=>e = .returned (Dz c)/\Below w.heap.size w w':=by
 have hmm:=@run_makeMap Tryz.prog;have Pq:=λ(W:World) (o:Obj)=>Gz (P:=Tryz.prog) Tryz.underlying275 Tryz.underlying5 (W.alloc o) #[] 0 224 e1.val (W.heap.size+1) (by simp) rfl
 have Ox:=λ(W:World) (o:Obj)=>Gz (P:=Tryz.prog) Tryz.underlying275 Tryz.underlying5 (W.alloc o) #[e1] 1 237 e2.val (W.heap.size+1) (by simp) rfl
 have Qa:=λ(W:World) (o:Obj)=>Gz (P:=Tryz.prog) Tryz.underlying275 Tryz.underlying5 (W.alloc o) #[e1,e2] 2 240 e3.val (W.heap.size+1) (by simp) rfl
 have ahw:=λ(W:World) (o:Obj)=>Gz (P:=Tryz.prog) Tryz.underlying275 Tryz.underlying5 (W.alloc o) #[e1,e2,e3] 3 244 e4.val (W.heap.size+1) (by simp) rfl
 simp only [List.push_toArray,List.nil_append,List.cons_append,e1,e2,e3,e4,Nat.reduceAdd,Nat.zero_add] at Pq Ox Qa ahw
 by_cases hs:¬ c=224/\¬ c=237/\¬ c=240/\¬ c=244
 ·have hlk:=λ(W:World) (o:Obj)=>alC (P:=Tryz.prog) Tryz.underlying275 Tryz.underlying5 ((W.alloc o).alloc (.map #[e1,e2,e3,e4] 4)) #[e1,e2,e3,e4] 4 c (W.heap.size+1) (Ia _ _ _ (by simp)) _ (ah9 _) (anC c hs)
  simp only [e1,e2,e3,e4] at hlk;obtain⟨n1,n2,n3,n4⟩:=hs
  go_enter Tryz.func146,Tryz.ntmps146
  go_wp2
  all_goals go_returns
  all_goals first
   | exact⟨rJ (KY (lo:=128) (hi:=191) (by unfold U.bF;repeat' (first | omega | split)) (by omega) (by unfold U.gG U.bF;repeat' (first | omega | split)) (by unfold U.eX U.bF;repeat' (first | omega | split)) (by unfold U.eU U.bF;repeat' (first | omega | split)) rfl rfl),(((Below.refl _ _).alloc (Nat.le_refl _) _).alloc (by simp) _).alloc (by simp;omega) _⟩
   | exact⟨rJ (Yu (lo:=0) (hi:=0) (by unfold U.gG U.bF;repeat' (first | omega | split)) (by unfold Ci U.bF;repeat' (first | omega | split)) (by unfold U.eX U.bF;repeat' (first | omega | split)) (by unfold U.eU U.bF;repeat' (first | omega | split)) rfl rfl),(((Below.refl _ _).alloc (Nat.le_refl _) _).alloc (by simp) _).alloc (by simp;omega) _⟩
 have hs:c=224\/c=237\/c=240\/c=244:=by omega
 rcases hs with hs | hs | hs | hs
 ·subst hs;have hlk:=λ(W:World) (o:Obj)=>Qg (P:=Tryz.prog) Tryz.underlying275 Tryz.underlying5 ((W.alloc o).alloc (.map #[e1,e2,e3,e4] 4)) #[e1,e2,e3,e4] 4 224 (W.heap.size+1) (Ia _ _ _ (by simp)) 0 e1.val rfl
  simp only [e1,e2,e3,e4] at hlk
  go_enter Tryz.func146,Tryz.ntmps146
  go_wp2
  go_returns
  exact⟨rJ (KY (lo:=160) (hi:=191) rfl (by decide) rfl rfl rfl rfl rfl),(((Below.refl _ _).alloc (Nat.le_refl _) _).alloc (by simp) _).alloc (by simp;omega) _⟩
 ·subst hs;have hlk:=λ(W:World) (o:Obj)=>Qg (P:=Tryz.prog) Tryz.underlying275 Tryz.underlying5 ((W.alloc o).alloc (.map #[e1,e2,e3,e4] 4)) #[e1,e2,e3,e4] 4 237 (W.heap.size+1) (Ia _ _ _ (by simp)) 1 e2.val rfl
  simp only [e1,e2,e3,e4] at hlk
  go_enter Tryz.func146,Tryz.ntmps146
  go_wp2
  go_returns
  exact⟨rJ (KY (lo:=128) (hi:=159) rfl (by decide) rfl rfl rfl rfl rfl),(((Below.refl _ _).alloc (Nat.le_refl _) _).alloc (by simp) _).alloc (by simp;omega) _⟩
 ·subst hs;have hlk:=λ(W:World) (o:Obj)=>Qg (P:=Tryz.prog) Tryz.underlying275 Tryz.underlying5 ((W.alloc o).alloc (.map #[e1,e2,e3,e4] 4)) #[e1,e2,e3,e4] 4 240 (W.heap.size+1) (Ia _ _ _ (by simp)) 2 e3.val rfl
  simp only [e1,e2,e3,e4] at hlk
  go_enter Tryz.func146,Tryz.ntmps146
  go_wp2
  go_returns
  exact⟨rJ (KY (lo:=144) (hi:=191) rfl (by decide) rfl rfl rfl rfl rfl),(((Below.refl _ _).alloc (Nat.le_refl _) _).alloc (by simp) _).alloc (by simp;omega) _⟩
 ·subst hs;have hlk:=λ(W:World) (o:Obj)=>Qg (P:=Tryz.prog) Tryz.underlying275 Tryz.underlying5 ((W.alloc o).alloc (.map #[e1,e2,e3,e4] 4)) #[e1,e2,e3,e4] 4 244 (W.heap.size+1) (Ia _ _ _ (by simp)) 3 e4.val rfl
  simp only [e1,e2,e3,e4] at hlk
  go_enter Tryz.func146,Tryz.ntmps146
  go_wp2
  go_returns
  exact⟨rJ (KY (lo:=128) (hi:=143) rfl (by decide) rfl rfl rfl rfl rfl),(((Below.refl _ _).alloc (Nat.le_refl _) _).alloc (by simp) _).alloc (by simp;omega) _⟩
theorem ae3:∀ d:Fin 256,∀ n∈[(0:Int),128,143,144,159,160,191],
  ((FloatKind.f64.format.order (FloatKind.f64.nearest (d.val:Int)) (rH n)==some .gt)||(FloatKind.f64.format.order (FloatKind.f64.nearest (d.val:Int)) (rH n)==some .eq))=decide (n<=(d.val:Int)):=by decide +kernel
theorem anm:∀ d:Fin 256,∀ n∈[(0:Int),128,143,144,159,160,191],
  ((FloatKind.f64.format.order (FloatKind.f64.nearest (d.val:Int)) (rH n)==some .lt)||(FloatKind.f64.format.order (FloatKind.f64.nearest (d.val:Int)) (rH n)==some .eq))=decide ((d.val:Int)<=n):=by decide +kernel
theorem YO:∀ n∈[(0:Int),128,143,144,159,160,191],(FloatKind.f64.format.order (rH n) 0==some .eq)=decide (n=0):=by decide +kernel
theorem aaY (c:Int):U.eX c∈[(0:Int),128,143,144,159,160,191]:=by unfold U.eX;repeat' (first | simp;done | split)
theorem YS (c:Int):U.eU c∈[(0:Int),128,143,144,159,160,191]:=by unfold U.eU;repeat' (first | simp;done | split)
end
section
open Go.RowKit
attribute [local go_sem] TL SQ
theorem ahl (c:Int):U.eX c=0↔U.bF c<0:=by unfold U.eX;repeat' (first | omega | split)
theorem adZ (c:Int):U.eU c=0↔U.bF c<0:=by unfold U.eU;repeat' (first | omega | split)
theorem afb {P:Program} {T:TypeId} (hT:P.underlying T=some (.complex .f64)) (a b x y:Nat) (W:World) (d:Nat) :
  (Op.equalIn (d+1) T (.complex .f64 a b) (.complex .f64 x y)).run P W = .ok ((FloatKind.f64.format.order a x==some .eq)&&(FloatKind.f64.format.order b y==some .eq)) W:=by
 simp [Op.equalIn,run_underlying hT,Op.floatEq]
theorem anK (c:Int) (W:World) :
  (Op.equalIn 9999 221 (.complex .f64 (rH (U.eX c)) (rH (U.eU c))) (.complex .f64 0 0)).run Tryz.prog W = .ok (decide (U.bF c<0)) W:=by
 rw [afb (d:=9998) Tryz.underlying221,YO _ (aaY c),YO _ (YS c)]
 congr 1
 rw [Bool.eq_iff_iff];simp [ahl,adZ]
theorem agB (c:Int) (w:World) :
  Calls Tryz.prog 147 #[Dz c] w λe w'=>e = .returned (.bool (decide (0<=U.bF c)))/\Below w.heap.size w w':=by
 unfold Dz;have he:=anK c;have hm:¬ U.gG c=0->0<=U.bF c:=by unfold U.gG;repeat' (first | omega | split)
 have hn:¬ Ci c=0->0<=U.bF c:=by unfold Ci;repeat' (first | omega | split)
 have HM:=bx hm;have HN:=bx hn;clear hm hn
 go_enter Tryz.func147,Tryz.ntmps147
 go_wp2
 all_goals go_returns
 all_goals
  have a1:=HM.o;have a2:=HN.o;exact⟨aI (by first | (rw [eq_comm,decide_eq_true_eq];omega) | (rw [eq_comm,decide_eq_false_iff_not];omega)),((Below.refl _ _).alloc (Nat.le_refl _) _).alloc (by simp) _⟩
theorem anE (c d:Int) (h0:0<=d) (h1:d<256) (w:World) :
  Calls Tryz.prog 148 #[Dz c, .int .u8 d] w λe w'=>e = .returned (.bool (decide (U.eX c<=d)&&decide (d<=U.eU c)))/\Below w.heap.size w w':=by
 unfold Dz;have e1:=ae3 ⟨d.toNat,by omega⟩ _ (aaY c);have e2:=anm ⟨d.toNat,by omega⟩ _ (YS c);have e3:((d.toNat:Nat):Int)=d:=by omega
 simp only [e3] at e1 e2;have hf:floatOfInt FloatKind.f64 d=FloatKind.f64.nearest d:=rfl;clear e3
 go_enter Tryz.func148,Tryz.ntmps148
 go_wp2
 all_goals go_returns
 all_goals exact⟨aI (by first | (simp [*];done) | (simp;omega)),(Below.refl _ _).alloc (Nat.le_refl _) _⟩
theorem amW (A:Nat->Addr) (B:Nat) (w:World) (hE:E A B w) :
  Calls Tryz.prog 55 #[kH A 4] w λe w'=>e = .returned (.int .i64 10)/\w=w':=by
 have c0:=hE.cell 4 (by decide);have c1:=hE.cell 5 (by decide);unfold kH
 go_enter Tryz.func55,Tryz.ntmps55
 go_wp2_with fail;refine(is_same _ _).mono ?_;rintro e w' ⟨rfl,rfl⟩
 go_wp2
 go_ret
 exact⟨rfl,rfl⟩
theorem alH (A:Nat->Addr) (B:Nat) (w:World) (hE:E A B w) :
  Calls Tryz.prog 55 #[kH A 5] w λe w'=>e = .returned (.int .i64 11)/\w=w':=by
 have c0:=hE.cell 4 (by decide);have c1:=hE.cell 5 (by decide);have H:=bx (anr hE 5 4 (by decide) (by decide));unfold kH
 go_enter Tryz.func55,Tryz.ntmps55
 go_wp2_with fail;refine H.o.mono ?_;rintro e w' ⟨rfl,rfl⟩;go_wp2_with fail;refine(is_same _ _).mono ?_;rintro e w' ⟨rfl,rfl⟩
 go_wp2
 go_ret
 exact⟨rfl,rfl⟩
theorem take_any (b o:Nat) (s:ByteArray) (n:Nat) (w:World) (hn:n<=s.size) (_hs:s.size<=maxLen) (hc:w.cell? ⟨b,o,none⟩=some (.string s)) (hf:w.frozen? ⟨b,o,none⟩=false) :
  Calls Tryz.prog 149 #[.pointer (some ⟨b,o,none⟩), .int .i64 (n:Int)] w λe w'=>e = .returned (.string (s.extract 0 n))/\w.setCell ⟨b,o,none⟩ (.string (s.extract n s.size))=w':=by
 unfold maxLen at _hs
 go_enter Tryz.func149,Tryz.ntmps149
 go_wp2
 all_goals go_ways
 go_ret
 exact⟨rfl,rfl⟩
end
end Go.Proofs.YtlmdjifffmofeaaGreatDoor
