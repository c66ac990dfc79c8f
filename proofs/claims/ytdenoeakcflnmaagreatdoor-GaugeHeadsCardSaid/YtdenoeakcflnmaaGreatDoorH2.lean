/- Texts of this claim. -/
import Derived.RegionTactic
import Derived.ChangeSlices
import Derived.WideShapes
import Derived.Maps.AppendAt
import Derived.Shelf.Abstract
import Derived.Shelf.RegionOpen
import Derived.RangeFuncNested
import Derived.RangeFuncBound
import Derived.RangeFuncCalls
import Derived.RangeFuncLeaves
import Derived.OwnWalkIn
import Derived.TacticsInMore
import Derived.LoopNIn
import Derived.LoopIn
import Derived.Test.YtdenoeakcflnmaaGreatDoorH1

set_option maxHeartbeats 2000000
namespace Go.Proofs.YtdenoeakcflnmaaGreatDoor
section
open Go.RowKit
theorem ajd (v:Value) (l:List N.Item) (bn:Nat) (w:World) (hv:bQ w v l) (hz:l.length<=16777216) (hn:w.cell? ⟨bn,0,none⟩=some (.int .i64 32)) (hlt:bn<w.heap.size) :
  Calls Tryz.prog 222 #[v, .func (.func 220) #[] #[.pointer (some ⟨bn,0,none⟩)]] w λe w'=>e = .returned (.bool (!l.all lY))/\Below w.heap.size w w':=by
 have HI:=bx (ajI v l bn w hv hz hn hlt);clear hv hn
 go_enter Tryz.func222,Tryz.ntmps222
 go_wp2_with fail;refine HI.o.mono ?_;rintro e w1 ⟨⟨i,rfl,hi⟩,hb⟩;have HX:=bx hi;clear hi;go_wp2_with fail;go_ret
 exact⟨aI (by simpa using HX.o),hb⟩
theorem ajV (st:Bool) (v:Value) (l:List N.Item) (w:World) (hv:bQ w v l) (hz:l.length<=16777216) :
  Calls Tryz.prog 206 #[.agg #[.bool st,v], .int .i64 32] w λe w'=>e = .returned (.bool (fQ l))/\Below w.heap.size w w':=by
 unfold fQ;have hw:Below w.heap.size w ((w.alloc (.cells #[.bool st,v] 182)).alloc (.cells #[.int .i64 32] 3)):=((Below.refl _ _).alloc (Nat.le_refl _) _).alloc (by simp) _;have HW:=bx hw;have HV:=bx (hv.below hw);have HN:=bx (show ((w.alloc (.cells #[.bool st,v] 182)).alloc (.cells #[.int .i64 32] 3)).cell? ⟨w.heap.size+1,0,none⟩=some (.int .i64 32) by
  have:=World.cell?_alloc_mark (w.alloc (.cells #[.bool st,v] 182)) #[.int .i64 32] 3 (0,0) 0;simp at this ⊢)
 obtain⟨ao,cap,rfl⟩:=hv.slice;clear hv hw
 by_cases hl:l.length<=10
 ·go_enter Tryz.func206,Tryz.ntmps206
  go_wp2_with fail;refine(ajd _ l (w.heap.size+1) _ HV.o hz HN.o (by simp)).mono ?_;rintro e w1 ⟨rfl,hb⟩;have HB:=bx hb;clear hb;go_wp2_with fail;go_ret
  exact⟨aI (by simp [hl]),bt HW.o HB.o⟩
 ·have hl':10<l.length:=by omega
  go_enter Tryz.func206,Tryz.ntmps206
  go_wp2_with fail;go_ret
  exact⟨aI (by simp),HW.o⟩
theorem FI (st:Bool) (v:Value) (l:List N.Item) (w:World) (hv:bQ w v l) (hz:l.length<=16777216) :
  Calls Tryz.prog 167 #[.agg #[.bool st,v], .int .i64 32] w λe w'=>e = .returned (.bool (fQ l))/\Below w.heap.size w w':=by
 have oz:=bx hv;obtain⟨ao,cap,rfl⟩:=hv.slice;clear hv;have HB0:=bx (aj.new w 182 #[.bool st, .slice ao l.length cap]);have HW0:=bx (((Below.refl w.heap.size w).alloc (Nat.le_refl _) (.cells #[.bool st, .slice ao l.length cap] 182)))
 go_enter Tryz.func167,Tryz.ntmps167
 go_wp2
 go_loopw [5] (λi wr=>∃ k:Nat,k<=l.length/\i = .int .i64 k/\Box ((l.take k).all lY=true)/\aj wr w.heap.size 182 #[.bool st, .slice ao l.length cap]/\Box (Below w.heap.size w wr)) (λi _=>l.length-(intOf i).toNat)
 case atStart=>exact⟨0,by omega,rfl,⟨rfl⟩,HB0.o,HW0⟩
 case round =>
  obtain⟨k,hk,rfl,ha,hbk,hb⟩:=hrel;have c1:wr.cell? ⟨w.heap.size,1,none⟩=some (.slice ao l.length cap):=(hbk.cell 1).trans rfl;have hl0:=hbk.lt;have bf:=bx hbk;clear hbk
  by_cases hlt:k<l.length
  ·obtain⟨x,hx⟩:∃ x,l[k]?=some x:=⟨_,List.getElem?_eq_getElem hlt⟩
   have HX:=bx hx;obtain⟨g,off,cap2,hg1,hg2,hg3,hg4,hg5⟩:=(oz.o.below hb.o).get (by rintro rfl;simp at hlt);obtain⟨rfl,rfl⟩:ao=some ⟨g,off,none⟩/\cap=cap2:=by injection hg1 with h1 h2 h3;exact⟨h1,h3⟩
   obtain⟨hc1,hc2⟩:=hg5 k x hx;unfold maxLen at hg3;have dB:=bx (λo=>hb.o.alloc hb.o.size o);clear hx hg1 hg5;obtain⟨set,how⟩:=x
   cases hs:setB set with
   | true =>
    have HS:=bx hs
    rcases Int.lt_or_le how 0 with h | h
    ·have HT:=bx (show fQ l=false by unfold fQ;rw [Oo l k _ HX.o (by unfold lY;simp;omega)];simp);clear hs;go_wp2_with fail;refine(Em _ _).mono ?_;rintro e w1 ⟨rfl,rfl⟩;rw [HS.o];go_wp2_with fail;go_ret
     exact⟨by rw [HT.o];rfl,dB.o _⟩
    rcases Int.lt_or_le 2 how with h2 | h2
    ·have HT:=bx (show fQ l=false by unfold fQ;rw [Oo l k _ HX.o (by unfold lY;simp;omega)];simp);clear hs;go_wp2_with fail;refine(Em _ _).mono ?_;rintro e w1 ⟨rfl,rfl⟩;rw [HS.o];go_wp2_with fail;go_ret
     exact⟨by rw [HT.o];rfl,dB.o _⟩
    have HT:=bx (acs l k _ HX.o ha.o (show lY (set,how)=true by unfold lY;simp [hs,h,h2]));clear hs;go_wp2_with fail;refine(Em _ _).mono ?_;rintro e w1 ⟨rfl,rfl⟩;rw [HS.o];go_wp2_with fail
    go_roundw
    case rel=>exact⟨k+1,hlt,by go_num,HT,bf.o.alloc _,⟨dB.o _⟩⟩
    case measure=>simp [intOf];omega
   | false =>
    have HS:=bx hs;have HT:=bx (show fQ l=false by unfold fQ;rw [Oo l k _ HX.o (by unfold lY;simp [hs])];simp);clear hs;go_wp2_with fail;refine(Em _ _).mono ?_;rintro e w1 ⟨rfl,rfl⟩;rw [HS.o];go_wp2_with fail;go_ret
    exact⟨by rw [HT.o];rfl,dB.o _⟩
  ·have HT:=bx (show l.all lY=true by have:=ha.o;rwa [List.take_of_length_le (by omega)] at this);go_wp2_with fail;go_ret
   refine⟨aI ?_,hb.o⟩;unfold fQ;rw [HT.o,Bool.eq_iff_iff];simp;omega
theorem bQ.take {w:World} {ao:Option Addr} {cap:Nat} {l:List N.Item} (h:bQ w (.slice ao l.length cap) l) (n:Nat):bQ w (.slice ao (l.take n).length cap) (l.take n):=by
 rcases h with⟨h1,rfl⟩ | ⟨b,off,sp,cap,h1,h2,h3,h4⟩
 ·injection h1 with h1 h2 h3;subst h1 h3;simp [bQ]
 ·injection h1 with h1 h2' h3';subst h1 h3';refine .inr ⟨b,off,sp,_,rfl,by rw [List.length_take];omega,h3,λhn=>?_⟩;have hn':l≠[]:=by rintro rfl;simp at hn
  refine⟨(h4 hn').1,(h4 hn').2.1,λi x hx=>(h4 hn').2.2 i x ?_⟩;rw [List.getElem?_take] at hx
  split at hx
  ·exact hx
  ·cases hx
theorem bQ.QI {w:World} {ao:Option Addr} {cap n:Nat} {l:List N.Item} (h:bQ w (.slice ao n cap) l):l.length<=cap/\cap<=9223372036854775807:=by
 rcases h with⟨h1,rfl⟩ | ⟨b,off,sp,cap,h1,h2,h3,h4⟩
 ·injection h1 with h1 h2 h3;subst h3;simp
 ·injection h1 with h1 h2' h3';subst h3';unfold maxLen at h3;omega
theorem abz (st:Bool) (v:Value) (l:List N.Item) (w:World) (hv:bQ w v l) :
  Calls Tryz.prog 124 #[.agg #[.bool st,v]] w λe w'=>(∃ v',e = .returned (.agg #[.bool st,v'])/\∀ W,bQ W v l->bQ W v' (l.take 12))/\Below w.heap.size w w':=by
 obtain⟨ao,cap,rfl⟩:=hv.slice;obtain⟨hc1,hc2⟩:=hv.QI;have HT:=bx (λ(W:World) (h:bQ W (.slice ao l.length cap) l)=>h.take 12);have HB:=bx (show ∀ o1 o2,Below w.heap.size w ((w.alloc o1).alloc o2).drew from λo1 o2=>below_drewN (((Below.refl _ _).alloc (Nat.le_refl _) o1).alloc (by simp) o2) 1);clear hv
 rcases Nat.lt_or_ge 12 l.length with hlt | hle
 ·have hm:min (l.length:Int) 12=12:=by omega
  go_enter Tryz.func124,Tryz.ntmps124
  go_wp2
  go_region
  go_wp2
  all_goals first
   | (exfalso;omega;done)
   | (refine bodyPost_ret (v:=.agg #[.bool st, .slice ao 12 cap]) (by simp [results,Tryz.results124,go_sem]) rfl ⟨⟨_,rfl,λW h=>?_⟩,HB.o _ _⟩;have:=HT.o W h;rw [show (l.take 12).length=12 by rw [List.length_take];omega] at this;exact this)
 ·have hm:min (l.length:Int) 12=l.length:=by omega
  go_enter Tryz.func124,Tryz.ntmps124
  go_wp2
  go_region
  go_wp2
  all_goals first
   | (exfalso;omega;done)
   | (refine bodyPost_ret (v:=.agg #[.bool st, .slice ao l.length cap]) (by simp [results,Tryz.results124,go_sem]) rfl ⟨⟨_,rfl,λW h=>?_⟩,HB.o _ _⟩;have:=HT.o W h;rw [List.take_of_length_le hle] at this ⊢;exact this)
def rJ (n set:Int):Bool:=decide (1<=n)&&decide (n<=32)&&decide (0<=set)&&decide (set<2 ^ n.toNat)
theorem SC (m S:Nat) (h1:1<=m) (h2:m<=32):rJ (m:Int) (S:Int)=decide (S<2 ^ m):=by
 unfold rJ;rw [Bool.eq_iff_iff];simp only [Bool.and_eq_true,decide_eq_true_eq,Int.toNat_natCast];have e:((2:Int) ^ m)=((2 ^ m:Nat):Int):=by simp
 rw [e];omega
theorem div_zero (S m:Nat):((S:Int) / 2 ^ m==0)=decide (S<2 ^ m):=by
 have hd:(S:Int) / 2 ^ m=((S / 2 ^ m:Nat):Int):=by simp
 rw [hd,Bool.eq_iff_iff];simp only [beq_iff_eq,decide_eq_true_eq];have h:S / 2 ^ m=0↔S<2 ^ m:=by
  rw [Nat.div_eq_zero_iff]
  constructor
  ·rintro(h | h)
   ·exact absurd h (Nat.pos_iff_ne_zero.1 (Nat.two_pow_pos m))
   ·exact h
  ·exact .inr
 omega
theorem aaB (set n:Int) (w:World) :
  Calls Tryz.prog 221 #[.int .i64 set, .int .i64 n] w λe w'=>e = .returned (.bool (rJ n set))/\w=w':=by
 by_cases h1:1<=n
 ·by_cases h2:n<=32
  ·by_cases h0:0<=set
   ·obtain⟨m,rfl⟩:=Int.eq_ofNat_of_zero_le (show 0<=n by omega);obtain⟨S,rfl⟩:=Int.eq_ofNat_of_zero_le h0;rw [SC m S (by omega) (by omega)];have hz:=div_zero S m
    cases hd:decide (S<2 ^ m) with
    | true =>
     rw [hd] at hz;clear hd
     go_enter Tryz.func221,Tryz.ntmps221
     go_wp2
     go_ret
     exact⟨rfl,rfl⟩
    | false =>
     rw [hd] at hz;clear hd
     go_enter Tryz.func221,Tryz.ntmps221
     go_wp2
     go_ret
     exact⟨rfl,rfl⟩
   ·go_enter Tryz.func221,Tryz.ntmps221
    go_wp2
    go_ret
    exact⟨aI (by unfold rJ;simp;omega),rfl⟩
  ·go_enter Tryz.func221,Tryz.ntmps221
   go_wp2
   go_ret
   exact⟨aI (by unfold rJ;simp;omega),rfl⟩
 ·go_enter Tryz.func221,Tryz.ntmps221
  go_wp2
  go_ret
  exact⟨aI (by unfold rJ;simp;omega),rfl⟩
theorem Oc (set n:Int) (w:World) :
  Calls Tryz.prog 200 #[.int .i64 set, .int .i64 n] w λe w'=>e = .returned (.bool (rJ n set))/\w=w':=by
 by_cases h1:1<=n
 ·by_cases h2:n<=32
  ·by_cases h0:0<=set
   ·obtain⟨m,rfl⟩:=Int.eq_ofNat_of_zero_le (show 0<=n by omega);obtain⟨S,rfl⟩:=Int.eq_ofNat_of_zero_le h0;rw [SC m S (by omega) (by omega)];obtain⟨q,hq⟩:∃ q,2 ^ m=q:=⟨_,rfl⟩
    have HQ:=bx hq;rw [hq];clear hq
    go_enter Tryz.func200,Tryz.ntmps200
    go_wp2_with fail;refine(Pm m _ (by omega)).mono ?_;rintro e w1 ⟨rfl,rfl⟩;rw [HQ.o];go_wp2_with fail;go_ret
    exact⟨rfl,rfl⟩
   ·go_enter Tryz.func200,Tryz.ntmps200
    go_wp2_with fail;go_ret
    exact⟨aI (by unfold rJ;simp;omega),rfl⟩
  ·go_enter Tryz.func200,Tryz.ntmps200
   go_wp2_with fail;go_ret
   exact⟨aI (by unfold rJ;simp;omega),rfl⟩
 ·go_enter Tryz.func200,Tryz.ntmps200
  go_wp2_with fail;go_ret
  exact⟨aI (by unfold rJ;simp;omega),rfl⟩
def mO (n:Int) (x:N.Item):Bool:=rJ n x.1&&decide (0<=x.2)&&decide (x.2<=2)
def pq (n:Int) (l:List N.Item):Bool:=decide (1<=n)&&decide (n<=32)&&decide (l.length<=10)&&l.all (mO n)
theorem aiE {n set:Int} (h:rJ n set=true):setB set=true:=by
 unfold rJ at h;simp only [Bool.and_eq_true,decide_eq_true_eq] at h;obtain⟨⟨⟨h1,h2⟩,h3⟩,h4⟩:=h;have hp:2 ^ n.toNat<=2 ^ 32:=Nat.pow_le_pow_right (by omega) (by omega);rw [show ((2:Int) ^ n.toNat)=((2 ^ n.toNat:Nat):Int) by simp] at h4;unfold setB;simp only [Bool.and_eq_true,decide_eq_true_eq];omega
theorem al1 {n:Int} {l:List N.Item} (h:pq n l=true):fQ l=true:=by
 unfold pq at h;simp only [Bool.and_eq_true,decide_eq_true_eq] at h;unfold fQ;rw [Bool.and_eq_true];refine⟨decide_eq_true h.1.2,?_⟩;rw [List.all_eq_true];intro x hx;have:=List.all_eq_true.1 h.2 x hx;unfold mO at this;unfold lY;simp only [Bool.and_eq_true] at this ⊢;exact⟨⟨aiE this.1.1,this.1.2⟩,this.2⟩
theorem ac2 (x:N.Item) (n:Int) (bn:Nat) (w:World) (hn:w.cell? ⟨bn,0,none⟩=some (.int .i64 n)) (hlt:bn<w.heap.size) :
  Calls Tryz.prog 220 #[.agg #[.int .i64 x.1, .int .i64 x.2], .pointer (some ⟨bn,0,none⟩)] w λe w'=>e = .returned (.bool (!mO n x))/\Below w.heap.size w w':=by
 obtain⟨set,how⟩:=x;unfold mO;have hb:∀ o1 o2,Below w.heap.size w ((w.alloc o1).alloc o2):=λo1 o2=>((Below.refl _ _).alloc (Nat.le_refl _) _).alloc (by simp) _
 go_enter Tryz.func220,Tryz.ntmps220
 rcases Int.lt_or_le how 0 with h | h
 ·go_wp2_with fail;go_ret
  exact⟨aI (by simp;omega),hb _ _⟩
 rcases Int.lt_or_le 2 how with h2 | h2
 ·go_wp2_with fail;go_ret
  exact⟨aI (by simp;omega),hb _ _⟩
 have ho:=World.cell?_alloc_old;go_wp2_with (go_at_call 221;refine(aaB _ _ _).mono ?_;rintro e w1 ⟨rfl,rfl⟩)
 go_ret
 exact⟨aI (by simp [h,h2]),hb _ _⟩
theorem Yo (n:Int) (l:List N.Item) (k:Nat) (x:N.Item) (h:l[k]?=some x) (ha:(l.take k).all (mO n)=true) (hx:mO n x=true):(l.take (k+1)).all (mO n)=true:=by
 rw [List.take_add_one,h,List.all_append,ha];simp [hx]
theorem Nw (n:Int) (l:List N.Item) (k:Nat) (x:N.Item) (h:l[k]?=some x) (hx:mO n x=false):l.all (mO n)=false:=by
 rw [Bool.eq_false_iff];intro ha;rw [List.all_eq_true] at ha;rw [ha x (List.mem_of_getElem? h)] at hx
 cases hx
theorem amf (v:Value) (l:List N.Item) (n:Int) (bn:Nat) (w:World) (hv:bQ w v l) (hz:l.length<=16777216) (hn:w.cell? ⟨bn,0,none⟩=some (.int .i64 n)) (hlt:bn<w.heap.size) :
  Calls Tryz.prog 231 #[v, .func (.func 220) #[] #[.pointer (some ⟨bn,0,none⟩)]] w λe w'=>(∃ i:Int,e = .returned (.int .i64 i)/\decide (0<=i)=!l.all (mO n))/\Below w.heap.size w w':=by
 have oz:=bx hv;obtain⟨ao,cap,rfl⟩:=hv.slice;clear hv;have HN:=bx hn;clear hn
 go_enter Tryz.func231,Tryz.ntmps231
 go_wp2
 go_loopw [8] (λi wr=>∃ k:Nat,k<=l.length/\i = .int .i64 k/\Box ((l.take k).all (mO n)=true)/\Box (Below w.heap.size w wr)) (λi _=>l.length-(intOf i).toNat)
 case atStart=>exact⟨0,by omega,rfl,⟨rfl⟩,⟨Below.refl _ _⟩⟩
 case round =>
  obtain⟨k,hk,rfl,ha,hb⟩:=hrel
  by_cases hlt':k<l.length
  ·obtain⟨x,hx⟩:∃ x,l[k]?=some x:=⟨_,List.getElem?_eq_getElem hlt'⟩
   have HX:=bx hx;obtain⟨g,off,cap2,hg1,hg2,hg3,hg4,hg5⟩:=(oz.o.below hb.o).get (by rintro rfl;simp at hlt');obtain⟨rfl,rfl⟩:ao=some ⟨g,off,none⟩/\cap=cap2:=by injection hg1 with h1 h2 h3;exact⟨h1,h3⟩
   obtain⟨hc1,hc2⟩:=hg5 k x hx;unfold maxLen at hg3;have zU:=bx (show wr.cell? ⟨bn,0,none⟩=some (.int .i64 n) from(hb.o.cell (p:=⟨bn,0,none⟩) hlt).trans HN.o);have HL2:=bx (show bn<wr.heap.size from Nat.lt_of_lt_of_le hlt hb.o.size);clear hx hg1 hg5
   cases hi:mO n x with
   | true =>
    have HT:=bx (Yo n l k x HX.o ha.o hi);have HI:=bx (show (!mO n x)=false by rw [hi];rfl);clear hi;go_wp2_with fail;refine(ac2 x n bn _ zU.o HL2.o).mono ?_;rintro e w1 ⟨rfl,hb1⟩;rw [HI.o];have HB1:=bx (show Below w.heap.size w w1 from bt hb.o hb1);clear hb1;go_wp2_with fail
    go_roundw
    case rel=>exact⟨k+1,hlt',by go_num,HT,HB1⟩
    case measure=>simp [intOf];omega
   | false =>
    have HT:=bx (Nw n l k x HX.o hi);have HI:=bx (show (!mO n x)=true by rw [hi];rfl);clear hi;go_wp2_with fail;refine(ac2 x n bn _ zU.o HL2.o).mono ?_;rintro e w1 ⟨rfl,hb1⟩;rw [HI.o];go_wp2_with fail;go_ret
    exact⟨⟨k,rfl,by rw [HT.o];simp⟩,bt hb.o hb1⟩
  ·have HT:=bx (show l.all (mO n)=true by have:=ha.o;rwa [List.take_of_length_le (by omega)] at this);go_wp2_with fail;go_ret
   exact⟨⟨-1,rfl,by rw [HT.o];rfl⟩,hb.o⟩
theorem alL (v:Value) (l:List N.Item) (n:Int) (bn:Nat) (w:World) (hv:bQ w v l) (hz:l.length<=16777216) (hn:w.cell? ⟨bn,0,none⟩=some (.int .i64 n)) (hlt:bn<w.heap.size) :
  Calls Tryz.prog 222 #[v, .func (.func 220) #[] #[.pointer (some ⟨bn,0,none⟩)]] w λe w'=>e = .returned (.bool (!l.all (mO n)))/\Below w.heap.size w w':=by
 have HI:=bx (amf v l n bn w hv hz hn hlt);clear hv hn
 go_enter Tryz.func222,Tryz.ntmps222
 go_wp2_with fail;refine HI.o.mono ?_;rintro e w1 ⟨⟨i,rfl,hi⟩,hb⟩;have HX:=bx hi;clear hi;go_wp2_with fail;go_ret
 exact⟨aI (by simpa using HX.o),hb⟩
theorem acG (st:Bool) (v:Value) (l:List N.Item) (n:Int) (w:World) (hv:bQ w v l) (hz:l.length<=16777216) :
  Calls Tryz.prog 206 #[.agg #[.bool st,v], .int .i64 n] w λe w'=>e = .returned (.bool (pq n l))/\Below w.heap.size w w':=by
 unfold pq;have hw:Below w.heap.size w ((w.alloc (.cells #[.bool st,v] 182)).alloc (.cells #[.int .i64 n] 3)):=((Below.refl _ _).alloc (Nat.le_refl _) _).alloc (by simp) _;have HW:=bx hw;have HV:=bx (hv.below hw);have HN:=bx (show ((w.alloc (.cells #[.bool st,v] 182)).alloc (.cells #[.int .i64 n] 3)).cell? ⟨w.heap.size+1,0,none⟩=some (.int .i64 n) by
  have:=World.cell?_alloc_mark (w.alloc (.cells #[.bool st,v] 182)) #[.int .i64 n] 3 (0,0) 0;simp at this ⊢)
 obtain⟨ao,cap,rfl⟩:=hv.slice;clear hv hw
 by_cases hn:1<=n/\n<=32
 ·obtain⟨hn1,hn2⟩:=hn
  by_cases hl:l.length<=10
  ·go_enter Tryz.func206,Tryz.ntmps206
   go_wp2_with fail;refine(alL _ l n (w.heap.size+1) _ HV.o hz HN.o (by simp)).mono ?_;rintro e w1 ⟨rfl,hb⟩;have HB:=bx hb;clear hb;go_wp2_with fail;go_ret
   exact⟨aI (by simp [hl,hn1,hn2]),bt HW.o HB.o⟩
  ·have hl':10<l.length:=by omega
   go_enter Tryz.func206,Tryz.ntmps206
   go_wp2_with fail;go_ret
   exact⟨aI (by simp <;> omega),HW.o⟩
 ·have hn':n<1\/(1<=n/\32<n):=by omega
  rcases hn' with h | ⟨h,h'⟩
  all_goals
   go_enter Tryz.func206,Tryz.ntmps206
   go_wp2_with fail;go_ret
   exact⟨aI (by simp <;> omega),HW.o⟩
theorem aa3 (st:Bool) (v:Value) (l:List N.Item) (n:Int) (w:World) (hv:bQ w v l) (hz:l.length<=16777216) :
  Calls Tryz.prog 167 #[.agg #[.bool st,v], .int .i64 n] w λe w'=>e = .returned (.bool (pq n l))/\Below w.heap.size w w':=by
 have oz:=bx hv;obtain⟨ao,cap,rfl⟩:=hv.slice;clear hv;have HB0:=bx (aj.new w 182 #[.bool st, .slice ao l.length cap]);have HW0:=bx (((Below.refl w.heap.size w).alloc (Nat.le_refl _) (.cells #[.bool st, .slice ao l.length cap] 182)))
 go_enter Tryz.func167,Tryz.ntmps167
 go_wp2
 go_loopw [5] (λi wr=>∃ k:Nat,k<=l.length/\i = .int .i64 k/\Box ((l.take k).all (mO n)=true)/\aj wr w.heap.size 182 #[.bool st, .slice ao l.length cap]/\Box (Below w.heap.size w wr)) (λi _=>l.length-(intOf i).toNat)
 case atStart=>exact⟨0,by omega,rfl,⟨rfl⟩,HB0.o,HW0⟩
 case round =>
  obtain⟨k,hk,rfl,ha,hbk,hb⟩:=hrel;have c1:wr.cell? ⟨w.heap.size,1,none⟩=some (.slice ao l.length cap):=(hbk.cell 1).trans rfl;have hl0:=hbk.lt;have bf:=bx hbk;clear hbk
  by_cases hlt:k<l.length
  ·obtain⟨x,hx⟩:∃ x,l[k]?=some x:=⟨_,List.getElem?_eq_getElem hlt⟩
   have HX:=bx hx;obtain⟨g,off,cap2,hg1,hg2,hg3,hg4,hg5⟩:=(oz.o.below hb.o).get (by rintro rfl;simp at hlt);obtain⟨rfl,rfl⟩:ao=some ⟨g,off,none⟩/\cap=cap2:=by injection hg1 with h1 h2 h3;exact⟨h1,h3⟩
   obtain⟨hc1,hc2⟩:=hg5 k x hx;unfold maxLen at hg3;have dB:=bx (λo=>hb.o.alloc hb.o.size o);clear hx hg1 hg5;obtain⟨set,how⟩:=x
   cases hs:rJ n set with
   | true =>
    have HS:=bx hs
    rcases Int.lt_or_le how 0 with h | h
    ·have HT:=bx (show pq n l=false by unfold pq;rw [Nw n l k _ HX.o (by unfold mO;simp;omega)];simp);clear hs;go_wp2_with fail;refine(Oc _ _ _).mono ?_;rintro e w1 ⟨rfl,rfl⟩;rw [HS.o];go_wp2_with fail;go_ret
     exact⟨by rw [HT.o];rfl,dB.o _⟩
    rcases Int.lt_or_le 2 how with h2 | h2
    ·have HT:=bx (show pq n l=false by unfold pq;rw [Nw n l k _ HX.o (by unfold mO;simp;omega)];simp);clear hs;go_wp2_with fail;refine(Oc _ _ _).mono ?_;rintro e w1 ⟨rfl,rfl⟩;rw [HS.o];go_wp2_with fail;go_ret
     exact⟨by rw [HT.o];rfl,dB.o _⟩
    have HT:=bx (Yo n l k _ HX.o ha.o (show mO n (set,how)=true by unfold mO;simp [hs,h,h2]));clear hs;go_wp2_with fail;refine(Oc _ _ _).mono ?_;rintro e w1 ⟨rfl,rfl⟩;rw [HS.o];go_wp2_with fail
    go_roundw
    case rel=>exact⟨k+1,hlt,by go_num,HT,bf.o.alloc _,⟨dB.o _⟩⟩
    case measure=>simp [intOf];omega
   | false =>
    have HS:=bx hs;have HT:=bx (show pq n l=false by unfold pq;rw [Nw n l k _ HX.o (by unfold mO;simp [hs])];simp);clear hs;go_wp2_with fail;refine(Oc _ _ _).mono ?_;rintro e w1 ⟨rfl,rfl⟩;rw [HS.o];go_wp2_with fail;go_ret
    exact⟨by rw [HT.o];rfl,dB.o _⟩
  ·have HT:=bx (show l.all (mO n)=true by have:=ha.o;rwa [List.take_of_length_le (by omega)] at this);go_wp2_with fail
   all_goals go_ret
   all_goals refine⟨aI ?_,hb.o⟩
   all_goals unfold pq
   all_goals rw [HT.o,Bool.eq_iff_iff]
   all_goals (simp <;> omega)
def aB (w:World) (v:Value) (xs:List Int):Prop :=
 (v = .slice none 0 0/\xs=[])\/∃ b off sp cap,v = .slice (some ⟨b,off,sp⟩) xs.length cap/\xs.length<=cap/\cap<=maxLen/\(xs≠[]->sp=none/\b<w.heap.size/\∀ i x,xs[i]?=some x->w.cell? ⟨b,off+i,none⟩=some (.int .i64 x))
theorem aB.below {w w':World} {v:Value} {xs:List Int} (h:aB w v xs) (hb:Below w.heap.size w w'):aB w' v xs:=by
 rcases h with h | ⟨b,off,sp,cap,h1,h2,h3,h4⟩
 ·exact .inl h
 ·exact .inr ⟨b,off,sp,cap,h1,h2,h3,λhn=>⟨(h4 hn).1,Nat.lt_of_lt_of_le (h4 hn).2.1 hb.size,λi x hx=>(hb.cell (p:=⟨b,off+i,none⟩) (h4 hn).2.1).trans ((h4 hn).2.2 i x hx)⟩⟩
theorem aB.get {w:World} {v:Value} {xs:List Int} (h:aB w v xs) (hn:xs≠[]) :
  ∃ b off cap,v = .slice (some ⟨b,off,none⟩) xs.length cap/\xs.length<=cap/\cap<=maxLen/\b<w.heap.size/\∀ i x,xs[i]?=some x->w.cell? ⟨b,off+i,none⟩=some (.int .i64 x):=by
 rcases h with⟨_,h⟩ | ⟨b,off,sp,cap,h1,h2,h3,h4⟩
 ·exact absurd h hn
 ·obtain⟨rfl,h5,h6⟩:=h4 hn;exact⟨b,off,cap,h1,h2,h3,h5,h6⟩
theorem aB.gK {w:World} {base n:Nat} {T:TypeId} {v:Value} {xs:List Int} (h:w.ownsRow base T 1 v n (xs.map (Value.int .i64))) (hn:n=xs.length):aB w v xs:=by
 subst hn;have hl:=h.lt
 rcases h.2 with⟨h1,h2⟩ | ⟨g,cap,cur,rfl,h2,h3,h4,h5,h6,h7⟩
 ·exact .inl ⟨h1,List.eq_nil_of_length_eq_zero h2⟩
 ·refine .inr ⟨g,0,none,cap,rfl,h4,h5,λ_=>⟨rfl,(hl g rfl).2,λi x hx=>?_⟩⟩;have:=h.cells (g:=g) rfl i (.int .i64 x) (by rw [List.getElem?_map,hx];rfl);rw [show (⟨g,0+i,none⟩:Addr)=(⟨g,0,none⟩:Addr).add i by unfold Addr.add;by_cases h0:i=0 <;> simp [h0]];exact this
theorem aB.nil {w:World}:aB w (.slice none 0 0) []:=.inl ⟨rfl,rfl⟩
theorem aB.slice {w:World} {v:Value} {xs:List Int} (h:aB w v xs):∃ a cap,v = .slice a xs.length cap:=by
 rcases h with⟨rfl,rfl⟩ | ⟨b,off,sp,cap,rfl,_⟩
 ·exact⟨_,_,rfl⟩
 ·exact⟨_,_,rfl⟩
end
namespace N
theorem drop_at (l:List Item) (i:Nat) (h:i<l.length):l.drop i=(l.getD i (0,0))::l.drop (i+1):=by
 rw [List.drop_eq_getElem_cons h];simp [List.getD,List.getElem?_eq_getElem h]
theorem ajN (l:List Item) (n:Nat) (h:n % 2=1):clo l n=2 ^ n:=by unfold clo;rw [if_pos h]
theorem Yc (l:List Item) (n:Nat) (h:l.length<=n / 2):clo l n=2 ^ n:=by
 unfold clo
 split
 ·rfl
 ·rw [List.drop_eq_nil_of_le h];rfl
theorem adX (l:List Item) (n:Nat) (h:dn l (n / 2)=0):clo l n=2 ^ n:=by
 by_cases hl:n / 2<l.length
 ·unfold clo
  split
  ·rfl
  ·rw [drop_at l _ hl];unfold G8;unfold dn at h;rw [if_pos h]
 ·exact Yc l n (by omega)
theorem ahQ (l:List Item) (n:Nat) (h0:n % 2=0) (hl:n / 2<l.length) (h:dn l (n / 2)≠0):clo l n=2 ^ n ||| clo l (n+2):=by
 unfold clo;rw [if_neg (by omega),if_neg (by omega),drop_at l _ hl,show (n+2) / 2=n / 2+1 by omega];unfold dn at h;rw [G8,if_neg h]
end N
namespace D
abbrev Side:=Bool×List N.Item
abbrev Sets:=List Nat
def Aa (rs:List Side) (i:Nat):Side:=rs.getD i (false,[])
def cls (n k:Nat):Int:=if k=n then -1 else k
def MC (rs:List Side) (S:Sets) (c:Int) (i:Nat):Nat:=N.step (Aa rs i).2 (Aa rs i).1 (S.getD i 0) c
def qV (rs:List Side) (S:Sets) (c:Int):Sets:=(List.range rs.length).map (MC rs S c)
def firstAt (rs:List Side) (i:Nat):Nat:=N.clo (Aa rs i).2 0
def ru (rs:List Side):Sets:=(List.range rs.length).map (firstAt rs)
def NK (rs:List Side) (S:Sets) (i:Nat):Bool:=N.TM (Aa rs i).2 (S.getD i 0)
def nO (rs:List Side) (S:Sets):Nat->Nat
 | 0=>0
 | k+1=>if NK rs S k=true then nO rs S k ||| 2 ^ k else nO rs S k
def place (t:List Sets) (s:Sets):Nat:=t.idxOf s
def add (t:List Sets) (s:Sets):List Sets:=if s∈t then t else t++[s]
def row (rs:List Side) (n:Nat) (S:Sets) (t:List Sets):Nat->List Nat×List Sets
 | 0=>([],t)
 | k+1=>((row rs n S t k).1++[place (row rs n S t k).2 (qV rs S (cls n k))],add (row rs n S t k).2 (qV rs S (cls n k)))
structure um where
 todo:List Sets
 next:List (List Nat)
 fits:List Nat
def um.go (rs:List Side) (n:Nat) (b:um):um :=
 match b.todo[b.next.length]? with
 | none=>b
 | some S=>⟨(row rs n S b.todo (n+1)).2,b.next++[(row rs n S b.todo (n+1)).1],b.fits++[nO rs S rs.length]⟩
def build (rs:List Side) (n:Nat):Nat->um
 | 0=>⟨[ru rs],[],[]⟩
 | k+1=>(build rs n k).go rs n
def zZ (rs:List Side) (n:Nat):Bool:=decide ((build rs n 300).todo.length<=300)
theorem acD (rs:List Side) (S:Sets) (c:Int):(qV rs S c).length=rs.length:=by simp [qV]
theorem aiu (rs:List Side):(ru rs).length=rs.length:=by simp [ru]
theorem akq (rs:List Side) (S:Sets) (c:Int) (i:Nat) (h:i<rs.length):(qV rs S c)[i]?=some (MC rs S c i):=by
 unfold qV;rw [List.getElem?_map,List.getElem?_range h];rfl
theorem aht {rs:List Side} {i:Nat} {r:Side} (h:rs[i]?=some r):Aa rs i=r:=by unfold Aa;rw [List.getD,h];rfl
theorem Uz (rs:List Side) (S:Sets):∀ k,nO rs S k<2 ^ k
 | 0=>by unfold nO;decide
 | k+1=>by
  have ih:=Uz rs S k;have h2:2 ^ k<2 ^ (k+1):=Nat.pow_lt_pow_right (by omega) (by omega);unfold nO
  split
  ·exact Nat.or_lt_two_pow (by omega) h2
  ·omega
theorem adW (rs:List Side) (S:Sets) (k:Nat):nO rs S k+2 ^ k=nO rs S k ||| 2 ^ k:=by
 have:=Nat.two_pow_add_eq_or_of_lt (Uz rs S k) 1;rw [Nat.mul_one] at this;rw [Nat.add_comm,this,Nat.or_comm]
theorem acK {t:List Sets} {s:Sets} (h:s∈t):place t s<t.length:=List.idxOf_lt_length_of_mem h
theorem VF {t:List Sets} {s:Sets} (h:s∉t):place t s=t.length:=List.idxOf_eq_length h
theorem agu (t:List Sets) (s:Sets):place t s<=t.length:=by
 by_cases h:s∈t
 ·exact Nat.le_of_lt (acK h)
 ·rw [VF h];exact Nat.le_refl _
theorem YC (t:List Sets) (s:Sets):t <+: add t s:=by
 unfold add;split
 ·exact List.prefix_refl _
 ·exact List.prefix_append _ _
theorem anl {p:Sets->Prop} {t:List Sets} {s:Sets} (h:∀ x∈t,p x) (hs:p s):∀ x∈add t s,p x:=by
 unfold add;split
 ·exact h
 ·intro x hx
  rcases List.mem_append.1 hx with hx | hx
  ·exact h x hx
  ·rw [List.mem_singleton] at hx;subst hx;exact hs
theorem acf {α:Type} {a b:List α} (h:a <+: b) {i:Nat} {x:α} (hx:a[i]?=some x):b[i]?=some x:=by
 obtain⟨c,rfl⟩:=h;rw [List.getElem?_append_left (List.getElem?_eq_some_iff.1 hx).1];exact hx
section
variable (rs:List Side) (n:Nat) (S:Sets) (t:List Sets)
theorem KF (k:Nat):row rs n S t (k+1)=((row rs n S t k).1++[place (row rs n S t k).2 (qV rs S (cls n k))],add (row rs n S t k).2 (qV rs S (cls n k))):=rfl
theorem abR:∀ k,(row rs n S t k).1.length=k
 | 0=>rfl
 | k+1=>by rw [KF,List.length_append,abR k];rfl
theorem JO:∀ k,t <+: (row rs n S t k).2
 | 0=>List.prefix_refl _
 | k+1=>(JO k).trans (by rw [KF];exact YC _ _)
theorem X3 (j:Nat):∀ k,(row rs n S t j).2 <+: (row rs n S t (j+k)).2
 | 0=>List.prefix_refl _
 | k+1=>(X3 j k).trans (by rw [<- Nat.add_assoc,KF];exact YC _ _)
theorem aeC {j k:Nat} (h:j<=k):(row rs n S t j).2.length<=(row rs n S t k).2.length:=by
 obtain⟨d,rfl⟩:=Nat.exists_eq_add_of_le h;exact(X3 rs n S t j d).length_le
theorem QG {p:Sets->Prop} (ht:∀ x∈t,p x) (hs:∀ c,p (qV rs S c)):∀ k,∀ x∈(row rs n S t k).2,p x
 | 0=>ht
 | k+1=>by rw [KF];exact anl (QG ht hs k) (hs _)
end
section
variable (rs:List Side) (n:Nat)
theorem ac6 {b:um} (h:b.todo.length<=b.next.length):b.go rs n=b:=by
 unfold um.go;rw [List.getElem?_eq_none h]
theorem Xf {b:um} {S:Sets} (h:b.todo[b.next.length]?=some S):b.go rs n=⟨(row rs n S b.todo (n+1)).2,b.next++[(row rs n S b.todo (n+1)).1],b.fits++[nO rs S rs.length]⟩:=by
 unfold um.go;rw [h]
theorem aej (b:um):b.todo <+: (b.go rs n).todo:=by
 unfold um.go
 split
 ·exact List.prefix_refl _
 ·exact JO _ _ _ _ _
theorem ac7 (j:Nat):∀ k,(build rs n j).todo.length<=(build rs n (j+k)).todo.length
 | 0=>Nat.le_refl _
 | k+1=>Nat.le_trans (ac7 j k) (by rw [<- Nat.add_assoc];exact(aej rs n _).length_le)
theorem aji {j k:Nat} (h:j<=k):(build rs n j).todo.length<=(build rs n k).todo.length:=by
 obtain⟨d,rfl⟩:=Nat.exists_eq_add_of_le h;exact ac7 rs n j d
theorem abE:∀ k,(build rs n k).next.length=(build rs n k).fits.length/\(build rs n k).next.length<=(build rs n k).todo.length/\((build rs n k).next.length=k\/((build rs n k).next.length<k/\(build rs n k).next.length=(build rs n k).todo.length))
 | 0=>⟨rfl,Nat.zero_le _, .inl rfl⟩
 | k+1=>by
  obtain⟨h1,h2,h3⟩:=abE k;show _=_/\_/\_
  rcases Nat.lt_or_ge (build rs n k).next.length (build rs n k).todo.length with h | h
  ·obtain⟨S,hS⟩:∃ S,(build rs n k).todo[(build rs n k).next.length]?=some S:=⟨_,List.getElem?_eq_getElem h⟩
   have e:build rs n (k+1)=_:=Xf rs n hS;rw [e];simp only [List.length_append,List.length_cons,List.length_nil];have hp:=(JO rs n S (build rs n k).todo (n+1)).length_le;refine⟨by omega,by omega, .inl ?_⟩
   rcases h3 with h3 | h3
   ·omega
   ·omega
  ·have e:build rs n (k+1)=_:=ac6 rs n h;rw [e];exact⟨h1,h2, .inr ⟨by rcases h3 with h3 | h3 <;> omega,by omega⟩⟩
theorem X0 {k:Nat} (h:(build rs n k).todo.length<=(build rs n k).next.length):∀ m,build rs n (k+m)=build rs n k
 | 0=>rfl
 | m+1=>by
  have ih:=X0 h m;show (build rs n (k+m)).go rs n=_
  rw [ih];exact ac6 rs n h
theorem Qo {k:Nat} (hk:k<=300) (h:(build rs n k).todo.length<=(build rs n k).next.length):build rs n 300=build rs n k:=by
 obtain⟨d,hd⟩:=Nat.exists_eq_add_of_le hk;rw [hd];exact X0 rs n h d
theorem Zx {k:Nat} (hk:k<=300) (h:(build rs n k).todo.length<=(build rs n k).next.length) (hl:(build rs n k).todo.length<=300):zZ rs n=true:=by
 unfold zZ;rw [Qo rs n hk h];exact decide_eq_true hl
theorem akt {k:Nat} (hk:k<=300) (h:300<(build rs n k).todo.length):zZ rs n=false:=by
 unfold zZ;have:=aji rs n hk;exact decide_eq_false (by omega)
theorem ada {p:Sets->Prop} (h0:p (ru rs)) (hs:∀ S c,p S->p (qV rs S c)):∀ k,∀ x∈(build rs n k).todo,p x
 | 0=>by intro x hx;simp only [build,List.mem_singleton] at hx;subst hx;exact h0
 | k+1=>by
  have ih:=ada h0 hs k;show ∀ x∈((build rs n k).go rs n).todo,p x
  unfold um.go
  split
  ·exact ih
  ·rename_i S hS
   exact QG rs n S _ ih (λc=>hs S c (ih S (List.mem_of_getElem? hS))) _
end
def Good (rs:List Side) (S:Sets):Prop:=S.length=rs.length/\∀ i,i<rs.length->S.getD i 0<2 ^ (2*(Aa rs i).2.length+1)
theorem aaG (rs:List Side) (f:Nat->Nat) (h:∀ i,i<rs.length->f i<2 ^ (2*(Aa rs i).2.length+1)):Good rs ((List.range rs.length).map f):=by
 refine⟨by simp,λi hi=>?_⟩;rw [List.getD,List.getElem?_map,List.getElem?_range hi];exact h i hi
theorem good_step (rs:List Side) (S:Sets) (c:Int):Good rs (qV rs S c):=aaG rs _ λ_ _=>N.ajL _ _ _ _
theorem aeE (rs:List Side):Good rs (ru rs):=aaG rs _ λ_ _=>N.Wu _ 0 (by omega)
theorem ae7 (rs:List Side) (n k:Nat):∀ x∈(build rs n k).todo,Good rs x:=ada rs n (aeE rs) (λS c _=>good_step rs S c) k
end D
section
open Go.RowKit
abbrev D.Rule:=D.Side×D.Side×Bool
def VX (x:D.Rule) (vl vr:Value):Value:=.agg #[.bool x.1.1,vl, .bool x.2.1.1,vr, .bool x.2.2]
def JF (w:World) (b o:Nat) (x:D.Rule):Prop:=∃ vl vr,w.cell? ⟨b,o,none⟩=some (.bool x.1.1)/\w.cell? ⟨b,o+1,none⟩=some vl/\w.cell? ⟨b,o+2,none⟩=some (.bool x.2.1.1)/\w.cell? ⟨b,o+3,none⟩=some vr/\w.cell? ⟨b,o+4,none⟩=some (.bool x.2.2)/\bQ w vl x.1.2/\bQ w vr x.2.1.2
theorem JF.below {w w':World} {b o:Nat} {x:D.Rule} (h:JF w b o x) (hlt:b<w.heap.size) (hb:Below w.heap.size w w'):JF w' b o x:=by
 obtain⟨vl,vr,h0,h1,h2,h3,h4,hl,hr⟩:=h;have key:=λj=>hb.cell (p:=⟨b,j,none⟩) hlt
 exact⟨vl,vr,(key o).trans h0,(key (o+1)).trans h1,(key (o+2)).trans h2,(key (o+3)).trans h3,(key (o+4)).trans h4,hl.below hb,hr.below hb⟩
def fA (w:World) (v:Value) (l:List D.Rule):Prop :=
 (v = .slice none 0 0/\l=[])\/∃ b off sp cap,v = .slice (some ⟨b,off,sp⟩) l.length cap/\l.length<=cap/\cap<=maxLen/\(l≠[]->sp=none/\b<w.heap.size/\∀ i x,l[i]?=some x->JF w b (off+i*5) x)
theorem fA.below {w w':World} {v:Value} {l:List D.Rule} (h:fA w v l) (hb:Below w.heap.size w w'):fA w' v l:=by
 rcases h with h | ⟨b,off,sp,cap,h1,h2,h3,h4⟩
 ·exact .inl h
 ·exact .inr ⟨b,off,sp,cap,h1,h2,h3,λhn=>⟨(h4 hn).1,Nat.lt_of_lt_of_le (h4 hn).2.1 hb.size,λi x hx=>((h4 hn).2.2 i x hx).below (h4 hn).2.1 hb⟩⟩
theorem fA.get {w:World} {v:Value} {l:List D.Rule} (h:fA w v l) (hn:l≠[]) :
  ∃ b off cap,v = .slice (some ⟨b,off,none⟩) l.length cap/\l.length<=cap/\cap<=maxLen/\b<w.heap.size/\∀ i x,l[i]?=some x->JF w b (off+i*5) x:=by
 rcases h with⟨_,h⟩ | ⟨b,off,sp,cap,h1,h2,h3,h4⟩
 ·exact absurd h hn
 ·obtain⟨rfl,h5,h6⟩:=h4 hn;exact⟨b,off,cap,h1,h2,h3,h5,h6⟩
theorem fA.slice {w:World} {v:Value} {l:List D.Rule} (h:fA w v l):∃ a cap,v = .slice a l.length cap:=by
 rcases h with⟨rfl,rfl⟩ | ⟨b,off,sp,cap,rfl,_⟩
 ·exact⟨_,_,rfl⟩
 ·exact⟨_,_,rfl⟩
theorem fA.QI {w:World} {ao:Option Addr} {cap n:Nat} {l:List D.Rule} (h:fA w (.slice ao n cap) l):l.length<=cap/\cap<=9223372036854775807:=by
 rcases h with⟨h1,rfl⟩ | ⟨b,off,sp,cap,h1,h2,h3,h4⟩
 ·injection h1 with h1 h2 h3;subst h3;simp
 ·injection h1 with h1 h2' h3';subst h3';unfold maxLen at h3;omega
theorem fA.take {w:World} {ao:Option Addr} {cap cap':Nat} {l:List D.Rule} (h:fA w (.slice ao l.length cap) l) (n:Nat) (hc:(l.take n).length<=cap') (hc':cap'<=cap):fA w (.slice ao (l.take n).length cap') (l.take n):=by
 rcases h with⟨h1,rfl⟩ | ⟨b,off,sp,cap,h1,h2,h3,h4⟩
 ·injection h1 with h1 h2 h3;subst h1 h3;obtain rfl:cap'=0:=by omega
  simp [fA]
 ·injection h1 with h1 h2' h3';subst h1 h3';refine .inr ⟨b,off,sp,_,rfl,hc,Nat.le_trans hc' h3,λhn=>?_⟩;have hn':l≠[]:=by rintro rfl;simp at hn
  refine⟨(h4 hn').1,(h4 hn').2.1,λi x hx=>(h4 hn').2.2 i x ?_⟩;rw [List.getElem?_take] at hx
  split at hx
  ·exact hx
  ·cases hx
def nX (x:D.Rule):Prop:=x.1.2.length<=16777216/\x.2.1.2.length<=16777216
def kX (n:Int) (x:D.Rule):Bool:=pq n x.1.2&&pq n x.2.1.2&&!x.2.1.1
def pX (n:Int) (l:List D.Rule):Bool:=decide (1<=n)&&decide (n<=32)&&decide (l.length<=40)&&l.all (kX n)
theorem afv {n:Int} {x:D.Rule} (h:kX n x=true):pq n x.1.2=true:=by unfold kX at h;simp only [Bool.and_eq_true] at h;exact h.1.1
theorem alX (x:D.Rule) (vl vr:Value) (n:Int) (bn:Nat) (w:World) (hf:nX x) (hl:bQ w vl x.1.2) (hr:bQ w vr x.2.1.2) (hn:w.cell? ⟨bn,0,none⟩=some (.int .i64 n)) (hlt:bn<w.heap.size) :
  Calls Tryz.prog 205 #[VX x vl vr, .pointer (some ⟨bn,0,none⟩)] w λe w'=>e = .returned (.bool (!kX n x))/\Below w.heap.size w w':=by
 obtain⟨⟨rE,il⟩,⟨str,ir⟩,br⟩:=x;unfold VX kX;obtain⟨hz1,hz2⟩:=hf;have hb0:Below w.heap.size w (w.alloc (.cells #[.bool rE,vl, .bool str,vr, .bool br] 184)):=(Below.refl _ _).alloc (Nat.le_refl _) _;have HB0:=bx hb0;have oG:=bx (acG rE vl il n _ (hl.below hb0) hz1);have HP2:=bx (λw' (hb:Below w.heap.size w w')=>acG str vr ir n w' (hr.below hb) hz2);have HN:=bx (λw' (hb:Below w.heap.size w w')=>(hb.cell (p:=⟨bn,0,none⟩) hlt).trans hn);have bf:=bx (aj.new w 184 #[.bool rE,vl, .bool str,vr, .bool br]);have hn0:=HN.o _ hb0;clear hl hr hn hb0;have hlt1:bn<w.heap.size+1:=by omega
 cases h1:pq n il with
 | false =>
  have H1:=bx h1;clear h1
  go_enter Tryz.func205,Tryz.ntmps205
  go_wp2_with fail;refine oG.o.mono ?_;rintro e w1 ⟨rfl,hb1⟩;rw [H1.o];have HB1:=bx (bt HB0.o hb1);clear hb1 hn0;go_wp2_with fail;go_ret
  exact⟨rfl,HB1.o⟩
 | true =>
  have H1:=bx h1;clear h1
  go_enter Tryz.func205,Tryz.ntmps205
  go_wp2_with fail;refine oG.o.mono ?_;rintro e w1 ⟨rfl,hb1⟩;rw [H1.o];have HB1:=bx (bt HB0.o hb1);have dS:=bf.o.below hb1 bf.o.lt;have c2:w1.cell? ⟨w.heap.size,2,none⟩=some (.bool str):=(dS.cell 2).trans rfl;have c3:w1.cell? ⟨w.heap.size,3,none⟩=some vr:=(dS.cell 3).trans rfl;have hn1:=HN.o _ HB1.o;have l1:=dS.lt;have hs1:=HB1.o.size;have OB:bn<w1.heap.size:=by omega
  clear hb1 hn0 dS
  cases h2:pq n ir with
  | false =>
   have H2:=bx h2;clear h2;go_wp2_with fail;refine(HP2.o _ HB1.o).mono ?_;rintro e w2 ⟨rfl,hb2⟩;rw [H2.o];have HB2:=bx (bt HB1.o hb2);clear hb2 hn1 c2 c3;go_wp2_with fail;go_ret
   exact⟨aI (by simp [H2.o]),HB2.o⟩
  | true =>
   have H2:=bx h2;clear h2;go_wp2_with fail;refine(HP2.o _ HB1.o).mono ?_;rintro e w2 ⟨rfl,hb2⟩;rw [H2.o];have HB2:=bx (bt HB1.o hb2);have c2':w2.cell? ⟨w.heap.size,2,none⟩=some (.bool str):=(hb2.cell (p:=⟨w.heap.size,2,none⟩) l1).trans c2;have l2:w.heap.size<w2.heap.size:=Nat.lt_of_lt_of_le l1 hb2.size;clear hb2 hn1 c2 c3;go_wp2_with fail;go_ret
   exact⟨aI (by simp [H2.o]),HB2.o⟩
theorem YE (n:Int) (l:List D.Rule) (k:Nat) (x:D.Rule) (h:l[k]?=some x) (ha:(l.take k).all (kX n)=true) (hx:kX n x=true):(l.take (k+1)).all (kX n)=true:=by
 rw [List.take_add_one,h,List.all_append,ha];simp [hx]
theorem aa6 (n:Int) (l:List D.Rule) (k:Nat) (x:D.Rule) (h:l[k]?=some x) (hx:kX n x=false):l.all (kX n)=false:=by
 rw [Bool.eq_false_iff];intro ha;rw [List.all_eq_true] at ha;rw [ha x (List.mem_of_getElem? h)] at hx
 cases hx
theorem akL (v:Value) (l:List D.Rule) (n:Int) (bn:Nat) (w:World) (hf:∀ x∈l,nX x) (hv:fA w v l) (hz:l.length<=16777216) (hn:w.cell? ⟨bn,0,none⟩=some (.int .i64 n)) (hlt:bn<w.heap.size) :
  Calls Tryz.prog 223 #[v, .func (.func 205) #[] #[.pointer (some ⟨bn,0,none⟩)]] w λe w'=>(∃ i:Int,e = .returned (.int .i64 i)/\decide (0<=i)=!l.all (kX n))/\Below w.heap.size w w':=by
 have oz:=bx hv;have HF:=bx hf;obtain⟨ao,cap,rfl⟩:=hv.slice;clear hv hf;have HN:=bx hn;clear hn
 go_enter Tryz.func223,Tryz.ntmps223
 go_wp2
 go_loopw [8] (λi wr=>∃ k:Nat,k<=l.length/\i = .int .i64 k/\Box ((l.take k).all (kX n)=true)/\Box (Below w.heap.size w wr)) (λi _=>l.length-(intOf i).toNat)
 case atStart=>exact⟨0,by omega,rfl,⟨rfl⟩,⟨Below.refl _ _⟩⟩
 case round =>
  obtain⟨k,hk,rfl,ha,hb⟩:=hrel
  by_cases hlt':k<l.length
  ·obtain⟨x,hx⟩:∃ x,l[k]?=some x:=⟨_,List.getElem?_eq_getElem hlt'⟩
   have HX:=bx hx;have AA:=bx (HF.o x (List.mem_of_getElem? hx));obtain⟨g,off,cap2,hg1,hg2,hg3,hg4,hg5⟩:=(oz.o.below hb.o).get (by rintro rfl;simp at hlt');obtain⟨rfl,rfl⟩:ao=some ⟨g,off,none⟩/\cap=cap2:=by injection hg1 with h1 h2 h3;exact⟨h1,h3⟩
   obtain⟨vl,vr,hc0,hc1,hc2,hc3,hc4,hil,hir⟩:=hg5 k x hx;have F8:=bx hil;have HIR:=bx hir;unfold maxLen at hg3;have zU:=bx (show wr.cell? ⟨bn,0,none⟩=some (.int .i64 n) from(hb.o.cell (p:=⟨bn,0,none⟩) hlt).trans HN.o);have HL2:=bx (show bn<wr.heap.size from Nat.lt_of_lt_of_le hlt hb.o.size);have HC:=bx (alX x vl vr n bn wr AA.o F8.o HIR.o zU.o HL2.o);clear hx hg1 hg5 hil hir;unfold VX at HC
   cases hi:kX n x with
   | true =>
    have HT:=bx (YE n l k x HX.o ha.o hi);have HI:=bx (show (!kX n x)=false by rw [hi];rfl);clear hi;go_wp2_with fail;refine HC.o.mono ?_;rintro e w1 ⟨rfl,hb1⟩;rw [HI.o];have HB1:=bx (show Below w.heap.size w w1 from bt hb.o hb1);clear hb1;go_wp2_with fail
    go_roundw
    case rel=>exact⟨k+1,hlt',by go_num,HT,HB1⟩
    case measure=>simp [intOf];omega
   | false =>
    have HT:=bx (aa6 n l k x HX.o hi);have HI:=bx (show (!kX n x)=true by rw [hi];rfl);clear hi;go_wp2_with fail;refine HC.o.mono ?_;rintro e w1 ⟨rfl,hb1⟩;rw [HI.o];go_wp2_with fail;go_ret
    exact⟨⟨k,rfl,by rw [HT.o];simp⟩,bt hb.o hb1⟩
  ·have HT:=bx (show l.all (kX n)=true by have:=ha.o;rwa [List.take_of_length_le (by omega)] at this);go_wp2_with fail;go_ret
   exact⟨⟨-1,rfl,by rw [HT.o];rfl⟩,hb.o⟩
theorem agV (v:Value) (l:List D.Rule) (n:Int) (bn:Nat) (w:World) (hf:∀ x∈l,nX x) (hv:fA w v l) (hz:l.length<=16777216) (hn:w.cell? ⟨bn,0,none⟩=some (.int .i64 n)) (hlt:bn<w.heap.size) :
  Calls Tryz.prog 207 #[v, .func (.func 205) #[] #[.pointer (some ⟨bn,0,none⟩)]] w λe w'=>e = .returned (.bool (!l.all (kX n)))/\Below w.heap.size w w':=by
 have HI:=bx (akL v l n bn w hf hv hz hn hlt);clear hf hv hn
 go_enter Tryz.func207,Tryz.ntmps207
 go_wp2_with fail;refine HI.o.mono ?_;rintro e w1 ⟨⟨i,rfl,hi⟩,hb⟩;have HX:=bx hi;clear hi;go_wp2_with fail;go_ret
 exact⟨aI (by simpa using HX.o),hb⟩
theorem ah8 (v:Value) (l:List D.Rule) (n:Int) (w:World) (hf:∀ x∈l,nX x) (hv:fA w v l) (hz:l.length<=16777216) :
  Calls Tryz.prog 174 #[.int .i64 n,v] w λe w'=>e = .returned (.bool (pX n l))/\Below w.heap.size w w':=by
 unfold pX;have hw:Below w.heap.size w (w.alloc (.cells #[.int .i64 n] 3)):=(Below.refl _ _).alloc (Nat.le_refl _) _;have HW:=bx hw;have HC:=bx (λhc=>agV v l n w.heap.size _ hf (hv.below hw) hz hc (by simp));have HN:=bx ((aj.new w 3 #[.int .i64 n]).cell 0);obtain⟨ao,cap,rfl⟩:=hv.slice;clear hv hw hf
 by_cases hn:1<=n/\n<=32
 ·obtain⟨hn1,hn2⟩:=hn
  by_cases hl:l.length<=40
  ·go_enter Tryz.func174,Tryz.ntmps174
   go_wp2_with fail;refine(HC.o (HN.o.trans rfl)).mono ?_;rintro e w1 ⟨rfl,hb⟩;have HB:=bx hb;clear hb;go_wp2_with fail;go_ret
   exact⟨aI (by simp [hl,hn1,hn2]),bt HW.o HB.o⟩
  ·have hl':40<l.length:=by omega
   go_enter Tryz.func174,Tryz.ntmps174
   go_wp2_with fail;go_ret
   exact⟨aI (by simp <;> omega),HW.o⟩
 ·have hn':n<1\/(1<=n/\32<n):=by omega
  rcases hn' with h | ⟨h,h'⟩
  all_goals
   go_enter Tryz.func174,Tryz.ntmps174
   go_wp2_with fail;go_ret
   exact⟨aI (by simp <;> omega),HW.o⟩
theorem aaD (v:Value) (l:List D.Rule) (n:Int) (w:World) (hf:∀ x∈l,nX x) (hv:fA w v l) (hz:l.length<=16777216) :
  Calls Tryz.prog 134 #[v, .int .i64 n] w λe w'=>e = .returned (.bool (pX n l))/\Below w.heap.size w w':=by
 have HA:=bx (ah8 v l n w hf hv hz);clear hv hf
 go_enter Tryz.func134,Tryz.ntmps134
 go_wp2_with fail;refine HA.o.mono ?_;rintro e w1 ⟨rfl,hb⟩;go_wp2_with fail;go_ret
 exact⟨rfl,hb⟩
structure Turns (own:Nat->Prop) (W W':World):Prop where
 os:W'.os=W.os
 tape:W'.tape=W.tape
 output:W'.output=W.output
 size:W.heap.size<=W'.heap.size
 block:∀ k,k<W.heap.size->¬ own k->W'.heap[k]?=W.heap[k]?
structure Holds (own:Nat->Prop) (W W':World):Prop where
 size:W.heap.size<=W'.heap.size
 block:∀ k,own k->W'.heap[k]?=W.heap[k]?
section
variable {own own':Nat->Prop} {A B C:World}
theorem Turns.refl (own:Nat->Prop) (A:World):Turns own A A:=⟨rfl,rfl,rfl,Nat.le_refl _,λ_ _ _=>rfl⟩
theorem Turns.trans (h:Turns own A B) (k:Turns own B C):Turns own A C :=
 ⟨k.os.trans h.os,k.tape.trans h.tape,k.output.trans h.output,Nat.le_trans h.size k.size,λi hi ho=>(k.block i (Nat.lt_of_lt_of_le hi h.size) ho).trans (h.block i hi ho)⟩
theorem Turns.mono (h:Turns own A B) (hm:∀ k,own k->own' k):Turns own' A B:=⟨h.os,h.tape,h.output,h.size,λi hi ho=>h.block i hi (λk=>ho (hm i k))⟩
theorem Turns.of_below (h:Below A.heap.size A B):Turns own A B:=⟨h.os,h.tape,h.output,h.size,λi hi _=>h.block i hi⟩
theorem Turns.ac1 {b:Nat} (h:A.grownBy B (some b)) (hb:own b):Turns own A B :=
 ⟨h.os,h.tape,h.output,h.size,λi hi ho=>h.block i hi (λe=>ho (by cases e;exact hb))⟩
theorem Turns.drew (A:World):Turns own A A.drew:=⟨rfl,rfl,rfl,Nat.le_refl _,λ_ _ _=>rfl⟩
theorem Turns.alloc (A:World) (o:Obj):Turns own A (A.alloc o):=.of_below ((Below.refl _ _).alloc (Nat.le_refl _) o)
theorem Turns.setCell (A:World) {p:Addr} (hp:own p.block) (u:Value):Turns own A (A.setCell p u) :=
 ⟨rfl,rfl,rfl,by simp [World.setCell],λk _ ho=>Below.heap_setCell _ _ _ _ (λe=>ho (by rw [e];exact hp))⟩
theorem Turns.putObj (A:World) {l:Nat} (hl:own l) (o:Obj):Turns own A (A.putObj l o) :=
 ⟨rfl,rfl,rfl,by simp,λk _ ho=>World.putObj_heap_other (λe=>ho (by rw [e];exact hl))⟩
theorem Turns.below (h:Turns own A B) {n:Nat} (hn:n<=A.heap.size) (ho:∀ k,own k->n<=k):Below n A B :=
 ⟨h.os,h.tape,h.output,h.size,λk hk=>h.block k (by omega) (λe=>by have:=ho k e;omega)⟩
theorem Turns.blk (h:Turns own A B) {g:Nat} {t:TypeId} {cs:Array Value} (hb:aj A g t cs) (hg:¬ own g):aj B g t cs:=(h.block g hb.lt hg).trans hb
theorem Turns.row (h:Turns own A B) {base:Nat} {e:TypeId} {size:Nat} {v:Value} {n:Nat} {xs:List Value} (hr:A.ownsRow base e size v n xs) (hg:∀ k,v.ownBlock=some k->¬ own k):B.ownsRow base e size v n xs:=by
 refine⟨hr.1,?_⟩
 rcases hr.2 with hn | ⟨g,cap,cur,rfl,hb,hgg,rest⟩
 ·exact .inl hn
 ·exact .inr ⟨g,cap,cur,rfl,hb,(h.block g (Array.getElem?_eq_some_iff.1 hgg).1 (hg g rfl)).trans hgg,rest⟩
theorem Holds.refl (own:Nat->Prop) (A:World):Holds own A A:=⟨Nat.le_refl _,λ_ _=>rfl⟩
theorem Holds.mono (h:Holds own A B) (hm:∀ k,own' k->own k):Holds own' A B:=⟨h.size,λi hi=>h.block i (hm i hi)⟩
theorem Holds.xJ (h:Turns own' A B) (hl:∀ k,own k->k<A.heap.size) (hd:∀ k,own k->¬ own' k):Holds own A B:=⟨h.size,λk hk=>h.block k (hl k hk) (hd k hk)⟩
end
def Ph {α:Type} (n:Nat) (P:Program) (gf:Nat) (lb:Array Value) (encs:α->Array Value) (own keep:Nat->Prop) (ok:List α->α->Prop) (S:List α->World->Prop) (l:Nat) (W1:World):Prop :=
 ∀ (J Jx:List α->World->Prop),(∀ pre W W',J pre W->Turns own W W'->J pre W')->(∀ pre W W',Jx pre W->Turns own W W'->Jx pre W') ->
  (∀ pre x W,J pre W->ok pre x->YieldAt Fence.wide (n-1) P l (encs x) W λe W'=>(e = .returned (.bool true)/\J (pre++[x]) W'/\Holds keep W W')\/(e = .returned (.bool false)/\Jx (pre++[x]) W')) ->
  J [] W1->CallsIn Fence.wide n P gf (#[.func (.yield l) #[] #[]]++lb) W1 λe W'=>(∃ v,e = .returned v)/\((∃ xs,S xs W'/\J xs W')\/(∃ pre,Jx pre W'))
def Xq {α:Type} (keep:Nat->Prop) (I:List α->World->Prop) (Ix:Code->List α->World->Prop) (l D:Nat) (xs:List α) (W:World):Exit->Act->World->Prop
 | .normal,_,W'=>Holds (λk=>keep k\/k=l\/k=D) W W'/\I xs W'
 | .ret,_,W'=>Holds (λk=>k=l\/k=D) W W'/\Ix .ret xs W'
 | .exit id,_,W'=>Holds (λk=>k=l\/k=D) W W'/\Ix (.exit id) xs W'
 | .goto t,_,W'=>Holds (λk=>k=l\/k=D) W W'/\Ix (.goto t) xs W'
 | .panic _,_,_=>False
 | .outgrown,_,_=>False
theorem J6 {α:Type} {P:Program} {n:Nat} {g:Operand} {ps:Array Tmp} {assign body:Code} {Q:Exit->Act->World->Prop} {a:Act} {w:World}
  {gf:Nat} {lb:Array Value} (hg:a.eval g = .func (.func gf) #[] lb) (eg:∀ args w,(callFunc gf args).run P w = .ok (.enter gf args) w)
  {encs:α->Array Value} {own keep:Nat->Prop} {ok:List α->α->Prop} {S:List α->World->Prop} (hown:∀ k,own k\/keep k->k<w.heap.size)
  (hit:∀ W1,Turns (λ_=>False) w W1->Ph (n-1) P gf lb encs own keep ok S (w.heap.size+1) W1)
  (hps:∀ x,(encs x).size=ps.size)
  (I:List α->World->Prop) (Ix:Code->List α->World->Prop)
  (hI:∀ pre W W',I pre W->Turns (λk=>own k\/k=w.heap.size+1) W W'->I pre W')
  (hIx:∀ c pre W W',Ix c pre W->Turns (λk=>own k\/k=w.heap.size+1) W W'->Ix c pre W')
  (h0:I [] w) (Ax:α->Act->World->Prop) (hAx:∀ x a1 W W',Ax x a1 W->Turns (λk=>k=w.heap.size+1) W W'->Ax x a1 W')
  (hassign:∀ (x:α) (W:World) (K:Act->World->Prop),w.heap.size+2<=W.heap.size->(∀ a1 W1,Turns (λ_=>False) W W1->Ax x a1 W1->K a1 W1) ->
   assign.wpIn (Fence.wide.inRound (w.heap.size+1)) (n-1-1) P (Exit.then K (λ_ _ _=>False)) { tmps:=(ps.zip (encs x)).foldl (λt (p,v)=>t.setIfInBounds p v) a.tmps,defers:=[] } W)
  (hbody:∀ (pre:List α) (x:α) (a1:Act) (W:World),w.heap.size+2<=W.heap.size->I pre W->ok pre x->Ax x a1 W ->
   body.wpIn (Fence.wide.inRound (w.heap.size+1)) (n-1-1) P (Xq keep I Ix (w.heap.size+1) w.heap.size (pre++[x]) W) a1 W)
  (hdone:∀ (xs:List α) (W:World),w.heap.size+2<=W.heap.size->S xs W->I xs W->W.heap[w.heap.size]?=some (.deferred (some []))->Q .normal { a with defers:={ target:=.collected w.heap.size,args:=#[] }::a.defers } W)
  (hstop:∀ (c:Code) (pre:List α) (W:World),w.heap.size+2<=W.heap.size->Ix c pre W->W.heap[w.heap.size]?=some (.deferred (some []))->c.wpIn Fence.wide n P Q { a with defers:={ target:=.collected w.heap.size,args:=#[] }::a.defers } W)
  (hS:∀ xs W W',S xs W->Turns (λk=>k=w.heap.size+1) W W'->S xs W') :
  (Code.rangeFunc g ps assign body).wpIn Fence.wide n P Q a w:=by
 refine wpIn_rangeFunc ?_;intro fn hfn;obtain⟨rec,hrec⟩:∃ rec:LoopState->Option Code->Loop,rec=λst pe=>{ state:=st,pending:=pe,fn,tmps:=a.tmps,params:=ps,assign,body,defers:=w.heap.size }:=⟨_,rfl⟩
 obtain⟨W1,hW1⟩:∃ W1,(w.alloc (.deferred (some []))).alloc (.loop (rec .ready none))=W1:=⟨_,rfl⟩
 have hL1:W1.heap[w.heap.size+1]?=some (.loop (rec .ready none)):=by
  rw [<- hW1];have:=World.alloc_heap_new (w.alloc (.deferred (some []))) (.loop (rec .ready none));rwa [World.size_alloc] at this
 have hK1:W1.heap[w.heap.size]?=some (.deferred (some [])):=by
  rw [<- hW1];exact(Below.heap_alloc _ _ _ (by simp)).trans (World.alloc_heap_new w _)
 have hT1:∀ o,Turns o w W1:=λo=>by rw [<- hW1];exact(Turns.alloc w _).trans (Turns.alloc _ _)
 have hI1:I [] W1:=hI _ _ _ h0 (hT1 _);refine⟨w.heap.size+1,[{ target:=.collected w.heap.size,args:=#[] }],W1,{ target:=.fn (.func gf) lb,args:=#[.func (.yield (w.heap.size+1)) #[] #[]] },W1,gf,
  #[.func (.yield (w.heap.size+1)) #[] #[]]++lb,W1,?_,?_,?_,?_,λh=>by simp [Fence.wide] at h,?_⟩
 ·rw [<- hW1,hrec];exact run_enterLoop_outer _ _ _ _ _
 ·simp only [resolve,hg];simp [go_sem]
 ·intro f' _;trivial
 ·simp [invoke,go_sem,eg]
 ·have hnl:¬ own (w.heap.size+1):=λh=>by have:=hown _ (.inl h);omega
  have hnd:¬ own w.heap.size:=λh=>by have:=hown _ (.inl h);omega
  refine(hit W1 (hT1 _)
   (λpre W=>I pre W/\W.heap[w.heap.size+1]?=some (.loop (rec .ready none))/\W.heap[w.heap.size]?=some (.deferred (some [])))
   (λpre W=>∃ c,Ix c pre W/\W.heap[w.heap.size+1]?=some (.loop (rec .done (some c)))/\W.heap[w.heap.size]?=some (.deferred (some [])))
   ?_ ?_ ?_ ⟨hI1,hL1,hK1⟩).mono ?_
  ·rintro pre W W' ⟨hi,hl,hk⟩ ht;exact⟨hI _ _ _ hi (ht.mono λk=>.inl),(ht.block _ (Array.getElem?_eq_some_iff.1 hl).1 hnl).trans hl,(ht.block _ (Array.getElem?_eq_some_iff.1 hk).1 hnd).trans hk⟩
  ·rintro pre W W' ⟨c,hi,hl,hk⟩ ht;exact⟨c,hIx _ _ _ _ hi (ht.mono λk=>.inl),(ht.block _ (Array.getElem?_eq_some_iff.1 hl).1 hnl).trans hl,(ht.block _ (Array.getElem?_eq_some_iff.1 hk).1 hnd).trans hk⟩
  ·-- one round
   rintro pre x W ⟨hi,hl,hk⟩ hok;have hlt:w.heap.size+1<W.heap.size:=(Array.getElem?_eq_some_iff.1 hl).1;have hy:=run_yield (P:=P) (args:=encs x) hl (by rw [hrec];exact hps x);rw [hrec] at hy;refine⟨fn,_,assign,body,hy,roundIn_of_wpIn hfn (hassign x W _ (by omega) λa1 Wa ha hax=>?_)⟩;have hla:Wa.heap[w.heap.size+1]?=some (.loop (rec .ready none)):=(ha.block _ hlt (λh=>h)).trans hl;have hka:Wa.heap[w.heap.size]?=some (.deferred (some [])):=(ha.block _ (by omega) (λh=>h)).trans hk;have Dk:w.heap.size+1<Wa.heap.size:=(Array.getElem?_eq_some_iff.1 hla).1;refine⟨_,run_beginRound hla (by rw [hrec]),?_⟩;obtain⟨Wb,lK⟩:∃ Wb,Wa.putObj (w.heap.size+1) (.loop { rec .ready none with state:=.busy })=Wb:=⟨_,rfl⟩
   rw [lK];have htb:∀ o:Nat->Prop,o (w.heap.size+1)->Turns o Wa Wb:=λo ho=>by rw [<- lK];exact Turns.putObj _ ho _
   have hlb:Wb.heap[w.heap.size+1]?=some (.loop { rec .ready none with state:=.busy }):=by rw [<- lK];exact World.putObj_heap_same Dk
   have hkb:Wb.heap[w.heap.size]?=some (.deferred (some [])):=by rw [<- lK];exact(World.putObj_heap_other (by omega)).trans hka
   have hsb:Wb.heap.size=Wa.heap.size:=by rw [<- lK];simp
   refine wpIn_mono (hbody pre x a1 Wb (by omega) (hI _ _ _ hi ((ha.mono λ_ h=>h.elim).trans (htb _ (.inr rfl)))) hok (hAx _ _ _ _ hax (htb _ rfl))) ?_;have fin:∀ (jump:Option Code) (W3:World),Holds (λk=>k=w.heap.size+1\/k=w.heap.size) Wb W3 ->
     (Instr.endRound (w.heap.size+1) jump).run P W3 = .ok (.bool jump.isNone) (W3.putObj (w.heap.size+1) (.loop (rec (if jump.isNone then .ready else .done) jump))) /\
     (W3.putObj (w.heap.size+1) (.loop (rec (if jump.isNone then .ready else .done) jump))).heap[w.heap.size+1]?=some (.loop (rec (if jump.isNone then .ready else .done) jump)) /\
     (W3.putObj (w.heap.size+1) (.loop (rec (if jump.isNone then .ready else .done) jump))).heap[w.heap.size]?=some (.deferred (some [])):=λjump W3 hk3=>by
    have hl3:=(hk3.block _ (.inl rfl)).trans hlb;have:=run_endRound (P:=P) jump hl3;rw [hrec] at this ⊢;exact⟨this,World.putObj_heap_same (Array.getElem?_eq_some_iff.1 hl3).1,(World.putObj_heap_other (by omega)).trans ((hk3.block _ (.inr rfl)).trans hkb)⟩
   rintro e a3 W3 hp
   cases e with
   | normal =>
    obtain⟨hh,hi3⟩:=hp;obtain⟨hr,hl4,hk4⟩:=fin none W3 (hh.mono λ_ h=>.inr h);refine⟨_,_,hr, .inl ⟨rfl,⟨hI _ _ _ hi3 (Turns.putObj _ (.inr rfl) _),hl4,hk4⟩,?_⟩⟩;refine⟨?_,λk ho=>?_⟩
    ·have:=ha.size;have:=hh.size;simp;omega
    ·have hkw:=hown k (.inr ho);rw [World.putObj_heap_other (by omega),hh.block k (.inl ho),<- lK,World.putObj_heap_other (by omega)];exact ha.block k (by omega) (λh=>h)
   | ret =>
    obtain⟨hh,hi3⟩:=hp;obtain⟨hr,hl4,hk4⟩:=fin (some .ret) W3 hh;exact⟨_,_,hr, .inr ⟨rfl, .ret,hIx _ _ _ _ hi3 (Turns.putObj _ (.inr rfl) _),hl4,hk4⟩⟩
   | exit id =>
    obtain⟨hh,hi3⟩:=hp;obtain⟨hr,hl4,hk4⟩:=fin (some (.exit id)) W3 hh;exact⟨_,_,hr, .inr ⟨rfl, .exit id,hIx _ _ _ _ hi3 (Turns.putObj _ (.inr rfl) _),hl4,hk4⟩⟩
   | goto t =>
    obtain⟨hh,hi3⟩:=hp;obtain⟨hr,hl4,hk4⟩:=fin (some (.goto t)) W3 hh;exact⟨_,_,hr, .inr ⟨rfl, .goto t,hIx _ _ _ _ hi3 (Turns.putObj _ (.inr rfl) _),hl4,hk4⟩⟩
   | panic ch=>exact hp.elim
   | outgrown=>exact hp.elim
  ·-- behind the iterator
   rintro e W2 ⟨⟨v,rfl⟩,(⟨xs,Cm,hi,hl,hk⟩ | ⟨pre,c,hi,hl,hk⟩)⟩
   ·have hlt:=(Array.getElem?_eq_some_iff.1 hl).1;exact⟨none,_,by have:=run_endLoop (P:=P) hl (by rw [hrec];simp);rw [hrec] at this;exact this,
     hdone xs _ (by simp;omega) (hS _ _ _ Cm (Turns.putObj (own:=λk=>k=w.heap.size+1) _ rfl _)) (hI _ _ _ hi (Turns.putObj _ (.inr rfl) _)) ((World.putObj_heap_other (by omega)).trans hk)⟩
   ·have hlt:=(Array.getElem?_eq_some_iff.1 hl).1;exact⟨some c,_,by have:=run_endLoop (P:=P) hl (by rw [hrec];simp);rw [hrec] at this;exact this,
     hstop c pre _ (by simp;omega) (hIx _ _ _ _ hi (Turns.putObj _ (.inr rfl) _)) ((World.putObj_heap_other (by omega)).trans hk)⟩
end
end Go.Proofs.YtdenoeakcflnmaaGreatDoor
