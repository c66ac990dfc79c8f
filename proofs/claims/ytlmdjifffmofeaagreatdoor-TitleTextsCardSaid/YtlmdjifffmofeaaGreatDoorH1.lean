/- Texts of this claim. -/
import Derived.KernelRfl
import Derived.Test.YtlmdjifffmofeaaGreatDoorProg
import Derived.WalkKit
import Derived.WalkSpells
import Derived.WalkLawsBesides
import Derived.Handy
import Derived.Lib.Hide
import Derived.Deep.QuietTactic
import Derived.BigQuiet
import Derived.Deep.RegionHeld3
import Derived.Deep.RegionWith
import Derived.Deep.DeepCutAuto
import Derived.StillTailTactics
import Derived.MapKept
import Derived.LaidEql
import Derived.Stop.Asserts
import Derived.Stop.LaidTwo
import Derived.RowKitTokens
import Derived.Laws.OwnMore
import Derived.Deep.Draws
import Derived.Stop.LaidErr
import Derived.ProofKit
import Derived.RangeFuncNested
import Derived.RangeFuncBound
import Derived.RangeFuncCalls
import Derived.RangeFuncLeaves
import Derived.OwnWalkIn
import Derived.TacticsInMore
import Derived.LoopNIn
import Derived.LoopIn

namespace Go.Proofs.YtlmdjifffmofeaaGreatDoor
namespace U
def bF (c:Int):Int:=if c<128 then 0 else if c<194 then -1 else if c<224 then 1 else if c<240 then 2 else if c<245 then 3 else -1
def eX (c:Int):Int:=if bF c<0 then 0 else if c=224 then 160 else if c=240 then 144 else 128
def eU (c:Int):Int:=if bF c<0 then 0 else if c=237 then 159 else if c=244 then 143 else 191
def gG (c:Int):Int:=if bF c<0 then 0 else if c<128 then 0 else if c<224 then 192 else if c<240 then 224 else 240
def right (r:Int):Bool:=decide (0<=r)&&decide (r<=1114111)&&(decide (r<55296)||decide (57343<r))
def je (c:UInt8):Bool:=decide (128<=c.toNat)&&decide (c.toNat<=191)
def aA (c:UInt8):Int:=(c.toNat:Int)
def fold (a:Int) (l:List UInt8):Int:=l.foldl (λa c=>64*a+aA c-128) a
def pO (c:Int) (l:List UInt8):Bool :=
 decide (bF c<=(l.length:Int))&&(l.take (bF c).toNat).all je &&
  (match l.take (bF c).toNat with | []=>true | d::_=>decide (eX c<=aA d)&&decide (aA d<=eU c))
def dec:List UInt8->Option (Int×Nat)
 | []=>none
 | c::l=>if bF (aA c)<0 then none else if pO (aA c) l then some (fold (aA c-gG (aA c)) (l.take (bF (aA c)).toNat),(bF (aA c)).toNat+1) else none
def byte (n:Int):UInt8:=UInt8.ofNat n.toNat
def enc (r:Int):List UInt8 :=
 if r<128 then [byte r]
 else if r<2048 then [byte (192+r / 64),byte (128+r % 64)]
 else if r<65536 then [byte (224+r / 4096),byte (128+r / 64 % 64),byte (128+r % 64)]
 else [byte (240+r / 262144),byte (128+r / 4096 % 64),byte (128+r / 64 % 64),byte (128+r % 64)]
theorem oZ (c:UInt8):0<=aA c:=by unfold aA;omega
theorem qj (c:UInt8):aA c<256:=by unfold aA;have:=c.toNat_lt;omega
theorem xq (n:Int) (h0:0<=n) (h1:n<256):aA (byte n)=n:=by
 unfold aA byte;rw [UInt8.toNat_ofNat'];have:n.toNat % 2 ^ 8=n.toNat:=Nat.mod_eq_of_lt (by omega);rw [this];omega
theorem Tm {c d:UInt8} (h:aA c=aA d):c=d:=by
 apply UInt8.toNat_inj.1;unfold aA at h;omega
theorem Xp (c:UInt8):byte (aA c)=c:=Tm (xq _ (oZ c) (qj c))
theorem Bo {n:Int} {c:UInt8} (h:n=aA c):byte n=c:=by rw [h,Xp]
theorem lZ (c:UInt8):je c=true↔128<=aA c/\aA c<=191:=by
 unfold je aA;simp;omega
theorem Zo (c:UInt8):je c=false↔aA c<128\/191<aA c:=by
 rw [<- Bool.not_eq_true,lZ];omega
theorem CB (r:Int):right r=true↔0<=r/\r<=1114111/\(r<55296\/57343<r):=by
 unfold right;simp;omega
theorem KC (r:Int):1<=(enc r).length/\(enc r).length<=4:=by
 unfold enc;repeat' (first | split | simp)
theorem ajo (r:Int) (h:right r=true) (t:List UInt8):dec (enc r++t)=some (r,(enc r).length):=by
 rw [CB] at h;obtain⟨h0,h1,h2⟩:=h;unfold enc
 split
 ·simp only [List.cons_append,List.nil_append,dec];rw [xq r h0 (by omega)];have e1:bF r=0:=by unfold bF;rw [if_pos (by omega)]
  have e2:gG r=0:=by unfold gG;rw [e1];simp;omega
  simp [e1,e2,pO,fold]
 ·split
  ·simp only [List.cons_append,List.nil_append,dec];rw [xq (192+r / 64) (by omega) (by omega)];have e1:bF (192+r / 64)=1:=by unfold bF;rw [if_neg (by omega),if_neg (by omega),if_pos (by omega)]
   have e2:gG (192+r / 64)=192:=by unfold gG;rw [e1,if_neg (by omega),if_neg (by omega),if_pos (by omega)]
   have e3:eX (192+r / 64)=128:=by unfold eX;rw [e1,if_neg (by omega),if_neg (by omega),if_neg (by omega)]
   have e4:eU (192+r / 64)=191:=by unfold eU;rw [e1,if_neg (by omega),if_neg (by omega),if_neg (by omega)]
   have b1:=xq (128+r % 64) (by omega) (by omega);have t1:je (byte (128+r % 64))=true:=by rw [lZ,b1];omega
   simp [e1,e2,e3,e4,pO,fold,t1,b1]
   constructor <;> omega
  ·split
   ·simp only [List.cons_append,List.nil_append,dec];rw [xq (224+r / 4096) (by omega) (by omega)];have e1:bF (224+r / 4096)=2:=by unfold bF;rw [if_neg (by omega),if_neg (by omega),if_neg (by omega),if_pos (by omega)]
    have e2:gG (224+r / 4096)=224:=by unfold gG;rw [e1,if_neg (by omega),if_neg (by omega),if_neg (by omega),if_pos (by omega)]
    have b1:=xq (128+r / 64 % 64) (by omega) (by omega);have b2:=xq (128+r % 64) (by omega) (by omega);have t1:je (byte (128+r / 64 % 64))=true:=by rw [lZ,b1];omega
    have t2:je (byte (128+r % 64))=true:=by rw [lZ,b2];omega
    have e3:eX (224+r / 4096)<=128+r / 64 % 64:=by unfold eX;rw [e1];repeat' (first | omega | split)
    have e4:128+r / 64 % 64<=eU (224+r / 4096):=by unfold eU;rw [e1];repeat' (first | omega | split)
    have e5:(2:Int)<=(t.length:Int)+1+1:=by omega
    simp [e1,e2,e3,e4,e5,pO,fold,t1,t2,b1,b2];omega
   ·simp only [List.cons_append,List.nil_append,dec];rw [xq (240+r / 262144) (by omega) (by omega)];have e1:bF (240+r / 262144)=3:=by unfold bF;rw [if_neg (by omega),if_neg (by omega),if_neg (by omega),if_neg (by omega),if_pos (by omega)]
    have e2:gG (240+r / 262144)=240:=by unfold gG;rw [e1,if_neg (by omega),if_neg (by omega),if_neg (by omega),if_neg (by omega)]
    have b1:=xq (128+r / 4096 % 64) (by omega) (by omega);have b2:=xq (128+r / 64 % 64) (by omega) (by omega);have b3:=xq (128+r % 64) (by omega) (by omega);have t1:je (byte (128+r / 4096 % 64))=true:=by rw [lZ,b1];omega
    have t2:je (byte (128+r / 64 % 64))=true:=by rw [lZ,b2];omega
    have t3:je (byte (128+r % 64))=true:=by rw [lZ,b3];omega
    have e3:eX (240+r / 262144)<=128+r / 4096 % 64:=by unfold eX;rw [e1];repeat' (first | omega | split)
    have e4:128+r / 4096 % 64<=eU (240+r / 262144):=by unfold eU;rw [e1];repeat' (first | omega | split)
    have e5:(3:Int)<=(t.length:Int)+1+1+1:=by omega
    simp [e1,e2,e3,e4,e5,pO,fold,t1,t2,t3,b1,b2,b3];omega
theorem D6 (c:Int):bF c=-1\/bF c=0\/bF c=1\/bF c=2\/bF c=3:=by unfold bF;repeat' (first | omega | split)
theorem PG (c:Int) (h:bF c=0):c<128:=by unfold bF at h;split at h;assumption;repeat' (first | omega | split at h)
theorem Oi (c:Int) (h:bF c=1):194<=c/\c<224:=by unfold bF at h;repeat' (first | omega | split at h)
theorem PZ (c:Int) (h:bF c=2):224<=c/\c<240:=by unfold bF at h;repeat' (first | omega | split at h)
theorem QG (c:Int) (h:bF c=3):240<=c/\c<245:=by unfold bF at h;repeat' (first | omega | split at h)
theorem I7 (c:Int) (h:0<=bF c):128<=eX c/\(c=224->eX c=160)/\(c=240->eX c=144):=by
 unfold eX;rw [if_neg (by omega)];repeat' (first | omega | split)
theorem GZ (c:Int) (h:0<=bF c):eU c<=191/\(c=237->eU c=159)/\(c=244->eU c=143):=by
 unfold eU;rw [if_neg (by omega)];repeat' (first | omega | split)
theorem tail_range {c:UInt8} (h:je c=true):128<=aA c/\aA c<=191:=(lZ c).1 h
theorem Ey {s:List UInt8} {r:Int} {n:Nat} (h:dec s=some (r,n)):right r=true/\enc r=s.take n/\1<=n/\n<=4/\n<=s.length:=by
 cases s with
 | nil=>simp [dec] at h
 | cons c l =>
  have c0:=oZ c;simp only [dec] at h
  split at h
  ·cases h
  rename_i hn
  split at h
  case isFalse=>cases h
  rename_i ht
  simp only [Option.some.injEq,Prod.mk.injEq] at h;obtain⟨rfl,rfl⟩:=h;simp only [pO,Bool.and_eq_true,decide_eq_true_eq] at ht;obtain⟨⟨hlen,hall⟩,hd⟩:=ht
  rcases D6 (aA c) with e | e | e | e | e
  ·omega
  ·have hc:=PG _ e;have em:gG (aA c)=0:=by unfold gG;rw [e];simp;omega
   simp only [e,em,Int.toNat_zero,List.take_zero,fold,List.foldl_nil,Int.sub_zero,Nat.zero_add,List.take_succ_cons];refine⟨by rw [CB];omega,?_,by omega,by omega,by simp⟩;unfold enc;rw [if_pos hc,Xp]
  ·have hc:=Oi _ e;have em:gG (aA c)=192:=by unfold gG;rw [e,if_neg (by omega),if_neg (by omega),if_pos (by omega)]
   rcases l with _ | ⟨d1,l⟩
   ·simp [e] at hlen
   ·
    simp only [e,Int.toNat_one,List.take_succ_cons,List.take_zero,List.all_cons,List.all_nil,Bool.and_true] at hall;have t1:=tail_range hall;simp only [e,em,Int.toNat_one,List.take_succ_cons,List.take_zero,fold,List.foldl_cons,List.foldl_nil];refine And.intro ((CB _).2 (by omega)) (And.intro ?_ (And.intro (by omega) (And.intro (by omega) (by simp))));unfold enc;rw [if_neg (by omega),if_pos (by omega)];simp only [List.cons.injEq,and_true];exact⟨Bo (by omega),Bo (by omega)⟩
  ·have hc:=PZ _ e;have em:gG (aA c)=224:=by unfold gG;rw [e,if_neg (by omega),if_neg (by omega),if_neg (by omega),if_pos (by omega)]
   have hlo:=I7 (aA c) (by omega);have hhi:=GZ (aA c) (by omega)
   rcases l with _ | ⟨d1,l⟩
   ·simp [e] at hlen
   rcases l with _ | ⟨d2,l⟩
   ·simp [e] at hlen
   ·
    have e2:(2:Int).toNat=2:=rfl;simp only [e,e2,List.take_succ_cons,List.take_zero,List.all_cons,List.all_nil,Bool.and_true,Bool.and_eq_true] at hall;simp only [e,e2,List.take_succ_cons,List.take_zero,Bool.and_eq_true,decide_eq_true_eq] at hd;have t1:=tail_range hall.1;have t2:=tail_range hall.2;simp only [e,e2,em,List.take_succ_cons,List.take_zero,fold,List.foldl_cons,List.foldl_nil];refine And.intro ((CB _).2 (by omega)) (And.intro ?_ (And.intro (by omega) (And.intro (by omega) (by simp))));unfold enc;rw [if_neg (by omega),if_neg (by omega),if_pos (by omega)];simp only [List.cons.injEq,and_true];exact⟨Bo (by omega),Bo (by omega),Bo (by omega)⟩
  ·have hc:=QG _ e;have em:gG (aA c)=240:=by unfold gG;rw [e,if_neg (by omega),if_neg (by omega),if_neg (by omega),if_neg (by omega)]
   have hlo:=I7 (aA c) (by omega);have hhi:=GZ (aA c) (by omega)
   rcases l with _ | ⟨d1,l⟩
   ·simp [e] at hlen
   rcases l with _ | ⟨d2,l⟩
   ·simp [e] at hlen
   rcases l with _ | ⟨d3,l⟩
   ·simp [e] at hlen
   ·
    have e2:(3:Int).toNat=3:=rfl;simp only [e,e2,List.take_succ_cons,List.take_zero,List.all_cons,List.all_nil,Bool.and_true,Bool.and_eq_true] at hall;simp only [e,e2,List.take_succ_cons,List.take_zero,Bool.and_eq_true,decide_eq_true_eq] at hd;have t1:=tail_range hall.1;have t2:=tail_range hall.2.1;have t3:=tail_range hall.2.2;simp only [e,e2,em,List.take_succ_cons,List.take_zero,fold,List.foldl_cons,List.foldl_nil];refine And.intro ((CB _).2 (by omega)) (And.intro ?_ (And.intro (by omega) (And.intro (by omega) (by simp))));unfold enc;rw [if_neg (by omega),if_neg (by omega),if_neg (by omega)];simp only [List.cons.injEq,and_true];exact⟨Bo (by omega),Bo (by omega),Bo (by omega),Bo (by omega)⟩
def dw:Nat->List UInt8->Option (List Int)
 | 0,s=>if s=[] then some [] else none
 | k+1,s=>if s=[] then some [] else
  match dec s with
  | none=>none
  | some (r,n)=>(dw k (s.drop n)).map (r::·)
def scalars (s:List UInt8):Option (List Int):=dw s.length s
def textOf (l:List Int):List UInt8:=l.flatMap enc
theorem anj (k:Nat):∀ (s:List UInt8) (j:Nat),s.length<=k->s.length<=j->dw k s=dw j s:=by
 induction k with
 | zero=>intro s j h _;have:s=[]:=List.eq_nil_of_length_eq_zero (by omega);subst this;cases j <;> rfl
 | succ k ih =>
  intro s j h hj
  cases j with
  | zero=>have:s=[]:=List.eq_nil_of_length_eq_zero (by omega);subst this;rfl
  | succ j =>
   simp only [dw]
   split
   ·rfl
   ·cases hd:dec s with
    | none=>rfl
    | some p =>
     obtain⟨r,n⟩:=p;have:=Ey hd;simp only;rw [ih (s.drop n) j (by rw [List.length_drop];omega) (by rw [List.length_drop];omega)]
theorem Sz:scalars []=some []:=rfl
theorem UY {s:List UInt8} (hs:s≠[]) (h:dec s=none):scalars s=none:=by
 unfold scalars
 cases hl:s.length with
 | zero=>exact absurd (List.eq_nil_of_length_eq_zero hl) hs
 | succ k=>simp only [dw];rw [if_neg hs,h]
theorem XM {s:List UInt8} {r:Int} {n:Nat} (h:dec s=some (r,n)):scalars s=(scalars (s.drop n)).map (r::·):=by
 have hs:s≠[]:=by rintro rfl;simp [dec] at h
 have:=Ey h;unfold scalars
 cases hl:s.length with
 | zero=>exact absurd (List.eq_nil_of_length_eq_zero hl) hs
 | succ k =>
  simp only [dw];rw [if_neg hs,h];simp only;rw [anj k (s.drop n) (s.drop n).length (by rw [List.length_drop];omega) (Nat.le_refl _)]
theorem UD (r:Int) (h:right r=true) (t:List UInt8):scalars (enc r++t)=(scalars t).map (r::·):=by
 rw [XM (ajo r h t),List.drop_left]
theorem Sj (l:List Int) (h:∀ r∈l,right r=true) (t:List UInt8):scalars (textOf l++t)=(scalars t).map (l++·):=by
 induction l with
 | nil=>simp [textOf]
 | cons r l ih =>
  have e:textOf (r::l)++t=enc r++(textOf l++t):=by simp [textOf]
  rw [e,UD r (h r (by simp)),ih (λr hr=>h r (by simp [hr])),Option.map_map]
  congr 1
theorem agk (k:Nat):∀ (s:List UInt8) (l:List Int),s.length<=k->scalars s=some l->textOf l=s/\∀ r∈l,right r=true:=by
 induction k with
 | zero =>
  intro s l hk h;have:s=[]:=List.eq_nil_of_length_eq_zero (by omega);subst this;rw [Sz] at h
  cases h;exact⟨rfl,λr hr=>by cases hr⟩
 | succ k ih =>
  intro s l hk h
  by_cases hs:s=[]
  ·subst hs;rw [Sz] at h
   cases h;exact⟨rfl,λr hr=>by cases hr⟩
  cases hd:dec s with
  | none=>rw [UY hs hd] at h;cases h
  | some p =>
   obtain⟨r,n⟩:=p;obtain⟨hr,he,h1,_,hn⟩:=Ey hd;rw [XM hd] at h
   cases hl:scalars (s.drop n) with
   | none=>rw [hl] at h;cases h
   | some l' =>
    rw [hl] at h;simp only [Option.map_some,Option.some.injEq] at h;subst h;obtain⟨g1,g2⟩:=ih _ l' (by rw [List.length_drop];omega) hl;refine⟨?_,λx hx=>?_⟩
    ·show enc r++textOf l'=s
     rw [g1,he,List.take_append_drop]
    ·rcases List.mem_cons.1 hx with rfl | hx
     ·exact hr
     ·exact g2 x hx
theorem BG (s:List UInt8) (l:List Int):scalars s=some l↔textOf l=s/\∀ r∈l,right r=true:=by
 refine⟨agk s.length s l (Nat.le_refl _),λ⟨h1,h2⟩=>?_⟩;have:=Sj l h2 [];rw [List.append_nil,h1,Sz] at this
 simpa using this
theorem U9 (a b:List Int):textOf (a++b)=textOf a++textOf b:=by simp [textOf]
theorem H7 {c:UInt8} {t:List UInt8} (e:bF (aA c)<0):dec (c::t)=none:=by simp only [dec];rw [if_pos e]
theorem Vj {c:UInt8} {t:List UInt8} (h:(t.length:Int)<bF (aA c)):dec (c::t)=none:=by
 simp only [dec]
 split
 ·rfl
 rw [if_neg];simp only [pO,Bool.and_eq_true,decide_eq_true_eq];omega
theorem JF {c:UInt8} {t:List UInt8} (e:bF (aA c)=0):dec (c::t)=some (aA c,1):=by
 have hc:=PG _ e;have em:gG (aA c)=0:=by unfold gG;rw [e];simp;omega
 simp [dec,e,em,pO,fold]
theorem GN {c d1:UInt8} {t:List UInt8} (e:bF (aA c)=1) :
  dec (c::d1::t)=if eX (aA c)<=aA d1/\aA d1<=eU (aA c)/\128<=aA d1/\aA d1<=191 then some (64*(aA c-192)+aA d1-128,2) else none:=by
 have hc:=Oi _ e;have em:gG (aA c)=192:=by unfold gG;rw [e,if_neg (by omega),if_neg (by omega),if_pos (by omega)]
 have h1:=lZ d1;simp only [dec,e,em];rw [if_neg (by omega)]
 by_cases k1:je d1=true
 ·have:=h1.1 k1
  by_cases k2:eX (aA c)<=aA d1/\aA d1<=eU (aA c)
  ·rw [if_pos,if_pos (by omega)]
   ·simp [fold]
   ·simp [pO,e,k1,k2];omega
  ·rw [if_neg,if_neg (by omega)];simp [pO,e,k1];omega
 ·rw [if_neg,if_neg (by rw [h1] at k1;omega)];simp [pO,e,k1]
theorem IB {c d1 d2:UInt8} {t:List UInt8} (e:bF (aA c)=2) :
  dec (c::d1::d2::t)=if eX (aA c)<=aA d1/\aA d1<=eU (aA c)/\128<=aA d1/\aA d1<=191/\128<=aA d2/\aA d2<=191 then some (64*(64*(aA c-224)+aA d1-128)+aA d2-128,3) else none:=by
 have hc:=PZ _ e;have em:gG (aA c)=224:=by unfold gG;rw [e,if_neg (by omega),if_neg (by omega),if_neg (by omega),if_pos (by omega)]
 have h1:=lZ d1;have h2:=lZ d2;have e2:(2:Int).toNat=2:=rfl;simp only [dec,e,em];rw [if_neg (by omega)]
 by_cases k1:je d1=true/\je d2=true
 ·have j1:=h1.1 k1.1;have j2:=h2.1 k1.2
  by_cases k2:eX (aA c)<=aA d1/\aA d1<=eU (aA c)
  ·rw [if_pos,if_pos (by omega)]
   ·simp [fold,e2]
   ·simp [pO,e,e2,k1,k2];omega
  ·rw [if_neg,if_neg (by omega)];simp [pO,e,e2,k1];omega
 ·rw [if_neg,if_neg (by rw [h1,h2] at k1;omega)];simp only [pO,e,e2,List.take_succ_cons,List.take_zero,List.all_cons,List.all_nil,Bool.and_true,Bool.and_eq_true];exact λh=>k1 h.1.2
theorem J6 {c d1 d2 d3:UInt8} {t:List UInt8} (e:bF (aA c)=3) :
  dec (c::d1::d2::d3::t)=if eX (aA c)<=aA d1/\aA d1<=eU (aA c)/\128<=aA d1/\aA d1<=191/\128<=aA d2/\aA d2<=191/\128<=aA d3/\aA d3<=191 then some (64*(64*(64*(aA c-240)+aA d1-128)+aA d2-128)+aA d3-128,4) else none:=by
 have hc:=QG _ e;have em:gG (aA c)=240:=by unfold gG;rw [e,if_neg (by omega),if_neg (by omega),if_neg (by omega),if_neg (by omega)]
 have h1:=lZ d1;have h2:=lZ d2;have h3:=lZ d3;have e2:(3:Int).toNat=3:=rfl;simp only [dec,e,em];rw [if_neg (by omega)]
 by_cases k1:je d1=true/\je d2=true/\je d3=true
 ·have j1:=h1.1 k1.1;have j2:=h2.1 k1.2.1;have j3:=h3.1 k1.2.2
  by_cases k2:eX (aA c)<=aA d1/\aA d1<=eU (aA c)
  ·rw [if_pos,if_pos (by omega)]
   ·simp [fold,e2]
   ·simp [pO,e,e2,k1,k2];omega
  ·rw [if_neg,if_neg (by omega)];simp [pO,e,e2,k1];omega
 ·rw [if_neg,if_neg (by rw [h1,h2,h3] at k1;omega)];simp only [pO,e,e2,List.take_succ_cons,List.take_zero,List.all_cons,List.all_nil,Bool.and_true,Bool.and_eq_true];exact λh=>k1 h.1.2
theorem af8 (a:Int) (l:List UInt8) (d:UInt8):fold a (l++[d])=64*fold a l+aA d-128:=by simp [fold]
theorem alQ (l:List UInt8) (hl:∀ d∈l,je d=true):∀ a:Int,0<=a->l.length<=3->a<128->0<=fold a l/\fold a l<33554432:=by
 intro a ha hlen hlt
 match l,hl,hlen with
 | [],_,_=>simp [fold];omega
 | [d],hl,_ =>
  have h1:=(lZ d).1 (hl d (by simp));simp only [fold,List.foldl_cons,List.foldl_nil];omega
 | [d,e],hl,_ =>
  have h1:=(lZ d).1 (hl d (by simp));have h2:=(lZ e).1 (hl e (by simp));simp only [fold,List.foldl_cons,List.foldl_nil];omega
 | [d,e,f],hl,_ =>
  have h1:=(lZ d).1 (hl d (by simp));have h2:=(lZ e).1 (hl e (by simp));have h3:=(lZ f).1 (hl f (by simp));simp only [fold,List.foldl_cons,List.foldl_nil];omega
 | _::_::_::_::_,_,h=>simp at h
theorem amw {c:UInt8} {t:List UInt8} {n m:Int} (hn:n=bF (aA c)) (hm:gG (aA c)=m) (h0:0<=n) (hl:n<=t.length) (hall:∀ d∈t.take n.toNat,je d=true)
  (JA:n=0\/∃ d1 t',t=d1::t'/\eX (aA c)<=aA d1/\aA d1<=eU (aA c)):dec (c::t)=some (fold (aA c-m) (t.take n.toNat),n.toNat+1):=by
 simp only [dec];rw [if_neg (by omega),if_pos,<- hn,hm];unfold pO;rw [<- hn];simp only [Bool.and_eq_true,decide_eq_true_eq];refine⟨⟨hl,List.all_eq_true.2 hall⟩,?_⟩
 rcases JA with h | ⟨d1,t',rfl,h1,h2⟩
 ·subst h;rfl
 ·rcases Int.lt_or_eq_of_le h0 with h | h
  ·obtain⟨k,hk⟩:∃ k,n.toNat=k+1:=⟨n.toNat-1,by omega⟩
   rw [hk]
   simpa using ⟨h1,h2⟩
  ·rw [<- h];rfl
theorem dec_not {c:UInt8} {t:List UInt8} {d:UInt8} (h0:0<=bF (aA c)) (hd:d∈t.take (bF (aA c)).toNat) (hf:je d=false):dec (c::t)=none:=by
 simp only [dec];rw [if_neg (by omega),if_neg];unfold pO;simp only [Bool.and_eq_true];intro h;have:=List.all_eq_true.1 h.1.2 d hd;rw [hf] at this
 cases this
theorem ah6 {c d1:UInt8} {t:List UInt8} (h0:0<bF (aA c)) (hd:¬ (eX (aA c)<=aA d1/\aA d1<=eU (aA c))):dec (c::d1::t)=none:=by
 simp only [dec];rw [if_neg (by omega),if_neg];unfold pO;simp only [Bool.and_eq_true];intro h;obtain⟨k,hk⟩:∃ k,(bF (aA c)).toNat=k+1:=⟨(bF (aA c)).toNat-1,by omega⟩
 have:=h.2;rw [hk] at this;simp at this;exact hd this
theorem ahN (c:Int) (h0:0<=c) (h1:c<256):bF c<0\/(0<=c-gG c/\c-gG c<128/\0<=gG c):=by
 rcases D6 c with e | e | e | e | e
 ·omega
 ·have:=PG _ e;unfold gG;rw [e,if_neg (by omega),if_pos (by omega)];omega
 ·have:=Oi _ e;unfold gG;rw [e,if_neg (by omega),if_neg (by omega),if_pos (by omega)];omega
 ·have:=PZ _ e;unfold gG;rw [e,if_neg (by omega),if_neg (by omega),if_neg (by omega),if_pos (by omega)];omega
 ·have:=QG _ e;unfold gG;rw [e,if_neg (by omega),if_neg (by omega),if_neg (by omega),if_neg (by omega)];omega
end U
section
open Go.RowKit
structure Box (p:Prop):Prop where
 o:p
theorem bx {p:Prop} (h:p):Box p:=⟨h⟩
theorem aI {a b:Bool} (h:a=b):Ending.returned (.bool a) = .returned (.bool b):=by rw [h]
theorem BF {k:IntKind} {a b:Int} (h:a=b):Ending.returned (.int k a) = .returned (.int k b):=by rw [h]
theorem rJ {a a':Value} (h:a=a'):Ending.returned a = .returned a':=by rw [h]
theorem gY {a b a' b':Value} (h:a=a') (h2:b=b'):Ending.returned (.tuple #[a,b]) = .returned (.tuple #[a',b']):=by rw [h,h2]
theorem aaJ {a b c a' b' c':Value} (h:a=a') (h2:b=b') (h3:c=c'):Ending.returned (.tuple #[a,b,c]) = .returned (.tuple #[a',b',c']):=by rw [h,h2,h3]
theorem fF {k:IntKind} {a b:Int} (h:a=b):Value.int k a = .int k b:=by rw [h]
theorem yU {a b:Bool} (h:a=b):Value.bool a = .bool b:=by rw [h]
theorem size_eq (s:ByteArray):s.size=s.data.toList.length:=by rw [<- ByteArray.size_data,Array.length_toList]
theorem uH {P:Program} {T:TypeId} (hT:P.underlying T=some .string) (s:ByteArray) (k:Nat) {d:UInt8} (hd:s.data.toList[k]?=some d) (i:Int) (hi:i=k) :
  ∀ w,(Instr.index T (.string s) (.int .i64 i)).run P w = .ok (.int .u8 (U.aA d)) w:=by
 intro w;subst hi;have hk:k<s.size:=by rw [size_eq];exact(List.getElem?_eq_some_iff.1 hd).1
 rw [run_index_string w _ _ _ _ hT,dif_pos (by omega)];have:s[k]'hk=d:=by
  have:=(List.getElem?_eq_some_iff.1 hd).2;rw [<- this];rfl
 simp [this,U.aA]
theorem Dx {P:Program} {src e dst:TypeId} (hs:P.underlying src=some (.slice e)) (he:P.underlying e=some (.int .u8)) (hd:P.underlying dst=some .string) (C:List Int) (w:World) (cap:Nat) (n:Nat) (hn:n=C.length) (t:TypeId) :
  (convert src dst (.slice (some ⟨w.heap.size,0,none⟩) n cap)).run P (w.alloc (.cells (C.map (Value.int .u8)).toArray t)) = .ok (.string (strOfNums C)) (w.alloc (.cells (C.map (Value.int .u8)).toArray t)):=by
 subst hn;refine run_convert_bytes_arg _ src e hs he w.heap.size 0 C.length cap C rfl (λi hi=>?_) dst hd;rw [cell_of_row _ _ _ _ _ _ (heap_alloc_new w _)];simp [hi]
theorem Ia (w:World) (o:Obj) (n:Nat) (hn:n=w.heap.size):(w.alloc o).heap[n]?=some o:=by subst hn;exact heap_alloc_new w o
theorem set_push {α:Type} (a:Array α) (x y:α):(a.push x).setIfInBounds a.size y=a.push y:=by
 apply Array.ext
 ·simp
 ·intro i h1 h2;rw [Array.getElem_setIfInBounds (by simpa using h1)]
  split
  ·rename_i h;subst h;simp
  ·rename_i h
   have:i<a.size:=by simp at h1;omega
   simp [Array.getElem_push,this]
theorem ahO (w:World) (o o':Obj) (n:Nat) (hn:n=w.heap.size):({ w.alloc o with heap:=(w.alloc o).heap.setIfInBounds n o' }:World)=w.alloc o':=by
 subst hn;have e:(w.alloc o).heap.setIfInBounds w.heap.size o'=w.heap.push o':=set_push _ _ _;rw [e];rfl
theorem Gz {P:Program} {T K E:TypeId} {q:IntKind} (hm:P.underlying T=some (.map K E)) (hk:P.underlying K=some (.int q)) (w:World) (es:Array MapEntry) (clk:Nat) (k:Int) (v:Value) (n:Nat) (hn:n=w.heap.size)
  (hf:Instr.findNow (.int q) (.int q k) es.toList 0=some none) :
  (Instr.mapUpdate T (.map (some n)) (.int q k) v).run P (w.alloc (.map es clk)) = .ok () (w.alloc (.map (es.push ⟨.int q k,v,clk⟩) (clk+1))):=by
 have hg:=Ia w (.map es clk) n hn;have h1:(Instr.checkKey false 10000 K (.int q k)).run P (w.alloc (.map es clk)) = .ok () (w.alloc (.map es clk)):=MapKept.run_checkKey hk (by simp [MapKept.IsKey]) false 9999;have h2:=MapKept.run_findKey (P:=P) (w:=w.alloc (.map es clk)) hk hf;unfold Instr.mapUpdate;simp only [Sem.run_bind,run_underlying hm,Result.andThen,MapKept.run_getObj_map hg,h1,h2,MapKept.run_setObj_map _ hg,ahO w _ _ n hn]
theorem Qg {P:Program} {T K E:TypeId} {q:IntKind} (hm:P.underlying T=some (.map K E)) (hk:P.underlying K=some (.int q)) (W:World) (es:Array MapEntry) (clk:Nat) (k:Int) (n:Nat) (hg:W.heap[n]?=some (.map es clk))
  (i:Nat) (v:Value) (hf:Instr.findNow (.int q) (.int q k) es.toList 0=some (some (i,v))) :
  (Instr.lookup T (.map (some n)) (.int q k) true).run P W = .ok (.tuple #[v, .bool true]) W:=by
 have h1:(Instr.checkKey es.isEmpty 10000 K (.int q k)).run P W = .ok () W:=MapKept.run_checkKey hk (by simp [MapKept.IsKey]) _ 9999;have h2:=MapKept.run_findKey (P:=P) (w:=W) hk hf;unfold Instr.lookup;simp only [Sem.run_bind,run_underlying hm,Result.andThen,MapKept.run_getObj_map hg,h1,h2,Sem.run_pure,if_true]
theorem alC {P:Program} {T K E:TypeId} {q:IntKind} (hm:P.underlying T=some (.map K E)) (hk:P.underlying K=some (.int q)) (W:World) (es:Array MapEntry) (clk:Nat) (k:Int) (n:Nat) (hg:W.heap[n]?=some (.map es clk))
  (z:Value) (hz:(zeroValue E).run P W = .ok z W) (hf:Instr.findNow (.int q) (.int q k) es.toList 0=some none) :
  (Instr.lookup T (.map (some n)) (.int q k) true).run P W = .ok (.tuple #[z, .bool false]) W:=by
 have h1:(Instr.checkKey es.isEmpty 10000 K (.int q k)).run P W = .ok () W:=MapKept.run_checkKey hk (by simp [MapKept.IsKey]) _ 9999;have h2:=MapKept.run_findKey (P:=P) (w:=W) hk hf;unfold Instr.lookup;simp only [Sem.run_bind,run_underlying hm,Result.andThen,MapKept.run_getObj_map hg,h1,h2,Sem.run_pure,if_true,hz]
theorem TL (P:Program) (w:World) (a:Addr) (m:Mode) (k:FloatKind) (b:Nat):(store a (.float k b) m).run P w=stored P w a (.float k b) m:=run_store P w a _ m rfl
theorem SQ (P:Program) (w:World) (a:Addr) (m:Mode) (k:FloatKind) (x y:Nat):(store a (.complex k x y) m).run P w=stored P w a (.complex k x y) m:=run_store P w a _ m rfl
def ak (w:World) (g:Nat) (t:TypeId) (cs:Array Value):Prop:=w.heap[g]?=some (.cells cs t (0,0))
section
variable {w w':World} {g:Nat} {t:TypeId} {cs:Array Value}
theorem ak.lt (h:ak w g t cs):g<w.heap.size:=by
 rcases Nat.lt_or_ge g w.heap.size with hlt | hge
 ·exact hlt
 ·unfold ak at h;rw [Array.getElem?_eq_none hge] at h;cases h
theorem ak.cell (h:ak w g t cs) (i:Nat):w.cell? ⟨g,i,none⟩=cs[i]?:=cell_of_row w g i cs t (0,0) h
theorem ak.frozen (h:ak w g t cs) (i:Nat):w.frozen? ⟨g,i,none⟩=false:=by
 unfold ak at h;simp [World.frozen?,h]
theorem ak.new (w:World) (t:TypeId) (cs:Array Value):ak (w.alloc (.cells cs t)) w.heap.size t cs:=heap_alloc_new w _
theorem ak.drewN (h:ak w g t cs) (n:Nat):ak (w.drewN n) g t cs:=h
theorem ak.alloc (h:ak w g t cs) (o:Obj):ak (w.alloc o) g t cs:=(Below.heap_alloc w o g h.lt).trans h
theorem ak.bP (h:ak w g t cs) (i:Nat) (u:Value):ak (w.setCell ⟨g,i,none⟩ u) g t (cs.setIfInBounds i u):=by
 unfold ak at h ⊢;simp [World.setCell,Array.getElem?_modify,h]
theorem ak.far (h:ak w g t cs) {p:Addr} (hp:g≠p.block) (u:Value):ak (w.setCell p u) g t cs:=(Below.heap_setCell w p u g hp).trans h
theorem ak.below {B:Nat} (h:ak w g t cs) (hb:Below B w w') (hg:g<B):ak w' g t cs:=(hb.block g hg).trans h
theorem bt {a b c:World} (h:Below a.heap.size a b) (k:Below b.heap.size b c):Below a.heap.size a c:=h.trans (k.mono h.size)
theorem ak.c2 {V W:World} {x0 x1:Value} (H:ak V g t #[x0,x1]) (h:Below V.heap.size V W):W.cell? ⟨g,0,none⟩=some x0/\W.cell? ⟨g,1,none⟩=some x1/\g<W.heap.size:=⟨((H.below h H.lt).cell 0).trans rfl,((H.below h H.lt).cell 1).trans rfl,(H.below h H.lt).lt⟩
theorem ak.c6 {V W:World} {x0 x1 x2 x3 x4 x5:Value} (H:ak V g t #[x0,x1,x2,x3,x4,x5]) (h:Below V.heap.size V W):W.cell? ⟨g,0,none⟩=some x0/\W.cell? ⟨g,1,none⟩=some x1/\W.cell? ⟨g,2,none⟩=some x2/\W.cell? ⟨g,3,none⟩=some x3/\W.cell? ⟨g,4,none⟩=some x4/\W.cell? ⟨g,5,none⟩=some x5/\g<W.heap.size:=⟨((H.below h H.lt).cell 0).trans rfl,((H.below h H.lt).cell 1).trans rfl,((H.below h H.lt).cell 2).trans rfl,((H.below h H.lt).cell 3).trans rfl,((H.below h H.lt).cell 4).trans rfl,((H.below h H.lt).cell 5).trans rfl,(H.below h H.lt).lt⟩
theorem ak.grown {row:Option Nat} (h:ak w g t cs) (hb:w.grownBy w' row) (hg:some g≠row):ak w' g t cs:=(hb.block g h.lt hg).trans h
end
theorem below_drewN {B:Nat} {a w:World} (h:Below B a w) (n:Nat):Below B a (w.drewN n):=⟨h.os,h.tape,h.output,h.size,h.block⟩
theorem aeI {a w:World} {row:Option Nat} (h:a.grownBy w row):a.grownBy w.drew row:=⟨h.os,h.tape,h.output,h.size,h.block⟩
theorem Xz {a w:World} {row:Option Nat} (h:a.grownBy w row) (o:Obj):a.grownBy (w.alloc o) row :=
 ⟨h.os,h.tape,h.output,Nat.le_trans h.size (by simp),λi hi hne=>(Below.heap_alloc w o i (Nat.lt_of_lt_of_le hi h.size)).trans (h.block i hi hne)⟩
theorem Jg {a w:World} {g:Nat} (h:a.grownBy w (some g)) {p:Addr} (hp:p.block=g\/a.heap.size<=p.block) (u:Value):a.grownBy (w.setCell p u) (some g) :=
 ⟨h.os,h.tape,h.output,by simpa [World.setCell] using h.size,λi hi hne=>(Below.heap_setCell w p u i (by
  rintro rfl
  rcases hp with hp | hp
  ·exact hne (by rw [hp])
  ·omega)).trans (h.block i hi hne)⟩
theorem XZ {a w:World} (h:Below a.heap.size a w) (row:Option Nat):a.grownBy w row:=⟨h.os,h.tape,h.output,h.size,λi hi _=>h.block i hi⟩
theorem aby {a b c:World} {row:Option Nat} (h:a.grownBy b row) (k:b.grownBy c row):a.grownBy c row :=
 ⟨k.os.trans h.os,k.tape.trans h.tape,k.output.trans h.output,Nat.le_trans h.size k.size,λi hi hne=>(k.block i (Nat.lt_of_lt_of_le hi h.size) hne).trans (h.block i hi hne)⟩
theorem GH {a b:World} {g:Nat} (h:a.grownBy b (some g)) {B:Nat} (hB:B<=g) (hB2:B<=a.heap.size):Below B a b :=
 ⟨h.os,h.tape,h.output,h.size,λi hi=>h.block i (by omega) (by intro e;cases e;omega)⟩
structure Env (S:List Nat) (TP:TypeId) (A:Nat->Addr) (B:Nat) (w:World):Prop where
 var:∀ g∈S,w.cell? ⟨g,0,none⟩=some (.iface TP (.pointer (some (A g))))
 row:∀ g∈S,∃ c t,w.heap[(A g).block]?=some (.cells c t (0,0))
 lt:∀ g∈S,g<B/\(A g).block<B
 ne:∀ g∈S,∀ h∈S,g≠h->A g≠A h
theorem Env.below {S:List Nat} {TP:TypeId} {A:Nat->Addr} {B:Nat} {w w':World} (h:Env S TP A B w) (hb:Below B w w'):Env S TP A B w' where
 var g hg:=(hb.cell (p:=⟨g,0,none⟩) (h.lt g hg).1).trans (h.var g hg)
 row g hg:=by
  obtain⟨c,t,hr⟩:=h.row g hg;exact⟨c,t,(hb.block _ (h.lt g hg).2).trans hr⟩
 lt:=h.lt
 ne:=h.ne
def fwd (l:Nat) (J:Act->World->Prop) (Q:Exit->Act->World->Prop):Exit->Act->World->Prop
 | .goto l',a,w=>l'=l/\J a w
 | e,a,w=>Q e a w
section
variable {l:Nat} {J:Act->World->Prop} {Q:Exit->Act->World->Prop} {a:Act} {w:World}
@[go_sem] theorem aoR:fwd l J Q .normal a w=Q .normal a w:=rfl
@[go_sem] theorem ao5 (id:Nat):fwd l J Q (.exit id) a w=Q (.exit id) a w:=rfl
@[go_sem] theorem yN:fwd l J Q .ret a w=Q .ret a w:=rfl
@[go_sem] theorem apd (ch:List PanicEntry):fwd l J Q (.panic ch) a w=Q (.panic ch) a w:=rfl
end
theorem sS {P:Program} {a:Act} {w:World} {Q:Exit->Act->World->Prop} {c rest:Code} (l:Nat) (hf:findLabel c l=some rest)
  (h:c.wp P (fwd l (λa w=>rest.wp P (Exit.noGoto Q) a w) Q) a w):(Code.scope c).wp P Q a w:=by
 refine wp_scope_jumps l (λa w=>rest.wp P (Exit.noGoto Q) a w) (λ_ _=>0) hf (Code.wp_mono ?_ h) (λa w hJ=>Code.wp_mono ?_ hJ)
 ·intro e a w he
  cases e <;> exact he
 ·intro e a w he
  cases e with
  | goto l'=>exact(he:False).elim
  | _=>exact he
theorem Va {P:Program} {T:TypeId} (hT:P.underlying T=some .string) (s:ByteArray) (lo hi:Int) (h:0<=lo/\lo<=hi/\hi<=s.size) :
  ∀ W,(Instr.slice T (.string s) (some (.int .i64 lo)) (some (.int .i64 hi)) none).run P W = .ok (.string (s.extract lo.toNat hi.toNat)) W:=by
 intro W;rw [run_slice_string_if W _ _ _ _ _ _ hT,if_pos (by omega),if_pos (by omega)]
theorem abS (W:World) (e:TypeId) (s:ByteArray) (cap:Nat) (fr:Nat×Nat) (j:Nat) (d:UInt8) (hd:s.data.toList[j]?=some d) :
  (W.alloc (.cells (bytesRow s cap) e fr)).cell? ⟨W.heap.size,j,none⟩=some (.int .u8 (U.aA d)):=by
 rw [World.cell?_alloc_mark];have hj:j<s.data.toList.length:=(List.getElem?_eq_some_iff.1 hd).1;have hd':s.data[j]?=some d:=by rw [<- hd,Array.getElem?_toList]
 unfold bytesRow;rw [Array.getElem?_append_left (by simpa using hj),Array.getElem?_map,hd']
 rfl
theorem MI (a:Nat) (ha:a<9223372036854775808):(BitVec.ofInt 64 (a:Int)).toNat=a:=by
 rw [BitVec.ofInt_natCast,BitVec.toNat_ofNat];exact Nat.mod_eq_of_lt (by omega)
theorem ac3 (a b:Nat) (ha:a<9223372036854775808) (hb:b<9223372036854775808):bits .and .i64 (a:Int) (b:Int)=((a &&& b:Nat):Int):=by
 have hx:a &&& b<2 ^ 63:=Nat.and_lt_two_pow _ (by omega);show IntKind.i64.wrap ((BitVec.ofInt 64 (a:Int) &&& BitVec.ofInt 64 (b:Int)).toNat:Int)=_
 rw [BitVec.toNat_and,MI a ha,MI b hb,IntKind.wrap_i64];omega
theorem aiv (a b:Nat) (ha:a<9223372036854775808) (hb:b<9223372036854775808):bits .or .i64 (a:Int) (b:Int)=((a ||| b:Nat):Int):=by
 have hx:a ||| b<2 ^ 63:=Nat.or_lt_two_pow (by omega) (by omega)
 show IntKind.i64.wrap ((BitVec.ofInt 64 (a:Int) ||| BitVec.ofInt 64 (b:Int)).toNat:Int)=_
 rw [BitVec.toNat_or,MI a ha,MI b hb,IntKind.wrap_i64];omega
theorem ab7 (y:Int) (h0:0<=y) (h1:y<9223372036854775808):bits .and .i64 y 63=y % 64:=by
 obtain⟨k,rfl⟩:=Int.eq_ofNat_of_zero_le h0;have:=ac3 k 63 (by omega) (by omega);rw [show ((63:Nat):Int)=63 from rfl] at this;rw [this,show k &&& 63=k % 64 from Nat.and_two_pow_sub_one_eq_mod k 6];omega
theorem ajP (x z:Int) (h0:0<=x) (h1:x<4294967296) (h2:0<=z) (h3:z<64):bits .or .i64 (x*64) z=x*64+z:=by
 obtain⟨k,rfl⟩:=Int.eq_ofNat_of_zero_le h0;obtain⟨l,rfl⟩:=Int.eq_ofNat_of_zero_le h2;have:=aiv (2 ^ 6*k) l (by omega) (by omega);rw [<- Nat.two_pow_add_eq_or_of_lt (by omega) k] at this;rw [show (k:Int)*64=((2 ^ 6*k:Nat):Int) by omega,this];omega
structure CW (Inv:World->Prop) where
 w:World
 h:Inv w
theorem gK {P:Program} {id:Nat} {Q:Exit->Act->World->Prop} {a:Act} {w:World} {l:List Oper} (Inv:World->Prop) (hm:P.follows .mixedOrders=true) (hB:Region.lexB .any l.toArray=true) (h0:Inv w.drew)
  (h:Nonempty (CW Inv)->wpQuiet P l.toArray (λw'=>∃ n:CW Inv,w'=n.w) (λa'=>∀ w',(∃ n:CW Inv,w'=n.w)->Q .normal a' w') l a):(Code.region id l.toArray true).wp P Q a w :=
 wp_region_quiet (C:=λw'=>∃ n:CW Inv,w'=n.w) hm hB ⟨⟨_,h0⟩,rfl⟩ (by simpa using h ⟨⟨_,h0⟩⟩)
theorem uj {P:Program} {f:FuncId} {args:Array Value} {v:Value} {W:World} {Inv:World->Prop} (h:Calls P f args W λe w'=>e = .returned v/\Below W.heap.size W w') (hI:∀ w',Below W.heap.size W w'->Inv w') :
  Calls P f args W λe w''=>e = .returned v/\∃ m:CW Inv,w''=m.w:=h.mono λ_ _ ⟨he,hb⟩=>⟨he,⟨_,hI _ hb⟩,rfl⟩
end
section
open Go.RowKit Go.Extern.Stop Go.Stop Go.Extern
theorem isTypeOf (v:Value) (w:World):(callFunc 127 #[.iface 348 v]).run Tryz.prog w = .ok (.value (.iface 244 (.agg #[.pointer (some ⟨10,348,none⟩)]))) w:=by kernel_rfl
theorem isComparable (w:World):(callFunc 273 #[.agg #[.pointer (some ⟨10,348,none⟩)]]).run Tryz.prog w = .ok (.value (.bool true)) w:=by kernel_rfl
theorem isMethodComparable (v:Value) (w:World):(Go.method 483 244 v "Comparable").run Tryz.prog w = .ok (273,v) w:=by kernel_rfl
theorem isComp:(Tryz.prog.info? 348).map (·.comparable)=some true:=by kernel_rfl
theorem isSize:(Tryz.prog.info? 368).map (·.size)=some 1:=by kernel_rfl
theorem noIsE (v:Value) (xT:TypeId) (w:World):(Instr.typeAssert (.iface 348 v) xT 246 true).run Tryz.prog w = .ok (.tuple #[.nilIface, .bool false]) w:=run_typeAssert_lacksB Tryz.underlying246 (by kernel_rfl) (by kernel_rfl) v xT w
theorem noUnwrapE (v:Value) (xT:TypeId) (w:World):(Instr.typeAssert (.iface 348 v) xT 249 true).run Tryz.prog w = .ok (.tuple #[.nilIface, .bool false]) w:=run_typeAssert_lacksB Tryz.underlying249 (by kernel_rfl) (by kernel_rfl) v xT w
theorem noUnwrapsE (v:Value) (xT:TypeId) (w:World):(Instr.typeAssert (.iface 348 v) xT 251 true).run Tryz.prog w = .ok (.tuple #[.nilIface, .bool false]) w:=run_typeAssert_lacksB Tryz.underlying251 (by kernel_rfl) (by kernel_rfl) v xT w
theorem is_same (a:Addr) (w:World) :
  Calls Tryz.prog 73 #[.iface 348 (.pointer (some a)), .iface 348 (.pointer (some a))] w λe w'=>e = .returned (.bool true)/\w=w':=by
 obtain⟨i,hi,hcmp⟩:=Option.map_eq_some_iff.1 isComp;obtain⟨j,hj,hjs⟩:=Option.map_eq_some_iff.1 isSize;have tT:=isTypeOf;have cT:=isComparable;have mR:=isMethodComparable;have heq:=run_eql_iface_ptr_same (P:=Tryz.prog) w a Tryz.underlying68 Tryz.underlying348 hi hcmp hj
 go_enter Tryz.func73,Tryz.ntmps73
 go_wp2
 refine wp_loop_rounds 1 ?_;rw [rounds_succ]
 go_wp2
 go_ret
 exact⟨rfl,rfl⟩
theorem is_other (a b:Addr) (ca cb:Array Value) (ta tb:TypeId) (w:World) (hne:a≠b) (ha:w.heap[a.block]?=some (.cells ca ta (0,0))) (hb:w.heap[b.block]?=some (.cells cb tb (0,0))) :
  Calls Tryz.prog 73 #[.iface 348 (.pointer (some a)), .iface 348 (.pointer (some b))] w λe w'=>e = .returned (.bool false)/\w=w':=by
 obtain⟨i,hi,hcmp⟩:=Option.map_eq_some_iff.1 isComp;obtain⟨j,hj,hjs⟩:=Option.map_eq_some_iff.1 isSize;have tT:=isTypeOf;have cT:=isComparable;have mR:=isMethodComparable;have nE:=noIsE;have uE:=noUnwrapE;have vE:=noUnwrapsE;have heq:=run_eql_iface_ptr_other (P:=Tryz.prog) w Tryz.underlying68 Tryz.underlying348 hi hcmp hj (by rw [hjs];decide) hne ha hb
 go_enter Tryz.func73,Tryz.ntmps73
 go_wp2
 refine wp_loop_rounds 1 ?_;rw [rounds_succ]
 go_wp2
 go_ret
 exact⟨rfl,rfl⟩
end
section
open Go.RowKit
def Lc:List Nat:=[
 4,
 5,
 0,
 1,
 2,
 3,
 ]
def E (A:Nat->Addr) (B:Nat) (w:World):Prop:=Env Lc 348 A B w
def kH (A:Nat->Addr) (g:Nat):Value:=.iface 348 (.pointer (some (A g)))
theorem E.below {A:Nat->Addr} {B:Nat} {w w':World} (h:E A B w) (hb:Below B w w'):E A B w':=Env.below h hb
theorem E.cell {A:Nat->Addr} {B:Nat} {w:World} (h:E A B w) (g:Nat) (hg:g∈Lc):w.cell? ⟨g,0,none⟩=some (.iface 348 (.pointer (some (A g)))):=h.var g hg
theorem Qh {S:List Nat} {A:Nat->Addr} {B:Nat} {w:World} (h:Env S 348 A B w) (g k:Nat) (hg:g∈S) (hk:k∈S) :
  Calls Tryz.prog 73 #[.iface 348 (.pointer (some (A g))), .iface 348 (.pointer (some (A k)))] w λe w'=>e = .returned (.bool (g==k))/\w=w':=by
 by_cases e:g=k
 ·subst e
  simpa using is_same (A g) w
 ·obtain⟨ca,ta,ha⟩:=h.row g hg;obtain⟨cb,tb,hb⟩:=h.row k hk;have:=is_other (A g) (A k) ca cb ta tb w (h.ne g hg k hk e) ha hb;rw [show (g==k)=false from beq_eq_false_iff_ne.2 e];exact this
theorem anr {A:Nat->Addr} {B:Nat} {w:World} (h:E A B w) (g k:Nat) (hg:g∈Lc) (hk:k∈Lc) :
  Calls Tryz.prog 73 #[.iface 348 (.pointer (some (A g))), .iface 348 (.pointer (some (A k)))] w λe w'=>e = .returned (.bool (g==k))/\w=w':=Qh h g k hg hk
theorem RZ {S S':List Nat} {T:TypeId} {A:Nat->Addr} {B:Nat} {w:World} (h:Env S T A B w) (hs:∀ g∈S',g∈S):Env S' T A B w :=
 ⟨λg hg=>h.var g (hs g hg),λg hg=>h.row g (hs g hg),λg hg=>h.lt g (hs g hg),λg hg k hk=>h.ne g (hs g hg) k (hs k hk)⟩
end
section
open Go.RowKit Go.ChangeShapes
abbrev Sent:=String×Nat×List UInt8
def SH (nm:String) (x:Sent):String×DataW Unit:=(x.1, .iface nm (.ptr (.agg [.lit (.string x.2.2)])))
section
variable {P:Program} {nm:String} {W:World} {ti tp te ts:TypeId} {ms:Array (String×TypeId)} {f:Field}
theorem Yb (hi:P.underlying ti=some (.interface ms)) (hrow:∀ u,P.typeName? 3 u=some nm->u=tp)
  (hp:P.underlying tp=some (.pointer te)) (he:P.underlying te=some (.struct #[f])) (hft:f.type=ts) (hfo:f.offset=0) (hs:P.underlying ts=some .string) (hc:P.cellsOf te=1) (hcs:P.cellsOf ts=1) :
  ∀ (L:List Sent) (ps:List MemPlace),DataW.LaidVars P W (L.map (SH nm)) ps->ps.Nodup ->
   (∀ b off,MemPlace.cell b off∈ps->(∃ c t,W.heap[b]?=some (.cells c t (0,0)))/\∀ u v,W.cell? ⟨b,off,none⟩=some (.iface u v)->Value.okWide P W .any 0 u v) ->
   (∀ x∈L,P.globalNamed x.1=some x.2.1/\(P.globals[x.2.1]?).map (·.type)=some ti) ->
   ∃ A:Nat->Addr,(∀ x∈L,W.cell? ⟨x.2.1,0,none⟩=some (.iface tp (.pointer (some (A x.2.1))))/\(∃ c t,W.heap[(A x.2.1).block]?=some (.cells c t (0,0)))/\(A x.2.1).block<W.heap.size/\MemPlace.cell (A x.2.1).block (A x.2.1).off∈ps) /\
    ∀ x∈L,∀ y∈L,x.2.1≠y.2.1->A x.2.1≠A y.2.1
 | [],_,_,_,_,_=>⟨λ_=>⟨0,0,none⟩,λx hx=>absurd hx (List.not_mem_nil),λx hx=>absurd hx (List.not_mem_nil)⟩
 | x0::L,ps,hv,hnd,hrows,hg=>by
  obtain⟨g0,t0,cs0,f0,p0,q0,hg0,ht0,hv0,hd0,hrest,e0⟩:=hv;obtain⟨hgx,htx⟩:=hg x0 (List.mem_cons_self ..);obtain rfl:=Option.some.inj (hgx.symm.trans hg0);obtain rfl:=Option.some.inj (htx.symm.trans ht0);subst e0;obtain⟨l0⟩:=cs0;have ok0:∀ u v,l0=[.iface u v]->Value.okWide P W .any 0 u v:=λu v e=>by
   subst e;exact(hrows x0.2.1 0 (by simp [MemPlace.row])).2 u v (by simpa using World.var?_cell hg0 hv0 0)
  obtain⟨a0,s0,rfl,hc0,hs0,hz0,rfl⟩:=errorString_of_trod hi hrow hp he hft hfo hs hc hcs hd0 ok0;have hcell:W.cell? ⟨x0.2.1,0,none⟩=some (.iface tp (.pointer (some a0))):=by simpa using World.var?_cell hg0 hv0 0
  have hm0:MemPlace.cell a0.block a0.off∈MemPlace.row ⟨x0.2.1,0,none⟩ ([Value.iface tp (.pointer (some a0))].toArray).size++MemPlace.row a0 1++q0:=by simp [MemPlace.row]
  obtain⟨A,h1,h2⟩:=Yb hi hrow hp he hft hfo hs hc hcs L q0 hrest (List.Nodup.sublist (List.sublist_append_right _ _) hnd) (λb off hm=>hrows b off (List.mem_append_right _ hm)) (λx hx=>hg x (List.mem_cons_of_mem _ hx));have hspot:a0.spot=none:=World.cell?_spot hc0;have bV:∀ y∈L,a0≠A y.2.1:=by
   intro y hy e;have hq:=(h1 y hy).2.2.2;rw [<- e] at hq;rw [List.nodup_append] at hnd;exact hnd.2.2 _ (by simp [MemPlace.row]) _ hq rfl
  have hhead:(∃ c t,W.heap[a0.block]?=some (.cells c t (0,0)))/\a0.block<W.heap.size:=by
   obtain⟨c,t,hb⟩:=(hrows _ _ hm0).1;exact⟨⟨c,t,hb⟩,(Array.getElem?_eq_some_iff.1 hb).1⟩
  by_cases hin:∃ y∈L,y.2.1=x0.2.1
  ·-- the same variable twice: its place would be met twice
   obtain⟨y,hy,e⟩:=hin;have hcy:=(h1 y hy).1;rw [e,hcell] at hcy;simp only [Option.some.injEq,Value.iface.injEq,Value.pointer.injEq,true_and] at hcy;exact absurd (by rw [<- e] at hcy;exact hcy) (bV y hy)
  ·have hne:∀ y∈L,y.2.1≠x0.2.1:=λy hy e=>hin ⟨y,hy,e⟩
   refine⟨λg=>if g=x0.2.1 then a0 else A g,λx hx=>?_,λx hx y hy hxy=>?_⟩
   ·rcases List.mem_cons.1 hx with rfl | hx
    ·simp only [if_true];exact⟨hcell,hhead.1,hhead.2,hm0⟩
    ·simp only [if_neg (hne x hx)];obtain⟨k1,k2,k3,k4⟩:=h1 x hx;exact⟨k1,k2,k3,List.mem_append_right _ k4⟩
   ·rcases List.mem_cons.1 hx with rfl | hx' <;> rcases List.mem_cons.1 hy with rfl | hy'
    ·exact absurd rfl hxy
    ·simp only [if_true,if_neg (hne y hy')];exact bV y hy'
    ·simp only [if_true,if_neg (hne x hx')];exact λe=>bV x hx' e.symm
    ·simp only [if_neg (hne x hx'),if_neg (hne y hy')];exact h2 x hx' y hy' hxy
end
theorem ajQ {nm:String} {W:World} {ti te ts:TypeId} {ms:Array (String×TypeId)} {f:Field} (hi:Tryz.prog.underlying ti=some (.interface ms)) (hrow:∀ u,Tryz.prog.typeName? 3 u=some nm->u=348)
  (hp:Tryz.prog.underlying 348=some (.pointer te)) (he:Tryz.prog.underlying te=some (.struct #[f])) (hft:f.type=ts) (hfo:f.offset=0) (hs:Tryz.prog.underlying ts=some .string) (hc:Tryz.prog.cellsOf te=1) (hcs:Tryz.prog.cellsOf ts=1)
  (L:List Sent) (hg:∀ x∈L,Tryz.prog.globalNamed x.1=some x.2.1/\(Tryz.prog.globals[x.2.1]?).map (·.type)=some ti) (hL:laidMet Tryz.prog (L.map (SH nm)) W):∃ A:Nat->Addr,Env (L.map (·.2.1)) 348 A W.heap.size W:=by
 obtain⟨ps,hv,hnd,hrows⟩:=hL;obtain⟨A,h1,h2⟩:=Yb hi hrow hp he hft hfo hs hc hcs L ps hv hnd hrows hg;have hS:∀ g∈L.map (·.2.1),∃ x∈L,x.2.1=g:=λg hm=>List.mem_map.1 hm
 refine⟨A,λg hm=>?_,λg hm=>?_,λg hm=>?_,λg hm k hk hgk=>?_⟩
 ·obtain⟨x,hx,rfl⟩:=hS g hm;exact(h1 x hx).1
 ·obtain⟨x,hx,rfl⟩:=hS g hm;exact(h1 x hx).2.1
 ·obtain⟨x,hx,rfl⟩:=hS g hm;exact⟨World.block_lt_of_cell? _ _ (h1 x hx).1,(h1 x hx).2.2.1⟩
 ·obtain⟨x,hx,rfl⟩:=hS g hm;obtain⟨y,hy,rfl⟩:=hS k hk;exact h2 x hx y hy hgk
end
section
open Go.RowKit
structure Turns (own:Nat->Prop) (W W':World):Prop where
 os:W'.os=W.os
 tape:W'.tape=W.tape
 output:W'.output=W.output
 size:W.heap.size<=W'.heap.size
 block:∀ k,k<W.heap.size->¬ own k->W'.heap[k]?=W.heap[k]?
structure Holds (own:Nat->Prop) (W W':World):Prop where
 size:W.heap.size<=W'.heap.size
 block:∀ k,own k->W'.heap[k]?=W.heap[k]?
section
variable {own own':Nat->Prop} {A B C:World}
theorem Turns.refl (own:Nat->Prop) (A:World):Turns own A A:=⟨rfl,rfl,rfl,Nat.le_refl _,λ_ _ _=>rfl⟩
theorem Turns.trans (h:Turns own A B) (k:Turns own B C):Turns own A C :=
 ⟨k.os.trans h.os,k.tape.trans h.tape,k.output.trans h.output,Nat.le_trans h.size k.size,λi hi ho=>(k.block i (Nat.lt_of_lt_of_le hi h.size) ho).trans (h.block i hi ho)⟩
theorem Turns.mono (h:Turns own A B) (hm:∀ k,own k->own' k):Turns own' A B:=⟨h.os,h.tape,h.output,h.size,λi hi ho=>h.block i hi (λk=>ho (hm i k))⟩
theorem Turns.of_below (h:Below A.heap.size A B):Turns own A B:=⟨h.os,h.tape,h.output,h.size,λi hi _=>h.block i hi⟩
theorem Turns.abG {b:Nat} (h:A.grownBy B (some b)) (hb:own b):Turns own A B :=
 ⟨h.os,h.tape,h.output,h.size,λi hi ho=>h.block i hi (λe=>ho (by cases e;exact hb))⟩
theorem Turns.drew (A:World):Turns own A A.drew:=⟨rfl,rfl,rfl,Nat.le_refl _,λ_ _ _=>rfl⟩
theorem Turns.alloc (A:World) (o:Obj):Turns own A (A.alloc o):=.of_below ((Below.refl _ _).alloc (Nat.le_refl _) o)
theorem Turns.setCell (A:World) {p:Addr} (hp:own p.block) (u:Value):Turns own A (A.setCell p u) :=
 ⟨rfl,rfl,rfl,by simp [World.setCell],λk _ ho=>Below.heap_setCell _ _ _ _ (λe=>ho (by rw [e];exact hp))⟩
theorem Turns.putObj (A:World) {l:Nat} (hl:own l) (o:Obj):Turns own A (A.putObj l o) :=
 ⟨rfl,rfl,rfl,by simp,λk _ ho=>World.putObj_heap_other (λe=>ho (by rw [e];exact hl))⟩
theorem Turns.below (h:Turns own A B) {n:Nat} (hn:n<=A.heap.size) (ho:∀ k,own k->n<=k):Below n A B :=
 ⟨h.os,h.tape,h.output,h.size,λk hk=>h.block k (by omega) (λe=>by have:=ho k e;omega)⟩
theorem Turns.blk (h:Turns own A B) {g:Nat} {t:TypeId} {cs:Array Value} (hb:ak A g t cs) (hg:¬ own g):ak B g t cs:=(h.block g hb.lt hg).trans hb
theorem Turns.cell (h:Turns own A B) {p:Addr} {v:Value} (hp:A.cell? p=some v) (hg:¬ own p.block):B.cell? p=some v :=
 (World.cell?_of_block (h.block p.block (World.block_lt_of_cell? A p hp) hg)).trans hp
theorem Turns.row (h:Turns own A B) {base:Nat} {e:TypeId} {size:Nat} {v:Value} {n:Nat} {xs:List Value} (hr:A.ownsRow base e size v n xs) (hg:∀ k,v.ownBlock=some k->¬ own k):B.ownsRow base e size v n xs:=by
 refine⟨hr.1,?_⟩
 rcases hr.2 with hn | ⟨g,cap,cur,rfl,hb,hgg,rest⟩
 ·exact .inl hn
 ·exact .inr ⟨g,cap,cur,rfl,hb,(h.block g (Array.getElem?_eq_some_iff.1 hgg).1 (hg g rfl)).trans hgg,rest⟩
theorem Holds.refl (own:Nat->Prop) (A:World):Holds own A A:=⟨Nat.le_refl _,λ_ _=>rfl⟩
theorem Holds.mono (h:Holds own A B) (hm:∀ k,own' k->own k):Holds own' A B:=⟨h.size,λi hi=>h.block i (hm i hi)⟩
theorem Holds.Az (h:Turns own' A B) (hl:∀ k,own k->k<A.heap.size) (hd:∀ k,own k->¬ own' k):Holds own A B:=⟨h.size,λk hk=>h.block k (hl k hk) (hd k hk)⟩
end
def Qk {α:Type} (n:Nat) (P:Program) (gf:Nat) (lb:Array Value) (encs:α->Array Value) (own keep:Nat->Prop) (ok:List α->α->Prop) (S:List α->World->Prop) (l:Nat) (W1:World):Prop :=
 ∀ (J Jx:List α->World->Prop),(∀ pre W W',J pre W->Turns own W W'->J pre W')->(∀ pre W W',Jx pre W->Turns own W W'->Jx pre W') ->
  (∀ pre x W,J pre W->ok pre x->YieldAt Fence.wide (n-1) P l (encs x) W λe W'=>(e = .returned (.bool true)/\J (pre++[x]) W'/\Holds keep W W')\/(e = .returned (.bool false)/\Jx (pre++[x]) W')) ->
  J [] W1->CallsIn Fence.wide n P gf (#[.func (.yield l) #[] #[]]++lb) W1 λe W'=>(∃ v,e = .returned v)/\((∃ xs,S xs W'/\J xs W')\/(∃ pre,Jx pre W'))
def acK {α:Type} (keep:Nat->Prop) (I:List α->World->Prop) (Ix:Code->List α->World->Prop) (l D:Nat) (xs:List α) (W:World):Exit->Act->World->Prop
 | .normal,_,W'=>Holds (λk=>keep k\/k=l\/k=D) W W'/\I xs W'
 | .ret,_,W'=>Holds (λk=>k=l\/k=D) W W'/\Ix .ret xs W'
 | .exit id,_,W'=>Holds (λk=>k=l\/k=D) W W'/\Ix (.exit id) xs W'
 | .goto t,_,W'=>Holds (λk=>k=l\/k=D) W W'/\Ix (.goto t) xs W'
 | .panic _,_,_=>False
 | .outgrown,_,_=>False
theorem Jo {α:Type} {P:Program} {n:Nat} {g:Operand} {ps:Array Tmp} {assign body:Code} {Q:Exit->Act->World->Prop} {a:Act} {w:World}
  {gf:Nat} {lb:Array Value} (hg:a.eval g = .func (.func gf) #[] lb) (eg:∀ args w,(callFunc gf args).run P w = .ok (.enter gf args) w)
  {encs:α->Array Value} {own keep:Nat->Prop} {ok:List α->α->Prop} {S:List α->World->Prop} (hown:∀ k,own k\/keep k->k<w.heap.size)
  (hit:∀ W1,Turns (λ_=>False) w W1->Qk (n-1) P gf lb encs own keep ok S (w.heap.size+1) W1)
  (hps:∀ x,(encs x).size=ps.size)
  (I:List α->World->Prop) (Ix:Code->List α->World->Prop)
  (hI:∀ pre W W',I pre W->Turns (λk=>own k\/k=w.heap.size+1) W W'->I pre W')
  (hIx:∀ c pre W W',Ix c pre W->Turns (λk=>own k\/k=w.heap.size+1) W W'->Ix c pre W')
  (h0:I [] w) (Ax:α->Act->World->Prop) (hAx:∀ x a1 W W',Ax x a1 W->Turns (λk=>k=w.heap.size+1) W W'->Ax x a1 W')
  (hassign:∀ (x:α) (W:World) (K:Act->World->Prop),w.heap.size+2<=W.heap.size->(∀ a1 W1,Turns (λ_=>False) W W1->Ax x a1 W1->K a1 W1) ->
   assign.wpIn (Fence.wide.inRound (w.heap.size+1)) (n-1-1) P (Exit.then K (λ_ _ _=>False)) { tmps:=(ps.zip (encs x)).foldl (λt (p,v)=>t.setIfInBounds p v) a.tmps,defers:=[] } W)
  (hbody:∀ (pre:List α) (x:α) (a1:Act) (W:World),w.heap.size+2<=W.heap.size->I pre W->ok pre x->Ax x a1 W ->
   body.wpIn (Fence.wide.inRound (w.heap.size+1)) (n-1-1) P (acK keep I Ix (w.heap.size+1) w.heap.size (pre++[x]) W) a1 W)
  (hdone:∀ (xs:List α) (W:World),w.heap.size+2<=W.heap.size->S xs W->I xs W->W.heap[w.heap.size]?=some (.deferred (some []))->Q .normal { a with defers:={ target:=.collected w.heap.size,args:=#[] }::a.defers } W)
  (hstop:∀ (c:Code) (pre:List α) (W:World),w.heap.size+2<=W.heap.size->Ix c pre W->W.heap[w.heap.size]?=some (.deferred (some []))->c.wpIn Fence.wide n P Q { a with defers:={ target:=.collected w.heap.size,args:=#[] }::a.defers } W)
  (hS:∀ xs W W',S xs W->Turns (λk=>k=w.heap.size+1) W W'->S xs W') :
  (Code.rangeFunc g ps assign body).wpIn Fence.wide n P Q a w:=by
 refine wpIn_rangeFunc ?_;intro fn hfn;obtain⟨rec,hrec⟩:∃ rec:LoopState->Option Code->Loop,rec=λst pe=>{ state:=st,pending:=pe,fn,tmps:=a.tmps,params:=ps,assign,body,defers:=w.heap.size }:=⟨_,rfl⟩
 obtain⟨W1,hW1⟩:∃ W1,(w.alloc (.deferred (some []))).alloc (.loop (rec .ready none))=W1:=⟨_,rfl⟩
 have hL1:W1.heap[w.heap.size+1]?=some (.loop (rec .ready none)):=by
  rw [<- hW1];have:=World.alloc_heap_new (w.alloc (.deferred (some []))) (.loop (rec .ready none));rwa [World.size_alloc] at this
 have hK1:W1.heap[w.heap.size]?=some (.deferred (some [])):=by
  rw [<- hW1];exact(Below.heap_alloc _ _ _ (by simp)).trans (World.alloc_heap_new w _)
 have hT1:∀ o,Turns o w W1:=λo=>by rw [<- hW1];exact(Turns.alloc w _).trans (Turns.alloc _ _)
 have hI1:I [] W1:=hI _ _ _ h0 (hT1 _);refine⟨w.heap.size+1,[{ target:=.collected w.heap.size,args:=#[] }],W1,{ target:=.fn (.func gf) lb,args:=#[.func (.yield (w.heap.size+1)) #[] #[]] },W1,gf,
  #[.func (.yield (w.heap.size+1)) #[] #[]]++lb,W1,?_,?_,?_,?_,λh=>by simp [Fence.wide] at h,?_⟩
 ·rw [<- hW1,hrec];exact run_enterLoop_outer _ _ _ _ _
 ·simp only [resolve,hg];simp [go_sem]
 ·intro f' _;trivial
 ·simp [invoke,go_sem,eg]
 ·have hnl:¬ own (w.heap.size+1):=λh=>by have:=hown _ (.inl h);omega
  have hnd:¬ own w.heap.size:=λh=>by have:=hown _ (.inl h);omega
  refine(hit W1 (hT1 _)
   (λpre W=>I pre W/\W.heap[w.heap.size+1]?=some (.loop (rec .ready none))/\W.heap[w.heap.size]?=some (.deferred (some [])))
   (λpre W=>∃ c,Ix c pre W/\W.heap[w.heap.size+1]?=some (.loop (rec .done (some c)))/\W.heap[w.heap.size]?=some (.deferred (some [])))
   ?_ ?_ ?_ ⟨hI1,hL1,hK1⟩).mono ?_
  ·rintro pre W W' ⟨hi,hl,hk⟩ ht;exact⟨hI _ _ _ hi (ht.mono λk=>.inl),(ht.block _ (Array.getElem?_eq_some_iff.1 hl).1 hnl).trans hl,(ht.block _ (Array.getElem?_eq_some_iff.1 hk).1 hnd).trans hk⟩
  ·rintro pre W W' ⟨c,hi,hl,hk⟩ ht;exact⟨c,hIx _ _ _ _ hi (ht.mono λk=>.inl),(ht.block _ (Array.getElem?_eq_some_iff.1 hl).1 hnl).trans hl,(ht.block _ (Array.getElem?_eq_some_iff.1 hk).1 hnd).trans hk⟩
  ·-- one round
   rintro pre x W ⟨hi,hl,hk⟩ hok;have hlt:w.heap.size+1<W.heap.size:=(Array.getElem?_eq_some_iff.1 hl).1;have hy:=run_yield (P:=P) (args:=encs x) hl (by rw [hrec];exact hps x);rw [hrec] at hy;refine⟨fn,_,assign,body,hy,roundIn_of_wpIn hfn (hassign x W _ (by omega) λa1 Wa ha hax=>?_)⟩;have hla:Wa.heap[w.heap.size+1]?=some (.loop (rec .ready none)):=(ha.block _ hlt (λh=>h)).trans hl;have hka:Wa.heap[w.heap.size]?=some (.deferred (some [])):=(ha.block _ (by omega) (λh=>h)).trans hk;have Ld:w.heap.size+1<Wa.heap.size:=(Array.getElem?_eq_some_iff.1 hla).1;refine⟨_,run_beginRound hla (by rw [hrec]),?_⟩;obtain⟨Wb,qK⟩:∃ Wb,Wa.putObj (w.heap.size+1) (.loop { rec .ready none with state:=.busy })=Wb:=⟨_,rfl⟩
   rw [qK];have htb:∀ o:Nat->Prop,o (w.heap.size+1)->Turns o Wa Wb:=λo ho=>by rw [<- qK];exact Turns.putObj _ ho _
   have hlb:Wb.heap[w.heap.size+1]?=some (.loop { rec .ready none with state:=.busy }):=by rw [<- qK];exact World.putObj_heap_same Ld
   have hkb:Wb.heap[w.heap.size]?=some (.deferred (some [])):=by rw [<- qK];exact(World.putObj_heap_other (by omega)).trans hka
   have hsb:Wb.heap.size=Wa.heap.size:=by rw [<- qK];simp
   refine wpIn_mono (hbody pre x a1 Wb (by omega) (hI _ _ _ hi ((ha.mono λ_ h=>h.elim).trans (htb _ (.inr rfl)))) hok (hAx _ _ _ _ hax (htb _ rfl))) ?_;have fin:∀ (jump:Option Code) (W3:World),Holds (λk=>k=w.heap.size+1\/k=w.heap.size) Wb W3 ->
     (Instr.endRound (w.heap.size+1) jump).run P W3 = .ok (.bool jump.isNone) (W3.putObj (w.heap.size+1) (.loop (rec (if jump.isNone then .ready else .done) jump))) /\
     (W3.putObj (w.heap.size+1) (.loop (rec (if jump.isNone then .ready else .done) jump))).heap[w.heap.size+1]?=some (.loop (rec (if jump.isNone then .ready else .done) jump)) /\
     (W3.putObj (w.heap.size+1) (.loop (rec (if jump.isNone then .ready else .done) jump))).heap[w.heap.size]?=some (.deferred (some [])):=λjump W3 hk3=>by
    have hl3:=(hk3.block _ (.inl rfl)).trans hlb;have:=run_endRound (P:=P) jump hl3;rw [hrec] at this ⊢;exact⟨this,World.putObj_heap_same (Array.getElem?_eq_some_iff.1 hl3).1,(World.putObj_heap_other (by omega)).trans ((hk3.block _ (.inr rfl)).trans hkb)⟩
   rintro e a3 W3 hp
   cases e with
   | normal =>
    obtain⟨hh,hi3⟩:=hp;obtain⟨hr,hl4,hk4⟩:=fin none W3 (hh.mono λ_ h=>.inr h);refine⟨_,_,hr, .inl ⟨rfl,⟨hI _ _ _ hi3 (Turns.putObj _ (.inr rfl) _),hl4,hk4⟩,?_⟩⟩;refine⟨?_,λk ho=>?_⟩
    ·have:=ha.size;have:=hh.size;simp;omega
    ·have hkw:=hown k (.inr ho);rw [World.putObj_heap_other (by omega),hh.block k (.inl ho),<- qK,World.putObj_heap_other (by omega)];exact ha.block k (by omega) (λh=>h)
   | ret =>
    obtain⟨hh,hi3⟩:=hp;obtain⟨hr,hl4,hk4⟩:=fin (some .ret) W3 hh;exact⟨_,_,hr, .inr ⟨rfl, .ret,hIx _ _ _ _ hi3 (Turns.putObj _ (.inr rfl) _),hl4,hk4⟩⟩
   | exit id =>
    obtain⟨hh,hi3⟩:=hp;obtain⟨hr,hl4,hk4⟩:=fin (some (.exit id)) W3 hh;exact⟨_,_,hr, .inr ⟨rfl, .exit id,hIx _ _ _ _ hi3 (Turns.putObj _ (.inr rfl) _),hl4,hk4⟩⟩
   | goto t =>
    obtain⟨hh,hi3⟩:=hp;obtain⟨hr,hl4,hk4⟩:=fin (some (.goto t)) W3 hh;exact⟨_,_,hr, .inr ⟨rfl, .goto t,hIx _ _ _ _ hi3 (Turns.putObj _ (.inr rfl) _),hl4,hk4⟩⟩
   | panic ch=>exact hp.elim
   | outgrown=>exact hp.elim
  ·-- behind the iterator
   rintro e W2 ⟨⟨v,rfl⟩,(⟨xs,KP,hi,hl,hk⟩ | ⟨pre,c,hi,hl,hk⟩)⟩
   ·have hlt:=(Array.getElem?_eq_some_iff.1 hl).1;exact⟨none,_,by have:=run_endLoop (P:=P) hl (by rw [hrec];simp);rw [hrec] at this;exact this,
     hdone xs _ (by simp;omega) (hS _ _ _ KP (Turns.putObj (own:=λk=>k=w.heap.size+1) _ rfl _)) (hI _ _ _ hi (Turns.putObj _ (.inr rfl) _)) ((World.putObj_heap_other (by omega)).trans hk)⟩
   ·have hlt:=(Array.getElem?_eq_some_iff.1 hl).1;exact⟨some c,_,by have:=run_endLoop (P:=P) hl (by rw [hrec];simp);rw [hrec] at this;exact this,
     hstop c pre _ (by simp;omega) (hIx _ _ _ _ hi (Turns.putObj _ (.inr rfl) _)) ((World.putObj_heap_other (by omega)).trans hk)⟩
end
namespace N
abbrev Item:=Int×Int
def Ip:List Item->Nat->Nat
 | [],n=>2 ^ n
 | x::t,n=>if x.2=0 then 2 ^ n else 2 ^ n ||| Ip t (n+2)
def clo (l:List Item) (n:Nat):Nat:=if n % 2=1 then 2 ^ n else Ip (l.drop (n / 2)) n
def kU (set c:Int):Bool:=decide (0<=set)&&decide (set<4294967296)&&decide (0<=c)&&decide (c<32)&&decide (set.toNat.testBit c.toNat=true)
def setAt (l:List Item) (i:Nat):Int:=(l.getD i (0,0)).1
def iM (l:List Item) (i:Nat):Int:=(l.getD i (0,0)).2
def goto (l:List Item) (n:Nat):Nat:=if n % 2=1 then n-1 else if iM l (n / 2)=0 then n+2 else if iM l (n / 2)=1 then n else n+1
def goes (l:List Item) (S:Nat) (c:Int) (n:Nat):Bool:=S.testBit n&&kU (setAt l (n / 2)) c
def fill (l:List Item) (S:Nat) (c:Int) (init:Nat) (k:Nat):Nat:=(List.range k).foldl (λout n=>if goes l S c n=true then out ||| clo l (goto l n) else out) init
def init (l:List Item) (start:Bool):Nat:=if start then 0 else clo l 0
def step (l:List Item) (start:Bool) (S:Nat) (c:Int):Nat:=fill l S c (init l start) (2*l.length)
def most (l:List Item):Nat:=2 ^ (2*l.length+1)-1
def VA (l:List Item) (S:Nat):Bool:=S.testBit (2*l.length)
theorem QF (l:List Item) (S:Nat) (c:Int) (a k:Nat):fill l S c a (k+1)=if goes l S c k=true then fill l S c a k ||| clo l (goto l k) else fill l S c a k:=by
 unfold fill;rw [List.range_succ,List.foldl_append]
 rfl
theorem abH (l:List Item) (S:Nat) (c:Int) (a b:Nat):∀ k,fill l S c (a ||| b) k=fill l S c a k ||| b
 | 0=>rfl
 | k+1=>by
  rw [QF,QF,abH l S c a b k]
  split
  ·rw [Nat.or_assoc,Nat.or_comm b,<- Nat.or_assoc]
  ·rfl
theorem amL (l:List Item) (S:Nat) (c:Int) (b k:Nat):fill l S c 0 k ||| b=fill l S c b k:=by
 have:=abH l S c 0 b k;rw [Nat.zero_or] at this;exact this.symm
theorem ahQ (l:List Item):∀ n k,n+2*l.length<=k->Ip l n<2 ^ (k+1):=by
 induction l with
 | nil=>intro n k h;exact Nat.pow_lt_pow_right (by omega) (by simp at h;omega)
 | cons x t ih =>
  intro n k h;simp only [List.length_cons] at h;have h0:2 ^ n<2 ^ (k+1):=Nat.pow_lt_pow_right (by omega) (by omega);unfold Ip
  split
  ·exact h0
  ·exact Nat.or_lt_two_pow h0 (ih (n+2) k (by omega))
theorem Tn (l:List Item) (n:Nat) (h:n<=2*l.length):clo l n<2 ^ (2*l.length+1):=by
 unfold clo
 split
 ·exact Nat.pow_lt_pow_right (by omega) (by omega)
 ·exact ahQ _ _ _ (by rw [List.length_drop];omega)
theorem Zm (l:List Item) (n:Nat) (h:n<2*l.length):goto l n<=2*l.length:=by
 unfold goto;repeat' (first | omega | split)
theorem UK (l:List Item) (S:Nat) (c:Int) (a:Nat) (ha:a<2 ^ (2*l.length+1)):∀ k,k<=2*l.length->fill l S c a k<2 ^ (2*l.length+1)
 | 0,_=>ha
 | k+1,h=>by
  rw [QF];have ih:=UK l S c a ha k (by omega)
  split
  ·exact Nat.or_lt_two_pow ih (Tn l _ (Zm l k (by omega)))
  ·exact ih
theorem ahm (l:List Item) (start:Bool):init l start<2 ^ (2*l.length+1):=by
 unfold init
 split
 ·exact Nat.pow_pos (by omega)
 ·exact Tn l 0 (by omega)
theorem ahd (l:List Item) (start:Bool) (S:Nat) (c:Int):step l start S c<2 ^ (2*l.length+1):=UK l S c _ (ahm l start) _ (Nat.le_refl _)
end N
section
open Go.RowKit
def setB (set:Int):Bool:=decide (0<=set)&&decide (set<4294967296)
theorem QD (k:Nat) (h:k<=40):(2:Int) ^ k<=1099511627776:=by
 have h2:2 ^ k<=2 ^ 40:=Nat.pow_le_pow_right (by omega) h;rw [show (2:Int) ^ k=((2 ^ k:Nat):Int) by simp];omega
theorem Rt (n:Nat) (w:World) (hn:n<=40) :
  Calls Tryz.prog 192 #[.int .i64 n] w λe w'=>e = .returned (.int .i64 ((2 ^ n:Nat):Int))/\w=w':=by
 go_enter Tryz.func192,Tryz.ntmps192
 go_wp2
 go_loop [4,3] (λi o=>∃ (k:Nat) (x:Int),k<=n/\i = .int .i64 k/\o = .int .i64 x/\0<=x/\x<=1099511627776/\Box (x=2 ^ k)) (λi _=>n-(intOf i).toNat)
 case atStart=>exact⟨0,1,by omega,rfl,rfl,by omega,by omega,⟨rfl⟩⟩
 case round =>
  obtain⟨k,x,hk,rfl,rfl,hx0,hx1,hx⟩:=hrel
  by_cases hlt:k<n
  ·have h2:=QD (k+1) (by omega);have HX:=bx (show 2*x=2 ^ (k+1) by rw [hx.o,Int.pow_succ];omega);have HY:=bx (show 2*x<=1099511627776 by rw [HX.o];exact h2);clear h2
   go_wp2
   go_round
   case rel=>exact⟨k+1,2*x,hlt,by go_num,rfl,by omega,HY.o,HX⟩
   case measure=>simp [intOf];omega
  ·obtain rfl:k=n:=by omega
   go_wp2
   go_ret
   exact⟨by rw [hx.o];simp,rfl⟩
theorem OH (n:Nat) (w:World) (hn:n<=40) :
  Calls Tryz.prog 209 #[.int .i64 n] w λe w'=>e = .returned (.int .i64 ((2 ^ n:Nat):Int))/\w=w':=by
 go_enter Tryz.func209,Tryz.ntmps209
 go_wp2
 go_loop [4,3] (λi o=>∃ (k:Nat) (x:Int),k<=n/\i = .int .i64 k/\o = .int .i64 x/\0<=x/\x<=1099511627776/\Box (x=2 ^ k)) (λi _=>n-(intOf i).toNat)
 case atStart=>exact⟨0,1,by omega,rfl,rfl,by omega,by omega,⟨rfl⟩⟩
 case round =>
  obtain⟨k,x,hk,rfl,rfl,hx0,hx1,hx⟩:=hrel
  by_cases hlt:k<n
  ·have h2:=QD (k+1) (by omega);have HX:=bx (show 2*x=2 ^ (k+1) by rw [hx.o,Int.pow_succ];omega);have HY:=bx (show 2*x<=1099511627776 by rw [HX.o];exact h2);clear h2
   go_wp2
   go_round
   case rel=>exact⟨k+1,2*x,hlt,by go_num,rfl,by omega,HY.o,HX⟩
   case measure=>simp [intOf];omega
  ·obtain rfl:k=n:=by omega
   go_wp2
   go_ret
   exact⟨by rw [hx.o];simp,rfl⟩
theorem Oo (set:Int) (w:World) :
  Calls Tryz.prog 222 #[.int .i64 set, .int .i64 32] w λe w'=>e = .returned (.bool (setB set))/\w=w':=by
 unfold setB
 by_cases h0:0<=set
 ·go_enter Tryz.func222,Tryz.ntmps222
  go_wp2
  all_goals go_ret
  all_goals refine⟨aI ?_,rfl⟩
  all_goals (rw [Bool.eq_iff_iff];simp;omega)
 ·go_enter Tryz.func222,Tryz.ntmps222
  go_wp2
  go_ret
  exact⟨aI (by simp;omega),rfl⟩
theorem and_1 (x:Int) (h0:0<=x) (h1:x<9223372036854775808):bits .and .i64 x 1=x % 2:=by
 obtain⟨k,rfl⟩:=Int.eq_ofNat_of_zero_le h0;have:=ac3 k 1 (by omega) (by omega);rw [show ((1:Nat):Int)=1 from rfl] at this;rw [this,Nat.and_one_is_mod];omega
theorem acQ (S n:Nat) (h:S<9223372036854775808):(bits .and .i64 ((S:Int) / 2 ^ n) 1==1)=S.testBit n:=by
 have hd:(S:Int) / 2 ^ n=((S / 2 ^ n:Nat):Int):=by simp
 have hle:S / 2 ^ n<=S:=Nat.div_le_self _ _;rw [hd,Nat.testBit_eq_decide_div_mod_eq];generalize S / 2 ^ n=z at hle;rw [and_1 _ (by omega) (by omega),Bool.eq_iff_iff];simp only [beq_iff_eq,decide_eq_true_eq];omega
theorem RQ (set n:Int) (w:World):Calls Tryz.prog 218 #[.int .i64 set, .int .i64 n] w λe w'=>e = .returned (.bool (N.kU set n))/\w=w':=by
 unfold N.kU
 by_cases hs:setB set=true
 ·have HS:=bx hs;unfold setB at hs;simp only [Bool.and_eq_true,decide_eq_true_eq] at hs;obtain⟨h0,h1⟩:=hs
  by_cases hn:0<=n/\n<32
  ·obtain⟨h2,h3⟩:=hn
   go_enter Tryz.func218,Tryz.ntmps218
   go_wp2_with fail;refine(Oo set _).mono ?_;rintro e w1 ⟨rfl,rfl⟩;rw [HS.o];go_wp2_with fail;go_ret
   refine⟨aI ?_,rfl⟩;obtain⟨S,rfl⟩:=Int.eq_ofNat_of_zero_le h0;rw [acQ S _ (by omega)];simp [h1,h2,h3]
  ·have hn':n<0\/(0<=n/\32<=n):=by omega
   rcases hn' with h | ⟨h,h'⟩
   all_goals
    go_enter Tryz.func218,Tryz.ntmps218
    go_wp2_with fail;refine(Oo set _).mono ?_;rintro e w1 ⟨rfl,rfl⟩;rw [HS.o];go_wp2_with fail;go_ret
    refine⟨aI ?_,rfl⟩;simp;omega
 ·have HS:=bx (show setB set=false by simpa using hs)
  go_enter Tryz.func218,Tryz.ntmps218
  go_wp2_with fail;refine(Oo set _).mono ?_;rintro e w1 ⟨rfl,rfl⟩;rw [HS.o];go_wp2_with fail;go_ret
  refine⟨aI ?_,rfl⟩;have:=HS.o;unfold setB at this;rw [this];rfl
theorem E5 (set:Int) (w:World) :
  Calls Tryz.prog 190 #[.int .i64 set, .int .i64 32] w λe w'=>e = .returned (.bool (setB set))/\w=w':=by
 unfold setB
 by_cases h0:0<=set
 ·go_enter Tryz.func190,Tryz.ntmps190
  go_wp2_with fail;refine(OH 32 _ (by omega)).mono ?_;rintro e w1 ⟨rfl,rfl⟩;go_wp2_with fail;go_ret
  refine⟨aI ?_,rfl⟩;rw [Bool.eq_iff_iff];simp;omega
 ·go_enter Tryz.func190,Tryz.ntmps190
  go_wp2_with fail;go_ret
  exact⟨aI (by simp;omega),rfl⟩
theorem VY (S n:Nat):((S:Int) / ((2 ^ n:Nat):Int) % 2==1)=S.testBit n:=by
 have hd:(S:Int) / ((2 ^ n:Nat):Int)=((S / 2 ^ n:Nat):Int):=by simp
 rw [hd,Nat.testBit_eq_decide_div_mod_eq,Bool.eq_iff_iff];generalize S / 2 ^ n=z;simp only [beq_iff_eq,decide_eq_true_eq];omega
theorem Rl (S q:Nat):0<=(S:Int) / (q:Int)/\(S:Int) / (q:Int)<=S:=by
 have h:=Nat.div_le_self S q;rw [show (S:Int) / (q:Int)=((S / q:Nat):Int) by simp];exact⟨Int.natCast_nonneg _,by exact_mod_cast h⟩
theorem G9 (set n:Int) (w:World):Calls Tryz.prog 210 #[.int .i64 set, .int .i64 n] w λe w'=>e = .returned (.bool (N.kU set n))/\w=w':=by
 unfold N.kU
 by_cases hs:setB set=true
 ·have HS:=bx hs;unfold setB at hs;simp only [Bool.and_eq_true,decide_eq_true_eq] at hs;obtain⟨h0,h1⟩:=hs
  by_cases hn:0<=n/\n<32
  ·obtain⟨h2,h3⟩:=hn;obtain⟨m,rfl⟩:=Int.eq_ofNat_of_zero_le h2;have hp:0<2 ^ m:=Nat.two_pow_pos m;obtain⟨q,hq⟩:∃ q,2 ^ m=q:=⟨_,rfl⟩
   have hq0:0<q:=by rw [<- hq];exact hp
   have HQ:=bx hq;obtain⟨S,rfl⟩:=Int.eq_ofNat_of_zero_le h0;obtain⟨d0,d1⟩:=Rl S q;have d2:(S:Int) / (q:Int)<4294967296:=by omega
   clear hq hp
   go_enter Tryz.func210,Tryz.ntmps210
   go_wp2_with fail;refine(E5 S _).mono ?_;rintro e w1 ⟨rfl,rfl⟩;rw [HS.o];go_wp2_with fail;refine(OH m _ (by omega)).mono ?_;rintro e w1 ⟨rfl,rfl⟩;rw [HQ.o];go_wp2_with fail;go_ret
   refine⟨aI ?_,rfl⟩;rw [<- HQ.o,VY];simp [h1,h3]
  ·have hn':n<0\/(0<=n/\32<=n):=by omega
   rcases hn' with h | ⟨h,h'⟩
   all_goals
    go_enter Tryz.func210,Tryz.ntmps210
    go_wp2_with fail;refine(E5 set _).mono ?_;rintro e w1 ⟨rfl,rfl⟩;rw [HS.o];go_wp2_with fail;go_ret
    refine⟨aI ?_,rfl⟩;simp;omega
 ·have HS:=bx (show setB set=false by simpa using hs)
  go_enter Tryz.func210,Tryz.ntmps210
  go_wp2_with fail;refine(E5 set _).mono ?_;rintro e w1 ⟨rfl,rfl⟩;rw [HS.o];go_wp2_with fail;go_ret
  refine⟨aI ?_,rfl⟩;have:=HS.o;unfold setB at this;rw [this];rfl
theorem EK (S n:Nat) (w:World) (hn:n<=40) (hS:S<4611686018427387904):Calls Tryz.prog 191 #[.int .i64 S, .int .i64 n] w λe w'=>e = .returned (.bool (S.testBit n))/\w=w':=by
 have hp:0<2 ^ n:=Nat.two_pow_pos n;obtain⟨q,hq⟩:∃ q,2 ^ n=q:=⟨_,rfl⟩
 have hq0:0<q:=by rw [<- hq];exact hp
 have HQ:=bx hq;obtain⟨d0,d1⟩:=Rl S q;have d2:(S:Int) / (q:Int)<4611686018427387904:=by omega
 clear hq hp
 go_enter Tryz.func191,Tryz.ntmps191
 go_wp2_with fail;refine(Rt n _ hn).mono ?_;rintro e w1 ⟨rfl,rfl⟩;rw [HQ.o];go_wp2_with fail;go_ret
 refine⟨aI ?_,rfl⟩;rw [<- HQ.o,VY]
end
end Go.Proofs.YtlmdjifffmofeaaGreatDoor
