/- Texts of this claim. -/
import Derived.KernelRfl
import Derived.Test.YtdenoeakcflnmaaGreatDoorProg
import Derived.WalkKit
import Derived.WalkSpells
import Derived.WalkLawsBesides
import Derived.Handy
import Derived.Lib.Hide
import Derived.Deep.QuietTactic
import Derived.BigQuiet
import Derived.Deep.RegionHeld3
import Derived.Deep.RegionWith
import Derived.Deep.DeepCutAuto
import Derived.StillTailTactics
import Derived.MapKept
import Derived.LaidEql
import Derived.Stop.Asserts
import Derived.Stop.LaidTwo
import Derived.RowKitTokens
import Derived.Laws.OwnMore
import Derived.Deep.Draws
import Derived.Stop.LaidErr
import Derived.ProofKit
import Derived.Deep.SlicePairs
import Derived.Lib.SmallJoins
import Derived.DataReads

set_option maxHeartbeats 2000000
namespace Go.Proofs.YtdenoeakcflnmaaGreatDoor
namespace U
def aN (c:Int):Int:=if c<128 then 0 else if c<194 then -1 else if c<224 then 1 else if c<240 then 2 else if c<245 then 3 else -1
def cO (c:Int):Int:=if aN c<0 then 0 else if c=224 then 160 else if c=240 then 144 else 128
def bZ (c:Int):Int:=if aN c<0 then 0 else if c=237 then 159 else if c=244 then 143 else 191
def fM (c:Int):Int:=if aN c<0 then 0 else if c<128 then 0 else if c<224 then 192 else if c<240 then 224 else 240
def right (r:Int):Bool:=decide (0<=r)&&decide (r<=1114111)&&(decide (r<55296)||decide (57343<r))
def gW (c:UInt8):Bool:=decide (128<=c.toNat)&&decide (c.toNat<=191)
def ak (c:UInt8):Int:=(c.toNat:Int)
def fold (a:Int) (l:List UInt8):Int:=l.foldl (λa c=>64*a+ak c-128) a
def oV (c:Int) (l:List UInt8):Bool :=
 decide (aN c<=(l.length:Int))&&(l.take (aN c).toNat).all gW &&
  (match l.take (aN c).toNat with | []=>true | d::_=>decide (cO c<=ak d)&&decide (ak d<=bZ c))
def dec:List UInt8->Option (Int×Nat)
 | []=>none
 | c::l=>if aN (ak c)<0 then none else if oV (ak c) l then some (fold (ak c-fM (ak c)) (l.take (aN (ak c)).toNat),(aN (ak c)).toNat+1) else none
def byte (n:Int):UInt8:=UInt8.ofNat n.toNat
def enc (r:Int):List UInt8 :=
 if r<128 then [byte r]
 else if r<2048 then [byte (192+r / 64),byte (128+r % 64)]
 else if r<65536 then [byte (224+r / 4096),byte (128+r / 64 % 64),byte (128+r % 64)]
 else [byte (240+r / 262144),byte (128+r / 4096 % 64),byte (128+r / 64 % 64),byte (128+r % 64)]
theorem jm (c:UInt8):0<=ak c:=by unfold ak;omega
theorem jG (c:UInt8):ak c<256:=by unfold ak;have:=c.toNat_lt;omega
theorem vS (n:Int) (h0:0<=n) (h1:n<256):ak (byte n)=n:=by
 unfold ak byte;rw [UInt8.toNat_ofNat'];have:n.toNat % 2 ^ 8=n.toNat:=Nat.mod_eq_of_lt (by omega);rw [this];omega
theorem Tt {c d:UInt8} (h:ak c=ak d):c=d:=by
 apply UInt8.toNat_inj.1;unfold ak at h;omega
theorem aaY (c:UInt8):byte (ak c)=c:=Tt (vS _ (jm c) (jG c))
theorem Ad {n:Int} {c:UInt8} (h:n=ak c):byte n=c:=by rw [h,aaY]
theorem lU (c:UInt8):gW c=true↔128<=ak c/\ak c<=191:=by
 unfold gW ak;simp;omega
theorem YV (c:UInt8):gW c=false↔ak c<128\/191<ak c:=by
 rw [<- Bool.not_eq_true,lU];omega
theorem BO (r:Int):right r=true↔0<=r/\r<=1114111/\(r<55296\/57343<r):=by
 unfold right;simp;omega
theorem Kz (r:Int):1<=(enc r).length/\(enc r).length<=4:=by
 unfold enc;repeat' (first | split | simp)
theorem Oa (r:Int) (h:right r=true) (t:List UInt8):dec (enc r++t)=some (r,(enc r).length):=by
 rw [BO] at h;obtain⟨h0,h1,h2⟩:=h;unfold enc
 split
 ·simp only [List.cons_append,List.nil_append,dec];rw [vS r h0 (by omega)];have e1:aN r=0:=by unfold aN;rw [if_pos (by omega)]
  have e2:fM r=0:=by unfold fM;rw [e1];simp;omega
  simp [e1,e2,oV,fold]
 ·split
  ·simp only [List.cons_append,List.nil_append,dec];rw [vS (192+r / 64) (by omega) (by omega)];have e1:aN (192+r / 64)=1:=by unfold aN;rw [if_neg (by omega),if_neg (by omega),if_pos (by omega)]
   have e2:fM (192+r / 64)=192:=by unfold fM;rw [e1,if_neg (by omega),if_neg (by omega),if_pos (by omega)]
   have e3:cO (192+r / 64)=128:=by unfold cO;rw [e1,if_neg (by omega),if_neg (by omega),if_neg (by omega)]
   have e4:bZ (192+r / 64)=191:=by unfold bZ;rw [e1,if_neg (by omega),if_neg (by omega),if_neg (by omega)]
   have b1:=vS (128+r % 64) (by omega) (by omega);have t1:gW (byte (128+r % 64))=true:=by rw [lU,b1];omega
   simp [e1,e2,e3,e4,oV,fold,t1,b1]
   constructor <;> omega
  ·split
   ·simp only [List.cons_append,List.nil_append,dec];rw [vS (224+r / 4096) (by omega) (by omega)];have e1:aN (224+r / 4096)=2:=by unfold aN;rw [if_neg (by omega),if_neg (by omega),if_neg (by omega),if_pos (by omega)]
    have e2:fM (224+r / 4096)=224:=by unfold fM;rw [e1,if_neg (by omega),if_neg (by omega),if_neg (by omega),if_pos (by omega)]
    have b1:=vS (128+r / 64 % 64) (by omega) (by omega);have b2:=vS (128+r % 64) (by omega) (by omega);have t1:gW (byte (128+r / 64 % 64))=true:=by rw [lU,b1];omega
    have t2:gW (byte (128+r % 64))=true:=by rw [lU,b2];omega
    have e3:cO (224+r / 4096)<=128+r / 64 % 64:=by unfold cO;rw [e1];repeat' (first | omega | split)
    have e4:128+r / 64 % 64<=bZ (224+r / 4096):=by unfold bZ;rw [e1];repeat' (first | omega | split)
    have e5:(2:Int)<=(t.length:Int)+1+1:=by omega
    simp [e1,e2,e3,e4,e5,oV,fold,t1,t2,b1,b2];omega
   ·simp only [List.cons_append,List.nil_append,dec];rw [vS (240+r / 262144) (by omega) (by omega)];have e1:aN (240+r / 262144)=3:=by unfold aN;rw [if_neg (by omega),if_neg (by omega),if_neg (by omega),if_neg (by omega),if_pos (by omega)]
    have e2:fM (240+r / 262144)=240:=by unfold fM;rw [e1,if_neg (by omega),if_neg (by omega),if_neg (by omega),if_neg (by omega)]
    have b1:=vS (128+r / 4096 % 64) (by omega) (by omega);have b2:=vS (128+r / 64 % 64) (by omega) (by omega);have b3:=vS (128+r % 64) (by omega) (by omega);have t1:gW (byte (128+r / 4096 % 64))=true:=by rw [lU,b1];omega
    have t2:gW (byte (128+r / 64 % 64))=true:=by rw [lU,b2];omega
    have t3:gW (byte (128+r % 64))=true:=by rw [lU,b3];omega
    have e3:cO (240+r / 262144)<=128+r / 4096 % 64:=by unfold cO;rw [e1];repeat' (first | omega | split)
    have e4:128+r / 4096 % 64<=bZ (240+r / 262144):=by unfold bZ;rw [e1];repeat' (first | omega | split)
    have e5:(3:Int)<=(t.length:Int)+1+1+1:=by omega
    simp [e1,e2,e3,e4,e5,oV,fold,t1,t2,t3,b1,b2,b3];omega
theorem wQ (c:Int):aN c=-1\/aN c=0\/aN c=1\/aN c=2\/aN c=3:=by unfold aN;repeat' (first | omega | split)
theorem KT (c:Int) (h:aN c=0):c<128:=by unfold aN at h;split at h;assumption;repeat' (first | omega | split at h)
theorem Jb (c:Int) (h:aN c=1):194<=c/\c<224:=by unfold aN at h;repeat' (first | omega | split at h)
theorem Ky (c:Int) (h:aN c=2):224<=c/\c<240:=by unfold aN at h;repeat' (first | omega | split at h)
theorem Lc (c:Int) (h:aN c=3):240<=c/\c<245:=by unfold aN at h;repeat' (first | omega | split at h)
theorem Ec (c:Int) (h:0<=aN c):128<=cO c/\(c=224->cO c=160)/\(c=240->cO c=144):=by
 unfold cO;rw [if_neg (by omega)];repeat' (first | omega | split)
theorem D8 (c:Int) (h:0<=aN c):bZ c<=191/\(c=237->bZ c=159)/\(c=244->bZ c=143):=by
 unfold bZ;rw [if_neg (by omega)];repeat' (first | omega | split)
theorem tail_range {c:UInt8} (h:gW c=true):128<=ak c/\ak c<=191:=(lU c).1 h
theorem zh {s:List UInt8} {r:Int} {n:Nat} (h:dec s=some (r,n)):right r=true/\enc r=s.take n/\1<=n/\n<=4/\n<=s.length:=by
 cases s with
 | nil=>simp [dec] at h
 | cons c l =>
  have c0:=jm c;simp only [dec] at h
  split at h
  ·cases h
  rename_i hn
  split at h
  case isFalse=>cases h
  rename_i ht
  simp only [Option.some.injEq,Prod.mk.injEq] at h;obtain⟨rfl,rfl⟩:=h;simp only [oV,Bool.and_eq_true,decide_eq_true_eq] at ht;obtain⟨⟨hlen,hall⟩,hd⟩:=ht
  rcases wQ (ak c) with e | e | e | e | e
  ·omega
  ·have hc:=KT _ e;have em:fM (ak c)=0:=by unfold fM;rw [e];simp;omega
   simp only [e,em,Int.toNat_zero,List.take_zero,fold,List.foldl_nil,Int.sub_zero,Nat.zero_add,List.take_succ_cons];refine⟨by rw [BO];omega,?_,by omega,by omega,by simp⟩;unfold enc;rw [if_pos hc,aaY]
  ·have hc:=Jb _ e;have em:fM (ak c)=192:=by unfold fM;rw [e,if_neg (by omega),if_neg (by omega),if_pos (by omega)]
   rcases l with _ | ⟨d1,l⟩
   ·simp [e] at hlen
   ·
    simp only [e,Int.toNat_one,List.take_succ_cons,List.take_zero,List.all_cons,List.all_nil,Bool.and_true] at hall;have t1:=tail_range hall;simp only [e,em,Int.toNat_one,List.take_succ_cons,List.take_zero,fold,List.foldl_cons,List.foldl_nil];refine And.intro ((BO _).2 (by omega)) (And.intro ?_ (And.intro (by omega) (And.intro (by omega) (by simp))));unfold enc;rw [if_neg (by omega),if_pos (by omega)];simp only [List.cons.injEq,and_true];exact⟨Ad (by omega),Ad (by omega)⟩
  ·have hc:=Ky _ e;have em:fM (ak c)=224:=by unfold fM;rw [e,if_neg (by omega),if_neg (by omega),if_neg (by omega),if_pos (by omega)]
   have hlo:=Ec (ak c) (by omega);have hhi:=D8 (ak c) (by omega)
   rcases l with _ | ⟨d1,l⟩
   ·simp [e] at hlen
   rcases l with _ | ⟨d2,l⟩
   ·simp [e] at hlen
   ·
    have e2:(2:Int).toNat=2:=rfl;simp only [e,e2,List.take_succ_cons,List.take_zero,List.all_cons,List.all_nil,Bool.and_true,Bool.and_eq_true] at hall;simp only [e,e2,List.take_succ_cons,List.take_zero,Bool.and_eq_true,decide_eq_true_eq] at hd;have t1:=tail_range hall.1;have t2:=tail_range hall.2;simp only [e,e2,em,List.take_succ_cons,List.take_zero,fold,List.foldl_cons,List.foldl_nil];refine And.intro ((BO _).2 (by omega)) (And.intro ?_ (And.intro (by omega) (And.intro (by omega) (by simp))));unfold enc;rw [if_neg (by omega),if_neg (by omega),if_pos (by omega)];simp only [List.cons.injEq,and_true];exact⟨Ad (by omega),Ad (by omega),Ad (by omega)⟩
  ·have hc:=Lc _ e;have em:fM (ak c)=240:=by unfold fM;rw [e,if_neg (by omega),if_neg (by omega),if_neg (by omega),if_neg (by omega)]
   have hlo:=Ec (ak c) (by omega);have hhi:=D8 (ak c) (by omega)
   rcases l with _ | ⟨d1,l⟩
   ·simp [e] at hlen
   rcases l with _ | ⟨d2,l⟩
   ·simp [e] at hlen
   rcases l with _ | ⟨d3,l⟩
   ·simp [e] at hlen
   ·
    have e2:(3:Int).toNat=3:=rfl;simp only [e,e2,List.take_succ_cons,List.take_zero,List.all_cons,List.all_nil,Bool.and_true,Bool.and_eq_true] at hall;simp only [e,e2,List.take_succ_cons,List.take_zero,Bool.and_eq_true,decide_eq_true_eq] at hd;have t1:=tail_range hall.1;have t2:=tail_range hall.2.1;have t3:=tail_range hall.2.2;simp only [e,e2,em,List.take_succ_cons,List.take_zero,fold,List.foldl_cons,List.foldl_nil];refine And.intro ((BO _).2 (by omega)) (And.intro ?_ (And.intro (by omega) (And.intro (by omega) (by simp))));unfold enc;rw [if_neg (by omega),if_neg (by omega),if_neg (by omega)];simp only [List.cons.injEq,and_true];exact⟨Ad (by omega),Ad (by omega),Ad (by omega),Ad (by omega)⟩
def aT:Nat->List UInt8->Option (List Int)
 | 0,s=>if s=[] then some [] else none
 | k+1,s=>if s=[] then some [] else
  match dec s with
  | none=>none
  | some (r,n)=>(aT k (s.drop n)).map (r::·)
def scalars (s:List UInt8):Option (List Int):=aT s.length s
def valid (s:List UInt8):Bool:=(scalars s).isSome
def textOf (l:List Int):List UInt8:=l.flatMap enc
theorem anp (k:Nat):∀ (s:List UInt8) (j:Nat),s.length<=k->s.length<=j->aT k s=aT j s:=by
 induction k with
 | zero=>intro s j h _;have:s=[]:=List.eq_nil_of_length_eq_zero (by omega);subst this;cases j <;> rfl
 | succ k ih =>
  intro s j h hj
  cases j with
  | zero=>have:s=[]:=List.eq_nil_of_length_eq_zero (by omega);subst this;rfl
  | succ j =>
   simp only [aT]
   split
   ·rfl
   ·cases hd:dec s with
    | none=>rfl
    | some p =>
     obtain⟨r,n⟩:=p;have:=zh hd;simp only;rw [ih (s.drop n) j (by rw [List.length_drop];omega) (by rw [List.length_drop];omega)]
theorem Rq:scalars []=some []:=rfl
theorem LW {s:List UInt8} (hs:s≠[]) (h:dec s=none):scalars s=none:=by
 unfold scalars
 cases hl:s.length with
 | zero=>exact absurd (List.eq_nil_of_length_eq_zero hl) hs
 | succ k=>simp only [aT];rw [if_neg hs,h]
theorem P9 {s:List UInt8} {r:Int} {n:Nat} (h:dec s=some (r,n)):scalars s=(scalars (s.drop n)).map (r::·):=by
 have hs:s≠[]:=by rintro rfl;simp [dec] at h
 have:=zh h;unfold scalars
 cases hl:s.length with
 | zero=>exact absurd (List.eq_nil_of_length_eq_zero hl) hs
 | succ k =>
  simp only [aT];rw [if_neg hs,h];simp only;rw [anp k (s.drop n) (s.drop n).length (by rw [List.length_drop];omega) (Nat.le_refl _)]
theorem Ws (r:Int) (h:right r=true) (t:List UInt8):scalars (enc r++t)=(scalars t).map (r::·):=by
 rw [P9 (Oa r h t),List.drop_left]
theorem NC (l:List Int) (h:∀ r∈l,right r=true) (t:List UInt8):scalars (textOf l++t)=(scalars t).map (l++·):=by
 induction l with
 | nil=>simp [textOf]
 | cons r l ih =>
  have e:textOf (r::l)++t=enc r++(textOf l++t):=by simp [textOf]
  rw [e,Ws r (h r (by simp)),ih (λr hr=>h r (by simp [hr])),Option.map_map]
  congr 1
theorem ajE (k:Nat):∀ (s:List UInt8) (l:List Int),s.length<=k->scalars s=some l->textOf l=s/\∀ r∈l,right r=true:=by
 induction k with
 | zero =>
  intro s l hk h;have:s=[]:=List.eq_nil_of_length_eq_zero (by omega);subst this;rw [Rq] at h
  cases h;exact⟨rfl,λr hr=>by cases hr⟩
 | succ k ih =>
  intro s l hk h
  by_cases hs:s=[]
  ·subst hs;rw [Rq] at h
   cases h;exact⟨rfl,λr hr=>by cases hr⟩
  cases hd:dec s with
  | none=>rw [LW hs hd] at h;cases h
  | some p =>
   obtain⟨r,n⟩:=p;obtain⟨hr,he,h1,_,hn⟩:=zh hd;rw [P9 hd] at h
   cases hl:scalars (s.drop n) with
   | none=>rw [hl] at h;cases h
   | some l' =>
    rw [hl] at h;simp only [Option.map_some,Option.some.injEq] at h;subst h;obtain⟨g1,g2⟩:=ih _ l' (by rw [List.length_drop];omega) hl;refine⟨?_,λx hx=>?_⟩
    ·show enc r++textOf l'=s
     rw [g1,he,List.take_append_drop]
    ·rcases List.mem_cons.1 hx with rfl | hx
     ·exact hr
     ·exact g2 x hx
theorem qK (s:List UInt8) (l:List Int):scalars s=some l↔textOf l=s/\∀ r∈l,right r=true:=by
 refine⟨ajE s.length s l (Nat.le_refl _),λ⟨h1,h2⟩=>?_⟩;have:=NC l h2 [];rw [List.append_nil,h1,Rq] at this
 simpa using this
theorem I9 (a b:List Int):textOf (a++b)=textOf a++textOf b:=by simp [textOf]
theorem EJ {c:UInt8} {t:List UInt8} (e:aN (ak c)<0):dec (c::t)=none:=by simp only [dec];rw [if_pos e]
theorem OT {c:UInt8} {t:List UInt8} (h:(t.length:Int)<aN (ak c)):dec (c::t)=none:=by
 simp only [dec]
 split
 ·rfl
 rw [if_neg];simp only [oV,Bool.and_eq_true,decide_eq_true_eq];omega
theorem Gw {c:UInt8} {t:List UInt8} (e:aN (ak c)=0):dec (c::t)=some (ak c,1):=by
 have hc:=KT _ e;have em:fM (ak c)=0:=by unfold fM;rw [e];simp;omega
 simp [dec,e,em,oV,fold]
theorem Bg {c d1:UInt8} {t:List UInt8} (e:aN (ak c)=1) :
  dec (c::d1::t)=if cO (ak c)<=ak d1/\ak d1<=bZ (ak c)/\128<=ak d1/\ak d1<=191 then some (64*(ak c-192)+ak d1-128,2) else none:=by
 have hc:=Jb _ e;have em:fM (ak c)=192:=by unfold fM;rw [e,if_neg (by omega),if_neg (by omega),if_pos (by omega)]
 have h1:=lU d1;simp only [dec,e,em];rw [if_neg (by omega)]
 by_cases k1:gW d1=true
 ·have:=h1.1 k1
  by_cases k2:cO (ak c)<=ak d1/\ak d1<=bZ (ak c)
  ·rw [if_pos,if_pos (by omega)]
   ·simp [fold]
   ·simp [oV,e,k1,k2];omega
  ·rw [if_neg,if_neg (by omega)];simp [oV,e,k1];omega
 ·rw [if_neg,if_neg (by rw [h1] at k1;omega)];simp [oV,e,k1]
theorem Ba {c d1 d2:UInt8} {t:List UInt8} (e:aN (ak c)=2) :
  dec (c::d1::d2::t)=if cO (ak c)<=ak d1/\ak d1<=bZ (ak c)/\128<=ak d1/\ak d1<=191/\128<=ak d2/\ak d2<=191 then some (64*(64*(ak c-224)+ak d1-128)+ak d2-128,3) else none:=by
 have hc:=Ky _ e;have em:fM (ak c)=224:=by unfold fM;rw [e,if_neg (by omega),if_neg (by omega),if_neg (by omega),if_pos (by omega)]
 have h1:=lU d1;have h2:=lU d2;have e2:(2:Int).toNat=2:=rfl;simp only [dec,e,em];rw [if_neg (by omega)]
 by_cases k1:gW d1=true/\gW d2=true
 ·have j1:=h1.1 k1.1;have j2:=h2.1 k1.2
  by_cases k2:cO (ak c)<=ak d1/\ak d1<=bZ (ak c)
  ·rw [if_pos,if_pos (by omega)]
   ·simp [fold,e2]
   ·simp [oV,e,e2,k1,k2];omega
  ·rw [if_neg,if_neg (by omega)];simp [oV,e,e2,k1];omega
 ·rw [if_neg,if_neg (by rw [h1,h2] at k1;omega)];simp only [oV,e,e2,List.take_succ_cons,List.take_zero,List.all_cons,List.all_nil,Bool.and_true,Bool.and_eq_true];exact λh=>k1 h.1.2
theorem Ee {c d1 d2 d3:UInt8} {t:List UInt8} (e:aN (ak c)=3) :
  dec (c::d1::d2::d3::t)=if cO (ak c)<=ak d1/\ak d1<=bZ (ak c)/\128<=ak d1/\ak d1<=191/\128<=ak d2/\ak d2<=191/\128<=ak d3/\ak d3<=191 then some (64*(64*(64*(ak c-240)+ak d1-128)+ak d2-128)+ak d3-128,4) else none:=by
 have hc:=Lc _ e;have em:fM (ak c)=240:=by unfold fM;rw [e,if_neg (by omega),if_neg (by omega),if_neg (by omega),if_neg (by omega)]
 have h1:=lU d1;have h2:=lU d2;have h3:=lU d3;have e2:(3:Int).toNat=3:=rfl;simp only [dec,e,em];rw [if_neg (by omega)]
 by_cases k1:gW d1=true/\gW d2=true/\gW d3=true
 ·have j1:=h1.1 k1.1;have j2:=h2.1 k1.2.1;have j3:=h3.1 k1.2.2
  by_cases k2:cO (ak c)<=ak d1/\ak d1<=bZ (ak c)
  ·rw [if_pos,if_pos (by omega)]
   ·simp [fold,e2]
   ·simp [oV,e,e2,k1,k2];omega
  ·rw [if_neg,if_neg (by omega)];simp [oV,e,e2,k1];omega
 ·rw [if_neg,if_neg (by rw [h1,h2,h3] at k1;omega)];simp only [oV,e,e2,List.take_succ_cons,List.take_zero,List.all_cons,List.all_nil,Bool.and_true,Bool.and_eq_true];exact λh=>k1 h.1.2
theorem af8 (a:Int) (l:List UInt8) (d:UInt8):fold a (l++[d])=64*fold a l+ak d-128:=by simp [fold]
theorem amR (l:List UInt8) (hl:∀ d∈l,gW d=true):∀ a:Int,0<=a->l.length<=3->a<128->0<=fold a l/\fold a l<33554432:=by
 intro a ha hlen hlt
 match l,hl,hlen with
 | [],_,_=>simp [fold];omega
 | [d],hl,_ =>
  have h1:=(lU d).1 (hl d (by simp));simp only [fold,List.foldl_cons,List.foldl_nil];omega
 | [d,e],hl,_ =>
  have h1:=(lU d).1 (hl d (by simp));have h2:=(lU e).1 (hl e (by simp));simp only [fold,List.foldl_cons,List.foldl_nil];omega
 | [d,e,f],hl,_ =>
  have h1:=(lU d).1 (hl d (by simp));have h2:=(lU e).1 (hl e (by simp));have h3:=(lU f).1 (hl f (by simp));simp only [fold,List.foldl_cons,List.foldl_nil];omega
 | _::_::_::_::_,_,h=>simp at h
theorem afA {c:UInt8} {t:List UInt8} {n m:Int} (hn:n=aN (ak c)) (hm:fM (ak c)=m) (h0:0<=n) (hl:n<=t.length) (hall:∀ d∈t.take n.toNat,gW d=true)
  (Ld:n=0\/∃ d1 t',t=d1::t'/\cO (ak c)<=ak d1/\ak d1<=bZ (ak c)):dec (c::t)=some (fold (ak c-m) (t.take n.toNat),n.toNat+1):=by
 simp only [dec];rw [if_neg (by omega),if_pos,<- hn,hm];unfold oV;rw [<- hn];simp only [Bool.and_eq_true,decide_eq_true_eq];refine⟨⟨hl,List.all_eq_true.2 hall⟩,?_⟩
 rcases Ld with h | ⟨d1,t',rfl,h1,h2⟩
 ·subst h;rfl
 ·rcases Int.lt_or_eq_of_le h0 with h | h
  ·obtain⟨k,hk⟩:∃ k,n.toNat=k+1:=⟨n.toNat-1,by omega⟩
   rw [hk]
   simpa using ⟨h1,h2⟩
  ·rw [<- h];rfl
theorem dec_not {c:UInt8} {t:List UInt8} {d:UInt8} (h0:0<=aN (ak c)) (hd:d∈t.take (aN (ak c)).toNat) (hf:gW d=false):dec (c::t)=none:=by
 simp only [dec];rw [if_neg (by omega),if_neg];unfold oV;simp only [Bool.and_eq_true];intro h;have:=List.all_eq_true.1 h.1.2 d hd;rw [hf] at this
 cases this
theorem alj {c d1:UInt8} {t:List UInt8} (h0:0<aN (ak c)) (hd:¬ (cO (ak c)<=ak d1/\ak d1<=bZ (ak c))):dec (c::d1::t)=none:=by
 simp only [dec];rw [if_neg (by omega),if_neg];unfold oV;simp only [Bool.and_eq_true];intro h;obtain⟨k,hk⟩:∃ k,(aN (ak c)).toNat=k+1:=⟨(aN (ak c)).toNat-1,by omega⟩
 have:=h.2;rw [hk] at this;simp at this;exact hd this
theorem af4 (c:Int) (h0:0<=c) (h1:c<256):aN c<0\/(0<=c-fM c/\c-fM c<128/\0<=fM c):=by
 rcases wQ c with e | e | e | e | e
 ·omega
 ·have:=KT _ e;unfold fM;rw [e,if_neg (by omega),if_pos (by omega)];omega
 ·have:=Jb _ e;unfold fM;rw [e,if_neg (by omega),if_neg (by omega),if_pos (by omega)];omega
 ·have:=Ky _ e;unfold fM;rw [e,if_neg (by omega),if_neg (by omega),if_neg (by omega),if_pos (by omega)];omega
 ·have:=Lc _ e;unfold fM;rw [e,if_neg (by omega),if_neg (by omega),if_neg (by omega),if_neg (by omega)];omega
end U
section
open Go.RowKit
structure Box (p:Prop):Prop where
 o:p
theorem bx {p:Prop} (h:p):Box p:=⟨h⟩
theorem aI {a b:Bool} (h:a=b):Ending.returned (.bool a) = .returned (.bool b):=by rw [h]
theorem iF {k:IntKind} {a b:Int} (h:a=b):Ending.returned (.int k a) = .returned (.int k b):=by rw [h]
theorem uS {a a':Value} (h:a=a'):Ending.returned a = .returned a':=by rw [h]
theorem rC {a b a' b':Value} (h:a=a') (h2:b=b'):Ending.returned (.tuple #[a,b]) = .returned (.tuple #[a',b']):=by rw [h,h2]
theorem SV {a b c a' b' c':Value} (h:a=a') (h2:b=b') (h3:c=c'):Ending.returned (.tuple #[a,b,c]) = .returned (.tuple #[a',b',c']):=by rw [h,h2,h3]
theorem kG {k:IntKind} {a b:Int} (h:a=b):Value.int k a = .int k b:=by rw [h]
theorem MK {a b:Bool} (h:a=b):Value.bool a = .bool b:=by rw [h]
theorem size_eq (s:ByteArray):s.size=s.data.toList.length:=by rw [<- ByteArray.size_data,Array.length_toList]
theorem kE {P:Program} {T:TypeId} (hT:P.underlying T=some .string) (s:ByteArray) (k:Nat) {d:UInt8} (hd:s.data.toList[k]?=some d) (i:Int) (hi:i=k) :
  ∀ w,(Instr.index T (.string s) (.int .i64 i)).run P w = .ok (.int .u8 (U.ak d)) w:=by
 intro w;subst hi;have hk:k<s.size:=by rw [size_eq];exact(List.getElem?_eq_some_iff.1 hd).1
 rw [run_index_string w _ _ _ _ hT,dif_pos (by omega)];have:s[k]'hk=d:=by
  have:=(List.getElem?_eq_some_iff.1 hd).2;rw [<- this];rfl
 simp [this,U.ak]
theorem OZ {P:Program} {src e dst:TypeId} (hs:P.underlying src=some (.slice e)) (he:P.underlying e=some (.int .u8)) (hd:P.underlying dst=some .string) (C:List Int) (w:World) (cap:Nat) (n:Nat) (hn:n=C.length) (t:TypeId) :
  (convert src dst (.slice (some ⟨w.heap.size,0,none⟩) n cap)).run P (w.alloc (.cells (C.map (Value.int .u8)).toArray t)) = .ok (.string (strOfNums C)) (w.alloc (.cells (C.map (Value.int .u8)).toArray t)):=by
 subst hn;refine run_convert_bytes_arg _ src e hs he w.heap.size 0 C.length cap C rfl (λi hi=>?_) dst hd;rw [cell_of_row _ _ _ _ _ _ (heap_alloc_new w _)];simp [hi]
theorem Ib (w:World) (o:Obj) (n:Nat) (hn:n=w.heap.size):(w.alloc o).heap[n]?=some o:=by subst hn;exact heap_alloc_new w o
theorem set_push {α:Type} (a:Array α) (x y:α):(a.push x).setIfInBounds a.size y=a.push y:=by
 apply Array.ext
 ·simp
 ·intro i h1 h2;rw [Array.getElem_setIfInBounds (by simpa using h1)]
  split
  ·rename_i h;subst h;simp
  ·rename_i h
   have:i<a.size:=by simp at h1;omega
   simp [Array.getElem_push,this]
theorem ajv (w:World) (o o':Obj) (n:Nat) (hn:n=w.heap.size):({ w.alloc o with heap:=(w.alloc o).heap.setIfInBounds n o' }:World)=w.alloc o':=by
 subst hn;have e:(w.alloc o).heap.setIfInBounds w.heap.size o'=w.heap.push o':=set_push _ _ _;rw [e];rfl
theorem yQ {P:Program} {T K E:TypeId} {q:IntKind} (hm:P.underlying T=some (.map K E)) (hk:P.underlying K=some (.int q)) (w:World) (es:Array MapEntry) (clk:Nat) (k:Int) (v:Value) (n:Nat) (hn:n=w.heap.size)
  (hf:Instr.findNow (.int q) (.int q k) es.toList 0=some none) :
  (Instr.mapUpdate T (.map (some n)) (.int q k) v).run P (w.alloc (.map es clk)) = .ok () (w.alloc (.map (es.push ⟨.int q k,v,clk⟩) (clk+1))):=by
 have hg:=Ib w (.map es clk) n hn;have h1:(Instr.checkKey false 10000 K (.int q k)).run P (w.alloc (.map es clk)) = .ok () (w.alloc (.map es clk)):=MapKept.run_checkKey hk (by simp [MapKept.IsKey]) false 9999;have h2:=MapKept.run_findKey (P:=P) (w:=w.alloc (.map es clk)) hk hf;unfold Instr.mapUpdate;simp only [Sem.run_bind,run_underlying hm,Result.andThen,MapKept.run_getObj_map hg,h1,h2,MapKept.run_setObj_map _ hg,ajv w _ _ n hn]
theorem ND {P:Program} {T K E:TypeId} {q:IntKind} (hm:P.underlying T=some (.map K E)) (hk:P.underlying K=some (.int q)) (W:World) (es:Array MapEntry) (clk:Nat) (k:Int) (n:Nat) (hg:W.heap[n]?=some (.map es clk))
  (i:Nat) (v:Value) (hf:Instr.findNow (.int q) (.int q k) es.toList 0=some (some (i,v))) :
  (Instr.lookup T (.map (some n)) (.int q k) true).run P W = .ok (.tuple #[v, .bool true]) W:=by
 have h1:(Instr.checkKey es.isEmpty 10000 K (.int q k)).run P W = .ok () W:=MapKept.run_checkKey hk (by simp [MapKept.IsKey]) _ 9999;have h2:=MapKept.run_findKey (P:=P) (w:=W) hk hf;unfold Instr.lookup;simp only [Sem.run_bind,run_underlying hm,Result.andThen,MapKept.run_getObj_map hg,h1,h2,Sem.run_pure,if_true]
theorem afr {P:Program} {T K E:TypeId} {q:IntKind} (hm:P.underlying T=some (.map K E)) (hk:P.underlying K=some (.int q)) (W:World) (es:Array MapEntry) (clk:Nat) (k:Int) (n:Nat) (hg:W.heap[n]?=some (.map es clk))
  (z:Value) (hz:(zeroValue E).run P W = .ok z W) (hf:Instr.findNow (.int q) (.int q k) es.toList 0=some none) :
  (Instr.lookup T (.map (some n)) (.int q k) true).run P W = .ok (.tuple #[z, .bool false]) W:=by
 have h1:(Instr.checkKey es.isEmpty 10000 K (.int q k)).run P W = .ok () W:=MapKept.run_checkKey hk (by simp [MapKept.IsKey]) _ 9999;have h2:=MapKept.run_findKey (P:=P) (w:=W) hk hf;unfold Instr.lookup;simp only [Sem.run_bind,run_underlying hm,Result.andThen,MapKept.run_getObj_map hg,h1,h2,Sem.run_pure,if_true,hz]
theorem QJ (P:Program) (w:World) (a:Addr) (m:Mode) (k:FloatKind) (b:Nat):(store a (.float k b) m).run P w=stored P w a (.float k b) m:=run_store P w a _ m rfl
theorem Uh (P:Program) (w:World) (a:Addr) (m:Mode) (k:FloatKind) (x y:Nat):(store a (.complex k x y) m).run P w=stored P w a (.complex k x y) m:=run_store P w a _ m rfl
def aj (w:World) (g:Nat) (t:TypeId) (cs:Array Value):Prop:=w.heap[g]?=some (.cells cs t (0,0))
section
variable {w w':World} {g:Nat} {t:TypeId} {cs:Array Value}
theorem aj.lt (h:aj w g t cs):g<w.heap.size:=by
 rcases Nat.lt_or_ge g w.heap.size with hlt | hge
 ·exact hlt
 ·unfold aj at h;rw [Array.getElem?_eq_none hge] at h;cases h
theorem aj.cell (h:aj w g t cs) (i:Nat):w.cell? ⟨g,i,none⟩=cs[i]?:=cell_of_row w g i cs t (0,0) h
theorem aj.frozen (h:aj w g t cs) (i:Nat):w.frozen? ⟨g,i,none⟩=false:=by
 unfold aj at h;simp [World.frozen?,h]
theorem aj.new (w:World) (t:TypeId) (cs:Array Value):aj (w.alloc (.cells cs t)) w.heap.size t cs:=heap_alloc_new w _
theorem aj.alloc (h:aj w g t cs) (o:Obj):aj (w.alloc o) g t cs:=(Below.heap_alloc w o g h.lt).trans h
theorem aj.dh (h:aj w g t cs) (i:Nat) (u:Value):aj (w.setCell ⟨g,i,none⟩ u) g t (cs.setIfInBounds i u):=by
 unfold aj at h ⊢;simp [World.setCell,Array.getElem?_modify,h]
theorem aj.far (h:aj w g t cs) {p:Addr} (hp:g≠p.block) (u:Value):aj (w.setCell p u) g t cs:=(Below.heap_setCell w p u g hp).trans h
theorem aj.below {B:Nat} (h:aj w g t cs) (hb:Below B w w') (hg:g<B):aj w' g t cs:=(hb.block g hg).trans h
theorem bt {a b c:World} (h:Below a.heap.size a b) (k:Below b.heap.size b c):Below a.heap.size a c:=h.trans (k.mono h.size)
theorem aj.c2 {V W:World} {x0 x1:Value} (H:aj V g t #[x0,x1]) (h:Below V.heap.size V W):W.cell? ⟨g,0,none⟩=some x0/\W.cell? ⟨g,1,none⟩=some x1/\g<W.heap.size:=⟨((H.below h H.lt).cell 0).trans rfl,((H.below h H.lt).cell 1).trans rfl,(H.below h H.lt).lt⟩
theorem aj.c6 {V W:World} {x0 x1 x2 x3 x4 x5:Value} (H:aj V g t #[x0,x1,x2,x3,x4,x5]) (h:Below V.heap.size V W):W.cell? ⟨g,0,none⟩=some x0/\W.cell? ⟨g,1,none⟩=some x1/\W.cell? ⟨g,2,none⟩=some x2/\W.cell? ⟨g,3,none⟩=some x3/\W.cell? ⟨g,4,none⟩=some x4/\W.cell? ⟨g,5,none⟩=some x5/\g<W.heap.size:=⟨((H.below h H.lt).cell 0).trans rfl,((H.below h H.lt).cell 1).trans rfl,((H.below h H.lt).cell 2).trans rfl,((H.below h H.lt).cell 3).trans rfl,((H.below h H.lt).cell 4).trans rfl,((H.below h H.lt).cell 5).trans rfl,(H.below h H.lt).lt⟩
theorem aj.grown {row:Option Nat} (h:aj w g t cs) (hb:w.grownBy w' row) (hg:some g≠row):aj w' g t cs:=(hb.block g h.lt hg).trans h
end
theorem below_drewN {B:Nat} {a w:World} (h:Below B a w) (n:Nat):Below B a (w.drewN n):=⟨h.os,h.tape,h.output,h.size,h.block⟩
theorem ak3 {a w:World} {row:Option Nat} (h:a.grownBy w row):a.grownBy w.drew row:=⟨h.os,h.tape,h.output,h.size,h.block⟩
theorem Vy {a w:World} {row:Option Nat} (h:a.grownBy w row) (o:Obj):a.grownBy (w.alloc o) row :=
 ⟨h.os,h.tape,h.output,Nat.le_trans h.size (by simp),λi hi hne=>(Below.heap_alloc w o i (Nat.lt_of_lt_of_le hi h.size)).trans (h.block i hi hne)⟩
theorem Gt {a w:World} {g:Nat} (h:a.grownBy w (some g)) {p:Addr} (hp:p.block=g\/a.heap.size<=p.block) (u:Value):a.grownBy (w.setCell p u) (some g) :=
 ⟨h.os,h.tape,h.output,by simpa [World.setCell] using h.size,λi hi hne=>(Below.heap_setCell w p u i (by
  rintro rfl
  rcases hp with hp | hp
  ·exact hne (by rw [hp])
  ·omega)).trans (h.block i hi hne)⟩
theorem XL {a w:World} (h:Below a.heap.size a w) (row:Option Nat):a.grownBy w row:=⟨h.os,h.tape,h.output,h.size,λi hi _=>h.block i hi⟩
theorem Z7 {a b c:World} {row:Option Nat} (h:a.grownBy b row) (k:b.grownBy c row):a.grownBy c row :=
 ⟨k.os.trans h.os,k.tape.trans h.tape,k.output.trans h.output,Nat.le_trans h.size k.size,λi hi hne=>(k.block i (Nat.lt_of_lt_of_le hi h.size) hne).trans (h.block i hi hne)⟩
theorem CY {a b:World} {g:Nat} (h:a.grownBy b (some g)) {B:Nat} (hB:B<=g) (hB2:B<=a.heap.size):Below B a b :=
 ⟨h.os,h.tape,h.output,h.size,λi hi=>h.block i (by omega) (by intro e;cases e;omega)⟩
structure Env (S:List Nat) (TP:TypeId) (A:Nat->Addr) (B:Nat) (w:World):Prop where
 var:∀ g∈S,w.cell? ⟨g,0,none⟩=some (.iface TP (.pointer (some (A g))))
 row:∀ g∈S,∃ c t,w.heap[(A g).block]?=some (.cells c t (0,0))
 lt:∀ g∈S,g<B/\(A g).block<B
 ne:∀ g∈S,∀ h∈S,g≠h->A g≠A h
theorem Env.below {S:List Nat} {TP:TypeId} {A:Nat->Addr} {B:Nat} {w w':World} (h:Env S TP A B w) (hb:Below B w w'):Env S TP A B w' where
 var g hg:=(hb.cell (p:=⟨g,0,none⟩) (h.lt g hg).1).trans (h.var g hg)
 row g hg:=by
  obtain⟨c,t,hr⟩:=h.row g hg;exact⟨c,t,(hb.block _ (h.lt g hg).2).trans hr⟩
 lt:=h.lt
 ne:=h.ne
def fwd (l:Nat) (J:Act->World->Prop) (Q:Exit->Act->World->Prop):Exit->Act->World->Prop
 | .goto l',a,w=>l'=l/\J a w
 | e,a,w=>Q e a w
section
variable {l:Nat} {J:Act->World->Prop} {Q:Exit->Act->World->Prop} {a:Act} {w:World}
@[go_sem] theorem an8:fwd l J Q .normal a w=Q .normal a w:=rfl
@[go_sem] theorem aox (id:Nat):fwd l J Q (.exit id) a w=Q (.exit id) a w:=rfl
@[go_sem] theorem wC:fwd l J Q .ret a w=Q .ret a w:=rfl
@[go_sem] theorem anO (ch:List PanicEntry):fwd l J Q (.panic ch) a w=Q (.panic ch) a w:=rfl
end
theorem wG {P:Program} {a:Act} {w:World} {Q:Exit->Act->World->Prop} {c rest:Code} (l:Nat) (hf:findLabel c l=some rest)
  (h:c.wp P (fwd l (λa w=>rest.wp P (Exit.noGoto Q) a w) Q) a w):(Code.scope c).wp P Q a w:=by
 refine wp_scope_jumps l (λa w=>rest.wp P (Exit.noGoto Q) a w) (λ_ _=>0) hf (Code.wp_mono ?_ h) (λa w hJ=>Code.wp_mono ?_ hJ)
 ·intro e a w he
  cases e <;> exact he
 ·intro e a w he
  cases e with
  | goto l'=>exact(he:False).elim
  | _=>exact he
theorem Oy {P:Program} {T:TypeId} (hT:P.underlying T=some .string) (s:ByteArray) (lo hi:Int) (h:0<=lo/\lo<=hi/\hi<=s.size) :
  ∀ W,(Instr.slice T (.string s) (some (.int .i64 lo)) (some (.int .i64 hi)) none).run P W = .ok (.string (s.extract lo.toNat hi.toNat)) W:=by
 intro W;rw [run_slice_string_if W _ _ _ _ _ _ hT,if_pos (by omega),if_pos (by omega)]
theorem aak (W:World) (e:TypeId) (s:ByteArray) (cap:Nat) (fr:Nat×Nat) (j:Nat) (d:UInt8) (hd:s.data.toList[j]?=some d) :
  (W.alloc (.cells (bytesRow s cap) e fr)).cell? ⟨W.heap.size,j,none⟩=some (.int .u8 (U.ak d)):=by
 rw [World.cell?_alloc_mark];have hj:j<s.data.toList.length:=(List.getElem?_eq_some_iff.1 hd).1;have hd':s.data[j]?=some d:=by rw [<- hd,Array.getElem?_toList]
 unfold bytesRow;rw [Array.getElem?_append_left (by simpa using hj),Array.getElem?_map,hd']
 rfl
theorem Lp (a:Nat) (ha:a<9223372036854775808):(BitVec.ofInt 64 (a:Int)).toNat=a:=by
 rw [BitVec.ofInt_natCast,BitVec.toNat_ofNat];exact Nat.mod_eq_of_lt (by omega)
theorem Xz (a b:Nat) (ha:a<9223372036854775808) (hb:b<9223372036854775808):bits .and .i64 (a:Int) (b:Int)=((a &&& b:Nat):Int):=by
 have hx:a &&& b<2 ^ 63:=Nat.and_lt_two_pow _ (by omega);show IntKind.i64.wrap ((BitVec.ofInt 64 (a:Int) &&& BitVec.ofInt 64 (b:Int)).toNat:Int)=_
 rw [BitVec.toNat_and,Lp a ha,Lp b hb,IntKind.wrap_i64];omega
theorem ail (a b:Nat) (ha:a<9223372036854775808) (hb:b<9223372036854775808):bits .or .i64 (a:Int) (b:Int)=((a ||| b:Nat):Int):=by
 have hx:a ||| b<2 ^ 63:=Nat.or_lt_two_pow (by omega) (by omega)
 show IntKind.i64.wrap ((BitVec.ofInt 64 (a:Int) ||| BitVec.ofInt 64 (b:Int)).toNat:Int)=_
 rw [BitVec.toNat_or,Lp a ha,Lp b hb,IntKind.wrap_i64];omega
theorem Yr (y:Int) (h0:0<=y) (h1:y<9223372036854775808):bits .and .i64 y 63=y % 64:=by
 obtain⟨k,rfl⟩:=Int.eq_ofNat_of_zero_le h0;have:=Xz k 63 (by omega) (by omega);rw [show ((63:Nat):Int)=63 from rfl] at this;rw [this,show k &&& 63=k % 64 from Nat.and_two_pow_sub_one_eq_mod k 6];omega
theorem aks (x z:Int) (h0:0<=x) (h1:x<4294967296) (h2:0<=z) (h3:z<64):bits .or .i64 (x*64) z=x*64+z:=by
 obtain⟨k,rfl⟩:=Int.eq_ofNat_of_zero_le h0;obtain⟨l,rfl⟩:=Int.eq_ofNat_of_zero_le h2;have:=ail (2 ^ 6*k) l (by omega) (by omega);rw [<- Nat.two_pow_add_eq_or_of_lt (by omega) k] at this;rw [show (k:Int)*64=((2 ^ 6*k:Nat):Int) by omega,this];omega
structure CW (Inv:World->Prop) where
 w:World
 h:Inv w
theorem uT {P:Program} {id:Nat} {Q:Exit->Act->World->Prop} {a:Act} {w:World} {l:List Oper} (Inv:World->Prop) (hm:P.follows .mixedOrders=true) (hB:Region.lexB .any l.toArray=true) (h0:Inv w.drew)
  (h:Nonempty (CW Inv)->wpQuiet P l.toArray (λw'=>∃ n:CW Inv,w'=n.w) (λa'=>∀ w',(∃ n:CW Inv,w'=n.w)->Q .normal a' w') l a):(Code.region id l.toArray true).wp P Q a w :=
 wp_region_quiet (C:=λw'=>∃ n:CW Inv,w'=n.w) hm hB ⟨⟨_,h0⟩,rfl⟩ (by simpa using h ⟨⟨_,h0⟩⟩)
theorem rQ {P:Program} {f:FuncId} {args:Array Value} {v:Value} {W:World} {Inv:World->Prop} (h:Calls P f args W λe w'=>e = .returned v/\Below W.heap.size W w') (hI:∀ w',Below W.heap.size W w'->Inv w') :
  Calls P f args W λe w''=>e = .returned v/\∃ m:CW Inv,w''=m.w:=h.mono λ_ _ ⟨he,hb⟩=>⟨he,⟨_,hI _ hb⟩,rfl⟩
end
section
open Go.RowKit Go.Extern.Stop Go.Stop Go.Extern
theorem isTypeOf (v:Value) (w:World):(callFunc 127 #[.iface 354 v]).run Tryz.prog w = .ok (.value (.iface 258 (.agg #[.pointer (some ⟨12,354,none⟩)]))) w:=by kernel_rfl
theorem isComparable (w:World):(callFunc 277 #[.agg #[.pointer (some ⟨12,354,none⟩)]]).run Tryz.prog w = .ok (.value (.bool true)) w:=by kernel_rfl
theorem isMethodComparable (v:Value) (w:World):(Go.method 485 258 v "Comparable").run Tryz.prog w = .ok (277,v) w:=by kernel_rfl
theorem isComp:(Tryz.prog.info? 354).map (·.comparable)=some true:=by kernel_rfl
theorem isSize:(Tryz.prog.info? 373).map (·.size)=some 1:=by kernel_rfl
theorem noIsE (v:Value) (xT:TypeId) (w:World):(Instr.typeAssert (.iface 354 v) xT 260 true).run Tryz.prog w = .ok (.tuple #[.nilIface, .bool false]) w:=run_typeAssert_lacksB Tryz.underlying260 (by kernel_rfl) (by kernel_rfl) v xT w
theorem noUnwrapE (v:Value) (xT:TypeId) (w:World):(Instr.typeAssert (.iface 354 v) xT 263 true).run Tryz.prog w = .ok (.tuple #[.nilIface, .bool false]) w:=run_typeAssert_lacksB Tryz.underlying263 (by kernel_rfl) (by kernel_rfl) v xT w
theorem noUnwrapsE (v:Value) (xT:TypeId) (w:World):(Instr.typeAssert (.iface 354 v) xT 265 true).run Tryz.prog w = .ok (.tuple #[.nilIface, .bool false]) w:=run_typeAssert_lacksB Tryz.underlying265 (by kernel_rfl) (by kernel_rfl) v xT w
theorem is_same (a:Addr) (w:World) :
  Calls Tryz.prog 77 #[.iface 354 (.pointer (some a)), .iface 354 (.pointer (some a))] w λe w'=>e = .returned (.bool true)/\w=w':=by
 obtain⟨i,hi,hcmp⟩:=Option.map_eq_some_iff.1 isComp;obtain⟨j,hj,hjs⟩:=Option.map_eq_some_iff.1 isSize;have tT:=isTypeOf;have cT:=isComparable;have mR:=isMethodComparable;have heq:=run_eql_iface_ptr_same (P:=Tryz.prog) w a Tryz.underlying70 Tryz.underlying354 hi hcmp hj
 go_enter Tryz.func77,Tryz.ntmps77
 go_wp2
 refine wp_loop_rounds 1 ?_;rw [rounds_succ]
 go_wp2
 go_ret
 exact⟨rfl,rfl⟩
theorem is_other (a b:Addr) (ca cb:Array Value) (ta tb:TypeId) (w:World) (hne:a≠b) (ha:w.heap[a.block]?=some (.cells ca ta (0,0))) (hb:w.heap[b.block]?=some (.cells cb tb (0,0))) :
  Calls Tryz.prog 77 #[.iface 354 (.pointer (some a)), .iface 354 (.pointer (some b))] w λe w'=>e = .returned (.bool false)/\w=w':=by
 obtain⟨i,hi,hcmp⟩:=Option.map_eq_some_iff.1 isComp;obtain⟨j,hj,hjs⟩:=Option.map_eq_some_iff.1 isSize;have tT:=isTypeOf;have cT:=isComparable;have mR:=isMethodComparable;have nE:=noIsE;have uE:=noUnwrapE;have vE:=noUnwrapsE;have heq:=run_eql_iface_ptr_other (P:=Tryz.prog) w Tryz.underlying70 Tryz.underlying354 hi hcmp hj (by rw [hjs];decide) hne ha hb
 go_enter Tryz.func77,Tryz.ntmps77
 go_wp2
 refine wp_loop_rounds 1 ?_;rw [rounds_succ]
 go_wp2
 go_ret
 exact⟨rfl,rfl⟩
end
section
open Go.RowKit
def JZ:List Nat:=[
 0,
 1,
 2,
 7,
 3,
 5,
 4,
 ]
def E (A:Nat->Addr) (B:Nat) (w:World):Prop:=Env JZ 354 A B w
def jZ (A:Nat->Addr) (g:Nat):Value:=.iface 354 (.pointer (some (A g)))
theorem E.below {A:Nat->Addr} {B:Nat} {w w':World} (h:E A B w) (hb:Below B w w'):E A B w':=Env.below h hb
theorem E.cell {A:Nat->Addr} {B:Nat} {w:World} (h:E A B w) (g:Nat) (hg:g∈JZ):w.cell? ⟨g,0,none⟩=some (.iface 354 (.pointer (some (A g)))):=h.var g hg
theorem MG {S:List Nat} {A:Nat->Addr} {B:Nat} {w:World} (h:Env S 354 A B w) (g k:Nat) (hg:g∈S) (hk:k∈S) :
  Calls Tryz.prog 77 #[.iface 354 (.pointer (some (A g))), .iface 354 (.pointer (some (A k)))] w λe w'=>e = .returned (.bool (g==k))/\w=w':=by
 by_cases e:g=k
 ·subst e
  simpa using is_same (A g) w
 ·obtain⟨ca,ta,ha⟩:=h.row g hg;obtain⟨cb,tb,hb⟩:=h.row k hk;have:=is_other (A g) (A k) ca cb ta tb w (h.ne g hg k hk e) ha hb;rw [show (g==k)=false from beq_eq_false_iff_ne.2 e];exact this
theorem ahF {A:Nat->Addr} {B:Nat} {w:World} (h:E A B w) (g k:Nat) (hg:g∈JZ) (hk:k∈JZ) :
  Calls Tryz.prog 77 #[.iface 354 (.pointer (some (A g))), .iface 354 (.pointer (some (A k)))] w λe w'=>e = .returned (.bool (g==k))/\w=w':=MG h g k hg hk
theorem Uk {S S':List Nat} {T:TypeId} {A:Nat->Addr} {B:Nat} {w:World} (h:Env S T A B w) (hs:∀ g∈S',g∈S):Env S' T A B w :=
 ⟨λg hg=>h.var g (hs g hg),λg hg=>h.row g (hs g hg),λg hg=>h.lt g (hs g hg),λg hg k hk=>h.ne g (hs g hg) k (hs k hk)⟩
end
section
open Go.RowKit Go.ChangeShapes
abbrev Sent:=String×Nat×List UInt8
def Ud (nm:String) (x:Sent):String×DataW Unit:=(x.1, .iface nm (.ptr (.agg [.lit (.string x.2.2)])))
section
variable {P:Program} {nm:String} {W:World} {ti tp te ts:TypeId} {ms:Array (String×TypeId)} {f:Field}
theorem adl (hi:P.underlying ti=some (.interface ms)) (hrow:∀ u,P.typeName? 3 u=some nm->u=tp)
  (hp:P.underlying tp=some (.pointer te)) (he:P.underlying te=some (.struct #[f])) (hft:f.type=ts) (hfo:f.offset=0) (hs:P.underlying ts=some .string) (hc:P.cellsOf te=1) (hcs:P.cellsOf ts=1) :
  ∀ (L:List Sent) (ps:List MemPlace),DataW.LaidVars P W (L.map (Ud nm)) ps->ps.Nodup ->
   (∀ b off,MemPlace.cell b off∈ps->(∃ c t,W.heap[b]?=some (.cells c t (0,0)))/\∀ u v,W.cell? ⟨b,off,none⟩=some (.iface u v)->Value.okWide P W .any 0 u v) ->
   (∀ x∈L,P.globalNamed x.1=some x.2.1/\(P.globals[x.2.1]?).map (·.type)=some ti) ->
   ∃ A:Nat->Addr,(∀ x∈L,W.cell? ⟨x.2.1,0,none⟩=some (.iface tp (.pointer (some (A x.2.1))))/\(∃ c t,W.heap[(A x.2.1).block]?=some (.cells c t (0,0)))/\(A x.2.1).block<W.heap.size/\MemPlace.cell (A x.2.1).block (A x.2.1).off∈ps) /\
    ∀ x∈L,∀ y∈L,x.2.1≠y.2.1->A x.2.1≠A y.2.1
 | [],_,_,_,_,_=>⟨λ_=>⟨0,0,none⟩,λx hx=>absurd hx (List.not_mem_nil),λx hx=>absurd hx (List.not_mem_nil)⟩
 | x0::L,ps,hv,hnd,hrows,hg=>by
  obtain⟨g0,t0,cs0,f0,p0,q0,hg0,ht0,hv0,hd0,hrest,e0⟩:=hv;obtain⟨hgx,htx⟩:=hg x0 (List.mem_cons_self ..);obtain rfl:=Option.some.inj (hgx.symm.trans hg0);obtain rfl:=Option.some.inj (htx.symm.trans ht0);subst e0;obtain⟨l0⟩:=cs0;have ok0:∀ u v,l0=[.iface u v]->Value.okWide P W .any 0 u v:=λu v e=>by
   subst e;exact(hrows x0.2.1 0 (by simp [MemPlace.row])).2 u v (by simpa using World.var?_cell hg0 hv0 0)
  obtain⟨a0,s0,rfl,hc0,hs0,hz0,rfl⟩:=errorString_of_trod hi hrow hp he hft hfo hs hc hcs hd0 ok0;have hcell:W.cell? ⟨x0.2.1,0,none⟩=some (.iface tp (.pointer (some a0))):=by simpa using World.var?_cell hg0 hv0 0
  have hm0:MemPlace.cell a0.block a0.off∈MemPlace.row ⟨x0.2.1,0,none⟩ ([Value.iface tp (.pointer (some a0))].toArray).size++MemPlace.row a0 1++q0:=by simp [MemPlace.row]
  obtain⟨A,h1,h2⟩:=adl hi hrow hp he hft hfo hs hc hcs L q0 hrest (List.Nodup.sublist (List.sublist_append_right _ _) hnd) (λb off hm=>hrows b off (List.mem_append_right _ hm)) (λx hx=>hg x (List.mem_cons_of_mem _ hx));have hspot:a0.spot=none:=World.cell?_spot hc0;have dG:∀ y∈L,a0≠A y.2.1:=by
   intro y hy e;have hq:=(h1 y hy).2.2.2;rw [<- e] at hq;rw [List.nodup_append] at hnd;exact hnd.2.2 _ (by simp [MemPlace.row]) _ hq rfl
  have hhead:(∃ c t,W.heap[a0.block]?=some (.cells c t (0,0)))/\a0.block<W.heap.size:=by
   obtain⟨c,t,hb⟩:=(hrows _ _ hm0).1;exact⟨⟨c,t,hb⟩,(Array.getElem?_eq_some_iff.1 hb).1⟩
  by_cases hin:∃ y∈L,y.2.1=x0.2.1
  ·-- the same variable twice: its place would be met twice
   obtain⟨y,hy,e⟩:=hin;have hcy:=(h1 y hy).1;rw [e,hcell] at hcy;simp only [Option.some.injEq,Value.iface.injEq,Value.pointer.injEq,true_and] at hcy;exact absurd (by rw [<- e] at hcy;exact hcy) (dG y hy)
  ·have hne:∀ y∈L,y.2.1≠x0.2.1:=λy hy e=>hin ⟨y,hy,e⟩
   refine⟨λg=>if g=x0.2.1 then a0 else A g,λx hx=>?_,λx hx y hy hxy=>?_⟩
   ·rcases List.mem_cons.1 hx with rfl | hx
    ·simp only [if_true];exact⟨hcell,hhead.1,hhead.2,hm0⟩
    ·simp only [if_neg (hne x hx)];obtain⟨k1,k2,k3,k4⟩:=h1 x hx;exact⟨k1,k2,k3,List.mem_append_right _ k4⟩
   ·rcases List.mem_cons.1 hx with rfl | hx' <;> rcases List.mem_cons.1 hy with rfl | hy'
    ·exact absurd rfl hxy
    ·simp only [if_true,if_neg (hne y hy')];exact dG y hy'
    ·simp only [if_true,if_neg (hne x hx')];exact λe=>dG x hx' e.symm
    ·simp only [if_neg (hne x hx'),if_neg (hne y hy')];exact h2 x hx' y hy' hxy
end
theorem af6 {nm:String} {W:World} {ti te ts:TypeId} {ms:Array (String×TypeId)} {f:Field} (hi:Tryz.prog.underlying ti=some (.interface ms)) (hrow:∀ u,Tryz.prog.typeName? 3 u=some nm->u=354)
  (hp:Tryz.prog.underlying 354=some (.pointer te)) (he:Tryz.prog.underlying te=some (.struct #[f])) (hft:f.type=ts) (hfo:f.offset=0) (hs:Tryz.prog.underlying ts=some .string) (hc:Tryz.prog.cellsOf te=1) (hcs:Tryz.prog.cellsOf ts=1)
  (L:List Sent) (hg:∀ x∈L,Tryz.prog.globalNamed x.1=some x.2.1/\(Tryz.prog.globals[x.2.1]?).map (·.type)=some ti) (hL:laidMet Tryz.prog (L.map (Ud nm)) W):∃ A:Nat->Addr,Env (L.map (·.2.1)) 354 A W.heap.size W:=by
 obtain⟨ps,hv,hnd,hrows⟩:=hL;obtain⟨A,h1,h2⟩:=adl hi hrow hp he hft hfo hs hc hcs L ps hv hnd hrows hg;have hS:∀ g∈L.map (·.2.1),∃ x∈L,x.2.1=g:=λg hm=>List.mem_map.1 hm
 refine⟨A,λg hm=>?_,λg hm=>?_,λg hm=>?_,λg hm k hk hgk=>?_⟩
 ·obtain⟨x,hx,rfl⟩:=hS g hm;exact(h1 x hx).1
 ·obtain⟨x,hx,rfl⟩:=hS g hm;exact(h1 x hx).2.1
 ·obtain⟨x,hx,rfl⟩:=hS g hm;exact⟨World.block_lt_of_cell? _ _ (h1 x hx).1,(h1 x hx).2.2.1⟩
 ·obtain⟨x,hx,rfl⟩:=hS g hm;obtain⟨y,hy,rfl⟩:=hS k hk;exact h2 x hx y hy hgk
end
namespace N
abbrev Item:=Int×Int
def G8:List Item->Nat->Nat
 | [],n=>2 ^ n
 | x::t,n=>if x.2=0 then 2 ^ n else 2 ^ n ||| G8 t (n+2)
def clo (l:List Item) (n:Nat):Nat:=if n % 2=1 then 2 ^ n else G8 (l.drop (n / 2)) n
def iC (set c:Int):Bool:=decide (0<=set)&&decide (set<4294967296)&&decide (0<=c)&&decide (c<32)&&decide (set.toNat.testBit c.toNat=true)
def setAt (l:List Item) (i:Nat):Int:=(l.getD i (0,0)).1
def dn (l:List Item) (i:Nat):Int:=(l.getD i (0,0)).2
def goto (l:List Item) (n:Nat):Nat:=if n % 2=1 then n-1 else if dn l (n / 2)=0 then n+2 else if dn l (n / 2)=1 then n else n+1
def goes (l:List Item) (S:Nat) (c:Int) (n:Nat):Bool:=S.testBit n&&iC (setAt l (n / 2)) c
def fill (l:List Item) (S:Nat) (c:Int) (init:Nat) (k:Nat):Nat:=(List.range k).foldl (λout n=>if goes l S c n=true then out ||| clo l (goto l n) else out) init
def init (l:List Item) (start:Bool):Nat:=if start then 0 else clo l 0
def step (l:List Item) (start:Bool) (S:Nat) (c:Int):Nat:=fill l S c (init l start) (2*l.length)
def most (l:List Item):Nat:=2 ^ (2*l.length+1)-1
def TM (l:List Item) (S:Nat):Bool:=S.testBit (2*l.length)
theorem NJ (l:List Item) (S:Nat) (c:Int) (a k:Nat):fill l S c a (k+1)=if goes l S c k=true then fill l S c a k ||| clo l (goto l k) else fill l S c a k:=by
 unfold fill;rw [List.range_succ,List.foldl_append]
 rfl
theorem aar (l:List Item) (S:Nat) (c:Int) (a b:Nat):∀ k,fill l S c (a ||| b) k=fill l S c a k ||| b
 | 0=>rfl
 | k+1=>by
  rw [NJ,NJ,aar l S c a b k]
  split
  ·rw [Nat.or_assoc,Nat.or_comm b,<- Nat.or_assoc]
  ·rfl
theorem akj (l:List Item) (S:Nat) (c:Int) (b k:Nat):fill l S c 0 k ||| b=fill l S c b k:=by
 have:=aar l S c 0 b k;rw [Nat.zero_or] at this;exact this.symm
theorem ajK (l:List Item):∀ n k,n+2*l.length<=k->G8 l n<2 ^ (k+1):=by
 induction l with
 | nil=>intro n k h;exact Nat.pow_lt_pow_right (by omega) (by simp at h;omega)
 | cons x t ih =>
  intro n k h;simp only [List.length_cons] at h;have h0:2 ^ n<2 ^ (k+1):=Nat.pow_lt_pow_right (by omega) (by omega);unfold G8
  split
  ·exact h0
  ·exact Nat.or_lt_two_pow h0 (ih (n+2) k (by omega))
theorem Wu (l:List Item) (n:Nat) (h:n<=2*l.length):clo l n<2 ^ (2*l.length+1):=by
 unfold clo
 split
 ·exact Nat.pow_lt_pow_right (by omega) (by omega)
 ·exact ajK _ _ _ (by rw [List.length_drop];omega)
theorem YS (l:List Item) (n:Nat) (h:n<2*l.length):goto l n<=2*l.length:=by
 unfold goto;repeat' (first | omega | split)
theorem Qq (l:List Item) (S:Nat) (c:Int) (a:Nat) (ha:a<2 ^ (2*l.length+1)):∀ k,k<=2*l.length->fill l S c a k<2 ^ (2*l.length+1)
 | 0,_=>ha
 | k+1,h=>by
  rw [NJ];have ih:=Qq l S c a ha k (by omega)
  split
  ·exact Nat.or_lt_two_pow ih (Wu l _ (YS l k (by omega)))
  ·exact ih
theorem adK (l:List Item) (start:Bool):init l start<2 ^ (2*l.length+1):=by
 unfold init
 split
 ·exact Nat.pow_pos (by omega)
 ·exact Wu l 0 (by omega)
theorem ajL (l:List Item) (start:Bool) (S:Nat) (c:Int):step l start S c<2 ^ (2*l.length+1):=Qq l S c _ (adK l start) _ (Nat.le_refl _)
end N
section
open Go.RowKit
def setB (set:Int):Bool:=decide (0<=set)&&decide (set<4294967296)
theorem KW (k:Nat) (h:k<=40):(2:Int) ^ k<=1099511627776:=by
 have h2:2 ^ k<=2 ^ 40:=Nat.pow_le_pow_right (by omega) h;rw [show (2:Int) ^ k=((2 ^ k:Nat):Int) by simp];omega
theorem Qe (n:Nat) (w:World) (hn:n<=40) :
  Calls Tryz.prog 202 #[.int .i64 n] w λe w'=>e = .returned (.int .i64 ((2 ^ n:Nat):Int))/\w=w':=by
 go_enter Tryz.func202,Tryz.ntmps202
 go_wp2
 go_loop [4,3] (λi o=>∃ (k:Nat) (x:Int),k<=n/\i = .int .i64 k/\o = .int .i64 x/\0<=x/\x<=1099511627776/\Box (x=2 ^ k)) (λi _=>n-(intOf i).toNat)
 case atStart=>exact⟨0,1,by omega,rfl,rfl,by omega,by omega,⟨rfl⟩⟩
 case round =>
  obtain⟨k,x,hk,rfl,rfl,hx0,hx1,hx⟩:=hrel
  by_cases hlt:k<n
  ·have h2:=KW (k+1) (by omega);have HX:=bx (show 2*x=2 ^ (k+1) by rw [hx.o,Int.pow_succ];omega);have HY:=bx (show 2*x<=1099511627776 by rw [HX.o];exact h2);clear h2
   go_wp2
   go_round
   case rel=>exact⟨k+1,2*x,hlt,by go_num,rfl,by omega,HY.o,HX⟩
   case measure=>simp [intOf];omega
  ·obtain rfl:k=n:=by omega
   go_wp2
   go_ret
   exact⟨by rw [hx.o];simp,rfl⟩
theorem Pm (n:Nat) (w:World) (hn:n<=40) :
  Calls Tryz.prog 218 #[.int .i64 n] w λe w'=>e = .returned (.int .i64 ((2 ^ n:Nat):Int))/\w=w':=by
 go_enter Tryz.func218,Tryz.ntmps218
 go_wp2
 go_loop [4,3] (λi o=>∃ (k:Nat) (x:Int),k<=n/\i = .int .i64 k/\o = .int .i64 x/\0<=x/\x<=1099511627776/\Box (x=2 ^ k)) (λi _=>n-(intOf i).toNat)
 case atStart=>exact⟨0,1,by omega,rfl,rfl,by omega,by omega,⟨rfl⟩⟩
 case round =>
  obtain⟨k,x,hk,rfl,rfl,hx0,hx1,hx⟩:=hrel
  by_cases hlt:k<n
  ·have h2:=KW (k+1) (by omega);have HX:=bx (show 2*x=2 ^ (k+1) by rw [hx.o,Int.pow_succ];omega);have HY:=bx (show 2*x<=1099511627776 by rw [HX.o];exact h2);clear h2
   go_wp2
   go_round
   case rel=>exact⟨k+1,2*x,hlt,by go_num,rfl,by omega,HY.o,HX⟩
   case measure=>simp [intOf];omega
  ·obtain rfl:k=n:=by omega
   go_wp2
   go_ret
   exact⟨by rw [hx.o];simp,rfl⟩
theorem Nq (set:Int) (w:World) :
  Calls Tryz.prog 221 #[.int .i64 set, .int .i64 32] w λe w'=>e = .returned (.bool (setB set))/\w=w':=by
 unfold setB
 by_cases h0:0<=set
 ·go_enter Tryz.func221,Tryz.ntmps221
  go_wp2
  all_goals go_ret
  all_goals refine⟨aI ?_,rfl⟩
  all_goals (rw [Bool.eq_iff_iff];simp;omega)
 ·go_enter Tryz.func221,Tryz.ntmps221
  go_wp2
  go_ret
  exact⟨aI (by simp;omega),rfl⟩
theorem and_1 (x:Int) (h0:0<=x) (h1:x<9223372036854775808):bits .and .i64 x 1=x % 2:=by
 obtain⟨k,rfl⟩:=Int.eq_ofNat_of_zero_le h0;have:=Xz k 1 (by omega) (by omega);rw [show ((1:Nat):Int)=1 from rfl] at this;rw [this,Nat.and_one_is_mod];omega
theorem Y9 (S n:Nat) (h:S<9223372036854775808):(bits .and .i64 ((S:Int) / 2 ^ n) 1==1)=S.testBit n:=by
 have hd:(S:Int) / 2 ^ n=((S / 2 ^ n:Nat):Int):=by simp
 have hle:S / 2 ^ n<=S:=Nat.div_le_self _ _;rw [hd,Nat.testBit_eq_decide_div_mod_eq];generalize S / 2 ^ n=z at hle;rw [and_1 _ (by omega) (by omega),Bool.eq_iff_iff];simp only [beq_iff_eq,decide_eq_true_eq];omega
theorem Xo (set n:Int) (w:World):Calls Tryz.prog 210 #[.int .i64 set, .int .i64 n] w λe w'=>e = .returned (.bool (N.iC set n))/\w=w':=by
 unfold N.iC
 by_cases hs:setB set=true
 ·have HS:=bx hs;unfold setB at hs;simp only [Bool.and_eq_true,decide_eq_true_eq] at hs;obtain⟨h0,h1⟩:=hs
  by_cases hn:0<=n/\n<32
  ·obtain⟨h2,h3⟩:=hn
   go_enter Tryz.func210,Tryz.ntmps210
   go_wp2_with fail;refine(Nq set _).mono ?_;rintro e w1 ⟨rfl,rfl⟩;rw [HS.o];go_wp2_with fail;go_ret
   refine⟨aI ?_,rfl⟩;obtain⟨S,rfl⟩:=Int.eq_ofNat_of_zero_le h0;rw [Y9 S _ (by omega)];simp [h1,h2,h3]
  ·have hn':n<0\/(0<=n/\32<=n):=by omega
   rcases hn' with h | ⟨h,h'⟩
   all_goals
    go_enter Tryz.func210,Tryz.ntmps210
    go_wp2_with fail;refine(Nq set _).mono ?_;rintro e w1 ⟨rfl,rfl⟩;rw [HS.o];go_wp2_with fail;go_ret
    refine⟨aI ?_,rfl⟩;simp;omega
 ·have HS:=bx (show setB set=false by simpa using hs)
  go_enter Tryz.func210,Tryz.ntmps210
  go_wp2_with fail;refine(Nq set _).mono ?_;rintro e w1 ⟨rfl,rfl⟩;rw [HS.o];go_wp2_with fail;go_ret
  refine⟨aI ?_,rfl⟩;have:=HS.o;unfold setB at this;rw [this];rfl
theorem Em (set:Int) (w:World) :
  Calls Tryz.prog 200 #[.int .i64 set, .int .i64 32] w λe w'=>e = .returned (.bool (setB set))/\w=w':=by
 unfold setB
 by_cases h0:0<=set
 ·go_enter Tryz.func200,Tryz.ntmps200
  go_wp2_with fail;refine(Pm 32 _ (by omega)).mono ?_;rintro e w1 ⟨rfl,rfl⟩;go_wp2_with fail;go_ret
  refine⟨aI ?_,rfl⟩;rw [Bool.eq_iff_iff];simp;omega
 ·go_enter Tryz.func200,Tryz.ntmps200
  go_wp2_with fail;go_ret
  exact⟨aI (by simp;omega),rfl⟩
theorem Nb (S n:Nat):((S:Int) / ((2 ^ n:Nat):Int) % 2==1)=S.testBit n:=by
 have hd:(S:Int) / ((2 ^ n:Nat):Int)=((S / 2 ^ n:Nat):Int):=by simp
 rw [hd,Nat.testBit_eq_decide_div_mod_eq,Bool.eq_iff_iff];generalize S / 2 ^ n=z;simp only [beq_iff_eq,decide_eq_true_eq];omega
theorem Pj (S q:Nat):0<=(S:Int) / (q:Int)/\(S:Int) / (q:Int)<=S:=by
 have h:=Nat.div_le_self S q;rw [show (S:Int) / (q:Int)=((S / q:Nat):Int) by simp];exact⟨Int.natCast_nonneg _,by exact_mod_cast h⟩
theorem CS (set n:Int) (w:World):Calls Tryz.prog 219 #[.int .i64 set, .int .i64 n] w λe w'=>e = .returned (.bool (N.iC set n))/\w=w':=by
 unfold N.iC
 by_cases hs:setB set=true
 ·have HS:=bx hs;unfold setB at hs;simp only [Bool.and_eq_true,decide_eq_true_eq] at hs;obtain⟨h0,h1⟩:=hs
  by_cases hn:0<=n/\n<32
  ·obtain⟨h2,h3⟩:=hn;obtain⟨m,rfl⟩:=Int.eq_ofNat_of_zero_le h2;have hp:0<2 ^ m:=Nat.two_pow_pos m;obtain⟨q,hq⟩:∃ q,2 ^ m=q:=⟨_,rfl⟩
   have hq0:0<q:=by rw [<- hq];exact hp
   have HQ:=bx hq;obtain⟨S,rfl⟩:=Int.eq_ofNat_of_zero_le h0;obtain⟨d0,d1⟩:=Pj S q;have d2:(S:Int) / (q:Int)<4294967296:=by omega
   clear hq hp
   go_enter Tryz.func219,Tryz.ntmps219
   go_wp2_with fail;refine(Em S _).mono ?_;rintro e w1 ⟨rfl,rfl⟩;rw [HS.o];go_wp2_with fail;refine(Pm m _ (by omega)).mono ?_;rintro e w1 ⟨rfl,rfl⟩;rw [HQ.o];go_wp2_with fail;go_ret
   refine⟨aI ?_,rfl⟩;rw [<- HQ.o,Nb];simp [h1,h3]
  ·have hn':n<0\/(0<=n/\32<=n):=by omega
   rcases hn' with h | ⟨h,h'⟩
   all_goals
    go_enter Tryz.func219,Tryz.ntmps219
    go_wp2_with fail;refine(Em set _).mono ?_;rintro e w1 ⟨rfl,rfl⟩;rw [HS.o];go_wp2_with fail;go_ret
    refine⟨aI ?_,rfl⟩;simp;omega
 ·have HS:=bx (show setB set=false by simpa using hs)
  go_enter Tryz.func219,Tryz.ntmps219
  go_wp2_with fail;refine(Em set _).mono ?_;rintro e w1 ⟨rfl,rfl⟩;rw [HS.o];go_wp2_with fail;go_ret
  refine⟨aI ?_,rfl⟩;have:=HS.o;unfold setB at this;rw [this];rfl
theorem Ak (S n:Nat) (w:World) (hn:n<=40) (hS:S<4611686018427387904):Calls Tryz.prog 201 #[.int .i64 S, .int .i64 n] w λe w'=>e = .returned (.bool (S.testBit n))/\w=w':=by
 have hp:0<2 ^ n:=Nat.two_pow_pos n;obtain⟨q,hq⟩:∃ q,2 ^ n=q:=⟨_,rfl⟩
 have hq0:0<q:=by rw [<- hq];exact hp
 have HQ:=bx hq;obtain⟨d0,d1⟩:=Pj S q;have d2:(S:Int) / (q:Int)<4611686018427387904:=by omega
 clear hq hp
 go_enter Tryz.func201,Tryz.ntmps201
 go_wp2_with fail;refine(Qe n _ hn).mono ?_;rintro e w1 ⟨rfl,rfl⟩;rw [HQ.o];go_wp2_with fail;go_ret
 refine⟨aI ?_,rfl⟩;rw [<- HQ.o,Nb]
def bQ (w:World) (v:Value) (l:List N.Item):Prop :=
 (v = .slice none 0 0/\l=[])\/∃ b off sp cap,v = .slice (some ⟨b,off,sp⟩) l.length cap/\l.length<=cap/\cap<=maxLen /\
  (l≠[]->sp=none/\b<w.heap.size/\∀ i x,l[i]?=some x->w.cell? ⟨b,off+i*2,none⟩=some (.int .i64 x.1)/\w.cell? ⟨b,off+i*2+1,none⟩=some (.int .i64 x.2))
theorem bQ.below {w w':World} {v:Value} {l:List N.Item} (h:bQ w v l) (hb:Below w.heap.size w w'):bQ w' v l:=by
 rcases h with h | ⟨b,off,sp,cap,h1,h2,h3,h4⟩
 ·exact .inl h
 ·exact .inr ⟨b,off,sp,cap,h1,h2,h3,λhn=>⟨(h4 hn).1,Nat.lt_of_lt_of_le (h4 hn).2.1 hb.size,λi x hx =>
   ⟨(hb.cell (p:=⟨b,off+i*2,none⟩) (h4 hn).2.1).trans ((h4 hn).2.2 i x hx).1,(hb.cell (p:=⟨b,off+i*2+1,none⟩) (h4 hn).2.1).trans ((h4 hn).2.2 i x hx).2⟩⟩⟩
theorem bQ.get {w:World} {v:Value} {l:List N.Item} (h:bQ w v l) (hn:l≠[]) :
  ∃ b off cap,v = .slice (some ⟨b,off,none⟩) l.length cap/\l.length<=cap/\cap<=maxLen/\b<w.heap.size /\
   ∀ i x,l[i]?=some x->w.cell? ⟨b,off+i*2,none⟩=some (.int .i64 x.1)/\w.cell? ⟨b,off+i*2+1,none⟩=some (.int .i64 x.2):=by
 rcases h with⟨_,h⟩ | ⟨b,off,sp,cap,h1,h2,h3,h4⟩
 ·exact absurd h hn
 ·obtain⟨rfl,h5,h6⟩:=h4 hn;exact⟨b,off,cap,h1,h2,h3,h5,h6⟩
theorem bQ.slice {w:World} {v:Value} {l:List N.Item} (h:bQ w v l):∃ a cap,v = .slice a l.length cap:=by
 rcases h with⟨rfl,rfl⟩ | ⟨b,off,sp,cap,rfl,_⟩
 ·exact⟨_,_,rfl⟩
 ·exact⟨_,_,rfl⟩
def lY (x:N.Item):Bool:=setB x.1&&decide (0<=x.2)&&decide (x.2<=2)
def fQ (l:List N.Item):Bool:=decide (l.length<=10)&&l.all lY
theorem abt (x:N.Item) (bn:Nat) (w:World) (hn:w.cell? ⟨bn,0,none⟩=some (.int .i64 32)) (hlt:bn<w.heap.size) :
  Calls Tryz.prog 220 #[.agg #[.int .i64 x.1, .int .i64 x.2], .pointer (some ⟨bn,0,none⟩)] w λe w'=>e = .returned (.bool (!lY x))/\Below w.heap.size w w':=by
 obtain⟨set,how⟩:=x;unfold lY;have hb:∀ o1 o2,Below w.heap.size w ((w.alloc o1).alloc o2):=λo1 o2=>((Below.refl _ _).alloc (Nat.le_refl _) _).alloc (by simp) _
 go_enter Tryz.func220,Tryz.ntmps220
 rcases Int.lt_or_le how 0 with h | h
 ·go_wp2_with fail;go_ret
  exact⟨aI (by simp;omega),hb _ _⟩
 rcases Int.lt_or_le 2 how with h2 | h2
 ·go_wp2_with fail;go_ret
  exact⟨aI (by simp;omega),hb _ _⟩
 have ho:=World.cell?_alloc_old;go_wp2_with (go_at_call 221;refine(Nq _ _).mono ?_;rintro e w1 ⟨rfl,rfl⟩)
 go_ret
 exact⟨aI (by simp [h,h2]),hb _ _⟩
theorem acs (l:List N.Item) (k:Nat) (x:N.Item) (h:l[k]?=some x) (ha:(l.take k).all lY=true) (hx:lY x=true):(l.take (k+1)).all lY=true:=by
 rw [List.take_add_one,h,List.all_append,ha];simp [hx]
theorem Oo (l:List N.Item) (k:Nat) (x:N.Item) (h:l[k]?=some x) (hx:lY x=false):l.all lY=false:=by
 rw [Bool.eq_false_iff];intro ha;rw [List.all_eq_true] at ha;rw [ha x (List.mem_of_getElem? h)] at hx
 cases hx
theorem ajI (v:Value) (l:List N.Item) (bn:Nat) (w:World) (hv:bQ w v l) (hz:l.length<=16777216) (hn:w.cell? ⟨bn,0,none⟩=some (.int .i64 32)) (hlt:bn<w.heap.size) :
  Calls Tryz.prog 231 #[v, .func (.func 220) #[] #[.pointer (some ⟨bn,0,none⟩)]] w λe w'=>(∃ i:Int,e = .returned (.int .i64 i)/\decide (0<=i)=!l.all lY)/\Below w.heap.size w w':=by
 have oz:=bx hv;obtain⟨ao,cap,rfl⟩:=hv.slice;clear hv;have HN:=bx hn;clear hn
 go_enter Tryz.func231,Tryz.ntmps231
 go_wp2
 go_loopw [8] (λi wr=>∃ k:Nat,k<=l.length/\i = .int .i64 k/\Box ((l.take k).all lY=true)/\Box (Below w.heap.size w wr)) (λi _=>l.length-(intOf i).toNat)
 case atStart=>exact⟨0,by omega,rfl,⟨rfl⟩,⟨Below.refl _ _⟩⟩
 case round =>
  obtain⟨k,hk,rfl,ha,hb⟩:=hrel
  by_cases hlt':k<l.length
  ·obtain⟨x,hx⟩:∃ x,l[k]?=some x:=⟨_,List.getElem?_eq_getElem hlt'⟩
   have HX:=bx hx;obtain⟨g,off,cap2,hg1,hg2,hg3,hg4,hg5⟩:=(oz.o.below hb.o).get (by rintro rfl;simp at hlt');obtain⟨rfl,rfl⟩:ao=some ⟨g,off,none⟩/\cap=cap2:=by injection hg1 with h1 h2 h3;exact⟨h1,h3⟩
   obtain⟨hc1,hc2⟩:=hg5 k x hx;unfold maxLen at hg3;have zU:=bx (show wr.cell? ⟨bn,0,none⟩=some (.int .i64 32) from(hb.o.cell (p:=⟨bn,0,none⟩) hlt).trans HN.o);have HL2:=bx (show bn<wr.heap.size from Nat.lt_of_lt_of_le hlt hb.o.size);clear hx hg1 hg5
   cases hi:lY x with
   | true =>
    have HT:=bx (acs l k x HX.o ha.o hi);have HI:=bx (show (!lY x)=false by rw [hi];rfl);clear hi;go_wp2_with fail;refine(abt x bn _ zU.o HL2.o).mono ?_;rintro e w1 ⟨rfl,hb1⟩;rw [HI.o];have HB1:=bx (show Below w.heap.size w w1 from bt hb.o hb1);clear hb1;go_wp2_with fail
    go_roundw
    case rel=>exact⟨k+1,hlt',by go_num,HT,HB1⟩
    case measure=>simp [intOf];omega
   | false =>
    have HT:=bx (Oo l k x HX.o hi);have HI:=bx (show (!lY x)=true by rw [hi];rfl);clear hi;go_wp2_with fail;refine(abt x bn _ zU.o HL2.o).mono ?_;rintro e w1 ⟨rfl,hb1⟩;rw [HI.o];go_wp2_with fail;go_ret
    exact⟨⟨k,rfl,by rw [HT.o];simp⟩,bt hb.o hb1⟩
  ·have HT:=bx (show l.all lY=true by have:=ha.o;rwa [List.take_of_length_le (by omega)] at this);go_wp2_with fail;go_ret
   exact⟨⟨-1,rfl,by rw [HT.o];rfl⟩,hb.o⟩
end
end Go.Proofs.YtdenoeakcflnmaaGreatDoor
