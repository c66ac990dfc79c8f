/- Texts of this claim. -/
import Derived.Test.YtdponihkpomheaaGreatDoorH0
import Derived.KernelRfl
import Derived.Test.YtdponihkpomheaaGreatDoorProg
import Derived.WalkKit
import Derived.WalkSpells
import Derived.WalkLawsBesides
import Derived.Handy
import Derived.Lib.Hide
import Derived.Deep.QuietTactic
import Derived.BigQuiet
import Derived.Deep.RegionHeld3
import Derived.Deep.RegionWith
import Derived.Deep.DeepCutAuto
import Derived.StillTailTactics
import Derived.MapKept
import Derived.LaidEql
import Derived.Stop.Asserts
import Derived.Stop.LaidTwo
import Derived.RowKitTokens
import Derived.Laws.OwnMore
import Derived.Deep.Draws
import Derived.Stop.LaidErr
import Derived.ProofKit
import Derived.Deep.SlicePairs
import Derived.Lib.SmallJoins
import Derived.DataReads
import Derived.RegionTactic

set_option maxHeartbeats 2000000
namespace Go.Proofs.YtdponihkpomheaaGreatDoor
open Go.RowKit
open Tryz
namespace U
def dG (c:Int):Int:=if c<128 then 0 else if c<194 then -1 else if c<224 then 1 else if c<240 then 2 else if c<245 then 3 else -1
def iO (c:Int):Int:=if dG c<0 then 0 else if c=224 then 160 else if c=240 then 144 else 128
def iI (c:Int):Int:=if dG c<0 then 0 else if c=237 then 159 else if c=244 then 143 else 191
def iK (c:Int):Int:=if dG c<0 then 0 else if c<128 then 0 else if c<224 then 192 else if c<240 then 224 else 240
def right (r:Int):Bool:=decide (0<=r)&&decide (r<=1114111)&&(decide (r<55296)||decide (57343<r))
def kC (c:UInt8):Bool:=decide (128<=c.toNat)&&decide (c.toNat<=191)
def aH (c:UInt8):Int:=(c.toNat:Int)
def fold (a:Int) (l:List UInt8):Int:=l.foldl (λa c=>64*a+aH c-128) a
def qY (c:Int) (l:List UInt8):Bool :=
 decide (dG c<=(l.length:Int))&&(l.take (dG c).toNat).all kC &&
  (match l.take (dG c).toNat with | []=>true | d::_=>decide (iO c<=aH d)&&decide (aH d<=iI c))
def dec:List UInt8->Option (Int×Nat)
 | []=>none
 | c::l=>if dG (aH c)<0 then none else if qY (aH c) l then some (fold (aH c-iK (aH c)) (l.take (dG (aH c)).toNat),(dG (aH c)).toNat+1) else none
def byte (n:Int):UInt8:=UInt8.ofNat n.toNat
def enc (r:Int):List UInt8 :=
 if r<128 then [byte r]
 else if r<2048 then [byte (192+r / 64),byte (128+r % 64)]
 else if r<65536 then [byte (224+r / 4096),byte (128+r / 64 % 64),byte (128+r % 64)]
 else [byte (240+r / 262144),byte (128+r / 4096 % 64),byte (128+r / 64 % 64),byte (128+r % 64)]
theorem G8 (c:UInt8):0<=aH c:=by unfold aH;omega
theorem Jq (c:UInt8):aH c<256:=by unfold aH;have:=c.toNat_lt;omega
theorem AA (n:Int) (h0:0<=n) (h1:n<256):aH (byte n)=n:=by
 unfold aH byte;rw [UInt8.toNat_ofNat'];have:n.toNat % 2 ^ 8=n.toNat:=Nat.mod_eq_of_lt (by omega);rw [this];omega
theorem Y6 {c d:UInt8} (h:aH c=aH d):c=d:=by
 apply UInt8.toNat_inj.1;unfold aH at h;omega
theorem abh (c:UInt8):byte (aH c)=c:=Y6 (AA _ (G8 c) (Jq c))
theorem Ep {n:Int} {c:UInt8} (h:n=aH c):byte n=c:=by rw [h,abh]
theorem oW (c:UInt8):kC c=true↔128<=aH c/\aH c<=191:=by
 unfold kC aH;simp;omega
theorem aeF (c:UInt8):kC c=false↔aH c<128\/191<aH c:=by
 rw [<- Bool.not_eq_true,oW];omega
theorem Gs (r:Int):right r=true↔0<=r/\r<=1114111/\(r<55296\/57343<r):=by
 unfold right;simp;omega
theorem Jo (r:Int):1<=(enc r).length/\(enc r).length<=4:=by
 unfold enc;repeat' (first | split | simp)
theorem ahh (r:Int) (h:right r=true) (t:List UInt8):dec (enc r++t)=some (r,(enc r).length):=by
 rw [Gs] at h;obtain⟨h0,h1,h2⟩:=h;unfold enc
 split
 ·simp only [jd,iJ,dec];rw [AA r h0 (by omega)];have e1:dG r=0:=by unfold dG;rw [aG (by omega)]
  have e2:iK r=0:=by unfold iK;rw [e1];simp;omega
  simp [e1,e2,qY,fold]
 split
 ·simp only [jd,iJ,dec];rw [AA (192+r / 64) (by omega) (by omega)];have e1:dG (192+r / 64)=1:=by unfold dG;rw [aF (by omega),aF (by omega),aG (by omega)]
  have e2:iK (192+r / 64)=192:=by unfold iK;rw [e1,aF (by omega),aF (by omega),aG (by omega)]
  have e3:iO (192+r / 64)=128:=by unfold iO;rw [e1,aF (by omega),aF (by omega),aF (by omega)]
  have e4:iI (192+r / 64)=191:=by unfold iI;rw [e1,aF (by omega),aF (by omega),aF (by omega)]
  have b1:=AA (128+r % 64) (by omega) (by omega);have t1:kC (byte (128+r % 64))=true:=by rw [oW,b1];omega
  simp [e1,e2,e3,e4,qY,fold,t1,b1]
  constructor <;> omega
 split
 ·simp only [jd,iJ,dec];rw [AA (224+r / 4096) (by omega) (by omega)];have e1:dG (224+r / 4096)=2:=by unfold dG;rw [aF (by omega),aF (by omega),aF (by omega),aG (by omega)]
  have e2:iK (224+r / 4096)=224:=by unfold iK;rw [e1,aF (by omega),aF (by omega),aF (by omega),aG (by omega)]
  have b1:=AA (128+r / 64 % 64) (by omega) (by omega);have b2:=AA (128+r % 64) (by omega) (by omega);have t1:kC (byte (128+r / 64 % 64))=true:=by rw [oW,b1];omega
  have t2:kC (byte (128+r % 64))=true:=by rw [oW,b2];omega
  have e3:iO (224+r / 4096)<=128+r / 64 % 64:=by unfold iO;rw [e1];repeat' (first | omega | split)
  have e4:128+r / 64 % 64<=iI (224+r / 4096):=by unfold iI;rw [e1];repeat' (first | omega | split)
  have e5:(2:Int)<=(t.length:Int)+1+1:=by omega
  simp [e1,e2,e3,e4,e5,qY,fold,t1,t2,b1,b2];omega
 simp only [jd,iJ,dec];rw [AA (240+r / 262144) (by omega) (by omega)];have e1:dG (240+r / 262144)=3:=by unfold dG;rw [aF (by omega),aF (by omega),aF (by omega),aF (by omega),aG (by omega)]
 have e2:iK (240+r / 262144)=240:=by unfold iK;rw [e1,aF (by omega),aF (by omega),aF (by omega),aF (by omega)]
 have b1:=AA (128+r / 4096 % 64) (by omega) (by omega);have b2:=AA (128+r / 64 % 64) (by omega) (by omega);have b3:=AA (128+r % 64) (by omega) (by omega);have t1:kC (byte (128+r / 4096 % 64))=true:=by rw [oW,b1];omega
 have t2:kC (byte (128+r / 64 % 64))=true:=by rw [oW,b2];omega
 have t3:kC (byte (128+r % 64))=true:=by rw [oW,b3];omega
 have e3:iO (240+r / 262144)<=128+r / 4096 % 64:=by unfold iO;rw [e1];repeat' (first | omega | split)
 have e4:128+r / 4096 % 64<=iI (240+r / 262144):=by unfold iI;rw [e1];repeat' (first | omega | split)
 have e5:(3:Int)<=(t.length:Int)+1+1+1:=by omega
 simp [e1,e2,e3,e4,e5,qY,fold,t1,t2,t3,b1,b2,b3];omega
theorem PN (c:Int):dG c=-1\/dG c=0\/dG c=1\/dG c=2\/dG c=3:=by unfold dG;repeat' (first | omega | split)
theorem aaf (c:Int) (h:dG c=0):c<128:=by unfold dG at h;split at h;assumption;repeat' (first | omega | split at h)
theorem aaw (c:Int) (h:dG c=1):194<=c/\c<224:=by unfold dG at h;repeat' (first | omega | split at h)
theorem ZO (c:Int) (h:dG c=2):224<=c/\c<240:=by unfold dG at h;repeat' (first | omega | split at h)
theorem aas (c:Int) (h:dG c=3):240<=c/\c<245:=by unfold dG at h;repeat' (first | omega | split at h)
theorem Om (c:Int) (h:0<=dG c):128<=iO c/\(c=224->iO c=160)/\(c=240->iO c=144):=by
 unfold iO;rw [aF (by omega)];repeat' (first | omega | split)
theorem Na (c:Int) (h:0<=dG c):iI c<=191/\(c=237->iI c=159)/\(c=244->iI c=143):=by
 unfold iI;rw [aF (by omega)];repeat' (first | omega | split)
theorem tail_range {c:UInt8} (h:kC c=true):128<=aH c/\aH c<=191:=(oW c).1 h
theorem JF {s:List UInt8} {r:Int} {n:Nat} (h:dec s=some (r,n)):right r=true/\enc r=s.take n/\1<=n/\n<=4/\n<=s.length:=by
 cases s with
 | nil=>simp [dec] at h
 | cons c l =>
  have c0:=G8 c;simp only [dec] at h
  split at h
  ·cases h
  rename_i hn
  split at h
  case isFalse=>cases h
  rename_i ht
  simp only [iQ,Prod.mk.injEq] at h;obtain⟨rfl,rfl⟩:=h;simp only [qY,dD,fD] at ht;obtain⟨⟨hlen,hall⟩,hd⟩:=ht
  rcases PN (aH c) with e | e | e | e | e
  ·omega
  ·have hc:=aaf _ e;have em:iK (aH c)=0:=by unfold iK;rw [e];simp;omega
   simp only [e,em,Int.toNat_zero,qN,fold,List.foldl_nil,Int.sub_zero,Nat.zero_add,wM];refine⟨by rw [Gs];omega,?_,by omega,by omega,by simp⟩;unfold enc;rw [aG hc,abh]
  ·have hc:=aaw _ e;have em:iK (aH c)=192:=by unfold iK;rw [e,aF (by omega),aF (by omega),aG (by omega)]
   rcases l with _ | ⟨d1,l⟩
   ·simp [e] at hlen
   
   simp only [e,Int.toNat_one,wM,qN,List.all_cons,List.all_nil,Bool.and_true] at hall;have t1:=tail_range hall;simp only [e,em,Int.toNat_one,wM,qN,fold,List.foldl_cons,List.foldl_nil];refine And.intro ((Gs _).2 (by omega)) (And.intro ?_ (And.intro (by omega) (And.intro (by omega) (by simp))));unfold enc;rw [aF (by omega),aG (by omega)];simp only [jm,and_true];exact⟨Ep (by omega),Ep (by omega)⟩
  ·have hc:=ZO _ e;have em:iK (aH c)=224:=by unfold iK;rw [e,aF (by omega),aF (by omega),aF (by omega),aG (by omega)]
   have hlo:=Om (aH c) (by omega);have hhi:=Na (aH c) (by omega)
   rcases l with _ | ⟨d1,l⟩
   ·simp [e] at hlen
   rcases l with _ | ⟨d2,l⟩
   ·simp [e] at hlen
   
   have e2:(2:Int).toNat=2:=rfl;simp only [e,e2,wM,qN,List.all_cons,List.all_nil,Bool.and_true,dD] at hall;simp only [e,e2,wM,qN,dD,fD] at hd;have t1:=tail_range hall.1;have t2:=tail_range hall.2;simp only [e,e2,em,wM,qN,fold,List.foldl_cons,List.foldl_nil];refine And.intro ((Gs _).2 (by omega)) (And.intro ?_ (And.intro (by omega) (And.intro (by omega) (by simp))));unfold enc;rw [aF (by omega),aF (by omega),aG (by omega)];simp only [jm,and_true];exact⟨Ep (by omega),Ep (by omega),Ep (by omega)⟩
  have hc:=aas _ e;have em:iK (aH c)=240:=by unfold iK;rw [e,aF (by omega),aF (by omega),aF (by omega),aF (by omega)]
  have hlo:=Om (aH c) (by omega);have hhi:=Na (aH c) (by omega)
  rcases l with _ | ⟨d1,l⟩
  ·simp [e] at hlen
  rcases l with _ | ⟨d2,l⟩
  ·simp [e] at hlen
  rcases l with _ | ⟨d3,l⟩
  ·simp [e] at hlen
   
  have e2:(3:Int).toNat=3:=rfl;simp only [e,e2,wM,qN,List.all_cons,List.all_nil,Bool.and_true,dD] at hall;simp only [e,e2,wM,qN,dD,fD] at hd;have t1:=tail_range hall.1;have t2:=tail_range hall.2.1;have t3:=tail_range hall.2.2;simp only [e,e2,em,wM,qN,fold,List.foldl_cons,List.foldl_nil];refine And.intro ((Gs _).2 (by omega)) (And.intro ?_ (And.intro (by omega) (And.intro (by omega) (by simp))));unfold enc;rw [aF (by omega),aF (by omega),aF (by omega)];simp only [jm,and_true];exact⟨Ep (by omega),Ep (by omega),Ep (by omega),Ep (by omega)⟩
def dF:Nat->List UInt8->Option (List Int)
 | 0,s=>if s=[] then some [] else none
 | k+1,s=>if s=[] then some [] else
  match dec s with
  | none=>none
  | some (r,n)=>(dF k (s.drop n)).map (r::·)
def scalars (s:List UInt8):Option (List Int):=dF s.length s
def valid (s:List UInt8):Bool:=(scalars s).isSome
def textOf (l:List Int):List UInt8:=l.flatMap enc
theorem aqK (k:Nat):∀ (s:List UInt8) (j:Nat),s.length<=k->s.length<=j->dF k s=dF j s:=by
 induction k with
 | zero=>intro s j h _;have:s=[]:=nR (by omega);subst this;cases j <;> rfl
 | succ k ih =>
  intro s j h hj
  cases j with
  | zero=>have:s=[]:=nR (by omega);subst this;rfl
  | succ j =>
   simp only [dF]
   split
   ·rfl
   cases hd:dec s with
   | none=>rfl
   | some p =>
    obtain⟨r,n⟩:=p;have:=JF hd;simp only;rw [ih (s.drop n) j (by rw [gy];omega) (by rw [gy];omega)]
theorem aaS:scalars []=some []:=rfl
theorem QI {s:List UInt8} (hs:s≠[]) (h:dec s=none):scalars s=none:=by
 unfold scalars
 cases hl:s.length with
 | zero=>exact absurd (nR hl) hs
 | succ k=>simp only [dF];rw [aF hs,h]
theorem Ul {s:List UInt8} {r:Int} {n:Nat} (h:dec s=some (r,n)):scalars s=(scalars (s.drop n)).map (r::·):=by
 have hs:s≠[]:=by rintro rfl;simp [dec] at h
 have:=JF h;unfold scalars
 cases hl:s.length with
 | zero=>exact absurd (nR hl) hs
 | succ k =>
  simp only [dF];rw [aF hs,h];simp only;rw [aqK k (s.drop n) (s.drop n).length (by rw [gy];omega) aU]
theorem U3 (r:Int) (h:right r=true) (t:List UInt8):scalars (enc r++t)=(scalars t).map (r::·):=by
 rw [Ul (ahh r h t),List.drop_left]
theorem ah7 (l:List Int) (h:∀ r∈l,right r=true) (t:List UInt8):scalars (textOf l++t)=(scalars t).map (l++·):=by
 induction l with
 | nil=>simp [textOf]
 | cons r l ih =>
  have e:textOf (r::l)++t=enc r++(textOf l++t):=by simp [textOf]
  rw [e,U3 r (h r (by simp)),ih (λr hr=>h r (by simp [hr])),Option.map_map]
  congr 1
theorem apa (k:Nat):∀ (s:List UInt8) (l:List Int),s.length<=k->scalars s=some l->textOf l=s/\∀ r∈l,right r=true:=by
 induction k with
 | zero =>
  intro s l hk h;have:s=[]:=nR (by omega);subst this;rw [aaS] at h
  cases h;exact⟨rfl,λr hr=>by cases hr⟩
 | succ k ih =>
  intro s l hk h
  by_cases hs:s=[]
  ·subst hs;rw [aaS] at h
   cases h;exact⟨rfl,λr hr=>by cases hr⟩
  cases hd:dec s with
  | none=>rw [QI hs hd] at h;cases h
  | some p =>
   obtain⟨r,n⟩:=p;obtain⟨hr,he,h1,_,hn⟩:=JF hd;rw [Ul hd] at h
   cases hl:scalars (s.drop n) with
   | none=>rw [hl] at h;cases h
   | some l' =>
    rw [hl] at h;simp only [Option.map_some,iQ] at h;subst h;obtain⟨g1,g2⟩:=ih _ l' (by rw [gy];omega) hl;refine⟨?_,λx hx=>?_⟩
    ·show enc r++textOf l'=s
     rw [g1,he,oN]
    rcases fB.1 hx with rfl | hx
    ·exact hr
    exact g2 x hx
theorem zJ (s:List UInt8) (l:List Int):scalars s=some l↔textOf l=s/\∀ r∈l,right r=true:=by
 refine⟨apa s.length s l aU,λ⟨h1,h2⟩=>?_⟩;have:=ah7 l h2 [];rw [oG,h1,aaS] at this
 simpa using this
theorem Fq (a b:List Int):textOf (a++b)=textOf a++textOf b:=by simp [textOf]
theorem PU {c:UInt8} {t:List UInt8} (e:dG (aH c)<0):dec (c::t)=none:=by simp only [dec];rw [aG e]
theorem afq {c:UInt8} {t:List UInt8} (h:(t.length:Int)<dG (aH c)):dec (c::t)=none:=by
 simp only [dec]
 split
 ·rfl
 rw [aF];simp only [qY,dD,fD];omega
theorem Ue {c:UInt8} {t:List UInt8} (e:dG (aH c)=0):dec (c::t)=some (aH c,1):=by
 have hc:=aaf _ e;have em:iK (aH c)=0:=by unfold iK;rw [e];simp;omega
 simp [dec,e,em,qY,fold]
theorem Uu {c d1:UInt8} {t:List UInt8} (e:dG (aH c)=1) :
  dec (c::d1::t)=if iO (aH c)<=aH d1/\aH d1<=iI (aH c)/\128<=aH d1/\aH d1<=191 then some (64*(aH c-192)+aH d1-128,2) else none:=by
 have hc:=aaw _ e;have em:iK (aH c)=192:=by unfold iK;rw [e,aF (by omega),aF (by omega),aG (by omega)]
 have h1:=oW d1;simp only [dec,e,em];rw [aF (by omega)]
 by_cases k1:kC d1=true
 ·have:=h1.1 k1
  by_cases k2:iO (aH c)<=aH d1/\aH d1<=iI (aH c)
  ·rw [aG,aG (by omega)]
   ·simp [fold]
   simp [qY,e,k1,k2];omega
  rw [aF,aF (by omega)];simp [qY,e,k1];omega
 rw [aF,aF (by rw [h1] at k1;omega)];simp [qY,e,k1]
theorem Rx {c d1 d2:UInt8} {t:List UInt8} (e:dG (aH c)=2) :
  dec (c::d1::d2::t)=if iO (aH c)<=aH d1/\aH d1<=iI (aH c)/\128<=aH d1/\aH d1<=191/\128<=aH d2/\aH d2<=191 then some (64*(64*(aH c-224)+aH d1-128)+aH d2-128,3) else none:=by
 have hc:=ZO _ e;have em:iK (aH c)=224:=by unfold iK;rw [e,aF (by omega),aF (by omega),aF (by omega),aG (by omega)]
 have h1:=oW d1;have h2:=oW d2;have e2:(2:Int).toNat=2:=rfl;simp only [dec,e,em];rw [aF (by omega)]
 by_cases k1:kC d1=true/\kC d2=true
 ·have j1:=h1.1 k1.1;have j2:=h2.1 k1.2
  by_cases k2:iO (aH c)<=aH d1/\aH d1<=iI (aH c)
  ·rw [aG,aG (by omega)]
   ·simp [fold,e2]
   simp [qY,e,e2,k1,k2];omega
  rw [aF,aF (by omega)];simp [qY,e,e2,k1];omega
 rw [aF,aF (by rw [h1,h2] at k1;omega)];simp only [qY,e,e2,wM,qN,List.all_cons,List.all_nil,Bool.and_true,dD];exact λh=>k1 h.1.2
theorem UG {c d1 d2 d3:UInt8} {t:List UInt8} (e:dG (aH c)=3) :
  dec (c::d1::d2::d3::t)=if iO (aH c)<=aH d1/\aH d1<=iI (aH c)/\128<=aH d1/\aH d1<=191/\128<=aH d2/\aH d2<=191/\128<=aH d3/\aH d3<=191 then some (64*(64*(64*(aH c-240)+aH d1-128)+aH d2-128)+aH d3-128,4) else none:=by
 have hc:=aas _ e;have em:iK (aH c)=240:=by unfold iK;rw [e,aF (by omega),aF (by omega),aF (by omega),aF (by omega)]
 have h1:=oW d1;have h2:=oW d2;have h3:=oW d3;have e2:(3:Int).toNat=3:=rfl;simp only [dec,e,em];rw [aF (by omega)]
 by_cases k1:kC d1=true/\kC d2=true/\kC d3=true
 ·have j1:=h1.1 k1.1;have j2:=h2.1 k1.2.1;have j3:=h3.1 k1.2.2
  by_cases k2:iO (aH c)<=aH d1/\aH d1<=iI (aH c)
  ·rw [aG,aG (by omega)]
   ·simp [fold,e2]
   simp [qY,e,e2,k1,k2];omega
  rw [aF,aF (by omega)];simp [qY,e,e2,k1];omega
 rw [aF,aF (by rw [h1,h2,h3] at k1;omega)];simp only [qY,e,e2,wM,qN,List.all_cons,List.all_nil,Bool.and_true,dD];exact λh=>k1 h.1.2
theorem am6 (a:Int) (l:List UInt8) (d:UInt8):fold a (l++[d])=64*fold a l+aH d-128:=by simp [fold]
theorem aqF (l:List UInt8) (hl:∀ d∈l,kC d=true):∀ a:Int,0<=a->l.length<=3->a<128->0<=fold a l/\fold a l<33554432:=by
 intro a ha hlen hlt
 match l,hl,hlen with
 | [],_,_=>simp [fold];omega
 | [d],hl,_ =>
  have h1:=(oW d).1 (hl d (by simp));simp only [fold,List.foldl_cons,List.foldl_nil];omega
 | [d,e],hl,_ =>
  have h1:=(oW d).1 (hl d (by simp));have h2:=(oW e).1 (hl e (by simp));simp only [fold,List.foldl_cons,List.foldl_nil];omega
 | [d,e,f],hl,_ =>
  have h1:=(oW d).1 (hl d (by simp));have h2:=(oW e).1 (hl e (by simp));have h3:=(oW f).1 (hl f (by simp));simp only [fold,List.foldl_cons,List.foldl_nil];omega
 | _::_::_::_::_,_,h=>simp at h
theorem auV {c:UInt8} {t:List UInt8} {n m:Int} (hn:n=dG (aH c)) (hm:iK (aH c)=m) (h0:0<=n) (hl:n<=t.length) (hall:∀ d∈t.take n.toNat,kC d=true)
  (Oo:n=0\/∃ d1 t',t=d1::t'/\iO (aH c)<=aH d1/\aH d1<=iI (aH c)):dec (c::t)=some (fold (aH c-m) (t.take n.toNat),n.toNat+1):=by
 simp only [dec];rw [aF (by omega),aG,<- hn,hm];unfold qY;rw [<- hn];simp only [dD,fD];refine⟨⟨hl,jG.2 hall⟩,?_⟩
 rcases Oo with h | ⟨d1,t',rfl,h1,h2⟩
 ·subst h;rfl
 rcases Int.lt_or_eq_of_le h0 with h | h
 ·obtain⟨k,hk⟩:∃ k,n.toNat=k+1:=⟨n.toNat-1,by omega⟩
  rw [hk]
  simpa using ⟨h1,h2⟩
 rw [<- h];rfl
theorem dec_not {c:UInt8} {t:List UInt8} {d:UInt8} (h0:0<=dG (aH c)) (hd:d∈t.take (dG (aH c)).toNat) (hf:kC d=false):dec (c::t)=none:=by
 simp only [dec];rw [aF (by omega),aF];unfold qY;simp only [dD];intro h;have:=jG.1 h.1.2 d hd;rw [hf] at this
 cases this
theorem ald {c d1:UInt8} {t:List UInt8} (h0:0<dG (aH c)) (hd:¬ (iO (aH c)<=aH d1/\aH d1<=iI (aH c))):dec (c::d1::t)=none:=by
 simp only [dec];rw [aF (by omega),aF];unfold qY;simp only [dD];intro h;obtain⟨k,hk⟩:∃ k,(dG (aH c)).toNat=k+1:=⟨(dG (aH c)).toNat-1,by omega⟩
 have:=h.2;rw [hk] at this;simp at this;exact hd this
theorem aqr (c:Int) (h0:0<=c) (h1:c<256):dG c<0\/(0<=c-iK c/\c-iK c<128/\0<=iK c):=by
 rcases PN c with e | e | e | e | e
 ·omega
 ·have:=aaf _ e;unfold iK;rw [e,aF (by omega),aG (by omega)];omega
 ·have:=aaw _ e;unfold iK;rw [e,aF (by omega),aF (by omega),aG (by omega)];omega
 ·have:=ZO _ e;unfold iK;rw [e,aF (by omega),aF (by omega),aF (by omega),aG (by omega)];omega
 have:=aas _ e;unfold iK;rw [e,aF (by omega),aF (by omega),aF (by omega),aF (by omega)];omega
end U
structure Box (p:Prop):Prop where
 o:p
theorem bx {p:Prop} (h:p):Box p:=⟨h⟩
theorem dI {P:Program} {f:FuncId} {a:Array Value} {w w0:World} {r:Value} {Q:Ending→World→Prop} (h:Calls P f a w fun e w'=>e=.returned r∧Below w.heap.size w w') (k:Below w0.heap.size w0 w) (g:∀ w1,Box (Below w0.heap.size w0 w1)→Q (.returned r) w1):Calls P f a w Q:=h.mono (by rintro e w1 ⟨rfl,hb⟩;exact g w1 ⟨k.trans (hb.mono k.size)⟩)
theorem aJ {a b c:World} (h:Box (Below a.heap.size a b)) (k:Below b.heap.size b c):Box (Below a.heap.size a c):=⟨h.o.trans (k.mono h.o.size)⟩
theorem aP {P:Program} {f:FuncId} {a:Array Value} {w:World} {r:Value} {W2:World} {q:World→Prop} {Q:Ending→World→Prop} (h:Calls P f a w fun e w'=>e=.returned r∧q w') (g:Q (.returned r) W2) (k:∀ w1,q w1→w1=W2:=by first | exact fun _ h=>h.symm | exact fun _ h=>h):Calls P f a w Q:=h.mono (by rintro e w1 ⟨rfl,hq⟩;rw [k w1 hq];exact g)
theorem aT {P:Program} {f:FuncId} {a:Array Value} {w:World} {r:Value} {q:World→Prop} {Q:Ending→World→Prop} (h:Calls P f a w fun e w'=>e=.returned r∧q w') (g:∀ w1,q w1→Q (.returned r) w1):Calls P f a w Q:=h.mono (by rintro e w1 ⟨rfl,hb⟩;exact g w1 hb)
theorem aY {a b:Bool} (h:a=b):Ending.returned (.bool a) = .returned (.bool b):=by rw [h]
theorem Bv {k:IntKind} {a b:Int} (h:a=b):Ending.returned (.int k a) = .returned (.int k b):=by rw [h]
theorem zu {a a':Value} (h:a=a'):Ending.returned a = .returned a':=by rw [h]
theorem Nw {a b a' b':Value} (h:a=a') (h2:b=b'):Ending.returned (.tuple #[a,b]) = .returned (.tuple #[a',b']):=by rw [h,h2]
theorem au4 {a b c a' b' c':Value} (h:a=a') (h2:b=b') (h3:c=c'):Ending.returned (.tuple #[a,b,c]) = .returned (.tuple #[a',b',c']):=by rw [h,h2,h3]
theorem Dy {k:IntKind} {a b:Int} (h:a=b):Value.int k a = .int k b:=by rw [h]
theorem ai1 {a b:Bool} (h:a=b):Value.bool a = .bool b:=by rw [h]
theorem size_eq (s:ByteArray):s.size=s.data.toList.length:=by rw [<- ByteArray.size_data,Array.length_toList]
theorem WT {P:Program} {T:TypeId} (hT:P.underlying T=some .string) (s:ByteArray) (k:Nat) {d:UInt8} (hd:s.data.toList[k]?=some d) (i:Int) (hi:i=k) :
  ∀ w,(Instr.index T (.string s) (ah i)).run P w = .ok (.int .u8 (U.aH d)) w:=by
 intro w;subst hi;have hk:k<s.size:=by rw [size_eq];exact(dO hd).1
 rw [run_index_string w _ _ _ _ hT,dif_pos (by omega)];have:s[k]'hk=d:=by
  have:=(dO hd).2;rw [<- this];rfl
 simp [this,U.aH]
theorem Q8 {P:Program} {src e dst:TypeId} (hs:P.underlying src=some (.slice e)) (he:P.underlying e=some (.int .u8)) (hd:P.underlying dst=some .string) (C:List Int) (w:World) (cap:Nat) (n:Nat) (hn:n=C.length) (t:TypeId) :
  (convert src dst (.slice (some ⟨w.heap.size,0,none⟩) n cap)).run P (w.alloc (.cells (C.map (Value.int .u8)).toArray t)) = .ok (.string (strOfNums C)) (w.alloc (.cells (C.map (Value.int .u8)).toArray t)):=by
 subst hn;refine run_convert_bytes_arg _ src e hs he w.heap.size 0 C.length cap C rfl (λi hi=>?_) dst hd;rw [cell_of_row _ _ _ _ _ _ (heap_alloc_new w _)];simp [hi]
theorem JW (w:World) (o:Obj) (n:Nat) (hn:n=w.heap.size):(w.alloc o).heap[n]?=some o:=by subst hn;exact heap_alloc_new w o
theorem set_push {α:Type} (a:Array α) (x y:α):(a.push x).setIfInBounds a.size y=a.push y:=by
 apply Array.ext
 ·simp
 intro i h1 h2;rw [Array.getElem_setIfInBounds (by simpa using h1)]
 split
 ·rename_i h;subst h;simp
 rename_i h
 have:i<a.size:=by simp at h1;omega
 simp [Array.getElem_push,this]
theorem apA (w:World) (o o':Obj) (n:Nat) (hn:n=w.heap.size):({ w.alloc o with heap:=(w.alloc o).heap.setIfInBounds n o' }:World)=w.alloc o':=by
 subst hn;have e:(w.alloc o).heap.setIfInBounds w.heap.size o'=w.heap.push o':=set_push _ _ _;rw [e];rfl
theorem yN {P:Program} {T K E:TypeId} {q:IntKind} (hm:P.underlying T=some (.map K E)) (hk:P.underlying K=some (.int q)) (w:World) (es:Array MapEntry) (clk:Nat) (k:Int) (v:Value) (n:Nat) (hn:n=w.heap.size)
  (hf:Instr.findNow (.int q) (.int q k) es.toList 0=some none) :
  (Instr.mapUpdate T (.map (some n)) (.int q k) v).run P (w.alloc (.map es clk)) = .ok () (w.alloc (.map (es.push ⟨.int q k,v,clk⟩) (clk+1))):=by
 have hg:=JW w (.map es clk) n hn;have h1:(Instr.checkKey false 10000 K (.int q k)).run P (w.alloc (.map es clk)) = .ok () (w.alloc (.map es clk)):=MapKept.run_checkKey hk (by simp [MapKept.IsKey]) false 9999;have h2:=MapKept.run_findKey (P:=P) (w:=w.alloc (.map es clk)) hk hf;unfold Instr.mapUpdate;simp only [Sem.run_bind,run_underlying hm,Result.andThen,MapKept.run_getObj_map hg,h1,h2,MapKept.run_setObj_map _ hg,apA w _ _ n hn]
theorem RH {P:Program} {T K E:TypeId} {q:IntKind} (hm:P.underlying T=some (.map K E)) (hk:P.underlying K=some (.int q)) (W:World) (es:Array MapEntry) (clk:Nat) (k:Int) (n:Nat) (hg:W.heap[n]?=some (.map es clk))
  (i:Nat) (v:Value) (hf:Instr.findNow (.int q) (.int q k) es.toList 0=some (some (i,v))) :
  (Instr.lookup T (.map (some n)) (.int q k) true).run P W = .ok (.tuple #[v, .bool true]) W:=by
 have h1:(Instr.checkKey es.isEmpty 10000 K (.int q k)).run P W = .ok () W:=MapKept.run_checkKey hk (by simp [MapKept.IsKey]) _ 9999;have h2:=MapKept.run_findKey (P:=P) (w:=W) hk hf;unfold Instr.lookup;simp only [Sem.run_bind,run_underlying hm,Result.andThen,MapKept.run_getObj_map hg,h1,h2,Sem.run_pure,if_true]
theorem aqL {P:Program} {T K E:TypeId} {q:IntKind} (hm:P.underlying T=some (.map K E)) (hk:P.underlying K=some (.int q)) (W:World) (es:Array MapEntry) (clk:Nat) (k:Int) (n:Nat) (hg:W.heap[n]?=some (.map es clk))
  (z:Value) (hz:(zeroValue E).run P W = .ok z W) (hf:Instr.findNow (.int q) (.int q k) es.toList 0=some none) :
  (Instr.lookup T (.map (some n)) (.int q k) true).run P W = .ok (.tuple #[z, .bool false]) W:=by
 have h1:(Instr.checkKey es.isEmpty 10000 K (.int q k)).run P W = .ok () W:=MapKept.run_checkKey hk (by simp [MapKept.IsKey]) _ 9999;have h2:=MapKept.run_findKey (P:=P) (w:=W) hk hf;unfold Instr.lookup;simp only [Sem.run_bind,run_underlying hm,Result.andThen,MapKept.run_getObj_map hg,h1,h2,Sem.run_pure,if_true,hz]
theorem XC (P:Program) (w:World) (a:Addr) (m:Mode) (k:FloatKind) (b:Nat):(store a (.float k b) m).run P w=stored P w a (.float k b) m:=run_store P w a _ m rfl
theorem aaO (P:Program) (w:World) (a:Addr) (m:Mode) (k:FloatKind) (x y:Nat):(store a (.complex k x y) m).run P w=stored P w a (.complex k x y) m:=run_store P w a _ m rfl
def aC (w:World) (g:Nat) (t:TypeId) (cs:Array Value):Prop:=w.heap[g]?=some (.cells cs t (0,0))
section
variable {w w':World} {g:Nat} {t:TypeId} {cs:Array Value}
theorem aC.lt (h:aC w g t cs):g<w.heap.size:=by
 rcases gZ g w.heap.size with hlt | hge
 ·exact hlt
 unfold aC at h;rw [Array.getElem?_eq_none hge] at h;cases h
theorem aC.cell (h:aC w g t cs) (i:Nat):w.cell? ⟨g,i,none⟩=cs[i]?:=cell_of_row w g i cs t (0,0) h
theorem aC.frozen (h:aC w g t cs) (i:Nat):w.frozen? ⟨g,i,none⟩=false:=by
 unfold aC at h;simp [World.frozen?,h]
theorem aC.new (w:World) (t:TypeId) (cs:Array Value):aC (w.alloc (.cells cs t)) w.heap.size t cs:=heap_alloc_new w _
theorem aC.drewN (h:aC w g t cs) (n:Nat):aC (w.drewN n) g t cs:=h
theorem aC.alloc (h:aC w g t cs) (o:Obj):aC (w.alloc o) g t cs:=(Below.heap_alloc w o g h.lt).trans h
theorem aC.bJ (h:aC w g t cs) (i:Nat) (u:Value):aC (w.setCell ⟨g,i,none⟩ u) g t (cs.setIfInBounds i u):=by
 unfold aC at h ⊢;simp [World.setCell,Array.getElem?_modify,h]
theorem aC.far (h:aC w g t cs) {p:Addr} (hp:g≠p.block) (u:Value):aC (w.setCell p u) g t cs:=(Below.heap_setCell w p u g hp).trans h
theorem aC.below {B:Nat} (h:aC w g t cs) (hb:Below B w w') (hg:g<B):aC w' g t cs:=(hb.block g hg).trans h
theorem Box.ub {V W:World} {g:Nat} {t:TypeId} {cs:Array Value} (h:Box (aC V g t cs)) (k:Below V.heap.size V W):Box (aC W g t cs):=⟨h.o.below k h.o.lt⟩
theorem bt {a b c:World} (h:ak a b) (k:ak b c):ak a c:=h.trans (k.mono h.size)
theorem aC.d2 {V W:World} {x0 x1:Value} (H:aC V g t #[x0,x1]) (h:ak V W):ay W g 0=some x0/\ay W g 1=some x1/\g<W.heap.size:=⟨((H.below h H.lt).cell 0).trans rfl,((H.below h H.lt).cell 1).trans rfl,(H.below h H.lt).lt⟩
theorem aC.d3 {V W:World} {x0 x1 x2:Value} (H:aC V g t #[x0,x1,x2]) (h:ak V W):ay W g 0=some x0/\ay W g 1=some x1/\ay W g 2=some x2/\g<W.heap.size:=⟨((H.below h H.lt).cell 0).trans rfl,((H.below h H.lt).cell 1).trans rfl,((H.below h H.lt).cell 2).trans rfl,(H.below h H.lt).lt⟩
theorem aC.d6 {V W:World} {x0 x1 x2 x3 x4 x5:Value} (H:aC V g t #[x0,x1,x2,x3,x4,x5]) (h:ak V W):ay W g 0=some x0/\ay W g 1=some x1/\ay W g 2=some x2/\ay W g 3=some x3/\ay W g 4=some x4/\ay W g 5=some x5/\g<W.heap.size:=⟨((H.below h H.lt).cell 0).trans rfl,((H.below h H.lt).cell 1).trans rfl,((H.below h H.lt).cell 2).trans rfl,((H.below h H.lt).cell 3).trans rfl,((H.below h H.lt).cell 4).trans rfl,((H.below h H.lt).cell 5).trans rfl,(H.below h H.lt).lt⟩
theorem aC.d10 {V W:World} {x0 x1 x2 x3 x4 x5 x6 x7 x8 x9:Value} (H:aC V g t #[x0,x1,x2,x3,x4,x5,x6,x7,x8,x9]) (h:ak V W):ay W g 0=some x0/\ay W g 1=some x1/\ay W g 2=some x2/\ay W g 3=some x3/\ay W g 4=some x4/\ay W g 5=some x5/\ay W g 6=some x6/\ay W g 7=some x7/\ay W g 8=some x8/\ay W g 9=some x9/\g<W.heap.size:=⟨((H.below h H.lt).cell 0).trans rfl,((H.below h H.lt).cell 1).trans rfl,((H.below h H.lt).cell 2).trans rfl,((H.below h H.lt).cell 3).trans rfl,((H.below h H.lt).cell 4).trans rfl,((H.below h H.lt).cell 5).trans rfl,((H.below h H.lt).cell 6).trans rfl,((H.below h H.lt).cell 7).trans rfl,((H.below h H.lt).cell 8).trans rfl,((H.below h H.lt).cell 9).trans rfl,(H.below h H.lt).lt⟩
theorem aC.grown {row:Option Nat} (h:aC w g t cs) (hb:w.grownBy w' row) (hg:some g≠row):aC w' g t cs:=(hb.block g h.lt hg).trans h
end
theorem below_drewN {B:Nat} {a w:World} (h:Below B a w) (n:Nat):Below B a (w.drewN n):=⟨h.os,h.tape,h.output,h.size,h.block⟩
theorem anE {a w:World} {row:Option Nat} (h:a.grownBy w row):a.grownBy w.drew row:=⟨h.os,h.tape,h.output,h.size,h.block⟩
theorem Zv {a w:World} {row:Option Nat} (h:a.grownBy w row) (o:Obj):a.grownBy (w.alloc o) row :=
 ⟨h.os,h.tape,h.output,bP h.size (by simp),λi hi hne=>(Below.heap_alloc w o i (fC hi h.size)).trans (h.block i hi hne)⟩
theorem KI {a w:World} {g:Nat} (h:a.grownBy w (some g)) {p:Addr} (hp:p.block=g\/a.heap.size<=p.block) (u:Value):a.grownBy (w.setCell p u) (some g) :=
 ⟨h.os,h.tape,h.output,by simpa [World.setCell] using h.size,λi hi hne=>(Below.heap_setCell w p u i (by
  rintro rfl
  rcases hp with hp | hp
  ·exact hne (by rw [hp])
  omega)).trans (h.block i hi hne)⟩
theorem aeE {a w:World} (h:ak a w) (row:Option Nat):a.grownBy w row:=⟨h.os,h.tape,h.output,h.size,λi hi _=>h.block i hi⟩
theorem afj {a b c:World} {row:Option Nat} (h:a.grownBy b row) (k:b.grownBy c row):a.grownBy c row :=
 ⟨k.os.trans h.os,k.tape.trans h.tape,k.output.trans h.output,bP h.size k.size,λi hi hne=>(k.block i (fC hi h.size) hne).trans (h.block i hi hne)⟩
theorem IZ {a b:World} {g:Nat} (h:a.grownBy b (some g)) {B:Nat} (hB:B<=g) (hB2:B<=a.heap.size):Below B a b :=
 ⟨h.os,h.tape,h.output,h.size,λi hi=>h.block i (by omega) (by intro e;cases e;omega)⟩
structure Env (S:List Nat) (TP:TypeId) (A:Nat->Addr) (B:Nat) (w:World):Prop where
 var:∀ g∈S,w.cell? ⟨g,0,none⟩=some (.iface TP (.pointer (some (A g))))
 row:∀ g∈S,∃ c t,w.heap[(A g).block]?=some (.cells c t (0,0))
 lt:∀ g∈S,g<B/\(A g).block<B
 ne:∀ g∈S,∀ h∈S,g≠h->A g≠A h
theorem Env.below {S:List Nat} {TP:TypeId} {A:Nat->Addr} {B:Nat} {w w':World} (h:Env S TP A B w) (hb:Below B w w'):Env S TP A B w' where
 var g hg:=(hb.cell (p:=⟨g,0,none⟩) (h.lt g hg).1).trans (h.var g hg)
 row g hg:=by
  obtain⟨c,t,hr⟩:=h.row g hg;exact⟨c,t,(hb.block _ (h.lt g hg).2).trans hr⟩
 lt:=h.lt
 ne:=h.ne
def fwd (l:Nat) (J:Act->World->Prop) (Q:Exit->Act->World->Prop):Exit->Act->World->Prop
 | .goto l',a,w=>l'=l/\J a w
 | e,a,w=>Q e a w
section
variable {l:Nat} {J:Act->World->Prop} {Q:Exit->Act->World->Prop} {a:Act} {w:World}
@[go_sem] theorem ayK:fwd l J Q .normal a w=Q .normal a w:=rfl
@[go_sem] theorem ayo (id:Nat):fwd l J Q (.exit id) a w=Q (.exit id) a w:=rfl
@[go_sem] theorem yE:fwd l J Q .ret a w=Q .ret a w:=rfl
@[go_sem] theorem ayN (ch:List PanicEntry):fwd l J Q (.panic ch) a w=Q (.panic ch) a w:=rfl
end
theorem uz {P:Program} {a:Act} {w:World} {Q:Exit->Act->World->Prop} {c rest:Code} (l:Nat) (hf:findLabel c l=some rest)
  (h:c.wp P (fwd l (λa w=>rest.wp P (Exit.noGoto Q) a w) Q) a w):(Code.scope c).wp P Q a w:=by
 refine wp_scope_jumps l (λa w=>rest.wp P (Exit.noGoto Q) a w) (λ_ _=>0) hf (Code.wp_mono ?_ h) (λa w hJ=>Code.wp_mono ?_ hJ)
 ·intro e a w he
  cases e <;> exact he
 intro e a w he
 cases e with
 | goto l'=>exact(he:False).elim
 | _=>exact he
theorem aen {P:Program} {T:TypeId} (hT:P.underlying T=some .string) (s:ByteArray) (lo hi:Int) (h:0<=lo/\lo<=hi/\hi<=s.size) :
  ∀ W,(Instr.slice T (.string s) (some (ah lo)) (some (ah hi)) none).run P W = .ok (.string (s.extract lo.toNat hi.toNat)) W:=by
 intro W;rw [run_slice_string_if W _ _ _ _ _ _ hT,aG (by omega),aG (by omega)]
theorem ae7 (W:World) (e:TypeId) (s:ByteArray) (cap:Nat) (fr:Nat×Nat) (j:Nat) (d:UInt8) (hd:s.data.toList[j]?=some d) :
  (W.alloc (.cells (bytesRow s cap) e fr)).cell? ⟨W.heap.size,j,none⟩=some (.int .u8 (U.aH d)):=by
 rw [World.cell?_alloc_mark];have hj:j<s.data.toList.length:=(dO hd).1;have hd':s.data[j]?=some d:=by rw [<- hd,Array.getElem?_toList]
 unfold bytesRow;rw [Array.getElem?_append_left (by simpa using hj),Array.getElem?_map,hd']
 rfl
theorem Ot (a:Nat) (ha:a<9223372036854775808):(BitVec.ofInt 64 (a:Int)).toNat=a:=by
 rw [BitVec.ofInt_natCast,BitVec.toNat_ofNat];exact Nat.mod_eq_of_lt (by omega)
theorem ajr (a b:Nat) (ha:a<9223372036854775808) (hb:b<9223372036854775808):bits .and .i64 (a:Int) (b:Int)=((a &&& b:Nat):Int):=by
 have hx:a &&& b<2 ^ 63:=Nat.and_lt_two_pow _ (by omega);show IntKind.i64.wrap ((BitVec.ofInt 64 (a:Int) &&& BitVec.ofInt 64 (b:Int)).toNat:Int)=_
 rw [BitVec.toNat_and,Ot a ha,Ot b hb,yC];omega
theorem auL (a b:Nat) (ha:a<9223372036854775808) (hb:b<9223372036854775808):bits .or .i64 (a:Int) (b:Int)=((a ||| b:Nat):Int):=by
 have hx:a ||| b<2 ^ 63:=Nat.or_lt_two_pow (by omega) (by omega)
 show IntKind.i64.wrap ((BitVec.ofInt 64 (a:Int) ||| BitVec.ofInt 64 (b:Int)).toNat:Int)=_
 rw [BitVec.toNat_or,Ot a ha,Ot b hb,yC];omega
theorem abL (y:Int) (h0:0<=y) (h1:y<9223372036854775808):bits .and .i64 y 63=y % 64:=by
 obtain⟨k,rfl⟩:=oJ h0;have:=ajr k 63 (by omega) (by omega);rw [show ((63:Nat):Int)=63 from rfl] at this;rw [this,show k &&& 63=k % 64 from Nat.and_two_pow_sub_one_eq_mod k 6];omega
theorem ajO (x z:Int) (h0:0<=x) (h1:x<4294967296) (h2:0<=z) (h3:z<64):bits .or .i64 (x*64) z=x*64+z:=by
 obtain⟨k,rfl⟩:=oJ h0;obtain⟨l,rfl⟩:=oJ h2;have:=auL (2 ^ 6*k) l (by omega) (by omega);rw [<- Nat.two_pow_add_eq_or_of_lt (by omega) k] at this;rw [show (k:Int)*64=((2 ^ 6*k:Nat):Int) by omega,this];omega
structure CW (Inv:World->Prop) where
 w:World
 h:Inv w
theorem Aq {P:Program} {id:Nat} {Q:Exit->Act->World->Prop} {a:Act} {w:World} {l:List Oper} (Inv:World->Prop) (hm:P.follows .mixedOrders=true) (hB:Region.lexB .any l.toArray=true) (h0:Inv w.drew)
  (h:Nonempty (CW Inv)->wpQuiet P l.toArray (λw'=>∃ n:CW Inv,w'=n.w) (λa'=>∀ w',(∃ n:CW Inv,w'=n.w)->Q .normal a' w') l a):(Code.region id l.toArray true).wp P Q a w :=
 wp_region_quiet (C:=λw'=>∃ n:CW Inv,w'=n.w) hm hB ⟨⟨_,h0⟩,rfl⟩ (by simpa using h ⟨⟨_,h0⟩⟩)
theorem wY {P:Program} {f:FuncId} {args:Array Value} {v:Value} {W:World} {Inv:World->Prop} (h:Calls P f args W λe w'=>e = .returned v/\ak W w') (hI:∀ w',ak W w'->Inv w') :
  Calls P f args W λe w''=>e = .returned v/\∃ m:CW Inv,w''=m.w:=h.mono λ_ _ ⟨he,hb⟩=>⟨he,⟨_,hI _ hb⟩,rfl⟩
section
open Go.Extern.Stop Go.Stop Go.Extern
theorem isTypeOf (v:Value) (w:World):(callFunc 232 #[.iface 448 v]).run prog w = .ok (.value (.iface 351 (.agg #[.pointer (some ⟨16,448,none⟩)]))) w:=by kernel_rfl
theorem isComparable (w:World):(callFunc 382 #[.agg #[.pointer (some ⟨16,448,none⟩)]]).run prog w = .ok (.value (.bool true)) w:=by kernel_rfl
theorem isMethodComparable (v:Value) (w:World):(Go.method 579 351 v "Comparable").run prog w = .ok (382,v) w:=by kernel_rfl
theorem isComp:(prog.info? 448).map (·.comparable)=some true:=by kernel_rfl
theorem isSize:(prog.info? 467).map (·.size)=some 1:=by kernel_rfl
theorem noIsE (v:Value) (xT:TypeId) (w:World):(Instr.typeAssert (.iface 448 v) xT 375 true).run prog w = .ok (.tuple #[.nilIface, .bool false]) w:=run_typeAssert_lacksB underlying375 (by kernel_rfl) (by kernel_rfl) v xT w
theorem noUnwrapE (v:Value) (xT:TypeId) (w:World):(Instr.typeAssert (.iface 448 v) xT 358 true).run prog w = .ok (.tuple #[.nilIface, .bool false]) w:=run_typeAssert_lacksB underlying358 (by kernel_rfl) (by kernel_rfl) v xT w
theorem noUnwrapsE (v:Value) (xT:TypeId) (w:World):(Instr.typeAssert (.iface 448 v) xT 360 true).run prog w = .ok (.tuple #[.nilIface, .bool false]) w:=run_typeAssert_lacksB underlying360 (by kernel_rfl) (by kernel_rfl) v xT w
theorem is_same (a:Addr) (w:World) :
  Calls prog 148 #[.iface 448 (.pointer (some a)), .iface 448 (.pointer (some a))] w λe w'=>e = .returned (.bool true)/\w=w':=by
 obtain⟨i,hi,hcmp⟩:=rC.1 isComp;obtain⟨j,hj,hjs⟩:=rC.1 isSize;have tT:=isTypeOf;have cT:=isComparable;have mR:=isMethodComparable;have heq:=run_eql_iface_ptr_same (P:=prog) w a underlying87 underlying448 hi hcmp hj
 go_in
 go_wp2
 refine wp_loop_rounds 1 ?_;rw [rounds_succ]
 go_wp2
 go_ret
 exact⟨rfl,rfl⟩
theorem is_other (a b:Addr) (ca cb:Array Value) (ta tb:TypeId) (w:World) (hne:a≠b) (ha:w.heap[a.block]?=some (.cells ca ta (0,0))) (hb:w.heap[b.block]?=some (.cells cb tb (0,0))) :
  Calls prog 148 #[.iface 448 (.pointer (some a)), .iface 448 (.pointer (some b))] w λe w'=>e = .returned (.bool false)/\w=w':=by
 obtain⟨i,hi,hcmp⟩:=rC.1 isComp;obtain⟨j,hj,hjs⟩:=rC.1 isSize;have tT:=isTypeOf;have cT:=isComparable;have mR:=isMethodComparable;have nE:=noIsE;have uE:=noUnwrapE;have vE:=noUnwrapsE;have heq:=run_eql_iface_ptr_other (P:=prog) w underlying87 underlying448 hi hcmp hj (by rw [hjs];decide) hne ha hb
 go_in
 go_wp2
 refine wp_loop_rounds 1 ?_;rw [rounds_succ]
 go_wp2
 go_ret
 exact⟨rfl,rfl⟩
end
def NI:List Nat:=[
 0,
 1,
 2,
 3,
 4,
 5,
 8,
 9,
 11,
 13,
 12,
 ]
def E (A:Nat->Addr) (B:Nat) (w:World):Prop:=Env NI 448 A B w
def oZ (A:Nat->Addr) (g:Nat):Value:=.iface 448 (.pointer (some (A g)))
theorem E.below {A:Nat->Addr} {B:Nat} {w w':World} (h:E A B w) (hb:Below B w w'):E A B w':=Env.below h hb
theorem E.cell {A:Nat->Addr} {B:Nat} {w:World} (h:E A B w) (g:Nat) (hg:g∈NI):w.cell? ⟨g,0,none⟩=some (.iface 448 (.pointer (some (A g)))):=h.var g hg
theorem SA {S:List Nat} {A:Nat->Addr} {B:Nat} {w:World} (h:Env S 448 A B w) (g k:Nat) (hg:g∈S) (hk:k∈S) :
  Calls prog 148 #[.iface 448 (.pointer (some (A g))), .iface 448 (.pointer (some (A k)))] w λe w'=>e = .returned (.bool (g==k))/\w=w':=by
 by_cases e:g=k
 ·subst e
  simpa using is_same (A g) w
 obtain⟨ca,ta,ha⟩:=h.row g hg;obtain⟨cb,tb,hb⟩:=h.row k hk;have:=is_other (A g) (A k) ca cb ta tb w (h.ne g hg k hk e) ha hb;rw [show (g==k)=false from fG.2 e];exact this
theorem arK {A:Nat->Addr} {B:Nat} {w:World} (h:E A B w) (g k:Nat) (hg:g∈NI) (hk:k∈NI) :
  Calls prog 148 #[.iface 448 (.pointer (some (A g))), .iface 448 (.pointer (some (A k)))] w λe w'=>e = .returned (.bool (g==k))/\w=w':=SA h g k hg hk
theorem Yx {S S':List Nat} {T:TypeId} {A:Nat->Addr} {B:Nat} {w:World} (h:Env S T A B w) (hs:∀ g∈S',g∈S):Env S' T A B w :=
 ⟨λg hg=>h.var g (hs g hg),λg hg=>h.row g (hs g hg),λg hg=>h.lt g (hs g hg),λg hg k hk=>h.ne g (hs g hg) k (hs k hk)⟩
section
open Go.ChangeShapes
abbrev Sent:=String×Nat×List UInt8
def XK (nm:String) (x:Sent):String×DataW Unit:=(x.1, .iface nm (.ptr (.agg [.lit (.string x.2.2)])))
section
variable {P:Program} {nm:String} {W:World} {ti tp te ts:TypeId} {ms:Array (String×TypeId)} {f:Field}
theorem acT (hi:P.underlying ti=some (.interface ms)) (hrow:∀ u,P.typeName? 3 u=some nm->u=tp)
  (hp:P.underlying tp=some (.pointer te)) (he:P.underlying te=some (.struct #[f])) (hft:f.type=ts) (hfo:f.offset=0) (hs:P.underlying ts=some .string) (hc:P.cellsOf te=1) (hcs:P.cellsOf ts=1) :
  ∀ (L:List Sent) (ps:List MemPlace),DataW.LaidVars P W (L.map (XK nm)) ps->ps.Nodup ->
   (∀ b off,MemPlace.cell b off∈ps->(∃ c t,W.heap[b]?=some (.cells c t (0,0)))/\∀ u v,ay W b off=some (.iface u v)->Value.okWide P W .any 0 u v) ->
   (∀ x∈L,P.globalNamed x.1=some x.2.1/\(P.globals[x.2.1]?).map (·.type)=some ti) ->
   ∃ A:Nat->Addr,(∀ x∈L,ay W x.2.1 0=some (.iface tp (.pointer (some (A x.2.1))))/\(∃ c t,W.heap[(A x.2.1).block]?=some (.cells c t (0,0)))/\(A x.2.1).block<W.heap.size/\MemPlace.cell (A x.2.1).block (A x.2.1).off∈ps) /\
    ∀ x∈L,∀ y∈L,x.2.1≠y.2.1->A x.2.1≠A y.2.1
 | [],_,_,_,_,_=>⟨λ_=>⟨0,0,none⟩,λx hx=>absurd hx (iH),λx hx=>absurd hx (iH)⟩
 | x0::L,ps,hv,hnd,hrows,hg=>by
  obtain⟨g0,t0,cs0,f0,p0,q0,hg0,ht0,hv0,hd0,hrest,e0⟩:=hv;obtain⟨hgx,htx⟩:=hg x0 (jZ ..);obtain rfl:=Option.some.inj (hgx.symm.trans hg0);obtain rfl:=Option.some.inj (htx.symm.trans ht0);subst e0;obtain⟨l0⟩:=cs0;have ok0:∀ u v,l0=[.iface u v]->Value.okWide P W .any 0 u v:=λu v e=>by
   subst e;exact(hrows x0.2.1 0 (by simp [MemPlace.row])).2 u v (by simpa using World.var?_cell hg0 hv0 0)
  obtain⟨a0,s0,rfl,hc0,hs0,hz0,rfl⟩:=errorString_of_trod hi hrow hp he hft hfo hs hc hcs hd0 ok0;have hcell:ay W x0.2.1 0=some (.iface tp (.pointer (some a0))):=by simpa using World.var?_cell hg0 hv0 0
  have hm0:MemPlace.cell a0.block a0.off∈MemPlace.row ⟨x0.2.1,0,none⟩ ([Value.iface tp (.pointer (some a0))].toArray).size++MemPlace.row a0 1++q0:=by simp [MemPlace.row]
  obtain⟨A,h1,h2⟩:=acT hi hrow hp he hft hfo hs hc hcs L q0 hrest (List.Nodup.sublist (List.sublist_append_right _ _) hnd) (λb off hm=>hrows b off (List.mem_append_right _ hm)) (λx hx=>hg x (mZ _ hx));have hspot:a0.spot=none:=World.cell?_spot hc0;have ji:∀ y∈L,a0≠A y.2.1:=by
   intro y hy e;have hq:=(h1 y hy).2.2.2;rw [<- e] at hq;rw [List.nodup_append] at hnd;exact hnd.2.2 _ (by simp [MemPlace.row]) _ hq rfl
  have hhead:(∃ c t,W.heap[a0.block]?=some (.cells c t (0,0)))/\a0.block<W.heap.size:=by
   obtain⟨c,t,hb⟩:=(hrows _ _ hm0).1;exact⟨⟨c,t,hb⟩,(fF.1 hb).1⟩
  by_cases hin:∃ y∈L,y.2.1=x0.2.1
  ·-- the same variable twice: its place would be met twice
   obtain⟨y,hy,e⟩:=hin;have hcy:=(h1 y hy).1;rw [e,hcell] at hcy;simp only [iQ,Value.iface.injEq,Value.pointer.injEq,true_and] at hcy;exact absurd (by rw [<- e] at hcy;exact hcy) (ji y hy)
  have hne:∀ y∈L,y.2.1≠x0.2.1:=λy hy e=>hin ⟨y,hy,e⟩
  refine⟨λg=>if g=x0.2.1 then a0 else A g,λx hx=>?_,λx hx y hy hxy=>?_⟩
  ·rcases fB.1 hx with rfl | hx
   ·simp only [if_true];exact⟨hcell,hhead.1,hhead.2,hm0⟩
   simp only [aF (hne x hx)];obtain⟨k1,k2,k3,k4⟩:=h1 x hx;exact⟨k1,k2,k3,List.mem_append_right _ k4⟩
  rcases fB.1 hx with rfl | hx' <;> rcases fB.1 hy with rfl | hy'
  ·exact absurd rfl hxy
  ·simp only [if_true,aF (hne y hy')];exact ji y hy'
  ·simp only [if_true,aF (hne x hx')];exact λe=>ji x hx' e.symm
  simp only [aF (hne x hx'),aF (hne y hy')];exact h2 x hx' y hy' hxy
end
theorem ao5 {nm:String} {W:World} {ti te ts:TypeId} {ms:Array (String×TypeId)} {f:Field} (hi:prog.underlying ti=some (.interface ms)) (hrow:∀ u,prog.typeName? 3 u=some nm->u=448)
  (hp:prog.underlying 448=some (.pointer te)) (he:prog.underlying te=some (.struct #[f])) (hft:f.type=ts) (hfo:f.offset=0) (hs:prog.underlying ts=some .string) (hc:prog.cellsOf te=1) (hcs:prog.cellsOf ts=1)
  (L:List Sent) (hg:∀ x∈L,prog.globalNamed x.1=some x.2.1/\(prog.globals[x.2.1]?).map (·.type)=some ti) (hL:laidMet prog (L.map (XK nm)) W):∃ A:Nat->Addr,Env (L.map (·.2.1)) 448 A W.heap.size W:=by
 obtain⟨ps,hv,hnd,hrows⟩:=hL;obtain⟨A,h1,h2⟩:=acT hi hrow hp he hft hfo hs hc hcs L ps hv hnd hrows hg;have hS:∀ g∈L.map (·.2.1),∃ x∈L,x.2.1=g:=λg hm=>jM.1 hm
 refine⟨A,λg hm=>?_,λg hm=>?_,λg hm=>?_,λg hm k hk hgk=>?_⟩
 ·obtain⟨x,hx,rfl⟩:=hS g hm;exact(h1 x hx).1
 ·obtain⟨x,hx,rfl⟩:=hS g hm;exact(h1 x hx).2.1
 ·obtain⟨x,hx,rfl⟩:=hS g hm;exact⟨World.block_lt_of_cell? _ _ (h1 x hx).1,(h1 x hx).2.2.1⟩
 obtain⟨x,hx,rfl⟩:=hS g hm;obtain⟨y,hy,rfl⟩:=hS k hk;exact h2 x hx y hy hgk
end
namespace N
abbrev Item:=Int×Int
def J9:List Item->Nat->Nat
 | [],n=>2 ^ n
 | x::t,n=>if x.2=0 then 2 ^ n else 2 ^ n ||| J9 t (n+2)
def clo (l:List Item) (n:Nat):Nat:=if n % 2=1 then 2 ^ n else J9 (l.drop (n / 2)) n
def uK (set c:Int):Bool:=decide (0<=set)&&decide (set<4294967296)&&decide (0<=c)&&decide (c<32)&&decide (set.toNat.testBit c.toNat=true)
def setAt (l:List Item) (i:Nat):Int:=(l.getD i (0,0)).1
def DF (l:List Item) (i:Nat):Int:=(l.getD i (0,0)).2
def goto (l:List Item) (n:Nat):Nat:=if n % 2=1 then n-1 else if DF l (n / 2)=0 then n+2 else if DF l (n / 2)=1 then n else n+1
def goes (l:List Item) (S:Nat) (c:Int) (n:Nat):Bool:=S.testBit n&&uK (setAt l (n / 2)) c
def fill (l:List Item) (S:Nat) (c:Int) (init:Nat) (k:Nat):Nat:=(List.range k).foldl (λout n=>if goes l S c n=true then out ||| clo l (goto l n) else out) init
def init (l:List Item) (start:Bool):Nat:=if start then 0 else clo l 0
def step (l:List Item) (start:Bool) (S:Nat) (c:Int):Nat:=fill l S c (init l start) (2*l.length)
def most (l:List Item):Nat:=2 ^ (2*l.length+1)-1
def XY (l:List Item) (S:Nat):Bool:=S.testBit (2*l.length)
theorem SC (l:List Item) (S:Nat) (c:Int) (a k:Nat):fill l S c a (k+1)=if goes l S c k=true then fill l S c a k ||| clo l (goto l k) else fill l S c a k:=by
 unfold fill;rw [List.range_succ,List.foldl_append]
 rfl
theorem aa0 (l:List Item) (S:Nat) (c:Int) (a b:Nat):∀ k,fill l S c (a ||| b) k=fill l S c a k ||| b
 | 0=>rfl
 | k+1=>by
  rw [SC,SC,aa0 l S c a b k]
  split
  ·rw [Nat.or_assoc,Nat.or_comm b,<- Nat.or_assoc]
  rfl
theorem avq (l:List Item) (S:Nat) (c:Int) (b k:Nat):fill l S c 0 k ||| b=fill l S c b k:=by
 have:=aa0 l S c 0 b k;rw [Nat.zero_or] at this;exact this.symm
theorem aqN (l:List Item):∀ n k,n+2*l.length<=k->J9 l n<2 ^ (k+1):=by
 induction l with
 | nil=>intro n k h;exact Nat.pow_lt_pow_right (by omega) (by simp at h;omega)
 | cons x t ih =>
  intro n k h;simp only [dY] at h;have h0:2 ^ n<2 ^ (k+1):=Nat.pow_lt_pow_right (by omega) (by omega);unfold J9
  split
  ·exact h0
  exact Nat.or_lt_two_pow h0 (ih (n+2) k (by omega))
theorem VK (l:List Item) (n:Nat) (h:n<=2*l.length):clo l n<2 ^ (2*l.length+1):=by
 unfold clo
 split
 ·exact Nat.pow_lt_pow_right (by omega) (by omega)
 exact aqN _ _ _ (by rw [gy];omega)
theorem abp (l:List Item) (n:Nat) (h:n<2*l.length):goto l n<=2*l.length:=by
 unfold goto;repeat' (first | omega | split)
theorem aau (l:List Item) (S:Nat) (c:Int) (a:Nat) (ha:a<2 ^ (2*l.length+1)):∀ k,k<=2*l.length->fill l S c a k<2 ^ (2*l.length+1)
 | 0,_=>ha
 | k+1,h=>by
  rw [SC];have ih:=aau l S c a ha k (by omega)
  split
  ·exact Nat.or_lt_two_pow ih (VK l _ (abp l k (by omega)))
  exact ih
theorem ar4 (l:List Item) (start:Bool):init l start<2 ^ (2*l.length+1):=by
 unfold init
 split
 ·exact Nat.pow_pos (by omega)
 exact VK l 0 (by omega)
theorem aru (l:List Item) (start:Bool) (S:Nat) (c:Int):step l start S c<2 ^ (2*l.length+1):=aau l S c _ (ar4 l start) _ aU
end N
def setB (set:Int):Bool:=decide (0<=set)&&decide (set<4294967296)
theorem Xt (k:Nat) (h:k<=40):(2:Int) ^ k<=1099511627776:=by
 have h2:2 ^ k<=2 ^ 40:=Nat.pow_le_pow_right (by omega) h;rw [show (2:Int) ^ k=((2 ^ k:Nat):Int) by simp];omega
theorem aai (n:Nat) (w:World) (hn:n<=40) :
  Calls prog 300 #[ah n] w λe w'=>e = .returned (ah ((2 ^ n:Nat):Int))/\w=w':=by
 go_in
 go_wp2
 go_loop [4,3] (λi o=>∃ (k:Nat) (x:Int),k<=n/\i = ah k/\o = ah x/\0<=x/\x<=1099511627776/\Box (x=2 ^ k)) (λi _=>n-(intOf i).toNat)
 ·exact⟨0,1,by omega,rfl,rfl,by omega,by omega,⟨rfl⟩⟩
 obtain⟨k,x,hk,rfl,rfl,hx0,hx1,hx⟩:=hrel
 by_cases hlt:k<n
 ·have h2:=Xt (k+1) (by omega);have HX:=bx (show 2*x=2 ^ (k+1) by rw [hx.o,Int.pow_succ];omega);have HY:=bx (show 2*x<=1099511627776 by rw [HX.o];exact h2);clear h2
  go_wp2
  go_round
  ·exact⟨k+1,2*x,hlt,by go_num,rfl,by omega,HY.o,HX⟩
  simp [intOf];omega
 obtain rfl:k=n:=by omega
 go_wp2
 go_ret
 exact⟨by rw [hx.o];simp,rfl⟩
theorem TV (n:Nat) (w:World) (hn:n<=40) :
  Calls prog 321 #[ah n] w λe w'=>e = .returned (ah ((2 ^ n:Nat):Int))/\w=w':=by
 go_in
 go_wp2
 go_loop [4,3] (λi o=>∃ (k:Nat) (x:Int),k<=n/\i = ah k/\o = ah x/\0<=x/\x<=1099511627776/\Box (x=2 ^ k)) (λi _=>n-(intOf i).toNat)
 ·exact⟨0,1,by omega,rfl,rfl,by omega,by omega,⟨rfl⟩⟩
 obtain⟨k,x,hk,rfl,rfl,hx0,hx1,hx⟩:=hrel
 by_cases hlt:k<n
 ·have h2:=Xt (k+1) (by omega);have HX:=bx (show 2*x=2 ^ (k+1) by rw [hx.o,Int.pow_succ];omega);have HY:=bx (show 2*x<=1099511627776 by rw [HX.o];exact h2);clear h2
  go_wp2
  go_round
  ·exact⟨k+1,2*x,hlt,by go_num,rfl,by omega,HY.o,HX⟩
  simp [intOf];omega
 obtain rfl:k=n:=by omega
 go_wp2
 go_ret
 exact⟨by rw [hx.o];simp,rfl⟩
theorem Sr (set:Int) (w:World) :
  Calls prog 324 #[ah set, ah 32] w λe w'=>e = .returned (.bool (setB set))/\w=w':=by
 unfold setB
 by_cases h0:0<=set
 ·go_in
  go_wp2
  all_goals go_ret
  all_goals refine⟨aY ?_,rfl⟩
  all_goals (rw [ny];simp;omega)
 go_in
 go_wp2
 go_ret
 exact⟨aY (by simp;omega),rfl⟩
theorem and_1 (x:Int) (h0:0<=x) (h1:x<9223372036854775808):bits .and .i64 x 1=x % 2:=by
 obtain⟨k,rfl⟩:=oJ h0;have:=ajr k 1 (by omega) (by omega);rw [show ((1:Nat):Int)=1 from rfl] at this;rw [this,Nat.and_one_is_mod];omega
theorem agL (S n:Nat) (h:S<9223372036854775808):(bits .and .i64 ((S:Int) / 2 ^ n) 1==1)=S.testBit n:=by
 have hd:(S:Int) / 2 ^ n=((S / 2 ^ n:Nat):Int):=by simp
 have hle:S / 2 ^ n<=S:=Nat.div_le_self _ _;rw [hd,Nat.testBit_eq_decide_div_mod_eq];generalize S / 2 ^ n=z at hle;rw [and_1 _ (by omega) (by omega),ny];simp only [lN,fD];omega
theorem V7 (set n:Int) (w:World):Calls prog 309 #[ah set, ah n] w λe w'=>e = .returned (.bool (N.uK set n))/\w=w':=by
 unfold N.uK
 by_cases hs:setB set=true
 ·have HS:=bx hs;unfold setB at hs;simp only [dD,fD] at hs;obtain⟨h0,h1⟩:=hs
  by_cases hn:0<=n/\n<32
  ·obtain⟨h2,h3⟩:=hn
   go_in
   go_wp2_with fail;refine aP (Sr set _) ?_;rw [HS.o]
   go_wp2
   go_ret
   refine⟨aY ?_,rfl⟩;obtain⟨S,rfl⟩:=oJ h0;rw [agL S _ (by omega)];simp [h1,h2,h3]
  have hn':n<0\/(0<=n/\32<=n):=by omega
  rcases hn' with h | ⟨h,h'⟩
  all_goals
   go_in
   go_wp2_with fail;refine aP (Sr set _) ?_;rw [HS.o]
   go_wp2
   go_ret
   refine⟨aY ?_,rfl⟩;simp;omega
 have HS:=bx (show setB set=false by simpa using hs)
 go_in
 go_wp2_with fail;refine aP (Sr set _) ?_;rw [HS.o]
 go_wp2
 go_ret
 refine⟨aY ?_,rfl⟩;have:=HS.o;unfold setB at this;rw [this];rfl
theorem Ie (set:Int) (w:World) :
  Calls prog 298 #[ah set, ah 32] w λe w'=>e = .returned (.bool (setB set))/\w=w':=by
 unfold setB
 by_cases h0:0<=set
 ·go_in
  go_wp2_with fail;refine aP (TV 32 _ (by omega)) ?_
  go_wp2
  go_ret
  refine⟨aY ?_,rfl⟩;rw [ny];simp;omega
 go_in
 go_wp2
 go_ret
 exact⟨aY (by simp;omega),rfl⟩
theorem aeT (S n:Nat):((S:Int) / ((2 ^ n:Nat):Int) % 2==1)=S.testBit n:=by
 have hd:(S:Int) / ((2 ^ n:Nat):Int)=((S / 2 ^ n:Nat):Int):=by simp
 rw [hd,Nat.testBit_eq_decide_div_mod_eq,ny];generalize S / 2 ^ n=z;simp only [lN,fD];omega
theorem ai0 (S q:Nat):0<=(S:Int) / (q:Int)/\(S:Int) / (q:Int)<=S:=by
 have h:=Nat.div_le_self S q;rw [show (S:Int) / (q:Int)=((S / q:Nat):Int) by simp];exact⟨Int.natCast_nonneg _,by exact_mod_cast h⟩
theorem Qi (set n:Int) (w:World):Calls prog 322 #[ah set, ah n] w λe w'=>e = .returned (.bool (N.uK set n))/\w=w':=by
 unfold N.uK
 by_cases hs:setB set=true
 ·have HS:=bx hs;unfold setB at hs;simp only [dD,fD] at hs;obtain⟨h0,h1⟩:=hs
  by_cases hn:0<=n/\n<32
  ·obtain⟨h2,h3⟩:=hn;obtain⟨m,rfl⟩:=oJ h2;have hp:0<2 ^ m:=Nat.two_pow_pos m;obtain⟨q,hq⟩:∃ q,2 ^ m=q:=⟨_,rfl⟩
   have hq0:0<q:=by rw [<- hq];exact hp
   have HQ:=bx hq;obtain⟨S,rfl⟩:=oJ h0;obtain⟨d0,d1⟩:=ai0 S q;have d2:(S:Int) / (q:Int)<4294967296:=by omega
   clear hq hp
   go_in
   go_wp2_with fail;refine aP (Ie S _) ?_;rw [HS.o];go_wp2_with fail;refine aP (TV m _ (by omega)) ?_;rw [HQ.o]
   go_wp2
   go_ret
   refine⟨aY ?_,rfl⟩;rw [<- HQ.o,aeT];simp [h1,h3]
  have hn':n<0\/(0<=n/\32<=n):=by omega
  rcases hn' with h | ⟨h,h'⟩
  all_goals
   go_in
   go_wp2_with fail;refine aP (Ie set _) ?_;rw [HS.o]
   go_wp2
   go_ret
   refine⟨aY ?_,rfl⟩;simp;omega
 have HS:=bx (show setB set=false by simpa using hs)
 go_in
 go_wp2_with fail;refine aP (Ie set _) ?_;rw [HS.o]
 go_wp2
 go_ret
 refine⟨aY ?_,rfl⟩;have:=HS.o;unfold setB at this;rw [this];rfl
theorem GI (S n:Nat) (w:World) (hn:n<=40) (hS:S<4611686018427387904):Calls prog 299 #[ah S, ah n] w λe w'=>e = .returned (.bool (S.testBit n))/\w=w':=by
 have hp:0<2 ^ n:=Nat.two_pow_pos n;obtain⟨q,hq⟩:∃ q,2 ^ n=q:=⟨_,rfl⟩
 have hq0:0<q:=by rw [<- hq];exact hp
 have HQ:=bx hq;obtain⟨d0,d1⟩:=ai0 S q;have d2:(S:Int) / (q:Int)<4611686018427387904:=by omega
 clear hq hp
 go_in
 go_wp2_with fail;refine aP (aai n _ hn) ?_;rw [HQ.o]
 go_wp2
 go_ret
 refine⟨aY ?_,rfl⟩;rw [<- HQ.o,aeT]
def fE (w:World) (v:Value) (l:List N.Item):Prop :=
 (v = aj/\l=[])\/∃ b off sp cap,v = .slice (some ⟨b,off,sp⟩) l.length cap/\l.length<=cap/\cap<=maxLen /\
  (l≠[]->sp=none/\b<w.heap.size/\∀ i x,l[i]?=some x->w.cell? ⟨b,off+i*2,none⟩=some (ah x.1)/\w.cell? ⟨b,off+i*2+1,none⟩=some (ah x.2))
theorem fE.below {w w':World} {v:Value} {l:List N.Item} (h:fE w v l) (hb:ak w w'):fE w' v l:=by
 rcases h with h | ⟨b,off,sp,cap,h1,h2,h3,h4⟩
 ·exact .inl h
 exact .inr ⟨b,off,sp,cap,h1,h2,h3,λhn=>⟨(h4 hn).1,fC (h4 hn).2.1 hb.size,λi x hx =>
  ⟨(hb.cell (p:=⟨b,off+i*2,none⟩) (h4 hn).2.1).trans ((h4 hn).2.2 i x hx).1,(hb.cell (p:=⟨b,off+i*2+1,none⟩) (h4 hn).2.1).trans ((h4 hn).2.2 i x hx).2⟩⟩⟩
theorem fE.get {w:World} {v:Value} {l:List N.Item} (h:fE w v l) (hn:l≠[]) :
  ∃ b off cap,v = .slice (some ⟨b,off,none⟩) l.length cap/\l.length<=cap/\cap<=maxLen/\b<w.heap.size /\
   ∀ i x,l[i]?=some x->w.cell? ⟨b,off+i*2,none⟩=some (ah x.1)/\w.cell? ⟨b,off+i*2+1,none⟩=some (ah x.2):=by
 rcases h with⟨_,h⟩ | ⟨b,off,sp,cap,h1,h2,h3,h4⟩
 ·exact absurd h hn
 obtain⟨rfl,h5,h6⟩:=h4 hn;exact⟨b,off,cap,h1,h2,h3,h5,h6⟩
theorem fE.slice {w:World} {v:Value} {l:List N.Item} (h:fE w v l):∃ a cap,v = .slice a l.length cap:=by
 rcases h with⟨rfl,rfl⟩ | ⟨b,off,sp,cap,rfl,_⟩
 ·exact⟨_,_,rfl⟩
 exact⟨_,_,rfl⟩
def nY (x:N.Item):Bool:=setB x.1&&decide (0<=x.2)&&decide (x.2<=2)
def kL (l:List N.Item):Bool:=decide (l.length<=10)&&l.all nY
theorem adz (x:N.Item) (bn:Nat) (w:World) (hn:w.cell? ⟨bn,0,none⟩=some (ah 32)) (hlt:bn<w.heap.size) :
  Calls prog 323 #[.agg #[ah x.1, ah x.2], aA bn] w λe w'=>e = .returned (.bool (!nY x))/\ak w w':=by
 obtain⟨set,how⟩:=x;unfold nY;have hb:∀ o1 o2,ak w ((w.alloc o1).alloc o2):=λo1 o2=>(aZ.alloc aU _).alloc (by simp) _
 go_in
 rcases sZ how 0 with h | h
 ·go_wp2
  go_ret
  exact⟨aY (by simp;omega),hb _ _⟩
 rcases sZ 2 how with h2 | h2
 ·go_wp2
  go_ret
  exact⟨aY (by simp;omega),hb _ _⟩
 have ho:=World.cell?_alloc_old;go_wp2_with (go_at_call 324;refine aP (Sr _ _) ?_)
 go_ret
 exact⟨aY (by simp [h,h2]),hb _ _⟩
theorem ahb (l:List N.Item) (k:Nat) (x:N.Item) (h:l[k]?=some x) (ha:(l.take k).all nY=true) (hx:nY x=true):(l.take (k+1)).all nY=true:=by
 rw [jw,h,List.all_append,ha];simp [hx]
theorem Sj (l:List N.Item) (k:Nat) (x:N.Item) (h:l[k]?=some x) (hx:nY x=false):l.all nY=false:=by
 rw [Bool.eq_false_iff];intro ha;rw [jG] at ha;rw [ha x (dB h)] at hx
 cases hx
theorem aqy (v:Value) (l:List N.Item) (bn:Nat) (w:World) (hv:fE w v l) (hz:l.length<=16777216) (hn:w.cell? ⟨bn,0,none⟩=some (ah 32)) (hlt:bn<w.heap.size) :
  Calls prog 333 #[v, .func (.func 323) #[] #[aA bn]] w λe w'=>(∃ i:Int,e = .returned (ah i)/\decide (0<=i)=!l.all nY)/\ak w w':=by
 have mO:=bx hv;obtain⟨ao,cap,rfl⟩:=hv.slice;clear hv;have HN:=bx hn;clear hn
 go_in
 go_wp2
 go_loopw [8] (λi wr=>∃ k:Nat,k<=l.length/\i = ah k/\Box ((l.take k).all nY=true)/\Box (ak w wr)) (λi _=>l.length-(intOf i).toNat)
 ·exact⟨0,by omega,rfl,⟨rfl⟩,⟨Below.refl _ _⟩⟩
 obtain⟨k,hk,rfl,ha,hb⟩:=hrel
 by_cases hlt':k<l.length
 ·obtain⟨x,hx⟩:∃ x,l[k]?=some x:=⟨_,dW hlt'⟩
  have HX:=bx hx;obtain⟨g,off,cap2,hg1,hg2,hg3,hg4,hg5⟩:=(mO.o.below hb.o).get (by rintro rfl;simp at hlt');obtain⟨rfl,rfl⟩:=dQ hg1;obtain⟨hc1,hc2⟩:=hg5 k x hx;unfold maxLen at hg3;have FH:=bx (show wr.cell? ⟨bn,0,none⟩=some (ah 32) from(hb.o.cell (p:=⟨bn,0,none⟩) hlt).trans HN.o);have HL2:=bx (show bn<wr.heap.size from fC hlt hb.o.size);clear hx hg1 hg5
  cases hi:nY x with
  | true =>
   have HT:=bx (ahb l k x HX.o ha.o hi);have HI:=bx (show (!nY x)=false by rw [hi];rfl);clear hi;go_wp2_with fail;refine(adz x bn _ FH.o HL2.o).mono ?_;rintro e w1 ⟨rfl,hb1⟩;rw [HI.o];have HB1:=bx (show ak w w1 from bt hb.o hb1);clear hb1
   go_wp2
   go_roundw
   ·exact⟨k+1,hlt',by go_num,HT,HB1⟩
   simp [intOf];omega
  | false =>
   have HT:=bx (Sj l k x HX.o hi);have HI:=bx (show (!nY x)=true by rw [hi];rfl);clear hi;go_wp2_with fail;refine(adz x bn _ FH.o HL2.o).mono ?_;rintro e w1 ⟨rfl,hb1⟩;rw [HI.o]
   go_wp2
   go_ret
   exact⟨⟨k,rfl,by rw [HT.o];simp⟩,bt hb.o hb1⟩
 have HT:=bx (show l.all nY=true by have:=ha.o;rwa [gq (by omega)] at this)
 go_wp2
 go_ret
 exact⟨⟨-1,rfl,by rw [HT.o];rfl⟩,hb.o⟩
theorem av1 (v:Value) (l:List N.Item) (bn:Nat) (w:World) (hv:fE w v l) (hz:l.length<=16777216) (hn:w.cell? ⟨bn,0,none⟩=some (ah 32)) (hlt:bn<w.heap.size) :
  Calls prog 325 #[v, .func (.func 323) #[] #[aA bn]] w λe w'=>e = .returned (.bool (!l.all nY))/\ak w w':=by
 have HI:=bx (aqy v l bn w hv hz hn hlt);clear hv hn
 go_in
 go_wp2_with fail;refine HI.o.mono ?_;rintro e w1 ⟨⟨i,rfl,hi⟩,hb⟩;have HX:=bx hi;clear hi
 go_wp2
 go_ret
 exact⟨aY (by simpa using HX.o),hb⟩
theorem axI (st:Bool) (v:Value) (l:List N.Item) (w:World) (hv:fE w v l) (hz:l.length<=16777216) :
  Calls prog 305 #[.agg #[.bool st,v], ah 32] w λe w'=>e = .returned (.bool (kL l))/\ak w w':=by
 unfold kL;have hw:ak w ((w.alloc (.cells #[.bool st,v] 252)).alloc (.cells #[ah 32] 3)):=(aZ.alloc aU _).alloc (by simp) _;have HW:=bx hw;have HV:=bx (hv.below hw);have HN:=bx (show ((w.alloc (.cells #[.bool st,v] 252)).alloc (.cells #[ah 32] 3)).cell? ⟨w.heap.size+1,0,none⟩=some (ah 32) by
  have:=World.cell?_alloc_mark (w.alloc (.cells #[.bool st,v] 252)) #[ah 32] 3 (0,0) 0;simp at this ⊢)
 obtain⟨ao,cap,rfl⟩:=hv.slice;clear hv hw
 by_cases hl:l.length<=10
 ·go_in
  go_wp2_with fail;refine aT (av1 _ l (w.heap.size+1) _ HV.o hz HN.o (by simp)) λw1 hb=>?_
  have HB:=bx hb;clear hb
  go_wp2
  go_ret
  exact⟨aY (by simp [hl]),bt HW.o HB.o⟩
 have hl':10<l.length:=by omega
 go_in
 go_wp2
 go_ret
 exact⟨aY (by simp),HW.o⟩
theorem SK (st:Bool) (v:Value) (l:List N.Item) (w:World) (hv:fE w v l) (hz:l.length<=16777216) :
  Calls prog 260 #[.agg #[.bool st,v], ah 32] w λe w'=>e = .returned (.bool (kL l))/\ak w w':=by
 have mO:=bx hv;obtain⟨ao,cap,rfl⟩:=hv.slice;clear hv;have HB0:=bx (aC.new w 252 #[.bool st, .slice ao l.length cap]);have HW0:=bx (((Below.refl w.heap.size w).alloc aU (.cells #[.bool st, .slice ao l.length cap] 252)))
 go_in
 go_wp2
 go_loopw [5] (λi wr=>∃ k:Nat,k<=l.length/\i = ah k/\Box ((l.take k).all nY=true)/\aC wr w.heap.size 252 #[.bool st, .slice ao l.length cap]/\Box (ak w wr)) (λi _=>l.length-(intOf i).toNat)
 ·exact⟨0,by omega,rfl,⟨rfl⟩,HB0.o,HW0⟩
 obtain⟨k,hk,rfl,ha,hbk,hb⟩:=hrel;have c1:wr.cell? ⟨w.heap.size,1,none⟩=some (.slice ao l.length cap):=(hbk.cell 1).trans rfl;have hl0:=hbk.lt;have dn:=bx hbk;clear hbk
 by_cases hlt:k<l.length
 ·obtain⟨x,hx⟩:=bV l k hlt;have HX:=bx hx;obtain⟨g,off,cap2,hg1,hg2,hg3,hg4,hg5⟩:=(mO.o.below hb.o).get (by rintro rfl;simp at hlt);obtain⟨rfl,rfl⟩:=dQ hg1;obtain⟨hc1,hc2⟩:=hg5 k x hx;unfold maxLen at hg3;have kX:=bx (λo=>hb.o.alloc hb.o.size o);clear hx hg1 hg5;obtain⟨set,how⟩:=x
  cases hs:setB set with
  | true =>
   have HS:=bx hs
   rcases sZ how 0 with h | h
   ·have HT:=bx (show kL l=false by unfold kL;rw [Sj l k _ HX.o (by unfold nY;simp;omega)];simp);clear hs;go_wp2_with fail;refine aP (Ie _ _) ?_;rw [HS.o]
    go_wp2
    go_ret
    exact⟨by rw [HT.o];rfl,kX.o _⟩
   rcases sZ 2 how with h2 | h2
   ·have HT:=bx (show kL l=false by unfold kL;rw [Sj l k _ HX.o (by unfold nY;simp;omega)];simp);clear hs;go_wp2_with fail;refine aP (Ie _ _) ?_;rw [HS.o]
    go_wp2
    go_ret
    exact⟨by rw [HT.o];rfl,kX.o _⟩
   have HT:=bx (ahb l k _ HX.o ha.o (show nY (set,how)=true by unfold nY;simp [hs,h,h2]));clear hs;go_wp2_with fail;refine aP (Ie _ _) ?_;rw [HS.o]
   go_wp2
   go_roundw
   ·exact⟨k+1,hlt,by go_num,HT,dn.o.alloc _,⟨kX.o _⟩⟩
   simp [intOf];omega
  | false =>
   have HS:=bx hs;have HT:=bx (show kL l=false by unfold kL;rw [Sj l k _ HX.o (by unfold nY;simp [hs])];simp);clear hs;go_wp2_with fail;refine aP (Ie _ _) ?_;rw [HS.o]
   go_wp2
   go_ret
   exact⟨by rw [HT.o];rfl,kX.o _⟩
 have HT:=bx (show l.all nY=true by have:=ha.o;rwa [gq (by omega)] at this)
 go_wp2
 go_ret
 refine⟨aY ?_,hb.o⟩;unfold kL;rw [HT.o,ny];simp;omega
theorem fE.take {w:World} {ao:Option Addr} {cap:Nat} {l:List N.Item} (h:fE w (.slice ao l.length cap) l) (n:Nat):fE w (.slice ao (l.take n).length cap) (l.take n):=by
 rcases h with⟨h1,rfl⟩ | ⟨b,off,sp,cap,h1,h2,h3,h4⟩
 ·injection h1 with h1 h2 h3;subst h1 h3;simp [fE]
 injection h1 with h1 h2' h3';subst h1 h3';refine .inr ⟨b,off,sp,_,rfl,by rw [dw];omega,h3,λhn=>?_⟩;have hn':l≠[]:=by rintro rfl;simp at hn
 refine⟨(h4 hn').1,(h4 hn').2.1,λi x hx=>(h4 hn').2.2 i x ?_⟩;rw [wE] at hx
 split at hx
 ·exact hx
 cases hx
theorem fE.WE {w:World} {ao:Option Addr} {cap n:Nat} {l:List N.Item} (h:fE w (.slice ao n cap) l):l.length<=cap/\cap<=9223372036854775807:=by
 rcases h with⟨h1,rfl⟩ | ⟨b,off,sp,cap,h1,h2,h3,h4⟩
 ·injection h1 with h1 h2 h3;subst h3;simp
 injection h1 with h1 h2' h3';subst h3';unfold maxLen at h3;omega
theorem aiy (st:Bool) (v:Value) (l:List N.Item) (w:World) (hv:fE w v l) :
  Calls prog 197 #[.agg #[.bool st,v]] w λe w'=>(∃ v',e = .returned (.agg #[.bool st,v'])/\∀ W,fE W v l->fE W v' (l.take 12))/\ak w w':=by
 obtain⟨ao,cap,rfl⟩:=hv.slice;obtain⟨hc1,hc2⟩:=hv.WE;have HT:=bx (λ(W:World) (h:fE W (.slice ao l.length cap) l)=>h.take 12);have HB:=bx (show ∀ o1 o2,ak w ((w.alloc o1).alloc o2).drew from λo1 o2=>below_drewN ((aZ.alloc aU o1).alloc (by simp) o2) 1);clear hv
 rcases gZ 12 l.length with hlt | hle
 ·have hm:min (l.length:Int) 12=12:=by omega
  go_in
  go_wp2
  go_region
  go_wp2
  all_goals first
   | (exfalso;omega;done)
   | (refine bodyPost_ret (v:=.agg #[.bool st, .slice ao 12 cap]) (by simp [results,results197,go_sem]) rfl ⟨⟨_,rfl,λW h=>?_⟩,HB.o _ _⟩;have:=HT.o W h;rw [show (l.take 12).length=12 by rw [dw];omega] at this;exact this)
 have hm:min (l.length:Int) 12=l.length:=by omega
 go_in
 go_wp2
 go_region
 go_wp2
 all_goals first
  | (exfalso;omega;done)
  | (refine bodyPost_ret (v:=.agg #[.bool st, .slice ao l.length cap]) (by simp [results,results197,go_sem]) rfl ⟨⟨_,rfl,λW h=>?_⟩,HB.o _ _⟩;have:=HT.o W h;rw [gq hle] at this ⊢;exact this)
def xE (n set:Int):Bool:=decide (1<=n)&&decide (n<=32)&&decide (0<=set)&&decide (set<2 ^ n.toNat)
theorem ZC (m S:Nat) (h1:1<=m) (h2:m<=32):xE (m:Int) (S:Int)=decide (S<2 ^ m):=by
 unfold xE;rw [ny];simp only [dD,fD,mG];have e:((2:Int) ^ m)=((2 ^ m:Nat):Int):=by simp
 rw [e];omega
theorem div_zero (S m:Nat):((S:Int) / 2 ^ m==0)=decide (S<2 ^ m):=by
 have hd:(S:Int) / 2 ^ m=((S / 2 ^ m:Nat):Int):=by simp
 rw [hd,ny];simp only [lN,fD];have h:S / 2 ^ m=0↔S<2 ^ m:=by
  rw [Nat.div_eq_zero_iff]
  constructor
  ·rintro(h | h)
   ·exact absurd h (Nat.pos_iff_ne_zero.1 (Nat.two_pow_pos m))
   exact h
  exact .inr
 omega
theorem acv (set n:Int) (w:World) :
  Calls prog 324 #[ah set, ah n] w λe w'=>e = .returned (.bool (xE n set))/\w=w':=by
 by_cases h1:1<=n
 ·by_cases h2:n<=32
  ·by_cases h0:0<=set
   ·obtain⟨m,rfl⟩:=oJ (show 0<=n by omega);obtain⟨S,rfl⟩:=oJ h0;rw [ZC m S (by omega) (by omega)];have hz:=div_zero S m
    cases hd:decide (S<2 ^ m) with
    | true =>
     rw [hd] at hz;clear hd
     go_in
     go_wp2
     go_ret
     exact⟨rfl,rfl⟩
    | false =>
     rw [hd] at hz;clear hd
     go_in
     go_wp2
     go_ret
     exact⟨rfl,rfl⟩
   go_in
   go_wp2
   go_ret
   exact⟨aY (by unfold xE;simp;omega),rfl⟩
  go_in
  go_wp2
  go_ret
  exact⟨aY (by unfold xE;simp;omega),rfl⟩
 go_in
 go_wp2
 go_ret
 exact⟨aY (by unfold xE;simp;omega),rfl⟩
theorem Rh (set n:Int) (w:World) :
  Calls prog 298 #[ah set, ah n] w λe w'=>e = .returned (.bool (xE n set))/\w=w':=by
 by_cases h1:1<=n
 ·by_cases h2:n<=32
  ·by_cases h0:0<=set
   ·obtain⟨m,rfl⟩:=oJ (show 0<=n by omega);obtain⟨S,rfl⟩:=oJ h0;rw [ZC m S (by omega) (by omega)];obtain⟨q,hq⟩:∃ q,2 ^ m=q:=⟨_,rfl⟩
    have HQ:=bx hq;rw [hq];clear hq
    go_in
    go_wp2_with fail;refine aP (TV m _ (by omega)) ?_;rw [HQ.o]
    go_wp2
    go_ret
    exact⟨rfl,rfl⟩
   go_in
   go_wp2
   go_ret
   exact⟨aY (by unfold xE;simp;omega),rfl⟩
  go_in
  go_wp2
  go_ret
  exact⟨aY (by unfold xE;simp;omega),rfl⟩
 go_in
 go_wp2
 go_ret
 exact⟨aY (by unfold xE;simp;omega),rfl⟩
end Go.Proofs.YtdponihkpomheaaGreatDoor
