/- Texts of this claim. -/
import Derived.Test.YtdponihkpomheaaGreatDoorK0
import Derived.KernelRfl
import Derived.Test.YtdponihkpomheaaGreatDoorProg
import Derived.WalkKit
import Derived.WalkSpells
import Derived.WalkLawsBesides
import Derived.Handy
import Derived.Lib.Hide
import Derived.Deep.QuietTactic
import Derived.BigQuiet
import Derived.Deep.RegionHeld3
import Derived.Deep.RegionWith
import Derived.Deep.DeepCutAuto
import Derived.StillTailTactics
import Derived.MapKept
import Derived.LaidEql
import Derived.Stop.Asserts
import Derived.Stop.LaidTwo
import Derived.RowKitTokens
import Derived.Laws.OwnMore
import Derived.Deep.Draws
import Derived.Stop.LaidErr
import Derived.ProofKit
import Derived.Deep.SlicePairs
import Derived.Lib.SmallJoins
import Derived.DataReads
import Derived.RegionTactic

set_option maxHeartbeats 2000000
namespace Go.Proofs.YtdponihkpomheaaGreatDoor
open Go.RowKit
open Tryz
namespace U
def af(c:Int):Int:=if c<128 then 0 else if c<194 then -1 else if c<224 then 1 else if c<240 then 2 else if c<245 then 3 else -1
def ax(c:Int):Int:=if af c<0 then 0 else if c=224 then 160 else if c=240 then 144 else 128
def ay(c:Int):Int:=if af c<0 then 0 else if c=237 then 159 else if c=244 then 143 else 191
def aD(c:Int):Int:=if af c<0 then 0 else if c<128 then 0 else if c<224 then 192 else if c<240 then 224 else 240
def right(r:Int):Bool:=decide (0<=r)&&decide (r<=1114111)&&(decide (r<55296)||decide (57343<r))
def aM(c:UInt8):Bool:=decide (128<=c.toNat)&&decide (c.toNat<=191)
def aa(c:UInt8):Int:=(c.toNat:Int)
def fold(a:Int)(l:List UInt8):Int:=l.foldl (λa c=>64*a+aa c-128) a
def M3(c:Int)(l:List UInt8):Bool:=
 decide (af c<=(l.length:Int))&&(l.take (af c).toNat).all aM &&
  (match l.take (af c).toNat with|[]=>true|d::_=>decide (ax c<=aa d)&&decide (aa d<=ay c))
def dec:List UInt8->Option (Int×Nat)
 |[]=>none
 |c::l=>if af (aa c)<0 then none else if M3 (aa c) l then some (fold (aa c-aD (aa c)) (l.take (af (aa c)).toNat),(af (aa c)).toNat+1)else none
def byte(n:Int):UInt8:=UInt8.ofNat n.toNat
def enc(r:Int):List UInt8:=
 if r<128 then[byte r]
 else if r<2048 then[byte (192+r/64),byte (128+r%64)]
 else if r<65536 then[byte (224+r/4096),byte (128+r/64%64),byte (128+r%64)]
 else[byte (240+r/262144),byte (128+r/4096%64),byte (128+r/64%64),byte (128+r%64)]
theorem bl(c:UInt8):0<=aa c:=by simp[aa]
theorem bo(c:UInt8):aa c<256:=by unfold aa;have:=c.toNat_lt;omega
theorem cn(n:Int)(ZI:0<=n)(Z7:n<256):aa (byte n)=n:=by
 grind[aa,byte,UInt8.toNat_ofNat']
theorem e2{c d:UInt8}(h:aa c=aa d):c=d:=by
 apply UInt8.toNat_inj.1;grind[aa]
theorem eS(c:UInt8):byte (aa c)=c:=e2 (cn _ (bl c) (bo c))
theorem DB{n:Int}{c:UInt8}(h:n=aa c):byte n=c:=by rw[h,eS]
theorem a7(c:UInt8):aM c=true↔128<=aa c/\aa c<=191:=by
 grind[aM,aa]
theorem fS(c:UInt8):aM c=false↔aa c<128\/191<aa c:=by
 rw[<-Bool.not_eq_true,a7];omega
theorem cT(r:Int):right r=true↔0<=r/\r<=1114111/\(r<55296\/57343<r):=by
 grind[right]
theorem c6(r:Int):1<=(enc r).length/\(enc r).length<=4:=by
 grind[enc]
theorem fl(r:Int)(h:right r=true)(t:List UInt8):dec (enc r++t)=some (r,(enc r).length):=by
 rw[cT]at h;obtain⟨ZI,Z7,Z5⟩:=h;unfold enc
 split
 ·simp only[SI,RQ,dec];rw[cn r ZI (by omega)];have Zq:af r=0:=by grind[af]
  have YP:aD r=0:=by grind[aD]
  simp[Zq,YP,M3,fold]
 split
 ·simp only[SI,RQ,dec];rw[cn (192+r/64) (by omega) (by omega)];have Zq:af (192+r/64)=1:=by grind[af]
  have YP:aD (192+r/64)=192:=by grind[aD]
  have Yb:ax (192+r/64)=128:=by grind[ax]
  have WW:ay (192+r/64)=191:=by grind[ay]
  have Wx:=cn (128+r%64) (by omega) (by omega);have t1:aM (byte (128+r%64))=true:=by grind[a7]
  simp[Zq,YP,Yb,WW,M3,fold,t1,Wx]
  omega
 split
 ·simp only[SI,RQ,dec];rw[cn (224+r/4096) (by omega) (by omega)];have Zq:af (224+r/4096)=2:=by grind[af]
  have YP:aD (224+r/4096)=224:=by grind[aD]
  have Wx:=cn (128+r/64%64) (by omega) (by omega);have Xd:=cn (128+r%64) (by omega) (by omega);have t1:aM (byte (128+r/64%64))=true:=by grind[a7]
  have t2:aM (byte (128+r%64))=true:=by grind[a7]
  have Yb:ax (224+r/4096)<=128+r/64%64:=by grind[ax]
  have WW:128+r/64%64<=ay (224+r/4096):=by grind[ay]
  have VK:(2:Int)<=(t.length:Int)+1+1:=by omega
  simp[Zq,YP,Yb,WW,VK,M3,fold,t1,t2,Wx,Xd];omega
 simp only[SI,RQ,dec];rw[cn (240+r/262144) (by omega) (by omega)];have Zq:af (240+r/262144)=3:=by grind[af]
 have YP:aD (240+r/262144)=240:=by grind[aD]
 have Wx:=cn (128+r/4096%64) (by omega) (by omega);have Xd:=cn (128+r/64%64) (by omega) (by omega);have Wk:=cn (128+r%64) (by omega) (by omega);have t1:aM (byte (128+r/4096%64))=true:=by grind[a7]
 have t2:aM (byte (128+r/64%64))=true:=by grind[a7]
 have t3:aM (byte (128+r%64))=true:=by grind[a7]
 have Yb:ax (240+r/262144)<=128+r/4096%64:=by grind[ax]
 have WW:128+r/4096%64<=ay (240+r/262144):=by grind[ay]
 have VK:(3:Int)<=(t.length:Int)+1+1+1:=by omega
 simp[Zq,YP,Yb,WW,VK,M3,fold,t1,t2,t3,Wx,Xd,Wk];omega
theorem cY(c:Int):af c=-1\/af c=0\/af c=1\/af c=2\/af c=3:=by grind[af]
theorem eJ(c:Int)(h:af c=0):c<128:=by grind[af]
theorem eH(c:Int)(h:af c=1):194<=c/\c<224:=by grind[af]
theorem eE(c:Int)(h:af c=2):224<=c/\c<240:=by grind[af]
theorem ed(c:Int)(h:af c=3):240<=c/\c<245:=by grind[af]
theorem du(c:Int)(h:0<=af c):128<=ax c/\(c=224->ax c=160)/\(c=240->ax c=144):=by
 grind[ax]
theorem dx(c:Int)(h:0<=af c):ay c<=191/\(c=237->ay c=159)/\(c=244->ay c=143):=by
 grind[ay]
theorem tail_range{c:UInt8}(h:aM c=true):128<=aa c/\aa c<=191:=(a7 c).1 h
theorem cX{s:List UInt8}{r:Int}{n:Nat}(h:dec s=some (r,n)):right r=true/\enc r=s.take n/\1<=n/\n<=4/\n<=s.length:=by
 cases s with
 |nil=>simp[dec]at h
 |cons c l=>
  have YV:=bl c;simp only[dec]at h
  split at h
  ·cases h
  rename_i ZP
  split at h
  case isFalse=>cases h
  rename_i ZM
  simp only[OS,Prod.mk.injEq]at h;obtain⟨rfl,rfl⟩:=h;simp only[M3,Vm,SS]at ZM;obtain⟨⟨Ty,S9⟩,Zm⟩:=ZM
  rcases cY (aa c)with e|e|e|e|e
  ·omega
  ·have ZL:=eJ _ e;have em:aD (aa c)=0:=by grind[aD]
   simp only[e,em,Int.toNat_zero,J3,fold,List.foldl_nil,Int.sub_zero,Nat.zero_add,Lu];refine⟨by rw[cT];omega,?_,by omega,by omega,by simp⟩;unfold enc;rw[Y0 ZL,eS]
  ·have ZL:=eH _ e;have em:aD (aa c)=192:=by grind[aD]
   rcases l with _|⟨d1,l⟩
   ·grind
   
   simp only[e,Int.toNat_one,Lu,J3,List.all_cons,List.all_nil,Bool.and_true]at S9;have t1:=tail_range S9;simp only[e,em,Int.toNat_one,Lu,J3,fold,List.foldl_cons,List.foldl_nil];refine And.intro ((cT _).2 (by omega)) (And.intro ?_ (And.intro (by omega) (And.intro (by omega) (by simp))));unfold enc;rw[Y4 (by omega),Y0 (by omega)];simp only[QE,and_true];exact⟨DB (by omega),DB (by omega)⟩
  ·have ZL:=eE _ e;have em:aD (aa c)=224:=by grind[aD]
   have T8:=du (aa c) (by omega);have Nk:=dx (aa c) (by omega)
   rcases l with _|⟨d1,l⟩
   ·grind
   rcases l with _|⟨d2,l⟩
   ·grind
   
   have YP:(2:Int).toNat=2:=rfl;simp only[e,YP,Lu,J3,List.all_cons,List.all_nil,Bool.and_true,Vm]at S9;simp only[e,YP,Lu,J3,Vm,SS]at Zm;have t1:=tail_range S9.1;have t2:=tail_range S9.2;simp only[e,YP,em,Lu,J3,fold,List.foldl_cons,List.foldl_nil];refine And.intro ((cT _).2 (by omega)) (And.intro ?_ (And.intro (by omega) (And.intro (by omega) (by simp))));unfold enc;rw[Y4 (by omega),Y4 (by omega),Y0 (by omega)];simp only[QE,and_true];exact⟨DB (by omega),DB (by omega),DB (by omega)⟩
  have ZL:=ed _ e;have em:aD (aa c)=240:=by grind[aD]
  have T8:=du (aa c) (by omega);have Nk:=dx (aa c) (by omega)
  rcases l with _|⟨d1,l⟩
  ·grind
  rcases l with _|⟨d2,l⟩
  ·grind
  rcases l with _|⟨d3,l⟩
  ·grind
   
  have YP:(3:Int).toNat=3:=rfl;simp only[e,YP,Lu,J3,List.all_cons,List.all_nil,Bool.and_true,Vm]at S9;simp only[e,YP,Lu,J3,Vm,SS]at Zm;have t1:=tail_range S9.1;have t2:=tail_range S9.2.1;have t3:=tail_range S9.2.2;simp only[e,YP,em,Lu,J3,fold,List.foldl_cons,List.foldl_nil];refine And.intro ((cT _).2 (by omega)) (And.intro ?_ (And.intro (by omega) (And.intro (by omega) (by simp))));unfold enc;rw[Y4 (by omega),Y4 (by omega),Y4 (by omega)];simp only[QE,and_true];exact⟨DB (by omega),DB (by omega),DB (by omega),DB (by omega)⟩
def Xw:Nat->List UInt8->Option (List Int)
 |0,s=>if s=[]then some []else none
 |k+1,s=>if s=[]then some []else
  match dec s with
  |none=>none
  |some (r,n)=>(Xw k (s.drop n)).map (r::·)
def scalars(s:List UInt8):Option (List Int):=Xw s.length s
def valid(s:List UInt8):Bool:=(scalars s).isSome
def textOf(l:List Int):List UInt8:=l.flatMap enc
theorem amf(k:Nat):∀(s:List UInt8)(j:Nat),s.length<=k->s.length<=j->Xw k s=Xw j s:=by
 induction k with
 |zero=>intro s j h _;have:s=[]:=L4 (by omega);subst this;cases j <;> rfl
 |succ k XZ=>
  intro s j h YO
  cases j with
  |zero=>grind
  |succ j=>
   simp only[Xw]
   split
   ·rfl
   cases Zm:dec s with
   |none=>rfl
   |some p=>
    obtain⟨r,n⟩:=p;have:=cX Zm;grind
theorem mr:scalars []=some []:=rfl
theorem fu{s:List UInt8}(Z0:s≠[])(h:dec s=none):scalars s=none:=by
 unfold scalars
 cases hl:s.length with
 |zero=>grind
 |succ k=>simp only[Xw];grind
theorem aaE{s:List UInt8}{r:Int}{n:Nat}(h:dec s=some (r,n)):scalars s=(scalars (s.drop n)).map (r::·):=by
 have Z0:s≠[]:=by grind[dec]
 have:=cX h;unfold scalars
 cases hl:s.length with
 |zero=>omega
 |succ k=>
  simp only[Xw];rw[Y4 Z0,h];simp only;rw[amf k (s.drop n) (s.drop n).length (by grind) Ys]
theorem lA(r:Int)(h:right r=true)(t:List UInt8):scalars (enc r++t)=(scalars t).map (r::·):=by
 grind[aaE,fl,List.drop_left]
theorem eT(l:List Int)(h:∀r∈l,right r=true)(t:List UInt8):scalars (textOf l++t)=(scalars t).map (l++·):=by
 induction l with
 |nil=>simp[textOf]
 |cons r l XZ=>
  have e:textOf (r::l)++t=enc r++(textOf l++t):=by simp[textOf]
  rw[e,lA r (h r (by simp)),XZ (λr ZT=>h r (by simp[ZT])),Option.map_map]
  congr 1
theorem ajO(k:Nat):∀(s:List UInt8)(l:List Int),s.length<=k->scalars s=some l->textOf l=s/\∀r∈l,right r=true:=by
 induction k with
 |zero=>
  intro s l Z3 h;have:s=[]:=L4 (by omega);subst this;rw[mr]at h
  cases h;exact⟨rfl,λr ZT=>by cases ZT⟩
 |succ k XZ=>
  intro s l Z3 h
  by_cases Z0:s=[]
  ·subst Z0;rw[mr]at h
   cases h;exact⟨rfl,λr ZT=>by cases ZT⟩
  cases Zm:dec s with
  |none=>grind[fu]
  |some p=>
   obtain⟨r,n⟩:=p;obtain⟨ZT,he,Z7,_,ZP⟩:=cX Zm;rw[aaE Zm]at h
   cases hl:scalars (s.drop n)with
   |none=>grind
   |some tB=>
    rw[hl]at h;simp only[Option.map_some,OS]at h;subst h;obtain⟨g1,g2⟩:=XZ _ tB (by grind) hl;refine⟨?_,λx Z4=>?_⟩
    ·show enc r++textOf tB=s
     simp_all
    grind
theorem bI(s:List UInt8)(l:List Int):scalars s=some l↔textOf l=s/\∀r∈l,right r=true:=by
 refine⟨ajO s.length s l Ys,λ⟨Z7,Z5⟩=>?_⟩;have:=eT l Z5 [];rw[L3,Z7,mr]at this
 grind
theorem ds(a b:List Int):textOf (a++b)=textOf a++textOf b:=by simp[textOf]
theorem dZ{c:UInt8}{t:List UInt8}(e:af (aa c)<0):dec (c::t)=none:=by simp only[dec];rw[Y0 e]
theorem fE{c:UInt8}{t:List UInt8}(h:(t.length:Int)<af (aa c)):dec (c::t)=none:=by
 simp only[dec]
 split
 ·rfl
 rw[Y4];simp only[M3,Vm,SS];omega
theorem eN{c:UInt8}{t:List UInt8}(e:af (aa c)=0):dec (c::t)=some (aa c,1):=by
 have ZL:=eJ _ e;have em:aD (aa c)=0:=by grind[aD]
 simp[dec,e,em,M3,fold]
theorem dv{c d1:UInt8}{t:List UInt8}(e:af (aa c)=1):
  dec (c::d1::t)=if ax (aa c)<=aa d1/\aa d1<=ay (aa c)/\128<=aa d1/\aa d1<=191 then some (64*(aa c-192)+aa d1-128,2)else none:=by
 have ZL:=eH _ e;have em:aD (aa c)=192:=by grind[aD]
 have Z7:=a7 d1;simp only[dec,e,em];rw[Y4 (by omega)]
 by_cases Zx:aM d1=true
 ·have:=Z7.1 Zx
  by_cases Zr:ax (aa c)<=aa d1/\aa d1<=ay (aa c)
  ·rw[Y0,Y0 (by omega)]
   ·rfl
   simp[M3,e,Zx,Zr];omega
  rw[Y4,Y4 (by omega)];simp[M3,e,Zx];omega
 rw[Y4,Y4 (by grind)];simp[M3,e,Zx]
theorem dw{c d1 d2:UInt8}{t:List UInt8}(e:af (aa c)=2):
  dec (c::d1::d2::t)=if ax (aa c)<=aa d1/\aa d1<=ay (aa c)/\128<=aa d1/\aa d1<=191/\128<=aa d2/\aa d2<=191 then some (64*(64*(aa c-224)+aa d1-128)+aa d2-128,3)else none:=by
 have ZL:=eE _ e;have em:aD (aa c)=224:=by grind[aD]
 have Z7:=a7 d1;have Z5:=a7 d2;have YP:(2:Int).toNat=2:=rfl;simp only[dec,e,em];rw[Y4 (by omega)]
 by_cases Zx:aM d1=true/\aM d2=true
 ·have axx:=Z7.1 Zx.1;have axy:=Z5.1 Zx.2
  by_cases Zr:ax (aa c)<=aa d1/\aa d1<=ay (aa c)
  ·rw[Y0,Y0 (by omega)]
   ·rfl
   simp[M3,e,YP,Zx,Zr];omega
  rw[Y4,Y4 (by omega)];simp[M3,e,YP,Zx];omega
 rw[Y4,Y4 (by grind)];simp only[M3,e,YP,Lu,J3,List.all_cons,List.all_nil,Bool.and_true,Vm];grind
theorem dM{c d1 d2 d3:UInt8}{t:List UInt8}(e:af (aa c)=3):
  dec (c::d1::d2::d3::t)=if ax (aa c)<=aa d1/\aa d1<=ay (aa c)/\128<=aa d1/\aa d1<=191/\128<=aa d2/\aa d2<=191/\128<=aa d3/\aa d3<=191 then some (64*(64*(64*(aa c-240)+aa d1-128)+aa d2-128)+aa d3-128,4)else none:=by
 have ZL:=ed _ e;have em:aD (aa c)=240:=by grind[aD]
 have Z7:=a7 d1;have Z5:=a7 d2;have ZS:=a7 d3;have YP:(3:Int).toNat=3:=rfl;simp only[dec,e,em];rw[Y4 (by omega)]
 by_cases Zx:aM d1=true/\aM d2=true/\aM d3=true
 ·have axx:=Z7.1 Zx.1;have axy:=Z5.1 Zx.2.1;have aAD:=ZS.1 Zx.2.2
  by_cases Zr:ax (aa c)<=aa d1/\aa d1<=ay (aa c)
  ·rw[Y0,Y0 (by omega)]
   ·rfl
   simp[M3,e,YP,Zx,Zr];omega
  rw[Y4,Y4 (by omega)];simp[M3,e,YP,Zx];omega
 rw[Y4,Y4 (by grind)];simp only[M3,e,YP,Lu,J3,List.all_cons,List.all_nil,Bool.and_true,Vm];grind
theorem apr(a:Int)(l:List UInt8)(d:UInt8):fold a (l++[d])=64*fold a l+aa d-128:=by simp[fold]
theorem aou(l:List UInt8)(hl:∀d∈l,aM d=true):∀a:Int,0<=a->l.length<=3->a<128->0<=fold a l/\fold a l<33554432:=by
 intro a YZ Ty Zu
 match l,hl,Ty with
 |[],_,_=>grind[fold]
 |[d],hl,_=>
  have Z7:=(a7 d).1 (hl d (by simp));grind[fold]
 |[d,e],hl,_=>
  have Z7:=(a7 d).1 (hl d (by simp));have Z5:=(a7 e).1 (hl e (by simp));grind[fold]
 |[d,e,f],hl,_=>
  have Z7:=(a7 d).1 (hl d (by simp));have Z5:=(a7 e).1 (hl e (by simp));have ZS:=(a7 f).1 (hl f (by simp));grind[fold]
 |_::_::_::_::_,_,h=>grind
theorem ale{c:UInt8}{t:List UInt8}{n m:Int}(ZP:n=af (aa c))(hm:aD (aa c)=m)(ZI:0<=n)(hl:n<=t.length)(S9:∀d∈t.take n.toNat,aM d=true)(vR:n=0\/∃d1 TI,t=d1::TI/\ax (aa c)<=aa d1/\aa d1<=ay (aa c)):dec (c::t)=some (fold (aa c-m) (t.take n.toNat),n.toNat+1):=by
 simp only[dec];rw[Y4 (by omega),Y0,<-ZP,hm];unfold M3;rw[<-ZP];simp only[Vm,SS];refine⟨⟨hl,QG.2 S9⟩,?_⟩
 rcases vR with h|⟨d1,TI,rfl,Z7,Z5⟩
 ·subst h;rfl
 rcases Int.lt_or_eq_of_le ZI with h|h
 ·obtain⟨k,Z3⟩:∃k,n.toNat=k+1:=⟨n.toNat-1,by omega⟩
  grind
 rw[<-h];rfl
theorem dec_not{c:UInt8}{t:List UInt8}{d:UInt8}(ZI:0<=af (aa c))(Zm:d∈t.take (af (aa c)).toNat)(Yz:aM d=false):dec (c::t)=none:=by
 simp only[dec];grind[M3]
theorem aqf{c d1:UInt8}{t:List UInt8}(ZI:0<af (aa c))(Zm:¬(ax (aa c)<=aa d1/\aa d1<=ay (aa c))):dec (c::d1::t)=none:=by
 simp only[dec];rw[Y4 (by omega),Y4];unfold M3;simp only[Vm];intro h;obtain⟨k,Z3⟩:∃k,(af (aa c)).toNat=k+1:=⟨(af (aa c)).toNat-1,by omega⟩
 grind
theorem auh(c:Int)(ZI:0<=c)(_:c<256):af c<0\/(0<=c-aD c/\c-aD c<128/\0<=aD c):=by
 rcases cY c with e|e|e|e|e
 ·omega
 ·have:=eJ _ e;grind[aD]
 ·have:=eH _ e;grind[aD]
 ·have:=eE _ e;grind[aD]
 have:=ed _ e;grind[aD]
end U
structure Box(p:Prop):Prop where
 o:p
theorem bx{p:Prop}(h:p):Box p:=⟨h⟩
theorem X7{P:Program}{f:FuncId}{a:Array Value}{w YR:World}{r:Value}{Q:Ending→World→Prop}(h:Calls P f a w fun e w'=>e=.returned r∧Below w.heap.size w w')(k:Below YR.heap.size YR w)(g:∀ZV,Box (Below YR.heap.size YR ZV)→Q (.returned r) ZV):Calls P f a w Q:=h.mono (by rintro e ZV ⟨rfl,Z8⟩;exact g ZV ⟨k.trans (Z8.mono k.size)⟩)
theorem Zw{a b c:World}(h:Box (Below a.heap.size a b))(k:Below b.heap.size b c):Box (Below a.heap.size a c):=⟨h.o.trans (k.mono h.o.size)⟩
theorem YW{P:Program}{f:FuncId}{a:Array Value}{w:World}{r:Value}{UF:World}{q:World→Prop}{Q:Ending→World→Prop}(h:Calls P f a w fun e w'=>e=.returned r∧q w')(g:Q (.returned r) UF)(k:∀ZV,q ZV→ZV=UF:=by first|exact fun _ h=>h.symm|exact fun _ h=>h):Calls P f a w Q:=h.mono (by grind)
theorem Y3{P:Program}{f:FuncId}{a:Array Value}{w:World}{r:Value}{q:World→Prop}{Q:Ending→World→Prop}(h:Calls P f a w fun e w'=>e=.returned r∧q w')(g:∀ZV,q ZV→Q (.returned r) ZV):Calls P f a w Q:=h.mono (by grind)
theorem YG{a b:Bool}(h:a=b):Ending.returned (.bool a)=.returned (.bool b):=by rw[h]
theorem SJ{k:IntKind}{a b:Int}(h:a=b):Ending.returned (.int k a)=.returned (.int k b):=by rw[h]
theorem Lg{a Oa:Value}(h:a=Oa):Ending.returned a=.returned Oa:=by rw[h]
theorem OB{a b Oa Aa:Value}(h:a=Oa)(Z5:b=Aa):Ending.returned (.tuple #[a,b])=.returned (.tuple #[Oa,Aa]):=by rw[h,Z5]
theorem ad8{a b c Oa Aa EP:Value}(h:a=Oa)(Z5:b=Aa)(ZS:c=EP):Ending.returned (.tuple #[a,b,c])=.returned (.tuple #[Oa,Aa,EP]):=by grind
theorem PZ{k:IntKind}{a b:Int}(h:a=b):Value.int k a=.int k b:=by rw[h]
theorem rz{a b:Bool}(h:a=b):Value.bool a=.bool b:=by rw[h]
theorem size_eq(s:ByteArray):s.size=s.data.toList.length:=by rfl
theorem JT{P:Program}{T:TypeId}(Yo:P.underlying T=some .string)(s:ByteArray)(k:Nat){d:UInt8}(Zm:s.data.toList[k]?=some d)(i:Int)(hi:i=k):
  ∀w,(Instr.index T (.string s) (Z9 i)).run P w=.ok (.int .u8 (U.aa d)) w:=by
 intro w;subst hi;have Z3:k<s.size:=by grind[size_eq]
 rw[run_index_string w _ _ _ _ Yo,dif_pos (by omega)];have:s[k]'Z3=d:=by
  have:=(R7 Zm).2;rw[<-this];rfl
 grind[U.aa]
theorem B5{P:Program}{src e dst:TypeId}(Z0:P.underlying src=some (.slice e))(he:P.underlying e=some (.int .u8))(Zm:P.underlying dst=some .string)(C:List Int)(w:World)(ZU:Nat)(n:Nat)(ZP:n=C.length)(t:TypeId):
  (convert src dst (.slice (some ⟨w.heap.size,0,none⟩) n ZU)).run P (w.alloc (.cells (C.map (Value.int .u8)).toArray t))=.ok (.string (strOfNums C)) (w.alloc (.cells (C.map (Value.int .u8)).toArray t)):=by
 subst ZP;refine run_convert_bytes_arg _ src e Z0 he w.heap.size 0 C.length ZU C rfl (λi hi=>?_) dst Zm;simp_all
theorem y0(w:World)(o:Obj)(n:Nat)(ZP:n=w.heap.size):(w.alloc o).heap[n]?=some o:=by subst ZP;exact heap_alloc_new w o
theorem set_push{α:Type}(a:Array α)(x y:α):(a.push x).setIfInBounds a.size y=a.push y:=by
 grind
theorem aur(w:World)(o px:Obj)(n:Nat)(ZP:n=w.heap.size):({w.alloc o with heap:=(w.alloc o).heap.setIfInBounds n px}:World)=w.alloc px:=by
 subst ZP;have e:(w.alloc o).heap.setIfInBounds w.heap.size px=w.heap.push px:=set_push _ _ _;rw[e];rfl
theorem IU{P:Program}{T K E:TypeId}{q:IntKind}(hm:P.underlying T=some (.map K E))(Z3:P.underlying K=some (.int q))(w:World)(es:Array MapEntry)(Vd:Nat)(k:Int)(v:Value)(n:Nat)(ZP:n=w.heap.size)(Yz:Instr.findNow (.int q) (.int q k) es.toList 0=some none):
  (Instr.mapUpdate T (.map (some n)) (.int q k) v).run P (w.alloc (.map es Vd))=.ok () (w.alloc (.map (es.push ⟨.int q k,v,Vd⟩) (Vd+1))):=by
 have ZH:=y0 w (.map es Vd) n ZP;have Z7:(Instr.checkKey false 10000 K (.int q k)).run P (w.alloc (.map es Vd))=.ok () (w.alloc (.map es Vd)):=MapKept.run_checkKey Z3 (by rfl) false 9999;have Z5:=MapKept.run_findKey (P:=P) (w:=w.alloc (.map es Vd)) Z3 Yz;unfold Instr.mapUpdate;simp only[Sem.run_bind,run_underlying hm,Result.andThen,MapKept.run_getObj_map ZH,Z7,Z5,MapKept.run_setObj_map _ ZH,aur w _ _ n ZP]
theorem ri{P:Program}{T K E:TypeId}{q:IntKind}(hm:P.underlying T=some (.map K E))(Z3:P.underlying K=some (.int q))(W:World)(es:Array MapEntry)(Vd:Nat)(k:Int)(n:Nat)(ZH:W.heap[n]?=some (.map es Vd))(i:Nat)(v:Value)(Yz:Instr.findNow (.int q) (.int q k) es.toList 0=some (some (i,v))):
  (Instr.lookup T (.map (some n)) (.int q k) true).run P W=.ok (.tuple #[v,.bool true]) W:=by
 have Z7:(Instr.checkKey es.isEmpty 10000 K (.int q k)).run P W=.ok () W:=MapKept.run_checkKey Z3 (by rfl) _ 9999;have Z5:=MapKept.run_findKey (P:=P) (w:=W) Z3 Yz;unfold Instr.lookup;simp only[Sem.run_bind,run_underlying hm,Result.andThen,MapKept.run_getObj_map ZH,Z7,Z5,Sem.run_pure,if_true]
theorem anb{P:Program}{T K E:TypeId}{q:IntKind}(hm:P.underlying T=some (.map K E))(Z3:P.underlying K=some (.int q))(W:World)(es:Array MapEntry)(Vd:Nat)(k:Int)(n:Nat)(ZH:W.heap[n]?=some (.map es Vd))(z:Value)(ZY:(zeroValue E).run P W=.ok z W)(Yz:Instr.findNow (.int q) (.int q k) es.toList 0=some none):
  (Instr.lookup T (.map (some n)) (.int q k) true).run P W=.ok (.tuple #[z,.bool false]) W:=by
 have Z7:(Instr.checkKey es.isEmpty 10000 K (.int q k)).run P W=.ok () W:=MapKept.run_checkKey Z3 (by rfl) _ 9999;have Z5:=MapKept.run_findKey (P:=P) (w:=W) Z3 Yz;unfold Instr.lookup;simp only[Sem.run_bind,run_underlying hm,Result.andThen,MapKept.run_getObj_map ZH,Z7,Z5,Sem.run_pure,if_true,ZY]
theorem lV(P:Program)(w:World)(a:Addr)(m:Mode)(k:FloatKind)(b:Nat):(store a (.float k b) m).run P w=stored P w a (.float k b) m:=run_store P w a _ m rfl
theorem nD(P:Program)(w:World)(a:Addr)(m:Mode)(k:FloatKind)(x y:Nat):(store a (.complex k x y) m).run P w=stored P w a (.complex k x y) m:=run_store P w a _ m rfl
def Zv(w:World)(g:Nat)(t:TypeId)(cs:Array Value):Prop:=w.heap[g]?=some (.cells cs t (0,0))
section
variable {w w':World} {g:Nat} {t:TypeId} {cs:Array Value}
theorem Zv.lt(h:Zv w g t cs):g<w.heap.size:=by
 grind[Zv]
theorem Zv.cell(h:Zv w g t cs)(i:Nat):w.cell? ⟨g,i,none⟩=cs[i]?:=cell_of_row w g i cs t (0,0) h
theorem Zv.frozen(h:Zv w g t cs)(i:Nat):w.frozen? ⟨g,i,none⟩=false:=by
 grind[Zv,World.frozen?]
theorem Zv.q0{x:Value}{r:List Value}(h:Zv w g t (x::r).toArray):w.cell? ⟨g,0,none⟩=some x:=h.cell 0
theorem Zv.q1{x a:Value}{r:List Value}(h:Zv w g t (a::x::r).toArray):w.cell? ⟨g,1,none⟩=some x:=h.cell 1
theorem Zv.q2{x a b:Value}{r:List Value}(h:Zv w g t (a::b::x::r).toArray):w.cell? ⟨g,2,none⟩=some x:=h.cell 2
theorem Zv.q3{x a b c:Value}{r:List Value}(h:Zv w g t (a::b::c::x::r).toArray):w.cell? ⟨g,3,none⟩=some x:=h.cell 3
theorem Zv.q4{x a b c d:Value}{r:List Value}(h:Zv w g t (a::b::c::d::x::r).toArray):w.cell? ⟨g,4,none⟩=some x:=h.cell 4
theorem Zv.q5{x a b c d e:Value}{r:List Value}(h:Zv w g t (a::b::c::d::e::x::r).toArray):w.cell? ⟨g,5,none⟩=some x:=h.cell 5
theorem Zv.q6{x a b c d e f:Value}{r:List Value}(h:Zv w g t (a::b::c::d::e::f::x::r).toArray):w.cell? ⟨g,6,none⟩=some x:=h.cell 6
theorem Zv.q7{x a b c d e f i:Value}{r:List Value}(h:Zv w g t (a::b::c::d::e::f::i::x::r).toArray):w.cell? ⟨g,7,none⟩=some x:=h.cell 7
theorem Zv.q8{x a b c d e f i j:Value}{r:List Value}(h:Zv w g t (a::b::c::d::e::f::i::j::x::r).toArray):w.cell? ⟨g,8,none⟩=some x:=h.cell 8
theorem Zv.q9{x a b c d e f i j k:Value}{r:List Value}(h:Zv w g t (a::b::c::d::e::f::i::j::k::x::r).toArray):w.cell? ⟨g,9,none⟩=some x:=h.cell 9
theorem Zv.q10{x a b c d e f i j k l:Value}{r:List Value}(h:Zv w g t (a::b::c::d::e::f::i::j::k::l::x::r).toArray):w.cell? ⟨g,10,none⟩=some x:=h.cell 10
theorem Zv.new(w:World)(t:TypeId)(cs:Array Value):Zv (w.alloc (.cells cs t)) w.heap.size t cs:=heap_alloc_new w _
theorem Zv.drewN(h:Zv w g t cs)(n:Nat):Zv (w.drewN n) g t cs:=h
theorem Zv.alloc(h:Zv w g t cs)(o:Obj):Zv (w.alloc o) g t cs:=(Below.heap_alloc w o g h.lt).trans h
theorem Zv.ai(h:Zv w g t cs)(i:Nat)(u:Value):Zv (w.setCell ⟨g,i,none⟩ u) g t (cs.setIfInBounds i u):=by
 grind[Zv,World.setCell]
theorem Zv.far(h:Zv w g t cs){p:Addr}(hp:g≠p.block)(u:Value):Zv (w.setCell p u) g t cs:=(Below.heap_setCell w p u g hp).trans h
theorem Zv.below{B:Nat}(h:Zv w g t cs)(Z8:Below B w w')(ZH:g<B):Zv w' g t cs:=(Z8.block g ZH).trans h
theorem Box.ub{V W:World}{g:Nat}{t:TypeId}{cs:Array Value}(h:Box (Zv V g t cs))(k:Below V.heap.size V W):Box (Zv W g t cs):=⟨h.o.below k h.o.lt⟩
theorem bt{a b c:World}(h:Z6 a b)(k:Z6 b c):Z6 a c:=h.trans (k.mono h.size)
theorem Zv.d2{V W:World}{Ws XX:Value}(H:Zv V g t #[Ws,XX])(h:Z6 V W):ZQ W g 0=some Ws/\ZQ W g 1=some XX/\g<W.heap.size:=⟨(H.below h H.lt).q0,(H.below h H.lt).q1,(H.below h H.lt).lt⟩
theorem Zv.d3{V W:World}{Ws XX V2:Value}(H:Zv V g t #[Ws,XX,V2])(h:Z6 V W):ZQ W g 0=some Ws/\ZQ W g 1=some XX/\ZQ W g 2=some V2/\g<W.heap.size:=⟨(H.below h H.lt).q0,(H.below h H.lt).q1,(H.below h H.lt).q2,(H.below h H.lt).lt⟩
theorem Zv.d6{V W:World}{Ws XX V2 V4 UO T1:Value}(H:Zv V g t #[Ws,XX,V2,V4,UO,T1])(h:Z6 V W):ZQ W g 0=some Ws/\ZQ W g 1=some XX/\ZQ W g 2=some V2/\ZQ W g 3=some V4/\ZQ W g 4=some UO/\ZQ W g 5=some T1/\g<W.heap.size:=⟨(H.below h H.lt).q0,(H.below h H.lt).q1,(H.below h H.lt).q2,(H.below h H.lt).q3,(H.below h H.lt).q4,(H.below h H.lt).q5,(H.below h H.lt).lt⟩
theorem Zv.d10{V W:World}{Ws XX V2 V4 UO T1 S1 RY O2 O1:Value}(H:Zv V g t #[Ws,XX,V2,V4,UO,T1,S1,RY,O2,O1])(h:Z6 V W):ZQ W g 0=some Ws/\ZQ W g 1=some XX/\ZQ W g 2=some V2/\ZQ W g 3=some V4/\ZQ W g 4=some UO/\ZQ W g 5=some T1/\ZQ W g 6=some S1/\ZQ W g 7=some RY/\ZQ W g 8=some O2/\ZQ W g 9=some O1/\g<W.heap.size:=⟨(H.below h H.lt).q0,(H.below h H.lt).q1,(H.below h H.lt).q2,(H.below h H.lt).q3,(H.below h H.lt).q4,(H.below h H.lt).q5,(H.below h H.lt).q6,(H.below h H.lt).q7,(H.below h H.lt).q8,(H.below h H.lt).q9,(H.below h H.lt).lt⟩
theorem Zv.grown{row:Option Nat}(h:Zv w g t cs)(Z8:w.grownBy w' row)(ZH:some g≠row):Zv w' g t cs:=(Z8.block g h.lt ZH).trans h
end
theorem below_drewN{B:Nat}{a w:World}(h:Below B a w)(n:Nat):Below B a (w.drewN n):=⟨h.os,h.tape,h.output,h.size,h.block⟩
theorem auy{a w:World}{row:Option Nat}(h:a.grownBy w row):a.grownBy w.drew row:=⟨h.os,h.tape,h.output,h.size,h.block⟩
theorem nG{a w:World}{row:Option Nat}(h:a.grownBy w row)(o:Obj):a.grownBy (w.alloc o) row:=
 ⟨h.os,h.tape,h.output,XJ h.size (by simp),λi hi Xq=>(Below.heap_alloc w o i (Vh hi h.size)).trans (h.block i hi Xq)⟩
theorem zi{a w:World}{g:Nat}(h:a.grownBy w (some g)){p:Addr}(hp:p.block=g\/a.heap.size<=p.block)(u:Value):a.grownBy (w.setCell p u) (some g):=
 ⟨h.os,h.tape,h.output,by simpa[World.setCell]using h.size,λi hi Xq=>(Below.heap_setCell w p u i (by
  grind)).trans (h.block i hi Xq)⟩
theorem gQ{a w:World}(h:Z6 a w)(row:Option Nat):a.grownBy w row:=⟨h.os,h.tape,h.output,h.size,λi hi _=>h.block i hi⟩
theorem adN{a b c:World}{row:Option Nat}(h:a.grownBy b row)(k:b.grownBy c row):a.grownBy c row:=
 ⟨k.os.trans h.os,k.tape.trans h.tape,k.output.trans h.output,XJ h.size k.size,λi hi Xq=>(k.block i (Vh hi h.size) Xq).trans (h.block i hi Xq)⟩
theorem A6{a b:World}{g:Nat}(h:a.grownBy b (some g)){B:Nat}(hB:B<=g)(afP:B<=a.heap.size):Below B a b:=
 ⟨h.os,h.tape,h.output,h.size,λi hi=>h.block i (by omega) (by grind)⟩
structure Env(S:List Nat)(Gf:TypeId)(A:Nat->Addr)(B:Nat)(w:World):Prop where
 var:∀g∈S,w.cell? ⟨g,0,none⟩=some (.iface Gf (.pointer (some (A g))))
 row:∀g∈S,∃c t,w.heap[(A g).block]?=some (.cells c t (0,0))
 lt:∀g∈S,g<B/\(A g).block<B
 ne:∀g∈S,∀h∈S,g≠h->A g≠A h
theorem Env.below{S:List Nat}{Gf:TypeId}{A:Nat->Addr}{B:Nat}{w w':World}(h:Env S Gf A B w)(Z8:Below B w w'):Env S Gf A B w' where
 var g ZH:=(Z8.cell (p:=⟨g,0,none⟩) (h.lt g ZH).1).trans (h.var g ZH)
 row g ZH:=by
  obtain⟨c,t,ZT⟩:=h.row g ZH;exact⟨c,t,(Z8.block _ (h.lt g ZH).2).trans ZT⟩
 lt:=h.lt
 ne:=h.ne
def fwd(l:Nat)(J:Act->World->Prop)(Q:Exit->Act->World->Prop):Exit->Act->World->Prop
 | .goto tB,a,w=>tB=l/\J a w
 |e,a,w=>Q e a w
section
variable {l:Nat} {J:Act->World->Prop} {Q:Exit->Act->World->Prop} {a:Act} {w:World}
@[go_sem] theorem ayK:fwd l J Q .normal a w=Q .normal a w:=rfl
@[go_sem] theorem ay0 (id:Nat):fwd l J Q (.exit id) a w=Q (.exit id) a w:=rfl
@[go_sem] theorem Jq:fwd l J Q .ret a w=Q .ret a w:=rfl
@[go_sem] theorem ay6 (lk:List PanicEntry):fwd l J Q (.panic lk) a w=Q (.panic lk) a w:=rfl
end
theorem Nr{P:Program}{a:Act}{w:World}{Q:Exit->Act->World->Prop}{c rest:Code}(l:Nat)(Yz:findLabel c l=some rest)(h:c.wp P (fwd l (λa w=>rest.wp P (Exit.noGoto Q) a w) Q) a w):(Code.scope c).wp P Q a w:=by
 refine wp_scope_jumps l (λa w=>rest.wp P (Exit.noGoto Q) a w) (λ_ _=>0) Yz (Code.wp_mono ?_ h) (λa w Pj=>Code.wp_mono ?_ Pj)
 ·intro e a w he
  cases e <;> exact he
 intro e a w he
 cases e with
 |goto tB=>exact(he:False).elim
 |_=>exact he
theorem n3{P:Program}{T:TypeId}(Yo:P.underlying T=some .string)(s:ByteArray)(lo hi:Int)(h:0<=lo/\lo<=hi/\hi<=s.size):
  ∀W,(Instr.slice T (.string s) (some (Z9 lo)) (some (Z9 hi)) none).run P W=.ok (.string (s.extract lo.toNat hi.toNat)) W:=by
 intro W;rw[run_slice_string_if W _ _ _ _ _ _ Yo,Y0 (by omega),Y0 (by omega)]
theorem adr(W:World)(e:TypeId)(s:ByteArray)(ZU:Nat)(HA:Nat×Nat)(j:Nat)(d:UInt8)(Zm:s.data.toList[j]?=some d):
  (W.alloc (.cells (bytesRow s ZU) e HA)).cell? ⟨W.heap.size,j,none⟩=some (.int .u8 (U.aa d)):=by
 rw[World.cell?_alloc_mark];have YO:=(R7 Zm).1;have awW:s.data[j]?=some d:=by grind
 unfold bytesRow;rw[Array.getElem?_append_left (by grind),Array.getElem?_map,awW]
 rfl
theorem wt(a:Nat)(YZ:a<9223372036854775808):(BitVec.ofInt 64 (a:Int)).toNat=a:=by
 grind
theorem ae1(a b:Nat)(YZ:a<9223372036854775808)(Z8:b<9223372036854775808):bits .and .i64 (a:Int) (b:Int)=((a &&& b:Nat):Int):=by
 have Z4:a &&& b<2^63:=Nat.and_lt_two_pow _ (by omega);show IntKind.i64.wrap ((BitVec.ofInt 64 (a:Int) &&& BitVec.ofInt 64 (b:Int)).toNat:Int)=_
 rw[BitVec.toNat_and,wt a YZ,wt b Z8,QN];omega
theorem aqR(a b:Nat)(YZ:a<9223372036854775808)(Z8:b<9223372036854775808):bits .or .i64 (a:Int) (b:Int)=((a ||| b:Nat):Int):=by
 have Z4:a ||| b<2^63:=Nat.or_lt_two_pow (by omega) (by omega)
 show IntKind.i64.wrap ((BitVec.ofInt 64 (a:Int) ||| BitVec.ofInt 64 (b:Int)).toNat:Int)=_
 rw[BitVec.toNat_or,wt a YZ,wt b Z8,QN];omega
theorem hZ(y:Int)(ZI:0<=y)(Z7:y<9223372036854775808):bits .and .i64 y 63=y%64:=by
 obtain⟨k,rfl⟩:=PY ZI;have:=ae1 k 63 (by omega) (by omega);rw[show((63:Nat):Int)=63 from rfl]at this;rw[this,show k &&& 63=k%64 from Nat.and_two_pow_sub_one_eq_mod k 6];omega
theorem akz(x z:Int)(ZI:0<=x)(Z7:x<4294967296)(Z5:0<=z)(ZS:z<64):bits .or .i64 (x*64) z=x*64+z:=by
 obtain⟨k,rfl⟩:=PY ZI;obtain⟨l,rfl⟩:=PY Z5;have:=aqR (2^6*k) l (by omega) (by omega);rw[<-Nat.two_pow_add_eq_or_of_lt (by omega) k]at this;grind
structure CW(Inv:World->Prop) where
 w:World
 h:Inv w
theorem OL{P:Program}{id:Nat}{Q:Exit->Act->World->Prop}{a:Act}{w:World}{l:List Oper}(Inv:World->Prop)(hm:P.follows .mixedOrders=true)(hB:Region.lexB .any l.toArray=true)(ZI:Inv w.drew)(h:Nonempty (CW Inv)->wpQuiet P l.toArray (λw'=>∃n:CW Inv,w'=n.w) (λOa=>∀w',(∃n:CW Inv,w'=n.w)->Q .normal Oa w') l a):(Code.region id l.toArray true).wp P Q a w:=
 wp_region_quiet (C:=λw'=>∃n:CW Inv,w'=n.w) hm hB ⟨⟨_,ZI⟩,rfl⟩ (by simpa using h ⟨⟨_,ZI⟩⟩)
theorem Kw{P:Program}{f:FuncId}{args:Array Value}{v:Value}{W:World}{Inv:World->Prop}(h:Calls P f args W λe w'=>e=.returned v/\Z6 W w')(UW:∀w',Z6 W w'->Inv w'):
  Calls P f args W λe Ep=>e=.returned v/\∃m:CW Inv,Ep=m.w:=h.mono λ_ _ ⟨he,Z8⟩=>⟨he,⟨_,UW _ Z8⟩,rfl⟩
section
open Go.Extern.Stop Go.Stop Go.Extern
theorem isTypeOf(v:Value)(w:World):(callFunc 232 #[.iface 448 v]).run prog w=.ok (.value (.iface 351 (.agg #[.pointer (some ⟨16,448,none⟩)]))) w:=by kernel_rfl
theorem isComparable(w:World):(callFunc 382 #[.agg #[.pointer (some ⟨16,448,none⟩)]]).run prog w=.ok (.value (.bool true)) w:=by kernel_rfl
theorem isMethodComparable(v:Value)(w:World):(Go.method 579 351 v "Comparable").run prog w=.ok (382,v) w:=by kernel_rfl
theorem isComp:(prog.info? 448).map (·.comparable)=some true:=by kernel_rfl
theorem isSize:(prog.info? 467).map (·.size)=some 1:=by kernel_rfl
theorem noIsE(v:Value)(Bw:TypeId)(w:World):(Instr.typeAssert (.iface 448 v) Bw 375 true).run prog w=.ok (.tuple #[.nilIface,.bool false]) w:=run_typeAssert_lacksB underlying375 (by kernel_rfl) (by kernel_rfl) v Bw w
theorem noUnwrapE(v:Value)(Bw:TypeId)(w:World):(Instr.typeAssert (.iface 448 v) Bw 358 true).run prog w=.ok (.tuple #[.nilIface,.bool false]) w:=run_typeAssert_lacksB underlying358 (by kernel_rfl) (by kernel_rfl) v Bw w
theorem noUnwrapsE(v:Value)(Bw:TypeId)(w:World):(Instr.typeAssert (.iface 448 v) Bw 360 true).run prog w=.ok (.tuple #[.nilIface,.bool false]) w:=run_typeAssert_lacksB underlying360 (by kernel_rfl) (by kernel_rfl) v Bw w
theorem is_same(a:Addr)(w:World):
  Calls prog 148 #[.iface 448 (.pointer (some a)),.iface 448 (.pointer (some a))] w λe w'=>e=.returned (.bool true)/\w=w':=by
 obtain⟨i,hi,zY⟩:=NU.1 isComp;obtain⟨j,YO,ago⟩:=NU.1 isSize;have ax6:=isTypeOf;have awt:=isComparable;have axR:=isMethodComparable;have Jf:=run_eql_iface_ptr_same (P:=prog) w a underlying87 underlying448 hi zY YO
 go_in
 go_wp2
 refine wp_loop_rounds 1 ?_;rw[rounds_succ]
 go_wp2
 go_ret
 simp
theorem is_other(a b:Addr)(ca YQ:Array Value)(VR tb:TypeId)(w:World)(Xq:a≠b)(YZ:w.heap[a.block]?=some (.cells ca VR (0,0)))(Z8:w.heap[b.block]?=some (.cells YQ tb (0,0))):
  Calls prog 148 #[.iface 448 (.pointer (some a)),.iface 448 (.pointer (some b))] w λe w'=>e=.returned (.bool false)/\w=w':=by
 obtain⟨i,hi,zY⟩:=NU.1 isComp;obtain⟨j,YO,ago⟩:=NU.1 isSize;have ax6:=isTypeOf;have awt:=isComparable;have axR:=isMethodComparable;have aAI:=noIsE;have aAV:=noUnwrapE;have aAW:=noUnwrapsE;have Jf:=run_eql_iface_ptr_other (P:=prog) w underlying87 underlying448 hi zY YO (by omega) Xq YZ Z8
 go_in
 go_wp2
 refine wp_loop_rounds 1 ?_;rw[rounds_succ]
 go_wp2
 go_ret
 simp
end
def yC:List Nat:=[
 0,
 1,
 2,
 3,
 4,
 5,
 8,
 9,
 11,
 13,
 12,
 ]
def E(A:Nat->Addr)(B:Nat)(w:World):Prop:=Env yC 448 A B w
def PE(A:Nat->Addr)(g:Nat):Value:=.iface 448 (.pointer (some (A g)))
theorem E.below{A:Nat->Addr}{B:Nat}{w w':World}(h:E A B w)(Z8:Below B w w'):E A B w':=Env.below h Z8
theorem E.cell{A:Nat->Addr}{B:Nat}{w:World}(h:E A B w)(g:Nat)(ZH:g∈yC):w.cell? ⟨g,0,none⟩=some (.iface 448 (.pointer (some (A g)))):=h.var g ZH
theorem w2{S:List Nat}{A:Nat->Addr}{B:Nat}{w:World}(h:Env S 448 A B w)(g k:Nat)(ZH:g∈S)(Z3:k∈S):
  Calls prog 148 #[.iface 448 (.pointer (some (A g))),.iface 448 (.pointer (some (A k)))] w λe w'=>e=.returned (.bool (g==k))/\w=w':=by
 by_cases e:g=k
 ·subst e
  simpa using is_same (A g) w
 obtain⟨ca,VR,YZ⟩:=h.row g ZH;obtain⟨YQ,tb,Z8⟩:=h.row k Z3;have:=is_other (A g) (A k) ca YQ VR tb w (h.ne g ZH k Z3 e) YZ Z8;rw[Sz.2 e];exact this
theorem amJ{A:Nat->Addr}{B:Nat}{w:World}(h:E A B w)(g k:Nat)(ZH:g∈yC)(Z3:k∈yC):
  Calls prog 148 #[.iface 448 (.pointer (some (A g))),.iface 448 (.pointer (some (A k)))] w λe w'=>e=.returned (.bool (g==k))/\w=w':=w2 h g k ZH Z3
theorem m4{S iv:List Nat}{T:TypeId}{A:Nat->Addr}{B:Nat}{w:World}(h:Env S T A B w)(Z0:∀g∈iv,g∈S):Env iv T A B w:=
 ⟨λg ZH=>h.var g (Z0 g ZH),λg ZH=>h.row g (Z0 g ZH),λg ZH=>h.lt g (Z0 g ZH),λg ZH k Z3=>h.ne g (Z0 g ZH) k (Z0 k Z3)⟩
section
open Go.ChangeShapes
abbrev Sent:=String×Nat×List UInt8
def mM(nm:String)(x:Sent):String×DataW Unit:=(x.1,.iface nm (.ptr (.agg [.lit (.string x.2.2)])))
section
variable {P:Program} {nm:String} {W:World} {ti tt te ts:TypeId} {ms:Array (String×TypeId)} {f:Field}
theorem adK(hi:P.underlying ti=some (.interface ms))(V7:∀u,P.typeName? 3 u=some nm->u=tt)(hp:P.underlying tt=some (.pointer te))(he:P.underlying te=some (.struct #[f]))(zX:f.type=ts)(EI:f.offset=0)(Z0:P.underlying ts=some .string)(ZL:P.cellsOf te=1)(Tg:P.cellsOf ts=1):
  ∀(L:List Sent)(ps:List MemPlace),DataW.LaidVars P W (L.map (mM nm)) ps->ps.Nodup->
   (∀b off,MemPlace.cell b off∈ps->(∃c t,W.heap[b]?=some (.cells c t (0,0)))/\∀u v,ZQ W b off=some (.iface u v)->Value.okWide P W .any 0 u v)->
   (∀x∈L,P.globalNamed x.1=some x.2.1/\(P.globals[x.2.1]?).map (·.type)=some ti)->
   ∃A:Nat->Addr,(∀x∈L,ZQ W x.2.1 0=some (.iface tt (.pointer (some (A x.2.1))))/\(∃c t,W.heap[(A x.2.1).block]?=some (.cells c t (0,0)))/\(A x.2.1).block<W.heap.size/\MemPlace.cell (A x.2.1).block (A x.2.1).off∈ps)/\
    ∀x∈L,∀y∈L,x.2.1≠y.2.1->A x.2.1≠A y.2.1
 |[],_,_,_,_,_=>⟨λ_=>⟨0,0,none⟩,λx Z4=>absurd Z4 RH,λx Z4=>absurd Z4 RH⟩
 |Ws::L,ps,Z2,BI,pE,ZH=>by
  obtain⟨g0,t0,awv,f0,p0,q0,Jd,MC,ag5,ue,Tq,Wz⟩:=Z2;obtain⟨aw1,C2⟩:=ZH Ws (Pw ..);obtain rfl:=Option.some.inj (aw1.symm.trans Jd);obtain rfl:=Option.some.inj (C2.symm.trans MC);subst Wz;obtain⟨S4⟩:=awv;have axS:∀u v,S4=[.iface u v]->Value.okWide P W .any 0 u v:=λu v e=>by
   subst e;exact(pE Ws.2.1 0 (by simp[MemPlace.row])).2 u v (by simpa using World.var?_cell Jd ag5 0)
  obtain⟨a0,s0,rfl,Vl,jV,Vs,rfl⟩:=errorString_of_trod hi V7 hp he zX EI Z0 ZL Tg ue axS;have aga:ZQ W Ws.2.1 0=some (.iface tt (.pointer (some a0))):=by simpa using World.var?_cell Jd ag5 0
  have RV:MemPlace.cell a0.block a0.off∈MemPlace.row ⟨Ws.2.1,0,none⟩ ([Value.iface tt (.pointer (some a0))].toArray).size++MemPlace.row a0 1++q0:=by simp[MemPlace.row]
  obtain⟨A,Z7,Z5⟩:=adK hi V7 hp he zX EI Z0 ZL Tg L q0 Tq (List.Nodup.sublist (List.sublist_append_right _ _) BI) (λb off hm=>pE b off (List.mem_append_right _ hm)) (λx Z4=>ZH x (Oj _ Z4));have aAq:=World.cell?_spot Vl;have OG:∀y∈L,a0≠A y.2.1:=by
   grind[List.nodup_append,MemPlace.row]
  have aAc:(∃c t,W.heap[a0.block]?=some (.cells c t (0,0)))/\a0.block<W.heap.size:=by
   grind
  by_cases Hu:∃y∈L,y.2.1=Ws.2.1
  ·-- the same variable twice: its place would be met twice
   grind
  have Xq:∀y∈L,y.2.1≠Ws.2.1:=λy ZJ e=>Hu ⟨y,ZJ,e⟩
  refine⟨λg=>if g=Ws.2.1 then a0 else A g,λx Z4=>?_,λx Z4 y ZJ Hm=>?_⟩
  ·rcases T7.1 Z4 with rfl|Z4
   ·grind
   grind
  rcases T7.1 Z4 with rfl|zF <;> rcases T7.1 ZJ with rfl|aAy
  ·omega
  ·grind
  ·grind
  grind
end
theorem asw{nm:String}{W:World}{ti te ts:TypeId}{ms:Array (String×TypeId)}{f:Field}(hi:prog.underlying ti=some (.interface ms))(V7:∀u,prog.typeName? 3 u=some nm->u=448)(hp:prog.underlying 448=some (.pointer te))(he:prog.underlying te=some (.struct #[f]))(zX:f.type=ts)(EI:f.offset=0)(Z0:prog.underlying ts=some .string)(ZL:prog.cellsOf te=1)(Tg:prog.cellsOf ts=1)(L:List Sent)(ZH:∀x∈L,prog.globalNamed x.1=some x.2.1/\(prog.globals[x.2.1]?).map (·.type)=some ti)(WE:laidMet prog (L.map (mM nm)) W):∃A:Nat->Addr,Env (L.map (·.2.1)) 448 A W.heap.size W:=by
 obtain⟨ps,Z2,BI,pE⟩:=WE;obtain⟨A,Z7,Z5⟩:=adK hi V7 hp he zX EI Z0 ZL Tg L ps Z2 BI pE ZH;have hS:∀g∈L.map (·.2.1),∃x∈L,x.2.1=g:=λg hm=>SL.1 hm
 refine⟨A,λg hm=>?_,λg hm=>?_,λg hm=>?_,λg hm k Z3 V8=>?_⟩
 ·grind
 ·grind
 ·obtain⟨x,Z4,rfl⟩:=hS g hm;exact⟨World.block_lt_of_cell? _ _ (Z7 x Z4).1,(Z7 x Z4).2.2.1⟩
 grind
end
namespace N
abbrev Item:=Int×Int
def yA:List Item->Nat->Nat
 |[],n=>2^n
 |x::t,n=>if x.2=0 then 2^n else 2^n ||| yA t (n+2)
def clo(l:List Item)(n:Nat):Nat:=if n%2=1 then 2^n else yA (l.drop (n/2)) n
def aV(set c:Int):Bool:=decide (0<=set)&&decide (set<4294967296)&&decide (0<=c)&&decide (c<32)&&decide (set.toNat.testBit c.toNat=true)
def setAt(l:List Item)(i:Nat):Int:=(l.getD i (0,0)).1
def aJ(l:List Item)(i:Nat):Int:=(l.getD i (0,0)).2
def goto(l:List Item)(n:Nat):Nat:=if n%2=1 then n-1 else if aJ l (n/2)=0 then n+2 else if aJ l (n/2)=1 then n else n+1
def goes(l:List Item)(S:Nat)(c:Int)(n:Nat):Bool:=S.testBit n&&aV (setAt l (n/2)) c
def fill(l:List Item)(S:Nat)(c:Int)(init:Nat)(k:Nat):Nat:=(List.range k).foldl (λout n=>if goes l S c n=true then out ||| clo l (goto l n)else out) init
def init(l:List Item)(start:Bool):Nat:=if start then 0 else clo l 0
def step(l:List Item)(start:Bool)(S:Nat)(c:Int):Nat:=fill l S c (init l start) (2*l.length)
def most(l:List Item):Nat:=2^(2*l.length+1)-1
def fL(l:List Item)(S:Nat):Bool:=S.testBit (2*l.length)
theorem ej(l:List Item)(S:Nat)(c:Int)(a k:Nat):fill l S c a (k+1)=if goes l S c k=true then fill l S c a k ||| clo l (goto l k)else fill l S c a k:=by
 simp[fill,List.range_succ,List.foldl_append]
theorem acB(l:List Item)(S:Nat)(c:Int)(a b:Nat):∀k,fill l S c (a ||| b) k=fill l S c a k ||| b
 |0=>rfl
 |k+1=>by
  rw[ej,ej,acB l S c a b k]
  grind
theorem ajW(l:List Item)(S:Nat)(c:Int)(b k:Nat):fill l S c 0 k ||| b=fill l S c b k:=by
 have:=acB l S c 0 b k;grind
theorem alA(l:List Item):∀n k,n+2*l.length<=k->yA l n<2^(k+1):=by
 induction l with
 |nil=>intro n k h;exact Nat.pow_lt_pow_right (by omega) (by omega)
 |cons x t XZ=>
  intro n k h;simp only[U3]at h;have ZI:2^n<2^(k+1):=Nat.pow_lt_pow_right (by omega) (by omega);unfold yA
  split
  ·exact ZI
  exact Nat.or_lt_two_pow ZI (XZ (n+2) k (by omega))
theorem e7(l:List Item)(n:Nat)(h:n<=2*l.length):clo l n<2^(2*l.length+1):=by
 unfold clo
 split
 ·exact Nat.pow_lt_pow_right (by omega) (by omega)
 exact alA _ _ _ (by grind)
theorem aaA(l:List Item)(n:Nat)(h:n<2*l.length):goto l n<=2*l.length:=by
 grind[goto]
theorem eY(l:List Item)(S:Nat)(c:Int)(a:Nat)(YZ:a<2^(2*l.length+1)):∀k,k<=2*l.length->fill l S c a k<2^(2*l.length+1)
 |0,_=>YZ
 |k+1,h=>by
  rw[ej];have XZ:=eY l S c a YZ k (by omega)
  split
  ·exact Nat.or_lt_two_pow XZ (e7 l _ (aaA l k (by omega)))
  exact XZ
theorem arh(l:List Item)(start:Bool):init l start<2^(2*l.length+1):=by
 unfold init
 split
 ·grind
 exact e7 l 0 (by omega)
theorem as0(l:List Item)(start:Bool)(S:Nat)(c:Int):step l start S c<2^(2*l.length+1):=eY l S c _ (arh l start) _ Ys
end N
def setB(set:Int):Bool:=decide (0<=set)&&decide (set<4294967296)
theorem qp(k:Nat)(h:k<=40):(2:Int)^k<=1099511627776:=by
 have Z5:2^k<=2^40:=Nat.pow_le_pow_right (by omega) h;grind
theorem mi(n:Nat)(w:World)(ZP:n<=40):
  Calls prog 300 #[Z9 n] w λe w'=>e=.returned (Z9 ((2^n:Nat):Int))/\w=w':=by
 go_in
 go_wp2
 go_loop[4,3] (λi o=>∃(k:Nat)(x:Int),k<=n/\i=Z9 k/\o=Z9 x/\0<=x/\x<=1099511627776/\Box (x=2^k)) (λi _=>n-(intOf i).toNat)
 ·exact⟨0,1,by omega,rfl,rfl,by omega,by omega,⟨rfl⟩⟩
 obtain⟨k,x,Z3,rfl,rfl,Hn,KX,Z4⟩:=hrel
 by_cases Zu:k<n
 ·have Z5:=qp (k+1) (by omega);have YD:=bx (show 2*x=2^(k+1) by rw[Z4.o,Int.pow_succ];omega);have Wn:=bx (show 2*x<=1099511627776 by rw[YD.o];exact Z5);clear Z5
  go_wp2
  go_round
  ·exact⟨k+1,2*x,Zu,by go_num,rfl,by omega,Wn.o,YD⟩
  grind[intOf]
 obtain rfl:k=n:=by omega
 go_wp2
 go_ret
 exact⟨by rw[Z4.o];simp,rfl⟩
theorem qM(n:Nat)(w:World)(ZP:n<=40):
  Calls prog 321 #[Z9 n] w λe w'=>e=.returned (Z9 ((2^n:Nat):Int))/\w=w':=by
 go_in
 go_wp2
 go_loop[4,3] (λi o=>∃(k:Nat)(x:Int),k<=n/\i=Z9 k/\o=Z9 x/\0<=x/\x<=1099511627776/\Box (x=2^k)) (λi _=>n-(intOf i).toNat)
 ·exact⟨0,1,by omega,rfl,rfl,by omega,by omega,⟨rfl⟩⟩
 obtain⟨k,x,Z3,rfl,rfl,Hn,KX,Z4⟩:=hrel
 by_cases Zu:k<n
 ·have Z5:=qp (k+1) (by omega);have YD:=bx (show 2*x=2^(k+1) by rw[Z4.o,Int.pow_succ];omega);have Wn:=bx (show 2*x<=1099511627776 by rw[YD.o];exact Z5);clear Z5
  go_wp2
  go_round
  ·exact⟨k+1,2*x,Zu,by go_num,rfl,by omega,Wn.o,YD⟩
  grind[intOf]
 obtain rfl:k=n:=by omega
 go_wp2
 go_ret
 exact⟨by rw[Z4.o];simp,rfl⟩
theorem qo(set:Int)(w:World):
  Calls prog 324 #[Z9 set,Z9 32] w λe w'=>e=.returned (.bool (setB set))/\w=w':=by
 unfold setB
 by_cases ZI:0<=set
 ·go_in
  go_wp2
  all_goals go_ret
  all_goals refine⟨YG ?_,rfl⟩
  grind
 go_in
 go_wp2
 go_ret
 exact⟨YG (by grind),rfl⟩
theorem and_1(x:Int)(ZI:0<=x)(Z7:x<9223372036854775808):bits .and .i64 x 1=x%2:=by
 obtain⟨k,rfl⟩:=PY ZI;have:=ae1 k 1 (by omega) (by omega);grind
theorem acq(S n:Nat)(h:S<9223372036854775808):(bits .and .i64 ((S:Int)/2^n) 1==1)=S.testBit n:=by
 have Zm:(S:Int)/2^n=((S/2^n:Nat):Int):=by simp
 have LG:S/2^n<=S:=Nat.div_le_self _ _;rw[Zm,Nat.testBit_eq_decide_div_mod_eq];generalize S/2^n=z at LG;rw[and_1 _ (by omega) (by omega),Lx];grind
theorem gL(set n:Int)(w:World):Calls prog 309 #[Z9 set,Z9 n] w λe w'=>e=.returned (.bool (N.aV set n))/\w=w':=by
 unfold N.aV
 by_cases Z0:setB set=true
 ·have Xe:=bx Z0;unfold setB at Z0;simp only[Vm,SS]at Z0;obtain⟨ZI,Z7⟩:=Z0
  by_cases ZP:0<=n/\n<32
  ·obtain⟨Z5,ZS⟩:=ZP
   go_in
   go_wp2_with fail;refine YW (qo set _) ?_;rw[Xe.o]
   go_wp2
   go_ret
   refine⟨YG ?_,rfl⟩;grind[acq]
  have Jb:n<0\/(0<=n/\32<=n):=by omega
  rcases Jb with h|⟨h,TB⟩
  all_goals
   go_in
   go_wp2_with fail;refine YW (qo set _) ?_;rw[Xe.o]
   go_wp2
   go_ret
   refine⟨YG ?_,rfl⟩;grind
 have Xe:=bx (show setB set=false by grind)
 go_in
 go_wp2_with fail;refine YW (qo set _) ?_;rw[Xe.o]
 go_wp2
 go_ret
 refine⟨YG ?_,rfl⟩;grind[setB]
theorem Az(set:Int)(w:World):
  Calls prog 298 #[Z9 set,Z9 32] w λe w'=>e=.returned (.bool (setB set))/\w=w':=by
 unfold setB
 by_cases ZI:0<=set
 ·go_in
  go_wp2_with fail;refine YW (qM 32 _ (by omega)) ?_
  go_wp2
  go_ret
  simp_all
 go_in
 go_wp2
 go_ret
 exact⟨YG (by grind),rfl⟩
theorem oy(S n:Nat):((S:Int)/((2^n:Nat):Int)%2==1)=S.testBit n:=by
 grind
theorem mR(S q:Nat):0<=(S:Int)/(q:Int)/\(S:Int)/(q:Int)<=S:=by
 have h:=Nat.div_le_self S q;grind
theorem yj(set n:Int)(w:World):Calls prog 322 #[Z9 set,Z9 n] w λe w'=>e=.returned (.bool (N.aV set n))/\w=w':=by
 unfold N.aV
 by_cases Z0:setB set=true
 ·have Xe:=bx Z0;unfold setB at Z0;simp only[Vm,SS]at Z0;obtain⟨ZI,Z7⟩:=Z0
  by_cases ZP:0<=n/\n<32
  ·obtain⟨Z5,ZS⟩:=ZP;obtain⟨m,rfl⟩:=PY Z5;have hp:=Nat.two_pow_pos m;obtain⟨q,Zs⟩:∃q,2^m=q:=⟨_,rfl⟩
   have tL:0<q:=by omega
   have Xy:=bx Zs;obtain⟨S,rfl⟩:=PY ZI;obtain⟨d0,d1⟩:=mR S q;have d2:(S:Int)/(q:Int)<4294967296:=by omega
   clear Zs hp
   go_in
   go_wp2_with fail;refine YW (Az S _) ?_;rw[Xe.o];go_wp2_with fail;refine YW (qM m _ (by omega)) ?_;rw[Xy.o]
   go_wp2
   go_ret
   refine⟨YG ?_,rfl⟩;rw[<-Xy.o,oy];grind
  have Jb:n<0\/(0<=n/\32<=n):=by omega
  rcases Jb with h|⟨h,TB⟩
  all_goals
   go_in
   go_wp2_with fail;refine YW (Az set _) ?_;rw[Xe.o]
   go_wp2
   go_ret
   refine⟨YG ?_,rfl⟩;grind
 have Xe:=bx (show setB set=false by grind)
 go_in
 go_wp2_with fail;refine YW (Az set _) ?_;rw[Xe.o]
 go_wp2
 go_ret
 refine⟨YG ?_,rfl⟩;grind[setB]
theorem Cd(S n:Nat)(w:World)(ZP:n<=40)(hS:S<4611686018427387904):Calls prog 299 #[Z9 S,Z9 n] w λe w'=>e=.returned (.bool (S.testBit n))/\w=w':=by
 have hp:=Nat.two_pow_pos n;obtain⟨q,Zs⟩:∃q,2^n=q:=⟨_,rfl⟩
 have tL:0<q:=by omega
 have Xy:=bx Zs;obtain⟨d0,d1⟩:=mR S q;have d2:(S:Int)/(q:Int)<4611686018427387904:=by omega
 clear Zs hp
 go_in
 go_wp2_with fail;refine YW (mi n _ ZP) ?_;rw[Xy.o]
 go_wp2
 go_ret
 refine⟨YG ?_,rfl⟩;rw[<-Xy.o,oy]
def VA(w:World)(v:Value)(l:List N.Item):Prop:=
 (v=Z1/\l=[])\/∃b off sp ZU,v=.slice (some ⟨b,off,sp⟩) l.length ZU/\l.length<=ZU/\ZU<=maxLen/\
  (l≠[]->sp=none/\b<w.heap.size/\∀i x,l[i]?=some x->w.cell? ⟨b,off+i*2,none⟩=some (Z9 x.1)/\w.cell? ⟨b,off+i*2+1,none⟩=some (Z9 x.2))
theorem VA.below{w w':World}{v:Value}{l:List N.Item}(h:VA w v l)(Z8:Z6 w w'):VA w' v l:=by
 rcases h with h|⟨b,off,sp,ZU,Z7,Z5,ZS,ZG⟩
 ·exact .inl h
 exact .inr ⟨b,off,sp,ZU,Z7,Z5,ZS,λZP=>⟨(ZG ZP).1,Vh (ZG ZP).2.1 Z8.size,λi x Z4=>
  ⟨(Z8.cell (p:=⟨b,off+i*2,none⟩) (ZG ZP).2.1).trans ((ZG ZP).2.2 i x Z4).1,(Z8.cell (p:=⟨b,off+i*2+1,none⟩) (ZG ZP).2.1).trans ((ZG ZP).2.2 i x Z4).2⟩⟩⟩
theorem VA.get{w:World}{v:Value}{l:List N.Item}(h:VA w v l)(ZP:l≠[]):
  ∃b off ZU,v=.slice (some ⟨b,off,none⟩) l.length ZU/\l.length<=ZU/\ZU<=maxLen/\b<w.heap.size/\
   ∀i x,l[i]?=some x->w.cell? ⟨b,off+i*2,none⟩=some (Z9 x.1)/\w.cell? ⟨b,off+i*2+1,none⟩=some (Z9 x.2):=by
 rcases h with⟨_,h⟩|⟨b,off,sp,ZU,Z7,Z5,ZS,ZG⟩
 ·grind
 grind
theorem VA.slice{w:World}{v:Value}{l:List N.Item}(h:VA w v l):∃a ZU,v=.slice a l.length ZU:=by
 rcases h with⟨rfl,rfl⟩|⟨b,off,sp,ZU,rfl,_⟩
 ·simp
 simp
def Ny(x:N.Item):Bool:=setB x.1&&decide (0<=x.2)&&decide (x.2<=2)
def Ss(l:List N.Item):Bool:=decide (l.length<=10)&&l.all Ny
theorem fd(x:N.Item)(Ut:Nat)(w:World)(ZP:w.cell? ⟨Ut,0,none⟩=some (Z9 32))(Zu:Ut<w.heap.size):
  Calls prog 323 #[.agg #[Z9 x.1,Z9 x.2],Zn Ut] w λe w'=>e=.returned (.bool (!Ny x))/\Z6 w w':=by
 obtain⟨set,how⟩:=x;unfold Ny;have Z8:∀S3 RZ,Z6 w ((w.alloc S3).alloc RZ):=λS3 RZ=>(YU.alloc Ys _).alloc (by simp) _
 go_in
 rcases PX how 0 with h|h
 ·go_wp2
  go_ret
  simp_all
 rcases PX 2 how with Z5|Z5
 ·go_wp2
  go_ret
  simp_all
 have YT:=World.cell?_alloc_old;go_wp2_with (go_at_call 324;refine YW (qo _ _) ?_)
 go_ret
 simp_all
theorem gw(l:List N.Item)(k:Nat)(x:N.Item)(h:l[k]?=some x)(YZ:(l.take k).all Ny=true)(Z4:Ny x=true):(l.take (k+1)).all Ny=true:=by
 rw[Uo,h,List.all_append,YZ];simp[Z4]
theorem qm(l:List N.Item)(k:Nat)(x:N.Item)(h:l[k]?=some x)(Z4:Ny x=false):l.all Ny=false:=by
 grind
theorem apX(v:Value)(l:List N.Item)(Ut:Nat)(w:World)(Z2:VA w v l)(ZY:l.length<=16777216)(ZP:w.cell? ⟨Ut,0,none⟩=some (Z9 32))(Zu:Ut<w.heap.size):
  Calls prog 333 #[v,.func (.func 323) #[] #[Zn Ut]] w λe w'=>(∃i:Int,e=.returned (Z9 i)/\decide (0<=i)=!l.all Ny)/\Z6 w w':=by
 have Qv:=bx Z2;obtain⟨XH,ZU,rfl⟩:=Z2.slice;clear Z2;have ZE:=bx ZP;clear ZP
 go_in
 go_wp2
 go_loopw[8] (λi wr=>∃k:Nat,k<=l.length/\i=Z9 k/\Box ((l.take k).all Ny=true)/\Box (Z6 w wr)) (λi _=>l.length-(intOf i).toNat)
 ·exact⟨0,by omega,rfl,⟨rfl⟩,⟨Below.refl _ _⟩⟩
 obtain⟨k,Z3,rfl,YZ,Z8⟩:=hrel
 by_cases Uf:k<l.length
 ·obtain⟨x,Z4⟩:∃x,l[k]?=some x:=⟨_,SA Uf⟩
  have YD:=bx Z4;obtain⟨g,off,XV,Y5,XL,Yi,XB,YX⟩:=(Qv.o.below Z8.o).get (by grind);obtain⟨rfl,rfl⟩:=XN Y5;obtain⟨W2,VM⟩:=YX k x Z4;unfold maxLen at Yi;have Ec:=bx ((Z8.o.cell (p:=⟨Ut,0,none⟩) Zu).trans ZE.o);have UI:=bx (Vh Zu Z8.o.size);clear Z4 Y5 YX
  cases hi:Ny x with
  |true=>
   have Y8:=bx (gw l k x YD.o YZ.o hi);have YE:=bx (show(!Ny x)=false by grind);clear hi;go_wp2_with fail;refine(fd x Ut _ Ec.o UI.o).mono ?_;rintro e ZV ⟨rfl,ZZ⟩;rw[YE.o];have ZW:=bx (bt Z8.o ZZ);clear ZZ
   go_wp2
   go_roundw
   ·exact⟨k+1,Uf,by go_num,Y8,ZW⟩
   grind[intOf]
  |false=>
   have Y8:=bx (qm l k x YD.o hi);have YE:=bx (show(!Ny x)=true by grind);clear hi;go_wp2_with fail;refine(fd x Ut _ Ec.o UI.o).mono ?_;rintro e ZV ⟨rfl,ZZ⟩;rw[YE.o]
   go_wp2
   go_ret
   exact⟨⟨k,rfl,by rw[Y8.o];simp⟩,bt Z8.o ZZ⟩
 have Y8:=bx (show l.all Ny=true by have:=YZ.o;grind)
 go_wp2
 go_ret
 exact⟨⟨-1,rfl,by rw[Y8.o];rfl⟩,Z8.o⟩
theorem avM(v:Value)(l:List N.Item)(Ut:Nat)(w:World)(Z2:VA w v l)(ZY:l.length<=16777216)(ZP:w.cell? ⟨Ut,0,none⟩=some (Z9 32))(Zu:Ut<w.heap.size):
  Calls prog 325 #[v,.func (.func 323) #[] #[Zn Ut]] w λe w'=>e=.returned (.bool (!l.all Ny))/\Z6 w w':=by
 have YE:=bx (apX v l Ut w Z2 ZY ZP Zu);clear Z2 ZP
 go_in
 go_wp2_with fail;refine YE.o.mono ?_;rintro e ZV ⟨⟨i,rfl,hi⟩,Z8⟩;have YD:=bx hi;clear hi
 go_wp2
 go_ret
 exact⟨YG (by simpa using YD.o),Z8⟩
theorem amd(st:Bool)(v:Value)(l:List N.Item)(w:World)(Z2:VA w v l)(ZY:l.length<=16777216):
  Calls prog 305 #[.agg #[.bool st,v],Z9 32] w λe w'=>e=.returned (.bool (Ss l))/\Z6 w w':=by
 unfold Ss;have hw:Z6 w ((w.alloc (.cells #[.bool st,v] 252)).alloc (.cells #[Z9 32] 3)):=(YU.alloc Ys _).alloc (by simp) _;have TW:=bx hw;have ZN:=bx (Z2.below hw);have ZE:=bx (show((w.alloc (.cells #[.bool st,v] 252)).alloc (.cells #[Z9 32] 3)).cell? ⟨w.heap.size+1,0,none⟩=some (Z9 32) by
  simp)
 obtain⟨XH,ZU,rfl⟩:=Z2.slice;clear Z2 hw
 by_cases hl:l.length<=10
 ·go_in
  go_wp2_with fail;refine Y3 (avM _ l (w.heap.size+1) _ ZN.o ZY ZE.o (by simp)) λZV Z8=>?_
  have V3:=bx Z8;clear Z8
  go_wp2
  go_ret
  exact⟨YG (by simp[hl]),bt TW.o V3.o⟩
 have pK:10<l.length:=by omega
 go_in
 go_wp2
 go_ret
 exact⟨YG (by simp),TW.o⟩
theorem uz(st:Bool)(v:Value)(l:List N.Item)(w:World)(Z2:VA w v l)(ZY:l.length<=16777216):
  Calls prog 260 #[.agg #[.bool st,v],Z9 32] w λe w'=>e=.returned (.bool (Ss l))/\Z6 w w':=by
 have Qv:=bx Z2;obtain⟨XH,ZU,rfl⟩:=Z2.slice;clear Z2;have ZR:=bx (Zv.new w 252 #[.bool st,.slice XH l.length ZU]);have Ox:=bx (((Below.refl w.heap.size w).alloc Ys (.cells #[.bool st,.slice XH l.length ZU] 252)))
 go_in
 go_wp2
 go_loopw[5] (λi wr=>∃k:Nat,k<=l.length/\i=Z9 k/\Box ((l.take k).all Ny=true)/\Zv wr w.heap.size 252 #[.bool st,.slice XH l.length ZU]/\Box (Z6 w wr)) (λi _=>l.length-(intOf i).toNat)
 ·exact⟨0,by omega,rfl,⟨rfl⟩,ZR.o,Ox⟩
 obtain⟨k,Z3,rfl,YZ,XY,Z8⟩:=hrel;have c1:=XY.q1;have LH:=XY.lt;have WH:=bx XY;clear XY
 by_cases Zu:k<l.length
 ·obtain⟨x,Z4⟩:=Yg l k Zu;have YD:=bx Z4;obtain⟨g,off,XV,Y5,XL,Yi,XB,YX⟩:=(Qv.o.below Z8.o).get (by grind);obtain⟨rfl,rfl⟩:=XN Y5;obtain⟨W2,VM⟩:=YX k x Z4;unfold maxLen at Yi;have T0:=bx (λo=>Z8.o.alloc Z8.o.size o);clear Z4 Y5 YX;obtain⟨set,how⟩:=x
  cases Z0:setB set with
  |true=>
   have Xe:=bx Z0
   rcases PX how 0 with h|h
   ·have Y8:=bx (show Ss l=false by unfold Ss;rw[qm l k _ YD.o (by grind[Ny])];simp);clear Z0;go_wp2_with fail;refine YW (Az _ _) ?_;rw[Xe.o]
    go_wp2
    go_ret
    exact⟨by rw[Y8.o];rfl,T0.o _⟩
   rcases PX 2 how with Z5|Z5
   ·have Y8:=bx (show Ss l=false by unfold Ss;rw[qm l k _ YD.o (by grind[Ny])];simp);clear Z0;go_wp2_with fail;refine YW (Az _ _) ?_;rw[Xe.o]
    go_wp2
    go_ret
    exact⟨by rw[Y8.o];rfl,T0.o _⟩
   have Y8:=bx (gw l k _ YD.o YZ.o (show Ny (set,how)=true by grind[Ny]));clear Z0;go_wp2_with fail;refine YW (Az _ _) ?_;rw[Xe.o]
   go_wp2
   go_roundw
   ·exact⟨k+1,Zu,by go_num,Y8,WH.o.alloc _,⟨T0.o _⟩⟩
   grind[intOf]
  |false=>
   have Xe:=bx Z0;have Y8:=bx (show Ss l=false by unfold Ss;rw[qm l k _ YD.o (by grind[Ny])];simp);clear Z0;go_wp2_with fail;refine YW (Az _ _) ?_;rw[Xe.o]
   go_wp2
   go_ret
   exact⟨by rw[Y8.o];rfl,T0.o _⟩
 have Y8:=bx (show l.all Ny=true by have:=YZ.o;grind)
 go_wp2
 go_ret
 refine⟨YG ?_,Z8.o⟩;unfold Ss;rw[Y8.o,Lx];grind
theorem VA.take{w:World}{XH:Option Addr}{ZU:Nat}{l:List N.Item}(h:VA w (.slice XH l.length ZU) l)(n:Nat):VA w (.slice XH (l.take n).length ZU) (l.take n):=by
 rcases h with⟨Z7,rfl⟩|⟨b,off,sp,ZU,Z7,Z5,ZS,ZG⟩
 ·grind[VA]
 injection Z7 with Z7 z8 Dj;subst Z7 Dj;refine .inr ⟨b,off,sp,_,rfl,by grind,ZS,λZP=>?_⟩;have Jb:l≠[]:=by grind
 grind
theorem VA.fr{w:World}{XH:Option Addr}{ZU n:Nat}{l:List N.Item}(h:VA w (.slice XH n ZU) l):l.length<=ZU/\ZU<=9223372036854775807:=by
 rcases h with⟨Z7,rfl⟩|⟨b,off,sp,ZU,Z7,Z5,ZS,ZG⟩
 ·grind
 grind[maxLen]
theorem bi(st:Bool)(v:Value)(l:List N.Item)(w:World)(Z2:VA w v l):
  Calls prog 197 #[.agg #[.bool st,v]] w λe w'=>(∃Zy,e=.returned (.agg #[.bool st,Zy])/\∀W,VA W v l->VA W Zy (l.take 12))/\Z6 w w':=by
 obtain⟨XH,ZU,rfl⟩:=Z2.slice;obtain⟨W2,VM⟩:=Z2.fr;have Y8:=bx (λ(W:World)(h:VA W (.slice XH l.length ZU) l)=>h.take 12);have V3:=bx (show∀S3 RZ,Z6 w ((w.alloc S3).alloc RZ).drew from λS3 RZ=>below_drewN ((YU.alloc Ys S3).alloc (by simp) RZ) 1);clear Z2
 rcases SM 12 l.length with Zu|LG
 ·have hm:min (l.length:Int) 12=12:=by omega
  go_in
  go_wp2
  go_region
  go_wp2
  all_goals first
   |(exfalso;omega;done)
   |(refine bodyPost_ret (v:=.agg #[.bool st,.slice XH 12 ZU]) (by simp[results,results197,go_sem]) rfl ⟨⟨_,rfl,λW h=>?_⟩,V3.o _ _⟩;have:=Y8.o W h;grind)
 have hm:min (l.length:Int) 12=l.length:=by omega
 go_in
 go_wp2
 go_region
 go_wp2
 all_goals first
  |(exfalso;omega;done)
  |(refine bodyPost_ret (v:=.agg #[.bool st,.slice XH l.length ZU]) (by simp[results,results197,go_sem]) rfl ⟨⟨_,rfl,λW h=>?_⟩,V3.o _ _⟩;have:=Y8.o W h;grind)
def JS(n set:Int):Bool:=decide (1<=n)&&decide (n<=32)&&decide (0<=set)&&decide (set<2^n.toNat)
theorem ow(m S:Nat)(Z7:1<=m)(Z5:m<=32):JS (m:Int) (S:Int)=decide (S<2^m):=by
 grind[JS]
theorem div_zero(S m:Nat):((S:Int)/2^m==0)=decide (S<2^m):=by
 have Zm:(S:Int)/2^m=((S/2^m:Nat):Int):=by simp
 rw[Zm,Lx];simp only[Lz,SS];have h:S/2^m=0↔S<2^m:=by
  simp
 omega
theorem hQ(set n:Int)(w:World):
  Calls prog 324 #[Z9 set,Z9 n] w λe w'=>e=.returned (.bool (JS n set))/\w=w':=by
 by_cases Z7:1<=n
 ·by_cases Z5:n<=32
  ·by_cases ZI:0<=set
   ·obtain⟨m,rfl⟩:=PY (show 0<=n by omega);obtain⟨S,rfl⟩:=PY ZI;rw[ow m S (by omega) (by omega)];have ZY:=div_zero S m
    cases Zm:decide (S<2^m)with
    |true=>
     rw[Zm]at ZY;clear Zm
     go_in
     go_wp2
     go_ret
     simp
    |false=>
     rw[Zm]at ZY;clear Zm
     go_in
     go_wp2
     go_ret
     simp
   go_in
   go_wp2
   go_ret
   exact⟨YG (by grind[JS]),rfl⟩
  go_in
  go_wp2
  go_ret
  exact⟨YG (by grind[JS]),rfl⟩
 go_in
 go_wp2
 go_ret
 exact⟨YG (by grind[JS]),rfl⟩
theorem qr(set n:Int)(w:World):
  Calls prog 298 #[Z9 set,Z9 n] w λe w'=>e=.returned (.bool (JS n set))/\w=w':=by
 by_cases Z7:1<=n
 ·by_cases Z5:n<=32
  ·by_cases ZI:0<=set
   ·obtain⟨m,rfl⟩:=PY (show 0<=n by omega);obtain⟨S,rfl⟩:=PY ZI;rw[ow m S (by omega) (by omega)];obtain⟨q,Zs⟩:∃q,2^m=q:=⟨_,rfl⟩
    have Xy:=bx Zs;rw[Zs];clear Zs
    go_in
    go_wp2_with fail;refine YW (qM m _ (by omega)) ?_;rw[Xy.o]
    go_wp2
    go_ret
    simp
   go_in
   go_wp2
   go_ret
   exact⟨YG (by grind[JS]),rfl⟩
  go_in
  go_wp2
  go_ret
  exact⟨YG (by grind[JS]),rfl⟩
 go_in
 go_wp2
 go_ret
 exact⟨YG (by grind[JS]),rfl⟩
