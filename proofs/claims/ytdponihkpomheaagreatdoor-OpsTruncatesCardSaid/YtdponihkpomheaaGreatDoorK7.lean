/- Texts of this claim. -/
import Derived.Laws.RangeAny
import Derived.Test.YtdponihkpomheaaGreatDoorK6

set_option maxRecDepth 100000
set_option maxHeartbeats 8000000
namespace Go.Proofs.YtdponihkpomheaaGreatDoor
open Go.RowKit
open Tryz
namespace T
open Go.Proofs.YtdponihkpomheaaGreatDoor
def bE(c:Cs)(l:List Int)(a k:Nat):Bool:=(List.range k).any λi=>cased c (l.getD (a+i) 0)
def bA(c:Cs)(l:List Int)(a:Nat):Nat->List Int
 |0=>[]
 |k+1=>bA c l a k++(if bE c l a k=true then small c l (a+k)else if cased c (l.getD (a+k) 0)=true then becomes c.ti (l.getD (a+k) 0)else[l.getD (a+k) 0])
theorem eh(c:Cs)(l:List Int)(a k:Nat):bE c l a (k+1)=(bE c l a k||cased c (l.getD (a+k) 0)):=by
 grind[bE]
theorem l2(c:Cs)(l:List Int)(a:Nat):∀(n k:Nat),bA c l a (k+n)=bA c l a k++b9 c l n (a+k) (bE c l a k)
 |0,k=>by
  simp[b9]
 |n+1,k=>by
  have XZ:=l2 c l a n (k+1);rw[show k+(n+1)=k+1+n by omega,XZ,eh];simp only[bA];rw[M8]
  congr 1
  cases hm:bE c l a k with
  |true=>
   rfl
  |false=>
   rw[Y4 (by simp),Bool.false_or]
   cases ZL:cased c (l.getD (a+k) 0)with
   |true=>
    rw[Y0 rfl];simp only[b9];grind
   |false=>
    rw[Y4 (by simp)];simp only[b9];grind
theorem fB(c:Cs)(l:List Int)(a b:Nat):bA c l a (b-a)=word c l a b:=by
 have:=l2 c l a (b-a) 0;rw[Nat.zero_add]at this;rw[this]
 rfl
end T
namespace T
open Go.Proofs.YtdponihkpomheaaGreatDoor
def Fine(n:Nat)(m:List Int):Prop:=m.length<=3*n/\∀x∈m,U.right x=true
theorem Fine.nil:Fine 0 []:=⟨by simp,by simp⟩
theorem Fine.append{a b:Nat}{m n:List Int}(h:Fine a m)(k:Fine b n):Fine (a+b) (m++n):=by
 refine⟨?_,λx Z4=>?_⟩
 ·rw[WR];have:=h.1;have:=k.1;omega
 rcases Nb.1 Z4 with Z4|Z4
 ·exact h.2 x Z4
 exact k.2 x Z4
theorem Fine.one{r:Int}(_:U.right r=true):Fine 1 [r]:=⟨by simp,λ_ _=>by grind⟩
theorem acW:∀(l:List F.Map)(last:Int),c5 last l=true->∀x∈l,toB x.2=true
 |[],_,_,x,Z4=>by grind
 |y::t,last,h,x,Z4=>by
  unfold c5 at h;simp only[Vm]at h
  rcases T7.1 Z4 with rfl|Z4
  ·grind
  exact acW t y.1 h.2 x Z4
theorem dK{m:Nat}{l:List F.Map}(h:a8 m l=true){r:Int}(ZT:U.right r=true):Fine 1 (becomes l r):=by
 unfold becomes
 split
 ·rename_i x Z4
  unfold a8 at h;rw[Vm]at h;have ZM:=acW l _ h.1 x (List.mem_of_find?_eq_some Z4);unfold toB at ZM;simp only[Vm,SS,QG]at ZM;exact⟨by omega,ZM.2⟩
 exact Fine.one ZT
theorem dR{m:Nat}{c:Cs}(_:az m c=true):a8 m c.lo=true/\a8 m c.ti=true:=by
 grind[az]
theorem n2{l:List Int}(_:∀x∈l,U.right x=true){i:Nat}(hi:i<l.length):U.right (l.getD i 0)=true:=by
 grind
theorem dz{m:Nat}{c:Cs}(h:az m c=true){l:List Int}(hl:∀x∈l,U.right x=true){i:Nat}(hi:i<l.length):Fine 1 (small c l i):=by
 unfold small
 split
 ·exact Fine.one (by decide)
 exact dK (dR h).1 (n2 hl hi)
theorem eP{m:Nat}{c:Cs}(h:az m c=true){l:List Int}(hl:∀x∈l,U.right x=true)(a:Nat):∀k,a+k<=l.length->Fine k (bA c l a k)
 |0,_=>Fine.nil
 |k+1,Z3=>by
  refine(eP h hl a k (by omega)).append ?_
  split
  ·exact dz h hl (by omega)
  split
  ·exact dK (dR h).2 (n2 hl (by omega))
  exact Fine.one (n2 hl (by omega))
theorem adg{m:Nat}{c:Cs}(h:az m c=true){l:List Int}(hl:∀x∈l,U.right x=true)(a b:Nat)(_:b<=l.length):Fine (b-a) (word c l a b):=by
 rw[<-fB]
 rcases Nat.le_total a b with QK|QK
 ·exact eP h hl a _ (by omega)
 rw[show b-a=0 by omega];exact Fine.nil
def part(l:List Int)(a k:Nat):List Int:=(l.drop a).take k
theorem aes{l:List Int}{a k:Nat}(h:a+k<l.length):part l a (k+1)=part l a k++[l.getD (a+k) 0]:=by
 unfold part;rw[yl (by grind),List.getElem_drop,Rl,SA h,OT]
theorem abb{c:Cs}{l:List Int}{a:Nat}:∀{k:Nat},a+k<=l.length->bE c l a k=false->bA c l a k=part l a k
 |0,_,_=>by rfl
 |k+1,Z3,hm=>by
  rw[eh,Bool.or_eq_false_iff]at hm;rw[aes (by omega)];simp only[bA];rw[abb (by omega) hm.1,hm.1,hm.2,Y4 (by simp),Y4 (by simp)]
theorem arB{c:Cs}{l:List Int}{a k b:Nat}(_:a+k<=b)(_:b<=l.length)(_:bE c l a k=false):word c l a b=part l a k++word c l (a+k) b:=by
 rw[<-fB];have:=l2 c l a (b-a-k) k;grind[word,abb]
end T
namespace M
open U
def rng(c d:UInt8):Bool:=decide (ax (aa c)<=aa d)&&decide (aa d<=ay (aa c))
def aZ:List UInt8->Nat
 |c::d::t=>if decide (2<=af (aa c))&&rng c d then(match t with|e::_=>if decide (af (aa c)=3)&&aM e then 3 else 2|[]=>2)else 1
 |[_]=>1
 |[]=>0
theorem fg{c d:UInt8}(t:List UInt8)(_:(decide (2<=af (aa c))&&rng c d)=false):aZ (c::d::t)=1:=by
 simp only[aZ];grind
theorem gj{c d:UInt8}(h:(decide (2<=af (aa c))&&rng c d)=true):aZ [c,d]=2:=by
 simp only[aZ];rw[Y0 h]
theorem aao{c d e:UInt8}(t:List UInt8)(_:(decide (2<=af (aa c))&&rng c d)=true)(_:(decide (af (aa c)=3)&&aM e)=false):aZ (c::d::e::t)=2:=by
 simp only[aZ];grind
theorem ad5{c d e:UInt8}(t:List UInt8)(_:(decide (2<=af (aa c))&&rng c d)=true)(_:(decide (af (aa c)=3)&&aM e)=true):aZ (c::d::e::t)=3:=by
 simp only[aZ];grind
def unit(s:List UInt8):Nat×Bool:=
 match dec s with
 |some (_,n)=>(n,true)
 |none=>(aZ s,false)
def dt(p:List UInt8):Bool:=
 (match dec (p++[128])with|some (_,n)=>n==p.length+1|none=>false)||(match dec (p++[128,128])with|some (_,n)=>n==p.length+2|none=>false)
theorem eD(c d:UInt8):rng c d=true↔ax (aa c)<=aa d/\aa d<=ay (aa c):=by simp[rng]
theorem y8(p:Prop)[Decidable p](x:Int)(m k:Nat)(_:(m==k)=false):(match (if p then some (x,m)else none:Option (Int×Nat))with|some (_,n)=>n==k|none=>false)=false:=by
 grind
theorem lI:aa 128=128:=rfl
theorem asH(c d:UInt8):dt [c,d]=(decide (2<=af (aa c))&&rng c d):=by
 have ZT:=eD c d;unfold dt;simp only[SI,RQ,U3,SK]
 rcases cY (aa c)with e|e|e|e|e
 ·grind[dZ]
 ·grind[eN]
 ·rw[dv e,dv e,e,y8 _ _ _ _ rfl,y8 _ _ _ _ rfl];rfl
 ·have T8:=du (aa c) (by omega);have Nk:=dx (aa c) (by omega);rw[dw e,dw e,e]
  by_cases h:ax (aa c)<=aa d/\aa d<=ay (aa c)
  ·rw[Y0 (by rw[lI];omega),ZT.2 h];rfl
  grind
 have T8:=du (aa c) (by omega);have Nk:=dx (aa c) (by omega);rw[fE (by grind),dM e,e]
 by_cases h:ax (aa c)<=aa d/\aa d<=ay (aa c)
 ·rw[Y0 (by rw[lI];omega),ZT.2 h];rfl
 grind
theorem ajt(c d e:UInt8):dt [c,d,e]=(decide (af (aa c)=3)&&rng c d&&aM e):=by
 have ZT:=eD c d;have ZM:=a7 e;unfold dt;simp only[SI,RQ,U3,SK]
 rcases cY (aa c)with k|k|k|k|k
 ·grind[dZ]
 ·grind[eN]
 ·rw[dv k,dv k,k,y8 _ _ _ _ rfl,y8 _ _ _ _ rfl];rfl
 ·rw[dw k,dw k,k,y8 _ _ _ _ rfl,y8 _ _ _ _ rfl];rfl
 have T8:=du (aa c) (by omega);have Nk:=dx (aa c) (by omega);rw[dM k,dM k,k]
 by_cases h:(ax (aa c)<=aa d/\aa d<=ay (aa c))/\(128<=aa e/\aa e<=191)
 ·rw[Y0 (by rw[lI];omega),ZT.2 h.1,ZM.2 h.2];rfl
 grind
theorem ek{s:List UInt8}{r:Int}{n:Nat}(_:dec s=some (r,n)):unit s=(n,true):=by grind[unit]
theorem ez{s:List UInt8}(_:dec s=none):unit s=(aZ s,false):=by grind[unit]
theorem avI(s:List UInt8):aZ s<=s.length/\aZ s<=3/\(s≠[]->1<=aZ s):=by
 match s with
 |[]=>simp[aZ]
 |[_]=>simp[aZ]
 |c::d::[]=>simp only[aZ,U3,SK];grind
 |c::d::e::t=>simp only[aZ,U3];grind
theorem dr{s:List UInt8}(_:s≠[]):1<=(unit s).1/\(unit s).1<=4/\(unit s).1<=s.length:=by
 cases h:dec s with
 |some p=>
  obtain⟨r,n⟩:=p;obtain⟨_,_,Z7,Z5,ZS⟩:=cX h;rw[ek h];omega
 |none=>
  have:=avI s;grind[ez]
def cZ:Nat->List UInt8->List (Nat×Bool)
 |0,_=>[]
 |k+1,s=>if s=[]then[]else unit s::cZ k (s.drop (unit s).1)
def units(s:List UInt8):List (Nat×Bool):=cZ s.length s
theorem aaH:∀(k j:Nat)(s:List UInt8),s.length<=k->s.length<=j->cZ k s=cZ j s
 |0,j,s,h,_=>by
  have:s=[]:=L4 (by omega);subst this;cases j <;> rfl
 |k+1,0,s,_,h=>by
  have:s=[]:=L4 (by omega);subst this;rfl
 |k+1,j+1,s,h,TB=>by
  simp only[cZ]
  split
  ·rfl
  rename_i Z0
  have:=dr Z0;rw[aaH k j _ (by grind) (by grind)]
theorem acX{s:List UInt8}(Z0:s≠[]):units s=unit s::units (s.drop (unit s).1):=by
 have Z7:=dr Z0;unfold units
 cases hl:s.length with
 |zero=>omega
 |succ k=>
  simp only[cZ];rw[Y4 Z0,aaH k _ _ (by grind) Ys]
abbrev Place:=Nat×Nat×Bool
def place:Nat->List (Nat×Bool)->List Place
 |_,[]=>[]
 |a,u::us=>(a,u.1,u.2)::place (a+u.1) us
def places(s:List UInt8):List Place:=place 0 (units s)
def rest(s:List UInt8)(a:Nat):List Place:=place a (units (s.drop a))
theorem dG(s:List UInt8):rest s 0=places s:=by rfl
theorem rest_end(s:List UInt8)(a:Nat)(h:s.length<=a):rest s a=[]:=by unfold rest;rw[Gr h];rfl
theorem cM(s:List UInt8)(a:Nat)(_:a<s.length):rest s a=(a,(unit (s.drop a)).1,(unit (s.drop a)).2)::rest s (a+(unit (s.drop a)).1):=by
 have Z0:s.drop a≠[]:=by simp_all
 unfold rest;rw[acX Z0,List.drop_drop]
 rfl
def cuts(pl:List Place):List Nat:=0::pl.map λx=>x.1+x.2.1
def mark:List UInt8:=[239,191,189]
def mended(s:List UInt8)(x:Place):List UInt8:=if x.2.2 then(s.drop x.1).take x.2.1 else mark
def repair(s:List UInt8)(pl:List Place):List UInt8:=pl.flatMap (mended s)
def fwd(pl:List Place)(q:Int):Option Place:=pl.find? λx=>(x.1:Int)==q
def bwd(pl:List Place)(q:Int):Option Place:=pl.find? λx=>((x.1+x.2.1:Nat):Int)==q
end M
namespace M
open U
theorem gb{P:List UInt8->Prop}(_:P [])(_:∀s,s≠[]->P (s.drop (unit s).1)->P s):∀s,P s:=by
 have key:∀(k:Nat)(s:List UInt8),s.length<=k->P s:=by
  intro k
  induction k with
  |zero=>
   grind
  |succ k XZ=>
   intro s h
   by_cases Z0:s=[]
   ·grind
   have:=dr Z0;grind
 exact λs=>key s.length s Ys
def shift(a:Nat)(x:Place):Place:=(x.1+a,x.2.1,x.2.2)
theorem ap4(us:List (Nat×Bool)):∀a b,place (a+b) us=(place a us).map (shift b):=by
 induction us with
 |nil=>intro a b;rfl
 |cons u us XZ=>
  intro a b;simp only[place,RG,shift];grind
theorem ak8(s:List UInt8)(a:Nat):rest s a=(places (s.drop a)).map (shift a):=by
 unfold rest places;have:=ap4 (units (s.drop a)) 0 a;grind
theorem aup(s:List UInt8)(a:Nat)(x:Place):mended s (shift a x)=mended (s.drop a) x:=by
 simp[mended,shift,List.drop_drop,Nat.add_comm]
theorem apI(s:List UInt8)(a:Nat)(pl:List Place):repair s (pl.map (shift a))=repair (s.drop a) pl:=by
 unfold repair;rw[List.flatMap_map]
 congr 1
 exact funext λx=>aup s a x
theorem ako(a:Nat)(pl:List Place):(cuts pl).map (·+a)=a::(pl.map (shift a)).map λx=>x.1+x.2.1:=by
 unfold cuts;rw[RG,IZ,IZ,Nat.zero_add]
 congr 1
 apply List.map_congr_left
 intro x _;show x.1+x.2.1+a=x.1+a+x.2.1
 omega
def fix(s:List UInt8):List UInt8:=repair s (places s)
theorem places_cons{s:List UInt8}(Z0:s≠[]):places s=(0,(unit s).1,(unit s).2)::(places (s.drop (unit s).1)).map (shift (unit s).1):=by
 have hl:=List.length_pos_iff.2 Z0;have:=cM s 0 hl;rw[dG,List.drop_zero,Nat.zero_add,ak8]at this;omega
theorem asY:fix []=[]:=rfl
theorem fv{s:List UInt8}(Z0:s≠[]):fix s=(if(unit s).2 then s.take (unit s).1 else mark)++fix (s.drop (unit s).1):=by
 unfold fix;rw[places_cons Z0];show repair s (_::_)=_
 rw[show repair s ((0,(unit s).1,(unit s).2)::(places (s.drop (unit s).1)).map (shift (unit s).1))=mended s (0,(unit s).1,(unit s).2)++repair s ((places (s.drop (unit s).1)).map (shift (unit s).1))from rfl,apI]
 rfl
theorem aki{s:List UInt8}(Z0:s≠[]):cuts (places s)=0::(cuts (places (s.drop (unit s).1))).map (·+(unit s).1):=by
 rw[ako]
 conv=>lhs;rw[places_cons Z0]
 simp[cuts]
theorem al8:mark=enc 65533:=by rfl
theorem asf{s:List UInt8}(_:(unit s).2=true):∃r,dec s=some (r,(unit s).1):=by
 cases Zm:dec s with
 |none=>grind[ez]
 |some p=>obtain⟨r,n⟩:=p;rw[ek Zm];simp
theorem aaz(s:List UInt8):∃l,scalars (fix s)=some l/\l.length=(units s).length:=by
 refine gb (P:=λs=>∃l,scalars (fix s)=some l/\l.length=(units s).length) ⟨[],rfl,rfl⟩ (λs Z0 XZ=>?_) s;obtain⟨l,Z7,Z5⟩:=XZ;have hu:=acX Z0
 cases YB:(unit s).2 with
 |true=>
  obtain⟨r,Zm⟩:=asf YB;obtain⟨ZT,he,_⟩:=cX Zm;refine⟨r::l,?_,by grind⟩;rw[fv Z0,YB,Y0 rfl,<-he,lA r ZT,Z7]
  rfl
 |false=>
  refine⟨65533::l,?_,by grind⟩;rw[fv Z0,YB,Y4 (by simp),al8,lA 65533 (by decide),Z7]
  rfl
end M
namespace M
open U
theorem vo{s:List UInt8}{P:Nat->Prop}(_:∀a,s.length<=a->P a)(_:∀a,a<s.length->P (a+(unit (s.drop a)).1)->P a):∀a,P a:=by
 have key:∀(k a:Nat),s.length<=a+k->P a:=by
  intro k
  induction k with
  |zero=>omega
  |succ k XZ=>
   intro a h
   by_cases Z0:s.length<=a
   ·grind
   have Xq:s.drop a≠[]:=by simp_all
   have:=dr Xq;grind
 exact λa=>key s.length a (by omega)
theorem dD{s:List UInt8}{a:Nat}(_:a<s.length):1<=(unit (s.drop a)).1/\(unit (s.drop a)).1<=4/\a+(unit (s.drop a)).1<=s.length:=by
 have Xq:s.drop a≠[]:=by simp_all
 have:=dr Xq;grind
theorem dY(s:List UInt8):∀a,∀x∈rest s a,a<=x.1/\x.1<s.length/\(x.2.1,x.2.2)=unit (s.drop x.1)/\x.1+x.2.1<=s.length/\1<=x.2.1/\x.2.1<=4:=by
 refine vo (s:=s) (λa h x Z4=>?_) (λa h _ x Z4=>?_)
 ·grind[rest_end]
 rw[cM s a h]at Z4;have hu:=dD h
 grind
theorem arF(s:List UInt8):∀a,∀x∈rest s a,fwd (rest s a) x.1=some x:=by
 refine vo (s:=s) (λa h x Z4=>?_) (λa h XZ x Z4=>?_)
 ·grind[rest_end]
 have hu:=dD h;rw[cM s a h]at Z4⊢;unfold fwd
 rcases T7.1 Z4 with rfl|Z4
 ·simp
 have:=dY s _ x Z4;rw[List.find?_cons_of_neg]
 ·exact XZ x Z4
 grind
theorem apf(s:List UInt8):∀a,∀x∈rest s a,bwd (rest s a) ((x.1+x.2.1:Nat):Int)=some x:=by
 refine vo (s:=s) (λa h x Z4=>?_) (λa h XZ x Z4=>?_)
 ·grind[rest_end]
 rw[cM s a h]at Z4⊢;unfold bwd
 rcases T7.1 Z4 with rfl|Z4
 ·simp
 have:=dY s _ x Z4;rw[List.find?_cons_of_neg]
 ·exact XZ x Z4
 grind
def np(a:Nat)(pl:List Place):List Nat:=a::pl.map λx=>x.1+x.2.1
theorem aqY(s:List UInt8):∀a,∀(i:Nat)(x:Place),(rest s a)[i]?=some x->(np a (rest s a))[i]?=some x.1/\(np a (rest s a))[i+1]?=some (x.1+x.2.1):=by
 refine vo (s:=s) (λa h i x Z4=>?_) (λa h XZ i x Z4=>?_)
 ·grind[rest_end]
 rw[cM s a h]at Z4⊢
 cases i with
 |zero=>cases Z4;exact⟨rfl,rfl⟩
 |succ i=>exact XZ i x Z4
theorem at4(s:List UInt8):∀a,a<=s.length->(np a (rest s a))[(rest s a).length]?=some s.length:=by
 refine vo (s:=s) (λa h TB=>?_) (λa h XZ TB=>?_)
 ·rw[rest_end s a h];show some a=_;grind
 rw[cM s a h];exact XZ (dD h).2.2
theorem alb{s:List UInt8}{i:Nat}(h:i<(places s).length):∃x,(places s)[i]?=some x/\(cuts (places s))[i]?=some x.1/\(cuts (places s))[i+1]?=some (x.1+x.2.1)/\fwd (places s) x.1=some x/\bwd (places s) ((x.1+x.2.1:Nat):Int)=some x/\1<=x.2.1/\x.2.1<=4/\x.1+x.2.1<=s.length/\unit (s.drop x.1)=(x.2.1,x.2.2):=by
 obtain⟨x,Z4⟩:=Yg (places s) i h;have hm:=Xh Z4;refine⟨x,Z4,?_⟩;rw[<-dG]at Z4 hm⊢;have Z7:=aqY s 0 i x Z4;have Z5:=dY s 0 x hm;exact⟨Z7.1,Z7.2,arF s 0 x hm,apf s 0 x hm,Z5.2.2.2.2.1,Z5.2.2.2.2.2,Z5.2.2.2.1,Z5.2.2.1.symm⟩
theorem aaa(pl:List Place):(cuts pl).length=pl.length+1:=by simp[cuts]
end M
section
open Go.Extern.Stop Go.Stop Go.Extern
namespace As
abbrev VP(a:Addr):Value:=.agg #[.pointer (some ⟨16,321,none⟩),.pointer (some a),.int .u64 150]
theorem eZ(t:Addr)(w:World):(ReflectliteValue.unpack (.iface 321 (.pointer (some t)))).run prog w
  = .ok (VP ⟨w.heap.size,0,none⟩) (w.alloc (.cells #[.pointer (some t)] 321)):=by rfl
theorem e1(a:Addr)(w:World):(ReflectliteValue.methodAny (ReflectliteValue.valueError "reflectlite.Value.Type" 0) (λt _ _ _=>ReflectliteType.toType t) #[VP a]).run prog w
  = .ok (.iface 351 (.agg #[.pointer (some ⟨16,321,none⟩)])) w:=by rfl
theorem methodKind(h:Value)(w:World):(Go.method 579 351 (.agg #[h]) "Kind").run prog w=.ok (371,h) w:=by rfl
theorem fe(w:World):((ReflectliteType.abiMethod λt=>(λa:Nat=>Value.int IntKind.u8 (a:Int)) <$> Rtype.kind t) #[.pointer (some ⟨16,321,none⟩)]).run prog w=.ok (.int .u8 22) w:=by kernel_rfl
theorem eX(w:World):((ReflectliteType.abiMethod λt=>(λa:Nat=>Value.int IntKind.u8 (a:Int)) <$> Rtype.kind t) #[.pointer (some ⟨16,320,none⟩)]).run prog w=.ok (.int .u8 25) w:=by kernel_rfl
theorem methodElem(h:Value)(w:World):(Go.method 579 351 (.agg #[h]) "Elem").run prog w=.ok (383,.agg #[h]) w:=by rfl
theorem methodImplements(h:Value)(w:World):(Go.method 579 351 (.agg #[h]) "Implements").run prog w=.ok (384,.agg #[h]) w:=by rfl
theorem methodAssignableTo(h:Value)(w:World):(Go.method 579 351 (.agg #[h]) "AssignableTo").run prog w=.ok (381,.agg #[h]) w:=by rfl
theorem fC(w:World):(ReflectliteType.method ReflectliteType.elem #[.agg #[.pointer (some ⟨16,321,none⟩)]]).run prog w=.ok (.iface 351 (.agg #[.pointer (some ⟨16,320,none⟩)])) w:=by kernel_rfl
theorem fh(w:World):(ReflectliteType.relation "Implements" ReflectliteType.implements_ #[.agg #[.pointer (some ⟨16,320,none⟩)],.iface 351 (.agg #[.pointer (some ⟨16,87,none⟩)])]).run prog w=.ok (.bool true) w:=by kernel_rfl
theorem fx(v:Value)(w:World):(ReflectliteType.typeOf #[.iface 320 v]).run prog w=.ok (.iface 351 (.agg #[.pointer (some ⟨16,320,none⟩)])) w:=by rfl
theorem fG(w:World):(ReflectliteType.relation "AssignableTo" ReflectliteType.assignableTo #[.agg #[.pointer (some ⟨16,320,none⟩)],.iface 351 (.agg #[.pointer (some ⟨16,320,none⟩)])]).run prog w=.ok (.bool true) w:=by kernel_rfl
theorem fj(x y:Value)(w:World):(ReflectliteValue.unpack (.iface 320 (.agg #[x,y]))).run prog w
  = .ok (.agg #[.pointer (some ⟨16,320,none⟩),Zn (w.heap.size),.int .u64 153]) (w.alloc (.cells #[x,y] 320)):=by rfl
theorem rlm(z:Sem Value)(f:TypeId->Addr->Nat->Nat->Sem Value)(v:Value):
  ReflectliteValue.method z f #[v]=(do match <-ReflectliteValue.parts v with|none=>z|some (t,a,Pk)=>f t a Pk (Pk%32)):=rfl
theorem wZ(a:Addr)(w:World):(ReflectliteValue.parts (VP a)).run prog w=.ok (some (321,a,150)) w:=by kernel_rfl
theorem eU(a p:Addr)(W:World)(YZ:W.cell? a=some (.pointer (some p))):
  (ReflectliteValue.method (ReflectliteValue.valueError "reflectlite.Value.IsNil" 0) ReflectliteValue.isNil #[VP a]).run prog W=.ok (.bool false) W:=by
 rw[rlm];simp only[Sem.run_bind,wZ,Result.andThen];simp[ReflectliteValue.isNil,loadVar,isAgg,underlying,underlying321,YZ,Result.andThen]
theorem ni(w:World):(Rtype.elem? 321).run prog w=.ok (some 320) w:=by rfl
abbrev VW(p:Addr)(Pk:Int):Value:=.agg #[.pointer (some ⟨16,320,none⟩),.pointer (some p),.int .u64 Pk]
theorem mkW(p:Addr)(w:World):(ReflectliteValue.mk 320 p ReflectliteValue.flagAddr).run prog w=.ok (VW p 409) w:=by rfl
theorem elemV(a p:Addr)(W:World)(YZ:W.cell? a=some (.pointer (some p))):
  (ReflectliteValue.method (ReflectliteValue.valueError "reflectlite.Value.Elem" 0) ReflectliteValue.elem #[VP a]).run prog W=.ok (VW p 409) W:=by
 rw[rlm];simp only[Sem.run_bind,wZ,Result.andThen];simp[ReflectliteValue.elem,loadVar,isAgg,underlying,underlying321,YZ,Result.andThen,ni,mkW]
theorem rls(v x:Value):ReflectliteValue.set #[v,x]=(do
  let (some (dst,a,Pk),some (src,b,_)):=(<-ReflectliteValue.parts v,<-ReflectliteValue.parts x)
   |unsupported (.noEntry "extern/(internal/reflectlite.Value).Set.zeroValue")
  if Pk/ReflectliteValue.flagAddr%2==0 then unsupported (.noEntry "extern/(internal/reflectlite.Value).Set.unaddressable")
  let val <-loadVar src b
  if <-Rtype.directlyAssignable dst src then storeVar dst a val
  else if <-Rtype.implements dst src then
   if(<-Rtype.kind src)==20 then
    match val with
    | .nilIface=>unsupported (.noEntry "extern/reflectlite: a nil value of one interface type handed on as a value of another")
    |_=>storeVar dst a val
   else storeVar dst a (.iface src val)
  else panicString ("reflectlite.Set: value of type " ++(<-Rtype.spelt src) ++ " is not assignable to type " ++(<-Rtype.spelt dst))
  pure (.tuple #[])):=rfl
theorem mV(a:Addr)(w:World):(ReflectliteValue.parts (VW a 409)).run prog w=.ok (some (320,a,409)) w:=by kernel_rfl
theorem mE(a:Addr)(w:World):(ReflectliteValue.parts (VW a 153)).run prog w=.ok (some (320,a,153)) w:=by kernel_rfl
theorem lW(w:World):(Rtype.directlyAssignable 320 320).run prog w=.ok true w:=by rfl
theorem adG:(prog.info? 320).map (·.size)=some 2:=by rfl
theorem setW(VR b:Nat)(x y S3 RZ:Value)(W:World)(Z8:Zv W b 320 #[x,y])(ZM:Zv W VR 320 #[S3,RZ])(_:x.oneCell'=true)(_:y.oneCell'=true):
  (ReflectliteValue.set #[VW ⟨VR,0,none⟩ 409,VW ⟨b,0,none⟩ 153]).run prog W=.ok (.tuple #[]) (W.setRow VR #[x,y]):=by
 rw[rls];simp only[Sem.run_bind,mV,mE,Result.andThen];simp[ReflectliteValue.flagAddr,run_loadVar_row W b 320 320 _ (0,0) _ Z8 underlying320 rfl adG,Result.andThen,lW];rw[run_storeVar_row W VR 320 320 #[S3,RZ] #[x,y] ZM adG rfl (by grind)]
end As
end
def HT(es:Array MapEntry)(q:Int):Option Value:=match Instr.findNow (.int .i64) (Z9 q) es.toList 0 with|some (some p)=>some p.2|_=>none
def E3(es:Array MapEntry):Prop:=∀x∈es.toList,∃k,x.key=Z9 k
def Ha:Value->Int->Bool
 | .int .i64 k,q=>decide (k=q)
 |_,_=>false
theorem avh(v:Value)(q:Int):Ha v q=true↔v=Z9 q:=by
 constructor
 ·intro h;unfold Ha at h
  grind
 grind[Ha]
def M6:List MapEntry->Int->Option Value
 |[],_=>none
 |e::es,q=>if Ha e.key q=true then some e.val else M6 es q
theorem wv(q:Int):∀(l:List MapEntry)(i:Nat),(∀x∈l,∃k,x.key=Z9 k)->
  (Instr.findNow (.int .i64) (Z9 q) l i=some none/\M6 l q=none)\/∃j v,Instr.findNow (.int .i64) (Z9 q) l i=some (some (i+j,v))/\M6 l q=some v/\∃e,l[j]?=some e/\e.key=Z9 q/\e.val=v
 |[],_,_=>.inl ⟨rfl,rfl⟩
 |e::es,i,h=>by
  obtain⟨k,Z3⟩:=h e (Pw ..)
  by_cases Zs:q=k
  ·subst Zs;refine .inr ⟨0,e.val,?_,?_,e,rfl,Z3,rfl⟩
   ·simp[Instr.findNow,Instr.sameNow,Z3]
   simp[M6,Ha,Z3]
  have tM:(q==k)=false:=by grind
  have xK:¬k=q:=λe=>Zs e.symm
  rcases wv q es (i+1) (λx Z4=>h x (Oj _ Z4))with⟨Z7,Z5⟩|⟨j,v,Z7,Z5,R8,ZS,ZG⟩
  ·grind[Instr.findNow,Instr.sameNow,M6,Ha]
  exact .inr ⟨j+1,v,by grind[Instr.findNow,Instr.sameNow],by grind[M6,Ha],R8,ZS,ZG⟩
theorem DJ{es:Array MapEntry}(h:E3 es)(q:Int):HT es q=M6 es.toList q:=by
 unfold HT
 rcases wv q es.toList 0 h with⟨Z7,Z5⟩|⟨j,v,Z7,Z5,_⟩ <;> rw[Z7,Z5]
theorem ak3(l:List MapEntry)(e:MapEntry)(k q:Int)(_:e.key=Z9 k)(ZP:M6 l k=none):M6 (l++[e]) q=if q=k then some e.val else M6 l q:=by
 induction l with
 |nil=>
  grind[M6,Ha]
 |cons x t XZ=>
  simp only[M6]at ZP
  split at ZP
  ·cases ZP
  rename_i Z4
  simp only[SI,M6];grind
theorem ach(k q:Int)(v:Value):∀(l:List MapEntry)(j:Nat)(e:MapEntry),l[j]?=some e->e.key=Z9 k->M6 l k=some e.val->(∀i x,i<j->l[i]?=some x->x.key≠Z9 k)->
  M6 (l.modify j (λe=>{e with key:=Z9 k,val:=v})) q=if q=k then some v else M6 l q
 |[],_,_,h,_,_,_=>by grind
 |x::t,0,e,h,Z3,_,_=>by
  grind[List.modify_zero_cons,M6,Ha]
 |x::t,j+1,e,h,Z3,hl,Yz=>by
  have Z4:=Yz 0 x (by omega) rfl;simp only[List.getElem?_cons_succ]at h;simp only[M6]at hl;have zF:¬Ha x.key k=true:=λe=>Z4 ((avh _ _).mp e)
  rw[Y4 zF]at hl;have XZ:=ach k q v t j e h Z3 hl (λi y _ _=>Yz (i+1) y (by omega) (by grind));simp only[List.modify_succ_cons,M6];grind
theorem aa6(k:Int):∀(l:List MapEntry)(i j:Nat)(v:Value),(∀x∈l,∃k,x.key=Z9 k)->Instr.findNow (.int .i64) (Z9 k) l i=some (some (i+j,v))->∀m x,m<j->l[m]?=some x->x.key≠Z9 k
 |[],_,_,_,_,h=>by simp
 |e::es,i,j,v,Z3,h=>by
  obtain⟨tC,kf⟩:=Z3 e (Pw ..)
  by_cases Zs:k=tC
  ·grind[Instr.findNow,Instr.sameNow]
  have tM:(k==tC)=false:=by grind
  simp[Instr.findNow,Instr.sameNow,kf,tM]at h;intro m x hm Z4
  cases m with
  |zero=>
   grind
  |succ m=>
   exact aa6 k es (i+1) (j-1) v (λx Z4=>Z3 x (Oj _ Z4)) (by grind) m x (by omega) (by grind)
section
variable {P:Program} {T K E:TypeId}
theorem mT(hm:P.underlying T=some (.map K E))(Z3:P.underlying K=some (.int .i64))(W:World)(es:Array MapEntry)(Vd:Nat)(k:Int)(n:Nat)(ZH:W.heap[n]?=some (.map es Vd))(TH:E3 es)(z:Value)(ZY:(zeroValue E).run P W=.ok z W):
  (Instr.lookup T (.map (some n)) (Z9 k) false).run P W=.ok ((HT es k).getD z) W:=by
 have Z7:(Instr.checkKey es.isEmpty 10000 K (Z9 k)).run P W=.ok () W:=MapKept.run_checkKey Z3 (by rfl) _ 9999
 rcases wv k es.toList 0 TH with⟨Yz,hl⟩|⟨j,v,Yz,hl,_⟩
 ·have Z5:=MapKept.run_findKey (P:=P) (w:=W) Z3 Yz;unfold Instr.lookup;rw[DJ TH,hl];simp only[Sem.run_bind,run_underlying hm,Result.andThen,MapKept.run_getObj_map ZH,Z7,Z5,Sem.run_pure,Bool.false_eq_true,if_false,ZY,Option.getD_none]
 have Z5:=MapKept.run_findKey (P:=P) (w:=W) Z3 Yz;unfold Instr.lookup;rw[DJ TH,hl];simp only[Sem.run_bind,run_underlying hm,Result.andThen,MapKept.run_getObj_map ZH,Z7,Z5,Sem.run_pure,Bool.false_eq_true,if_false,OT]
theorem aqZ(hm:P.underlying T=some (.map K E))(Z3:P.underlying K=some (.int .i64))(W:World)(es:Array MapEntry)(Vd:Nat)(k:Int)(v:Value)(n:Nat)(ZH:W.heap[n]?=some (.map es Vd))(TH:E3 es):
  ∃Si Qw,(Instr.mapUpdate T (.map (some n)) (Z9 k) v).run P W=.ok () (W.putObj n (.map Si Qw))/\E3 Si/\∀q,HT Si q=if q=k then some v else HT es q:=by
 have Z7:(Instr.checkKey false 10000 K (Z9 k)).run P W=.ok () W:=MapKept.run_checkKey Z3 (by rfl) false 9999
 rcases wv k es.toList 0 TH with⟨Yz,hl⟩|⟨j,v0,Yz,hl,e,he,ua,pR⟩
 ·have Z5:=MapKept.run_findKey (P:=P) (w:=W) Z3 Yz;have R5:E3 (es.push ⟨Z9 k,v,Vd⟩):=by
   intro x Z4;rw[Array.toList_push,Nb,Pe]at Z4
   rcases Z4 with Z4|rfl
   ·exact TH x Z4
   simp
  refine⟨es.push ⟨Z9 k,v,Vd⟩,Vd+1,?_,R5,λq=>?_⟩
  ·unfold Instr.mapUpdate;simp only[Sem.run_bind,run_underlying hm,Result.andThen,MapKept.run_getObj_map ZH,Z7,Z5,MapKept.run_setObj_map _ ZH]
   rfl
  rw[DJ R5,DJ TH,Array.toList_push,ak3 _ _ k q rfl hl]
 have Z5:=MapKept.run_findKey (P:=P) (w:=W) Z3 Yz;rw[Nat.zero_add]at Yz Z5;have ki:es[j]?=some e:=by grind
 have R5:E3 (es.modify j (λe=>{e with key:=Z9 k,val:=v})):=by
  intro x Z4
  rcases MapFrom.mem_modify Z4 with Z4|⟨R8,_,rfl⟩
  ·exact TH x Z4
  simp
 refine⟨es.modify j (λe=>{e with key:=Z9 k,val:=v}),Vd,?_,R5,λq=>?_⟩
 ·unfold Instr.mapUpdate;simp only[Sem.run_bind,run_underlying hm,Result.andThen,MapKept.run_getObj_map ZH,Z7,Z5,ki,Option.map_some,OT,ua,MapKept.run_keyThatStays (k:=Z9 k) (d:=.int .i64) (by rfl),MapKept.run_setObj_map _ ZH]
  rfl
 rw[DJ R5,DJ TH,Array.toList_modify];exact ach k q v es.toList j e he ua (by grind) (λi x hi Z4=>aa6 k es.toList 0 j v0 TH (by grind) i x hi Z4)
end
def hg{α:Type}(n:Nat)(P:Program)(gf:Nat)(lb:Array Value)(encs:α->Array Value)(own keep:Nat->Prop)(ok:List α->α->World->Prop)(S:List α->World->Prop)(l:Nat)(YH:World):Prop:=
 ∀(J PL:List α->World->Prop),(∀ZC W W',J ZC W->Turns own W W'->J ZC W')->(∀ZC W W',PL ZC W->Turns (λ_=>False) W W'->PL ZC W')->
  (∀ZC x W0 W,J ZC W0->Turns own W0 W->ok ZC x W->YieldAt Fence.wide (n-1) P l (encs x) W λe W'=>(e=.returned (.bool true)/\J (ZC++[x]) W'/\Turns (λk=>¬(keep k\/(W0.heap.size<=k/\k<W.heap.size))) W W')\/(e=.returned (.bool false)/\PL (ZC++[x]) W'))->
  J [] YH->CallsIn Fence.wide n P gf (#[.func (.yield l) #[] #[]]++lb) YH λe W'=>(∃v,e=.returned v)/\((∃xs,S xs W'/\J xs W')\/(∃ZC,PL ZC W'))
def h8{α:Type}(keep:Nat->Prop)(I:List α->World->Prop)(Tb:Code->List α->World->Prop)(l D:Nat)(xs:List α)(W:World):Exit->Act->World->Prop
 | .normal,_,W'=>Turns (λk=>¬(keep k\/k=l\/k=D)) W W'/\I xs W'
 | .ret,_,W'=>Holds (λk=>k=l\/k=D) W W'/\Tb .ret xs W'
 | .exit id,_,W'=>Holds (λk=>k=l\/k=D) W W'/\Tb (.exit id) xs W'
 | .goto t,_,W'=>Holds (λk=>k=l\/k=D) W W'/\Tb (.goto t) xs W'
 | .panic _,_,_=>False
 | .outgrown,_,_=>False
theorem ajo{α:Type}{P:Program}{n:Nat}{g:Operand}{ps:Array Tmp}{assign body:Code}{Q:Exit->Act->World->Prop}{a:Act}{w:World}{gf:Nat}{lb:Array Value}(ZH:a.eval g=.func (.func gf) #[] lb)(Gd:∀args w,(callFunc gf args).run P w=.ok (.enter gf args) w){encs:α->Array Value}{own keep:Nat->Prop}{ok:List α->α->World->Prop}{S:List α->World->Prop}(Wo:∀k,own k\/keep k->k<w.heap.size)(hit:∀YH,Turns (λ_=>False) w YH->hg (n-1) P gf lb encs own keep ok S (w.heap.size+1) YH)(LC:∀x,(encs x).size=ps.size)(I:List α->World->Prop)(Tb:Code->List α->World->Prop)(UW:∀ZC W W',I ZC W->Turns (λk=>own k\/k=w.heap.size+1) W W'->I ZC W')(Kk:∀c ZC W W',Tb c ZC W->Turns (λk=>k=w.heap.size+1) W W'->Tb c ZC W')(pH:∀ZC x W W',ok ZC x W->Turns (λk=>k=w.heap.size+1) W W'->ok ZC x W')(ZI:I [] w)(P9:α->Act->World->Prop)(Gc:∀x a1 W W',P9 x a1 W->Turns (λk=>k=w.heap.size+1) W W'->P9 x a1 W')(Df:∀(x:α)(W:World)(K:Act->World->Prop),w.heap.size+2<=W.heap.size->(∀a1 YH,Turns (λ_=>False) W YH->P9 x a1 YH->K a1 YH)->
   assign.wpIn (Fence.wide.inRound (w.heap.size+1)) (n-1-1) P (Exit.then K (λ_ _ _=>False)) {tmps:=(ps.zip (encs x)).foldl (λt (p,v)=>t.setIfInBounds p v) a.tmps,defers:=[]} W)(De:∀(ZC:List α)(x:α)(a1:Act)(W0 W:World)(N:Nat),w.heap.size+2<=W0.heap.size->I ZC W0->Turns (λk=>own k\/k=w.heap.size+1) W0 W->N<=W.heap.size->ok ZC x W->P9 x a1 W->
   body.wpIn (Fence.wide.inRound (w.heap.size+1)) (n-1-1) P (h8 (λk=>keep k\/(W0.heap.size<=k/\k<N)) I Tb (w.heap.size+1) w.heap.size (ZC++[x]) W) a1 W)(hdone:∀(xs:List α)(W:World),w.heap.size+2<=W.heap.size->S xs W->I xs W->W.heap[w.heap.size]?=some (.deferred (some []))->Q .normal {a with defers:={target:=.collected w.heap.size,args:=#[]}::a.defers} W)(hstop:∀(c:Code)(ZC:List α)(W:World),w.heap.size+2<=W.heap.size->Tb c ZC W->W.heap[w.heap.size]?=some (.deferred (some []))->c.wpIn Fence.wide n P Q {a with defers:={target:=.collected w.heap.size,args:=#[]}::a.defers} W)(hS:∀xs W W',S xs W->Turns (λk=>k=w.heap.size+1) W W'->S xs W'):
  (Code.rangeFunc g ps assign body).wpIn Fence.wide n P Q a w:=by
 have ZP:=λk h=>Wo k (.inl h)
 refine qA ZH Gd LC P9 Gc Df (λW=>∃xs,S xs W/\I xs W) (λc W=>∃ZC,Tb c ZC W) (λro Ex YH ZM _ WE VX=>?_)
  (λUF W ZY ⟨xs,Z7,Z5⟩ ZM Z3=>hdone xs W ZY (hS _ _ _ Z7 ZM) (UW _ _ _ Z5 (ZM.mono λ_=>.inr)) Z3) (λc UF W ZY ⟨ZC,h⟩ ZM Z3=>hstop c ZC W ZY (Kk _ _ _ _ h ZM) Z3)
 refine(hit YH ZM (λZC W=>I ZC W/\Lp ro w.heap.size W) (λZC W=>∃c,Tb c ZC W/\Lp (Ex c) w.heap.size W) ?_ ?_ ?_ ⟨UW _ _ _ ZI (ZM.mono λ_ h=>h.elim),WE⟩).mono ?_
 ·rintro ZC W W' ⟨hi,hl⟩ ZM;exact⟨UW _ _ _ hi (ZM.mono λ_=>.inl),hl.turns ZM ZP⟩
 ·rintro ZC W W' ⟨c,hi,hl⟩ ZM;exact⟨c,Kk _ _ _ _ hi (ZM.mono λ_ h=>h.elim),hl.turns ZM (λ_ h=>h.elim)⟩
 ·rintro ZC x W0 W ⟨hi,LH⟩ MC YB;have hl:=LH.turns MC ZP;have z0:=LH.lt;have UB:=hl.lt;refine(VX x W (λSZ XE=>Turns (λk=>¬((keep k\/(W0.heap.size<=k/\k<W.heap.size))\/k=w.heap.size+1\/k=w.heap.size)) SZ XE/\I (ZC++[x]) XE) (λc XE=>Tb c (ZC++[x]) XE) hl (λa1 SZ Z8 YZ=>wpIn_mono (De ZC x a1 W0 SZ W.heap.size z0 hi ((MC.mono λ_=>.inl).trans (Z8.mono λ_=>.inr)) Z8.size (pH _ _ _ _ YB Z8) YZ) λe _ _ hp=>by cases e <;> exact hp) (λ_ _ ZY h=>.cA h.1 (λk Z3=>by omega) (λk Z3 ZP=>ZP (.inr Z3)))).mono ?_;rintro e W' (⟨rfl,K5,SZ,XE,Z8,⟨Uy,L9⟩,Uq⟩|⟨rfl,c,XE,K5,Z4,Uq⟩)
  ·refine .inl ⟨rfl,⟨UW _ _ _ L9 (Uq.mono λ_=>.inr),K5⟩,?_⟩;have xF:∀k,k=w.heap.size+1->¬(keep k\/(W0.heap.size<=k/\k<W.heap.size)):=by
    grind
   exact((Z8.mono xF).trans (Uy.mono λk Z3 ZP=>Z3 (.inl ZP))).trans (Uq.mono xF)
  grind
 grind
section
open Go.Shelf
attribute[local go_sem] Oper.semAt_some
theorem abL(v:Value)(M:D.ao)(n:Int)(w:World)(Z2:Oh w v M)(Xv:JV M):
  Calls prog 281 #[v,Z9 n] w λe w'=>e=.returned (.bool (Rp n M))/\Z6 w w':=by
 obtain⟨U7,R6,rfl,SO,SQ⟩:=Z2;have OC:=bx SO;have Bk:=bx SQ;have Ns:=bx Xv;obtain⟨Uj,ca,rfl⟩:=SO.slice;obtain⟨WN,XG,rfl⟩:=SQ.slice;obtain⟨ZB,RJ⟩:∃ZB,ZB=w.alloc (.cells #[.slice Uj M.1.length ca,.slice WN M.2.length XG] 29):=⟨_,rfl⟩
 have R9:=bx RJ;have Vt:Z6 w ZB:=by rw[RJ];exact Xl _ _
 have YA:=bx Vt;have T0:=bx (show Zv ZB w.heap.size 29 #[.slice Uj M.1.length ca,.slice WN M.2.length XG] by rw[RJ];exact Zv.new w _ _);have YV:=T0.o.q0;have c1:=T0.o.q1;have S4:=T0.o.lt;clear SO SQ Xv Vt RJ
 by_cases ZH:1<=n/\n<=32/\1<=M.1.length/\M.1.length<=300/\M.2.length=M.1.length
 ·obtain⟨g1,g2,g3,g4,g5⟩:=ZH;obtain⟨Zj,rfl⟩:=PY (show 0<=n by omega);have DG:=bx (show Rp Zj M=(List.range M.1.length).all (N1 Zj M) by
   grind[Rp])
  have M9:=bx g5;rw[g5]at c1;clear g5
  go_in
  go_upto_region 1 with(fail)
  rw[<-R9.o];go_wp2_with fail;clear YV c1 S4
  go_loopw[5] (λi wr=>∃k:Nat,k<=M.1.length/\i=Z9 k/\Box ((List.range k).all (N1 Zj M)=true)/\Box (Z6 ZB wr)) (λi _=>M.1.length-(intOf i).toNat)
  ·exact⟨0,by omega,rfl,⟨rfl⟩,⟨Below.refl _ _⟩⟩
  obtain⟨k,Z3,rfl,YZ,Xk⟩:=hrel;have U9:=T0.o.below Xk.o T0.o.lt;have X3:=bx (bt YA.o Xk.o);have YV:=U9.q0;have c1:wr.cell? ⟨w.heap.size,1,none⟩=some (.slice WN M.1.length XG):=(U9.cell 1).trans (by rw[<-M9.o];rfl);have S4:=U9.lt
  by_cases Zu:k<M.1.length
  ·obtain⟨x,Z4⟩:=Yg M.1 k Zu;obtain⟨y,ZJ⟩:=Yg M.2 k (by rw[M9.o];omega);obtain⟨pa,UC,BT,UV,N9,RK,R0,T3⟩:=(OC.o.below X3.o).get (by grind);obtain⟨rfl,rfl⟩:=XN UV;obtain⟨YM,VZ,Dn,Yn,ZZ,Zz,Zb,Yf⟩:=(Bk.o.below X3.o).get (by grind);obtain⟨rfl,rfl⟩:=XN Yn;obtain⟨Sl,I6,TG⟩:=T3 k x Z4;have ahe:=Yf k y ZJ;have HL:=bx (show N1 Zj M k=(decide ((x.length:Int)=(Zj:Int)+1)&&x.all (toR M.1.length)&&decide (0<=y)&&decide (y<1099511627776)) by
    grind[N1])
   have ai0:=bx TG;obtain⟨J1,Pm,rfl⟩:=TG.slice;have PR:=bx Zu;have LQ:=bx R0;have aiY:=bx I6;have XW:=bx U9;have ahd:=Ns.o.2.2 x (Xh Z4);rw[M9.o]at ZZ;unfold maxLen at RK Zz;have zT:k<ca:=by omega
   have aAg:k<XG:=by omega
   clear UV T3 Yn Yf Z4 ZJ TG U9
   by_cases Sv:(x.length:Int)=(Zj:Int)+1
   ·have Xg:=bx Sv;have q1:((x.length:Int)==(Zj:Int)+1)=true:=by grind
    have xc:=bx (show x.length=Zj+1 by omega);clear Sv
    rcases PX y 0 with Nz|Nz
    ·have Yt:=bx (CB PR.o (show N1 Zj M k=false by rw[HL.o,Yp (show¬0<=y by omega)];simp));go_wp2_with fail
     all_goals first|(exact absurd Xg.o (by assumption))|(exfalso;omega)|skip
     go_ret
     exact⟨YG (by rw[Yt.o]),X3.o⟩
    rcases PX y 1099511627776 with I5|I5
    ·have iN:=bx (show N1 Zj M k=x.all (toR M.1.length) by rw[HL.o,Yh Xg.o,Yh Nz,Yh I5];simp);go_wp2_with fail
     all_goals first|(exact absurd Xg.o (by assumption))|(exfalso;omega)|skip
     clear I6 ahe YV c1 S4 Nz I5
     go_loopw[6] (λc CQ=>∃j:Nat,j<=Zj+1/\c=Z9 j/\Box ((x.take j).all (toR M.1.length)=true)/\Box (Z6 wr CQ)) (λc _=>Zj+1-(intOf c).toNat)
     ·exact⟨0,by omega,rfl,⟨rfl⟩,⟨Below.refl _ _⟩⟩
     obtain⟨j,YO,rfl,af6,PK⟩:=hrel;have Ur:=XW.o.below PK.o XW.o.lt
     by_cases hjn:j<Zj+1
     ·obtain⟨t,ZM⟩:=Yg x j (by omega);obtain⟨zA,Hk,Ax,r1,r2,r3,r4,Tu⟩:=(ai0.o.below PK.o).get (by intro e;simp_all);obtain⟨rfl,rfl⟩:=XN r1;have aAs:=Tu j t ZM;have On:=(PK.o.cell (p:=⟨pa,UC+k,none⟩) LQ.o).trans aiY.o;have YV:=(Ur.cell 0).trans (show _=some (Value.slice (some ⟨pa,UC,none⟩) M.1.length ca)from rfl);have S4:=Ur.lt;have aAe:j<x.length:=by omega
      have kj:j<Pm:=by omega
      have Y8:=bx ZM;have kR:=bx (λm=>PK.o.trans ((Po wr m).mono PK.o.size));unfold maxLen at r3;clear r1 Tu ZM Ur
      cases Io:toR M.1.length t with
      |true=>
       have NW:=bx (show(x.take (j+1)).all (toR M.1.length)=true by rw[Uo,Y8.o,List.all_append,af6.o];simp[Io]);have MC:0<=t/\t<M.1.length:=by simp_all[toR]
       obtain⟨MC,Sg⟩:=MC;have d0:decide (t<0)=false:=Yp (by omega);have d1:decide ((M.1.length:Int)<=t)=false:=Yp (by omega);clear Io;go_wp2_with fail
       go_quiet (fail)
       go_wp2
       go_roundw
       ·exact⟨j+1,hjn,by go_num,NW,⟨kR.o _⟩⟩
       simp[intOf];omega
      |false=>
       have yS:=bx (CB PR.o (show N1 Zj M k=false by
        rw[iN.o,Bool.eq_false_iff];intro h;rw[QG]at h;rw[h t (Xh Y8.o)]at Io
        cases Io))
       have Su:=bx (show¬(0<=t/\t<M.1.length) by unfold toR at Io;simp_all);clear Io
       rcases PX t 0 with MC|MC
       ·have d0:=Yh MC;go_wp2_with fail
        go_quiet (fail)
        go_wp2
        go_ret
        exact⟨YG (by rw[yS.o]),X3.o.trans ((kR.o _).mono X3.o.size)⟩
       have d0:decide (t<0)=false:=Yp (by omega);have Sg:(M.1.length:Int)<=t:=by have:=Su.o;omega
       have d1:=Yh Sg;go_wp2_with fail
       go_quiet (fail)
       go_wp2
       go_ret
       exact⟨YG (by rw[yS.o]),X3.o.trans ((kR.o _).mono X3.o.size)⟩
     have PV:=bx (show(List.range (k+1)).all (N1 Zj M)=true by
      have h:=af6.o;rw[SU (by rw[xc.o];omega)]at h;rw[List.range_succ,List.all_append,YZ.o];simp only[List.all_cons,List.all_nil,Bool.and_true,Bool.true_and];rw[iN.o,h])
     have TY:=bx (bt Xk.o PK.o)
     go_wp2
     go_roundw
     ·exact⟨k+1,PR.o,by go_num,PV,TY⟩
     simp[intOf];omega
    have Yt:=bx (CB PR.o (show N1 Zj M k=false by rw[HL.o,Yp (show¬y<1099511627776 by omega)];simp));go_wp2_with fail
    all_goals first|(exact absurd Xg.o (by assumption))|(exfalso;omega)|skip
    go_ret
    exact⟨YG (by rw[Yt.o]),X3.o⟩
   have Yt:=bx (CB PR.o (show N1 Zj M k=false by rw[HL.o,Yp Sv];rfl));have q1:=Sz.2 Sv;have Mr:=bx Sv;clear Sv;go_wp2_with fail
   all_goals first|(exact absurd (by assumption) Mr.o)|skip
   go_ret
   exact⟨YG (by rw[Yt.o]),X3.o⟩
  have Y8:=bx (show Rp Zj M=true by rw[DG.o,show M.1.length=k by omega];exact YZ.o)
  go_wp2
  go_ret
  exact⟨YG (by rw[Y8.o]),X3.o⟩
 have Yt:=bx (show Rp n M=false by
  unfold Rp;rw[Bool.eq_false_iff];intro h;simp only[Vm,SS]at h;exact ZH ⟨h.1.1.1.1.1,h.1.1.1.1.2,h.1.1.1.2,h.1.1.2,h.1.2⟩)
 have K6:n<1\/(1<=n/\32<n)\/(1<=n/\n<=32/\M.1.length<1)\/(1<=n/\n<=32/\1<=M.1.length/\300<M.1.length)\/(1<=n/\n<=32/\1<=M.1.length/\M.1.length<=300/\((M.2.length:Int) != (M.1.length:Int))=true):=by
  simp only[En,ne_eq];omega
 clear ZH
 rcases K6 with g1|⟨g1,g2⟩|⟨g1,g2,g3⟩|⟨g1,g2,g3,g4⟩|⟨g1,g2,g3,g4,g5⟩
 all_goals
  go_in
  go_upto_region 1 with(fail)
  rw[<-R9.o];go_wp2_with fail
  all_goals first|(exfalso;omega)|(exfalso;simp_all;done)|skip
  go_ret
  exact⟨YG (by rw[Yt.o]),YA.o⟩
theorem asA(v Zc:Value)(M:D.ao)(n:Int)(l:List Int)(w:World)(Z2:Oh w v M)(Xv:JV M)(hl:Y6 w Zc l)(_:l.length<=16777216):
  Calls prog 282 #[v,Z9 n,Zc] w (aeU n M l w):=by
 have Vc:=bx (λW(h:Z6 w W)=>abL v M n W (Z2.below h) Xv);have W4:=bx hl;obtain⟨U7,R6,rfl,SO,-⟩:=Z2;obtain⟨Uj,ca,rfl⟩:=SO.slice;obtain⟨lo,lc,rfl⟩:=hl.slice;have OC:=bx SO;obtain⟨ZB,RJ⟩:∃ZB,ZB=w.alloc (.cells #[.slice Uj M.1.length ca,R6] 29):=⟨_,rfl⟩
 have R9:=bx RJ;have V1:=bx (show Sep [Pc.blk w.heap.size 29 #[.slice Uj M.1.length ca,R6],Pc.old w.heap.size w] ZB by rw[RJ];exact(Sep.start w).ak _ _);have Zz:Z6 w ZB:=V1.o.bel (by simp);have Zt:=bx Zz;have U9:=V1.o.blk 0 rfl;have YV:=U9.q0;have c1:=U9.q1;have S4:=U9.lt;clear SO hl Xv RJ Zz U9
 cases ZT:Rp n M with
 |false=>
  have ZK:=bx ZT;have Yq:=bx (show goCode n M=100 by grind[goCode]);clear ZT
  go_in
  go_upto_region 1 with(fail)
  rw[<-R9.o];go_wp2_with fail;refine(Vc.o _ Zt.o).mono ?_;rintro e Zh ⟨rfl,Zb⟩;rw[ZK.o];have YY:=Zw Zt Zb;clear Zb
  go_wp2
  go_ret2
  refine⟨YY.o,_,by rw[Yq.o];rfl,?_⟩;rw[ZK.o];exact World.ownsRow_nil _ _ _ _
 |true=>
  have ZK:=bx ZT;obtain⟨Z7,Z5,ZS,ZG,Zi⟩:=DC ZT;obtain⟨Zj,rfl⟩:=PY (show 0<=n by omega);have Yq:=bx (show goCode Zj M=0 by grind[goCode]);have PR:=bx (λi=>qQ ZT l i);have Mn:=bx (λ{a:Nat}(YZ:a<M.1.length)=>wW ZT YZ);have MU:=bx (show(Q4 Zj M l).take 1=[0] by unfold Q4;rw[List.range_succ_eq_map];rfl);clear ZT Zi
  go_in
  go_upto_region 1 with(fail)
  rw[<-R9.o];go_wp2_with fail;refine(Vc.o _ Zt.o).mono ?_;rintro e Zh ⟨rfl,Zb⟩;rw[ZK.o];have WT:=bx (show Sep [Pc.row w.heap.size 3 1 (.slice (some ⟨Zh.heap.size,0,none⟩) 1 1) (0+1) (((Q4 Zj M l).take (0+1)).map To),Pc.blk w.heap.size 29 #[.slice Uj M.1.length ca,R6],Pc.old w.heap.size w] (Zh.alloc (.cells #[Z9 0] 3)) by
   rw[MU.o];exact(V1.o.below Zb).lit (base:=w.heap.size) (e:=3) (cs:=#[Z9 0]) (n:=1) (XJ Zt.o.size Zb.size) rfl (by omega))
  clear Zb YV c1 S4;go_wp2_with fail
  go_loopw[8,9,10] (λo at' i wr=>∃k:Nat,k<=l.length/\i=Z9 k/\at'=Z9 (stM Zj M l k)/\Box (Sep [Pc.row w.heap.size 3 1 o (k+1) (((Q4 Zj M l).take (k+1)).map To),Pc.blk w.heap.size 29 #[.slice Uj M.1.length ca,R6],Pc.old w.heap.size w] wr)) (λ_ _ i _=>l.length-(intOf i).toNat)
  ·exact⟨0,by omega,rfl,rfl,WT⟩
  obtain⟨k,Z3,rfl,rfl,YC⟩:=hrel;have X3:=bx (show Z6 w wr from YC.o.bel (by simp))
  by_cases Zu:k<l.length
  ·obtain⟨c,ZL⟩:=Yg l k Zu;obtain⟨lb,LS,G0,Zx,Zr,Zk,Zl,Zg⟩:=(W4.o.below X3.o).get (by grind);obtain⟨rfl,rfl⟩:=XN Zx;have xJ:=Zg k c ZL;have MK:=PR.o k;have DY:=bx (PR.o (k+1));obtain⟨r,QY,Pf,BE,-⟩:=Mn.o MK
   obtain⟨x,KX,Il,L7⟩:=BE (MA Zj c) (vj Zj c);have Ry:=bx (show stM Zj M l (k+1)=x.toNat by
    rw[acZ ZL];grind[stepM])
   have U1:=bx (acD (n:=Zj) (M:=M) Zu);have V9:=vj Zj c;obtain⟨pa,UC,BT,UV,N9,RK,R0,T3⟩:=(OC.o.below X3.o).get (by grind);obtain⟨rfl,rfl⟩:=XN UV;obtain⟨Sl,I6,TG⟩:=T3 _ r QY;obtain⟨zA,Hk,Ax,r1,r2,r3,r4,Tu⟩:=TG.get (by grind);rw[Pf]at r1 r2;subst r1;have VL:=Tu _ x KX;have U9:=YC.o.blk 1 rfl;obtain⟨UP,Wr,rfl,J8,MF⟩:=UG (YC.o.row 0 rfl);have YV:=U9.q0;have S4:=U9.lt;have WP:=X3.o.size;have YD:=bx (show(Z9 x:Value)=To (stM Zj M l (k+1)) by unfold To;rw[Ry.o];grind);unfold maxLen at Zk RK r3;have ui:c<0\/(Zj:Int)<=c->MA Zj c=Zj:=λh=>by grind[MA]
   have pT:0<=c->c<Zj->c=(MA Zj c:Int):=λh _=>by grind[MA]
   generalize NA:stM Zj M l k=Lv at *;generalize F4:MA Zj c=co at *;have V6:Lv<ca:=by omega
   have W2:co<Zj+1:=by omega
   have VM:co<Ax:=by omega
   clear Zx Zg UV T3 TG Tu U9 QY BE KX ZL NA F4
   rcases PX c 0 with Vl|Vl
   ·obtain rfl:=(ui (.inl Vl)).symm;clear ui pT;go_wp2_with (at_builtin;refine PC rfl _ _ 22 rfl OJ YC.o 0 rfl rfl rfl rfl (by omega) (by omega) WP ?_;rintro Zy YL Uh -)
    rw[YD.o]at Uh;have Wp:=bx (show Sep [Pc.row w.heap.size 3 1 Zy (k+1+1) (((Q4 Zj M l).take (k+1+1)).map To),Pc.blk w.heap.size 29 #[.slice (some ⟨pa,UC,none⟩) M.1.length ca,R6],Pc.old w.heap.size w] YL by
     rw[U1.o,T9];grind)
    clear Uh
    go_wp2
    go_roundw
    ·exact⟨k+1,Zu,by go_num,YD.o,Wp⟩
    grind[intOf]
   rcases PX c Zj with P5|P5
   focus
    have Dc:=pT Vl P5;clear ui pT;subst Dc
   rotate_left
   focus
    obtain rfl:=(ui (.inr P5)).symm;clear ui pT
   rotate_left
   all_goals
    go_wp2_with (at_builtin;refine PC rfl _ _ 22 rfl OJ YC.o 0 rfl rfl rfl rfl (by omega) (by omega) WP ?_;rintro Zy YL Uh -)
    rw[YD.o]at Uh;have Wp:=bx (show Sep [Pc.row w.heap.size 3 1 Zy (k+1+1) (((Q4 Zj M l).take (k+1+1)).map To),Pc.blk w.heap.size 29 #[.slice (some ⟨pa,UC,none⟩) M.1.length ca,R6],Pc.old w.heap.size w] YL by
     rw[U1.o,T9];grind)
    clear Uh
    go_wp2
    go_roundw
    ·exact⟨k+1,Zu,by go_num,YD.o,Wp⟩
    grind[intOf]
  obtain rfl:k=l.length:=by omega
  have Jy:=bx (show(Q4 Zj M l).take (l.length+1)=Q4 Zj M l by rw[<-oC Zj M l,OR])
  go_wp2
  go_ret2
  refine⟨X3.o,_,by rw[Yq.o];rfl,?_⟩;have:=YC.o.row 0 rfl;rw[Jy.o]at this;rw[ZK.o];exact this
theorem avy(v Zc:Value)(M:D.ao)(n:Int)(l:List Int)(w:World)(Z2:Oh w v M)(Xv:JV M)(hl:Y6 w Zc l)(ZY:l.length<=16777216):
  Calls prog 222 #[v,Z9 n,Zc] w (auO n M l w):=by
 have O8:=bx Z2;obtain⟨U7,R6,rfl,SO,SQ⟩:=Z2;have Bk:=bx SQ;obtain⟨Uj,ca,rfl⟩:=SO.slice;obtain⟨WN,XG,rfl⟩:=SQ.slice;obtain⟨ZB,RJ⟩:∃ZB,ZB=w.alloc (.cells #[.slice Uj M.1.length ca,.slice WN M.2.length XG] 29):=⟨_,rfl⟩
 have R9:=bx RJ;have V1:=bx (show Sep [Pc.blk w.heap.size 29 #[.slice Uj M.1.length ca,.slice WN M.2.length XG],Pc.old w.heap.size w] ZB by rw[RJ];exact(Sep.start w).ak _ _);have Zz:Z6 w ZB:=V1.o.bel (by simp);have Zt:=bx Zz;have NO:=bx (asA _ Zc M n l ZB (O8.o.below Zz) Xv (hl.below Zz) ZY);have U9:=V1.o.blk 0 rfl;have YV:=U9.q0;have c1:=U9.q1;have S4:=U9.lt;clear SO SQ hl Xv RJ Zz U9
 cases ZT:Rp n M with
 |false=>
  have ZK:=bx ZT;have Yq:=bx (show goCode n M=100 by grind[goCode]);clear ZT
  go_in
  go_upto_region 1 with(fail)
  rw[<-R9.o];go_wp2_with fail;refine NO.o.mono ?_;rintro e Zh ⟨Zb,Y2,rfl,Wo⟩;rw[Yq.o];rw[ZK.o]at Wo;obtain⟨go,gc,rfl,-,-⟩:=UG Wo;have YY:=Zw Zt Zb;clear Zb Wo;simp only[Bool.false_eq_true,if_false];go_wp2_with fail
  go_loopw[10,11] (λo i wr=>o=Z1/\i=Z9 0/\Box (Z6 w wr)) (λ_ _ _=>0)
  ·grind
  obtain⟨rfl,rfl,Xk⟩:=hrel
  go_wp2
  go_ret2
  refine⟨Xk.o,_,by rw[Yq.o];rfl,?_⟩;rw[ZK.o];exact Y6.nil
 |true=>
  have ZK:=bx ZT;obtain⟨Z7,Z5,ZS,ZG,Zi⟩:=DC ZT;obtain⟨Zj,rfl⟩:=PY (show 0<=n by omega);have Yq:=bx (show goCode Zj M=0 by grind[goCode]);have PR:=bx (λi=>qQ ZT l i);have Mn:=bx (λ{a:Nat}(YZ:a<M.1.length)=>wW ZT YZ);have M9:=bx Zi;obtain⟨G,Vg⟩:∃G,Q4 Zj M l=G:=⟨_,rfl⟩
  have Hb:=bx (show G.length=l.length+1 by rw[<-Vg,oC]);have DK:=bx (show∀i,i<l.length+1->∃a,G[i]?=some a/\a<M.1.length from λi _=>⟨_,by rw[<-Vg];exact abM (by omega),PR.o i⟩);have jf:=bx Vg;clear ZT Zi Vg
  go_in
  go_upto_region 1 with(fail)
  rw[<-R9.o];go_wp2_with fail;refine NO.o.mono ?_;rintro e Zh ⟨Zb,Y2,rfl,Wo⟩;rw[Yq.o];rw[ZK.o,Y0 rfl,Y0 rfl,RU,jf.o]at Wo;have ayk:=bx (wB Wo Hb.o.symm);obtain⟨go,gc,rfl,-,-⟩:=UG Wo;have WT:=bx (show Sep [Pc.row w.heap.size 2 1 Z1 0 (((G.take 0).map (Jn M)).map (Value.int .i64)),Pc.row w.heap.size 3 1 (.slice go (l.length+1) gc) (l.length+1) (G.map To),Pc.blk w.heap.size 29 #[.slice Uj M.1.length ca,.slice WN M.2.length XG],Pc.old w.heap.size w] Zh from
   (V1.o.got Zb Wo Zt.o.size).aH _ _ _)
  clear Zb YV c1 S4 Wo;go_wp2_with fail
  go_loopw[10,11] (λo i wr=>∃k:Nat,k<=l.length+1/\i=Z9 k/\Box (Sep [Pc.row w.heap.size 2 1 o k (((G.take k).map (Jn M)).map (Value.int .i64)),Pc.row w.heap.size 3 1 (.slice go (l.length+1) gc) (l.length+1) (G.map To),Pc.blk w.heap.size 29 #[.slice Uj M.1.length ca,.slice WN M.2.length XG],Pc.old w.heap.size w] wr)) (λ_ i _=>l.length+1-(intOf i).toNat)
  ·grind
  obtain⟨k,Z3,rfl,YC⟩:=hrel;have X3:=bx (show Z6 w wr from YC.o.bel (by simp))
  by_cases Zu:k<l.length+1
  ·obtain⟨a,YZ,UU⟩:=DK.o k Zu;obtain⟨lb,LS,G0,Zx,Zr,Zk,Zl,Zg⟩:=(wB (YC.o.row 1 rfl) Hb.o.symm).get (by grind[Fp]);rw[Fp,Hb.o]at Zx Zr;obtain⟨rfl,rfl⟩:=XN Zx;have af5:=Zg k _ (nt YZ);obtain⟨-,-,-,-,f,Yz,-⟩:=Mn.o UU;obtain⟨YM,VZ,Dn,Yn,ZZ,Zz,Zb,Yf⟩:=(Bk.o.below X3.o).get (by grind);obtain⟨rfl,rfl⟩:=XN Yn;have tY:=Yf a f Yz;have U1:=bx (show((G.take (k+1)).map (Jn M)).map (Value.int .i64)=((G.take k).map (Jn M)).map (Value.int .i64)++[Value.int .i64 f] by
    rw[take_snoc' _ _ _ YZ,T9,T9];grind[Jn])
   have U9:=YC.o.blk 2 rfl;have S4:=U9.lt;have Uw:=bx (show∀W,Z6 wr W->ZQ W w.heap.size 1=some (.slice (some ⟨YM,VZ,none⟩) M.2.length XG)/\ZQ W lb (LS+k)=some (Z9 (a:Int))/\ZQ W YM (VZ+a)=some (Z9 f)from λW h=>
    ⟨(U9.below h U9.lt).q1,(h.cell (p:=⟨lb,LS+k,none⟩) Zl).trans af5,(h.cell (p:=⟨YM,VZ+a,none⟩) Zb).trans tY⟩)
   have Y9:=bx (show Z6 wr wr.drew from⟨rfl,rfl,rfl,Wq _,λ_ _=>rfl⟩);have Xm:=bx YC.o.drew;have WP:w.heap.size<=wr.drew.heap.size:=X3.o.size;have az4:a<M.2.length:=by grind
   have SP:k<=1000000000:=by omega
   unfold maxLen at Zk Zz;have zT:k<gc:=by omega
   have azl:a<XG:=by omega
   obtain⟨UP,Wr,rfl,J8,MF⟩:=UG (YC.o.row 0 rfl);clear Zx Zg Yn Yf YZ Yz U9 UU af5 tY YC;go_wp2_with fail;refine Vv 10 (λW=>ZQ W w.heap.size 1=some (.slice (some ⟨YM,VZ,none⟩) M.2.length XG)/\ZQ W lb (LS+k)=some (Z9 (a:Int))/\ZQ W YM (VZ+a)=some (Z9 f)) (by rfl) ?_;have Ud:=bx (Uw.o _ Y9.o);have NT:=bx (λo=>Uw.o _ (Y9.o.alloc Y9.o.size o));generalize wr.drew=Yl at *;refine Vp [0,1,2,3,4,5,6,7,8] ?_
   iterate 9 (refine Vq ?_ rfl Ud.o ?_ ?_;rotate_left;·rintro w ⟨q1,q2,q3⟩;go_simp;try with_reducible rfl)
   refine Vr ?_;refine Y1 9 rfl λY7 ZX=>?_
   go_simp;refine ZX.out _ _ (λ_=>NT.o _) ?_;clear ZX Y7;refine Y1 10 rfl λY7 ZX=>?_
   refine H6 rfl _ _ 27 rfl rW Xm.o 0 rfl (by rfl) (by rfl) rfl SP (by omega) WP ?_;rintro Zy YL Uh -;refine ZX.out _ _ (λh=>by cases h) ?_;clear ZX Y7;refine Y1 11 rfl λY7 ZX=>?_
   go_simp;refine ZX.out _ _ (λh=>by cases h) ?_;clear ZX Y7;refine kD ?_ _;rw[<-U1.o]at Uh;have Wp:=bx Uh;clear Uh
   go_wp2
   go_roundw
   ·exact⟨k+1,Zu,by go_num,Wp⟩
   grind[intOf]
  obtain rfl:k=l.length+1:=by omega
  have Jy:=bx (show G.take (l.length+1)=G by rw[<-Hb.o,OR])
  go_wp2
  go_ret2
  refine⟨X3.o,_,by rw[Yq.o];rfl,?_⟩;have:=aon (YC.o.row 0 rfl) (by rw[X4,Jy.o,Hb.o]);rw[Jy.o]at this;rw[ZK.o,Y0 rfl];unfold vE;rw[RU,jf.o];exact this
end
section
open Go
theorem aoZ(s:ByteArray)(i k:Nat)(d:UInt8)(h:(s.data.toList.drop i)[k]?=some d):(s.get! (i+k)).toNat=d.toNat/\i+k<s.size:=by
 rw[pr]at h;obtain⟨Z7,Z5⟩:=R7 h;have ZS:i+k<s.size:=by grind[ByteArray.size_data,Array.length_toList]
 refine⟨?_,ZS⟩;have e:s.get! (i+k)=s[i+k]'ZS:=by
  show s.get! (i+k)=_
  simp[ByteArray.get!,getElem!_pos,ZS]
  rfl
 rw[e]
 congr 1
theorem rx(n:Nat)(_:n<256):(U.byte (n:Int)).toNat=n:=by
 have:=U.cn (n:Int) (by omega) (by omega);grind[U.aa]
def DX(OZ Wx Xd Wk:Nat)(c1 c2 c3:Bool):Nat×Nat:=
 if OZ<128 then(OZ,1)
 else if(OZ/32==6&&c1)=true then(if OZ%32*64+Wx%64≥128 then(OZ%32*64+Wx%64,2)else(Utf8.runeError,1))
 else if(OZ/16==14&&c1&&c2)=true then(if(decide (OZ%16*4096+Wx%64*64+Xd%64≥2048)&&Utf8.valid ((OZ%16*4096+Wx%64*64+Xd%64:Nat):Int))=true then(OZ%16*4096+Wx%64*64+Xd%64,3)else(Utf8.runeError,1))
 else if(OZ/8==30&&c1&&c2&&c3)=true then(if(decide (OZ%8*262144+Wx%64*4096+Xd%64*64+Wk%64≥65536)&&Utf8.valid ((OZ%8*262144+Wx%64*4096+Xd%64*64+Wk%64:Nat):Int))=true then(OZ%8*262144+Wx%64*4096+Xd%64*64+Wk%64,4)else(Utf8.runeError,1))
 else(Utf8.runeError,1)
theorem atH(s:ByteArray)(i:Nat):Utf8.decode s i=DX (s.get! (i+0)).toNat (s.get! (i+1)).toNat (s.get! (i+2)).toNat (s.get! (i+3)).toNat
  (decide (i+1<s.size)&&(s.get! (i+1)).toNat/64==2) (decide (i+2<s.size)&&(s.get! (i+2)).toNat/64==2) (decide (i+3<s.size)&&(s.get! (i+3)).toNat/64==2):=rfl
theorem am0(n Wx Xd Wk:Nat)(c1 c2 c3:Bool)(_:n<128):DX n Wx Xd Wk c1 c2 c3=(n,1):=by grind[DX]
theorem akN(n Xd Wk:Nat)(c2 c3:Bool)(_:128<=n)(_:n<2048):DX (192+n/64) (128+n%64) Xd Wk true c2 c3=(n,2):=by
 grind[DX]
theorem aru(n Wk:Nat)(c3:Bool)(_:2048<=n)(_:n<65536)(_:Utf8.valid (n:Int)=true):DX (224+n/4096) (128+n/64%64) (128+n%64) Wk true true c3=(n,3):=by
 grind[DX]
theorem ant(n:Nat)(_:65536<=n)(_:n<1114112)(_:Utf8.valid (n:Int)=true):DX (240+n/262144) (128+n/4096%64) (128+n/64%64) (128+n%64) true true true=(n,4):=by
 unfold DX;have e:(240+n/262144)%8*262144+(128+n/4096%64)%64*4096+(128+n/64%64)%64*64+(128+n%64)%64=n:=by omega
 grind
theorem asI(n:Nat)(_:U.right (n:Int)=true):Utf8.valid (n:Int)=true:=by
 grind[U.cT,Utf8.valid]
theorem aba(s:ByteArray)(i n:Nat)(t:List UInt8)(ZT:U.right (n:Int)=true)(h:s.data.toList.drop i=U.enc (n:Int)++t):Utf8.decode s i=(n,(U.enc (n:Int)).length):=by
 have Z2:=asI n ZT;rw[U.cT]at ZT;have key:∀k d,(U.enc (n:Int))[k]?=some d->(s.get! (i+k)).toNat=d.toNat/\i+k<s.size:=λk d Z3=>aoZ s i k d (by
  rw[h,tj (R7 Z3).1];exact Z3)
 have cont:∀m,m/64=2->∀k,i+k<s.size->(decide (i+k<s.size)&&m/64==2)=true:=λm hm k Z3=>by rw[Yh Z3,hm];rfl
 rw[atH]
 by_cases Z7:n<128
 ·have e:U.enc (n:Int)=[U.byte (n:Int)]:=by unfold U.enc;rw[Y0 (by omega)]
  rw[e]at key⊢;have Zd:=(key 0 _ rfl).1;rw[rx n (by omega)]at Zd;rw[Zd,am0 _ _ _ _ _ _ _ Z7]
  rfl
 by_cases Z5:n<2048
 ·have e:U.enc (n:Int)=[U.byte ((192+n/64:Nat):Int),U.byte ((128+n%64:Nat):Int)]:=by
   unfold U.enc;rw[Y4 (by omega),Y0 (by omega)];rfl
  rw[e]at key⊢;have Zd:=(key 0 _ rfl).1;obtain⟨Zx,s1⟩:=key 1 _ rfl;rw[rx _ (by omega)]at Zd Zx;rw[Zd,Zx,cont _ (by omega) 1 s1,akN _ _ _ _ _ (by omega) Z5]
  rfl
 by_cases ZS:n<65536
 ·have e:U.enc (n:Int)=[U.byte ((224+n/4096:Nat):Int),U.byte ((128+n/64%64:Nat):Int),U.byte ((128+n%64:Nat):Int)]:=by
   unfold U.enc;rw[Y4 (by omega),Y4 (by omega),Y0 (by omega)];rfl
  rw[e]at key⊢;have Zd:=(key 0 _ rfl).1;obtain⟨Zx,s1⟩:=key 1 _ rfl;obtain⟨Zr,s2⟩:=key 2 _ rfl;rw[rx _ (by omega)]at Zd Zx Zr;rw[Zd,Zx,Zr,cont _ (by omega) 1 s1,cont _ (by omega) 2 s2,aru _ _ _ (by omega) ZS Z2]
  rfl
 have e:U.enc (n:Int)=[U.byte ((240+n/262144:Nat):Int),U.byte ((128+n/4096%64:Nat):Int),U.byte ((128+n/64%64:Nat):Int),U.byte ((128+n%64:Nat):Int)]:=by
  unfold U.enc;rw[Y4 (by omega),Y4 (by omega),Y4 (by omega)];rfl
 rw[e]at key⊢;have Zd:=(key 0 _ rfl).1;obtain⟨Zx,s1⟩:=key 1 _ rfl;obtain⟨Zr,s2⟩:=key 2 _ rfl;obtain⟨Zk,jA⟩:=key 3 _ rfl;rw[rx _ (by omega)]at Zd Zx Zr Zk;rw[Zd,Zx,Zr,Zk,cont _ (by omega) 1 s1,cont _ (by omega) 2 s2,cont _ (by omega) 3 jA,ant _ (by omega) (by omega) Z2]
 rfl
def Xw(s:List UInt8):List Int:=(U.scalars (M.fix s)).getD []
theorem Bc(s:List UInt8):U.scalars (M.fix s)=some (Xw s):=by
 obtain⟨l,h,-⟩:=M.aaz s;grind[Xw]
theorem IC(s:List UInt8):∀r∈Xw s,U.right r=true:=((U.bI _ _).1 (Bc s)).2
theorem asy(s:List UInt8):U.textOf (Xw s)=M.fix s:=((U.bI _ _).1 (Bc s)).1
def T5(t:F.Trie)(l:List Int):List Int:=l.map (F.says t)
