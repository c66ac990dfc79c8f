/- Texts of this claim. -/
import Derived.Laws.ResultCell
import Derived.Laws.AppendOwnNone
import Derived.Test.YtdponihkpomheaaGreatDoorK4

set_option maxHeartbeats 4000000
namespace Go.Proofs.YtdponihkpomheaaGreatDoor
open Go.RowKit
attribute[local go_sem] Oper.semAt_some
open Tryz
namespace F
open Go.Proofs.YtdponihkpomheaaGreatDoor
def split(c:UInt8):List UInt8->List (List UInt8)
 |[]=>[[]]
 |x::t=>if x=c then[]::split c t else match split c t with
  |[]=>[[x]]
  |h::r=>(x::h)::r
theorem aar(c:UInt8):∀l,split c l≠[]
 |[]=>by simp[split]
 |x::t=>by
  grind[split]
theorem gV{c:UInt8}:∀{m:List UInt8},(∀x∈m,x≠c)->split c m=[m]
 |[],_=>rfl
 |x::t,h=>by
  unfold split;rw[Y4 (h x (Pw ..)),gV (λy ZJ=>h y (Oj _ ZJ))]
theorem hj{c:UInt8}:∀{m:List UInt8}(t:List UInt8),(∀x∈m,x≠c)->split c (m++c::t)=m::split c t
 |[],t,_=>by
  show(if c=c then[]::split c t else match split c t with
   |[]=>[[c]]
   |h::r=>(c::h)::r)=_
  simp
 |x::m,t,h=>by
  show(if x=c then[]::split c (m++c::t)else match split c (m++c::t)with
   |[]=>[[x]]
   |h::r=>(x::h)::r)=_
  rw[Y4 (h x (Pw ..)),hj t (λy ZJ=>h y (Oj _ ZJ))]
def b1(c:UInt8)(l:List UInt8)(out:List (List UInt8))(f k:Nat):Prop:=
 f<=k/\((k<=l.length/\split c l=out++split c (l.drop f)/\∀j x,f<=j->j<k->l[j]?=some x->x≠c)\/(k=l.length+1/\split c l=out))
theorem b1.start(c:UInt8)(l:List UInt8):b1 c l [] 0 0:=⟨Wq _,.inl ⟨OQ _,rfl,λj x _ h=>by omega⟩⟩
theorem aaW{l:List UInt8}{f k:Nat}{x:UInt8}(h:x∈(l.take k).drop f):∃j,f<=j/\j<k/\l[j]?=some x:=by
 obtain⟨i,hi,e⟩:=List.getElem_of_mem h;have Z5:((l.take k).drop f)[i]?=some x:=by grind
 grind
theorem gM{l:List UInt8}{f k:Nat}(Yz:f<=k)(Z3:k<=l.length):l.drop f=(l.take k).drop f++l.drop k:=by
 conv=>lhs;rw[<-I0 k l]
 grind
theorem b1.cut{c:UInt8}{l:List UInt8}{out:List (List UInt8)}{f k:Nat}(h:b1 c l out f k)(Z3:k<l.length)(ZL:l[k]?=some c):b1 c l (out++[(l.take k).drop f]) (k+1) (k+1):=by
 obtain⟨Yz,⟨Z7,Z5,ZS⟩|⟨Z7,-⟩⟩:=h
 ·refine⟨Wq _,.inl ⟨Z3,?_,λj x a b=>by omega⟩⟩;have Zm:l.drop k=c::l.drop (k+1):=by
   rw[H9 Z3];grind
  rw[Z5,gM Yz Z7,Zm,hj _ (λx Z4=>by obtain⟨j,a,b,e⟩:=aaW Z4;grind),M8]
  rfl
 omega
theorem b1.stay{c d:UInt8}{l:List UInt8}{out:List (List UInt8)}{f k:Nat}(h:b1 c l out f k)(Z3:k<l.length)(Zm:l[k]?=some d)(ZL:d≠c):b1 c l out f (k+1):=by
 obtain⟨Yz,⟨Z7,Z5,ZS⟩|⟨Z7,-⟩⟩:=h
 ·refine⟨by omega,.inl ⟨Z3,Z5,λj x a b e=>?_⟩⟩
  grind
 omega
theorem b1.last{c:UInt8}{l:List UInt8}{out:List (List UInt8)}{f:Nat}(h:b1 c l out f l.length):b1 c l (out++[(l.take l.length).drop f]) (l.length+1) (l.length+1):=by
 obtain⟨Yz,⟨Z7,Z5,ZS⟩|⟨Z7,-⟩⟩:=h
 ·refine⟨Wq _,.inr ⟨rfl,?_⟩⟩;rw[Z5,gM Yz Z7,List.drop_length,L3,gV (λx Z4=>by obtain⟨j,a,b,e⟩:=aaW Z4;grind)]
 omega
theorem b1.done{c:UInt8}{l:List UInt8}{out:List (List UInt8)}{f:Nat}(h:b1 c l out f (l.length+1)):split c l=out:=by
 obtain⟨Yz,⟨Z7,-⟩|⟨-,Z5⟩⟩:=h
 ·omega
 exact Z5
theorem eR(c:UInt8):∀l,(split c l).length<=l.length+1
 |[]=>by simp[split]
 |x::t=>by
  have XZ:=eR c t;grind[split]
theorem dF(c:UInt8):∀l,∀p∈split c l,p.length<=l.length
 |[],p,hp=>by grind[split]
 |x::t,p,hp=>by
  have XZ:=dF c t;grind[split]
def blank(c:UInt8):Bool:=c==32||c==9||c==13
def cu:List UInt8->List UInt8
 |[]=>[]
 |x::t=>if blank x=true then cu t else x::t
def bS:Nat->List UInt8->List UInt8
 |0,l=>l
 |n+1,l=>match l.getLast? with
  |none=>l
  |some x=>if blank x=true then bS n l.dropLast else l
def trim(l:List UInt8):List UInt8:=bS (cu l).length (cu l)
theorem adT:∀l,(cu l).length<=l.length
 |[]=>Wq _
 |x::t=>by
  unfold cu
  split
  ·have:=adT t;grind
  omega
theorem abC:∀n l,(bS n l).length<=l.length
 |0,l=>Wq _
 |n+1,l=>by
  unfold bS
  split
  ·omega
  split
  ·have:=abC n l.dropLast;grind
  omega
theorem dh(l:List UInt8):(trim l).length<=l.length:=XJ (abC _ _) (adT l)
def digit(c:UInt8):Int:=
 let x:=U.aa c
 if 48<=x/\x<=57 then x-48 else if 97<=x/\x<=102 then x-97+10 else if 65<=x/\x<=70 then x-65+10 else -1
theorem asn(c:UInt8):-1<=digit c/\digit c<=15:=by
 grind[digit]
def cq:Int->List UInt8->Option Int
 |n,[]=>some n
 |n,x::t=>if digit x<0 then none else cq (16*n+digit x) t
def code(l:List UInt8):Option Int:=if 4<=l.length/\l.length<=6 then cq 0 l else none
end F
theorem Iy:Pushes prog 49 9 16:=.mk' (z:=.string ⟨#[]⟩) underlying49 (by kernel_rfl) rfl
theorem adV(l:List UInt8)(c:UInt8)(w:World)(ZY:l.length<=100000):
  Calls prog 180 #[.string (bs l),.int .u8 (U.aa c)] w λe w'=>(∃v,e=.returned v/\w'.ownsRow w.heap.size 9 1 v (F.split c l).length ((F.split c l).map Vu))/\Z6 w w':=by
 have Wy:=bx (Wu l);obtain⟨S,hS⟩:∃S,(bs l).size=S:=⟨_,rfl⟩
 have Wg:=bx (show S=l.length by rw[<-hS];rfl);have EM:S<=100000:=by rw[Wg.o];exact ZY
 have XI:=bx ((Sep.start w).aH w.heap.size 1 9)
 go_in
 go_wp2_with fail
 go_loopw[7,6,5] (λi HA o wr=>∃(k f:Nat)(out:List (List UInt8))(UP:Option Addr)(Wr:Nat),i=Z9 k/\HA=Z9 f/\o=.slice UP out.length Wr/\f<=k/\k<=S+1/\out.length<=k/\Box (F.b1 c l out f k)/\Box (Sep [Pc.row w.heap.size 9 1 (.slice UP out.length Wr) out.length (out.map Vu),Pc.old w.heap.size w] wr)) (λi _ _ _=>S+1-(intOf i).toNat)
 ·exact⟨0,0,[],none,0,rfl,rfl,rfl,Wq _,by omega,Wq _,⟨F.b1.start c l⟩,XI⟩
 obtain⟨k,f,out,UP,Wr,rfl,rfl,rfl,pQ,Z3,Hs,WF,UE⟩:=hrel;have X3:=bx (UE.o.bel (n:=w.heap.size) (W0:=w) (by simp));have WP:=X3.o.size;clear XI
 rcases Nat.lt_trichotomy k S with h|h|h
 ·obtain⟨d,Zm⟩:=Yg l k (by have:=Wg.o;omega);have C7:=Ff (P:=prog) underlying9 k Zm k rfl;have Xf:=bx Zm;have Wz:((k:Int)==(S:Int))=false:=by grind
  by_cases ZL:d=c
  ·have Zq:(U.aa d==U.aa c)=true:=by grind
   have hcut:=uN (P:=prog) (T:=9) underlying9 l f k f k rfl rfl ⟨pQ,by grind⟩;have Yq:=bx ZL;clear Zm ZL;go_wp2_with (at_builtin;refine PC rfl _ _ 49 rfl Iy UE.o 0 rfl rfl rfl rfl (by omega) (by omega) WP ?_;rintro Zy YL Uh ⟨go',TV,rfl,-,-⟩)
   have Wp:=bx (show Sep [Pc.row w.heap.size 9 1 (.slice (some ⟨go',0,none⟩) (out++[(l.take k).drop f]).length TV) (out++[(l.take k).drop f]).length ((out++[(l.take k).drop f]).map Vu),Pc.old w.heap.size w] YL by
    rw[WR,T9];exact Uh)
   clear Uh
   go_wp2
   go_roundw
   ·exact⟨k+1,k+1,out++[(l.take k).drop f],some ⟨go',0,none⟩,TV,by go_num,by go_num,by simp,Wq _,by omega,by grind,⟨WF.o.cut (by have:=Wg.o;omega) (by rw[Xf.o,Yq.o])⟩,Wp⟩
   grind[intOf]
  have Zq:(U.aa d==U.aa c)=false:=by rw[Sz];exact λe=>ZL (U.e2 e)
  have Yq:=bx ZL;clear Zm ZL
  go_wp2
  go_roundw
  ·exact⟨k+1,f,out,UP,Wr,by go_num,rfl,rfl,by omega,by omega,by omega,⟨WF.o.stay (by have:=Wg.o;omega) Xf.o Yq.o⟩,UE⟩
  grind[intOf]
 ·have Wz:((k:Int)==(S:Int))=true:=by grind
  have hcut:=uN (P:=prog) (T:=9) underlying9 l f k f k rfl rfl ⟨pQ,by have:=Wg.o;omega⟩;have Gp:=bx (show k=l.length by rw[h];exact Wg.o);have Qt:=bx h;have Iq:k<=S:=by omega
  clear h;go_wp2_with (at_builtin;refine PC rfl _ _ 49 rfl Iy UE.o 0 rfl rfl rfl rfl (by omega) (by omega) WP ?_;rintro Zy YL Uh ⟨go',TV,rfl,-,-⟩)
  have Wp:=bx (show Sep [Pc.row w.heap.size 9 1 (.slice (some ⟨go',0,none⟩) (out++[(l.take k).drop f]).length TV) (out++[(l.take k).drop f]).length ((out++[(l.take k).drop f]).map Vu),Pc.old w.heap.size w] YL by
   rw[WR,T9];exact Uh)
  clear Uh
  go_wp2
  go_roundw
  ·
   refine⟨k+1,k+1,out++[(l.take k).drop f],some ⟨go',0,none⟩,TV,by go_num,by go_num,by simp,Wq _,by omega,by grind,⟨?_⟩,Wp⟩;have:=WF.o;rw[Gp.o]at this⊢;exact this.last
  grind[intOf]
 have X9:=bx (show wr.ownsRow w.heap.size 9 1 (.slice UP out.length Wr) (F.split c l).length ((F.split c l).map Vu) by
  have Z7:=WF.o;rw[show k=l.length+1 by have:=Wg.o;omega]at Z7;rw[Z7.done];exact UE.o.row 0 rfl)
 go_wp2
 go_ret
 exact⟨⟨_,rfl,X9.o⟩,X3.o⟩
theorem uB(l:List UInt8)(c:UInt8)(w:World)(ZY:l.length<=100000):
  Calls prog 180 #[.string (bs l),.int .u8 (U.aa c)] w λe w'=>(∃v,e=.returned v/\XC w' v (F.split c l))/\Z6 w w' :=
 (adV l c w ZY).mono λ_ _ ⟨⟨v,Z7,Z5⟩,ZS⟩=>⟨⟨v,Z7,XC.au Z5 rfl⟩,ZS⟩
theorem yZ(c:UInt8)(w:World):Calls prog 258 #[.int .u8 (U.aa c)] w λe w'=>e=.returned (.bool (F.blank c))/\w=w':=by
 have e:F.blank c=(U.aa c==32||U.aa c==9||U.aa c==13):=by
  unfold F.blank;rw[<-wM,<-wM,<-wM]
  rfl
 rw[e];generalize U.aa c=x
 go_in
 go_wp2_with fail
 all_goals go_returns
 all_goals simp_all
theorem apM(c:UInt8)(w:World):Calls prog 303 #[.int .u8 (U.aa c)] w λe w'=>e=.returned (Z9 (F.digit c))/\w=w':=by
 have ZI:=U.bl c;have Z7:=U.bo c;unfold F.digit;generalize U.aa c=x at *;simp only
 go_in
 go_wp2_with fail
 all_goals go_returns
 all_goals simp
namespace F
open Go.Proofs.YtdponihkpomheaaGreatDoor
def de(l:List UInt8)(i:Nat):Bool:=(l.drop i).take 2==[46,46]
def ends(l:List UInt8):Option (Int×Int):=
 match (List.range (l.length-1)).find? (de l)with
 |some i=>match code (l.take i),code (l.drop (i+2))with
  |some a,some b=>some (a,b)
  |_,_=>none
 |none=>(code l).map λn=>(n,n)
abbrev Rec:=Nat×Int×Int×List (List UInt8)
def uE(t:List UInt8):Option (Option (Int×Int×List (List UInt8))):=
 if t=[]then some none
 else match ends (((split 59 t).map trim).headD [])with
  |none=>none
  |some (a,b)=>if b<a\/1114111<b\/((split 59 t).map trim).length<2\/21<((split 59 t).map trim).length then none else some (some (a,b,((split 59 t).map trim).tail))
def cE(s:List UInt8):Option (Option (Int×Int×List (List UInt8))):=uE (trim ((split 35 s).headD []))
theorem anB{t:List UInt8}(h:uE t=some none):t=[]:=by
 grind[uE]
theorem fI{t:List UInt8}{a b:Int}{VC:List (List UInt8)}(h:uE t=some (some (a,b,VC))):t≠[]/\ends (((split 59 t).map trim).headD [])=some (a,b)/\a<=b/\b<=1114111/\2<=((split 59 t).map trim).length/\((split 59 t).map trim).length<=21/\VC=((split 59 t).map trim).tail:=by
 grind[uE]
def bq(L:List (List UInt8)):Nat->Option (List Rec)
 |0=>some []
 |k+1=>match bq L k with
  |none=>none
  |some out=>match cE (L.getD k [])with
   |none=>none
   |some none=>some out
   |some (some r)=>if out.length=300 then none else some (out++[(k+1,r)])
def parse(s:List UInt8):Option (List Rec):=if s.length<=20000 then bq (split 10 s) (split 10 s).length else none
theorem aam{L:List (List UInt8)}{k:Nat}:∀{n:Nat}{r:List Rec},k<=n->bq L n=some r->∃q,bq L k=some q
 |0,r,Z3,h=>by
  grind
 |n+1,r,Z3,h=>by
  rcases SM n k with Z7|Z7
  ·grind
  unfold bq at h
  cases hp:bq L n with
  |none=>grind
  |some q=>exact aam Z7 hp
def valueOf(names:List (List UInt8))(x:List UInt8):Option Nat:=names.findIdx? (·==x)
def letter(c:UInt8):Bool:=
 let x:=U.aa c
 decide (97<=x)&&decide (x<=122)||decide (65<=x)&&decide (x<=90)||decide (48<=x)&&decide (x<=57)||decide (x=95)
def adY(names:List (List UInt8))(i:Nat):Bool:=
 let x:=names.getD i []
 x.all letter&&(valueOf (names.take i) x).isNone&&decide (x≠[])&&decide (x.length<=40)
def cc(names:List (List UInt8)):Bool:=(List.range names.length).all (adY names)&&decide (1<=names.length)&&decide (names.length<=32)
abbrev ag:=Int×Int×Int
def cW(x:ag):Bool:=decide (0<=x.1)&&decide (x.1<=x.2.1)&&decide (x.2.1<=1114111)&&decide (0<=x.2.2)&&decide (x.2.2<=31)
def bB(l:List ag):Bool:=(List.range l.length).all (λi=>cW (l.getD i (0,0,0))&&(decide (i=0)||decide ((l.getD (i-1) (0,0,0)).2.1<(l.getD i (0,0,0)).1)))&&decide (l.length<=600)
def lap(x y:ag):Bool:=decide (x.1<=y.2.1)&&decide (y.1<=x.2.1)
def dd(l:List ag)(x:ag):List ag:=l.takeWhile (λy=>decide (y.1<x.1))++x::l.dropWhile (λy=>decide (y.1<x.1))
def b7(l:List ag):Nat->Option (List ag)
 |0=>some []
 |i+1=>match b7 l i with
  |none=>none
  |some out=>if(List.range i).any (λk=>lap (l.getD i (0,0,0)) (l.getD k (0,0,0)))=true then none else some (dd out (l.getD i (0,0,0)))
def dA(l:List ag):Option (List ag):=if l.all cW=true/\l.length<=600 then b7 l l.length else none
def cf(l:List ag)(x:ag):List ag:=match l.getLast? with
 |none=>l++[x]
 |some y=>if y.2.1+1=x.1/\y.2.2=x.2.2 then l.dropLast++[(y.1,x.2.1,y.2.2)]else l++[x]
def cG(l:List ag):Nat->List ag
 |0=>[]
 |i+1=>cf (cG l i) (l.getD i (0,0,0))
def cd(names:List (List UInt8))(loose:Bool)(rs:List Rec):Nat->Option (List ag)
 |0=>some []
 |k+1=>match cd names loose rs k with
  |none=>none
  |some out=>match valueOf names ((rs.getD k (0,0,0,[])).2.2.2.headD [])with
   |none=>if loose=true then some out else none
   |some v=>if(dA (out++[((rs.getD k (0,0,0,[])).2.1,(rs.getD k (0,0,0,[])).2.2.1,(v:Int))])).isSome=true then some (out++[((rs.getD k (0,0,0,[])).2.1,(rs.getD k (0,0,0,[])).2.2.1,(v:Int))])else none
def cx(file:List UInt8)(names:List (List UInt8))(loose:Bool):Option (List ag):=
 match parse file with
 |none=>none
 |some rs=>match cd names loose rs rs.length with
  |none=>none
  |some out=>match dA out with
   |none=>none
   |some m=>if bB m=true then some (cG m m.length)else none
abbrev Trie:=List Int×List (List Int)
def bw(l:List ag)(r:Int):Int:=match l.reverse.find? (λx=>decide (x.1<=r)&&decide (r<=x.2.1))with
 |some x=>x.2.2
 |none=>0
def bm(l:List ag)(row:Nat):List Int:=(List.range 256).map λj=>bw l ((row*256+j:Nat):Int)
def bU(t:Trie)(b:List Int):Trie:=match t.2.findIdx? (·==b)with
 |some i=>(t.1++[(i:Int)],t.2)
 |none=>(t.1++[(t.2.length:Int)],t.2++[b])
def bj(l:List ag):Nat->Trie
 |0=>([],[])
 |k+1=>bU (bj l k) (bm l k)
def aC(l:List ag):Trie:=bj l 4352
def aE(t:Trie):Bool:=decide (t.1.length=4352)&&t.1.all (λn=>decide (0<=n)&&decide (n<t.2.length))&&t.2.all (λb=>decide (b.length=256)&&b.all λv=>decide (0<=v)&&decide (v<=31))
def says(t:Trie)(r:Int):Int:=(t.2.getD (t.1.getD (r.toNat/256) 0).toNat []).getD (r.toNat%256) 0
structure Built(l:List ag)(k:Nat)(t:Trie):Prop where
 len:t.1.length=k
 at':∀i,i<k->∃n:Nat,t.1[i]?=some (n:Int)/\t.2[n]?=some (bm l i)
 all:∀b∈t.2,∃i,i<k/\b=bm l i
 few:t.2.length<=k
theorem built(l:List ag):∀k,Built l k (bj l k)
 |0=>⟨rfl,λi h=>by omega,λb h=>absurd h RH,Wq _⟩
 |k+1=>by
  have XZ:=built l k;show Built l (k+1) (bU (bj l k) (bm l k))
  generalize bj l k=t at XZ;unfold bU
  split
  ·rename_i i h
   obtain⟨hi,Z8,-⟩:=List.findIdx?_eq_some_iff_getElem.1 h;have Zz:t.2[i]?=some (bm l k):=by grind
   refine⟨by simp[XZ.len],λj YO=>?_,λb Z8=>?_,by have:=XZ.few;grind⟩
   ·rcases SM j k with Z7|Z7
    ·obtain⟨n,Zq,YP⟩:=XZ.at' j Z7;grind
    obtain rfl:j=k:=by omega
    exact⟨i,by simp only;rw[Fz (by rw[XZ.len];omega),XZ.len];simp,Zz⟩
   obtain⟨j,Zq,YP⟩:=XZ.all b Z8;grind
  refine⟨by simp[XZ.len],λj YO=>?_,λb Z8=>?_,by have:=XZ.few;grind⟩
  ·rcases SM j k with Z7|Z7
   ·obtain⟨n,Zq,YP⟩:=XZ.at' j Z7;grind
   obtain rfl:j=k:=by omega
   exact⟨t.2.length,by simp only;rw[Fz (by rw[XZ.len];omega),XZ.len];simp,by simp⟩
  rcases Nb.1 Z8 with Z7|Z7
  ·obtain⟨j,Zq,YP⟩:=XZ.all b Z7;grind
  grind
theorem e5(l:List ag)(r:Nat)(ZT:r/256<4352):says (aC l) (r:Int)=bw l (r:Int):=by
 obtain⟨n,Z7,Z5⟩:=(built l 4352).at' (r/256) ZT;have Zq:(aC l).1.getD (r/256) 0=(n:Int):=by simp_all[aC]
 have YP:(aC l).2.getD n []=bm l (r/256):=by simp_all[aC]
 unfold says;rw[RU,Zq,RU,YP,Rl];unfold bm;grind
theorem awq{l:List ag}(h:∀x∈l,0<=x.2.2/\x.2.2<=31)(r:Int):0<=bw l r/\bw l r<=31:=by
 grind[bw]
theorem eM{l:List ag}(h:∀x∈l,0<=x.2.2/\x.2.2<=31):aE (aC l)=true:=by
 have Z8:=built l 4352;unfold aE;simp only[Vm,SS,QG];refine⟨⟨Z8.len,λn ZP=>?_⟩,λb F5=>?_⟩
 ·obtain⟨i,hi,e⟩:=List.getElem_of_mem ZP;have QZ:i<4352:=by have:=Z8.len;unfold aC at hi;omega
  obtain⟨m,Z7,Z5⟩:=Z8.at' i QZ;have:(aC l).1[i]?=some n:=by grind
  unfold aC at this;rw[this]at Z7
  cases Z7;have:=(R7 Z5).1;unfold aC;omega
 obtain⟨i,-,rfl⟩:=Z8.all b F5;refine⟨by unfold bm;simp,λv Z2=>?_⟩;unfold bm at Z2;obtain⟨j,-,rfl⟩:=SL.1 Z2;exact awq h _
end F
def yr(v:Value):Nat:=match v with|.string s=>s.size|_=>0
theorem aaM{m:List UInt8}{x:UInt8}(h:m.getLast?=some x)(Z8:F.blank x=true):F.bS m.length m=F.bS m.dropLast.length m.dropLast:=by
 obtain⟨n,ZP⟩:∃n,m.length=n+1:=by
  cases m with
  |nil=>grind
  |cons a t=>simp
 rw[List.length_dropLast,ZP,show n+1-1=n by omega]
 conv=>lhs;unfold F.bS
 grind
theorem ace{m:List UInt8}{x:UInt8}(h:m.getLast?=some x)(Z8:F.blank x=false):F.bS m.length m=m:=by
 obtain⟨n,ZP⟩:∃n,m.length=n+1:=by
  cases m with
  |nil=>grind
  |cons a t=>simp
 grind[F.bS]
theorem List.abu{a b:List UInt8}{n:Nat}(h:n=a.length):(a++b).take n=a:=by grind
theorem zh(l:List UInt8)(w:World)(ZY:l.length<=100000):
  Calls prog 181 #[.string (bs l)] w λe w'=>e=.returned (.string (bs (F.trim l)))/\w=w':=by
 go_in
 go_wp2_with fail
 go_loop[0] (λv=>∃m:List UInt8,v=.string (bs m)/\m.length<=100000/\Box (F.cu m=F.cu l)) (λv=>yr v)
 ·exact⟨l,rfl,ZY,⟨rfl⟩⟩
 obtain⟨m,rfl,hm,Io⟩:=hrel
 cases m with
 |nil=>
  have Su:=bx (show F.bS ([]:List UInt8).length []=F.trim l by unfold F.trim;rw[<-Io.o];rfl);have Hw:=D3;go_wp2_with fail
  go_loop[0] (λv=>∃q:List UInt8,v=.string (bs q)/\q.length<=100000/\Box (F.bS q.length q=F.trim l)) (λv=>yr v)
  ·grind
  obtain⟨q,rfl,Zs,D1⟩:=hrel
  rcases List.eq_nil_or_concat q with rfl|⟨r,x,rfl⟩
  ·have Y8:=bx (show F.trim l=[] by rw[<-D1.o];rfl);have Hw:=D3
   go_wp2
   go_ret
   exact⟨by rw[Y8.o];rfl,rfl⟩
  rw[List.concat_eq_append]at Zs D1⊢;have tR:(r++[x]).getLast?=some x:=by simp
  have Xq:=EZ (l:=r++[x]) (by simp);have W1:(bs (r++[x])).size=r.length+1:=by rw[Wu];simp
  have C7:=Ff (P:=prog) (l:=r++[x]) underlying9 r.length (d:=x) (by simp) (r.length:Int) rfl;have Im:=Cq (P:=prog) (T:=9) underlying9 (r++[x]) r.length (r.length:Int) rfl (by simp);have zJ:r.length<=99999:=by grind
  rw[List.abu rfl]at Im
  rcases Bool.eq_false_or_eq_true (F.blank x)with Z8|Z8
  ·have Y8:=bx (show F.bS r.length r=F.trim l by
    have h:=aaM tR Z8;rw[List.dropLast_concat]at h;rw[<-h];exact D1.o)
   have V3:=bx Z8;go_wp2_with fail;refine YW (yZ _ _) ?_;rw[V3.o];go_wp2_with fail
   go_round
   ·grind
   simp[yr,Wu]
  have Y8:=bx (show F.trim l=r++[x] by rw[<-D1.o];exact ace tR Z8);have V3:=bx Z8;go_wp2_with fail;refine YW (yZ _ _) ?_;rw[V3.o]
  go_wp2
  go_ret
  exact⟨by rw[Y8.o];rfl,rfl⟩
 |cons x t=>
  have Xq:=EZ (l:=x::t) (by simp);have C7:=Ff (P:=prog) (l:=x::t) underlying9 0 (d:=x) rfl 0 rfl;have W1:(bs (x::t)).size=t.length+1:=Wu _;have e:F.cu (x::t)=if F.blank x=true then F.cu t else x::t:=rfl
  rcases Bool.eq_false_or_eq_true (F.blank x)with Z8|Z8
  ·have Y8:=bx (show F.cu t=F.cu l by rw[<-Io.o,e,Y0 Z8]);have N8:=yL (P:=prog) (T:=9) underlying9 (x::t) 1 1 rfl (by simp);have V3:=bx Z8;go_wp2_with fail;refine YW (yZ _ _) ?_;rw[V3.o];go_wp2_with fail
   go_round
   ·grind
   simp[yr,Wu]
  have Su:=bx (show F.bS (x::t).length (x::t)=F.trim l by unfold F.trim;rw[<-Io.o,e,Y4 (by grind)]);have V3:=bx Z8;go_wp2_with fail;refine YW (yZ _ _) ?_;rw[V3.o];go_wp2_with fail
  go_loop[0] (λv=>∃q:List UInt8,v=.string (bs q)/\q.length<=100000/\Box (F.bS q.length q=F.trim l)) (λv=>yr v)
  ·grind
  obtain⟨q,rfl,Zs,D1⟩:=hrel
  rcases List.eq_nil_or_concat q with rfl|⟨r,x,rfl⟩
  ·have Y8:=bx (show F.trim l=[] by rw[<-D1.o];rfl);have Hw:=D3
   go_wp2
   go_ret
   exact⟨by rw[Y8.o];rfl,rfl⟩
  rw[List.concat_eq_append]at Zs D1⊢;have tR:(r++[x]).getLast?=some x:=by simp
  have Xq:=EZ (l:=r++[x]) (by simp);have W1:(bs (r++[x])).size=r.length+1:=by rw[Wu];simp
  have C7:=Ff (P:=prog) (l:=r++[x]) underlying9 r.length (d:=x) (by simp) (r.length:Int) rfl;have Im:=Cq (P:=prog) (T:=9) underlying9 (r++[x]) r.length (r.length:Int) rfl (by simp);have zJ:r.length<=99999:=by grind
  rw[List.abu rfl]at Im
  rcases Bool.eq_false_or_eq_true (F.blank x)with Z8|Z8
  ·have Y8:=bx (show F.bS r.length r=F.trim l by
    have h:=aaM tR Z8;rw[List.dropLast_concat]at h;rw[<-h];exact D1.o)
   have V3:=bx Z8;go_wp2_with fail;refine YW (yZ _ _) ?_;rw[V3.o];go_wp2_with fail
   go_round
   ·grind
   simp[yr,Wu]
  have Y8:=bx (show F.trim l=r++[x] by rw[<-D1.o];exact ace tR Z8);have V3:=bx Z8;go_wp2_with fail;refine YW (yZ _ _) ?_;rw[V3.o]
  go_wp2
  go_ret
  exact⟨by rw[Y8.o];rfl,rfl⟩
def capD:Nat->Int
 |0=>0
 |k+1=>16*capD k+15
theorem akL(k:Nat)(h:k<=6):0<=capD k/\capD k<=16777215:=by
 rcases(show k=0\/k=1\/k=2\/k=3\/k=4\/k=5\/k=6 by omega)with rfl|rfl|rfl|rfl|rfl|rfl|rfl <;> decide
def sv(o:Option Int):Value:=match o with
 |some n=>.tuple #[Z9 n,.bool true]
 |none=>.tuple #[Z9 0,.bool false]
theorem sy(l:List UInt8)(w:World)(ZY:l.length<=100000):
  Calls prog 267 #[.string (bs l)] w λe w'=>e=.returned (sv (F.code l))/\w=w':=by
 obtain⟨S,hS⟩:∃S,(bs l).size=S:=⟨_,rfl⟩
 have Wg:=bx (show S=l.length by rw[<-hS];rfl);have EM:S<=100000:=by rw[Wg.o];exact ZY
 by_cases h46:4<=S/\S<=6
 rotate_left
 ·have Yq:=bx (show F.code l=none by unfold F.code;rw[<-Wg.o,Y4 h46]);have an9:S<4\/(4<=S/\6<S):=by omega
  rcases an9 with h|⟨h,TB⟩
  all_goals
   go_in
   go_wp2
   go_ret2
   exact⟨by rw[Yq.o];rfl,rfl⟩
 have Yq:=bx (show F.code l=F.cq 0 l by unfold F.code;rw[<-Wg.o,Y0 h46]);obtain⟨ZG,Yu⟩:=h46
 go_in
 go_wp2_with fail
 go_loop[5,4] (λi n=>∃(k:Nat)(x:Int),k<=S/\i=Z9 k/\n=Z9 x/\0<=x/\x<=16777215/\Box (x<=capD k)/\Box (F.cq x (l.drop k)=F.cq 0 l)) (λi _=>S-(intOf i).toNat)
 ·exact⟨0,0,by omega,rfl,rfl,by omega,by omega,⟨Int.le_refl _⟩,⟨rfl⟩⟩
 obtain⟨k,x,Z3,rfl,rfl,Hn,KX,Dd,MG⟩:=hrel
 by_cases Zu:k<S
 ·have PI:k<l.length:=by rw[<-Wg.o];omega
  obtain⟨d,Zm⟩:=Yg l k PI;have C7:=Ff (P:=prog) underlying9 k Zm k rfl;have uc:l.drop k=d::l.drop (k+1):=by
   rw[H9 PI];grind
  have e:F.cq x (d::l.drop (k+1))=if F.digit d<0 then none else F.cq (16*x+F.digit d) (l.drop (k+1)):=rfl
  have Wh:=bx (show(if F.digit d<0 then none else F.cq (16*x+F.digit d) (l.drop (k+1)))=F.cq 0 l by rw[<-e,<-uc];exact MG.o);obtain⟨d0,d1⟩:=F.asn d;have Xf:=bx (apM d);generalize F.digit d=y at Wh Xf d0 d1
  rcases PX y 0 with ZJ|ZJ
  ·have ZE:=bx (show F.code l=none by rw[Yq.o,<-Wh.o,Y0 ZJ]);go_wp2_with fail;refine YW (Xf.o _) ?_
   go_wp2
   go_ret2
   exact⟨by rw[ZE.o];rfl,rfl⟩
  have ZE:=bx (show F.cq (16*x+y) (l.drop (k+1))=F.cq 0 l by rw[<-Wh.o,Y4 (by omega)]);have Au:=bx (show 16*x+y<=capD (k+1) by have:=Dd.o;show 16*x+y<=16*capD k+15;omega);have VM:=Int.le_trans Au.o (akL (k+1) (by omega)).2;go_wp2_with fail;refine YW (Xf.o _) ?_;go_wp2_with fail
  go_round
  ·exact⟨k+1,16*x+y,by omega,by go_num,by go_num,by omega,VM,Au,ZE⟩
  grind[intOf]
 have ZE:=bx (show F.code l=some x by
  rw[Yq.o,<-MG.o,Gr (by rw[<-Wg.o];omega)]
  rfl)
 go_wp2
 go_ret2
 exact⟨by rw[ZE.o];rfl,rfl⟩
theorem al2{q:Nat->Bool}{n:Nat}(h:∀i,i<n->q i=false):(List.range n).find? q=none:=by
 grind
theorem amo(q:Nat->Bool):∀n k,k<n->q k=true->(∀i,i<k->q i=false)->(List.range n).find? q=some k
 |0,_,h,_,_=>by omega
 |n+1,k,h,Z3,hi=>by
  simp_all
theorem asX(l:List UInt8)(a b:Int)(w:World)(ZY:l.length<=100000)(YB:F.ends l=some (a,b)):
  Calls prog 295 #[.string (bs l)] w λe w'=>e=.returned (.tuple #[Z9 a,Z9 b,.bool true])/\w=w':=by
 obtain⟨S,hS⟩:∃S,(bs l).size=S:=⟨_,rfl⟩
 have Wg:=bx (show S=l.length by rw[<-hS];rfl);have EM:S<=100000:=by rw[Wg.o];exact ZY
 have PS:=bx YB;clear YB
 go_in
 go_wp2_with fail
 go_loop[5] (λi=>∃k:Nat,k<=S/\i=Z9 k/\Box (∀j,j<k->F.de l j=false)) (λi=>S-(intOf i).toNat)
 ·exact⟨0,by omega,rfl,⟨λj h=>by omega⟩⟩
 obtain⟨k,Z3,rfl,XF⟩:=hrel
 by_cases Zu:k+2<=S
 ·have hcut:=uN (P:=prog) (T:=9) underlying9 l k (k+2) (k:Int) ((k:Int)+2) rfl (by omega) ⟨by omega,by have:=Wg.o;omega⟩;obtain⟨X,TM⟩:∃X,(l.take (k+2)).drop k=X:=⟨_,rfl⟩
  have M7:=bx (show F.de l k=(X==[46,46]) by
   grind[F.de,List.take_drop,Nat.add_comm])
  rw[TM]at hcut;clear TM
  rcases Bool.eq_false_or_eq_true (X==[46,46])with Zm|Zm
  ·have Z4:X=[46,46]:=by grind
   have Yt:=bx (show(List.range (l.length-1)).find? (F.de l)=some k from amo _ _ k (by have:=Wg.o;omega) (by rw[M7.o,Zm]) XF.o);have zY:((bs X).toList==[46,46])=true:=by grind[He]
   clear Z4;have Im:=Cq (P:=prog) (T:=9) underlying9 l k (k:Int) rfl (by have:=Wg.o;omega);have N8:=yL (P:=prog) (T:=9) underlying9 l (k+2) ((k:Int)+2) (by omega) (by have:=Wg.o;omega);have VO:=bx (λW=>sy (l.take k) W (by grind));have Lq:=bx (λW=>sy (l.drop (k+2)) W (by grind));have LQ:=bx (show F.code (l.take k)=some a/\F.code (l.drop (k+2))=some b by
    have h:=PS.o;unfold F.ends at h;rw[Yt.o]at h;grind)
   rw[LQ.o.1]at VO;rw[LQ.o.2]at Lq;unfold sv at VO Lq;simp only at VO Lq;clear Zm;go_wp2_with fail;refine YW (VO.o _) ?_;go_wp2_with fail;refine YW (Lq.o _) ?_;go_wp2_with fail
   go_ret3
   simp
  have ZE:=bx (show∀j,j<k+1->F.de l j=false from λj YO=>by
   rcases SM j k with Z7|Z7
   ·exact XF.o j Z7
   obtain rfl:j=k:=by omega
   rw[M7.o,Zm])
  have zY:((bs X).toList==[46,46])=false:=by grind[He]
  clear Zm;go_wp2_with fail
  go_round
  ·exact⟨k+1,by omega,by go_num,ZE⟩
  grind[intOf]
 have Yt:=bx (show(List.range (l.length-1)).find? (F.de l)=none from al2 (λi hi=>XF.o i (by have:=Wg.o;omega)));have VO:=bx (λW=>sy l W ZY);have LQ:=bx (show F.code l=some a/\a=b by
  have h:=PS.o;unfold F.ends at h;rw[Yt.o]at h;simp_all)
 rw[LQ.o.1]at VO;unfold sv at VO;simp only at VO;go_wp2_with fail;refine YW (VO.o _) ?_;go_wp2_with fail
 go_ret3
 exact⟨by rw[<-LQ.o.2];rfl,rfl⟩
theorem sA{w:World}{base n:Nat}{e:TypeId}{v:Value}{xs:List Value}(h:w.ownsRow base e 1 v n xs)(ZP:0<n):∃(g ZU:Nat)(VY:Array Value),v=.slice (some ⟨g,0,none⟩) n ZU/\base<=g/\n<=ZU/\ZU<=9223372036854775807/\Zv w g e VY/\∀(i:Nat)(x:Value),xs[i]?=some x->VY[i]?=some x:=by
 rcases h.2 with⟨-,ZI⟩|⟨g,ZU,VY,rfl,Z5,ZS,ZG,Zi,Yu,VV⟩
 ·omega
 refine⟨g,ZU,VY,rfl,Z5,ZG,by grind[maxLen],ZS,λi x Z4=>?_⟩;grind
theorem awo{w:World}{base n:Nat}{e:TypeId}{v:Value}{xs:List Value}(h:w.ownsRow base e 1 v n xs){g:Nat}(ZH:v.ownBlock=some g)(i:Nat)(hi:i<n)(u:Value):(w.setCell ⟨g,i,none⟩ u).ownsRow base e 1 v n (xs.set i u):=by
 refine⟨by rw[List.length_set];exact h.1,?_⟩
 rcases h.2 with⟨-,ZI⟩|⟨Ui,ZU,VY,rfl,Z5,ZS,ZG,Zi,Yu,VV⟩
 ·omega
 simp[Value.ownBlock]at ZH;subst ZH;refine .inr ⟨Ui,ZU,VY.setIfInBounds i u,rfl,Z5,Zv.ai (w:=w) (t:=e) ZS i u,ZG,Zi,by grind,?_⟩;rw[Array.toList_setIfInBounds,<-VV]
 apply List.ext_getElem?
 grind
theorem Sep.setRow'{W:World}{ps:List Pc}(h:Sep ps W)(k:Nat){base n:Nat}{e:TypeId}{v:Value}{xs:List Value}(Z3:ps[k]?=some (Pc.row base e 1 v n xs)){g:Nat}(ZH:v.ownBlock=some g)(i:Nat)(hi:i<n)(u:Value):
  Sep (ps.set k (Pc.row base e 1 v n (xs.set i u))) (W.setCell ⟨g,i,none⟩ u):=
 h.upd (own:=λq=>q=g) k Z3 (Turns.setCell (own:=λq=>q=g) W (p:=⟨g,i,none⟩) rfl u) (λq Zs _=>by subst Zs;exact ZH) (awo (h.row k Z3) ZH i hi u) (λq Zs=>.inl Zs)
theorem qS(c:UInt8)(l:List UInt8):∃h t,F.split c l=h::t/\h.length<=l.length:=by
 cases Z0:F.split c l with
 |nil=>exact absurd Z0 (F.aar c l)
 |cons h t=>exact⟨h,t,rfl,F.dF c l h (by grind)⟩
theorem Ab{P:Program}{fn:Func}{p u u2:Tmp}{ty:TypeId}(h:fn.results=#[.cell p ty,.tmp u,.tmp u2])(tmps:Array Value)(w:World)(g:Nat)(t:TypeId)(cs:Array Value)(HA:Nat×Nat)(d:TypeDesc)(hp:tmps.getD p undef=Zn g)(ZH:w.heap[g]?=some (.cells cs t HA))(hu:P.underlying ty=some d)(Zm:(match d with|.struct _|.array _ _=>true|_=>false)=true)(hi:(P.info? ty).map (·.size)=some cs.size):
  (results fn tmps).run P w=.ok (.tuple #[.agg cs,tmps.getD u undef,tmps.getD u2 undef]) w:=by
 have tN:tmps[p]?.getD undef=Zn g:=by simp_all
 simp[results,h,tN,asAddr,run_loadVar_row w g t ty cs HA d ZH hu Zm hi,Result.andThen]
theorem recInfo:(prog.info? 242).map (·.size)=some 4:=by kernel_rfl
theorem alD(l:List UInt8)(w:World)(ZY:l.length<=20000)(YB:F.cE l=some none):
  Calls prog 254 #[.string (bs l)] w λe w'=>e=.returned (.tuple #[.agg #[Z9 0,Z9 0,Z9 0,Z1],.bool false,Z9 0])/\Z6 w w':=by
 obtain⟨h,t,Z0,hl⟩:=qS 35 l;have Y8:=bx (show F.trim h=[] by
  unfold F.cE at YB;rw[Z0]at YB;exact F.anB YB)
 obtain⟨ZV,N5⟩:∃ZV,ZV=w.alloc (.cells #[Z9 0,Z9 0,Z9 0,Z1] 242):=⟨_,rfl⟩
 have ZZ:Z6 w ZV:=by rw[N5];exact(Below.refl _ _).alloc Ys _
 have ZW:=bx ZZ;have T6:=bx (aK N5);have Qx:=bx (show Calls prog 180 #[.string (bs l),.int .u8 35] ZV λe w'=>(∃v,e=.returned v/\XC w' v (F.split 35 l))/\Z6 ZV w' from uB l 35 ZV (by omega));rw[Z0]at Qx;have Su:=bx (λW=>zh h W (by omega));rw[Y8.o]at Su;have QL:=bx N5;clear ZZ N5 YB Z0
 go_in
 go_upto_region 1 with(fail)
 rw[<-QL.o];go_wp2_with fail;refine Qx.o.mono ?_;rintro e ZB ⟨⟨v,rfl,Z2⟩,Zz⟩;obtain⟨g,off,ZU,rfl,Z5,ZS,ZG,Zi⟩:=Z2.get (by simp);have ZL:=Zi 0 h rfl;rw[Nat.add_zero]at ZL;have Nj:=T6.o.below Zz T6.o.lt;have Oi:=bx Nj;have Zt:=Zw ZW Zz;unfold maxLen at ZS;rw[U3]at Z5⊢;clear Zz Z2 Zi Nj;go_wp2_with fail;refine YW (Su.o _) ?_;have Hw:=D3;have Zd:=(Oi.o.cell 0).trans (show _=some (Value.int .i64 0)from rfl);have Zx:=(Oi.o.cell 1).trans (show _=some (Value.int .i64 0)from rfl);have Zr:=(Oi.o.cell 2).trans (show _=some (Value.int .i64 0)from rfl);have Zk:=(Oi.o.cell 3).trans (show _=some (Value.slice none 0 0)from rfl);have f0:=Oi.o.frozen 0;have f1:=Oi.o.frozen 1;have f2:=Oi.o.frozen 2;have f3:=Oi.o.frozen 3;have R3:=Oi.o.lt;go_wp2_with fail;exact bodyPost_ret (v:=.tuple #[.agg #[Z9 0,Z9 0,Z9 0,Z1],.bool false,Z9 0]) (Ab results254 _ _ w.heap.size 242 #[Z9 0,Z9 0,Z9 0,Z1] (0,0) _ rfl ((((Oi.o.ai 0 (Z9 0)).ai 1 (Z9 0)).ai 2 (Z9 0)).ai 3 Z1) underlying242 rfl recInfo) rfl
  ⟨rfl,(((Zt.o.setCell Ys _).setCell Ys _).setCell Ys _).setCell Ys _⟩
def IP{α:Type}(f:α->α)(P:List α)(k:Nat):List α:=(P.take k).map f++P.drop k
theorem aqD{α:Type}(f:α->α)(P:List α):IP f P P.length=P.map f:=by simp[IP]
theorem alF{α:Type}(f:α->α)(P:List α)(k:Nat):(IP f P k)[k]?=P[k]?:=by
 grind[IP]
theorem atw{α:Type}(f:α->α)(P:List α)(k:Nat){x:α}(h:P[k]?=some x):(IP f P k).set k (f x)=IP f P (k+1):=by
 have Z3:=(R7 h).1;have Zm:P.drop k=x::P.drop (k+1):=by
  rw[H9 Z3,(R7 h).2]
 unfold IP;have ZI:k-((P.take k).map f).length=0:=by grind
 grind
theorem asa(l:List UInt8)(a b:Int)(VC:List (List UInt8))(w:World)(ZY:l.length<=20000)(YB:F.cE l=some (some (a,b,VC))):
  Calls prog 254 #[.string (bs l)] w λe w'=>(∃Za,e=.returned (.tuple #[.agg #[.int .i64 0,.int .i64 a,.int .i64 b,Za],.bool true,.int .i64 0])/\XC w' Za VC/\∀g,Za.ownBlock=some g->w.heap.size<=g/\g<w'.heap.size)/\Z6 w w':=by
 obtain⟨h,t,Z0,hl⟩:=qS 35 l;unfold F.cE at YB;rw[Z0,List.headD_cons]at YB;obtain⟨T,Yo⟩:∃T,F.trim h=T:=⟨_,rfl⟩
 have p4:T.length<=20000:=by rw[<-Yo];have:=F.dh h;omega
 rw[Yo]at YB;obtain⟨Xq,Bb,QK,Z8,Z5,afN,C8⟩:=F.fI YB;obtain⟨P,TU⟩:∃P,F.split 59 T=P:=⟨_,rfl⟩
 rw[TU,X4]at Z5 afN;rw[TU]at Bb C8;have VB:=bx (show∀x∈P,x.length<=20000 from λx Z4=>by have:=F.dF 59 T x (by grind);omega);obtain⟨m,hm⟩:∃m,P.length=m:=⟨_,rfl⟩
 rw[hm]at Z5 afN;obtain⟨ZV,N5⟩:∃ZV,ZV=w.alloc (.cells #[.int .i64 0,.int .i64 0,.int .i64 0,.slice none 0 0] 242):=⟨_,rfl⟩
 have ZZ:Z6 w ZV:=by rw[N5];exact(Below.refl _ _).alloc Ys _
 have ZW:=bx ZZ;have T6:=bx (aK N5);have Qx:=bx (show Calls prog 180 #[.string (bs l),.int .u8 35] ZV λe w'=>(∃v,e=.returned v/\XC w' v (F.split 35 l))/\Z6 ZV w' from uB l 35 ZV (by omega));rw[Z0]at Qx;have Su:=bx (λW=>zh h W (by omega));rw[Yo]at Su;have ac7:=bx (λW=>(show Calls prog 180 #[.string (bs T),.int .u8 59] W λe w'=>(∃v,e=.returned v/\w'.ownsRow W.heap.size 9 1 v (F.split 59 T).length ((F.split 59 T).map Vu))/\Z6 W w' from adV T 59 W (by omega)));rw[TU,hm]at ac7;have QL:=bx N5;have Mr:=bx Xq;have apY:=bx Bb;have U2:=bx C8;have W3:=bx hm;clear ZZ N5 YB Z0 Yo TU Xq Bb C8 hm
 go_in
 go_upto_region 1 with(fail)
 rw[<-QL.o];go_wp2_with fail;refine Qx.o.mono ?_;rintro e ZB ⟨⟨v,rfl,Z2⟩,Zz⟩;obtain⟨g,off,ZU,rfl,q2,q3,q4,q5⟩:=Z2.get (by simp);have ZL:=q5 0 h rfl;rw[Nat.add_zero]at ZL;have Oi:=T6.ub Zz;have Zt:=Zw ZW Zz;unfold maxLen at q3;rw[U3]at q2⊢;clear Zz Z2 q5;go_wp2_with fail;refine YW (Su.o _) ?_;have Hw:=EZ Mr.o;clear ZL q2 q3 q4;go_wp2_with fail;refine(ac7.o _).mono ?_;rintro e Zh ⟨⟨v,rfl,Wo⟩,Zb⟩;obtain⟨g2,XV,VY,rfl,r1,r2,r3,-,-⟩:=sA Wo (by omega);have XI:=bx (show Sep [Pc.row ZB.heap.size 9 1 (.slice (some ⟨g2,0,none⟩) m XV) m ((IP F.trim P 0).map Vu),Pc.old ZB.heap.size ZB] Zh from(Sep.start ZB).got Zb Wo Ys);clear Wo Zb Hw;go_wp2_with fail
 go_loopw[7] (λi wr=>∃k:Nat,k<=m/\i=.int .i64 k/\Box (Sep [Pc.row ZB.heap.size 9 1 (.slice (some ⟨g2,0,none⟩) m XV) m ((IP F.trim P k).map Vu),Pc.old ZB.heap.size ZB] wr)) (λi _=>m-(intOf i).toNat)
 ·grind
 obtain⟨k,Z3,rfl,UE⟩:=hrel;have X3:=bx (UE.o.bel (n:=ZB.heap.size) (W0:=ZB) (by simp));clear XI;obtain⟨Ui,cap',VY,Zq,s1,s2,jA,XY,Kg⟩:=sA (UE.o.row 0 rfl) (by omega);obtain⟨rfl,rfl⟩:g2=Ui/\XV=cap':=by grind
 by_cases Zu:k<m
 ·obtain⟨x,Z4⟩:=Yg P k (by have:=W3.o;omega);have Q0:=(XY.cell k).trans (Kg k (.string (bs x)) (by rw[RX,alF,Z4];rfl));have pQ:=XY.frozen k;have Ug:=XY.lt;have PV:=bx (λW=>zh x W (by have:=VB.o x (Xh Z4);omega));have S6:=bx (show Sep [Pc.row ZB.heap.size 9 1 (.slice (some ⟨g2,0,none⟩) m XV) m ((IP F.trim P (k+1)).map Vu),Pc.old ZB.heap.size ZB] (wr.setCell ⟨g2,k,none⟩ (.string (bs (F.trim x)))) by
   have Vz:=UE.o.setRow' 0 rfl (g:=g2) rfl k Zu (.string (bs (F.trim x)));have Iu:((IP F.trim P k).map Vu).set k (.string (bs (F.trim x)))=(IP F.trim P (k+1)).map Vu:=by
    rw[<-atw F.trim P k Z4,List.map_set]
    rfl
   grind)
  clear Z4 Kg XY Zq;go_wp2_with fail;refine YW (PV.o _) ?_
  go_wp2
  go_roundw
  ·exact⟨k+1,Zu,by go_num,S6⟩
  grind[intOf]
 obtain rfl:k=m:=by omega
 have Xy:=bx (show IP F.trim P k=P.map F.trim by rw[<-W3.o];exact aqD F.trim P);obtain⟨y,Q,zk⟩:∃y Q,P.map F.trim=y::Q:=by
  cases Zs:P.map F.trim with
  |nil=>have:=congrArg List.length Zs;rw[X4,W3.o]at this;grind
  |cons y Q=>simp
 have afZ:Q.length+1=k:=by have:=congrArg List.length zk;rw[X4,W3.o,U3]at this;omega
 have Q0:=(XY.cell 0).trans (Kg 0 (.string (bs y)) (by rw[Xy.o,zk];rfl));have Ug:=XY.lt;have zE:y.length<=20000:=by
  have ZJ:y∈P.map F.trim:=by grind
  obtain⟨z,Up,rfl⟩:=SL.1 ZJ;have:=VB.o z Up;have:=F.dh z;omega
 have Bb:=apY.o;rw[zk,List.headD_cons]at Bb;have KD:=bx (λW=>asX y a b W (by omega) Bb);have sV:=bx (show VC=Q by rw[U2.o,zk];rfl);have Mn:=bx (show wr.ownsRow ZB.heap.size 9 1 (.slice (some ⟨g2,0,none⟩) k XV) k ((y::Q).map Vu) by
  have:=UE.o.row 0 rfl
  rwa[Xy.o,zk]at this)
 have LI:=Oi.o.below X3.o Oi.o.lt;have Zd:=(LI.cell 0).trans (show _=some (Value.int .i64 0)from rfl);have Zx:=(LI.cell 1).trans (show _=some (Value.int .i64 0)from rfl);have Zr:=(LI.cell 2).trans (show _=some (Value.int .i64 0)from rfl);have Zk:=(LI.cell 3).trans (show _=some (Value.slice none 0 0)from rfl);have f0:=LI.frozen 0;have f1:=LI.frozen 1;have f2:=LI.frozen 2;have f3:=LI.frozen 3;have R3:=LI.lt;have aiE:=bx LI;have TZ:=bx (bt Zt.o X3.o);clear Kg XY Zq zk Bb LI Zu;go_wp2_with fail;refine YW (KD.o _) ?_;go_wp2_with fail;have Yo:Turns (λq=>q=w.heap.size) wr ((((wr.setCell ⟨w.heap.size,0,none⟩ (.int .i64 0)).setCell ⟨w.heap.size,1,none⟩ (.int .i64 a)).setCell ⟨w.heap.size,2,none⟩ (.int .i64 b)).setCell ⟨w.heap.size,3,none⟩ (.slice (some ⟨g2,1,none⟩) (k-1) (XV-1))):=
  (((Turns.setCell (own:=λq=>q=w.heap.size) wr (p:=⟨w.heap.size,0,none⟩) rfl _).trans (Turns.setCell (own:=λq=>q=w.heap.size) _ (p:=⟨w.heap.size,1,none⟩) rfl _)).trans (Turns.setCell (own:=λq=>q=w.heap.size) _ (p:=⟨w.heap.size,2,none⟩) rfl _)).trans (Turns.setCell (own:=λq=>q=w.heap.size) _ (p:=⟨w.heap.size,3,none⟩) rfl _)
 have aAh:=Oi.o.lt;have V7:=Yo.row Mn.o (λq Zs=>by grind[Value.ownBlock]);have hX:=U8.au V7 (by grind);have Ty:((y::Q).map Vu).length=k:=by grind
 rw[<-Ty]at hX;have agf:=U8.drop hX 1 (by omega);rw[Ty]at agf;have axo:XC ((((wr.setCell ⟨w.heap.size,0,none⟩ (.int .i64 0)).setCell ⟨w.heap.size,1,none⟩ (.int .i64 a)).setCell ⟨w.heap.size,2,none⟩ (.int .i64 b)).setCell ⟨w.heap.size,3,none⟩ (.slice (some ⟨g2,1,none⟩) (k-1) (XV-1))) (.slice (some ⟨g2,1,none⟩) (k-1) (XV-1)) VC:=by
  rw[sV.o];exact agf
 exact bodyPost_ret (v:=.tuple #[.agg #[.int .i64 0,.int .i64 a,.int .i64 b,.slice (some ⟨g2,1,none⟩) (k-1) (XV-1)],.bool true,.int .i64 0]) (Ab results254 _ _ w.heap.size 242 #[.int .i64 0,.int .i64 a,.int .i64 b,.slice (some ⟨g2,1,none⟩) (k-1) (XV-1)] (0,0) _ rfl ((((aiE.o.ai 0 (.int .i64 0)).ai 1 (.int .i64 a)).ai 2 (.int .i64 b)).ai 3 (.slice (some ⟨g2,1,none⟩) (k-1) (XV-1))) underlying242 rfl recInfo) rfl
  ⟨⟨_,rfl,axo,λq Zs=>by have WK:=V7.lt g2 rfl;grind[Value.ownBlock]⟩,(((TZ.o.setCell Ys _).setCell Ys _).setCell Ys _).setCell Ys _⟩
structure CA(α:Type) where
 at':World->α->Prop
 val:α->Value
 same:∀{a:α}{W W':World},at' W a->W.heap.size<=W'.heap.size->(∀g,(val a).ownBlock=some g->W'.heap[g]?=W.heap[g]?)->at' W' a
 lt:∀{a:α}{W:World}{g:Nat},at' W a->(val a).ownBlock=some g->g<W.heap.size
def Pc.aL{α:Type}(b:CA α)(L:List α):Pc where
 fp k:=∃y∈L,(b.val y).ownBlock=some k
 ok W:=∀y∈L,b.at' W y
 keep:=λ{_ _ _} h ZM YT y ZJ=>b.same (h y ZJ) ZM.size (λg ZH=>ZM.block g (b.lt (h y ZJ) ZH) (YT g ⟨y,ZJ,ZH⟩))
 lt:=λ{_ _} h ⟨y,ZJ,ZH⟩=>b.lt (h y ZJ) ZH
theorem Sep.aL{α:Type}{b:CA α}{L:List α}{ps:List Pc}{W:World}(h:Sep ps W)(i:Nat)(hi:ps[i]?=some (Pc.aL b L)):∀y∈L,b.at' W y:=h.at' i hi
theorem Sep.fy{α:Type}{ps:List Pc}{W:World}(h:Sep ps W)(b:CA α):Sep (Pc.aL b []::ps) W:=
 ⟨λ_ ZJ=>absurd ZJ RH,λ_ _ _ ⟨_,ZJ,_⟩=>absurd ZJ RH,h⟩
theorem Sep.dC{α:Type}{b:CA α}{y:α}{ps:List Pc}{W W':World}(h:Sep ps W)(Z8:Z6 W W')(ZJ:b.at' W' y)(ZP:∀g,(b.val y).ownBlock=some g->W.heap.size<=g):Sep (Pc.aL b [y]::ps) W' :=
 h.add Z8 (λz ZY=>by grind) (λk ⟨z,ZY,ZH⟩=>by grind)
theorem Sep.eo{α:Type}{b:CA α}{y:α}{L:List α}{ps:List Pc}{W:World}(h:Sep (Pc.aL b [y]::ps) W)(i:Nat)(hi:ps[i]?=some (Pc.aL b L)):Sep (ps.set i (Pc.aL b (L++[y]))) W:=
 h.join i hi (λz ZY=>by
  rcases Nb.1 ZY with e|e
  ·exact h.tail.aL i hi z e
  ·exact h.head z e) (λk ⟨z,ZY,ZH⟩=>by
  rcases Nb.1 ZY with e|e
  ·exact .inr ⟨z,e,ZH⟩
  exact .inl ⟨z,e,ZH⟩)
theorem avi{W W':World}{v:Value}{xs:List Value}(h:U8 W v xs)(Z0:W.heap.size<=W'.heap.size)(ZH:∀g,v.ownBlock=some g->W'.heap[g]?=W.heap[g]?):U8 W' v xs:=by
 rcases h with h|⟨b,off,sp,ZU,Z7,Z5,ZS,ZG⟩
 ·exact .inl h
 refine .inr ⟨b,off,sp,ZU,Z7,Z5,ZS,λZP=>?_⟩;obtain⟨Zx,Zr,Zk⟩:=ZG ZP;have Z8:=ZH b (by rw[Z7];rfl);exact⟨Zx,Vh Zr Z0,λi x Z4=>(World.cell?_of_block Z8).trans (Zk i x Z4)⟩
def recC(y:F.Rec×Value):List Value:=[Z9 y.1.1,Z9 y.1.2.1,Z9 y.1.2.2.1,y.2]
def Av:CA (F.Rec×Value) where
 at' W y:=XC W y.2 y.1.2.2.2/\∀g,y.2.ownBlock=some g->g<W.heap.size
 val y:=y.2
 same:=λ{_ _ _} h Z0 ZH=>⟨avi h.1 Z0 ZH,λg K6=>Vh (h.2 g K6) Z0⟩
 lt:=λ{_ _ _} h ZH=>h.2 _ ZH
def IT(w:World)(v:Value)(rs:List F.Rec):Prop:=∃L:List (F.Rec×Value),L.map (·.1)=rs/\OD 4 w v (L.map recC)/\∀y∈L,XC w y.2 y.1.2.2.2
theorem IT.below{w w':World}{v:Value}{rs:List F.Rec}(h:IT w v rs)(Z8:Z6 w w'):IT w' v rs:=by
 obtain⟨L,Z7,Z5,ZS⟩:=h;exact⟨L,Z7,Z5.below Z8,λy ZJ=>(ZS y ZJ).below Z8⟩
theorem IT.slice{w:World}{v:Value}{rs:List F.Rec}(h:IT w v rs):∃a ZU,v=.slice a rs.length ZU/\rs.length<=ZU/\ZU<=9223372036854775807:=by
 obtain⟨L,Z7,Z5,ZS⟩:=h;have:=Z5.slice
 grind
theorem qK{α β:Type}(f:α->List β)(L:List α):L.flatMap f=(L.map f).flatten:=by rfl
theorem IT.au{w:World}{base n:Nat}{T:TypeId}{v:Value}{L:List (F.Rec×Value)}(h:w.ownsRow base T 4 v n (L.flatMap recC))(ZP:n=L.length)(WE:∀y∈L,XC w y.2 y.1.2.2.2):IT w v (L.map (·.1)):=by
 rw[qK]at h;exact⟨L,rfl,OD.au h (by grind) (λc ZL=>by obtain⟨y,-,rfl⟩:=SL.1 ZL;rfl),WE⟩
theorem IT.get{w:World}{v:Value}{rs:List F.Rec}(h:IT w v rs)(ZP:rs≠[]):
  ∃b off ZU,v=.slice (some ⟨b,off,none⟩) rs.length ZU/\rs.length<=ZU/\ZU<=maxLen/\b<w.heap.size/\∀i r,rs[i]?=some r->w.cell? ⟨b,off+i*4,none⟩=some (Z9 r.1)/\w.cell? ⟨b,off+i*4+1,none⟩=some (Z9 r.2.1)/\w.cell? ⟨b,off+i*4+2,none⟩=some (Z9 r.2.2.1)/\∃f,w.cell? ⟨b,off+i*4+3,none⟩=some f/\XC w f r.2.2.2:=by
 obtain⟨L,rfl,Z5,ZS⟩:=h;obtain⟨b,off,ZU,Zx,Zr,Zk,Zl,Zg⟩:=Z5.get (by simp_all);rw[X4]at Zx Zr;rw[X4]at⊢;refine⟨b,off,ZU,Zx,Zr,Zk,Zl,λi r ZT=>?_⟩;rw[RX]at ZT
 cases ZJ:L[i]? with
 |none=>grind
 |some y=>
  rw[ZJ]at ZT
  cases ZT;have ZL:(L.map recC)[i]?=some (recC y):=by grind
  exact⟨Zg i _ ZL 0 _ rfl,Zg i _ ZL 1 _ rfl,Zg i _ ZL 2 _ rfl,y.2,Zg i _ ZL 3 _ rfl,ZS y (Xh ZJ)⟩
theorem auk:ID prog 238 242 4 48:=.mk' (z:=.agg #[Z9 0,Z9 0,Z9 0,Z1]) underlying238 (by kernel_rfl) rfl
theorem Sep.frame{ps:List Pc}{w w':World}(h:Sep ps w):∀{qs:List Pc},Sep (qs++[Pc.old w.heap.size w]) w'->Sep (qs++ps) w'
 |[],Zs=>h.below (Zs.bel (n:=w.heap.size) (W0:=w) (by simp))
 |q::qs,Zs=>by
  obtain⟨Z7,Z5,ZS⟩:=Zs;refine⟨Z7,λp hp k Z3=>?_,Sep.frame h ZS⟩
  rcases Nb.1 hp with ZG|ZG
  ·simp_all
  intro Zi;have Yu:=Z5 (Pc.old w.heap.size w) (by simp) k Z3;exact Yu (h.lt ZG Zi)
theorem Sep.akU{qs:List Pc}{YR w w':World}{n:Nat}(h:Sep (qs++[Pc.old w.heap.size w]) w')(ZP:n<=w.heap.size)(Z8:Below n YR w):Sep (qs++[Pc.old n YR]) w' :=
 Sep.frame (ps:=[Pc.old n YR]) ⟨⟨ZP,Z8⟩,λ_ hp=>absurd hp RH,trivial⟩ h
theorem acv(l:List UInt8)(rs:List F.Rec)(w:World)(YB:F.parse l=some rs):
  Calls prog 176 #[.string (bs l)] w λe w'=>∃v L,e=.returned (.tuple #[v,Z9 0,Z9 0])/\L.map (·.1)=rs/\Sep [Pc.row w.heap.size 242 4 v L.length (L.flatMap recC),Pc.aL Av L,Pc.old w.heap.size w] w':=by
 unfold F.parse at YB
 split at YB
 rotate_left
 ·cases YB
 rename_i ZY
 obtain⟨S,hS⟩:∃S,(bs l).size=S:=⟨_,rfl⟩
 have EM:S<=20000:=by grind[Wu]
 have Qx:=bx (show Calls prog 180 #[.string (bs l),.int .u8 10] w λe w'=>(∃v,e=.returned v/\XC w' v (F.split 10 l))/\Z6 w w' from uB l 10 w (by omega));obtain⟨P,TU⟩:∃P,F.split 10 l=P:=⟨_,rfl⟩
 have VB:=bx (show∀x∈P,x.length<=20000 from λx Z4=>by have:=F.dF 10 l x (by grind);omega);rw[TU]at Qx YB;obtain⟨m,hm⟩:∃m,P.length=m:=⟨_,rfl⟩
 have agD:m<=20001:=by rw[<-hm,<-TU];have:=F.eR 10 l;omega
 rw[hm]at YB;have PS:=bx YB;have W3:=bx hm;have RV:P≠[]:=by rw[<-TU];exact F.aar 10 l
 have Bf:=bx RV;clear YB TU ZY hm RV
 go_in
 go_wp2_with fail;refine Qx.o.mono ?_;rintro e ZV ⟨⟨v,rfl,Z2⟩,ZZ⟩;have ZN:=bx Z2;have ZW:=bx ZZ;obtain⟨g,off,ZU,rfl,q2,q3,q4,-⟩:=Z2.get Bf.o;rw[W3.o]at q2 ZN⊢;have XI:=bx (((Sep.start ZV).fy Av).aH ZV.heap.size 4 242);unfold maxLen at q3;clear Z2 ZZ;go_wp2_with fail
 go_loopw[7,5] (λi o wr=>∃(k:Nat)(L:List (F.Rec×Value))(UP:Option Addr)(Wr:Nat),k<=m/\i=Z9 k/\o=.slice UP L.length Wr/\L.length<=300/\Box (F.bq P k=some (L.map (·.1)))/\Box (Sep [Pc.row ZV.heap.size 242 4 (.slice UP L.length Wr) L.length (L.flatMap recC),Pc.aL Av L,Pc.old ZV.heap.size ZV] wr)) (λi _ _=>m-(intOf i).toNat)
 ·exact⟨0,[],none,0,by omega,rfl,rfl,by simp,⟨rfl⟩,XI⟩
 obtain⟨k,L,UP,Wr,Z3,rfl,rfl,awL,agS,UE⟩:=hrel;have X3:=bx (UE.o.bel (n:=ZV.heap.size) (W0:=ZV) (by simp));clear XI
 by_cases Zu:k<m
 ·obtain⟨s,Z0⟩:=Yg P k (by have:=W3.o;omega);obtain⟨Ui,xu,cap',Zq,-,-,-,Zi⟩:=(ZN.o.below X3.o).get Bf.o;rw[W3.o]at Zq;obtain⟨rfl,rfl,rfl⟩:g=Ui/\off=xu/\ZU=cap':=by grind
  have Q0:=Zi k s Z0;have Xa:=VB.o s (Xh Z0);have IF:=bx (show P.getD k []=s by grind);obtain⟨nx,K4⟩:=F.aam (k:=k+1) (by omega) PS.o;have L8:=K4;unfold F.bq at L8;rw[agS.o,IF.o]at L8;simp only at L8;clear Z0 Zq Zi
  cases BJ:F.cE s with
  |none=>rw[BJ]at L8;cases L8
  |some r=>
   rw[BJ]at L8
   cases r with
   |none=>
    simp only[OS]at L8;have PW:=bx (alD s wr Xa BJ);have PN:=bx (show F.bq P (k+1)=some (L.map (·.1)) by grind);clear BJ K4 L8;go_wp2_with fail;refine Y3 PW.o λZB Zz=>?_
    have V1:=bx ((UE.o.below Zz).alloc (.cells #[Z9 0,Z9 0,Z9 0,Z1] 242));clear Zz
    go_wp2
    go_roundw
    ·exact⟨k+1,L,UP,Wr,Zu,by go_num,rfl,awL,PN,V1⟩
    grind[intOf]
   |some r=>
    obtain⟨a,b,VC⟩:=r;simp only at L8
    split at L8
    ·cases L8
    rename_i alX
    simp only[OS]at L8;have AR:=bx (asa s a b VC wr Xa BJ);have PN:=bx (show F.bq P (k+1)=some (L.map (·.1)++[(k+1,a,b,VC)]) by grind);have ayX:L.length<300:=by grind
    have azz:((L.length:Int)==300)=false:=by grind
    clear BJ K4 L8 alX;go_wp2_with fail;refine AR.o.mono ?_;rintro e ZB ⟨⟨Za,rfl,P3,N8⟩,Zz⟩;obtain⟨WN,XG,rfl,azE,azF⟩:=P3.slice;have Rj:=UE.o.dC (b:=Av) (y:=((k+1,a,b,VC),.slice WN VC.length XG)) Zz ⟨P3,λq Zs=>(N8 q Zs).2⟩ (λq Zs=>(N8 q Zs).1);have WT:=bx (Rj.alloc (.cells #[Z9 ((k:Int)+1),Z9 a,Z9 b,.slice WN VC.length XG] 242));have Wy:=bx (show(ZB.alloc (.cells #[Z9 ((k:Int)+1),Z9 a,Z9 b,.slice WN VC.length XG] 242)).heap.size=ZB.heap.size+1 by simp);have WP:=(WT.o.bel (n:=ZV.heap.size) (W0:=ZV) (by simp)).size;clear P3 N8 Zz Rj;go_wp2_with (at_builtin;refine GK (cs:=recC ((k+1,a,b,VC),.slice WN VC.length XG)) rfl _ _ 238 rfl auk (by decide) WT.o 1 rfl rfl (by rw[Wy.o];rfl) rfl (by intro u hu;simp only[recC,T7,RH,or_false]at hu;rcases hu with rfl|rfl|rfl|rfl <;> rfl) (by omega) (by omega) WP ?_;rintro Zy XA WC ⟨go',TV,rfl,-,-⟩)
    have WQ:=bx (show Sep [Pc.row ZV.heap.size 242 4 (.slice (some ⟨go',0,none⟩) (L++[((k+1,a,b,VC),Value.slice WN VC.length XG)]).length TV) (L++[((k+1,a,b,VC),Value.slice WN VC.length XG)]).length ((L++[((k+1,a,b,VC),Value.slice WN VC.length XG)]).flatMap recC),Pc.aL Av (L++[((k+1,a,b,VC),Value.slice WN VC.length XG)]),Pc.old ZV.heap.size ZV] XA by
     have Vz:=Sep.eo (ps:=[Pc.row ZV.heap.size 242 4 (.slice (some ⟨go',0,none⟩) (L.length+1) TV) (L.length+1) (L.flatMap recC++recC ((k+1,a,b,VC),.slice WN VC.length XG)),Pc.aL Av L,Pc.old ZV.heap.size ZV]) WC 1 rfl;rw[WR,Hi,List.flatMap_singleton];exact Vz)
    clear WC
    go_wp2
    go_roundw
    ·exact⟨k+1,L++[((k+1,a,b,VC),Value.slice WN VC.length XG)],some ⟨go',0,none⟩,TV,Zu,by go_num,by simp,by grind,⟨by rw[PN.o,T9];rfl⟩,WQ⟩
    grind[intOf]
 obtain rfl:k=m:=by omega
 have W4:=bx (show L.map (·.1)=rs by
  have Z7:=agS.o.symm.trans PS.o
  grind)
 have H0:=bx (Sep.akU (qs:=[_,_]) UE.o ZW.o.size ZW.o);have GB:=bx ZW.o.size;go_wp2_with fail
 go_ret3
 exact⟨_,L,rfl,W4.o,H0.o.as 0 (p':=Pc.row w.heap.size 242 4 (.slice UP L.length Wr) L.length (L.flatMap recC)) rfl (λZT=>own_base ZT GB.o) (λ_ Z3=>Z3)⟩
theorem hM(l:List UInt8)(rs:List F.Rec)(w:World)(YB:F.parse l=some rs):
  Calls prog 176 #[.string (bs l)] w λe w'=>(∃v,e=.returned (.tuple #[v,Z9 0,Z9 0])/\IT w' v rs)/\Z6 w w' :=
 (acv l rs w YB).mono λ_ _ ⟨v,L,Z7,Z5,ZS⟩=>
  ⟨⟨v,Z7,Z5▸IT.au (ZS.row 0 rfl) rfl (λy ZJ=>(ZS.aL 1 rfl y ZJ).1)⟩,ZS.bel (n:=w.heap.size) (W0:=w) (by simp)⟩
theorem asm(c:UInt8)(w:World):Calls prog 253 #[.int .u8 (U.aa c)] w λe w'=>e=.returned (.bool (F.letter c))/\w=w':=by
 have ZI:=U.bl c;have Z7:=U.bo c;unfold F.letter;generalize U.aa c=x at *;simp only
 go_in
 go_wp2_with fail
 all_goals go_returns
 all_goals exact⟨YG (by grind),rfl⟩
def vu(o:Option Nat):Value:=match o with
 |some i=>.tuple #[Z9 i,.bool true]
 |none=>.tuple #[Z9 0,.bool false]
theorem arM{names:List (List UInt8)}{x:List UInt8}(h:∀(i:Nat)(y:List UInt8),names[i]?=some y->y≠x):F.valueOf names x=none:=by
 unfold F.valueOf;rw[List.findIdx?_eq_none_iff];intro y ZJ;obtain⟨i,hi,e⟩:=List.getElem_of_mem ZJ;have:=h i y (by grind)
 grind
theorem ath{names:List (List UInt8)}{x:List UInt8}{k:Nat}(Z3:names[k]?=some x)(h:∀(i:Nat)(y:List UInt8),i<k->names[i]?=some y->y≠x):F.valueOf names x=some k:=by
 grind[F.valueOf,List.findIdx?_eq_some_iff_getElem]
theorem nT(v:Value)(names:List (List UInt8))(x:List UInt8)(w:World)(Z2:XC w v names)(ZY:names.length<=100000):
  Calls prog 177 #[v,.string (bs x)] w λe w'=>e=.returned (vu (F.valueOf names x))/\w=w':=by
 have ZN:=bx Z2;obtain⟨a,ZU,rfl,W2,VM⟩:=Z2.slice;clear Z2
 go_in
 go_wp2_with fail
 go_loop[6] (λi=>∃k:Nat,k<=names.length/\i=Z9 k/\Box (∀(j:Nat)(y:List UInt8),j<k->names[j]?=some y->y≠x)) (λi=>names.length-(intOf i).toNat)
 ·exact⟨0,by omega,rfl,⟨λj y h=>by omega⟩⟩
 obtain⟨k,Z3,rfl,XF⟩:=hrel
 by_cases Zu:k<names.length
 ·obtain⟨y,ZJ⟩:=Yg names k Zu;obtain⟨g,off,XV,Y5,XL,Yi,XB,YX⟩:=ZN.o.get (by grind);obtain⟨rfl,rfl⟩:=XN Y5;have Q0:=YX k y ZJ;have Wn:=bx ZJ;clear ZJ Y5 Yi YX
  by_cases hyx:y=x
  ·subst hyx;have ZE:=bx (ath Wn.o XF.o);have Zq:((bs y).toList==(bs y).toList)=true:=by simp
   go_wp2
   go_ret2
   exact⟨by rw[ZE.o];rfl,rfl⟩
  have Zq:((bs y).toList==(bs x).toList)=false:=by rw[He,He,Sz];omega
  have YP:¬(bs y).toList=(bs x).toList:=by grind
  have ZE:=bx (show∀(j:Nat)(z:List UInt8),j<k+1->names[j]?=some z->z≠x from λj z YO ZY=>by
   rcases SM j k with Z7|Z7
   ·exact XF.o j z Z7 ZY
   obtain rfl:j=k:=by omega
   rw[Wn.o]at ZY
   grind)
  clear hyx;go_wp2_with fail
  go_round
  ·exact⟨k+1,Zu,by go_num,ZE⟩
  grind[intOf]
 have ZE:=bx (arM (names:=names) (x:=x) (λi y hi=>XF.o i y (by grind) hi))
 go_wp2
 go_ret2
 exact⟨by rw[ZE.o];rfl,rfl⟩
theorem XC.take{w:World}{a:Option Addr}{ZU:Nat}{xs:List (List UInt8)}(h:XC w (.slice a xs.length ZU) xs)(n cap':Nat)(ZL:(xs.take n).length<=cap')(Hx:cap'<=ZU):XC w (.slice a (xs.take n).length cap') (xs.take n):=by
 have:=U8.take (xs:=xs.map Vu) (by rw[X4];exact h) n cap' (by grind) Hx;rw[<-List.map_take,X4]at this;exact this
theorem rn(v:Value)(names:List (List UInt8))(w:World)(Z2:XC w v names)(YB:F.cc names=true):
  Calls prog 175 #[v] w λe w'=>e=.returned (.bool true)/\∃n,w'=w.drewN n:=by
 unfold F.cc at YB;simp only[Vm,SS,QG]at YB;obtain⟨⟨S9,LD⟩,FX⟩:=YB;have RR:=bx S9;have ZN:=bx Z2;obtain⟨a,ZU,rfl,W2,VM⟩:=Z2.slice;clear Z2 S9
 go_in
 go_wp2_with fail
 go_loopw[3] (λi wr=>∃k:Nat,k<=names.length/\i=Z9 k/\∃n,wr=w.drewN n) (λi _=>names.length-(intOf i).toNat)
 ·exact⟨0,by omega,rfl,0,rfl⟩
 obtain⟨k,Z3,rfl,N3,rfl⟩:=hrel
 by_cases Zu:k<names.length
 ·have zS:=RR.o k (Ly.2 Zu);obtain⟨x,Z4⟩:=Yg names k Zu;have Uz:names.getD k []=x:=by grind
  unfold F.adY at zS;rw[Uz]at zS;simp only[Vm,SS,QG,Option.isNone_iff_eq_none]at zS;obtain⟨⟨⟨Zx,Zr⟩,Zk⟩,Zl⟩:=zS;have anP:=bx Zx;have aiW:=bx Zr;have W6:=bx (λm=>Po w m);obtain⟨g,off,XV,Y5,XL,Yi,XB,YX⟩:=(ZN.o.below (W6.o N3)).get (by grind);obtain⟨rfl,rfl⟩:=XN Y5;have Q0:=YX k x Z4;obtain⟨S,hS⟩:∃S,(bs x).size=S:=⟨_,rfl⟩
  have Jt:=bx (show S=x.length by rw[<-hS];rfl);have ayL:S<=40:=by rw[Jt.o];exact Zl
  have Hw:=EZ Zk;have GD:=bx (λm=>nT (.slice (some ⟨g,off,none⟩) (names.take k).length ZU) (names.take k) x (w.drewN m) ((ZN.o.below (W6.o m)).take k ZU (by grind) Ys) (by grind));rw[show(names.take k).length=k by grind,aiW.o]at GD;unfold vu at GD;simp only at GD;have Dd:k<=ZU:=by omega
  have ayW:=bx (show∀W,(Instr.slice 49 (.slice (some ⟨g,off,none⟩) names.length ZU) none (some (Z9 (k:Int))) none).run prog W=.ok (.slice (some ⟨g,off,none⟩) k ZU) W by
   intro W;go_simp)
  clear Z4 Uz Zx Zr Zk Zl Y5 Yi YX;go_wp2_with fail
  go_loopw[4] (λj wr=>∃i:Nat,i<=S/\j=Z9 i/\wr=w.drewN N3) (λj _=>S-(intOf j).toNat)
  ·exact⟨0,by omega,rfl,rfl⟩
  obtain⟨i,hi,rfl,rfl⟩:=hrel
  by_cases QI:i<S
  ·obtain⟨d,Zm⟩:=Yg x i (by rw[<-Jt.o];omega);have C7:=Ff (P:=prog) underlying9 i Zm i rfl;have o6:=bx (anP.o d (Xh Zm));clear Zm;go_wp2_with fail;refine YW (asm d _) ?_;rw[o6.o]
   go_wp2
   go_roundw
   ·exact⟨i+1,QI,by go_num,trivial⟩
   simp[intOf];omega
  go_wp2_with fail;have Ud:=bx (show(w.drewN N3).drew.cell? ⟨g,off+k,none⟩=some (.string (bs x))from Q0);refine Vv 12 (λW=>ZQ W g (off+k)=some (.string (bs x))) (by kernel_rfl) ?_;refine Vp [0,1,2,3,4,5,6] ?_
  iterate 7 (refine Vq ?_ rfl Ud.o ?_ ?_;rotate_left;·intro w q1;go_simp;try with_reducible rfl)
  refine Vr ?_;refine Y1 7 rfl λY7 ZX=>?_
  go_simp;go_wp2_with (go_at_call 177;refine YW (GD.o (N3+1)) ?_)
  refine ZX.out _ _ (λ_=>Ud.o) ?_;clear ZX Y7;refine Vp [8,9,10] ?_
  iterate 3 (refine Vq ?_ rfl Ud.o ?_ ?_;rotate_left;·intro w q1;go_simp;try with_reducible rfl)
  refine Vr ?_;refine Y1 11 rfl λY7 ZX=>?_
  go_simp;refine ZX.out _ _ (λ_=>Ud.o) ?_;clear ZX Y7;refine Y1 12 rfl λY7 ZX=>?_
  go_simp;refine ZX.out _ _ (λh=>by cases h) ?_;clear ZX Y7;refine kD ?_ _;have ayJ:(w.drewN (N3+1)).cell? ⟨g,off+k,none⟩=some (.string (bs x)):=Q0
  go_wp2
  go_roundw
  ·exact⟨k+1,Zu,by go_num,N3+1,rfl⟩
  grind[intOf]
 go_wp2
 go_ret
 exact⟨YG (Yh (by omega)),N3,rfl⟩
namespace N
def w6(l:List Item)(cs:List Int)(i j:Nat):Prop:=∃c,cs[j]?=some c/\aV (setAt l i) c=true
def wN(l:List Item)(cs:List Int)(i a k:Nat):Prop:=∀j,a<=j->j<k->w6 l cs i j
def full(l:List Item)(cs:List Int)(i a b:Nat):Prop:=a<=b/\wN l cs i a b/\(aJ l i=0->b=a+1)/\(aJ l i=2->(b-a)%2=0)
def Ends(l:List Item)(cs:List Int):Nat->Nat->Nat->Prop
 |0,f,a=>a=f
 |i+1,f,a=>∃b,Ends l cs i f b/\full l cs i b a
theorem Ends.le{l:List Item}{cs:List Int}:∀{i f a:Nat},Ends l cs i f a->f<=a
 |0,_,_,h=>by grind[Ends]
 |i+1,f,a,h=>by obtain⟨b,Z7,Z5⟩:=h;exact XJ Z7.le Z5.1
end N
namespace N
def vK(l:List Item)(cs:List Int)(i a:Nat):Nat:=((cs.drop a).takeWhile λc=>aV (setAt l i) c).length
theorem rE(p:Int->Bool):∀(t:List Int)(j:Nat),(∀x,x<j->∃c,t[x]?=some c/\p c=true)↔j<=(t.takeWhile p).length
 |[],j=>by
  simp only[List.takeWhile_nil,SK]
  constructor
  ·grind
  omega
 |c::t,j=>by
  cases j with
  |zero=>simp
  |succ j=>
   by_cases ZL:p c=true
   ·rw[List.takeWhile_cons_of_pos ZL,U3];have XZ:=rE p t j
    constructor
    ·grind
    intro h x Z4
    cases x with
    |zero=>grind
    |succ x=>
     grind
   rw[List.takeWhile_cons_of_neg ZL,SK]
   constructor
   ·intro h;obtain⟨d,Z7,Z5⟩:=h 0 (by omega);grind
   omega
theorem yn(l:List Item)(cs:List Int)(i a b:Nat)(h:a<=b):wN l cs i a b↔b<=a+vK l cs i a:=by
 have hw:=rE (λc=>aV (setAt l i) c) (cs.drop a) (b-a);unfold vK
 constructor
 ·intro YT;have:=hw.1 λx Z4=>by
   obtain⟨c,Z7,Z5⟩:=YT (a+x) (by omega) (by omega);grind
  omega
 intro Z8 j Z7 Z5;obtain⟨c,ZS,ZG⟩:=hw.2 (by omega) (j-a) (by omega);rw[pr,show a+(j-a)=j by omega]at ZS;exact⟨c,ZS,ZG⟩
def nexts(l:List Item)(cs:List Int)(i a:Nat):List Nat:=
 if aJ l i=0 then(if vK l cs i a=0 then[]else[a+1])
 else if aJ l i=1 then(List.range (vK l cs i a+1)).map (a+·)
 else((List.range (vK l cs i a+1)).filter λd=>d%2==0).map (a+·)
theorem aay{l:List Item}{cs:List Int}(Uy:∀i,aJ l i=0\/aJ l i=1\/aJ l i=2)(i a b:Nat):b∈nexts l cs i a↔full l cs i a b:=by
 unfold nexts full
 rcases Uy i with e|e|e
 ·rw[Y0 e]
  constructor
  ·intro h
   split at h
   ·grind
   rename_i ZI
   simp only[Pe]at h;subst h;exact⟨by omega,(yn l cs i a (a+1) (by omega)).2 (by omega),λ_=>rfl,λh=>by omega⟩
  rintro⟨Z7,Z5,ZS,-⟩;have Z8:=ZS e;subst Z8;have:=(yn l cs i a (a+1) (by omega)).1 Z5;grind
 ·rw[Y4 (by omega),Y0 e];simp only[SL,Ly]
  constructor
  ·rintro⟨d,Z7,rfl⟩;exact⟨by omega,(yn l cs i a (a+d) (by omega)).2 (by omega),(λh=>by omega),λh=>by omega⟩
  rintro⟨Z7,Z5,-⟩;have:=(yn l cs i a b Z7).1 Z5;exact⟨b-a,by omega,by omega⟩
 rw[Y4 (by omega),Y4 (by omega)];simp only[SL,List.mem_filter,Ly,Lz]
 constructor
 ·rintro⟨d,⟨Z7,Z5⟩,rfl⟩;exact⟨by omega,(yn l cs i a (a+d) (by omega)).2 (by omega),(λh=>by omega),λ_=>by omega⟩
 rintro⟨Z7,Z5,-,ZG⟩;have:=(yn l cs i a b Z7).1 Z5;have:=ZG e;exact⟨b-a,⟨by omega,by omega⟩,by omega⟩
end N
def IY(W:World)(v:Value)(m:Nat)(cs:List Value):Prop:=
 (v=Z1/\m=0/\cs=[])\/∃SY c,v=.slice (some SY) m c/\∀j u,cs[j]?=some u->W.cell? (SY.add j)=some u
theorem IE{P:Program}{YR:World}{ops:Array Oper}{rest:List Oper}{o:Oper}{a:Act}{Q:Exit->Act->World->Prop}(Uz:o.guard=none)(s x:Operand)(t:TypeId)(YT:o.op=.call {callee:=.builtin .append,args:=#[s,x],argTypes:=#[t,t]}){base:Nat}{e:TypeId}{Sa bytes:Nat}(TU:ID P t e Sa bytes)(W1:0<Sa){ps:List Pc}(hS:Sep ps YR)(k:Nat){v Sl:Value}{cs:List Value}{n m:Nat}{xs:List Value}(Z3:ps[k]?=some (Pc.row base e Sa v n xs))(Z0:a.eval s=v)(Z4:a.eval x=Sl)(TM:IY YR Sl m cs)(ZL:cs.length=m*Sa)(Z7:∀u∈cs,u.oneCell'=true)(ZP:n+m<=1000000000)(P6:bytes<=10000)(K8:base<=YR.heap.size)(h:∀Zy w',Sep (ps.set k (Pc.row base e Sa Zy (n+m) (xs++cs))) w'->wpList P ops Q rest (a.put o.dst Zy) w'):wpList P ops Q (o::rest) a YR:=by
 obtain⟨i,z,ZM,hi,Vs,Up,Vf,PF⟩:=TU.o
 rcases TM with⟨rfl,rfl,rfl⟩|⟨SY,c,rfl,V9⟩
 ·refine wpList_append_own_none Uz s x t YT base e i Sa ZM hi v n xs Z0 (hS.row k Z3) Z4 ?_;have:=h v YR;rw[Nat.add_zero,L3,show ps.set k (Pc.row base e Sa v n xs)=ps by
   grind[List.set_getElem_self]]at this
  exact this hS
 have Z8:=IA ZP P6;refine wpList_append_own_at _ Uz s x t YT base e i z Sa bytes ZM hi Vs Up Vf PF W1 v n xs Z0 (hS.row k Z3) SY m c cs Z4 ZL V9 Z7 (by grind[maxLen]) (by omega) K8 ?_;intro Zy w' Wo UN _ MK
 exact h Zy w' (hS.grow k Z3 UN Wo (by
  grind))
def Eg(A:Nat->Addr)(B:Nat)(w:World):Prop:=Env [7] 448 A B w
theorem Eg.below{A:Nat->Addr}{B:Nat}{w w':World}(h:Eg A B w)(Z8:Below B w w'):Eg A B w':=Env.below h Z8
theorem Eg.cell{A:Nat->Addr}{B:Nat}{w:World}(h:Eg A B w):w.cell? ⟨7,0,none⟩=some (.iface 448 (.pointer (some (A 7)))):=h.var _ (Pe.2 rfl)
def vL(A:Nat->Addr):Value:=PE A 7
theorem om(A:Nat->Addr)(B:Nat)(w:World)(YN:Eg A B w):
  Calls prog 213 #[vL A] w λe w'=>e=.returned (Z9 110)/\w=w':=by
 have ZH:=YN.cell;have YE:=bx (w2 YN 7 7 (by decide) (by decide));unfold vL PE
 go_in
 go_wp2_with fail;refine YW YE.o ?_
 go_wp2
 go_ret
 simp
