/- Texts of this claim. -/
import Derived.Laws.ResultCell
import Derived.Laws.AppendOwnNone
import Derived.Test.YtdponihkpomheaaGreatDoorH4

set_option maxHeartbeats 4000000
namespace Go.Proofs.YtdponihkpomheaaGreatDoor
open Go.RowKit
attribute [local go_sem] Oper.semAt_some
open Tryz
namespace F
open Go.Proofs.YtdponihkpomheaaGreatDoor
def split (c:UInt8):List UInt8->List (List UInt8)
 | []=>[[]]
 | x::t=>if x=c then []::split c t else match split c t with
  | []=>[[x]]
  | h::r=>(x::h)::r
theorem aef (c:UInt8):∀ l,split c l≠[]
 | []=>by simp [split]
 | x::t=>by
  unfold split
  split
  ·simp
  split <;> simp
theorem acM {c:UInt8}:∀ {m:List UInt8},(∀ x∈m,x≠c)->split c m=[m]
 | [],_=>rfl
 | x::t,h=>by
  unfold split;rw [aF (h x (jZ ..)),acM (λy hy=>h y (mZ _ hy))]
theorem afG {c:UInt8}:∀ {m:List UInt8} (t:List UInt8),(∀ x∈m,x≠c)->split c (m++c::t)=m::split c t
 | [],t,_=>by
  show (if c=c then []::split c t else match split c t with
   | []=>[[c]]
   | h::r=>(c::h)::r)=_
  rw [aG rfl]
 | x::m,t,h=>by
  show (if x=c then []::split c (m++c::t) else match split c (m++c::t) with
   | []=>[[x]]
   | h::r=>(x::h)::r)=_
  rw [aF (h x (jZ ..)),afG t (λy hy=>h y (mZ _ hy))]
def wX (c:UInt8) (l:List UInt8) (out:List (List UInt8)) (f k:Nat):Prop :=
 f<=k/\((k<=l.length/\split c l=out++split c (l.drop f)/\∀ j x,f<=j->j<k->l[j]?=some x->x≠c)\/(k=l.length+1/\split c l=out))
theorem wX.start (c:UInt8) (l:List UInt8):wX c l [] 0 0:=⟨bK _, .inl ⟨nK _,rfl,λj x _ h=>by omega⟩⟩
theorem ahU {l:List UInt8} {f k:Nat} {x:UInt8} (h:x∈(l.take k).drop f):∃ j,f<=j/\j<k/\l[j]?=some x:=by
 obtain⟨i,hi,e⟩:=List.getElem_of_mem h;have h2:((l.take k).drop f)[i]?=some x:=by rw [dW hi,e]
 rw [xY,wE] at h2
 split at h2
 ·exact⟨f+i,by omega,by omega,h2⟩
 cases h2
theorem agO {l:List UInt8} {f k:Nat} (hf:f<=k) (hk:k<=l.length):l.drop f=(l.take k).drop f++l.drop k:=by
 conv=>lhs;rw [<- oN k l]
 rw [List.drop_append_of_le_length (by rw [dw];omega)]
theorem wX.cut {c:UInt8} {l:List UInt8} {out:List (List UInt8)} {f k:Nat} (h:wX c l out f k) (hk:k<l.length) (hc:l[k]?=some c):wX c l (out++[(l.take k).drop f]) (k+1) (k+1):=by
 obtain⟨hf,⟨h1,h2,h3⟩ | ⟨h1,-⟩⟩:=h
 ·refine⟨bK _, .inl ⟨hk,?_,λj x a b=>by omega⟩⟩;have hd:l.drop k=c::l.drop (k+1):=by
   rw [zS hk];rw [dW hk] at hc;rw [Option.some.inj hc]
  rw [h2,agO hf h1,hd,afG _ (λx hx=>by obtain⟨j,a,b,e⟩:=ahU hx;exact h3 j x a b e),pz]
  rfl
 omega
theorem wX.stay {c d:UInt8} {l:List UInt8} {out:List (List UInt8)} {f k:Nat} (h:wX c l out f k) (hk:k<l.length) (hd:l[k]?=some d) (hc:d≠c):wX c l out f (k+1):=by
 obtain⟨hf,⟨h1,h2,h3⟩ | ⟨h1,-⟩⟩:=h
 ·refine⟨by omega, .inl ⟨hk,h2,λj x a b e=>?_⟩⟩
  rcases gZ j k with h4 | h4
  ·exact h3 j x a h4 e
  obtain rfl:j=k:=by omega
  rw [hd] at e
  cases e;exact hc
 omega
theorem wX.last {c:UInt8} {l:List UInt8} {out:List (List UInt8)} {f:Nat} (h:wX c l out f l.length):wX c l (out++[(l.take l.length).drop f]) (l.length+1) (l.length+1):=by
 obtain⟨hf,⟨h1,h2,h3⟩ | ⟨h1,-⟩⟩:=h
 ·refine⟨bK _, .inr ⟨rfl,?_⟩⟩;rw [h2,agO hf h1,List.drop_length,oG,acM (λx hx=>by obtain⟨j,a,b,e⟩:=ahU hx;exact h3 j x a b e)]
 omega
theorem wX.done {c:UInt8} {l:List UInt8} {out:List (List UInt8)} {f:Nat} (h:wX c l out f (l.length+1)):split c l=out:=by
 obtain⟨hf,⟨h1,-⟩ | ⟨-,h2⟩⟩:=h
 ·omega
 exact h2
theorem Yl (c:UInt8):∀ l,(split c l).length<=l.length+1
 | []=>by simp [split]
 | x::t=>by
  have ih:=Yl c t;unfold split
  split
  ·simp;omega
  split
  ·simp
  rename_i h r e
  rw [e] at ih;simp at ih ⊢;omega
theorem J7 (c:UInt8):∀ l,∀ p∈split c l,p.length<=l.length
 | [],p,hp=>by simp [split] at hp;subst hp;simp
 | x::t,p,hp=>by
  have ih:=J7 c t;unfold split at hp
  split at hp
  ·rcases fB.1 hp with h | h
   ·subst h;simp
   have:=ih p h;simp;omega
  split at hp
  ·simp at hp;subst hp;simp
  rename_i h r e
  rw [e] at ih
  rcases fB.1 hp with h' | h'
  ·subst h';have:=ih h (jZ ..);simp;omega
  have:=ih p (mZ _ h');simp;omega
def blank (c:UInt8):Bool:=c==32||c==9||c==13
def BF:List UInt8->List UInt8
 | []=>[]
 | x::t=>if blank x=true then BF t else x::t
def wP:Nat->List UInt8->List UInt8
 | 0,l=>l
 | n+1,l=>match l.getLast? with
  | none=>l
  | some x=>if blank x=true then wP n l.dropLast else l
def trim (l:List UInt8):List UInt8:=wP (BF l).length (BF l)
theorem aeh:∀ l,(BF l).length<=l.length
 | []=>bK _
 | x::t=>by
  unfold BF
  split
  ·have:=aeh t;simp;omega
  exact bK _
theorem aeO:∀ n l,(wP n l).length<=l.length
 | 0,l=>bK _
 | n+1,l=>by
  unfold wP
  split
  ·exact bK _
  split
  ·have:=aeO n l.dropLast;rw [List.length_dropLast] at this;omega
  exact bK _
theorem JD (l:List UInt8):(trim l).length<=l.length:=bP (aeO _ _) (aeh l)
def digit (c:UInt8):Int :=
 let x:Int:=U.aH c
 if 48<=x/\x<=57 then x-48 else if 97<=x/\x<=102 then x-97+10 else if 65<=x/\x<=70 then x-65+10 else -1
theorem asY (c:UInt8):-1<=digit c/\digit c<=15:=by
 unfold digit;simp only
 split
 ·omega
 split
 ·omega
 split <;> omega
def CJ:Int->List UInt8->Option Int
 | n,[]=>some n
 | n,x::t=>if digit x<0 then none else CJ (16*n+digit x) t
def code (l:List UInt8):Option Int:=if 4<=l.length/\l.length<=6 then CJ 0 l else none
end F
theorem Em:Pushes prog 49 9 16:=.mk' (z:=.string ⟨#[]⟩) underlying49 (by kernel_rfl) rfl
theorem abf (l:List UInt8) (c:UInt8) (w:World) (hz:l.length<=100000) :
  Calls prog 180 #[.string (bs l), .int .u8 (U.aH c)] w λe w'=>(∃ v,e = .returned v/\w'.ownsRow w.heap.size 9 1 v (F.split c l).length ((F.split c l).map gW))/\ak w w':=by
 have dU:=bx (dN l);obtain⟨S,hS⟩:∃ S,(bs l).size=S:=⟨_,rfl⟩
 have HSL:=bx (show S=l.length by rw [<- hS];exact dN l);have hSz:S<=100000:=by rw [HSL.o];exact hz
 have bQ:=bx ((Sep.start w).kV w.heap.size 1 9)
 go_in
 go_wp2_with fail
 go_loopw [7,6,5] (λi fr o wr=>∃ (k f:Nat) (out:List (List UInt8)) (oo:Option Addr) (oc:Nat),i = ah k/\fr = ah f/\o = .slice oo out.length oc/\f<=k/\k<=S+1/\out.length<=k/\Box (F.wX c l out f k)/\Box (Sep [Pc.row w.heap.size 9 1 (.slice oo out.length oc) out.length (out.map gW),Pc.old w.heap.size w] wr)) (λi _ _ _=>S+1-(intOf i).toNat)
 ·exact⟨0,0,[],none,0,rfl,rfl,rfl,bK _,by omega,bK _,⟨F.wX.start c l⟩,bQ⟩
 obtain⟨k,f,out,oo,oc,rfl,rfl,rfl,hfk,hk,hol,hsp,hse⟩:=hrel;have dL:=bx (hse.o.bel (n:=w.heap.size) (W0:=w) (by simp));have hbs:=dL.o.size;clear bQ
 rcases Nat.lt_trichotomy k S with h | h | h
 ·obtain⟨d,hd⟩:=bV l k (by have:=HSL.o;omega);have hix:=D5 (P:=prog) underlying9 k hd k rfl;have HD:=bx hd;have e0:((k:Int)==(S:Int))=false:=by rw [fG];omega
  by_cases hc:d=c
  ·have e1:(U.aH d==U.aH c)=true:=by rw [hc];simp
   have hcut:=SX (P:=prog) (T:=9) underlying9 l f k f k rfl rfl ⟨hfk,by have:=HSL.o;omega⟩;have HC:=bx hc;clear hd hc;go_wp2_with (at_builtin;refine vM rfl _ _ 49 rfl Em hse.o 0 rfl rfl rfl rfl (by omega) (by omega) hbs ?_;rintro v' w4 hS4 ⟨go',gc',rfl,-,-⟩)
   have dJ:=bx (show Sep [Pc.row w.heap.size 9 1 (.slice (some ⟨go',0,none⟩) (out++[(l.take k).drop f]).length gc') (out++[(l.take k).drop f]).length ((out++[(l.take k).drop f]).map gW),Pc.old w.heap.size w] w4 by
    rw [bC,gX];exact hS4)
   clear hS4
   go_wp2
   go_roundw
   ·exact⟨k+1,k+1,out++[(l.take k).drop f],some ⟨go',0,none⟩,gc',by go_num,by go_num,by simp,bK _,by omega,by simp;omega,⟨hsp.o.cut (by have:=HSL.o;omega) (by rw [HD.o,HC.o])⟩,dJ⟩
   simp [intOf];omega
  have e1:(U.aH d==U.aH c)=false:=by rw [fG];exact λe=>hc (U.Y6 e)
  have HC:=bx hc;clear hd hc
  go_wp2
  go_roundw
  ·exact⟨k+1,f,out,oo,oc,by go_num,rfl,rfl,by omega,by omega,by omega,⟨hsp.o.stay (by have:=HSL.o;omega) HD.o HC.o⟩,hse⟩
  simp [intOf];omega
 ·have e0:((k:Int)==(S:Int))=true:=by rw [lN];omega
  have hcut:=SX (P:=prog) (T:=9) underlying9 l f k f k rfl rfl ⟨hfk,by have:=HSL.o;omega⟩;have CU:=bx (show k=l.length by rw [h];exact HSL.o);have lW:=bx h;have hks:k<=S:=by omega
  clear h;go_wp2_with (at_builtin;refine vM rfl _ _ 49 rfl Em hse.o 0 rfl rfl rfl rfl (by omega) (by omega) hbs ?_;rintro v' w4 hS4 ⟨go',gc',rfl,-,-⟩)
  have dJ:=bx (show Sep [Pc.row w.heap.size 9 1 (.slice (some ⟨go',0,none⟩) (out++[(l.take k).drop f]).length gc') (out++[(l.take k).drop f]).length ((out++[(l.take k).drop f]).map gW),Pc.old w.heap.size w] w4 by
   rw [bC,gX];exact hS4)
  clear hS4
  go_wp2
  go_roundw
  ·
   refine⟨k+1,k+1,out++[(l.take k).drop f],some ⟨go',0,none⟩,gc',by go_num,by go_num,by simp,bK _,by omega,by simp;omega,⟨?_⟩,dJ⟩;have:=hsp.o;rw [CU.o] at this ⊢;exact this.last
  simp [intOf];omega
 have HO:=bx (show wr.ownsRow w.heap.size 9 1 (.slice oo out.length oc) (F.split c l).length ((F.split c l).map gW) by
  have h1:=hsp.o;rw [show k=l.length+1 by have:=HSL.o;omega] at h1;rw [h1.done];exact hse.o.row 0 rfl)
 go_wp2
 go_ret
 exact⟨⟨_,rfl,HO.o⟩,dL.o⟩
theorem OQ (l:List UInt8) (c:UInt8) (w:World) (hz:l.length<=100000) :
  Calls prog 180 #[.string (bs l), .int .u8 (U.aH c)] w λe w'=>(∃ v,e = .returned v/\cZ w' v (F.split c l))/\ak w w' :=
 (abf l c w hz).mono λ_ _ ⟨⟨v,h1,h2⟩,h3⟩=>⟨⟨v,h1,cZ.iy h2 rfl⟩,h3⟩
theorem KA (c:UInt8) (w:World):Calls prog 258 #[.int .u8 (U.aH c)] w λe w'=>e = .returned (.bool (F.blank c))/\w=w':=by
 have e:F.blank c=(U.aH c==32||U.aH c==9||U.aH c==13):=by
  unfold F.blank;rw [<- OA,<- OA,<- OA]
  rfl
 rw [e];clear e;generalize U.aH c=x
 go_in
 go_wp2_with fail
 all_goals go_returns
 all_goals exact⟨aY (by simp [*]),rfl⟩
theorem amk (c:UInt8) (w:World):Calls prog 303 #[.int .u8 (U.aH c)] w λe w'=>e = .returned (ah (F.digit c))/\w=w':=by
 have h0:=U.G8 c;have h1:=U.Jq c;unfold F.digit;generalize U.aH c=x at *;simp only
 go_in
 go_wp2_with fail
 all_goals go_returns
 all_goals exact⟨congrArg Ending.returned (Dy (by repeat' (first | omega | split))),rfl⟩
namespace F
open Go.Proofs.YtdponihkpomheaaGreatDoor
def Ir (l:List UInt8) (i:Nat):Bool:=(l.drop i).take 2==[46,46]
def ends (l:List UInt8):Option (Int×Int) :=
 match (List.range (l.length-1)).find? (Ir l) with
 | some i=>match code (l.take i),code (l.drop (i+2)) with
  | some a,some b=>some (a,b)
  | _,_=>none
 | none=>(code l).map λn=>(n,n)
abbrev Rec:=Nat×Int×Int×List (List UInt8)
def Po (t:List UInt8):Option (Option (Int×Int×List (List UInt8))) :=
 if t=[] then some none
 else match ends (((split 59 t).map trim).headD []) with
  | none=>none
  | some (a,b)=>if b<a\/1114111<b\/((split 59 t).map trim).length<2\/21<((split 59 t).map trim).length then none else some (some (a,b,((split 59 t).map trim).tail))
def Dl (s:List UInt8):Option (Option (Int×Int×List (List UInt8))):=Po (trim ((split 35 s).headD []))
theorem als {t:List UInt8} (h:Po t=some none):t=[]:=by
 unfold Po at h
 split at h
 ·assumption
 split at h
 ·cases h
 split at h <;> cases h
theorem VU {t:List UInt8} {a b:Int} {fs:List (List UInt8)} (h:Po t=some (some (a,b,fs))):t≠[]/\ends (((split 59 t).map trim).headD [])=some (a,b)/\a<=b/\b<=1114111/\2<=((split 59 t).map trim).length/\((split 59 t).map trim).length<=21/\fs=((split 59 t).map trim).tail:=by
 unfold Po at h
 split at h
 ·cases h
 rename_i hne
 split at h
 ·cases h
 rename_i x y he
 split at h
 ·cases h
 rename_i hc
 cases h;exact⟨hne,he,by omega,by omega,by omega,by omega,rfl⟩
def sN (L:List (List UInt8)):Nat->Option (List Rec)
 | 0=>some []
 | k+1=>match sN L k with
  | none=>none
  | some out=>match Dl (L.getD k []) with
   | none=>none
   | some none=>some out
   | some (some r)=>if out.length=300 then none else some (out++[(k+1,r)])
def parse (s:List UInt8):Option (List Rec):=if s.length<=20000 then sN (split 10 s) (split 10 s).length else none
theorem aft {L:List (List UInt8)} {k:Nat}:∀ {n:Nat} {r:List Rec},k<=n->sN L n=some r->∃ q,sN L k=some q
 | 0,r,hk,h=>by
  obtain rfl:k=0:=by omega
  exact⟨_,rfl⟩
 | n+1,r,hk,h=>by
  rcases gZ n k with h1 | h1
  ·obtain rfl:k=n+1:=by omega
   exact⟨r,h⟩
  unfold sN at h
  cases hp:sN L n with
  | none=>rw [hp] at h;cases h
  | some q=>exact aft h1 hp
def valueOf (names:List (List UInt8)) (x:List UInt8):Option Nat:=names.findIdx? (·==x)
def letter (c:UInt8):Bool :=
 let x:Int:=U.aH c
 decide (97<=x)&&decide (x<=122)||decide (65<=x)&&decide (x<=90)||decide (48<=x)&&decide (x<=57)||decide (x=95)
def acQ (names:List (List UInt8)) (i:Nat):Bool :=
 let x:=names.getD i []
 x.all letter&&(valueOf (names.take i) x).isNone&&decide (x≠[])&&decide (x.length<=40)
def zQ (names:List (List UInt8)):Bool:=(List.range names.length).all (acQ names)&&decide (1<=names.length)&&decide (names.length<=32)
abbrev bI:=Int×Int×Int
def Gn (x:bI):Bool:=decide (0<=x.1)&&decide (x.1<=x.2.1)&&decide (x.2.1<=1114111)&&decide (0<=x.2.2)&&decide (x.2.2<=31)
def uy (l:List bI):Bool:=(List.range l.length).all (λi=>Gn (l.getD i (0,0,0))&&(decide (i=0)||decide ((l.getD (i-1) (0,0,0)).2.1<(l.getD i (0,0,0)).1)))&&decide (l.length<=600)
def lap (x y:bI):Bool:=decide (x.1<=y.2.1)&&decide (y.1<=x.2.1)
def Il (l:List bI) (x:bI):List bI:=l.takeWhile (λy=>decide (y.1<x.1))++x::l.dropWhile (λy=>decide (y.1<x.1))
def xP (l:List bI):Nat->Option (List bI)
 | 0=>some []
 | i+1=>match xP l i with
  | none=>none
  | some out=>if (List.range i).any (λk=>lap (l.getD i (0,0,0)) (l.getD k (0,0,0)))=true then none else some (Il out (l.getD i (0,0,0)))
def La (l:List bI):Option (List bI):=if l.all Gn=true/\l.length<=600 then xP l l.length else none
def yR (l:List bI) (x:bI):List bI:=match l.getLast? with
 | none=>l++[x]
 | some y=>if y.2.1+1=x.1/\y.2.2=x.2.2 then l.dropLast++[(y.1,x.2.1,y.2.2)] else l++[x]
def Dn (l:List bI):Nat->List bI
 | 0=>[]
 | i+1=>yR (Dn l i) (l.getD i (0,0,0))
def zH (names:List (List UInt8)) (loose:Bool) (rs:List Rec):Nat->Option (List bI)
 | 0=>some []
 | k+1=>match zH names loose rs k with
  | none=>none
  | some out=>match valueOf names ((rs.getD k (0,0,0,[])).2.2.2.headD []) with
   | none=>if loose=true then some out else none
   | some v=>if (La (out++[((rs.getD k (0,0,0,[])).2.1,(rs.getD k (0,0,0,[])).2.2.1,(v:Int))])).isSome=true then some (out++[((rs.getD k (0,0,0,[])).2.1,(rs.getD k (0,0,0,[])).2.2.1,(v:Int))]) else none
def BI (file:List UInt8) (names:List (List UInt8)) (loose:Bool):Option (List bI) :=
 match parse file with
 | none=>none
 | some rs=>match zH names loose rs rs.length with
  | none=>none
  | some out=>match La out with
   | none=>none
   | some m=>if uy m=true then some (Dn m m.length) else none
abbrev Trie:=List Int×List (List Int)
def tJ (l:List bI) (r:Int):Int:=match l.reverse.find? (λx=>decide (x.1<=r)&&decide (r<=x.2.1)) with
 | some x=>x.2.2
 | none=>0
def qU (l:List bI) (row:Nat):List Int:=(List.range 256).map λj=>tJ l ((row*256+j:Nat):Int)
def xu (t:Trie) (b:List Int):Trie:=match t.2.findIdx? (·==b) with
 | some i=>(t.1++[(i:Int)],t.2)
 | none=>(t.1++[(t.2.length:Int)],t.2++[b])
def pR (l:List bI):Nat->Trie
 | 0=>([],[])
 | k+1=>xu (pR l k) (qU l k)
def iC (l:List bI):Trie:=pR l 4352
def nT (t:Trie):Bool:=decide (t.1.length=4352)&&t.1.all (λn=>decide (0<=n)&&decide (n<t.2.length))&&t.2.all (λb=>decide (b.length=256)&&b.all λv=>decide (0<=v)&&decide (v<=31))
def says (t:Trie) (r:Int):Int:=(t.2.getD (t.1.getD (r.toNat / 256) 0).toNat []).getD (r.toNat % 256) 0
structure Built (l:List bI) (k:Nat) (t:Trie):Prop where
 len:t.1.length=k
 at':∀ i,i<k->∃ n:Nat,t.1[i]?=some (n:Int)/\t.2[n]?=some (qU l i)
 all:∀ b∈t.2,∃ i,i<k/\b=qU l i
 few:t.2.length<=k
theorem built (l:List bI):∀ k,Built l k (pR l k)
 | 0=>⟨rfl,λi h=>by omega,λb h=>absurd h iH,bK _⟩
 | k+1=>by
  have ih:=built l k;show Built l (k+1) (xu (pR l k) (qU l k))
  generalize pR l k=t at ih;unfold xu
  split
  ·rename_i i h
   obtain⟨hi,hb,-⟩:=List.findIdx?_eq_some_iff_getElem.1 h;have hb2:t.2[i]?=some (qU l k):=by rw [dW hi];simpa using hb
   refine⟨by simp [ih.len],λj hj=>?_,λb hb=>?_,by have:=ih.few;simp;omega⟩
   ·rcases gZ j k with h1 | h1
    ·obtain⟨n,e1,e2⟩:=ih.at' j h1;exact⟨n,by simp only;rw [zU (by rw [ih.len];exact h1)];exact e1,e2⟩
    obtain rfl:j=k:=by omega
    exact⟨i,by simp only;rw [yD (by rw [ih.len];omega),ih.len];simp,hb2⟩
   obtain⟨j,e1,e2⟩:=ih.all b hb;exact⟨j,by omega,e2⟩
  refine⟨by simp [ih.len],λj hj=>?_,λb hb=>?_,by have:=ih.few;simp;omega⟩
  ·rcases gZ j k with h1 | h1
   ·obtain⟨n,e1,e2⟩:=ih.at' j h1;have hn:=(dO e2).1;exact⟨n,by simp only;rw [zU (by rw [ih.len];exact h1)];exact e1,by simp only;rw [zU hn];exact e2⟩
   obtain rfl:j=k:=by omega
   exact⟨t.2.length,by simp only;rw [yD (by rw [ih.len];omega),ih.len];simp,by simp⟩
  rcases lM.1 hb with h1 | h1
  ·obtain⟨j,e1,e2⟩:=ih.all b h1;exact⟨j,by omega,e2⟩
  exact⟨k,by omega,by simpa using h1⟩
theorem Xz (l:List bI) (r:Nat) (hr:r / 256<4352):says (iC l) (r:Int)=tJ l (r:Int):=by
 obtain⟨n,h1,h2⟩:=(built l 4352).at' (r / 256) hr;have e1:(iC l).1.getD (r / 256) 0=(n:Int):=by rw [fO];unfold iC;rw [h1];rfl
 have e2:(iC l).2.getD n []=qU l (r / 256):=by rw [fO];unfold iC;rw [h2];rfl
 unfold says;rw [mG,e1,mG,e2,fO];unfold qU;rw [eX,yj (Nat.mod_lt _ (by omega))];have e3:r / 256*256+r % 256=r:=by omega
 rw [Option.map_some,e3]
 rfl
theorem awz {l:List bI} (h:∀ x∈l,0<=x.2.2/\x.2.2<=31) (r:Int):0<=tJ l r/\tJ l r<=31:=by
 unfold tJ
 split
 ·rename_i x hx
  exact h x (by simpa using List.mem_of_find?_eq_some hx)
 omega
theorem Tt {l:List bI} (h:∀ x∈l,0<=x.2.2/\x.2.2<=31):nT (iC l)=true:=by
 have hb:=built l 4352;unfold nT;simp only [dD,fD,jG];refine⟨⟨hb.len,λn hn=>?_⟩,λb hbm=>?_⟩
 ·obtain⟨i,hi,e⟩:=List.getElem_of_mem hn;have hi2:i<4352:=by have:=hb.len;unfold iC at hi;omega
  obtain⟨m,h1,h2⟩:=hb.at' i hi2;have:(iC l).1[i]?=some n:=by rw [dW hi,e]
  unfold iC at this;rw [this] at h1
  cases h1;have:=(dO h2).1;unfold iC;omega
 obtain⟨i,-,rfl⟩:=hb.all b hbm;refine⟨by unfold qU;simp,λv hv=>?_⟩;unfold qU at hv;obtain⟨j,-,rfl⟩:=jM.1 hv;exact awz h _
end F
def Lh (v:Value):Nat:=match v with | .string s=>s.size | _=>0
theorem afD {m:List UInt8} {x:UInt8} (h:m.getLast?=some x) (hb:F.blank x=true):F.wP m.length m=F.wP m.dropLast.length m.dropLast:=by
 obtain⟨n,hn⟩:∃ n,m.length=n+1:=by
  cases m with
  | nil=>simp at h
  | cons a t=>exact⟨t.length,rfl⟩
 rw [List.length_dropLast,hn,show n+1-1=n by omega]
 conv=>lhs;unfold F.wP
 rw [h];simp only;rw [aG hb]
theorem agF {m:List UInt8} {x:UInt8} (h:m.getLast?=some x) (hb:F.blank x=false):F.wP m.length m=m:=by
 obtain⟨n,hn⟩:∃ n,m.length=n+1:=by
  cases m with
  | nil=>simp at h
  | cons a t=>exact⟨t.length,rfl⟩
 rw [hn];unfold F.wP;rw [h];simp only;rw [aF (by rw [hb];exact Bool.false_ne_true)]
theorem List.agu {a b:List UInt8} {n:Nat} (h:n=a.length):(a++b).take n=a:=by subst h;simp
theorem Me (l:List UInt8) (w:World) (hz:l.length<=100000) :
  Calls prog 181 #[.string (bs l)] w λe w'=>e = .returned (.string (bs (F.trim l)))/\w=w':=by
 go_in
 go_wp2_with fail
 go_loop [0] (λv=>∃ m:List UInt8,v = .string (bs m)/\m.length<=100000/\Box (F.BF m=F.BF l)) (λv=>Lh v)
 ·exact⟨l,rfl,hz,⟨rfl⟩⟩
 obtain⟨m,rfl,hm,htr⟩:=hrel
 cases m with
 | nil =>
  have lq:=bx (show F.wP ([]:List UInt8).length []=F.trim l by unfold F.trim;rw [<- htr.o];rfl);have hemp:=xH;go_wp2_with fail;clear hemp
  go_loop [0] (λv=>∃ q:List UInt8,v = .string (bs q)/\q.length<=100000/\Box (F.wP q.length q=F.trim l)) (λv=>Lh v)
  ·exact⟨_,rfl,hm,lq⟩
  obtain⟨q,rfl,hq,EJ⟩:=hrel
  rcases List.eq_nil_or_concat q with rfl | ⟨r,x,rfl⟩
  ·have HT:=bx (show F.trim l=[] by rw [<- EJ.o];rfl);have hemp:=xH
   go_wp2
   go_ret
   exact⟨by rw [HT.o];rfl,rfl⟩
  rw [List.concat_eq_append] at hq EJ ⊢;have hlast:(r++[x]).getLast?=some x:=by simp
  have hne:=DC (l:=r++[x]) (by simp);have hsz:(bs (r++[x])).size=r.length+1:=by rw [dN];simp
  have hix:=D5 (P:=prog) (l:=r++[x]) underlying9 r.length (d:=x) (by simp) (r.length:Int) rfl;have hup:=Ef (P:=prog) (T:=9) underlying9 (r++[x]) r.length (r.length:Int) rfl (by simp);have hrl:r.length<=99999:=by simp at hq;omega
  rw [List.agu rfl] at hup
  rcases Bool.eq_false_or_eq_true (F.blank x) with hb | hb
  ·have HT:=bx (show F.wP r.length r=F.trim l by
    have h:=afD hlast hb;rw [List.dropLast_concat] at h;rw [<- h];exact EJ.o)
   have HB:=bx hb;clear hb hq;go_wp2_with fail;refine aP (KA _ _) ?_;rw [HB.o];go_wp2_with fail
   go_round
   ·exact⟨r,rfl,by omega,HT⟩
   simp [Lh,dN]
  have HT:=bx (show F.trim l=r++[x] by rw [<- EJ.o];exact agF hlast hb);have HB:=bx hb;clear hb hq;go_wp2_with fail;refine aP (KA _ _) ?_;rw [HB.o]
  go_wp2
  go_ret
  exact⟨by rw [HT.o];rfl,rfl⟩
 | cons x t =>
  have hne:=DC (l:=x::t) (by simp);have hix:=D5 (P:=prog) (l:=x::t) underlying9 0 (d:=x) rfl 0 rfl;have hsz:(bs (x::t)).size=t.length+1:=dN _;have e:F.BF (x::t)=if F.blank x=true then F.BF t else x::t:=rfl
  rcases Bool.eq_false_or_eq_true (F.blank x) with hb | hb
  ·have HT:=bx (show F.BF t=F.BF l by rw [<- htr.o,e,aG hb]);have hfr:=Gq (P:=prog) (T:=9) underlying9 (x::t) 1 1 rfl (by simp);have HB:=bx hb;clear hb e;go_wp2_with fail;refine aP (KA _ _) ?_;rw [HB.o];go_wp2_with fail
   go_round
   ·exact⟨t,rfl,by simp at hm;omega,HT⟩
   simp [Lh,dN]
  have lq:=bx (show F.wP (x::t).length (x::t)=F.trim l by unfold F.trim;rw [<- htr.o,e,aF (by rw [hb];exact Bool.false_ne_true)]);have HB:=bx hb;clear hb e;go_wp2_with fail;refine aP (KA _ _) ?_;rw [HB.o];go_wp2_with fail;clear hne hix hsz
  go_loop [0] (λv=>∃ q:List UInt8,v = .string (bs q)/\q.length<=100000/\Box (F.wP q.length q=F.trim l)) (λv=>Lh v)
  ·exact⟨_,rfl,hm,lq⟩
  obtain⟨q,rfl,hq,EJ⟩:=hrel
  rcases List.eq_nil_or_concat q with rfl | ⟨r,x,rfl⟩
  ·have HT:=bx (show F.trim l=[] by rw [<- EJ.o];rfl);have hemp:=xH
   go_wp2
   go_ret
   exact⟨by rw [HT.o];rfl,rfl⟩
  rw [List.concat_eq_append] at hq EJ ⊢;have hlast:(r++[x]).getLast?=some x:=by simp
  have hne:=DC (l:=r++[x]) (by simp);have hsz:(bs (r++[x])).size=r.length+1:=by rw [dN];simp
  have hix:=D5 (P:=prog) (l:=r++[x]) underlying9 r.length (d:=x) (by simp) (r.length:Int) rfl;have hup:=Ef (P:=prog) (T:=9) underlying9 (r++[x]) r.length (r.length:Int) rfl (by simp);have hrl:r.length<=99999:=by simp at hq;omega
  rw [List.agu rfl] at hup
  rcases Bool.eq_false_or_eq_true (F.blank x) with hb | hb
  ·have HT:=bx (show F.wP r.length r=F.trim l by
    have h:=afD hlast hb;rw [List.dropLast_concat] at h;rw [<- h];exact EJ.o)
   have HB:=bx hb;clear hb hq;go_wp2_with fail;refine aP (KA _ _) ?_;rw [HB.o];go_wp2_with fail
   go_round
   ·exact⟨r,rfl,by omega,HT⟩
   simp [Lh,dN]
  have HT:=bx (show F.trim l=r++[x] by rw [<- EJ.o];exact agF hlast hb);have HB:=bx hb;clear hb hq;go_wp2_with fail;refine aP (KA _ _) ?_;rw [HB.o]
  go_wp2
  go_ret
  exact⟨by rw [HT.o];rfl,rfl⟩
def capD:Nat->Int
 | 0=>0
 | k+1=>16*capD k+15
theorem au5 (k:Nat) (h:k<=6):0<=capD k/\capD k<=16777215:=by
 rcases (show k=0\/k=1\/k=2\/k=3\/k=4\/k=5\/k=6 by omega) with rfl | rfl | rfl | rfl | rfl | rfl | rfl <;> decide
def Uh (o:Option Int):Value:=match o with
 | some n=>.tuple #[ah n, .bool true]
 | none=>.tuple #[ah 0, .bool false]
theorem Rw (l:List UInt8) (w:World) (hz:l.length<=100000) :
  Calls prog 267 #[.string (bs l)] w λe w'=>e = .returned (Uh (F.code l))/\w=w':=by
 obtain⟨S,hS⟩:∃ S,(bs l).size=S:=⟨_,rfl⟩
 have HSL:=bx (show S=l.length by rw [<- hS];exact dN l);have hSz:S<=100000:=by rw [HSL.o];exact hz
 by_cases h46:4<=S/\S<=6
 rotate_left
 ·have HC:=bx (show F.code l=none by unfold F.code;rw [<- HSL.o,aF h46]);have aj9:S<4\/(4<=S/\6<S):=by omega
  clear h46
  rcases aj9 with h | ⟨h,h'⟩
  all_goals
   go_in
   go_wp2
   go_ret2
   exact⟨by rw [HC.o];rfl,rfl⟩
 have HC:=bx (show F.code l=F.CJ 0 l by unfold F.code;rw [<- HSL.o,aG h46]);obtain⟨h4,h6⟩:=h46
 go_in
 go_wp2_with fail
 go_loop [5,4] (λi n=>∃ (k:Nat) (x:Int),k<=S/\i = ah k/\n = ah x/\0<=x/\x<=16777215/\Box (x<=capD k)/\Box (F.CJ x (l.drop k)=F.CJ 0 l)) (λi _=>S-(intOf i).toNat)
 ·exact⟨0,0,by omega,rfl,rfl,by omega,by omega,⟨Int.le_refl _⟩,⟨rfl⟩⟩
 obtain⟨k,x,hk,rfl,rfl,hx0,hx1,hcap,hgo⟩:=hrel
 by_cases hlt:k<S
 ·have hkl:k<l.length:=by rw [<- HSL.o];exact hlt
  obtain⟨d,hd⟩:=bV l k hkl;have hix:=D5 (P:=prog) underlying9 k hd k rfl;have hdr:l.drop k=d::l.drop (k+1):=by
   rw [zS hkl];rw [dW hkl] at hd;rw [Option.some.inj hd]
  have e:F.CJ x (d::l.drop (k+1))=if F.digit d<0 then none else F.CJ (16*x+F.digit d) (l.drop (k+1)):=rfl
  have HG:=bx (show (if F.digit d<0 then none else F.CJ (16*x+F.digit d) (l.drop (k+1)))=F.CJ 0 l by rw [<- e,<- hdr];exact hgo.o);obtain⟨d0,d1⟩:=F.asY d;have HD:=bx (amk d);generalize F.digit d=y at HG HD d0 d1;clear hd hdr e hkl
  rcases sZ y 0 with hy | hy
  ·have HN:=bx (show F.code l=none by rw [HC.o,<- HG.o,aG hy]);go_wp2_with fail;refine aP (HD.o _) ?_
   go_wp2
   go_ret2
   exact⟨by rw [HN.o];rfl,rfl⟩
  have HN:=bx (show F.CJ (16*x+y) (l.drop (k+1))=F.CJ 0 l by rw [<- HG.o,aF (by omega)]);have HCP:=bx (show 16*x+y<=capD (k+1) by have:=hcap.o;show 16*x+y<=16*capD k+15;omega);have hc2:16*x+y<=16777215:=Int.le_trans HCP.o (au5 (k+1) (by omega)).2;go_wp2_with fail;refine aP (HD.o _) ?_;go_wp2_with fail
  go_round
  ·exact⟨k+1,16*x+y,by omega,by go_num,by go_num,by omega,hc2,HCP,HN⟩
  simp [intOf];omega
 have HN:=bx (show F.code l=some x by
  rw [HC.o,<- hgo.o,zF (by rw [<- HSL.o];omega)]
  rfl)
 go_wp2
 go_ret2
 exact⟨by rw [HN.o];rfl,rfl⟩
theorem aiF {q:Nat->Bool} {n:Nat} (h:∀ i,i<n->q i=false):(List.range n).find? q=none:=by
 rw [List.find?_eq_none];intro i hi;rw [h i (oM.1 hi)];exact Bool.false_ne_true
theorem ahp (q:Nat->Bool):∀ n k,k<n->q k=true->(∀ i,i<k->q i=false)->(List.range n).find? q=some k
 | 0,_,h,_,_=>by omega
 | n+1,k,h,hk,hi=>by
  rw [List.range_succ,List.find?_append]
  rcases gZ k n with h1 | h1
  ·rw [ahp q n k h1 hk hi];rfl
  obtain rfl:k=n:=by omega
  rw [aiF hi,Option.none_or,List.find?_cons_of_pos hk]
theorem asy (l:List UInt8) (a b:Int) (w:World) (hz:l.length<=100000) (hok:F.ends l=some (a,b)) :
  Calls prog 295 #[.string (bs l)] w λe w'=>e = .returned (.tuple #[ah a, ah b, .bool true])/\w=w':=by
 obtain⟨S,hS⟩:∃ S,(bs l).size=S:=⟨_,rfl⟩
 have HSL:=bx (show S=l.length by rw [<- hS];exact dN l);have hSz:S<=100000:=by rw [HSL.o];exact hz
 have nX:=bx hok;clear hok
 go_in
 go_wp2_with fail
 go_loop [5] (λi=>∃ k:Nat,k<=S/\i = ah k/\Box (∀ j,j<k->F.Ir l j=false)) (λi=>S-(intOf i).toNat)
 ·exact⟨0,by omega,rfl,⟨λj h=>by omega⟩⟩
 obtain⟨k,hk,rfl,hno⟩:=hrel
 by_cases hlt:k+2<=S
 ·have hcut:=SX (P:=prog) (T:=9) underlying9 l k (k+2) (k:Int) ((k:Int)+2) rfl (by omega) ⟨by omega,by have:=HSL.o;omega⟩;obtain⟨X,hX⟩:∃ X,(l.take (k+2)).drop k=X:=⟨_,rfl⟩
  have Fj:=bx (show F.Ir l k=(X==[46,46]) by
   unfold F.Ir;rw [<- hX,List.take_drop,Nat.add_comm k 2,Nat.add_comm])
  rw [hX] at hcut;clear hX
  rcases Bool.eq_false_or_eq_true (X==[46,46]) with hd | hd
  ·have hx:X=[46,46]:=by simpa using hd
   have HF:=bx (show (List.range (l.length-1)).find? (F.Ir l)=some k from ahp _ _ k (by have:=HSL.o;omega) (by rw [Fj.o,hd]) hno.o);have hcmp:((bs X).toList==[46,46])=true:=by rw [Bl,hx];rfl
   clear hx;have hup:=Ef (P:=prog) (T:=9) underlying9 l k (k:Int) rfl (by have:=HSL.o;omega);have hfr:=Gq (P:=prog) (T:=9) underlying9 l (k+2) ((k:Int)+2) (by omega) (by have:=HSL.o;omega);have lu:=bx (λW=>Rw (l.take k) W (by rw [dw];have:=HSL.o;omega));have CV:=bx (λW=>Rw (l.drop (k+2)) W (by rw [gy];have:=HSL.o;omega));have HAB:=bx (show F.code (l.take k)=some a/\F.code (l.drop (k+2))=some b by
    have h:=nX.o;unfold F.ends at h;rw [HF.o] at h;simp only at h
    split at h
    ·rename_i h1 h2
     cases h;exact⟨h1,h2⟩
    cases h)
   rw [HAB.o.1] at lu;rw [HAB.o.2] at CV;unfold Uh at lu CV;simp only at lu CV;clear hd;go_wp2_with fail;refine aP (lu.o _) ?_;go_wp2_with fail;refine aP (CV.o _) ?_;go_wp2_with fail
   go_ret3
   exact⟨rfl,rfl⟩
  have HN:=bx (show ∀ j,j<k+1->F.Ir l j=false from λj hj=>by
   rcases gZ j k with h1 | h1
   ·exact hno.o j h1
   obtain rfl:j=k:=by omega
   rw [Fj.o,hd])
  have hcmp:((bs X).toList==[46,46])=false:=by rw [Bl];exact hd
  clear hd;go_wp2_with fail
  go_round
  ·exact⟨k+1,by omega,by go_num,HN⟩
  simp [intOf];omega
 have HF:=bx (show (List.range (l.length-1)).find? (F.Ir l)=none from aiF (λi hi=>hno.o i (by have:=HSL.o;omega)));have lu:=bx (λW=>Rw l W hz);have HAB:=bx (show F.code l=some a/\a=b by
  have h:=nX.o;unfold F.ends at h;rw [HF.o] at h;simp only at h
  cases hc:F.code l with
  | none=>rw [hc] at h;cases h
  | some x=>rw [hc] at h;cases h;exact⟨rfl,rfl⟩)
 rw [HAB.o.1] at lu;unfold Uh at lu;simp only at lu;go_wp2_with fail;refine aP (lu.o _) ?_;go_wp2_with fail
 go_ret3
 exact⟨by rw [<- HAB.o.2];rfl,rfl⟩
theorem Sv {w:World} {base n:Nat} {e:TypeId} {v:Value} {xs:List Value} (h:w.ownsRow base e 1 v n xs) (hn:0<n):∃ (g cap:Nat) (cur:Array Value),v = .slice (some ⟨g,0,none⟩) n cap/\base<=g/\n<=cap/\cap<=9223372036854775807/\aC w g e cur/\∀ (i:Nat) (x:Value),xs[i]?=some x->cur[i]?=some x:=by
 rcases h.2 with⟨-,h0⟩ | ⟨g,cap,cur,rfl,h2,h3,h4,h5,h6,h7⟩
 ·omega
 refine⟨g,cap,cur,rfl,h2,h4,by unfold maxLen at h5;omega,h3,λi x hx=>?_⟩;rw [<- h7,wE] at hx
 split at hx
 ·rw [<- Array.getElem?_toList];exact hx
 cases hx
theorem auR {w:World} {base n:Nat} {e:TypeId} {v:Value} {xs:List Value} (h:w.ownsRow base e 1 v n xs) {g:Nat} (hg:v.ownBlock=some g) (i:Nat) (hi:i<n) (u:Value):(w.setCell ⟨g,i,none⟩ u).ownsRow base e 1 v n (xs.set i u):=by
 refine⟨by rw [List.length_set];exact h.1,?_⟩
 rcases h.2 with⟨-,h0⟩ | ⟨g',cap,cur,rfl,h2,h3,h4,h5,h6,h7⟩
 ·omega
 simp [Value.ownBlock] at hg;subst hg;refine .inr ⟨g',cap,cur.setIfInBounds i u,rfl,h2,aC.bJ (w:=w) (t:=e) h3 i u,h4,h5,by simpa using h6,?_⟩;rw [Array.toList_setIfInBounds,<- h7]
 apply List.ext_getElem?
 intro j;rw [wE,List.getElem?_set,List.getElem?_set,wE,dw]
 by_cases hj:j<n*1
 ·simp only [hj,if_true]
  by_cases e1:i=j
  ·subst e1;simp only [if_true];have:i<min (n*1) cur.toList.length↔i<cur.toList.length:=by omega
   simp only [this]
  simp [e1]
 simp only [hj,if_false]
 by_cases e1:i=j
 ·omega
 simp [e1]
theorem Sep.setRow' {W:World} {ps:List Pc} (h:Sep ps W) (k:Nat) {base n:Nat} {e:TypeId} {v:Value} {xs:List Value} (hk:ps[k]?=some (Pc.row base e 1 v n xs)) {g:Nat} (hg:v.ownBlock=some g) (i:Nat) (hi:i<n) (u:Value) :
  Sep (ps.set k (Pc.row base e 1 v n (xs.set i u))) (W.setCell ⟨g,i,none⟩ u) :=
 h.upd (own:=λq=>q=g) k hk (Turns.setCell (own:=λq=>q=g) W (p:=⟨g,i,none⟩) rfl u) (λq hq _=>by subst hq;exact hg) (auR (h.row k hk) hg i hi u) (λq hq=>.inl hq)
theorem Qx (c:UInt8) (l:List UInt8):∃ h t,F.split c l=h::t/\h.length<=l.length:=by
 cases hs:F.split c l with
 | nil=>exact absurd hs (F.aef c l)
 | cons h t=>exact⟨h,t,rfl,F.J7 c l h (by rw [hs];exact jZ ..)⟩
theorem JE {P:Program} {fn:Func} {p u u2:Tmp} {ty:TypeId} (h:fn.results=#[.cell p ty, .tmp u, .tmp u2]) (tmps:Array Value) (w:World) (g:Nat) (t:TypeId) (cs:Array Value) (fr:Nat×Nat) (d:TypeDesc)
  (hp:tmps.getD p undef = aA g) (hg:w.heap[g]?=some (.cells cs t fr)) (hu:P.underlying ty=some d) (hd:(match d with | .struct _ | .array _ _=>true | _=>false)=true) (hi:(P.info? ty).map (·.size)=some cs.size) :
  (results fn tmps).run P w = .ok (.tuple #[.agg cs,tmps.getD u undef,tmps.getD u2 undef]) w:=by
 have hp':tmps[p]?.getD undef = aA g:=by simpa using hp
 simp [results,h,hp',asAddr,run_loadVar_row w g t ty cs fr d hg hu hd hi,Result.andThen]
theorem recInfo:(prog.info? 242).map (·.size)=some 4:=by kernel_rfl
theorem aob (l:List UInt8) (w:World) (hz:l.length<=20000) (hok:F.Dl l=some none) :
  Calls prog 254 #[.string (bs l)] w λe w'=>e = .returned (.tuple #[.agg #[ah 0, ah 0, ah 0, aj], .bool false, ah 0])/\ak w w':=by
 obtain⟨h,t,hs,hl⟩:=Qx 35 l;have HT:=bx (show F.trim h=[] by
  unfold F.Dl at hok;rw [hs] at hok;exact F.als hok)
 obtain⟨w1,hw1⟩:∃ w1,w1=w.alloc (.cells #[ah 0, ah 0, ah 0, aj] 242):=⟨_,rfl⟩
 have hb1:ak w w1:=by rw [hw1];exact(Below.refl _ _).alloc aU _
 have HB1:=bx hb1;have gU:=bx (aK hw1);have wH:=bx (show Calls prog 180 #[.string (bs l), .int .u8 35] w1 λe w'=>(∃ v,e = .returned v/\cZ w' v (F.split 35 l))/\ak w1 w' from OQ l 35 w1 (by omega));rw [hs] at wH;have lq:=bx (λW=>Me h W (by omega));rw [HT.o] at lq;have HW1:=bx hw1;clear hb1 hw1 hok hs
 go_in
 go_upto_region 1 with(fail)
 rw [<- HW1.o];go_wp2_with fail;refine wH.o.mono ?_;rintro e w2 ⟨⟨v,rfl,hv⟩,hb2⟩;obtain⟨g,off,cap,rfl,h2,h3,h4,h5⟩:=hv.get (by simp);have hc:=h5 0 h rfl;rw [Nat.add_zero] at hc;have hk2:=gU.o.below hb2 gU.o.lt;have oh:=bx hk2;have HB2:=aJ HB1 hb2;unfold maxLen at h3;rw [dY] at h2 ⊢;clear hb2 hv h5 hk2;go_wp2_with fail;refine aP (lq.o _) ?_;have hemp:=xH;have k0:=(oh.o.cell 0).trans (show _=some (Value.int .i64 0) from rfl);have k1:=(oh.o.cell 1).trans (show _=some (Value.int .i64 0) from rfl);have k2:=(oh.o.cell 2).trans (show _=some (Value.int .i64 0) from rfl);have k3:=(oh.o.cell 3).trans (show _=some (Value.slice none 0 0) from rfl);have f0:=oh.o.frozen 0;have f1:=oh.o.frozen 1;have f2:=oh.o.frozen 2;have f3:=oh.o.frozen 3;have kl:=oh.o.lt;go_wp2_with fail;exact bodyPost_ret (v:=.tuple #[.agg #[ah 0, ah 0, ah 0, aj], .bool false, ah 0]) (JE results254 _ _ w.heap.size 242 #[ah 0, ah 0, ah 0, aj] (0,0) _ rfl ((((oh.o.bJ 0 (ah 0)).bJ 1 (ah 0)).bJ 2 (ah 0)).bJ 3 (aj)) underlying242 rfl recInfo) rfl
  ⟨rfl,(((HB2.o.setCell aU _).setCell aU _).setCell aU _).setCell aU _⟩
def zh {α:Type} (f:α->α) (P:List α) (k:Nat):List α:=(P.take k).map f++P.drop k
theorem anZ {α:Type} (f:α->α) (P:List α):zh f P P.length=P.map f:=by unfold zh;rw [mQ,List.drop_length,oG]
theorem an2 {α:Type} (f:α->α) (P:List α) (k:Nat):(zh f P k)[k]?=P[k]?:=by
 unfold zh
 rcases gZ k P.length with h | h
 ·rw [yD (by simp;omega),aV,dw,xY]
  congr 1
  omega
 rw [List.getElem?_eq_none h,List.getElem?_eq_none (by simp;omega)]
theorem alL {α:Type} (f:α->α) (P:List α) (k:Nat) {x:α} (h:P[k]?=some x):(zh f P k).set k (f x)=zh f P (k+1):=by
 have hk:=(dO h).1;have hd:P.drop k=x::P.drop (k+1):=by
  rw [zS hk,(dO h).2]
 unfold zh;have h0:k-((P.take k).map f).length=0:=by simp;omega
 rw [hd,jw,h,List.set_append,aF (by simp;omega),h0];simp
theorem auT (l:List UInt8) (a b:Int) (fs:List (List UInt8)) (w:World) (hz:l.length<=20000) (hok:F.Dl l=some (some (a,b,fs))) :
  Calls prog 254 #[.string (bs l)] w λe w'=>(∃ fv,e = .returned (.tuple #[.agg #[.int .i64 0, .int .i64 a, .int .i64 b,fv], .bool true, .int .i64 0])/\cZ w' fv fs/\∀ g,fv.ownBlock=some g->w.heap.size<=g/\g<w'.heap.size)/\ak w w':=by
 obtain⟨h,t,hs,hl⟩:=Qx 35 l;unfold F.Dl at hok;rw [hs,List.headD_cons] at hok;obtain⟨T,hT⟩:∃ T,F.trim h=T:=⟨_,rfl⟩
 have hTl:T.length<=20000:=by rw [<- hT];have:=F.JD h;omega
 rw [hT] at hok;obtain⟨hne,Ib,hab,hb,h2,h21,hfs⟩:=F.VU hok;obtain⟨P,hP⟩:∃ P,F.split 59 T=P:=⟨_,rfl⟩
 rw [hP,aV] at h2 h21;rw [hP] at Ib hfs;have jq:=bx (show ∀ x∈P,x.length<=20000 from λx hx=>by have:=F.J7 59 T x (by rw [hP];exact hx);omega);obtain⟨m,hm⟩:∃ m,P.length=m:=⟨_,rfl⟩
 rw [hm] at h2 h21;obtain⟨w1,hw1⟩:∃ w1,w1=w.alloc (.cells #[.int .i64 0, .int .i64 0, .int .i64 0, .slice none 0 0] 242):=⟨_,rfl⟩
 have hb1:ak w w1:=by rw [hw1];exact(Below.refl _ _).alloc aU _
 have HB1:=bx hb1;have gU:=bx (aK hw1);have wH:=bx (show Calls prog 180 #[.string (bs l), .int .u8 35] w1 λe w'=>(∃ v,e = .returned v/\cZ w' v (F.split 35 l))/\ak w1 w' from OQ l 35 w1 (by omega));rw [hs] at wH;have lq:=bx (λW=>Me h W (by omega));rw [hT] at lq;have agY:=bx (λW=>(show Calls prog 180 #[.string (bs T), .int .u8 59] W λe w'=>(∃ v,e = .returned v/\w'.ownsRow W.heap.size 9 1 v (F.split 59 T).length ((F.split 59 T).map gW))/\ak W w' from abf T 59 W (by omega)));rw [hP,hm] at agY;have HW1:=bx hw1;have Eh:=bx hne;have awh:=bx Ib;have qL:=bx hfs;have HM:=bx hm;clear hb1 hw1 hok hs hT hP hne Ib hfs hm
 go_in
 go_upto_region 1 with(fail)
 rw [<- HW1.o];go_wp2_with fail;refine wH.o.mono ?_;rintro e w2 ⟨⟨v,rfl,hv⟩,hb2⟩;obtain⟨g,off,cap,rfl,q2,q3,q4,q5⟩:=hv.get (by simp);have hc:=q5 0 h rfl;rw [Nat.add_zero] at hc;have oh:=gU.ub hb2;have HB2:=aJ HB1 hb2;unfold maxLen at q3;rw [dY] at q2 ⊢;clear hb2 hv q5;go_wp2_with fail;refine aP (lq.o _) ?_;have hemp:=DC Eh.o;clear hc q2 q3 q4;go_wp2_with fail;refine(agY.o _).mono ?_;rintro e w3 ⟨⟨v,rfl,hown⟩,hb3⟩;obtain⟨g2,cap2,cur,rfl,r1,r2,r3,-,-⟩:=Sv hown (by omega);have bQ:=bx (show Sep [Pc.row w2.heap.size 9 1 (.slice (some ⟨g2,0,none⟩) m cap2) m ((zh F.trim P 0).map gW),Pc.old w2.heap.size w2] w3 from(Sep.start w2).got hb3 hown aU);clear hown hb3 hemp;go_wp2_with fail
 go_loopw [7] (λi wr=>∃ k:Nat,k<=m/\i = .int .i64 k/\Box (Sep [Pc.row w2.heap.size 9 1 (.slice (some ⟨g2,0,none⟩) m cap2) m ((zh F.trim P k).map gW),Pc.old w2.heap.size w2] wr)) (λi _=>m-(intOf i).toNat)
 ·exact⟨0,by omega,rfl,bQ⟩
 obtain⟨k,hk,rfl,hse⟩:=hrel;have dL:=bx (hse.o.bel (n:=w2.heap.size) (W0:=w2) (by simp));clear bQ;obtain⟨g',cap',cur,e1,s1,s2,s3,hbk,hcur⟩:=Sv (hse.o.row 0 rfl) (by omega);obtain⟨rfl,rfl⟩:g2=g'/\cap2=cap':=by injection e1 with e1 e2 e3;injection e1 with e1;injection e1 with e1;exact⟨e1,e3⟩
 by_cases hlt:k<m
 ·obtain⟨x,hx⟩:=bV P k (by have:=HM.o;omega);have hck:=(hbk.cell k).trans (hcur k (.string (bs x)) (by rw [eX,an2,hx];rfl));have hfk:=hbk.frozen k;have hlk:=hbk.lt;have Df:=bx (λW=>Me x W (by have:=jq.o x (dB hx);omega));have nC:=bx (show Sep [Pc.row w2.heap.size 9 1 (.slice (some ⟨g2,0,none⟩) m cap2) m ((zh F.trim P (k+1)).map gW),Pc.old w2.heap.size w2] (wr.setCell ⟨g2,k,none⟩ (.string (bs (F.trim x)))) by
   have h8:=hse.o.setRow' 0 rfl (g:=g2) rfl k hlt (.string (bs (F.trim x)));have e8:((zh F.trim P k).map gW).set k (.string (bs (F.trim x)))=(zh F.trim P (k+1)).map gW:=by
    rw [<- alL F.trim P k hx,List.map_set]
    rfl
   rw [e8] at h8;exact h8)
  clear hx hcur hbk e1;go_wp2_with fail;refine aP (Df.o _) ?_
  go_wp2
  go_roundw
  ·exact⟨k+1,hlt,by go_num,nC⟩
  simp [intOf];omega
 obtain rfl:k=m:=by omega
 have HQ:=bx (show zh F.trim P k=P.map F.trim by rw [<- HM.o];exact anZ F.trim P);obtain⟨y,Q,II⟩:∃ y Q,P.map F.trim=y::Q:=by
  cases hq:P.map F.trim with
  | nil=>have:=congrArg List.length hq;rw [aV,HM.o] at this;simp at this;omega
  | cons y Q=>exact⟨y,Q,rfl⟩
 have X9:Q.length+1=k:=by have:=congrArg List.length II;rw [aV,HM.o,dY] at this;omega
 have hck:=(hbk.cell 0).trans (hcur 0 (.string (bs y)) (by rw [HQ.o,II];rfl));have hlk:=hbk.lt;have hyl:y.length<=20000:=by
  have hy:y∈P.map F.trim:=by rw [II];exact jZ ..
  obtain⟨z,hz1,rfl⟩:=jM.1 hy;have:=jq.o z hz1;have:=F.JD z;omega
 have Ib:=awh.o;rw [II,List.headD_cons] at Ib;have Bz:=bx (λW=>asy y a b W (by omega) Ib);have HFV:=bx (show fs=Q by rw [qL.o,II];rfl);have zT:=bx (show wr.ownsRow w2.heap.size 9 1 (.slice (some ⟨g2,0,none⟩) k cap2) k ((y::Q).map gW) by
  have:=hse.o.row 0 rfl
  rwa [HQ.o,II] at this)
 have hkb:=oh.o.below dL.o oh.o.lt;have k0:=(hkb.cell 0).trans (show _=some (Value.int .i64 0) from rfl);have k1:=(hkb.cell 1).trans (show _=some (Value.int .i64 0) from rfl);have k2:=(hkb.cell 2).trans (show _=some (Value.int .i64 0) from rfl);have k3:=(hkb.cell 3).trans (show _=some (Value.slice none 0 0) from rfl);have f0:=hkb.frozen 0;have f1:=hkb.frozen 1;have f2:=hkb.frozen 2;have f3:=hkb.frozen 3;have kl:=hkb.lt;have HKB:=bx hkb;have lK:=bx (bt HB2.o dL.o);clear hcur hbk e1 II Ib hkb hlt;go_wp2_with fail;refine aP (Bz.o _) ?_;go_wp2_with fail;have hT:Turns (λq=>q=w.heap.size) wr ((((wr.setCell ⟨w.heap.size,0,none⟩ (.int .i64 0)).setCell ⟨w.heap.size,1,none⟩ (.int .i64 a)).setCell ⟨w.heap.size,2,none⟩ (.int .i64 b)).setCell ⟨w.heap.size,3,none⟩ (.slice (some ⟨g2,1,none⟩) (k-1) (cap2-1))) :=
  (((Turns.setCell (own:=λq=>q=w.heap.size) wr (p:=⟨w.heap.size,0,none⟩) rfl _).trans (Turns.setCell (own:=λq=>q=w.heap.size) _ (p:=⟨w.heap.size,1,none⟩) rfl _)).trans (Turns.setCell (own:=λq=>q=w.heap.size) _ (p:=⟨w.heap.size,2,none⟩) rfl _)).trans (Turns.setCell (own:=λq=>q=w.heap.size) _ (p:=⟨w.heap.size,3,none⟩) rfl _)
 have hkl2:=oh.o.lt;have hrow:=hT.row zT.o (λq hq=>by simp [Value.ownBlock] at hq;omega);have aiZ:=gB.iy hrow (by rw [aV,dY];omega);have hlen:((y::Q).map gW).length=k:=by rw [aV,dY];omega
 rw [<- hlen] at aiZ;have hdrop:=gB.drop aiZ 1 (by omega);rw [hlen] at hdrop;have hstr:cZ ((((wr.setCell ⟨w.heap.size,0,none⟩ (.int .i64 0)).setCell ⟨w.heap.size,1,none⟩ (.int .i64 a)).setCell ⟨w.heap.size,2,none⟩ (.int .i64 b)).setCell ⟨w.heap.size,3,none⟩ (.slice (some ⟨g2,1,none⟩) (k-1) (cap2-1))) (.slice (some ⟨g2,1,none⟩) (k-1) (cap2-1)) fs:=by
  rw [HFV.o];exact hdrop
 exact bodyPost_ret (v:=.tuple #[.agg #[.int .i64 0, .int .i64 a, .int .i64 b, .slice (some ⟨g2,1,none⟩) (k-1) (cap2-1)], .bool true, .int .i64 0]) (JE results254 _ _ w.heap.size 242 #[.int .i64 0, .int .i64 a, .int .i64 b, .slice (some ⟨g2,1,none⟩) (k-1) (cap2-1)] (0,0) _ rfl ((((HKB.o.bJ 0 (.int .i64 0)).bJ 1 (.int .i64 a)).bJ 2 (.int .i64 b)).bJ 3 (.slice (some ⟨g2,1,none⟩) (k-1) (cap2-1))) underlying242 rfl recInfo) rfl
  ⟨⟨_,rfl,hstr,λq hq=>by have h9:=hrow.lt g2 rfl;have h8:=HB2.o.size;simp [Value.ownBlock] at hq;omega⟩,(((lK.o.setCell aU _).setCell aU _).setCell aU _).setCell aU _⟩
structure GU (α:Type) where
 at':World->α->Prop
 val:α->Value
 same:∀ {a:α} {W W':World},at' W a->W.heap.size<=W'.heap.size->(∀ g,(val a).ownBlock=some g->W'.heap[g]?=W.heap[g]?)->at' W' a
 lt:∀ {a:α} {W:World} {g:Nat},at' W a->(val a).ownBlock=some g->g<W.heap.size
def Pc.jQ {α:Type} (b:GU α) (L:List α):Pc where
 fp k:=∃ y∈L,(b.val y).ownBlock=some k
 ok W:=∀ y∈L,b.at' W y
 keep:=λ{_ _ _} h ht ho y hy=>b.same (h y hy) ht.size (λg hg=>ht.block g (b.lt (h y hy) hg) (ho g ⟨y,hy,hg⟩))
 lt:=λ{_ _} h ⟨y,hy,hg⟩=>b.lt (h y hy) hg
theorem Sep.jQ {α:Type} {b:GU α} {L:List α} {ps:List Pc} {W:World} (h:Sep ps W) (i:Nat) (hi:ps[i]?=some (Pc.jQ b L)):∀ y∈L,b.at' W y:=h.at' i hi
theorem Sep.aaK {α:Type} {ps:List Pc} {W:World} (h:Sep ps W) (b:GU α):Sep (Pc.jQ b []::ps) W :=
 ⟨λ_ hy=>absurd hy iH,λ_ _ _ ⟨_,hy,_⟩=>absurd hy iH,h⟩
theorem Sep.F9 {α:Type} {b:GU α} {y:α} {ps:List Pc} {W W':World} (h:Sep ps W) (hb:ak W W') (hy:b.at' W' y) (hn:∀ g,(b.val y).ownBlock=some g->W.heap.size<=g):Sep (Pc.jQ b [y]::ps) W' :=
 h.add hb (λz hz=>by rw [fU.1 hz];exact hy) (λk ⟨z,hz,hg⟩=>by rw [fU.1 hz] at hg;exact hn k hg)
theorem Sep.SN {α:Type} {b:GU α} {y:α} {L:List α} {ps:List Pc} {W:World} (h:Sep (Pc.jQ b [y]::ps) W) (i:Nat) (hi:ps[i]?=some (Pc.jQ b L)):Sep (ps.set i (Pc.jQ b (L++[y]))) W :=
 h.join i hi (λz hz=>by
  rcases lM.1 hz with e | e
  ·exact h.tail.jQ i hi z e
  ·exact h.head z e) (λk ⟨z,hz,hg⟩=>by
  rcases lM.1 hz with e | e
  ·exact .inr ⟨z,e,hg⟩
  exact .inl ⟨z,e,hg⟩)
theorem aw3 {W W':World} {v:Value} {xs:List Value} (h:gB W v xs) (hs:W.heap.size<=W'.heap.size) (hg:∀ g,v.ownBlock=some g->W'.heap[g]?=W.heap[g]?):gB W' v xs:=by
 rcases h with h | ⟨b,off,sp,cap,h1,h2,h3,h4⟩
 ·exact .inl h
 refine .inr ⟨b,off,sp,cap,h1,h2,h3,λhn=>?_⟩;obtain⟨k1,k2,k3⟩:=h4 hn;have hb:=hg b (by rw [h1];rfl);exact⟨k1,fC k2 hs,λi x hx=>(World.cell?_of_block hb).trans (k3 i x hx)⟩
def recC (y:F.Rec×Value):List Value:=[ah y.1.1, ah y.1.2.1, ah y.1.2.2.1,y.2]
def I5:GU (F.Rec×Value) where
 at' W y:=cZ W y.2 y.1.2.2.2/\∀ g,y.2.ownBlock=some g->g<W.heap.size
 val y:=y.2
 same:=λ{_ _ _} h hs hg=>⟨aw3 h.1 hs hg,λg hg'=>fC (h.2 g hg') hs⟩
 lt:=λ{_ _ _} h hg=>h.2 _ hg
def zN (w:World) (v:Value) (rs:List F.Rec):Prop:=∃ L:List (F.Rec×Value),L.map (·.1)=rs/\nZ 4 w v (L.map recC)/\∀ y∈L,cZ w y.2 y.1.2.2.2
theorem zN.below {w w':World} {v:Value} {rs:List F.Rec} (h:zN w v rs) (hb:ak w w'):zN w' v rs:=by
 obtain⟨L,h1,h2,h3⟩:=h;exact⟨L,h1,h2.below hb,λy hy=>(h3 y hy).below hb⟩
theorem zN.slice {w:World} {v:Value} {rs:List F.Rec} (h:zN w v rs):∃ a cap,v = .slice a rs.length cap/\rs.length<=cap/\cap<=9223372036854775807:=by
 obtain⟨L,h1,h2,h3⟩:=h;have:=h2.slice
 rwa [aV,<- aV (f:=(·.1)),h1] at this
theorem QV {α β:Type} (f:α->List β) (L:List α):L.flatMap f=(L.map f).flatten:=by induction L with | nil=>rfl | cons x t ih=>simp [ih]
theorem zN.iy {w:World} {base n:Nat} {T:TypeId} {v:Value} {L:List (F.Rec×Value)} (h:w.ownsRow base T 4 v n (L.flatMap recC)) (hn:n=L.length) (hL:∀ y∈L,cZ w y.2 y.1.2.2.2):zN w v (L.map (·.1)):=by
 rw [QV] at h;exact⟨L,rfl,nZ.iy h (by rw [aV];exact hn) (λc hc=>by obtain⟨y,-,rfl⟩:=jM.1 hc;rfl),hL⟩
theorem zN.get {w:World} {v:Value} {rs:List F.Rec} (h:zN w v rs) (hn:rs≠[]) :
  ∃ b off cap,v = .slice (some ⟨b,off,none⟩) rs.length cap/\rs.length<=cap/\cap<=maxLen/\b<w.heap.size/\∀ i r,rs[i]?=some r->w.cell? ⟨b,off+i*4,none⟩=some (ah r.1)/\w.cell? ⟨b,off+i*4+1,none⟩=some (ah r.2.1)/\w.cell? ⟨b,off+i*4+2,none⟩=some (ah r.2.2.1)/\∃ f,w.cell? ⟨b,off+i*4+3,none⟩=some f/\cZ w f r.2.2.2:=by
 obtain⟨L,rfl,h2,h3⟩:=h;obtain⟨b,off,cap,k1,k2,k3,k4,k5⟩:=h2.get (by intro e;apply hn;rw [List.map_eq_nil_iff] at e ⊢;exact e);rw [aV] at k1 k2;rw [aV] at ⊢;refine⟨b,off,cap,k1,k2,k3,k4,λi r hr=>?_⟩;rw [eX] at hr
 cases hy:L[i]? with
 | none=>rw [hy] at hr;cases hr
 | some y =>
  rw [hy] at hr
  cases hr;have hc:(L.map recC)[i]?=some (recC y):=by rw [eX,hy];rfl
  exact⟨k5 i _ hc 0 _ rfl,k5 i _ hc 1 _ rfl,k5 i _ hc 2 _ rfl,y.2,k5 i _ hc 3 _ rfl,h3 y (dB hy)⟩
theorem avc:zk prog 238 242 4 48:=.mk' (z:=.agg #[ah 0, ah 0, ah 0, aj]) underlying238 (by kernel_rfl) rfl
theorem Sep.frame {ps:List Pc} {w w':World} (h:Sep ps w):∀ {qs:List Pc},Sep (qs++[Pc.old w.heap.size w]) w'->Sep (qs++ps) w'
 | [],hq=>h.below (hq.bel (n:=w.heap.size) (W0:=w) (by simp))
 | q::qs,hq=>by
  obtain⟨h1,h2,h3⟩:=hq;refine⟨h1,λp hp k hk=>?_,Sep.frame h h3⟩
  rcases lM.1 hp with h4 | h4
  ·exact h2 p (List.mem_append_left _ h4) k hk
  intro h5;have h6:=h2 (Pc.old w.heap.size w) (by simp) k hk;exact h6 (h.lt h4 h5)
theorem Sep.att {qs:List Pc} {w0 w w':World} {n:Nat} (h:Sep (qs++[Pc.old w.heap.size w]) w') (hn:n<=w.heap.size) (hb:Below n w0 w):Sep (qs++[Pc.old n w0]) w' :=
 Sep.frame (ps:=[Pc.old n w0]) ⟨⟨hn,hb⟩,λ_ hp=>absurd hp iH,trivial⟩ h
theorem afE (l:List UInt8) (rs:List F.Rec) (w:World) (hok:F.parse l=some rs) :
  Calls prog 176 #[.string (bs l)] w λe w'=>∃ v L,e = .returned (.tuple #[v, ah 0, ah 0])/\L.map (·.1)=rs/\Sep [Pc.row w.heap.size 242 4 v L.length (L.flatMap recC),Pc.jQ I5 L,Pc.old w.heap.size w] w':=by
 unfold F.parse at hok
 split at hok
 rotate_left
 ·cases hok
 rename_i hz
 obtain⟨S,hS⟩:∃ S,(bs l).size=S:=⟨_,rfl⟩
 have hSz:S<=20000:=by rw [<- hS,dN];exact hz
 have wH:=bx (show Calls prog 180 #[.string (bs l), .int .u8 10] w λe w'=>(∃ v,e = .returned v/\cZ w' v (F.split 10 l))/\ak w w' from OQ l 10 w (by omega));obtain⟨P,hP⟩:∃ P,F.split 10 l=P:=⟨_,rfl⟩
 have jq:=bx (show ∀ x∈P,x.length<=20000 from λx hx=>by have:=F.J7 10 l x (by rw [hP];exact hx);omega);rw [hP] at wH hok;obtain⟨m,hm⟩:∃ m,P.length=m:=⟨_,rfl⟩
 have hmz:m<=20001:=by rw [<- hm,<- hP];have:=F.Yl 10 l;omega
 rw [hm] at hok;have nX:=bx hok;have HM:=bx hm;have hm0:P≠[]:=by rw [<- hP];exact F.aef 10 l
 have Qv:=bx hm0;clear hok hP hz hm hm0
 go_in
 go_wp2_with fail;refine wH.o.mono ?_;rintro e w1 ⟨⟨v,rfl,hv⟩,hb1⟩;have HV:=bx hv;have HB1:=bx hb1;obtain⟨g,off,cap,rfl,q2,q3,q4,-⟩:=hv.get Qv.o;rw [HM.o] at q2 HV ⊢;have bQ:=bx (((Sep.start w1).aaK I5).kV w1.heap.size 4 242);unfold maxLen at q3;clear hv hb1;go_wp2_with fail
 go_loopw [7,5] (λi o wr=>∃ (k:Nat) (L:List (F.Rec×Value)) (oo:Option Addr) (oc:Nat),k<=m/\i = ah k/\o = .slice oo L.length oc/\L.length<=300/\Box (F.sN P k=some (L.map (·.1)))/\Box (Sep [Pc.row w1.heap.size 242 4 (.slice oo L.length oc) L.length (L.flatMap recC),Pc.jQ I5 L,Pc.old w1.heap.size w1] wr)) (λi _ _=>m-(intOf i).toNat)
 ·exact⟨0,[],none,0,by omega,rfl,rfl,by simp,⟨rfl⟩,bQ⟩
 obtain⟨k,L,oo,oc,hk,rfl,rfl,hLl,hpt,hse⟩:=hrel;have dL:=bx (hse.o.bel (n:=w1.heap.size) (W0:=w1) (by simp));clear bQ
 by_cases hlt:k<m
 ·obtain⟨s,hs⟩:=bV P k (by have:=HM.o;omega);obtain⟨g',off',cap',e1,-,-,-,h5⟩:=(HV.o.below dL.o).get Qv.o;rw [HM.o] at e1;obtain⟨rfl,rfl,rfl⟩:g=g'/\off=off'/\cap=cap':=by injection e1 with e1 e2 e3;injection e1 with e1;injection e1 with e1 e4 e5;exact⟨e1,e4,e3⟩
  have hck:=h5 k s hs;have hsl:s.length<=20000:=jq.o s (dB hs);have MX:=bx (show P.getD k []=s by rw [fO,hs];rfl);obtain⟨nx,hnx⟩:=F.aft (k:=k+1) (by omega) nX.o;have hstep:=hnx;unfold F.sN at hstep;rw [hpt.o,MX.o] at hstep;simp only at hstep;clear hs e1 h5
  cases hlm:F.Dl s with
  | none=>rw [hlm] at hstep;cases hstep
  | some r =>
   rw [hlm] at hstep
   cases r with
   | none =>
    simp only [iQ] at hstep;have F8:=bx (aob s wr hsl hlm);have lU:=bx (show F.sN P (k+1)=some (L.map (·.1)) by rw [hnx,hstep]);clear hlm hnx hstep;go_wp2_with fail;refine aT F8.o λw2 hb2=>?_
    have HS2:=bx ((hse.o.below hb2).alloc (.cells #[ah 0, ah 0, ah 0, aj] 242));clear hb2
    go_wp2
    go_roundw
    ·exact⟨k+1,L,oo,oc,hlt,by go_num,rfl,hLl,lU,HS2⟩
    simp [intOf];omega
   | some r =>
    obtain⟨a,b,fs⟩:=r;simp only at hstep
    split at hstep
    ·cases hstep
    rename_i abJ
    simp only [iQ] at hstep;have Jt:=bx (auT s a b fs wr hsl hlm);have lU:=bx (show F.sN P (k+1)=some (L.map (·.1)++[(k+1,a,b,fs)]) by rw [hnx,hstep]);have ayY:L.length<300:=by rw [aV] at abJ;omega
    have e300:((L.length:Int)==300)=false:=by rw [fG];omega
    clear hlm hnx hstep abJ;go_wp2_with fail;refine Jt.o.mono ?_;rintro e w2 ⟨⟨fv,rfl,hst,hfr⟩,hb2⟩;obtain⟨fo,fc,rfl,fl1,fl2⟩:=hst.slice;have hS2:=hse.o.F9 (b:=I5) (y:=((k+1,a,b,fs), .slice fo fs.length fc)) hb2 ⟨hst,λq hq=>(hfr q hq).2⟩ (λq hq=>(hfr q hq).1);have aS:=bx (hS2.alloc (.cells #[ah ((k:Int)+1), ah a, ah b, .slice fo fs.length fc] 242));have dU:=bx (show (w2.alloc (.cells #[ah ((k:Int)+1), ah a, ah b, .slice fo fs.length fc] 242)).heap.size=w2.heap.size+1 by simp);have hbs:=(aS.o.bel (n:=w1.heap.size) (W0:=w1) (by simp)).size;clear hst hfr hb2 hS2;go_wp2_with (at_builtin;refine Bh (cs:=recC ((k+1,a,b,fs), .slice fo fs.length fc)) rfl _ _ 238 rfl avc (by decide) aS.o 1 rfl rfl (by rw [dU.o];rfl) rfl (by intro u hu;simp only [recC,fB,iH,or_false] at hu;rcases hu with rfl | rfl | rfl | rfl <;> rfl) (by omega) (by omega) hbs ?_;rintro v' w6 hS6 ⟨go',gc',rfl,-,-⟩)
    have dV:=bx (show Sep [Pc.row w1.heap.size 242 4 (.slice (some ⟨go',0,none⟩) (L++[((k+1,a,b,fs),Value.slice fo fs.length fc)]).length gc') (L++[((k+1,a,b,fs),Value.slice fo fs.length fc)]).length ((L++[((k+1,a,b,fs),Value.slice fo fs.length fc)]).flatMap recC),Pc.jQ I5 (L++[((k+1,a,b,fs),Value.slice fo fs.length fc)]),Pc.old w1.heap.size w1] w6 by
     have h8:=Sep.SN (ps:=[Pc.row w1.heap.size 242 4 (.slice (some ⟨go',0,none⟩) (L.length+1) gc') (L.length+1) (L.flatMap recC++recC ((k+1,a,b,fs), .slice fo fs.length fc)),Pc.jQ I5 L,Pc.old w1.heap.size w1]) hS6 1 rfl;rw [bC,oz,List.flatMap_singleton];exact h8)
    clear hS6
    go_wp2
    go_roundw
    ·exact⟨k+1,L++[((k+1,a,b,fs),Value.slice fo fs.length fc)],some ⟨go',0,none⟩,gc',hlt,by go_num,by rw [bC];rfl,by rw [bC];simp;omega,⟨by rw [lU.o,gX];rfl⟩,dV⟩
    simp [intOf];omega
 obtain rfl:k=m:=by omega
 have HL:=bx (show L.map (·.1)=rs by
  have h1:=hpt.o.symm.trans nX.o
  simpa only [iQ] using h1)
 have CQ:=bx (Sep.att (qs:=[_,_]) hse.o HB1.o.size HB1.o);have zo:=bx HB1.o.size;go_wp2_with fail
 go_ret3
 exact⟨_,L,rfl,HL.o,CQ.o.as 0 (p':=Pc.row w.heap.size 242 4 (.slice oo L.length oc) L.length (L.flatMap recC)) rfl (λhr=>own_base hr zo.o) (λ_ hk=>hk)⟩
theorem aby (l:List UInt8) (rs:List F.Rec) (w:World) (hok:F.parse l=some rs) :
  Calls prog 176 #[.string (bs l)] w λe w'=>(∃ v,e = .returned (.tuple #[v, ah 0, ah 0])/\zN w' v rs)/\ak w w' :=
 (afE l rs w hok).mono λ_ _ ⟨v,L,h1,h2,h3⟩ =>
  ⟨⟨v,h1,h2▸zN.iy (h3.row 0 rfl) rfl (λy hy=>(h3.jQ 1 rfl y hy).1)⟩,h3.bel (n:=w.heap.size) (W0:=w) (by simp)⟩
theorem au0 (c:UInt8) (w:World):Calls prog 253 #[.int .u8 (U.aH c)] w λe w'=>e = .returned (.bool (F.letter c))/\w=w':=by
 have h0:=U.G8 c;have h1:=U.Jq c;unfold F.letter;generalize U.aH c=x at *;simp only
 go_in
 go_wp2_with fail
 all_goals go_returns
 all_goals exact⟨aY (by first | rfl | (rw [ny];simp;done) | (rw [ny];simp;omega)),rfl⟩
def OO (o:Option Nat):Value:=match o with
 | some i=>.tuple #[ah i, .bool true]
 | none=>.tuple #[ah 0, .bool false]
theorem aqI {names:List (List UInt8)} {x:List UInt8} (h:∀ (i:Nat) (y:List UInt8),names[i]?=some y->y≠x):F.valueOf names x=none:=by
 unfold F.valueOf;rw [List.findIdx?_eq_none_iff];intro y hy;obtain⟨i,hi,e⟩:=List.getElem_of_mem hy;have:=h i y (by rw [dW hi,e])
 simpa using this
theorem aoh {names:List (List UInt8)} {x:List UInt8} {k:Nat} (hk:names[k]?=some x) (h:∀ (i:Nat) (y:List UInt8),i<k->names[i]?=some y->y≠x):F.valueOf names x=some k:=by
 unfold F.valueOf;have hkl:=(dO hk).1;rw [List.findIdx?_eq_some_iff_getElem];refine⟨hkl,?_,λj hj=>?_⟩
 ·have:=(dO hk).2;simp [this]
 have:=h j names[j] hj (dW (by omega))
 simpa using this
theorem VZ (v:Value) (names:List (List UInt8)) (x:List UInt8) (w:World) (hv:cZ w v names) (hz:names.length<=100000) :
  Calls prog 177 #[v, .string (bs x)] w λe w'=>e = .returned (OO (F.valueOf names x))/\w=w':=by
 have HV:=bx hv;obtain⟨a,cap,rfl,hc1,hc2⟩:=hv.slice;clear hv
 go_in
 go_wp2_with fail
 go_loop [6] (λi=>∃ k:Nat,k<=names.length/\i = ah k/\Box (∀ (j:Nat) (y:List UInt8),j<k->names[j]?=some y->y≠x)) (λi=>names.length-(intOf i).toNat)
 ·exact⟨0,by omega,rfl,⟨λj y h=>by omega⟩⟩
 obtain⟨k,hk,rfl,hno⟩:=hrel
 by_cases hlt:k<names.length
 ·obtain⟨y,hy⟩:=bV names k hlt;obtain⟨g,off,cap2,hg1,hg2,hg3,hg4,hg5⟩:=HV.o.get (by rintro rfl;simp at hlt);obtain⟨rfl,rfl⟩:=dQ hg1;have hck:=hg5 k y hy;have HY:=bx hy;clear hy hg1 hg3 hg5
  by_cases hyx:y=x
  ·subst hyx;have HN:=bx (aoh HY.o hno.o);have e1:((bs y).toList==(bs y).toList)=true:=by simp
   go_wp2
   go_ret2
   exact⟨by rw [HN.o];rfl,rfl⟩
  have e1:((bs y).toList==(bs x).toList)=false:=by rw [Bl,Bl,fG];exact hyx
  have e2:¬ (bs y).toList=(bs x).toList:=by rw [Bl,Bl];exact hyx
  have HN:=bx (show ∀ (j:Nat) (z:List UInt8),j<k+1->names[j]?=some z->z≠x from λj z hj hz=>by
   rcases gZ j k with h1 | h1
   ·exact hno.o j z h1 hz
   obtain rfl:j=k:=by omega
   rw [HY.o] at hz
   cases hz;exact hyx)
  clear hyx;go_wp2_with fail
  go_round
  ·exact⟨k+1,hlt,by go_num,HN⟩
  simp [intOf];omega
 have HN:=bx (aqI (names:=names) (x:=x) (λi y hi=>hno.o i y (by have:=(dO hi).1;omega) hi))
 go_wp2
 go_ret2
 exact⟨by rw [HN.o];rfl,rfl⟩
theorem cZ.take {w:World} {a:Option Addr} {cap:Nat} {xs:List (List UInt8)} (h:cZ w (.slice a xs.length cap) xs) (n cap':Nat) (hc:(xs.take n).length<=cap') (hc':cap'<=cap):cZ w (.slice a (xs.take n).length cap') (xs.take n):=by
 have:=gB.take (xs:=xs.map gW) (by rw [aV];exact h) n cap' (by rw [<- List.map_take,aV];exact hc) hc';rw [<- List.map_take,aV] at this;exact this
theorem Uf (v:Value) (names:List (List UInt8)) (w:World) (hv:cZ w v names) (hok:F.zQ names=true) :
  Calls prog 175 #[v] w λe w'=>e = .returned (.bool true)/\∃ n,w'=w.drewN n:=by
 unfold F.zQ at hok;simp only [dD,fD,jG] at hok;obtain⟨⟨hall,hn1⟩,hn2⟩:=hok;have qK:=bx hall;have HV:=bx hv;obtain⟨a,cap,rfl,hc1,hc2⟩:=hv.slice;clear hv hall
 go_in
 go_wp2_with fail
 go_loopw [3] (λi wr=>∃ k:Nat,k<=names.length/\i = ah k/\∃ n,wr=w.drewN n) (λi _=>names.length-(intOf i).toNat)
 ·exact⟨0,by omega,rfl,0,rfl⟩
 obtain⟨k,hk,rfl,nd,rfl⟩:=hrel
 by_cases hlt:k<names.length
 ·have hko:=qK.o k (oM.2 hlt);obtain⟨x,hx⟩:=bV names k hlt;have hgd:names.getD k []=x:=by rw [fO,hx];rfl
  unfold F.acQ at hko;rw [hgd] at hko;simp only [dD,fD,jG,Option.isNone_iff_eq_none] at hko;obtain⟨⟨⟨k1,k2⟩,k3⟩,k4⟩:=hko;have aw4:=bx k1;have HVN:=bx k2;have HDR:=bx (λm=>uT w m);obtain⟨g,off,cap2,hg1,hg2,hg3,hg4,hg5⟩:=(HV.o.below (HDR.o nd)).get (by rintro rfl;simp at hlt);obtain⟨rfl,rfl⟩:=dQ hg1;have hck:=hg5 k x hx;obtain⟨S,hS⟩:∃ S,(bs x).size=S:=⟨_,rfl⟩
  have wK:=bx (show S=x.length by rw [<- hS];exact dN x);have ax9:S<=40:=by rw [wK.o];exact k4
  have hemp:=DC k3;have wV:=bx (λm=>VZ (.slice (some ⟨g,off,none⟩) (names.take k).length cap) (names.take k) x (w.drewN m) ((HV.o.below (HDR.o m)).take k cap (by rw [dw];omega) aU) (by rw [dw];omega));rw [show (names.take k).length=k by rw [dw];omega,HVN.o] at wV;unfold OO at wV;simp only at wV;have hcap:k<=cap:=by omega
  have ayE:=bx (show ∀ W,(Instr.slice 49 (.slice (some ⟨g,off,none⟩) names.length cap) none (some (ah (k:Int))) none).run prog W = .ok (.slice (some ⟨g,off,none⟩) k cap) W by
   intro W;go_simp)
  clear hx hgd k1 k2 k3 k4 hg1 hg3 hg5;go_wp2_with fail
  go_loopw [4] (λj wr=>∃ i:Nat,i<=S/\j = ah i/\wr=w.drewN nd) (λj _=>S-(intOf j).toNat)
  ·exact⟨0,by omega,rfl,rfl⟩
  obtain⟨i,hi,rfl,rfl⟩:=hrel
  by_cases hil:i<S
  ·obtain⟨d,hd⟩:=bV x i (by rw [<- wK.o];exact hil);have hix:=D5 (P:=prog) underlying9 i hd i rfl;have ZN:=bx (aw4.o d (dB hd));clear hd;go_wp2_with fail;refine aP (au0 d _) ?_;rw [ZN.o]
   go_wp2
   go_roundw
   ·exact⟨i+1,hil,by go_num,trivial⟩
   simp [intOf];omega
  go_wp2_with fail;have gK:=bx (show (w.drewN nd).drew.cell? ⟨g,off+k,none⟩=some (.string (bs x)) from hck);refine jl 12 (λW=>ay W g (off+k)=some (.string (bs x))) (by kernel_rfl) ?_;refine jB [0,1,2,3,4,5,6] ?_
  iterate 7 (refine jA ?_ rfl gK.o ?_ ?_;rotate_left;·intro w q1;go_simp;try with_reducible rfl)
  refine jr ?_;refine kP 7 rfl λKK au=>?_
  go_simp;go_wp2_with (go_at_call 177;refine aP (wV.o (nd+1)) ?_)
  refine au.out _ _ (λ_=>gK.o) ?_;clear au KK;refine jB [8,9,10] ?_
  iterate 3 (refine jA ?_ rfl gK.o ?_ ?_;rotate_left;·intro w q1;go_simp;try with_reducible rfl)
  refine jr ?_;refine kP 11 rfl λKK au=>?_
  go_simp;refine au.out _ _ (λ_=>gK.o) ?_;clear au KK;refine kP 12 rfl λKK au=>?_
  go_simp;refine au.out _ _ (λh=>by cases h) ?_;clear au KK;refine kD ?_ _;have ayB:(w.drewN (nd+1)).cell? ⟨g,off+k,none⟩=some (.string (bs x)):=hck
  go_wp2
  go_roundw
  ·exact⟨k+1,hlt,by go_num,nd+1,rfl⟩
  simp [intOf];omega
 go_wp2
 go_ret
 exact⟨aY (bD (by omega)),nd,rfl⟩
namespace N
theorem Yt (p:Int->Bool):∀ (t:List Int) (j:Nat),(∀ x,x<j->∃ c,t[x]?=some c/\p c=true)↔j<=(t.takeWhile p).length
 | [],j=>by
  simp only [List.takeWhile_nil,iG]
  constructor
  ·intro h
   rcases Ah j with h0 | h0
   ·omega
   obtain⟨c,hc,-⟩:=h 0 h0;simp at hc
  intro h x hx;omega
 | c::t,j=>by
  cases j with
  | zero=>exact⟨λ_=>nK _,λ_ x hx=>by omega⟩
  | succ j =>
   by_cases hc:p c=true
   ·rw [List.takeWhile_cons_of_pos hc,dY];have ih:=Yt p t j
    constructor
    ·intro h;have:=ih.1 λx hx=>by
      obtain⟨d,h1,h2⟩:=h (x+1) (by omega);exact⟨d,by simpa using h1,h2⟩
     omega
    intro h x hx
    cases x with
    | zero=>exact⟨c,rfl,hc⟩
    | succ x =>
     obtain⟨d,h1,h2⟩:=ih.2 (by omega) x (by omega);exact⟨d,by simpa using h1,h2⟩
   rw [List.takeWhile_cons_of_neg hc,iG]
   constructor
   ·intro h;obtain⟨d,h1,h2⟩:=h 0 (by omega);simp at h1;subst h1;exact absurd h2 hc
   intro h;omega
end N
def tH (W:World) (v:Value) (m:Nat) (cs:List Value):Prop :=
 (v = aj/\m=0/\cs=[])\/∃ ad c,v = .slice (some ad) m c/\∀ j u,cs[j]?=some u->W.cell? (ad.add j)=some u
theorem Dv {P:Program} {w0:World} {ops:Array Oper} {rest:List Oper} {o:Oper} {a:Act} {Q:Exit->Act->World->Prop} (hgd:o.guard=none) (s x:Operand) (t:TypeId)
  (ho:o.op = .call { callee:=.builtin .append,args:=#[s,x],argTypes:=#[t,t] }) {base:Nat} {e:TypeId} {sz bytes:Nat} (hP:zk P t e sz bytes) (hsz:0<sz) {ps:List Pc} (hS:Sep ps w0) (k:Nat) {v xv:Value} {cs:List Value} {n m:Nat} {xs:List Value}
  (hk:ps[k]?=some (Pc.row base e sz v n xs)) (hs:a.eval s=v) (hx:a.eval x=xv) (hX:tH w0 xv m cs) (hc:cs.length=m*sz) (h1:∀ u∈cs,u.oneCell'=true) (hn:n+m<=1000000000) (hby:bytes<=10000) (hbase:base<=w0.heap.size)
  (h:∀ v' w',Sep (ps.set k (Pc.row base e sz v' (n+m) (xs++cs))) w'->wpList P ops Q rest (a.put o.dst v') w'):wpList P ops Q (o::rest) a w0:=by
 obtain⟨i,z,ht,hi,hz0,hz1,hz2,hz3⟩:=hP.o
 rcases hX with⟨rfl,rfl,rfl⟩ | ⟨ad,c,rfl,hcl⟩
 ·refine wpList_append_own_none hgd s x t ho base e i sz ht hi v n xs hs (hS.row k hk) hx ?_;have:=h v w0;rw [Nat.add_zero,oG,show ps.set k (Pc.row base e sz v n xs)=ps by
   obtain⟨h2,h3⟩:=dO hk;rw [<- h3,List.set_getElem_self]] at this
  exact this hS
 have hb:(n+m)*bytes<=1000000000*10000:=zA hn hby;refine wpList_append_own_at _ hgd s x t ho base e i z sz bytes ht hi hz0 hz1 hz2 hz3 hsz v n xs hs (hS.row k hk) ad m c cs hx hc hcl h1 (by unfold maxLen;omega) (by omega) hbase ?_;intro v' w' hown hgrow _ hat
 exact h v' w' (hS.grow k hk hgrow hown (by
  rcases hat with e1 | e1
  ·exact .inl e1
  exact .inr (λq hq=>by rw [e1] at hq;simp only [iQ] at hq;omega)))
def Eg (A:Nat->Addr) (B:Nat) (w:World):Prop:=Env [7] 448 A B w
theorem Eg.below {A:Nat->Addr} {B:Nat} {w w':World} (h:Eg A B w) (hb:Below B w w'):Eg A B w':=Env.below h hb
theorem Eg.cell {A:Nat->Addr} {B:Nat} {w:World} (h:Eg A B w):w.cell? ⟨7,0,none⟩=some (.iface 448 (.pointer (some (A 7)))):=h.var _ (fU.2 rfl)
def Ox (A:Nat->Addr):Value:=oZ A 7
theorem ZK (A:Nat->Addr) (B:Nat) (w:World) (hE:Eg A B w) :
  Calls prog 213 #[Ox A] w λe w'=>e = .returned (ah 110)/\w=w':=by
 have hg:=hE.cell;have HI:=bx (SA hE 7 7 (by decide) (by decide));clear hE;unfold Ox oZ
 go_in
 go_wp2_with fail;refine aP HI.o ?_
 go_wp2
 go_ret
 exact⟨rfl,rfl⟩
namespace F
open Go.Proofs.YtdponihkpomheaaGreatDoor
def Jz (names:List (List UInt8)) (x:List UInt8):Option (List N.Item) :=
 if x=[] then some []
 else if ((x.any λc=>c==32||c==91)||x.getLast?==some 42||x==[94]||x==[46])=true then none
 else (valueOf names x).map λi=>[((2:Int) ^ i,0)]
def J8 (c:UInt8):Bool:=c==43||c==47
def KY (names:List (List UInt8)) (t:List UInt8):Option D.Rule :=
 match t.findIdx? J8 with
 | none=>none
 | some i=>match Jz names (trim (t.take i)),Jz names (trim (t.drop (i+1))) with
  | some a,some b=>some ((false,a),(false,b),t.getD i 0==47)
  | _,_=>none
abbrev Map:=Int×List Int
def Ec (l:List Map) (r:Int) (o:List Int):List Map :=
 l.takeWhile (λy=>decide (y.1<r))++(r,o)::match l.dropWhile (λy=>decide (y.1<r)) with
  | []=>[]
  | x::t=>if x.1=r then t else x::t
def Au (s:List UInt8):Option (List Int) :=
 if s=[] then some [] else match code s with
  | some r=>if U.right r=true then some [r] else none
  | none=>none
end F
namespace T
open Go.Proofs.YtdponihkpomheaaGreatDoor
structure Cs where
 lo:List F.Map
 ti:List F.Map
 ca:F.Trie
 ig:F.Trie
def toB (l:List Int):Bool:=decide (l.length<=3)&&l.all U.right
def Gg:Int->List F.Map->Bool
 | _,[]=>true
 | last,x::t=>U.right x.1&&decide (last<x.1)&&toB x.2&&Gg x.1 t
def uP (m:Nat) (l:List F.Map):Bool:=Gg (-1) l&&decide (l.length<=m)
def lI (m:Nat) (c:Cs):Bool:=uP m c.lo&&uP m c.ti&&F.nT c.ca&&F.nT c.ig
def becomes (l:List F.Map) (r:Int):List Int:=match l.find? (λx=>x.1==r) with
 | some x=>x.2
 | none=>[r]
def cased (c:Cs) (r:Int):Bool:=F.says c.ca r != 0
def fP (c:Cs) (r:Int):Bool:=F.says c.ig r != 0
def meets (c:Cs):List Int->Bool
 | []=>false
 | r::t=>cased c r||(fP c r&&meets c t)
def final (c:Cs) (l:List Int) (at':Nat):Bool:=meets c (l.take at').reverse&&!meets c (l.drop (at'+1))
def small (c:Cs) (l:List Int) (at':Nat):List Int:=if (l.getD at' 0==931&&final c l at')=true then [962] else becomes c.lo (l.getD at' 0)
def yI (c:Cs) (l:List Int):Nat->Nat->Bool->List Int
 | 0,_,_=>[]
 | n+1,i,true=>small c l i++yI c l n (i+1) true
 | n+1,i,false=>if cased c (l.getD i 0)=true then becomes c.ti (l.getD i 0)++yI c l n (i+1) true else l.getD i 0::yI c l n (i+1) false
def word (c:Cs) (l:List Int) (a b:Nat):List Int:=yI c l (b-a) a false
end T
end Go.Proofs.YtdponihkpomheaaGreatDoor
