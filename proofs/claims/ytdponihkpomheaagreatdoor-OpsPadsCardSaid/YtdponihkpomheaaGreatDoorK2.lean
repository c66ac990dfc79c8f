/- Texts of this claim. -/
import Derived.ChangeSlices
import Derived.WideShapes
import Derived.Maps.AppendAt
import Derived.Shelf.Abstract
import Derived.Shelf.RegionOpen
import Derived.RangeFuncNested
import Derived.RangeFuncBound
import Derived.RangeFuncCalls
import Derived.RangeFuncLeaves
import Derived.OwnWalkIn
import Derived.TacticsInMore
import Derived.LoopNIn
import Derived.LoopIn
import Derived.Test.YtdponihkpomheaaGreatDoorK1

set_option maxHeartbeats 2000000
namespace Go.Proofs.YtdponihkpomheaaGreatDoor
open Go.RowKit
open Tryz
def Na(n:Int)(x:N.Item):Bool:=JS n x.1&&decide (0<=x.2)&&decide (x.2<=2)
def Ms(n:Int)(l:List N.Item):Bool:=decide (1<=n)&&decide (n<=32)&&decide (l.length<=10)&&l.all (Na n)
theorem ajm{n set:Int}(h:JS n set=true):setB set=true:=by
 unfold JS at h;simp only[Vm,SS]at h;obtain⟨⟨⟨Z7,Z5⟩,ZS⟩,ZG⟩:=h;have hp:2^n.toNat<=2^32:=Nat.pow_le_pow_right (by omega) (by omega);grind[setB]
theorem aj2{n:Int}{l:List N.Item}(h:Ms n l=true):Ss l=true:=by
 unfold Ms at h;simp only[Vm,SS]at h;unfold Ss;rw[Vm];refine⟨Yh h.1.2,?_⟩;rw[QG];intro x Z4;have:=QG.1 h.2 x Z4;unfold Na at this;unfold Ny;simp only[Vm]at this⊢;exact⟨⟨ajm this.1.1,this.1.2⟩,this.2⟩
theorem abw(x:N.Item)(n:Int)(Ut:Nat)(w:World)(ZP:w.cell? ⟨Ut,0,none⟩=some (Z9 n))(Zu:Ut<w.heap.size):
  Calls prog 323 #[.agg #[Z9 x.1,Z9 x.2],Zn Ut] w λe w'=>e=.returned (.bool (!Na n x))/\Z6 w w':=by
 obtain⟨set,how⟩:=x;unfold Na;have Z8:∀S3 RZ,Z6 w ((w.alloc S3).alloc RZ):=λS3 RZ=>(YU.alloc Ys _).alloc (by simp) _
 go_in
 rcases PX how 0 with h|h
 ·go_wp2
  go_ret
  simp_all
 rcases PX 2 how with Z5|Z5
 ·go_wp2
  go_ret
  simp_all
 have YT:=World.cell?_alloc_old;go_wp2_with (go_at_call 324;refine YW (hQ _ _ _) ?_)
 go_ret
 simp_all
theorem adq(n:Int)(l:List N.Item)(k:Nat)(x:N.Item)(h:l[k]?=some x)(YZ:(l.take k).all (Na n)=true)(Z4:Na n x=true):(l.take (k+1)).all (Na n)=true:=by
 rw[Uo,h,List.all_append,YZ];simp[Z4]
theorem rH(n:Int)(l:List N.Item)(k:Nat)(x:N.Item)(h:l[k]?=some x)(Z4:Na n x=false):l.all (Na n)=false:=by
 grind
theorem amw(v:Value)(l:List N.Item)(n:Int)(Ut:Nat)(w:World)(Z2:VA w v l)(ZY:l.length<=16777216)(ZP:w.cell? ⟨Ut,0,none⟩=some (Z9 n))(Zu:Ut<w.heap.size):
  Calls prog 333 #[v,.func (.func 323) #[] #[Zn Ut]] w λe w'=>(∃i:Int,e=.returned (Z9 i)/\decide (0<=i)=!l.all (Na n))/\Z6 w w':=by
 have Qv:=bx Z2;obtain⟨XH,ZU,rfl⟩:=Z2.slice;clear Z2;have ZE:=bx ZP;clear ZP
 go_in
 go_wp2
 go_loopw[8] (λi wr=>∃k:Nat,k<=l.length/\i=Z9 k/\Box ((l.take k).all (Na n)=true)/\Box (Z6 w wr)) (λi _=>l.length-(intOf i).toNat)
 ·exact⟨0,by omega,rfl,⟨rfl⟩,⟨Below.refl _ _⟩⟩
 obtain⟨k,Z3,rfl,YZ,Z8⟩:=hrel
 by_cases Uf:k<l.length
 ·obtain⟨x,Z4⟩:∃x,l[k]?=some x:=⟨_,SA Uf⟩
  have YD:=bx Z4;obtain⟨g,off,XV,Y5,XL,Yi,XB,YX⟩:=(Qv.o.below Z8.o).get (by grind);obtain⟨rfl,rfl⟩:=XN Y5;obtain⟨W2,VM⟩:=YX k x Z4;unfold maxLen at Yi;have Ec:=bx ((Z8.o.cell (p:=⟨Ut,0,none⟩) Zu).trans ZE.o);have UI:=bx (Vh Zu Z8.o.size);clear Z4 Y5 YX
  cases hi:Na n x with
  |true=>
   have Y8:=bx (adq n l k x YD.o YZ.o hi);have YE:=bx (show(!Na n x)=false by grind);clear hi;go_wp2_with fail;refine(abw x n Ut _ Ec.o UI.o).mono ?_;rintro e ZV ⟨rfl,ZZ⟩;rw[YE.o];have ZW:=bx (bt Z8.o ZZ);clear ZZ
   go_wp2
   go_roundw
   ·exact⟨k+1,Uf,by go_num,Y8,ZW⟩
   grind[intOf]
  |false=>
   have Y8:=bx (rH n l k x YD.o hi);have YE:=bx (show(!Na n x)=true by grind);clear hi;go_wp2_with fail;refine(abw x n Ut _ Ec.o UI.o).mono ?_;rintro e ZV ⟨rfl,ZZ⟩;rw[YE.o]
   go_wp2
   go_ret
   exact⟨⟨k,rfl,by rw[Y8.o];simp⟩,bt Z8.o ZZ⟩
 have Y8:=bx (show l.all (Na n)=true by have:=YZ.o;grind)
 go_wp2
 go_ret
 exact⟨⟨-1,rfl,by rw[Y8.o];rfl⟩,Z8.o⟩
theorem avf(v:Value)(l:List N.Item)(n:Int)(Ut:Nat)(w:World)(Z2:VA w v l)(ZY:l.length<=16777216)(ZP:w.cell? ⟨Ut,0,none⟩=some (Z9 n))(Zu:Ut<w.heap.size):
  Calls prog 325 #[v,.func (.func 323) #[] #[Zn Ut]] w λe w'=>e=.returned (.bool (!l.all (Na n)))/\Z6 w w':=by
 have YE:=bx (amw v l n Ut w Z2 ZY ZP Zu)
 go_in
 go_wp2_with fail;refine YE.o.mono ?_;rintro e ZV ⟨⟨i,rfl,hi⟩,Z8⟩;have YD:=bx hi
 go_wp2
 go_ret
 exact⟨YG (by simp),Z8⟩
theorem ad9(st:Bool)(v:Value)(l:List N.Item)(n:Int)(w:World)(Z2:VA w v l)(ZY:l.length<=16777216):
  Calls prog 305 #[.agg #[.bool st,v],Z9 n] w λe w'=>e=.returned (.bool (Ms n l))/\Z6 w w':=by
 unfold Ms;have hw:Z6 w ((w.alloc (.cells #[.bool st,v] 252)).alloc (.cells #[Z9 n] 3)):=(YU.alloc Ys _).alloc (by simp) _;have TW:=bx hw;have ZN:=bx (Z2.below hw);have ZE:=bx (show((w.alloc (.cells #[.bool st,v] 252)).alloc (.cells #[Z9 n] 3)).cell? ⟨w.heap.size+1,0,none⟩=some (Z9 n) by
  simp)
 obtain⟨XH,ZU,rfl⟩:=Z2.slice
 by_cases ZP:1<=n/\n<=32
 ·obtain⟨LD,FX⟩:=ZP
  by_cases hl:l.length<=10
  ·go_in
   go_wp2_with fail;refine Y3 (avf _ l n (w.heap.size+1) _ ZN.o ZY ZE.o (by simp)) λZV Z8=>?_
   have V3:=bx Z8
   go_wp2
   go_ret
   exact⟨YG (by grind),bt TW.o V3.o⟩
  have pK:10<l.length:=by omega
  go_in
  go_wp2
  go_ret
  exact⟨YG (by rfl),TW.o⟩
 have Jb:n<1\/(1<=n/\32<n):=by omega
 rcases Jb with h|⟨h,TB⟩
 all_goals
  go_in
  go_wp2
  go_ret
  exact⟨YG (by grind),TW.o⟩
theorem aeG(st:Bool)(v:Value)(l:List N.Item)(n:Int)(w:World)(Z2:VA w v l)(ZY:l.length<=16777216):
  Calls prog 260 #[.agg #[.bool st,v],Z9 n] w λe w'=>e=.returned (.bool (Ms n l))/\Z6 w w':=by
 have Qv:=bx Z2;obtain⟨XH,ZU,rfl⟩:=Z2.slice;clear Z2;have ZR:=bx (Zv.new w 252 #[.bool st,.slice XH l.length ZU]);have Ox:=bx (((Below.refl w.heap.size w).alloc Ys (.cells #[.bool st,.slice XH l.length ZU] 252)))
 go_in
 go_wp2
 go_loopw[5] (λi wr=>∃k:Nat,k<=l.length/\i=Z9 k/\Box ((l.take k).all (Na n)=true)/\Zv wr w.heap.size 252 #[.bool st,.slice XH l.length ZU]/\Box (Z6 w wr)) (λi _=>l.length-(intOf i).toNat)
 ·exact⟨0,by omega,rfl,⟨rfl⟩,ZR.o,Ox⟩
 obtain⟨k,Z3,rfl,YZ,XY,Z8⟩:=hrel;have c1:=XY.q1;have LH:=XY.lt;have WH:=bx XY;clear XY
 by_cases Zu:k<l.length
 ·obtain⟨x,Z4⟩:=Yg l k Zu;have YD:=bx Z4;obtain⟨g,off,XV,Y5,XL,Yi,XB,YX⟩:=(Qv.o.below Z8.o).get (by grind);obtain⟨rfl,rfl⟩:=XN Y5;obtain⟨W2,VM⟩:=YX k x Z4;unfold maxLen at Yi;have T0:=bx (λo=>Z8.o.alloc Z8.o.size o);clear Z4 Y5 YX;obtain⟨set,how⟩:=x
  cases Z0:JS n set with
  |true=>
   have Xe:=bx Z0
   rcases PX how 0 with h|h
   ·have Y8:=bx (show Ms n l=false by unfold Ms;rw[rH n l k _ YD.o (by grind[Na])];simp);clear Z0;go_wp2_with fail;refine YW (qr _ _ _) ?_;rw[Xe.o]
    go_wp2
    go_ret
    exact⟨by rw[Y8.o];rfl,T0.o _⟩
   rcases PX 2 how with Z5|Z5
   ·have Y8:=bx (show Ms n l=false by unfold Ms;rw[rH n l k _ YD.o (by grind[Na])];simp);clear Z0;go_wp2_with fail;refine YW (qr _ _ _) ?_;rw[Xe.o]
    go_wp2
    go_ret
    exact⟨by rw[Y8.o];rfl,T0.o _⟩
   have Y8:=bx (adq n l k _ YD.o YZ.o (show Na n (set,how)=true by grind[Na]));clear Z0;go_wp2_with fail;refine YW (qr _ _ _) ?_;rw[Xe.o]
   go_wp2
   go_roundw
   ·exact⟨k+1,Zu,by go_num,Y8,WH.o.alloc _,⟨T0.o _⟩⟩
   grind[intOf]
  |false=>
   have Xe:=bx Z0;have Y8:=bx (show Ms n l=false by unfold Ms;rw[rH n l k _ YD.o (by grind[Na])];simp);clear Z0;go_wp2_with fail;refine YW (qr _ _ _) ?_;rw[Xe.o]
   go_wp2
   go_ret
   exact⟨by rw[Y8.o];rfl,T0.o _⟩
 have Y8:=bx (show l.all (Na n)=true by have:=YZ.o;grind);go_wp2_with fail
 all_goals go_ret
 all_goals refine⟨YG ?_,Z8.o⟩
 all_goals unfold Ms
 all_goals rw[Y8.o,Lx]
 all_goals grind
def Y6(w:World)(v:Value)(xs:List Int):Prop:=
 (v=Z1/\xs=[])\/∃b off sp ZU,v=.slice (some ⟨b,off,sp⟩) xs.length ZU/\xs.length<=ZU/\ZU<=maxLen/\(xs≠[]->sp=none/\b<w.heap.size/\∀i x,xs[i]?=some x->w.cell? ⟨b,off+i,none⟩=some (Z9 x))
theorem Y6.below{w w':World}{v:Value}{xs:List Int}(h:Y6 w v xs)(Z8:Z6 w w'):Y6 w' v xs:=by
 rcases h with h|⟨b,off,sp,ZU,Z7,Z5,ZS,ZG⟩
 ·exact .inl h
 exact .inr ⟨b,off,sp,ZU,Z7,Z5,ZS,λZP=>⟨(ZG ZP).1,Vh (ZG ZP).2.1 Z8.size,λi x Z4=>(Z8.cell (p:=⟨b,off+i,none⟩) (ZG ZP).2.1).trans ((ZG ZP).2.2 i x Z4)⟩⟩
theorem Y6.get{w:World}{v:Value}{xs:List Int}(h:Y6 w v xs)(ZP:xs≠[]):
  ∃b off ZU,v=.slice (some ⟨b,off,none⟩) xs.length ZU/\xs.length<=ZU/\ZU<=maxLen/\b<w.heap.size/\∀i x,xs[i]?=some x->w.cell? ⟨b,off+i,none⟩=some (Z9 x):=by
 rcases h with⟨_,h⟩|⟨b,off,sp,ZU,Z7,Z5,ZS,ZG⟩
 ·grind
 grind
theorem Y6.au{w:World}{base n:Nat}{T:TypeId}{v:Value}{xs:List Int}(h:w.ownsRow base T 1 v n (xs.map (Value.int .i64)))(ZP:n=xs.length):Y6 w v xs:=by
 subst ZP;have hl:=h.lt
 rcases h.2 with⟨Z7,Z5⟩|⟨g,ZU,VY,rfl,Z5,ZS,ZG,Zi,Yu,VV⟩
 ·exact .inl ⟨Z7,L4 Z5⟩
 refine .inr ⟨g,0,none,ZU,rfl,ZG,Zi,λ_=>⟨rfl,(hl g rfl).2,λi x Z4=>?_⟩⟩;have:=h.cells (g:=g) rfl i (Z9 x) (by grind)
 (try unfold ZQ at *);grind[Addr.add]
theorem Y6.nil{w:World}:Y6 w Z1 []:=.inl ⟨rfl,rfl⟩
theorem Y6.slice{w:World}{v:Value}{xs:List Int}(h:Y6 w v xs):∃a ZU,v=.slice a xs.length ZU:=by
 rcases h with⟨rfl,rfl⟩|⟨b,off,sp,ZU,rfl,_⟩
 ·simp
 simp
namespace N
theorem drop_at(l:List Item)(i:Nat)(h:i<l.length):l.drop i=(l.getD i (0,0))::l.drop (i+1):=by
 simp_all
theorem au7(l:List Item)(n:Nat)(h:n%2=1):clo l n=2^n:=by grind[clo]
theorem aaZ(l:List Item)(n:Nat)(h:l.length<=n/2):clo l n=2^n:=by
 unfold clo
 split
 ·rfl
 rw[Gr h];rfl
theorem aqK(l:List Item)(n:Nat)(h:aJ l (n/2)=0):clo l n=2^n:=by
 by_cases hl:n/2<l.length
 ·unfold clo
  split
  ·rfl
  rw[drop_at l _ hl];grind[yA,aJ]
 exact aaZ l n (by omega)
theorem aoz(l:List Item)(n:Nat)(ZI:n%2=0)(hl:n/2<l.length)(h:aJ l (n/2)≠0):clo l n=2^n ||| clo l (n+2):=by
 unfold clo;rw[Y4 (by omega),Y4 (by omega),drop_at l _ hl,show(n+2)/2=n/2+1 by omega];unfold aJ at h;rw[yA,Y4 h]
end N
namespace D
abbrev Side:=Bool×List N.Item
abbrev Sets:=List Nat
def cK(rs:List Side)(i:Nat):Side:=rs.getD i (false,[])
def cls(n k:Nat):Int:=if k=n then -1 else k
def dV(rs:List Side)(S:Sets)(c:Int)(i:Nat):Nat:=N.step (cK rs i).2 (cK rs i).1 (S.getD i 0) c
def bJ(rs:List Side)(S:Sets)(c:Int):Sets:=(List.range rs.length).map (dV rs S c)
def firstAt(rs:List Side)(i:Nat):Nat:=N.clo (cK rs i).2 0
def bF(rs:List Side):Sets:=(List.range rs.length).map (firstAt rs)
def ef(rs:List Side)(S:Sets)(i:Nat):Bool:=N.fL (cK rs i).2 (S.getD i 0)
def bf(rs:List Side)(S:Sets):Nat->Nat
 |0=>0
 |k+1=>if ef rs S k=true then bf rs S k ||| 2^k else bf rs S k
def place(t:List Sets)(s:Sets):Nat:=t.idxOf s
def add(t:List Sets)(s:Sets):List Sets:=if s∈t then t else t++[s]
def row(rs:List Side)(n:Nat)(S:Sets)(t:List Sets):Nat->List Nat×List Sets
 |0=>([],t)
 |k+1=>((row rs n S t k).1++[place (row rs n S t k).2 (bJ rs S (cls n k))],add (row rs n S t k).2 (bJ rs S (cls n k)))
structure b8 where
 todo:List Sets
 next:List (List Nat)
 fits:List Nat
def b8.go(rs:List Side)(n:Nat)(b:b8):b8:=
 match b.todo[b.next.length]? with
 |none=>b
 |some S=>⟨(row rs n S b.todo (n+1)).2,b.next++[(row rs n S b.todo (n+1)).1],b.fits++[bf rs S rs.length]⟩
def build(rs:List Side)(n:Nat):Nat->b8
 |0=>⟨[bF rs],[],[]⟩
 |k+1=>(build rs n k).go rs n
def da(rs:List Side)(n:Nat):Bool:=decide ((build rs n 300).todo.length<=300)
theorem aa0(rs:List Side)(S:Sets)(c:Int):(bJ rs S c).length=rs.length:=by simp[bJ]
theorem arR(rs:List Side):(bF rs).length=rs.length:=by simp[bF]
theorem aoY(rs:List Side)(S:Sets)(c:Int)(i:Nat)(h:i<rs.length):(bJ rs S c)[i]?=some (dV rs S c i):=by
 grind[bJ]
theorem aqr{rs:List Side}{i:Nat}{r:Side}(h:rs[i]?=some r):cK rs i=r:=by grind[cK]
theorem fo(rs:List Side)(S:Sets):∀k,bf rs S k<2^k
 |0=>by simp[bf]
 |k+1=>by
  have XZ:=fo rs S k;have Z5:2^k<2^(k+1):=Nat.pow_lt_pow_right (by omega) (by omega);unfold bf
  split
  ·exact Nat.or_lt_two_pow (by omega) Z5
  omega
theorem amL(rs:List Side)(S:Sets)(k:Nat):bf rs S k+2^k=bf rs S k ||| 2^k:=by
 have:=Nat.two_pow_add_eq_or_of_lt (fo rs S k) 1;grind
theorem aaN{t:List Sets}{s:Sets}(h:s∈t):place t s<t.length:=List.idxOf_lt_length_of_mem h
theorem eQ{t:List Sets}{s:Sets}(h:s∉t):place t s=t.length:=List.idxOf_eq_length h
theorem alI(t:List Sets)(s:Sets):place t s<=t.length:=by
 by_cases h:s∈t
 ·exact Bn (aaN h)
 grind[eQ]
theorem ae0(t:List Sets)(s:Sets):t <+: add t s:=by
 grind[add]
theorem asz{p:Sets->Prop}{t:List Sets}{s:Sets}(h:∀x∈t,p x)(Z0:p s):∀x∈add t s,p x:=by
 grind[add]
theorem gp{α:Type}{a b:List α}(h:a <+: b){i:Nat}{x:α}(Z4:a[i]?=some x):b[i]?=some x:=by
 obtain⟨c,rfl⟩:=h;grind
section
variable (rs:List Side) (n:Nat) (S:Sets) (t:List Sets)
theorem dO(k:Nat):row rs n S t (k+1)=((row rs n S t k).1++[place (row rs n S t k).2 (bJ rs S (cls n k))],add (row rs n S t k).2 (bJ rs S (cls n k))):=rfl
theorem fO:∀k,(row rs n S t k).1.length=k
 |0=>rfl
 |k+1=>by rw[dO,WR,fO k];rfl
theorem dW:∀k,t <+: (row rs n S t k).2
 |0=>List.prefix_refl _
 |k+1=>(dW k).trans (by rw[dO];exact ae0 _ _)
theorem acG(j:Nat):∀k,(row rs n S t j).2 <+: (row rs n S t (j+k)).2
 |0=>List.prefix_refl _
 |k+1=>(acG j k).trans (by rw[<-Nat.add_assoc,dO];exact ae0 _ _)
theorem as5{j k:Nat}(h:j<=k):(row rs n S t j).2.length<=(row rs n S t k).2.length:=by
 obtain⟨d,rfl⟩:=Nat.exists_eq_add_of_le h;exact(acG rs n S t j d).length_le
theorem fA{p:Sets->Prop}(ZM:∀x∈t,p x)(Z0:∀c,p (bJ rs S c)):∀k,∀x∈(row rs n S t k).2,p x
 |0=>ZM
 |k+1=>by rw[dO];exact asz (fA ZM Z0 k) (Z0 _)
end
section
variable (rs:List Side) (n:Nat)
theorem adm{b:b8}(h:b.todo.length<=b.next.length):b.go rs n=b:=by
 grind[b8.go]
theorem fD{b:b8}{S:Sets}(h:b.todo[b.next.length]?=some S):b.go rs n=⟨(row rs n S b.todo (n+1)).2,b.next++[(row rs n S b.todo (n+1)).1],b.fits++[bf rs S rs.length]⟩:=by
 grind[b8.go]
theorem av5(b:b8):b.todo <+: (b.go rs n).todo:=by
 unfold b8.go
 split
 ·simp
 exact dW _ _ _ _ _
theorem adk(j:Nat):∀k,(build rs n j).todo.length<=(build rs n (j+k)).todo.length
 |0=>Wq _
 |k+1=>XJ (adk j k) (by rw[<-Nat.add_assoc];exact(av5 rs n _).length_le)
theorem avN{j k:Nat}(h:j<=k):(build rs n j).todo.length<=(build rs n k).todo.length:=by
 obtain⟨d,rfl⟩:=Nat.exists_eq_add_of_le h;exact adk rs n j d
theorem aae:∀k,(build rs n k).next.length=(build rs n k).fits.length/\(build rs n k).next.length<=(build rs n k).todo.length/\((build rs n k).next.length=k\/((build rs n k).next.length<k/\(build rs n k).next.length=(build rs n k).todo.length))
 |0=>⟨rfl,OQ _,.inl rfl⟩
 |k+1=>by
  obtain⟨Z7,Z5,ZS⟩:=aae k;show _=_/\_/\_
  rcases SM (build rs n k).next.length (build rs n k).todo.length with h|h
  ·obtain⟨S,hS⟩:∃S,(build rs n k).todo[(build rs n k).next.length]?=some S:=⟨_,SA h⟩
   have e:build rs n (k+1)=_:=fD rs n hS;rw[e];simp only[WR,U3,SK];have hp:=(dW rs n S (build rs n k).todo (n+1)).length_le;omega
  have e:build rs n (k+1)=_:=adm rs n h;grind
theorem ac0{k:Nat}(h:(build rs n k).todo.length<=(build rs n k).next.length):∀m,build rs n (k+m)=build rs n k
 |0=>rfl
 |m+1=>by
  have XZ:=ac0 h m;show(build rs n (k+m)).go rs n=_
  rw[XZ];exact adm rs n h
theorem fc{k:Nat}(Z3:k<=300)(h:(build rs n k).todo.length<=(build rs n k).next.length):build rs n 300=build rs n k:=by
 obtain⟨d,Zm⟩:=Nat.exists_eq_add_of_le Z3;rw[Zm];exact ac0 rs n h d
theorem afj{k:Nat}(Z3:k<=300)(h:(build rs n k).todo.length<=(build rs n k).next.length)(hl:(build rs n k).todo.length<=300):da rs n=true:=by
 grind[da,fc]
theorem aoV{k:Nat}(Z3:k<=300)(h:300<(build rs n k).todo.length):da rs n=false:=by
 unfold da;have:=avN rs n Z3;grind
theorem aek{p:Sets->Prop}(ZI:p (bF rs))(Z0:∀S c,p S->p (bJ rs S c)):∀k,∀x∈(build rs n k).todo,p x
 |0=>by intro x Z4;simp only[build,Pe]at Z4;grind
 |k+1=>by
  have XZ:=aek ZI Z0 k;show∀x∈((build rs n k).go rs n).todo,p x
  unfold b8.go
  split
  ·exact XZ
  rename_i S hS
  exact fA rs n S _ XZ (λc=>Z0 S c (XZ S (Xh hS))) _
end
def Good(rs:List Side)(S:Sets):Prop:=S.length=rs.length/\∀i,i<rs.length->S.getD i 0<2^(2*(cK rs i).2.length+1)
theorem gH(rs:List Side)(f:Nat->Nat)(h:∀i,i<rs.length->f i<2^(2*(cK rs i).2.length+1)):Good rs ((List.range rs.length).map f):=by
 refine⟨by simp,λi hi=>?_⟩;grind
theorem good_step(rs:List Side)(S:Sets)(c:Int):Good rs (bJ rs S c):=gH rs _ λ_ _=>N.as0 _ _ _ _
theorem amU(rs:List Side):Good rs (bF rs):=gH rs _ λ_ _=>N.e7 _ 0 (by omega)
theorem awi(rs:List Side)(n k:Nat):∀x∈(build rs n k).todo,Good rs x:=aek rs n (amU rs) (λS c _=>good_step rs S c) k
end D
abbrev D.Rule:=D.Side×D.Side×Bool
def mY(x:D.Rule)(Vj Ym:Value):Value:=.agg #[.bool x.1.1,Vj,.bool x.2.1.1,Ym,.bool x.2.2]
def vY(w:World)(b o:Nat)(x:D.Rule):Prop:=∃Vj Ym,w.cell? ⟨b,o,none⟩=some (.bool x.1.1)/\w.cell? ⟨b,o+1,none⟩=some Vj/\w.cell? ⟨b,o+2,none⟩=some (.bool x.2.1.1)/\w.cell? ⟨b,o+3,none⟩=some Ym/\w.cell? ⟨b,o+4,none⟩=some (.bool x.2.2)/\VA w Vj x.1.2/\VA w Ym x.2.1.2
theorem vY.below{w w':World}{b o:Nat}{x:D.Rule}(h:vY w b o x)(Zu:b<w.heap.size)(Z8:Z6 w w'):vY w' b o x:=by
 obtain⟨Vj,Ym,ZI,Z7,Z5,ZS,ZG,hl,ZT⟩:=h;have key:=λj=>Z8.cell (p:=⟨b,j,none⟩) Zu
 exact⟨Vj,Ym,(key o).trans ZI,(key (o+1)).trans Z7,(key (o+2)).trans Z5,(key (o+3)).trans ZS,(key (o+4)).trans ZG,hl.below Z8,ZT.below Z8⟩
def TQ(w:World)(v:Value)(l:List D.Rule):Prop:=
 (v=Z1/\l=[])\/∃b off sp ZU,v=.slice (some ⟨b,off,sp⟩) l.length ZU/\l.length<=ZU/\ZU<=maxLen/\(l≠[]->sp=none/\b<w.heap.size/\∀i x,l[i]?=some x->vY w b (off+i*5) x)
theorem TQ.below{w w':World}{v:Value}{l:List D.Rule}(h:TQ w v l)(Z8:Z6 w w'):TQ w' v l:=by
 rcases h with h|⟨b,off,sp,ZU,Z7,Z5,ZS,ZG⟩
 ·exact .inl h
 exact .inr ⟨b,off,sp,ZU,Z7,Z5,ZS,λZP=>⟨(ZG ZP).1,Vh (ZG ZP).2.1 Z8.size,λi x Z4=>((ZG ZP).2.2 i x Z4).below (ZG ZP).2.1 Z8⟩⟩
theorem TQ.get{w:World}{v:Value}{l:List D.Rule}(h:TQ w v l)(ZP:l≠[]):
  ∃b off ZU,v=.slice (some ⟨b,off,none⟩) l.length ZU/\l.length<=ZU/\ZU<=maxLen/\b<w.heap.size/\∀i x,l[i]?=some x->vY w b (off+i*5) x:=by
 rcases h with⟨_,h⟩|⟨b,off,sp,ZU,Z7,Z5,ZS,ZG⟩
 ·grind
 grind
theorem TQ.slice{w:World}{v:Value}{l:List D.Rule}(h:TQ w v l):∃a ZU,v=.slice a l.length ZU:=by
 rcases h with⟨rfl,rfl⟩|⟨b,off,sp,ZU,rfl,_⟩
 ·simp
 simp
theorem TQ.fr{w:World}{XH:Option Addr}{ZU n:Nat}{l:List D.Rule}(h:TQ w (.slice XH n ZU) l):l.length<=ZU/\ZU<=9223372036854775807:=by
 rcases h with⟨Z7,rfl⟩|⟨b,off,sp,ZU,Z7,Z5,ZS,ZG⟩
 ·grind
 grind[maxLen]
theorem TQ.take{w:World}{XH:Option Addr}{ZU cap':Nat}{l:List D.Rule}(h:TQ w (.slice XH l.length ZU) l)(n:Nat)(ZL:(l.take n).length<=cap')(Hx:cap'<=ZU):TQ w (.slice XH (l.take n).length cap') (l.take n):=by
 rcases h with⟨Z7,rfl⟩|⟨b,off,sp,ZU,Z7,Z5,ZS,ZG⟩
 ·grind[TQ]
 injection Z7 with Z7 z8 Dj;subst Z7 Dj;refine .inr ⟨b,off,sp,_,rfl,ZL,XJ Hx ZS,λZP=>?_⟩;have Jb:l≠[]:=by grind
 grind
def Mv(x:D.Rule):Prop:=x.1.2.length<=16777216/\x.2.1.2.length<=16777216
def OH(n:Int)(x:D.Rule):Bool:=Ms n x.1.2&&Ms n x.2.1.2&&!x.2.1.1
def LV(n:Int)(l:List D.Rule):Bool:=decide (1<=n)&&decide (n<=32)&&decide (l.length<=40)&&l.all (OH n)
theorem atV{n:Int}{x:D.Rule}(h:OH n x=true):Ms n x.1.2=true:=by grind[OH]
theorem amz(x:D.Rule)(Vj Ym:Value)(n:Int)(Ut:Nat)(w:World)(Yz:Mv x)(hl:VA w Vj x.1.2)(ZT:VA w Ym x.2.1.2)(ZP:w.cell? ⟨Ut,0,none⟩=some (Z9 n))(Zu:Ut<w.heap.size):
  Calls prog 304 #[mY x Vj Ym,Zn Ut] w λe w'=>e=.returned (.bool (!OH n x))/\Z6 w w':=by
 obtain⟨⟨KL,LB⟩,⟨str,LA⟩,Mc⟩:=x;unfold mY OH;obtain⟨Up,Vf⟩:=Yz;have Yn:Z6 w (w.alloc (.cells #[.bool KL,Vj,.bool str,Ym,.bool Mc] 254)):=YU.alloc Ys _;have ZR:=bx Yn;have GF:=bx (ad9 KL Vj LB n _ (hl.below Yn) Up);have xj:=bx (λw'(Z8:Z6 w w')=>ad9 str Ym LA n w' (ZT.below Z8) Vf);have ZE:=bx (λw'(Z8:Z6 w w')=>(Z8.cell (p:=⟨Ut,0,none⟩) Zu).trans ZP);have WH:=bx (Zv.new w 254 #[.bool KL,Vj,.bool str,Ym,.bool Mc]);have j7:=ZE.o _ Yn;have F0:Ut<w.heap.size+1:=by omega
 cases Z7:Ms n LB with
 |false=>
  have H1:=bx Z7
  go_in
  go_wp2_with fail;refine GF.o.mono ?_;rintro e ZV ⟨rfl,ZZ⟩;rw[H1.o];have ZW:=Zw ZR ZZ
  go_wp2
  go_ret
  exact⟨rfl,ZW.o⟩
 |true=>
  have H1:=bx Z7
  go_in
  go_wp2_with fail;refine GF.o.mono ?_;rintro e ZV ⟨rfl,ZZ⟩;rw[H1.o];have ZW:=Zw ZR ZZ;have Ux:=WH.o.below ZZ WH.o.lt;have c2:=Ux.q2;have c3:=Ux.q3;have LD:=ZE.o _ ZW.o;have Om:=Ux.lt;have V6:=ZW.o.size;have rv:Ut<ZV.heap.size:=by omega
  cases Z5:Ms n LA with
  |false=>
   have U5:=bx Z5;go_wp2_with fail;refine(xj.o _ ZW.o).mono ?_;rintro e ZB ⟨rfl,Zz⟩;rw[U5.o];have Zt:=Zw ZW Zz
   go_wp2
   go_ret
   exact⟨YG (by simp[U5.o]),Zt.o⟩
  |true=>
   have U5:=bx Z5;go_wp2_with fail;refine(xj.o _ ZW.o).mono ?_;rintro e ZB ⟨rfl,Zz⟩;rw[U5.o];have Zt:=Zw ZW Zz;have azs:=(Zz.cell (p:=⟨w.heap.size,2,none⟩) Om).trans c2;have CT:=Vh Om Zz.size
   go_wp2
   go_ret
   exact⟨YG (by simp[U5.o]),Zt.o⟩
theorem hU(n:Int)(l:List D.Rule)(k:Nat)(x:D.Rule)(h:l[k]?=some x)(YZ:(l.take k).all (OH n)=true)(Z4:OH n x=true):(l.take (k+1)).all (OH n)=true:=by
 rw[Uo,h,List.all_append,YZ];simp[Z4]
theorem alQ(n:Int)(l:List D.Rule)(k:Nat)(x:D.Rule)(h:l[k]?=some x)(Z4:OH n x=false):l.all (OH n)=false:=by
 grind
theorem aq0(v:Value)(l:List D.Rule)(n:Int)(Ut:Nat)(w:World)(Yz:∀x∈l,Mv x)(Z2:TQ w v l)(ZY:l.length<=16777216)(ZP:w.cell? ⟨Ut,0,none⟩=some (Z9 n))(Zu:Ut<w.heap.size):
  Calls prog 326 #[v,.func (.func 304) #[] #[Zn Ut]] w λe w'=>(∃i:Int,e=.returned (Z9 i)/\decide (0<=i)=!l.all (OH n))/\Z6 w w':=by
 have Qv:=bx Z2;have Yt:=bx Yz;obtain⟨XH,ZU,rfl⟩:=Z2.slice;have ZE:=bx ZP
 go_in
 go_wp2
 go_loopw[8] (λi wr=>∃k:Nat,k<=l.length/\i=Z9 k/\Box ((l.take k).all (OH n)=true)/\Box (Z6 w wr)) (λi _=>l.length-(intOf i).toNat)
 ·exact⟨0,by omega,rfl,⟨rfl⟩,⟨Below.refl _ _⟩⟩
 obtain⟨k,Z3,rfl,YZ,Z8⟩:=hrel
 by_cases Uf:k<l.length
 ·obtain⟨x,Z4⟩:∃x,l[k]?=some x:=⟨_,SA Uf⟩
  have YD:=bx Z4;have Mi:=bx (Yt.o x (Xh Z4));obtain⟨g,off,XV,Y5,XL,Yi,XB,YX⟩:=(Qv.o.below Z8.o).get (by grind);obtain⟨rfl,rfl⟩:=XN Y5;obtain⟨Vj,Ym,Vl,W2,VM,Ph,Is,QI,N7⟩:=YX k x Z4;have Iz:=bx QI;have aiy:=bx N7;unfold maxLen at Yi;have Ec:=bx ((Z8.o.cell (p:=⟨Ut,0,none⟩) Zu).trans ZE.o);have UI:=bx (Vh Zu Z8.o.size);have Yq:=bx (amz x Vj Ym n Ut wr Mi.o Iz.o aiy.o Ec.o UI.o);unfold mY at Yq
  cases hi:OH n x with
  |true=>
   have Y8:=bx (hU n l k x YD.o YZ.o hi);have YE:=bx (show(!OH n x)=false by grind);go_wp2_with fail;refine Yq.o.mono ?_;rintro e ZV ⟨rfl,ZZ⟩;rw[YE.o];have ZW:=bx (bt Z8.o ZZ)
   go_wp2
   go_roundw
   ·exact⟨k+1,Uf,by go_num,Y8,ZW⟩
   grind[intOf]
  |false=>
   have Y8:=bx (alQ n l k x YD.o hi);have YE:=bx (show(!OH n x)=true by grind);go_wp2_with fail;refine Yq.o.mono ?_;rintro e ZV ⟨rfl,ZZ⟩;rw[YE.o]
   go_wp2
   go_ret
   exact⟨⟨k,rfl,by rw[Y8.o];simp⟩,bt Z8.o ZZ⟩
 have Y8:=bx (show l.all (OH n)=true by have:=YZ.o;grind)
 go_wp2
 go_ret
 exact⟨⟨-1,rfl,by rw[Y8.o];rfl⟩,Z8.o⟩
theorem am4(v:Value)(l:List D.Rule)(n:Int)(Ut:Nat)(w:World)(Yz:∀x∈l,Mv x)(Z2:TQ w v l)(ZY:l.length<=16777216)(ZP:w.cell? ⟨Ut,0,none⟩=some (Z9 n))(Zu:Ut<w.heap.size):
  Calls prog 306 #[v,.func (.func 304) #[] #[Zn Ut]] w λe w'=>e=.returned (.bool (!l.all (OH n)))/\Z6 w w':=by
 have YE:=bx (aq0 v l n Ut w Yz Z2 ZY ZP Zu)
 go_in
 go_wp2_with fail;refine YE.o.mono ?_;rintro e ZV ⟨⟨i,rfl,hi⟩,Z8⟩;have YD:=bx hi
 go_wp2
 go_ret
 exact⟨YG (by simp),Z8⟩
theorem ajK(v:Value)(l:List D.Rule)(n:Int)(w:World)(Yz:∀x∈l,Mv x)(Z2:TQ w v l)(ZY:l.length<=16777216):
  Calls prog 271 #[Z9 n,v] w λe w'=>e=.returned (.bool (LV n l))/\Z6 w w':=by
 unfold LV;have hw:Z6 w (w.alloc (.cells #[Z9 n] 3)):=YU.alloc Ys _;have TW:=bx hw;have Yq:=bx (λZL=>am4 v l n w.heap.size _ Yz (Z2.below hw) ZY ZL (by simp));have ZE:=bx ((Zv.new w 3 #[Z9 n]).cell 0);obtain⟨XH,ZU,rfl⟩:=Z2.slice
 by_cases ZP:1<=n/\n<=32
 ·obtain⟨LD,FX⟩:=ZP
  by_cases hl:l.length<=40
  ·go_in
   go_wp2_with fail;refine Y3 (Yq.o (ZE.o.trans rfl)) λZV Z8=>?_
   have V3:=bx Z8
   go_wp2
   go_ret
   exact⟨YG (by grind),bt TW.o V3.o⟩
  have pK:40<l.length:=by omega
  go_in
  go_wp2
  go_ret
  exact⟨YG (by rfl),TW.o⟩
 have Jb:n<1\/(1<=n/\32<n):=by omega
 rcases Jb with h|⟨h,TB⟩
 all_goals
  go_in
  go_wp2
  go_ret
  exact⟨YG (by grind),TW.o⟩
theorem gD(v:Value)(l:List D.Rule)(n:Int)(w:World)(Yz:∀x∈l,Mv x)(Z2:TQ w v l)(ZY:l.length<=16777216):
  Calls prog 206 #[v,Z9 n] w λe w'=>e=.returned (.bool (LV n l))/\Z6 w w':=by
 have WO:=bx (ajK v l n w Yz Z2 ZY)
 go_in
 go_wp2_with fail;refine Y3 WO.o λZV Z8=>?_
 go_wp2
 go_ret
 simp_all
structure Turns(own:Nat->Prop)(W W':World):Prop where
 os:W'.os=W.os
 tape:W'.tape=W.tape
 output:W'.output=W.output
 size:W.heap.size<=W'.heap.size
 block:∀k,k<W.heap.size->¬own k->W'.heap[k]?=W.heap[k]?
structure Holds(own:Nat->Prop)(W W':World):Prop where
 size:W.heap.size<=W'.heap.size
 block:∀k,own k->W'.heap[k]?=W.heap[k]?
section
variable {own own':Nat->Prop} {A B C:World}
theorem Turns.refl(own:Nat->Prop)(A:World):Turns own A A:=⟨rfl,rfl,rfl,Wq _,λ_ _ _=>rfl⟩
theorem Turns.trans(h:Turns own A B)(k:Turns own B C):Turns own A C:=
 ⟨k.os.trans h.os,k.tape.trans h.tape,k.output.trans h.output,XJ h.size k.size,λi hi YT=>(k.block i (Vh hi h.size) YT).trans (h.block i hi YT)⟩
theorem Turns.mono(h:Turns own A B)(hm:∀k,own k->own' k):Turns own' A B:=⟨h.os,h.tape,h.output,h.size,λi hi YT=>h.block i hi (λk=>YT (hm i k))⟩
theorem Turns.of_below(h:Z6 A B):Turns own A B:=⟨h.os,h.tape,h.output,h.size,λi hi _=>h.block i hi⟩
theorem Turns.aef{b:Nat}(h:A.grownBy B (some b))(Z8:own b):Turns own A B:=
 ⟨h.os,h.tape,h.output,h.size,λi hi YT=>h.block i hi (λe=>YT (by grind))⟩
theorem Turns.drew(A:World):Turns own A A.drew:=⟨rfl,rfl,rfl,Wq _,λ_ _ _=>rfl⟩
theorem Turns.alloc(A:World)(o:Obj):Turns own A (A.alloc o):=.of_below (YU.alloc Ys o)
theorem Turns.setCell(A:World){p:Addr}(hp:own p.block)(u:Value):Turns own A (A.setCell p u):=
 ⟨rfl,rfl,rfl,by simp,λk _ YT=>Below.heap_setCell _ _ _ _ (λe=>YT (by grind))⟩
theorem Turns.putObj(A:World){l:Nat}(hl:own l)(o:Obj):Turns own A (A.putObj l o):=
 ⟨rfl,rfl,rfl,by simp,λk _ YT=>World.putObj_heap_other (λe=>YT (by grind))⟩
theorem Turns.below(h:Turns own A B){n:Nat}(ZP:n<=A.heap.size)(YT:∀k,own k->n<=k):Below n A B:=
 ⟨h.os,h.tape,h.output,h.size,λk Z3=>h.block k (by omega) (λe=>by grind)⟩
theorem Turns.blk(h:Turns own A B){g:Nat}{t:TypeId}{cs:Array Value}(Z8:Zv A g t cs)(ZH:¬own g):Zv B g t cs:=(h.block g Z8.lt ZH).trans Z8
theorem Turns.cell(h:Turns own A B){p:Addr}{v:Value}(hp:A.cell? p=some v)(ZH:¬own p.block):B.cell? p=some v:=
 (World.cell?_of_block (h.block p.block (World.block_lt_of_cell? A p hp) ZH)).trans hp
theorem Turns.row(h:Turns own A B){base:Nat}{e:TypeId}{size:Nat}{v:Value}{n:Nat}{xs:List Value}(ZT:A.ownsRow base e size v n xs)(ZH:∀k,v.ownBlock=some k->¬own k):B.ownsRow base e size v n xs:=by
 refine⟨ZT.1,?_⟩
 rcases ZT.2 with ZP|⟨g,ZU,VY,rfl,Z8,agk,rest⟩
 ·grind
 exact .inr ⟨g,ZU,VY,rfl,Z8,(h.block g (J4.1 agk).1 (ZH g rfl)).trans agk,rest⟩
theorem Holds.refl(own:Nat->Prop)(A:World):Holds own A A:=⟨Wq _,λ_ _=>rfl⟩
theorem Holds.mono(h:Holds own A B)(hm:∀k,own' k->own k):Holds own' A B:=⟨h.size,λi hi=>h.block i (hm i hi)⟩
theorem Holds.cA(h:Turns own' A B)(hl:∀k,own k->k<A.heap.size)(Zm:∀k,own k->¬own' k):Holds own A B:=⟨h.size,λk Z3=>h.block k (hl k Z3) (Zm k Z3)⟩
end
def r5{α:Type}(n:Nat)(P:Program)(gf:Nat)(lb:Array Value)(encs:α->Array Value)(own keep:Nat->Prop)(ok:List α->α->Prop)(S:List α->World->Prop)(l:Nat)(YH:World):Prop:=
 ∀(J PL:List α->World->Prop),(∀ZC W W',J ZC W->Turns own W W'->J ZC W')->(∀ZC W W',PL ZC W->Turns own W W'->PL ZC W')->
  (∀ZC x W,J ZC W->ok ZC x->YieldAt Fence.wide (n-1) P l (encs x) W λe W'=>(e=.returned (.bool true)/\J (ZC++[x]) W'/\Holds keep W W')\/(e=.returned (.bool false)/\PL (ZC++[x]) W'))->
  J [] YH->CallsIn Fence.wide n P gf (#[.func (.yield l) #[] #[]]++lb) YH λe W'=>(∃v,e=.returned v)/\((∃xs,S xs W'/\J xs W')\/(∃ZC,PL ZC W'))
def abJ{α:Type}(keep:Nat->Prop)(I:List α->World->Prop)(Tb:Code->List α->World->Prop)(l D:Nat)(xs:List α)(W:World):Exit->Act->World->Prop
 | .normal,_,W'=>Holds (λk=>keep k\/k=l\/k=D) W W'/\I xs W'
 | .ret,_,W'=>Holds (λk=>k=l\/k=D) W W'/\Tb .ret xs W'
 | .exit id,_,W'=>Holds (λk=>k=l\/k=D) W W'/\Tb (.exit id) xs W'
 | .goto t,_,W'=>Holds (λk=>k=l\/k=D) W W'/\Tb (.goto t) xs W'
 | .panic _,_,_=>False
 | .outgrown,_,_=>False
structure Lp(o:Obj)(D:Nat)(W:World):Prop where
 loop:W.heap[D+1]?=some o
 defs:W.heap[D]?=some (.deferred (some []))
theorem Lp.lt{o:Obj}{D:Nat}{W:World}(h:Lp o D W):D+2<=W.heap.size:=(J4.1 h.loop).1
theorem Lp.turns{o:Obj}{D:Nat}{W W':World}{own:Nat->Prop}(h:Lp o D W)(ZM:Turns own W W')(ZP:∀k,own k->k<D):Lp o D W' :=
 ⟨(ZM.block _ h.lt (λk=>by grind)).trans h.loop,(ZM.block _ (by have:=h.lt;omega) (λk=>by grind)).trans h.defs⟩
theorem qA{α:Type}{P:Program}{n:Nat}{g:Operand}{ps:Array Tmp}{assign body:Code}{Q:Exit->Act->World->Prop}{a:Act}{w:World}{gf:Nat}{lb:Array Value}(ZH:a.eval g=.func (.func gf) #[] lb)(Gd:∀args w,(callFunc gf args).run P w=.ok (.enter gf args) w){encs:α->Array Value}(LC:∀x,(encs x).size=ps.size)(P9:α->Act->World->Prop)(Gc:∀x a1 W W',P9 x a1 W->Turns (λk=>k=w.heap.size+1) W W'->P9 x a1 W')(Df:∀(x:α)(W:World)(K:Act->World->Prop),w.heap.size+2<=W.heap.size->(∀a1 YH,Turns (λ_=>False) W YH->P9 x a1 YH->K a1 YH)->
   assign.wpIn (Fence.wide.inRound (w.heap.size+1)) (n-1-1) P (Exit.then K (λ_ _ _=>False)) {tmps:=(ps.zip (encs x)).foldl (λt (p,v)=>t.setIfInBounds p v) a.tmps,defers:=[]} W)(jp:World->Prop)(oL:Code->World->Prop)(aw7:∀(ro:Obj)(Ex:Code->Obj)(YH:World),Turns (λ_=>False) w YH->YH.heap.size=w.heap.size+2->Lp ro w.heap.size YH->
   (∀(x:α)(W:World)(R:World->World->Prop)(X:Code->World->Prop),Lp ro w.heap.size W->
    (∀a1 SZ,Turns (λk=>k=w.heap.size+1) W SZ->P9 x a1 SZ->body.wpIn (Fence.wide.inRound (w.heap.size+1)) (n-1-1) P (λe _ XE=>match e with
     | .normal=>R SZ XE
     | .ret=>Holds (λk=>k=w.heap.size+1\/k=w.heap.size) SZ XE/\X .ret XE
     | .exit id=>Holds (λk=>k=w.heap.size+1\/k=w.heap.size) SZ XE/\X (.exit id) XE
     | .goto t=>Holds (λk=>k=w.heap.size+1\/k=w.heap.size) SZ XE/\X (.goto t) XE
     |_=>False) a1 SZ)->
    (∀SZ XE,w.heap.size+2<=SZ.heap.size->R SZ XE->Holds (λk=>k=w.heap.size+1\/k=w.heap.size) SZ XE)->
    YieldAt Fence.wide (n-1-1) P (w.heap.size+1) (encs x) W λe W' =>
     (e=.returned (.bool true)/\Lp ro w.heap.size W'/\∃SZ XE,Turns (λk=>k=w.heap.size+1) W SZ/\R SZ XE/\Turns (λk=>k=w.heap.size+1) XE W')\/
     (e=.returned (.bool false)/\∃c XE,Lp (Ex c) w.heap.size W'/\X c XE/\Turns (λk=>k=w.heap.size+1) XE W'))->
   CallsIn Fence.wide (n-1) P gf (#[.func (.yield (w.heap.size+1)) #[] #[]]++lb) YH λe W'=>(∃v,e=.returned v)/\((Lp ro w.heap.size W'/\jp W')\/∃c,Lp (Ex c) w.heap.size W'/\oL c W'))(hdone:∀UF W,w.heap.size+2<=W.heap.size->jp UF->Turns (λk=>k=w.heap.size+1) UF W->W.heap[w.heap.size]?=some (.deferred (some []))->Q .normal {a with defers:={target:=.collected w.heap.size,args:=#[]}::a.defers} W)(hstop:∀c UF W,w.heap.size+2<=W.heap.size->oL c UF->Turns (λk=>k=w.heap.size+1) UF W->W.heap[w.heap.size]?=some (.deferred (some []))->c.wpIn Fence.wide n P Q {a with defers:={target:=.collected w.heap.size,args:=#[]}::a.defers} W):
  (Code.rangeFunc g ps assign body).wpIn Fence.wide n P Q a w:=by
 refine wpIn_rangeFunc ?_;intro fn C9;have Gf:=λW o=>Turns.putObj (own:=λk=>k=w.heap.size+1) W rfl o;obtain⟨rec,C3⟩:∃rec:LoopState->Option Code->Loop,rec=λst axW=>{state:=st,pending:=axW,fn,tmps:=a.tmps,params:=ps,assign,body,defers:=w.heap.size}:=⟨_,rfl⟩
 obtain⟨YH,ND⟩:∃YH,(w.alloc (.deferred (some []))).alloc (.loop (rec .ready none))=YH:=⟨_,rfl⟩
 have K9:Lp (.loop (rec .ready none)) w.heap.size YH:=by
  rw[<-ND];have:=World.alloc_heap_new (w.alloc (.deferred (some []))) (.loop (rec .ready none));rw[World.size_alloc]at this;exact⟨this,(Below.heap_alloc _ _ _ (by simp)).trans (World.alloc_heap_new w _)⟩
 refine⟨w.heap.size+1,[{target:=.collected w.heap.size,args:=#[]}],YH,{target:=.fn (.func gf) lb,args:=#[.func (.yield (w.heap.size+1)) #[] #[]]},YH,gf,
  #[.func (.yield (w.heap.size+1)) #[] #[]]++lb,YH,?_,?_,?_,?_,λh=>by simp[Fence.wide]at h,?_⟩
 ·rw[<-ND,C3];exact run_enterLoop_outer _ _ _ _ _
 ·simp only[resolve,ZH];simp[go_sem]
 ·intro Pl _;trivial
 ·simp[invoke,go_sem,Gd]
 refine(aw7 (.loop (rec .ready none)) (λc=>.loop (rec .done (some c))) YH (by rw[<-ND];exact(Turns.alloc w _).trans (Turns.alloc _ _)) (by rw[<-ND];simp) K9 ?_).mono ?_
 ·-- one round
  intro x W R X WE De WS;have ZJ:=run_yield (P:=P) (args:=encs x) WE.loop (by grind);rw[C3]at ZJ;refine⟨fn,_,assign,body,ZJ,roundIn_of_wpIn C9 (Df x W _ WE.lt λa1 ij YZ af8=>?_)⟩;have PH:=WE.turns YZ (λ_ h=>h.elim);refine⟨_,run_beginRound PH.loop (by rw[C3]),?_⟩;obtain⟨SZ,af4⟩:∃SZ,ij.putObj (w.heap.size+1) (.loop {rec .ready none with state:=.busy})=SZ:=⟨_,rfl⟩
  rw[af4];have K0:Turns (λk=>k=w.heap.size+1) ij SZ:=by grind
  have BK:Lp (.loop {rec .ready none with state:=.busy}) w.heap.size SZ:=by rw[<-af4];exact⟨World.putObj_heap_same PH.lt,(World.putObj_heap_other (by omega)).trans PH.defs⟩
  refine wpIn_mono (De a1 SZ ((YZ.mono λ_ h=>h.elim).trans K0) (Gc _ _ _ _ af8 K0)) ?_;have fin:∀(jump:Option Code)(XE:World),Holds (λk=>k=w.heap.size+1\/k=w.heap.size) SZ XE->
    (Instr.endRound (w.heap.size+1) jump).run P XE=.ok (.bool jump.isNone) (XE.putObj (w.heap.size+1) (.loop (rec (if jump.isNone then .ready else .done) jump)))/\
    Lp (.loop (rec (if jump.isNone then .ready else .done) jump)) w.heap.size (XE.putObj (w.heap.size+1) (.loop (rec (if jump.isNone then .ready else .done) jump))):=λjump XE Sx=>by
   have K5:=(Sx.block _ (.inl rfl)).trans BK.loop;have:=run_endRound (P:=P) jump K5;rw[C3]at this⊢;exact⟨this,World.putObj_heap_same (J4.1 K5).1,(World.putObj_heap_other (by omega)).trans ((Sx.block _ (.inr rfl)).trans BK.defs)⟩
  rintro e a3 XE hp
  cases e with
  |normal=>exact⟨_,_,(fin none XE (WS _ _ BK.lt hp)).1,.inl ⟨rfl,(fin none XE (WS _ _ BK.lt hp)).2,SZ,XE,(YZ.mono λ_ h=>h.elim).trans K0,hp,Gf _ _⟩⟩
  |ret=>exact⟨_,_,(fin (some .ret) XE hp.1).1,.inr ⟨rfl,.ret,XE,(fin (some .ret) XE hp.1).2,hp.2,Gf _ _⟩⟩
  |exit id=>exact⟨_,_,(fin (some (.exit id)) XE hp.1).1,.inr ⟨rfl,(.exit id),XE,(fin (some (.exit id)) XE hp.1).2,hp.2,Gf _ _⟩⟩
  |goto t=>exact⟨_,_,(fin (some (.goto t)) XE hp.1).1,.inr ⟨rfl,(.goto t),XE,(fin (some (.goto t)) XE hp.1).2,hp.2,Gf _ _⟩⟩
  |panic lk=>grind
  |outgrown=>grind
 -- behind the iterator
 rintro e UF ⟨⟨v,rfl⟩,(⟨hl,Zm⟩|⟨c,hl,Zm⟩)⟩
 ·exact⟨none,_,by have:=run_endLoop (P:=P) hl.loop (by grind);rw[C3]at this;exact this,
   hdone UF _ (by have:=hl.lt;simp;omega) Zm (Gf _ _) ((World.putObj_heap_other (by omega)).trans hl.defs)⟩
 exact⟨some c,_,by have:=run_endLoop (P:=P) hl.loop (by grind);rw[C3]at this;exact this,
  hstop c UF _ (by have:=hl.lt;simp;omega) Zm (Gf _ _) ((World.putObj_heap_other (by omega)).trans hl.defs)⟩
theorem vh{α:Type}{P:Program}{n:Nat}{g:Operand}{ps:Array Tmp}{assign body:Code}{Q:Exit->Act->World->Prop}{a:Act}{w:World}{gf:Nat}{lb:Array Value}(ZH:a.eval g=.func (.func gf) #[] lb)(Gd:∀args w,(callFunc gf args).run P w=.ok (.enter gf args) w){encs:α->Array Value}{own keep:Nat->Prop}{ok:List α->α->Prop}{S:List α->World->Prop}(Wo:∀k,own k\/keep k->k<w.heap.size)(hit:∀YH,Turns (λ_=>False) w YH->r5 (n-1) P gf lb encs own keep ok S (w.heap.size+1) YH)(LC:∀x,(encs x).size=ps.size)(I:List α->World->Prop)(Tb:Code->List α->World->Prop)(UW:∀ZC W W',I ZC W->Turns (λk=>own k\/k=w.heap.size+1) W W'->I ZC W')(Kk:∀c ZC W W',Tb c ZC W->Turns (λk=>own k\/k=w.heap.size+1) W W'->Tb c ZC W')(ZI:I [] w)(P9:α->Act->World->Prop)(Gc:∀x a1 W W',P9 x a1 W->Turns (λk=>k=w.heap.size+1) W W'->P9 x a1 W')(Df:∀(x:α)(W:World)(K:Act->World->Prop),w.heap.size+2<=W.heap.size->(∀a1 YH,Turns (λ_=>False) W YH->P9 x a1 YH->K a1 YH)->
   assign.wpIn (Fence.wide.inRound (w.heap.size+1)) (n-1-1) P (Exit.then K (λ_ _ _=>False)) {tmps:=(ps.zip (encs x)).foldl (λt (p,v)=>t.setIfInBounds p v) a.tmps,defers:=[]} W)(De:∀(ZC:List α)(x:α)(a1:Act)(W:World),w.heap.size+2<=W.heap.size->I ZC W->ok ZC x->P9 x a1 W->
   body.wpIn (Fence.wide.inRound (w.heap.size+1)) (n-1-1) P (abJ keep I Tb (w.heap.size+1) w.heap.size (ZC++[x]) W) a1 W)(hdone:∀(xs:List α)(W:World),w.heap.size+2<=W.heap.size->S xs W->I xs W->W.heap[w.heap.size]?=some (.deferred (some []))->Q .normal {a with defers:={target:=.collected w.heap.size,args:=#[]}::a.defers} W)(hstop:∀(c:Code)(ZC:List α)(W:World),w.heap.size+2<=W.heap.size->Tb c ZC W->W.heap[w.heap.size]?=some (.deferred (some []))->c.wpIn Fence.wide n P Q {a with defers:={target:=.collected w.heap.size,args:=#[]}::a.defers} W)(hS:∀xs W W',S xs W->Turns (λk=>k=w.heap.size+1) W W'->S xs W'):
  (Code.rangeFunc g ps assign body).wpIn Fence.wide n P Q a w:=by
 have ZP:=λk h=>Wo k (.inl h)
 refine qA ZH Gd LC P9 Gc Df (λW=>∃xs,S xs W/\I xs W) (λc W=>∃ZC,Tb c ZC W) (λro Ex YH ZM Z0 WE VX=>?_)
  (λUF W ZY ⟨xs,Z7,Z5⟩ ZM Z3=>hdone xs W ZY (hS _ _ _ Z7 ZM) (UW _ _ _ Z5 (ZM.mono λ_=>.inr)) Z3) (λc UF W ZY ⟨ZC,h⟩ ZM Z3=>hstop c ZC W ZY (Kk _ _ _ _ h (ZM.mono λ_=>.inr)) Z3)
 refine(hit YH ZM (λZC W=>I ZC W/\Lp ro w.heap.size W) (λZC W=>∃c,Tb c ZC W/\Lp (Ex c) w.heap.size W) ?_ ?_ ?_ ⟨UW _ _ _ ZI (ZM.mono λ_ h=>h.elim),WE⟩).mono ?_
 ·rintro ZC W W' ⟨hi,hl⟩ ZM;exact⟨UW _ _ _ hi (ZM.mono λ_=>.inl),hl.turns ZM ZP⟩
 ·rintro ZC W W' ⟨c,hi,hl⟩ ZM;exact⟨c,Kk _ _ _ _ hi (ZM.mono λ_=>.inl),hl.turns ZM ZP⟩
 ·rintro ZC x W ⟨hi,hl⟩ YB;have UB:=hl.lt;refine(VX x W (λSZ XE=>Holds (λk=>keep k\/k=w.heap.size+1\/k=w.heap.size) SZ XE/\I (ZC++[x]) XE) (λc XE=>Tb c (ZC++[x]) XE) hl (λa1 SZ Z8 YZ=>wpIn_mono (De ZC x a1 SZ (by have:=Z8.size;omega) (UW _ _ _ hi (Z8.mono λ_=>.inr)) YB YZ) λe _ _ hp=>by cases e <;> exact hp) (λ_ _ _ h=>h.1.mono λ_ h=>.inr h)).mono ?_;rintro e W' (⟨rfl,K5,SZ,XE,Z8,⟨Uy,L9⟩,Uq⟩|⟨rfl,c,XE,K5,Z4,Uq⟩)
  ·refine .inl ⟨rfl,⟨UW _ _ _ L9 (Uq.mono λ_=>.inr),K5⟩,?_⟩;refine⟨by have:=Z8.size;have:=Uy.size;have:=Uq.size;omega,λk YT=>?_⟩;have pL:=Wo k (.inr YT);have:=Z8.size;have:=Uy.size;rw[Uq.block k (by omega) (by omega),Uy.block k (.inl YT),Z8.block k (by omega) (by omega)]
  exact .inr ⟨rfl,c,Kk _ _ _ _ Z4 (Uq.mono λ_=>.inr),K5⟩
 grind
structure Pc where
 fp:Nat->Prop
 ok:World->Prop
 keep:∀{own:Nat->Prop}{W W':World},ok W->Turns own W W'->(∀k,fp k->¬own k)->ok W'
 lt:∀{W:World}{k:Nat},ok W->fp k->k<W.heap.size
def Sep:List Pc->World->Prop
 |[],_=>True
 |p::ps,w=>p.ok w/\(∀q∈ps,∀k,p.fp k->¬q.fp k)/\Sep ps w
section
variable {W W':World}
theorem Sep.ew:∀{ps:List Pc},Sep ps W->∀p∈ps,p.ok W
 |_::_,⟨h,_,Z0⟩,q,Zs=>(T7.1 Zs).elim (λe=>e▸h) (λe=>Sep.ew Z0 q e)
theorem Sep.keep{own:Nat->Prop}:∀{ps:List Pc},Sep ps W->Turns own W W'->(∀p∈ps,∀k,p.fp k->¬own k)->Sep ps W'
 |[],_,_,_=>trivial
 |p::_,⟨h,Zm,Z0⟩,ZM,YT=>⟨p.keep h ZM (YT p (Pw ..)),Zm,Sep.keep Z0 ZM (λq Zs=>YT q (Oj _ Zs))⟩
theorem Sep.below{ps:List Pc}(h:Sep ps W)(Z8:Z6 W W'):Sep ps W':=h.keep (own:=λ_=>False) (Turns.of_below Z8) (λ_ _ _ _ h=>h)
theorem Sep.head{p:Pc}{ps:List Pc}(h:Sep (p::ps) W):p.ok W:=h.1
theorem Sep.tail{p:Pc}{ps:List Pc}(h:Sep (p::ps) W):Sep ps W:=h.2.2
theorem Sep.at'{ps:List Pc}(h:Sep ps W)(i:Nat){p:Pc}(hi:ps[i]?=some p):p.ok W:=h.ew p (Xh hi)
theorem Sep.lt{ps:List Pc}(h:Sep ps W){p:Pc}(hp:p∈ps){k:Nat}(Z3:p.fp k):k<W.heap.size:=p.lt (h.ew p hp) Z3
theorem Sep.add{p:Pc}{ps:List Pc}(h:Sep ps W)(Z8:Z6 W W')(hp:p.ok W')(ZP:∀k,p.fp k->W.heap.size<=k):Sep (p::ps) W' :=
 ⟨hp,λq Zs k Z3 FV=>by have:=ZP k Z3;have:=h.lt Zs FV;omega,h.below Z8⟩
theorem Sep.upd{own:Nat->Prop}:∀{ps:List Pc}(i:Nat){p p':Pc},Sep ps W->ps[i]?=some p->Turns own W W'->(∀k,own k->k<W.heap.size->p.fp k)->p'.ok W'->(∀k,p'.fp k->p.fp k\/W.heap.size<=k)->Sep (ps.set i p') W'
 |[],_,_,_,_,hi,_,_,_,_=>by grind
 |q::ps,0,p,p',h,hi,ZM,YT,hp,ZP=>by
  simp only[Ig,OS]at hi;subst hi;have TB:=h;obtain⟨Z7,Z5,ZS⟩:=h;refine⟨hp,λr ZT k Z3 jY=>?_,ZS.keep ZM (λr ZT k Z3 YB=>?_)⟩
  ·rcases ZP k Z3 with e|e
   ·grind
   have:=ZS.lt ZT jY;omega
  exact Z5 r ZT k (YT k YB (ZS.lt ZT Z3)) Z3
 |q::ps,i+1,p,p',h,hi,ZM,YT,hp,ZP=>by
  rw[List.getElem?_cons_succ]at hi;have TB:=h;obtain⟨Z7,Z5,ZS⟩:=h;have hm:=Xh hi;have Zs:=q.keep Z7 ZM (λk Z3 YB=>Z5 p hm k Z3 (YT k YB (q.lt Z7 Z3)));refine⟨Zs,λr ZT k Z3 jY=>?_,Sep.upd i ZS hi ZM YT hp ZP⟩
  rcases List.mem_or_eq_of_mem_set ZT with e|e
  ·grind
  subst e
  rcases ZP k jY with e|e
  ·grind
  have:=q.lt Z7 Z3;omega
theorem Sep.perm{ps qs:List Pc}(hp:ps.Perm qs):Sep ps W->Sep qs W:=by
 induction hp with
 |nil=>simp
 |cons a hp XZ=>exact λ⟨Z7,Z5,ZS⟩=>⟨Z7,λq Zs=>Z5 q (hp.mem_iff.2 Zs),XZ ZS⟩
 |swap a b l=>
  rintro⟨Z7,Z5,ZS,ZG,Zi⟩;refine⟨ZS,λq Zs k Z3 FV=>?_,Z7,λq Zs=>Z5 q (Oj _ Zs),Zi⟩
  grind
 |trans _ _ i1 i2=>grind
theorem Sep.drop{ps:List Pc}(i:Nat)(h:Sep ps W):Sep (ps.eraseIdx i) W:=by
 induction ps generalizing i with
 |nil=>grind
 |cons p ps XZ=>
  cases i with
  |zero=>exact h.2.2
  |succ i=>exact⟨h.1,λq Zs=>h.2.1 q (List.mem_of_mem_eraseIdx Zs),XZ i h.2.2⟩
theorem Sep.merge{p q r:Pc}{ps:List Pc}(h:Sep (p::q::ps) W)(ZT:r.ok W)(Yz:∀k,r.fp k->p.fp k\/q.fp k):Sep (r::ps) W:=
 ⟨ZT,λs Z0 k Z3 agX=>(Yz k Z3).elim (λe=>h.2.1 s (Oj _ Z0) k e agX) (λe=>h.2.2.2.1 s Z0 k e agX),h.2.2.2.2⟩
theorem Sep.as:∀{ps:List Pc}(i:Nat){p p':Pc},Sep ps W->ps[i]?=some p->(p.ok W->p'.ok W)->(∀k,p'.fp k->p.fp k)->Sep (ps.set i p') W:=by
 intro ps i p p' h hi Z7 Z5;exact h.upd (own:=λ_=>False) i hi (Turns.refl _ _) (λ_ h _=>h.elim) (Z7 (h.at' i hi)) (λk Z3=>.inl (Z5 k Z3))
theorem Sep.apart{p q:Pc}{ps:List Pc}(h:Sep (p::ps) W)(Zs:q∈ps){k:Nat}(Z3:p.fp k):¬q.fp k:=h.2.1 q Zs k Z3
end
def Pc.old(n:Nat)(W0:World):Pc where
 fp k:=k<n
 ok W:=n<=W.heap.size/\Below n W0 W
 keep:=λ{_ _ _} h ZM YT=>⟨XJ h.1 ZM.size,h.2.trans ⟨ZM.os,ZM.tape,ZM.output,ZM.size,λk Z3=>ZM.block k (Vh Z3 h.1) (YT k Z3)⟩⟩
 lt:=λ{_ _} h Z3=>Vh Z3 h.1
def Pc.blk(g:Nat)(t:TypeId)(cs:Array Value):Pc where
 fp k:=k=g
 ok W:=Zv W g t cs
 keep:=λ{_ _ _} h ZM YT=>ZM.blk h (YT g rfl)
 lt:=λ{_ _} h Z3=>Z3▸h.lt
def Pc.row(base:Nat)(e:TypeId)(s:Nat)(v:Value)(n:Nat)(xs:List Value):Pc where
 fp k:=v.ownBlock=some k
 ok W:=W.ownsRow base e s v n xs
 keep:=λ{_ _ _} h ZM YT=>ZM.row h YT
 lt:=λ{_ _} h Z3=>(h.lt _ Z3).2
def Pc.obj(g:Nat)(o:Obj):Pc where
 fp k:=k=g
 ok W:=W.heap[g]?=some o
 keep:=λ{_ _ _} h ZM YT=>(ZM.block g (J4.1 h).1 (YT g rfl)).trans h
 lt:=λ{_ _} h Z3=>Z3▸(J4.1 h).1
def Pc.dT(m base:Nat)(E e:TypeId)(v:Value)(WM:List Value)(NK:List (List Value)):Pc where
 fp k:=v.ownBlock=some k\/∃i x,i<NK.length/\WM[i]?=some x/\x.ownBlock=some k
 ok W:=WM.length=NK.length+m/\W.ownsRow base E 1 v WM.length WM/\∀(i:Nat)(xs:List Value),NK[i]?=some xs->∃x,WM[i]?=some x/\W.ownsRow base e 1 x xs.length xs/\x.ownBlock≠some (v.ownBlock.getD W.heap.size)
 keep:=λ{own W W'} ⟨ZI,Z7,Z5⟩ ZM YT=>⟨ZI,ZM.row Z7 (λk Z3=>YT k (.inl Z3)),λi xs hi=>by
  obtain⟨x,Z4,ZT,ZP⟩:=Z5 i xs hi;refine⟨x,Z4,ZM.row ZT (λk Z3=>YT k (.inr ⟨i,x,(R7 hi).1,Z4,Z3⟩)),?_⟩
  cases Z2:v.ownBlock with
  |some k=>grind
  |none=>intro e;have Vz:=(ZT.lt _ e).2;have WK:=ZM.size;grind⟩
 lt:=λ{_ _} ⟨_,Z7,Z5⟩ Z3=>Z3.elim (λh=>(Z7.lt _ h).2) (λ⟨i,x,hi,Z4,h⟩=>by
  obtain⟨aA0,zF,ZT,_⟩:=Z5 i _ (SA hi);rw[Z4]at zF
  cases zF;exact(ZT.lt _ h).2)
abbrev Pc.rows(base:Nat)(E e:TypeId)(v:Value)(WM:List Value)(NK:List (List Value)):Pc:=Pc.dT 0 base E e v WM NK
section
variable {W W':World}
theorem Pc.ajR(W:World):(Pc.old W.heap.size W).ok W:=⟨Wq _,Below.refl _ _⟩
theorem Sep.start(W:World):Sep [Pc.old W.heap.size W] W:=⟨Pc.ajR W,λ_ h=>absurd h RH,trivial⟩
theorem Sep.bel{n:Nat}{W0:World}{ps:List Pc}(h:Sep ps W)(hi:Pc.old n W0∈ps):Below n W0 W:=(h.ew _ hi).2
theorem Sep.blk{ps:List Pc}(h:Sep ps W)(i:Nat){g:Nat}{t:TypeId}{cs:Array Value}(hi:ps[i]?=some (Pc.blk g t cs)):Zv W g t cs:=h.at' i hi
theorem Sep.row{ps:List Pc}(h:Sep ps W)(i:Nat){base n s:Nat}{e:TypeId}{v:Value}{xs:List Value}(hi:ps[i]?=some (Pc.row base e s v n xs)):W.ownsRow base e s v n xs:=h.at' i hi
theorem Sep.ak{ps:List Pc}(h:Sep ps W)(t:TypeId)(cs:Array Value):Sep (Pc.blk W.heap.size t cs::ps) (W.alloc (.cells cs t)):=
 h.add (YU.alloc Ys _) (Zv.new W t cs) (λk Z3=>by rw[show k=W.heap.size from Z3];omega)
theorem Sep.alloc{ps:List Pc}(h:Sep ps W)(o:Obj):Sep ps (W.alloc o):=h.below (YU.alloc Ys o)
theorem Sep.drew{ps:List Pc}(h:Sep ps W):Sep ps W.drew:=h.keep (own:=λ_=>False) (Turns.drew W) (λ_ _ _ _ h=>h)
theorem aeu(own:Nat->Prop)(W:World)(n:Nat):Turns own W (W.drewN n):=⟨rfl,rfl,rfl,Wq _,λ_ _ _=>rfl⟩
theorem Sep.drewN{ps:List Pc}(h:Sep ps W)(n:Nat):Sep ps (W.drewN n):=h.keep (own:=λ_=>False) (aeu _ W n) (λ_ _ _ _ h=>h)
theorem Sep.aH{ps:List Pc}(h:Sep ps W)(base s:Nat)(e:TypeId):Sep (Pc.row base e s Z1 0 []::ps) W:=
 ⟨World.ownsRow_nil _ _ _ _,λ_ _ k Z3=>by grind[Pc.row,Value.ownBlock],h⟩
theorem Sep.set{ps:List Pc}(h:Sep ps W)(i:Nat){g:Nat}{t:TypeId}{cs:Array Value}(hi:ps[i]?=some (Pc.blk g t cs))(j:Nat)(u:Value):Sep (ps.set i (Pc.blk g t (cs.setIfInBounds j u))) (W.setCell ⟨g,j,none⟩ u):=
 h.upd (own:=λk=>k=g) i hi (Turns.setCell (own:=λk=>k=g) W (p:=⟨g,j,none⟩) rfl u) (λ_ Z3 _=>Z3) ((h.blk i hi).ai j u) (λ_ Z3=>.inl Z3)
theorem own_base{w:World}{base BU:Nat}{e:TypeId}{s:Nat}{v:Value}{n:Nat}{xs:List Value}(h:w.ownsRow base e s v n xs)(Z8:BU<=base):w.ownsRow BU e s v n xs:=
 ⟨h.1,h.2.imp id (λ⟨g,ZU,VY,Z7,Z5,r⟩=>⟨g,ZU,VY,Z7,XJ Z8 Z5,r⟩)⟩
theorem CH{own:Nat->Prop}{A B:World}{row:Option Nat}(h:A.grownBy B row)(ZT:∀k,row=some k->own k):Turns own A B:=
 ⟨h.os,h.tape,h.output,h.size,λi hi YT=>h.block i hi (λe=>YT (ZT i e.symm))⟩
theorem Sep.grow{ps:List Pc}(h:Sep ps W)(i:Nat){base n n' s:Nat}{e:TypeId}{v Zy:Value}{xs tk:List Value}(hi:ps[i]?=some (Pc.row base e s v n xs))(ZH:W.grownBy W' v.ownBlock)(ZT:W'.ownsRow base e s Zy n' tk)(YT:Zy.ownBlock=v.ownBlock\/∀k,Zy.ownBlock=some k->W.heap.size<=k):Sep (ps.set i (Pc.row base e s Zy n' tk)) W' :=
 h.upd (own:=λk=>v.ownBlock=some k) i hi (CH ZH (λ_ h=>h)) (λ_ Z3 _=>Z3) ZT (λk Z3=>by
  rcases YT with e|e
  ·exact .inl (show v.ownBlock=some k by rw[<-e];exact Z3)
  exact .inr (e k Z3))
theorem Sep.got{ps:List Pc}(h:Sep ps W){base n s:Nat}{e:TypeId}{v:Value}{xs:List Value}(Z8:Z6 W W')(ZT:W'.ownsRow W.heap.size e s v n xs)(hB:base<=W.heap.size):Sep (Pc.row base e s v n xs::ps) W' :=
 h.add Z8 (own_base ZT hB) (λk Z3=>(ZT.lt k Z3).1)
end
theorem Sep.join:∀{ps:List Pc}(i:Nat){p q r:Pc}{W:World},Sep (p::ps) W->ps[i]?=some q->r.ok W->(∀k,r.fp k->p.fp k\/q.fp k)->Sep (ps.set i r) W
 |[],_,_,_,_,_,_,hi,_,_=>by grind
 |s::ps,0,p,q,r,W,h,hi,ZT,Yz=>by
  simp only[Ig,OS]at hi;subst hi;exact Sep.merge (ps:=ps) h ZT Yz
 |s::ps,i+1,p,q,r,W,h,hi,ZT,Yz=>by
  rw[List.getElem?_cons_succ]at hi;obtain⟨Z7,Z5,ZS,ZG,Zi⟩:=h;have hm:=Xh hi;refine⟨ZS,λt ZM k Z3 pD=>?_,Sep.join i (p:=p) ⟨Z7,λt ZM=>Z5 t (Oj _ ZM),Zi⟩ hi ZT Yz⟩
  grind
theorem Sep.akP{ps:List Pc}{W:World}(h:Sep ps W)(base:Nat)(E e:TypeId):Sep (Pc.rows base E e Z1 [] []::ps) W:=by
 refine⟨⟨rfl,World.ownsRow_nil _ _ _ _,λi xs hi=>by grind⟩,λ_ _ k Z3=>?_,h⟩
 rcases Z3 with Z3|⟨i,x,hi,_⟩
 ·grind[Value.ownBlock]
 grind
theorem Sep.auH{ps:List Pc}{W:World}{base:Nat}{E e:TypeId}{x:Value}{xs:List Value}(h:Sep (Pc.row base e 1 x xs.length xs::ps) W)(Z8:base<=W.heap.size):
  Sep (Pc.rows base E e (.slice (some ⟨W.heap.size,0,none⟩) 1 1) [x] [xs]::ps) (W.alloc (.cells #[x] E)):=by
 have Z7:=h.row 0 rfl;have Z5:=h.alloc (.cells #[x] E);have Zu:=Z7.lt;have agE:(W.alloc (.cells #[x] E)).ownsRow base E 1 (.slice (some ⟨W.heap.size,0,none⟩) 1 1) 1 [x]:=
  ⟨rfl,.inr ⟨W.heap.size,1,#[x],rfl,Z8,heap_alloc_new _ _,Wq _,by simp[maxLen],rfl,rfl⟩⟩
 have ZS:Sep (Pc.row base E 1 (.slice (some ⟨W.heap.size,0,none⟩) 1 1) 1 [x]::Pc.row base e 1 x xs.length xs::ps) (W.alloc (.cells #[x] E)):=
  h.add (YU.alloc Ys _) agE (λk Z3=>by grind[Pc.row,Value.ownBlock])
 refine ZS.merge ⟨rfl,agE,λi Vi hi=>?_⟩ (λk Z3=>?_)
 ·match i,hi with
  |0,hi=>
   simp only[Ig,OS]at hi;subst hi;exact⟨x,rfl,Z7.alloc _,λe=>by grind[Value.ownBlock]⟩
  |i+1,hi=>grind
 rcases Z3 with Z3|⟨i,y,hi,ZJ,Z3⟩
 ·exact .inl Z3
 simp only[U3,SK]at hi;obtain rfl:i=0:=by omega
 simp only[Ig,OS]at ZJ;subst ZJ;exact .inr Z3
theorem Sep.arA{ps:List Pc}{W W':World}{base n:Nat}{E e:TypeId}{x v Zy:Value}{xs:List Value}{WM:List Value}{NK:List (List Value)}(h:Sep (Pc.row base e 1 x n xs::ps) W)(i:Nat)(hi:ps[i]?=some (Pc.rows base E e v WM NK))(ZP:n=xs.length)(ZH:W.grownBy W' v.ownBlock)(ZT:W'.ownsRow base E 1 Zy (WM.length+1) (WM++[x]))(YT:Zy.ownBlock=v.ownBlock\/∀k,Zy.ownBlock=some k->W.heap.size<=k):Sep (ps.set i (Pc.rows base E e Zy (WM++[x]) (NK++[xs]))) W':=by
 subst ZP;obtain⟨ZI,Z7,Z5⟩:=h.at' (i+1) (p:=Pc.rows base E e v WM NK) (by grind);have Yo:=CH ZH (λ_ h=>h);have pV:∀k,Zy.ownBlock=some k->v.ownBlock=some k\/W.heap.size<=k:=λk Z3=>by
  grind
 have Hu:∀(j:Nat)(Vi:List Value),NK[j]?=some Vi->∃y,WM[j]?=some y/\W'.ownsRow base e 1 y Vi.length Vi/\y.ownBlock≠some (Zy.ownBlock.getD W'.heap.size):=by
  intro j Vi YO;obtain⟨y,ZJ,ahh,aAz⟩:=Z5 j Vi YO;have Xq:∀k,y.ownBlock=some k->¬v.ownBlock=some k:=λk Z3 Z2=>by grind
  have abg:=Yo.row ahh Xq;refine⟨y,ZJ,abg,?_⟩
  cases Z2:Zy.ownBlock with
  |none=>intro e;have:=(abg.lt _ e).2;grind
  |some k=>
   intro e
   rcases pV k Z2 with h|h
   ·grind
   have:=(ahh.lt k e).2;omega
 have auz:(Pc.dT 1 base E e Zy (WM++[x]) NK).ok W':=⟨by grind,by grind,λj Vi YO=>by
  grind⟩
 have WJ:WM.length=NK.length:=by omega
 have hS:=h.upd (own:=λk=>v.ownBlock=some k) (i+1) (p':=Pc.dT 1 base E e Zy (WM++[x]) NK) (by simpa using hi) Yo (λk Z3 _=>Or.inl Z3) auz (λk Z3=>by
  rcases Z3 with Z3|⟨j,y,YO,ZJ,Z3⟩
  ·rcases pV k Z3 with e|e
   ·exact .inl (.inl e)
   omega
  rw[tj (by omega)]at ZJ;exact .inl (.inr ⟨j,y,YO,ZJ,Z3⟩))
 rw[List.set_cons_succ]at hS;have Z4:=hS.row 0 rfl;have agj:(ps.set i (Pc.dT 1 base E e Zy (WM++[x]) NK))[i]?=some (Pc.dT 1 base E e Zy (WM++[x]) NK):=by
  grind
 have jJ:∀k,x.ownBlock=some k->¬Zy.ownBlock=some k:=λk Z3 Z2=>hS.apart (Xh agj) (k:=k) Z3 (.inl Z2)
 have:=hS.join i (r:=Pc.rows base E e Zy (WM++[x]) (NK++[xs])) agj ⟨by grind,by grind,λj Vi YO=>by
   rcases SM j NK.length with hl|hl
   ·grind
   ·rw[Fz hl]at YO;have kl:j-NK.length=0:=by grind
    rw[kl]at YO;simp only[Ig,OS]at YO;subst YO;refine⟨x,by grind,Z4,?_⟩
    cases Z2:Zy.ownBlock with
    |none=>intro e;have:=(Z4.lt _ e).2;grind
    |some k=>grind⟩ (λk Z3=>by
   rcases Z3 with Z3|⟨j,y,YO,ZJ,Z3⟩
   ·exact .inr (.inl Z3)
   rcases SM j WM.length with hl|hl
   ·exact .inr (.inr ⟨j,y,by omega,ZJ,Z3⟩)
   rw[Fz hl]at ZJ;have kl:j-WM.length=0:=by grind
   rw[kl]at ZJ;simp only[Ig,OS]at ZJ;subst ZJ;exact .inl Z3)
 simp_all
theorem afu:∀{ps:List Pc}(i:Nat){p:Pc},ps[i]?=some p->(ps.Perm (p::ps.eraseIdx i))
 |[],_,_,h=>by grind
 |q::ps,0,p,h=>by
  simp_all
 |q::ps,i+1,p,h=>by
  rw[List.getElem?_cons_succ]at h;exact((afu i h).cons q).trans (List.Perm.swap p q _)
theorem Sep.front{ps:List Pc}{W:World}(h:Sep ps W)(i:Nat){p:Pc}(hi:ps[i]?=some p):Sep (p::ps.eraseIdx i) W:=h.perm (afu i hi)
structure Pushes(P:Program)(t e:TypeId)(bytes:Nat):Prop where
 o:∃(i:TypeInfo)(z:Value),P.underlying t=some (.slice e)/\P.info? e=some i/\i.zero=some z/\i.size=1/\i.bytes=bytes/\z.cells.size=1
theorem Pushes.mk'{P:Program}{t e:TypeId}{bytes:Nat}{z:Value}(ZM:P.underlying t=some (.slice e))(h:(P.info? e).map (λi=>(i.zero,i.size,i.bytes))=some (some z,1,bytes))(ZY:z.cells.size=1):Pushes P t e bytes:=by
 cases hi:P.info? e with
 |none=>grind
 |some i=>
  rw[hi]at h;simp only[Option.map_some,OS,Prod.mk.injEq]at h;exact⟨i,z,ZM,hi,h.1,h.2.1,h.2.2,ZY⟩
theorem PC{P:Program}{YR:World}{ops:Array Oper}{rest:List Oper}{o:Oper}{a:Act}{Q:Exit->Act->World->Prop}(Uz:o.guard=none)(s x:Operand)(t:TypeId)(YT:o.op=.call {callee:=.builtin .append,args:=#[s,x],argTypes:=#[t,t]}){base:Nat}{e te:TypeId}{bytes:Nat}(TU:Pushes P t e bytes){ps:List Pc}(hS:Sep ps YR)(k:Nat){v u:Value}{n:Nat}{xs:List Value}(Z3:ps[k]?=some (Pc.row base e 1 v n xs))(Z0:a.eval s=v)(Z4:a.eval x=.slice (some ⟨YR.heap.size,0,none⟩) 1 1)(Z7:u.oneCell'=true)(ZP:n<=1000000000)(P6:bytes<=1000)(K8:base<=YR.heap.size)(h:∀Zy w',Sep (ps.set k (Pc.row base e 1 Zy (n+1) (xs++[u]))) w'->(∃g c,Zy=.slice (some ⟨g,0,none⟩) (n+1) c/\n+1<=c/\c<=9223372036854775807)->wpList P ops Q rest (a.put o.dst Zy) w'):wpList P ops Q (o::rest) a (YR.alloc (.cells #[u] te)):=by
 obtain⟨i,z,ZM,hi,Vs,Up,Vf,PF⟩:=TU.o;have Z8:(n+1)*bytes<=1000000001*1000:=IA (by omega) P6;refine wpList_append_own_at _ Uz s x t YT base e i z 1 bytes ZM hi Vs Up Vf PF (by decide) v n xs Z0 ((hS.row k Z3).alloc _) ⟨YR.heap.size,0,none⟩ 1 1 [u] Z4 rfl (cell_one_new _ _ _) (by grind) (by grind[maxLen]) (by omega) (by simp;omega) ?_;intro Zy w' Wo UN _ MK
 have LM:=(hS.alloc (.cells #[u] te)).grow k Z3 UN Wo (by
  grind)
 refine h Zy w' LM ?_
 rcases Wo.2 with⟨_,Z5⟩|⟨g,ZU,VY,Z5,_,_,ZS,ZG,_⟩
 ·omega
 grind[maxLen]
theorem aeF{P:Program}{YR:World}{ops:Array Oper}{rest:List Oper}{o:Oper}{a:Act}{Q:Exit->Act->World->Prop}(Uz:o.guard=none)(s x:Operand)(t:TypeId)(YT:o.op=.call {callee:=.builtin .append,args:=#[s,x],argTypes:=#[t,t]}){base:Nat}{E e te:TypeId}{bytes:Nat}(TU:Pushes P t E bytes){ps:List Pc}{u:Value}{n:Nat}{xs:List Value}(hS:Sep (Pc.row base e 1 u n xs::ps) YR)(k:Nat){v:Value}{WM:List Value}{NK:List (List Value)}(Z3:ps[k]?=some (Pc.rows base E e v WM NK))(Z0:a.eval s=v)(Z4:a.eval x=.slice (some ⟨YR.heap.size,0,none⟩) 1 1)(Z7:u.oneCell'=true)(Ty:n=xs.length)(ZP:WM.length<=1000000000)(P6:bytes<=1000)(K8:base<=YR.heap.size)(h:∀Zy w',Sep (ps.set k (Pc.rows base E e Zy (WM++[u]) (NK++[xs]))) w'->(∃g c,Zy=.slice (some ⟨g,0,none⟩) (WM.length+1) c/\WM.length+1<=c/\c<=9223372036854775807)->wpList P ops Q rest (a.put o.dst Zy) w'):wpList P ops Q (o::rest) a (YR.alloc (.cells #[u] te)):=by
 obtain⟨i,z,ZM,hi,Vs,Up,Vf,PF⟩:=TU.o;have Z8:(WM.length+1)*bytes<=1000000001*1000:=IA (by omega) P6;have V7:=(hS.at' (k+1) (p:=Pc.rows base E e v WM NK) (by grind)).2.1;refine wpList_append_own_at _ Uz s x t YT base E i z 1 bytes ZM hi Vs Up Vf PF (by decide) v WM.length WM Z0 (V7.alloc _) ⟨YR.heap.size,0,none⟩ 1 1 [u] Z4 rfl (cell_one_new _ _ _) (by grind) (by grind[maxLen]) (by omega) (by simp;omega) ?_;intro Zy w' Wo UN _ MK
 have LM:=(hS.alloc (.cells #[u] te)).arA k Z3 Ty UN Wo (by
  grind)
 refine h Zy w' LM ?_
 rcases Wo.2 with⟨_,Z5⟩|⟨g,ZU,VY,Z5,_,_,ZS,ZG,_⟩
 ·omega
 grind[maxLen]
theorem UG{w:World}{base s n:Nat}{e:TypeId}{v:Value}{xs:List Value}(h:w.ownsRow base e s v n xs):∃a c,v=.slice a n c/\n<=c/\c<=9223372036854775807:=by
 rcases h.2 with⟨rfl,rfl⟩|⟨g,ZU,VY,rfl,_,_,ZS,ZG,_⟩
 ·grind
 grind[maxLen]
