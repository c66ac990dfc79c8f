/- Texts of this claim. -/
import Derived.IntWalk
import Derived.Laws.IdiomStrings
import Derived.Laws.BytesArg
import Derived.Lib.BufferRead
import Derived.Lib.MinMax
import Derived.Test.YtdenoeakcflnmaaGreatDoorH11
import Derived.Test.YtdenoeakcflnmaaGreatDoorH18

set_option maxHeartbeats 8000000
set_option maxRecDepth 100000
namespace Go.Proofs.YtdenoeakcflnmaaGreatDoor
section
open Go.RowKit
attribute [local go_sem] Oper.semAt_some
theorem Ye:∀ (k:Nat) (s:List UInt8),(M.A8 k s).length<=k
 | 0,s=>Nat.le_refl _
 | k+1,s=>by
  simp only [M.A8]
  split
  ·simp
  ·rw [List.length_cons];have:=Ye k (s.drop (M.unit s).1);omega
theorem lM (s:List UInt8):(aT s).length<=s.length:=by
 obtain⟨l,h,h2⟩:=M.P5 s;have:aT s=l:=by unfold aT;rw [h];rfl
 rw [this,h2];exact Ye _ _
def textE (t:Tab) (s:List UInt8):Int:=if jy t=false then 120 else if 2000<s.length then 121 else 0
theorem JA {t:Tab} {s:List UInt8} (h:textE t s=0):jy t=true/\s.length<=2000:=by
 unfold textE at h
 split at h
 ·cases h
 ·rename_i h1
  split at h
  ·cases h
  ·rename_i h2
   exact⟨by simpa using h1,by omega⟩
def qI (t:Tab) (s:List UInt8):List Int:=pz t.r t.m t.n.toNat (dW t.p (aT s))
def bK (t:Tab) (s:List UInt8):List Nat:=(qI t s).map Int.toNat
theorem iq (t:Tab) (s:List UInt8):qI t s=(bK t s).map (λn:Nat=>(n:Int))/\tJ (aT s).length (bK t s):=by
 obtain⟨ns,h1,h2⟩:=aeh t.r t.m t.n.toNat (dW t.p (aT s))
 have e:bK t s=ns:=by
  unfold bK qI;rw [h1,List.map_map]
  conv=>rhs;rw [<- List.map_id ns]
  exact List.map_congr_left (λx _=>by simp)
 rw [show (dW t.p (aT s)).length=(aT s).length by unfold dW;rw [List.length_map]] at h2;rw [e];exact⟨h1,h2⟩
theorem tJ.len {N:Nat} {ns:List Nat} (h:tJ N ns):ns.length<=N+1:=by
 have key:∀ i,i<ns.length->i<=ns.getD i 0:=by
  intro i
  induction i with
  | zero=>intro _;exact Nat.zero_le _
  | succ i ih =>
   intro hi;have h1:=ih (by omega);have h2:=h.up i hi;omega
 have h1:=key (ns.length-1) (by have:=h.ne;omega);rw [h.last] at h1;omega
end
namespace C
open Go.Proofs.YtdenoeakcflnmaaGreatDoor
structure Wd where
 p:F.Trie
 wide:Bool
def kL (w:Wd):Bool:=F.iw w.p&&w.p.2.all (λr=>r.all (λx=>decide (x<=6)))
def jB (w:Wd) (r:Int):Int :=
 if F.says w.p r=3\/F.says w.p r=4\/(F.says w.p r=1/\w.wide=true) then 2 else if F.says w.p r=6 then 0 else 1
def most (w:Wd):List Int->Int:=λl=>l.foldl (λn r=>max n (jB w r)) 0
def emoji (l:List Int):Bool:=(l.drop 1).any (·==65039)
def fZ (w:Wd) (l:List Int):Int:=if (emoji l&&decide (0<most w l))=true then 2 else most w l
theorem ak4 (w:Wd) (r:Int):0<=jB w r/\jB w r<=2:=by
 unfold jB
 split
 ·omega
 ·split <;> omega
theorem ajy (w:Wd) (l:List Int) (r:Int):most w (l++[r])=max (most w l) (jB w r):=by
 unfold most;rw [List.foldl_append]
 rfl
theorem acO (w:Wd):∀ (l:List Int) (n:Int),0<=n->n<=2->0<=l.foldl (λn r=>max n (jB w r)) n/\l.foldl (λn r=>max n (jB w r)) n<=2
 | [],n,h0,h1=>⟨h0,h1⟩
 | x::t,n,h0,h1=>by
  rw [List.foldl_cons];have:=ak4 w x;exact acO w t _ (by omega) (by omega)
theorem agY (w:Wd) (l:List Int):0<=most w l/\most w l<=2:=acO w l 0 (by omega) (by omega)
theorem Zg (w:Wd) (l:List Int):0<=fZ w l/\fZ w l<=2:=by
 have:=agY w l;unfold fZ
 split <;> omega
structure Ga where
 t:Tab
 w:Wd
 k:Int
def bF (g:Ga):Bool:=jy g.t&&kL g.w&&decide (0<=g.k)&&decide (g.k<=2)
def meas (g:Ga) (l:List Int):Int:=if g.k=0 then ((U.textOf l).length:Int) else if g.k=1 then 1 else fZ g.w l
def aH (t:Tab) (s:List UInt8):List (List Int):=(List.range ((bK t s).length-1)).map λi=>T.part (aT s) ((bK t s).getD i 0) ((bK t s).getD (i+1) 0-(bK t s).getD i 0)
theorem NY (t:Tab) (s:List UInt8):(aH t s).map U.textOf=pieces (aT s) (bK t s):=by
 unfold aH pieces;rw [List.map_map]
 rfl
theorem tq (t:Tab) (s:List UInt8):(aH t s).length=(bK t s).length-1:=by unfold aH;rw [List.length_map,List.length_range]
def aS (g:Ga) (ls:List (List Int)) (k:Nat):Int:=((ls.take k).map (meas g)).sum
theorem FQ (g:Ga) (ls:List (List Int)):aS g ls 0=0:=rfl
theorem FB (g:Ga) (ls:List (List Int)) {k:Nat} {l:List Int} (h:ls[k]?=some l):aS g ls (k+1)=aS g ls k+meas g l:=by
 obtain⟨hk,rfl⟩:=List.getElem?_eq_some_iff.1 h;unfold aS;rw [List.take_succ_eq_append_getElem hk,List.map_append,List.sum_append];simp
theorem alJ (g:Ga) (l:List Int):0<=meas g l:=by
 unfold meas
 split
 ·omega
 ·split
  ·omega
  ·exact(Zg g.w l).1
theorem YQ (g:Ga) (ls:List (List Int)) (a:Nat):∀ n,aS g ls a<=aS g ls (a+n)
 | 0=>Int.le_refl _
 | n+1=>by
  have ih:=YQ g ls a n
  cases h:ls[a+n]? with
  | none =>
   have hl:ls.length<=a+n:=List.getElem?_eq_none_iff.1 h;have e:aS g ls (a+(n+1))=aS g ls (a+n):=by
    unfold aS;rw [List.take_of_length_le (by omega),List.take_of_length_le hl]
   omega
  | some l =>
   have:=FB g ls h;have h2:=alJ g l;rw [show a+(n+1)=a+n+1 by omega];omega
theorem Qp (g:Ga) (ls:List (List Int)) {a b:Nat} (h:a<=b):aS g ls a<=aS g ls b:=by
 obtain⟨n,rfl⟩:=Nat.exists_eq_add_of_le h;exact YQ g ls a n
def marks (g:Ga) (ls:List (List Int)):List Int:=(List.range (ls.length+1)).map (aS g ls)
def dD (g:Ga) (ls:List (List Int)) (n:Int):Nat->Nat
 | 0=>0
 | k+1=>if aS g ls (k+1)<=n then k+1 else dD g ls n k
theorem Cj (g:Ga) (ls:List (List Int)) (n:Int):∀ k,dD g ls n k<=k
 | 0=>Nat.le_refl _
 | k+1=>by
  unfold dD
  split
  ·exact Nat.le_refl _
  ·exact Nat.le_succ_of_le (Cj g ls n k)
theorem ab4 (g:Ga) (ls:List (List Int)) (n:Int) {k:Nat} (h:n<aS g ls (k+1)):∀ m,dD g ls n (k+m)=dD g ls n k
 | 0=>rfl
 | m+1=>by
  have h1:=Qp g ls (show k+1<=k+m+1 by omega);have ih:=ab4 g ls n h m;rw [show k+(m+1)=k+m+1 by omega,show dD g ls n (k+m+1)=if aS g ls (k+m+1)<=n then k+m+1 else dD g ls n (k+m) from rfl,if_neg (by omega)];exact ih
theorem ai9 (g:Ga) (ls:List (List Int)) (n:Int):∀ k,aS g ls k<=n->dD g ls n k=k
 | 0,_=>rfl
 | k+1,h=>by unfold dD;rw [if_pos h]
def bJ (g:Ga) (s:List UInt8):Int:=if bF g=false then 150 else if 2000<s.length then 121 else 0
def eG (g:Ga) (s:List UInt8):Int:=if bJ g s=0 then aS g (aH g.t s) (aH g.t s).length else 0
def jO (g:Ga) (s:List UInt8):List Int:=if bJ g s=0 then marks g (aH g.t s) else []
def qm (g:Ga) (s:List UInt8) (n:Int):List UInt8:=if bJ g s=0 then (((aH g.t s).map U.textOf).take (dD g (aH g.t s) n (aH g.t s).length)).flatten else []
def eX (t:Tab) (s:List UInt8):List Nat:=if textE t s=0 then places (aT s) (bK t s) else []
def cZ (t:Tab) (s:List UInt8):List (List UInt8):=if textE t s=0 then pieces (aT s) (bK t s) else []
def isA (t:Tab) (s:List UInt8) (a:Int):Bool:=(eX t s).any (λp=>(p:Int)==a)
def gV (g:Ga) (h t:List UInt8) (n:Int):Bool:=isA g.t (h++t) h.length&&decide (eG g (h++t)<=n)
def headA (t:Tab) (s:List UInt8) (k:Nat):List UInt8:=((cZ t s).take k).flatten
def qN (g:Ga) (s e:List UInt8) (n:Int):Nat->Option Nat
 | 0=>if gV g (headA g.t s 0) (M.fix e) n=true then some 0 else none
 | k+1=>if gV g (headA g.t s (k+1)) (M.fix e) n=true then some (k+1) else qN g s e n k
def jI (g:Ga) (s e:List UInt8):Int:=if bF g=false then 150 else if 600<s.length\/60<e.length then 121 else 0
def gu (g:Ga) (s e:List UInt8) (n:Int):Option Nat:=if jI g s e=0 then qN g s e n (cZ g.t s).length else none
end C
section
open Go.RowKit
attribute [local go_sem] Oper.semAt_some
def WideAt (w:World) (v:Value) (c:C.Wd):Prop:=∃ iv bv,v = .agg #[iv,bv, .bool c.wide]/\aB w iv c.p.1/\fJ w bv c.p.2
theorem WideAt.below {w w':World} {v:Value} {c:C.Wd} (h:WideAt w v c) (hb:Below w.heap.size w w'):WideAt w' v c:=by
 obtain⟨iv,bv,h1,h2,h3⟩:=h;exact⟨iv,bv,h1,h2.below hb,h3.below hb⟩
structure fF (c:C.Wd):Prop where
 p1:c.p.1.length<=100000
 p2:c.p.2.length<=100000
 p3:∀ r∈c.p.2,r.length<=16777216
theorem Vm {t:F.Trie} (h:F.iw t=true):∀ r∈t.2,r.length=256:=by
 rw [F.Jo] at h;simp only [Bool.and_eq_true,List.all_eq_true] at h;intro r hr;have:=h.2 r hr;unfold F.gX at this;rw [Bool.and_eq_true] at this;exact of_decide_eq_true this.1
def maxL:List Int->Int
 | []=>0
 | x::t=>t.foldl max x
theorem aj6 (l:List Int) (h:l≠[]) (x:Int):maxL (l++[x])=max (maxL l) x:=by
 cases l with
 | nil=>exact absurd rfl h
 | cons y t =>
  show (t++[x]).foldl max y=_
  rw [List.foldl_append]
  rfl
theorem XA (n:Int):∀ (t:List Int) (y:Int),decide (n<t.foldl max y)=(decide (n<y)||t.any λx=>decide (n<x))
 | [],y=>by rw [List.any_nil,Bool.or_false,List.foldl_nil]
 | x::t,y=>by
  rw [List.foldl_cons,XA n t,List.any_cons,<- Bool.or_assoc]
  congr 1
  rw [Bool.eq_iff_iff];simp;omega
theorem aiK (n:Int) (l:List Int) (h:l≠[]):decide (n<maxL l)=l.any λx=>decide (n<x):=by
 cases l with
 | nil=>exact absurd rfl h
 | cons y t=>rw [List.any_cons];exact XA n t y
def uX (r:List Int):Bool:=decide (6<maxL r)
theorem Zd (r:List Int) (h:r≠[]):uX r=!(r.all λx=>decide (x<=6)):=by
 unfold uX;rw [aiK 6 r h,<- MW (p:=λx:Int=>decide (6<x)) (q:=λx=>decide (x<=6)) (λx=>by rw [Bool.eq_iff_iff];simp),Bool.not_not]
theorem ajs (v:Value) (xs:List Int) (w:World) (hv:aB w v xs) (hn:xs≠[]) (hz:xs.length<=16777216) :
  Calls Tryz.prog 87 #[v] w λe w'=>e = .returned (.int .i64 (maxL xs))/\w=w':=by
 obtain⟨g,off,cap,rfl,hg2,hg3,hg4,hg5⟩:=hv.get hn;obtain⟨N,hN⟩:∃ N,xs.length=N:=⟨_,rfl⟩
 have hN0:0<N:=by rw [<- hN];exact List.length_pos_iff.2 hn
 obtain⟨x0,hx0⟩:∃ x,xs[0]?=some x:=⟨_,List.getElem?_eq_getElem (by omega)⟩
 have c0:w.cell? ⟨g,off,none⟩=some (.int .i64 x0):=by have h:=hg5 0 x0 hx0;rwa [Nat.add_zero] at h
 have yI:=bx (show maxL (xs.take 1)=x0 by
  cases xs with
  | nil=>exact absurd rfl hn
  | cons y t=>simp at hx0;rw [<- hx0];rfl)
 rw [hN] at hg2 hz ⊢;have HN:=bx hN;have HG:=bx hg5;have e0:decide ((N:Int)<1)=false:=decide_eq_false (by omega);unfold maxLen at hg3;clear hv hn hN hx0 hg5
 go_enter Tryz.func87,Tryz.ntmps87
 go_wp2_with fail;clear c0 e0
 go_loop [3,4] (λm i=>∃ k:Nat,1<=k/\k<=N/\m = .int .i64 (maxL (xs.take k))/\i = .int .i64 k) (λ_ i=>N-(intOf i).toNat)
 case atStart=>exact⟨1,Nat.le_refl _,by omega,by rw [yI.o],rfl⟩
 case round =>
  obtain⟨k,hk1,hk,rfl,rfl⟩:=hrel
  by_cases hlt:k<N
  ·obtain⟨x,hx⟩:∃ x,xs[k]?=some x:=⟨_,List.getElem?_eq_getElem (by rw [HN.o];exact hlt)⟩
   have cx:=HG.o k x hx;have HT:=bx (show maxL (xs.take (k+1))=max (maxL (xs.take k)) x by
    rw [List.take_add_one,hx];exact aj6 _ (by intro h;have:=congrArg List.length h;rw [List.length_take,HN.o,List.length_nil] at this;omega) x)
   generalize maxL (xs.take k)=m at HT ⊢;clear hx;go_wp2_with fail
   go_round
   case rel=>exact⟨k+1,by omega,by omega,by rw [HT.o],by go_num⟩
   case measure=>simp [intOf];omega
  ·obtain rfl:k=N:=by omega
   have HT:=bx (show maxL (xs.take k)=maxL xs by rw [List.take_of_length_le (by rw [HN.o];exact Nat.le_refl _)]);go_wp2_with fail;go_ret
   exact⟨iF HT.o,rfl⟩
theorem ahf (v:Value) (xs:List Int) (w:World) (hv:aB w v xs) (hz:xs.length=256) :
  Calls Tryz.prog 86 #[v] w λe w'=>e = .returned (.bool (uX xs))/\w=w':=by
 have HC:=bx (ajs v xs w hv (by rintro rfl;simp at hz) (by omega));have HI:=bx (show uX xs=decide (6<maxL xs) from rfl);generalize maxL xs=m at HC HI;clear hv hz
 go_enter Tryz.func86,Tryz.ntmps86
 go_wp2_with fail;refine HC.o.mono ?_;rintro e w1 ⟨rfl,rfl⟩;go_wp2_with fail;go_ret
 exact⟨aI HI.o.symm,rfl⟩
theorem amZ (v:Value) (bl:List (List Int)) (w:World) (hv:fJ w v bl) (hz:bl.length<=16777216) (hzz:∀ r∈bl,r.length=256) :
  Calls Tryz.prog 146 #[v, .func (.func 86) #[] #[]] w λe w'=>(∃ i:Int,e = .returned (.int .i64 i)/\decide (0<=i)=bl.any (λr=>uX r))/\w=w':=by
 have oz:=bx hv;obtain⟨ao,cap,rfl⟩:=hv.slice;have HO:=bx (λu r (h:aB w u r) (hr:r∈bl)=>ahf u r w h (hzz r hr));clear hv hzz
 go_enter Tryz.func146,Tryz.ntmps146
 go_wp2_with fail
 go_loop [8] (λi=>∃ k:Nat,k<=bl.length/\i = .int .i64 k/\Box ((bl.take k).any (λr=>uX r)=false)) (λi=>bl.length-(intOf i).toNat)
 case atStart=>exact⟨0,by omega,rfl,⟨rfl⟩⟩
 case round =>
  obtain⟨k,hk,rfl,ha⟩:=hrel
  by_cases hlt':k<bl.length
  ·obtain⟨x,hx⟩:∃ x,bl[k]?=some x:=⟨_,List.getElem?_eq_getElem hlt'⟩
   obtain⟨g,off,cap2,hg1,hg2,hg3,hg4,hg5⟩:=oz.o.get (by rintro rfl;simp at hlt');obtain⟨rfl,rfl⟩:ao=some ⟨g,off,none⟩/\cap=cap2:=by injection hg1 with h1 h2 h3;exact⟨h1,h3⟩
   obtain⟨u,hcx,L6⟩:=hg5 k x hx;have HX:=bx hx;have wK:=bx (HO.o u x L6 (List.mem_of_getElem? hx));unfold maxLen at hg3;clear hx hg1 hg5 L6
   cases hi:uX x with
   | false =>
    have HT:=bx (show (bl.take (k+1)).any (λr=>uX r)=false by rw [List.take_add_one,HX.o,List.any_append,ha.o,Option.toList_some,List.any_cons,hi];rfl);have HI:=bx hi;clear hi;go_wp2_with fail;refine wK.o.mono ?_;rintro e w1 ⟨rfl,rfl⟩;rw [HI.o];go_wp2_with fail
    go_round
    case rel=>exact⟨k+1,hlt',by go_num,HT⟩
    case measure=>simp [intOf];omega
   | true =>
    have HT:=bx (show bl.any (λr=>uX r)=true by rw [List.any_eq_true];exact⟨x,List.mem_of_getElem? HX.o,by rw [hi]⟩);have HI:=bx hi;clear hi;go_wp2_with fail;refine wK.o.mono ?_;rintro e w1 ⟨rfl,rfl⟩;rw [HI.o];go_wp2_with fail;go_ret
    exact⟨⟨k,rfl,by rw [HT.o];simp⟩,rfl⟩
  ·have HT:=bx (show bl.any (λr=>uX r)=false by have:=ha.o;rwa [List.take_of_length_le (by omega)] at this);go_wp2_with fail;go_ret
   exact⟨⟨-1,rfl,by rw [HT.o];rfl⟩,rfl⟩
theorem aeJ (v:Value) (bl:List (List Int)) (w:World) (hv:fJ w v bl) (hz:bl.length<=16777216) (hzz:∀ r∈bl,r.length=256) :
  Calls Tryz.prog 88 #[v, .func (.func 86) #[] #[]] w λe w'=>e = .returned (.bool (bl.any (λr=>uX r)))/\w=w':=by
 have HI:=bx (amZ v bl w hv hz hzz);clear hv hzz
 go_enter Tryz.func88,Tryz.ntmps88
 go_wp2_with fail;refine HI.o.mono ?_;rintro e w1 ⟨⟨i,rfl,hi⟩,rfl⟩;have HX:=bx hi;clear hi;go_wp2_with fail;go_ret
 exact⟨aI (by simpa using HX.o),rfl⟩
theorem acX (v:Value) (c:C.Wd) (w:World) (hv:WideAt w v c) (hs:fF c) :
  Calls Tryz.prog 46 #[v] w λe w'=>e = .returned (.bool (C.kL c))/\Below w.heap.size w w':=by
 have aX:=bx (show C.kL c=(F.iw c.p&&c.p.2.all (λr=>r.all (λx=>decide (x<=6)))) from rfl);have HRW:=bx (λh=>Vm (t:=c.p) h);have h2:=hs.p2;obtain⟨iv,bv,rfl,hiv,hbv⟩:=hv;obtain⟨V,hV⟩:∃ V,V=w.alloc (.cells #[iv,bv, .bool c.wide] 33):=⟨_,rfl⟩
 have HB0:=bx (show Below w.heap.size w V by rw [hV];exact aO _ _);have HK:=bx (show aj V w.heap.size 33 #[iv,bv, .bool c.wide] by rw [hV];exact aj.new _ _ _);have fV:=bx (Ue (.agg #[iv,bv]) c.p V ⟨iv,bv,rfl,hiv.below HB0.o,hbv.below HB0.o⟩ hs.p1 hs.p2 hs.p3);have HCW:=bx (λW (h:Below w.heap.size w W) (hr:∀ r∈c.p.2,r.length=256)=>aeJ bv c.p.2 W (hbv.below h) (by omega) hr);have iI:=bx (λ(hr:∀ r∈c.p.2,r.length=256)=>show (!c.p.2.any uX)=c.p.2.all (λr=>r.all (λx=>decide (x<=6))) by
  rw [Bool.eq_iff_iff];simp only [Bool.not_eq_true',List.any_eq_false,List.all_eq_true (l:=c.p.2)]
  constructor
  ·intro h r hr2;have:=h r hr2;rw [Zd r (by rintro rfl;have:=hr _ hr2;simp at this)] at this
   simpa using this
  ·intro h r hr2;rw [Zd r (by rintro rfl;have:=hr _ hr2;simp at this),h r hr2];simp)
 obtain⟨wd,hwd⟩:∃ b,b=c.wide:=⟨_,rfl⟩
 rw [<- hwd] at HK hV ⊢;generalize C.kL c=res at aX ⊢;obtain⟨ba,bc,rfl⟩:=hbv.slice;generalize c.p.2.length=M at HK fV HCW hV ⊢;generalize F.iw c.p=tb at aX HRW fV;have ay:=bx (λW (h:Below V.heap.size V W)=>show W.cell? ⟨w.heap.size,0,none⟩=some iv/\W.cell? ⟨w.heap.size,1,none⟩=some (.slice ba M bc)/\W.cell? ⟨w.heap.size,2,none⟩=some (.bool wd)/\w.heap.size<W.heap.size from
  ⟨((HK.o.below h HK.o.lt).cell 0).trans rfl,((HK.o.below h HK.o.lt).cell 1).trans rfl,((HK.o.below h HK.o.lt).cell 2).trans rfl,(HK.o.below h HK.o.lt).lt⟩)
 have HV:=bx hV;clear hiv hbv hs hV h2 hwd;obtain⟨c0,c1,c2,cl⟩:=ay.o V (Below.refl _ _)
 go_enter Tryz.func46,Tryz.ntmps46
 go_upto_region 1 with(fail)
 rw [<- HV.o];go_wp2_with fail;refine fV.o.mono ?_;rintro e w1 ⟨rfl,hb1⟩;have HB1:=bx (bt HB0.o hb1)
 cases tb with
 | false =>
  clear hb1 c0 c1 c2 cl;go_wp2_with fail;go_ret
  exact⟨aI (by rw [aX.o];rfl),HB1.o⟩
 | true =>
  rw [Bool.true_and] at aX;have HR:=bx (HRW.o rfl);clear HRW;have jQ:=bx (HCW.o w1 HB1.o HR.o);have HAA:=bx (iI.o HR.o);rw [<- HAA.o] at aX;generalize c.p.2.any uX=bb at jQ aX;clear c0 c1 c2 cl;obtain⟨c0,c1,c2,cl⟩:=ay.o w1 hb1;clear hb1;go_wp2_with fail;refine jQ.o.mono ?_;rintro e w2 ⟨rfl,rfl⟩;go_wp2_with fail;go_ret
  exact⟨aI (by rw [aX.o]),HB1.o⟩
def amh:List Nat:=[0,1]
def aiS (g:Nat):Int:=if g=0 then 150 else 121
theorem DZ (A:Nat->Addr) (B:Nat) (g:Nat) (hg:g∈amh) (w:World) (hE:E A B w) :
  Calls Tryz.prog 36 #[jZ A g] w λe w'=>e = .returned (.int .i64 (aiS g))/\w=w':=by
 have h0:=hE.var 0 (by decide);have h1:=hE.var 1 (by decide);have HI:=bx (λk (hk:k∈JZ)=>MG hE g k (by revert g;decide) hk);clear hE;unfold jZ
 rcases List.mem_cons.1 hg with rfl | hg
 ·go_enter Tryz.func36,Tryz.ntmps36
  go_wp2_with fail;refine(HI.o 0 (by decide)).mono ?_;rintro e w1 ⟨rfl,rfl⟩;go_wp2_with fail;go_ret
  exact⟨rfl,rfl⟩
 obtain rfl:g=1:=by simpa using hg
 go_enter Tryz.func36,Tryz.ntmps36
 go_wp2_with fail;refine(HI.o 0 (by decide)).mono ?_;rintro e w1 ⟨rfl,rfl⟩;go_wp2_with fail;refine(HI.o 1 (by decide)).mono ?_;rintro e w1 ⟨rfl,rfl⟩;go_wp2_with fail;go_ret
 exact⟨rfl,rfl⟩
theorem ahe (s:ByteArray) (n:Int) (w:World) :
  Calls Tryz.prog 73 #[.agg #[.string s, .int .i64 n]] w λe w'=>e = .returned (.bool (decide (n<(s.size:Int))))/\Below w.heap.size w w':=by
 have hb:=aO w (.cells #[.string s, .int .i64 n] 74);have HB:=bx hb;clear hb
 go_enter Tryz.func73,Tryz.ntmps73
 go_wp2
 go_ret
 exact⟨rfl,HB.o⟩
def dR (w:World) (v:Value) (g:C.Ga):Prop:=∃ pi pb rv nv fv iv bv,v = .agg #[.int .i64 g.t.n,pi,pb,rv,nv,fv,iv,bv, .bool g.w.wide, .int .i64 g.k] /\
 TabAt w (.agg #[.int .i64 g.t.n,pi,pb,rv,nv,fv]) g.t/\WideAt w (.agg #[iv,bv, .bool g.w.wide]) g.w
theorem dR.below {w w':World} {v:Value} {g:C.Ga} (h:dR w v g) (hb:Below w.heap.size w w'):dR w' v g:=by
 obtain⟨pi,pb,rv,nv,fv,iv,bv,h1,h2,h3⟩:=h;exact⟨pi,pb,rv,nv,fv,iv,bv,h1,h2.below hb,h3.below hb⟩
theorem Nv (A:Nat->Addr) (B:Nat) (v:Value) (g:C.Ga) (w:World) (hv:dR w v g) (hs:dZ g.t) (hw:fF g.w) (hD:Ed A B w) (hE:Eg A B w) (hB:B<=w.heap.size) :
  Calls Tryz.prog 18 #[v] w λe w'=>e = .returned (.bool (C.bF g))/\Below w.heap.size w w':=by
 obtain⟨tn,hn⟩:∃ n,n=g.t.n:=⟨_,rfl⟩
 obtain⟨wd,hwd⟩:∃ b,b=g.w.wide:=⟨_,rfl⟩
 obtain⟨gk,hgk⟩:∃ k,k=g.k:=⟨_,rfl⟩
 obtain⟨pi,pb,rv,nv,fv,iv,bv,rfl,h1,h2⟩:=hv;rw [<- hn] at h1;rw [<- hwd] at h2;rw [<- hn,<- hwd,<- hgk];obtain⟨V,hV⟩:∃ V,V=w.alloc (.cells #[.int .i64 tn,pi,pb,rv,nv,fv,iv,bv, .bool wd, .int .i64 gk] 35):=⟨_,rfl⟩
 have HB0:=bx (show Below w.heap.size w V by rw [hV];exact aO _ _);have HK:=bx (show aj V w.heap.size 35 #[.int .i64 tn,pi,pb,rv,nv,fv,iv,bv, .bool wd, .int .i64 gk] by rw [hV];exact aj.new _ _ _);have ay:=bx (λW (h:Below V.heap.size V W)=>show W.cell? ⟨w.heap.size,0,none⟩=some (.int .i64 tn)/\W.cell? ⟨w.heap.size,1,none⟩=some (pi)/\W.cell? ⟨w.heap.size,2,none⟩=some (pb)/\W.cell? ⟨w.heap.size,3,none⟩=some (rv)/\W.cell? ⟨w.heap.size,4,none⟩=some (nv)/\W.cell? ⟨w.heap.size,5,none⟩=some (fv)/\W.cell? ⟨w.heap.size,6,none⟩=some (iv)/\W.cell? ⟨w.heap.size,7,none⟩=some (bv)/\W.cell? ⟨w.heap.size,8,none⟩=some (.bool wd)/\W.cell? ⟨w.heap.size,9,none⟩=some (.int .i64 gk)/\w.heap.size<W.heap.size from
  ⟨((HK.o.below h HK.o.lt).cell 0).trans rfl,((HK.o.below h HK.o.lt).cell 1).trans rfl,((HK.o.below h HK.o.lt).cell 2).trans rfl,((HK.o.below h HK.o.lt).cell 3).trans rfl,((HK.o.below h HK.o.lt).cell 4).trans rfl,((HK.o.below h HK.o.lt).cell 5).trans rfl,((HK.o.below h HK.o.lt).cell 6).trans rfl,((HK.o.below h HK.o.lt).cell 7).trans rfl,((HK.o.below h HK.o.lt).cell 8).trans rfl,((HK.o.below h HK.o.lt).cell 9).trans rfl,(HK.o.below h HK.o.lt).lt⟩)
 have HV:=bx hV;have fV:=bx (abj A B _ g.t V (h1.below HB0.o) hs (hD.below (HB0.o.mono hB)) (hE.below (HB0.o.mono hB)) (Nat.le_trans hB HB0.o.size));have yx:=bx (λW (h:Below w.heap.size w W)=>acX _ g.w W (h2.below h) hw);have aX:=bx (show C.bF g=(jy g.t&&C.kL g.w&&decide (0<=gk)&&decide (gk<=2)) by rw [hgk];rfl);generalize C.bF g=res at aX ⊢;generalize jy g.t=tb at fV aX;generalize C.kL g.w=wb at yx aX;clear h1 h2 hV hs hw hn hwd hgk hD hE hB;obtain⟨k0,k1,k2,k3,k4,k5,k6,k7,k8,k9,kk⟩:=ay.o V (Below.refl _ _)
 go_enter Tryz.func18,Tryz.ntmps18
 go_upto_region 1 with(fail)
 rw [<- HV.o];go_wp2_with fail;refine fV.o.mono ?_;rintro e w1 ⟨rfl,hb1⟩;have HB1:=bx (bt HB0.o hb1);have dV:=bx hb1;clear k0 k1 k2 k3 k4 k5 k6 k7 k8 k9 kk hb1
 cases tb with
 | false =>
  go_wp2_with fail;go_ret
  exact⟨aI (by rw [aX.o];rfl),HB1.o⟩
 | true =>
  obtain⟨k0,k1,k2,k3,k4,k5,k6,k7,k8,k9,kk⟩:=ay.o w1 dV.o;go_wp2_with fail;refine(yx.o w1 HB1.o).mono ?_;rintro e w2 ⟨rfl,hb2⟩;have HB2:=bx (bt HB1.o hb2);have HC2:=bx (bt dV.o hb2);clear k0 k1 k2 k3 k4 k5 k6 k7 k8 k9 kk hb2
  cases wb with
  | false =>
   go_wp2_with fail;go_ret
   exact⟨aI (by rw [aX.o];rfl),HB2.o⟩
  | true =>
   obtain⟨k0,k1,k2,k3,k4,k5,k6,k7,k8,k9,kk⟩:=ay.o w2 HC2.o
   by_cases e0:0<=gk
   ·by_cases e1:gk<=2
    ·have d0:=decide_eq_true e0;have d1:=decide_eq_true e1;have HR:=bx (show res=true by rw [aX.o,d0,d1];rfl);clear e0 e1;go_wp2_with fail;go_ret
     exact⟨aI HR.o.symm,HB2.o⟩
    ·have d0:=decide_eq_true e0;have d1:=decide_eq_false e1;have HR:=bx (show res=false by rw [aX.o,d0,d1];rfl);clear e0 e1;go_wp2_with fail;go_ret
     exact⟨aI HR.o.symm,HB2.o⟩
   ·have d0:=decide_eq_false e0;have HR:=bx (show res=false by rw [aX.o,d0];rfl);clear e0;go_wp2_with fail;go_ret
    exact⟨aI HR.o.symm,HB2.o⟩
def FY:List (List UInt8):=[[78],[65],[72],[87],[70],[78,97],[90]]
theorem ag0 (w:World) :
  Calls Tryz.prog 68 #[] w λe w'=>(∃ v,e = .returned v/\dI w' v FY)/\Below w.heap.size w w':=by
 go_enter Tryz.func68,Tryz.ntmps68
 go_wp2
 go_ret
 exact⟨⟨_,rfl,ig.Uu (xs:=FY.map jK) (aj.new w 9 #[.string (bs [78]), .string (bs [65]), .string (bs [72]), .string (bs [87]), .string (bs [70]), .string (bs [78,97]), .string (bs [90])]) (by decide)⟩,aO _ _⟩
theorem abD:(Tryz.prog.info? 33).map (·.size)=some 3:=by kernel_rfl
section
variable {W W':World} {R:Nat} {T:TypeId}
def KE:Array Value:=#[.slice none 0 0, .slice none 0 0, .bool false]
theorem Yf {j:Nat} {u:Value} (h:aj W R T KE) (hu:W.cell? ⟨R,j,none⟩=some u):u = .slice none 0 0\/u = .bool false:=by
 rw [h.cell j] at hu;unfold KE at hu
 match j with
 | 0 | 1=>left;simpa using hu.symm
 | 2=>right;simpa using hu.symm
 | j+3=>simp at hu
theorem Yn {v:Value} {xs:List Int} (hb:aj W R T KE) (ht:Turns (λq=>q=R) W W') (h:aB W v xs) (h2:xs≠[]):aB W' v xs:=by
 obtain⟨b,off,cap,rfl,h3,h4,h5,h6⟩:=h.get h2;have hne:b≠R:=by
  rintro rfl;have e1:=h6 0 _ (List.getElem?_eq_getElem (List.length_pos_iff.2 h2))
  rcases Yf hb e1 with h7 | h7 <;> cases h7
 exact Vk h ht.size (λg hg=>by simp [Value.ownBlock] at hg;subst hg;exact ht.block _ h5 hne)
theorem ajc {v:Value} {rows:List (List Int)} (hb:aj W R T KE) (ht:Turns (λq=>q=R) W W') (h:fJ W v rows) (hn:rows≠[]) (h2:∀ r∈rows,r≠[]):fJ W' v rows:=by
 obtain⟨b,off,cap,rfl,h3,h4,h5,h6⟩:=h.get hn;have hne:b≠R:=by
  rintro rfl;obtain⟨r0,hr0⟩:∃ r0,rows[0]?=some r0:=⟨_,List.getElem?_eq_getElem (List.length_pos_iff.2 hn)⟩
  obtain⟨x,hx,hi⟩:=h6 0 r0 hr0;have h7:=h2 r0 (List.mem_of_getElem? hr0);obtain⟨_,_,_,rfl,-⟩:=hi.get h7
  rcases Yf hb hx with h8 | h8
  ·injection h8 with h8;cases h8
  ·cases h8
 refine .inr ⟨b,off,none,cap,rfl,h3,h4,λ_=>⟨rfl,Nat.lt_of_lt_of_le h5 ht.size,λi r hr=>?_⟩⟩;obtain⟨x,hx,hi⟩:=h6 i r hr;exact⟨x,(World.cell?_of_block (ht.block b h5 hne)).trans hx,Yn hb ht hi (h2 r (List.mem_of_getElem? hr))⟩
end
theorem adG (file:List UInt8) (wd:Bool) (t:List F.aV) (w:World) (hp:F.GR file FY false=some t) (ht:F.vP t=true) :
  Calls Tryz.prog 32 #[.string (bs file), .bool wd] w λe w'=>(∃ v,e = .returned (.tuple #[v, .int .i64 0, .int .i64 0])/\WideAt w' v ⟨F.jP t,wd⟩)/\Below w.heap.size w w':=by
 obtain⟨TT,zG⟩:∃ TT,F.jP t=TT:=⟨_,rfl⟩
 have xu:=bx (show TT.1.length=4352/\TT.2≠[]/\∀ x∈TT.2,x.length=256 from zG▸⟨(F.FU t 4352).1,F.XE t,(F.FU t 4352).2.2⟩);rw [zG];have hb0:=aO w (.cells #[.slice none 0 0, .slice none 0 0, .bool false] 33);have ZI:=bx (ag0 (w.alloc (.cells #[.slice none 0 0, .slice none 0 0, .bool false] 33)));have gQ:=bx (λnv W (hn:dI W nv FY)=>acZ file nv FY false t W hn (by decide +kernel) hp);have Ji:=bx (λlv W (hl:iM W lv t)=>zG▸XD lv t W hl ht);have HB0:=bx hb0;have HR0:=bx (aj.new w 33 #[.slice none 0 0, .slice none 0 0, .bool false]);clear hb0 hp ht zG
 go_enter Tryz.func32,Tryz.ntmps32
 go_wp2_with fail;refine ZI.o.mono ?_;rintro e w0 ⟨⟨nv,rfl,hnv⟩,hb0⟩;have UY:=bx (bt HB0.o hb0);have VW:=bx (HR0.o.below hb0 HR0.o.lt);have Zm:=bx hnv;clear hb0 hnv;go_wp2_with fail;refine(gQ.o nv w0 Zm.o).mono ?_;rintro e w1 ⟨⟨lv,rfl,hlv⟩,hb1⟩;have HB1:=bx (UY.o.trans (hb1.mono UY.o.size));have HR1:=bx (VW.o.below hb1 VW.o.lt);have Jg:=bx hlv;clear hb1 hlv;go_wp2_with fail;refine(Ji.o lv w1 Jg.o).mono ?_;rintro e w5 ⟨⟨tv,rfl,Ip⟩,hb5⟩;have aK:=bx (bt HB1.o hb5);have LU:=bx (HR1.o.below hb5 HR1.o.lt);have BL:=bx Ip;obtain⟨iv,bv,rfl,hiv,hbv⟩:=Ip;obtain⟨ia,ic,rfl⟩:=hiv.slice;obtain⟨ba,bc,rfl⟩:=hbv.slice;clear hb5 hiv hbv Ji gQ ZI HR0 HR1 HB0 HB1 Jg Zm UY VW;have k6:=aO w5 (.cells #[.slice ia TT.1.length ic, .slice ba TT.2.length bc] 25);have dO:=bx (bt aK.o k6);have lS:=bx (LU.o.below k6 LU.o.lt);have Iz:=bx (BL.o.below k6);have r0:=(lS.o.cell 0).trans (show _=some (Value.slice none 0 0) from rfl);have r1:=(lS.o.cell 1).trans (show _=some (Value.slice none 0 0) from rfl);have r2:=(lS.o.cell 2).trans (show _=some (Value.bool false) from rfl);have f0:=lS.o.frozen 0;have f1:=lS.o.frozen 1;have f2:=lS.o.frozen 2;have rl:=lS.o.lt;clear k6;go_wp2_with fail;have hT:Turns (λq=>q=w.heap.size) (w5.alloc (.cells #[.slice ia TT.1.length ic, .slice ba TT.2.length bc] 25)) ((((w5.alloc (.cells #[.slice ia TT.1.length ic, .slice ba TT.2.length bc] 25)).setCell ⟨w.heap.size,0,none⟩ (.slice ia TT.1.length ic)).setCell ⟨w.heap.size,1,none⟩ (.slice ba TT.2.length bc)).setCell ⟨w.heap.size,2,none⟩ (.bool wd)):=(((Turns.setCell (own:=λq=>q=w.heap.size) _ (p:=⟨w.heap.size,0,none⟩) rfl _).trans (Turns.setCell (own:=λq=>q=w.heap.size) _ (p:=⟨w.heap.size,1,none⟩) rfl _)).trans (Turns.setCell (own:=λq=>q=w.heap.size) _ (p:=⟨w.heap.size,2,none⟩) rfl _))
 obtain⟨iv,bv,e1,ht1,ht2⟩:=Iz.o;injection e1 with e1;simp only [Array.mk.injEq,List.cons.injEq,and_true] at e1;obtain⟨rfl,rfl⟩:=e1;have hres:aj (w5.alloc (.cells #[.slice ia TT.1.length ic, .slice ba TT.2.length bc] 25)) w.heap.size 33 KE:=lS.o;have q1:=Yn hres hT ht1 (by intro h;have:=xu.o.1;rw [h] at this;simp at this);have q2:=ajc hres hT ht2 xu.o.2.1 (λx hx h=>by have:=xu.o.2.2 x hx;rw [h] at this;simp at this);refine bodyPost_ret (v:=.tuple #[.agg #[.slice ia TT.1.length ic, .slice ba TT.2.length bc, .bool wd], .int .i64 0, .int .i64 0]) (NI Tryz.results32 _ _ w.heap.size 33 #[.slice ia TT.1.length ic, .slice ba TT.2.length bc, .bool wd] (0,0) _ rfl (((lS.o.dh 0 (.slice ia TT.1.length ic)).dh 1 (.slice ba TT.2.length bc)).dh 2 (.bool wd)) Tryz.underlying33 rfl abD) rfl
  ⟨⟨_,rfl,_,_,rfl,q1,q2⟩,(((dO.o.setCell (Nat.le_refl _) _).setCell (Nat.le_refl _) _).setCell (Nat.le_refl _) _)⟩
end
section
open Go.RowKit Go.Shelf
attribute [local go_sem] Oper.semAt_some
def oq (c:C.Wd):C.Wd:=⟨qh c.p,c.wide⟩
def zI (g:C.Ga):C.Ga:=⟨bV g.t,oq g.w,g.k⟩
theorem aZ {own:Nat->Prop} {A W:World} (h:Turns own A W) {p:Addr} (hp:own p.block) (u:Value):Turns own A (W.setCell p u):=h.trans (Turns.setCell W hp u)
theorem aeV:(Tryz.prog.info? 35).map (·.size)=some 10:=by kernel_rfl
theorem amd (v:Value) (c:C.Wd) (w0 w:World) (hv:WideAt w0 v c) (hb0:Below w0.heap.size w0 w) :
  Calls Tryz.prog 34 #[v] w λe w'=>Below w.heap.size w w'/\∃ v',e = .returned v'/\∀ W',Turns (λq=>q<w.heap.size) w' W'->Below w0.heap.size w0 W'->WideAt W' v' (oq c):=by
 obtain⟨iv,bv,rfl,h1,h2⟩:=hv;obtain⟨wd,hwd⟩:∃ b,b=c.wide:=⟨_,rfl⟩
 rw [<- hwd];obtain⟨V,hV⟩:∃ V,V=(w.alloc (.cells #[iv,bv, .bool wd] 33)).alloc (.cells #[.slice none 0 0, .slice none 0 0, .bool false] 33):=⟨_,rfl⟩
 have aQ:=bx (show Sep [Pc.blk (w.heap.size+1) 33 #[.slice none 0 0, .slice none 0 0, .bool false],Pc.blk w.heap.size 33 #[iv,bv, .bool wd],Pc.old w.heap.size w] V by
  rw [hV];have h:=((Sep.start w).bM 33 #[iv,bv, .bool wd]).bM 33 #[.slice none 0 0, .slice none 0 0, .bool false]
  simpa using h)
 have HB0:=bx hb0;have bI:=bx (show Below w.heap.size w V from aQ.o.bel (by simp));have dJ:=bx (aQ.o.blk 1 rfl);have lC:=bx (show ∀ W,Below V.heap.size V W->W.cell? ⟨w.heap.size,0,none⟩=some (iv)/\W.cell? ⟨w.heap.size,1,none⟩=some (bv)/\W.cell? ⟨w.heap.size,2,none⟩=some (.bool wd)/\w.heap.size<W.heap.size from λW h=>⟨((dJ.o.below h dJ.o.lt).cell 0).trans rfl,((dJ.o.below h dJ.o.lt).cell 1).trans rfl,((dJ.o.below h dJ.o.lt).cell 2).trans rfl,(dJ.o.below h dJ.o.lt).lt⟩);have HV:=bx hV;have rD:=bx (show V.heap.size=w.heap.size+1+1 by rw [hV];simp);have HC2:=bx (λW (h:Below w.heap.size w W)=>aci bv iv c.p w0 W h1 h2 (bt HB0.o h));have qR:=bx hwd;clear h1 h2 hV hb0 hwd
 go_enter Tryz.func34,Tryz.ntmps34
 go_upto_region 1 with(fail)
 rw [<- HV.o];refine fP 6 (λW=>W.cell? ⟨w.heap.size,0,none⟩=some (iv)/\W.cell? ⟨w.heap.size,1,none⟩=some (bv)/\W.cell? ⟨w.heap.size,2,none⟩=some (.bool wd)) (by kernel_rfl) ?_;have o7:=bx (show ∀ W,Below V.heap.size V W->W.cell? ⟨w.heap.size,0,none⟩=some (iv)/\W.cell? ⟨w.heap.size,1,none⟩=some (bv)/\W.cell? ⟨w.heap.size,2,none⟩=some (.bool wd) from λW h=>by
  obtain⟨q0,q1,q2,-⟩:=lC.o W h;exact⟨q0,q1,q2⟩)
 have aF:=bx (show Below V.heap.size V V.drew from iD V 1);have aA:=bx (o7.o _ aF.o);have aJ:=bx (bt bI.o aF.o);have dY:=bx aQ.o.drew;have zx:=bx (show w.heap.size<=V.drew.heap.size from aJ.o.size);generalize V.drew=WR at *;refine kS 0 ?_ rfl aA.o ?_ ?_;rotate_left
 ·rintro w ⟨q1,q2,q3⟩;go_simp;try with_reducible rfl
 refine kS 1 ?_ rfl aA.o ?_ ?_;rotate_left
 ·rintro w ⟨q1,q2,q3⟩;go_simp;try with_reducible rfl
 refine kS 3 ?_ rfl aA.o ?_ ?_;rotate_left
 ·rintro w ⟨q1,q2,q3⟩;go_simp;try with_reducible rfl
 refine kS 4 ?_ rfl aA.o ?_ ?_;rotate_left
 ·rintro w ⟨q1,q2,q3⟩;go_simp;try with_reducible rfl
 refine kP 2 rfl λKK ah=>?_
 go_simp;refine(HC2.o _ aJ.o).mono ?_;rintro e w2 ⟨hb2,f2,v2,L2,rfl,hi2,hV2,ho2⟩;have HB2:=bx (show Below V.heap.size V w2 from bt aF.o hb2);have HS2:=bx (dY.o.got (base:=w.heap.size) hb2 ho2 zx.o);obtain⟨F9,Am,rfl,-,-⟩:=iU ho2;obtain⟨fa2,DR,rfl⟩:=hi2.slice;have HI2:=bx hi2;have iV:=bx hV2;clear hb2 hV2 ho2 hi2;refine ah.out _ _ (λ_=>o7.o _ HB2.o) ?_;clear ah KK;refine kP 5 rfl λKK ah=>?_
 go_simp;refine ah.out _ _ (λ_=>o7.o _ HB2.o) ?_;clear ah KK;have HG:=bx (HS2.o.blk 1 rfl);have y0:=(HG.o.cell 0).trans (show _=some (Value.slice none 0 0) from rfl);have e0:=HG.o.frozen 0;have y1:=(HG.o.cell 1).trans (show _=some (Value.slice none 0 0) from rfl);have e1:=HG.o.frozen 1;have y2:=(HG.o.cell 2).trans (show _=some (Value.bool false) from rfl);have e2:=HG.o.frozen 2;have yl:=HG.o.lt;have bU:=bx (((HS2.o.set 1 rfl 0 (.slice fa2 (qh c.p).1.length DR)).set 1 rfl 1 (.slice F9 L2.length Am)).set 1 rfl 2 (.bool wd));refine kP 6 rfl λKK ah=>?_
 go_simp;refine ah.out _ _ (λh=>by cases h) ?_;clear ah KK;refine kD ?_ _;go_wp2_with fail;have tC:=bU.o.bel (n:=w.heap.size) (W0:=w) (by simp);refine bodyPost_ret (v:=.agg #[.slice fa2 (qh c.p).1.length DR, .slice F9 L2.length Am, .bool wd]) (results_cell_row Tryz.results34 _ _ (w.heap.size+1) 33 _ (0,0) _ rfl (bU.o.blk 1 rfl) Tryz.underlying33 rfl abD) rfl ⟨tC,_,rfl,λW' ht hbw=>⟨.slice fa2 (qh c.p).1.length DR, .slice F9 L2.length Am,by rw [qR.o];rfl,?_,?_⟩⟩
 ·exact HI2.o.below hbw
 ·exact PY (OJ (bU.o.row 0 rfl) ht) rfl iV.o hbw
theorem Ce (v:Value) (g:C.Ga) (w0 w:World) (hv:dR w0 v g) (hb0:Below w0.heap.size w0 w) :
  Calls Tryz.prog 12 #[v] w λe w'=>Below w.heap.size w w'/\∃ v',e = .returned v'/\∀ W',Turns (λq=>q<w.heap.size) w' W'->Below w0.heap.size w0 W'->dR W' v' (zI g):=by
 obtain⟨pi,pb,rv,nv,fv,iv,bv,rfl,h1,h2⟩:=hv;obtain⟨tn,hn⟩:∃ n,n=g.t.n:=⟨_,rfl⟩
 obtain⟨wd,hwd⟩:∃ b,b=g.w.wide:=⟨_,rfl⟩
 obtain⟨gk,hgk⟩:∃ k,k=g.k:=⟨_,rfl⟩
 rw [<- hn] at h1;rw [<- hwd] at h2;rw [<- hn,<- hwd,<- hgk];obtain⟨V,hV⟩:∃ V,V=(w.alloc (.cells #[.int .i64 tn,pi,pb,rv,nv,fv,iv,bv, .bool wd, .int .i64 gk] 35)).alloc (.cells #[.int .i64 0, .slice none 0 0, .slice none 0 0, .slice none 0 0, .slice none 0 0, .slice none 0 0, .slice none 0 0, .slice none 0 0, .bool false, .int .i64 0] 35):=⟨_,rfl⟩
 have aQ:=bx (show Sep [Pc.blk (w.heap.size+1) 35 #[.int .i64 0, .slice none 0 0, .slice none 0 0, .slice none 0 0, .slice none 0 0, .slice none 0 0, .slice none 0 0, .slice none 0 0, .bool false, .int .i64 0],Pc.blk w.heap.size 35 #[.int .i64 tn,pi,pb,rv,nv,fv,iv,bv, .bool wd, .int .i64 gk],Pc.old w.heap.size w] V by
  rw [hV];have h:=((Sep.start w).bM 35 #[.int .i64 tn,pi,pb,rv,nv,fv,iv,bv, .bool wd, .int .i64 gk]).bM 35 #[.int .i64 0, .slice none 0 0, .slice none 0 0, .slice none 0 0, .slice none 0 0, .slice none 0 0, .slice none 0 0, .slice none 0 0, .bool false, .int .i64 0]
  simpa using h)
 have HB0:=bx hb0;have bI:=bx (show Below w.heap.size w V from aQ.o.bel (by simp));have dJ:=bx (aQ.o.blk 1 rfl);have lC:=bx (show ∀ W,Below V.heap.size V W->W.cell? ⟨w.heap.size,0,none⟩=some (.int .i64 tn)/\W.cell? ⟨w.heap.size,1,none⟩=some (pi)/\W.cell? ⟨w.heap.size,2,none⟩=some (pb)/\W.cell? ⟨w.heap.size,3,none⟩=some (rv)/\W.cell? ⟨w.heap.size,4,none⟩=some (nv)/\W.cell? ⟨w.heap.size,5,none⟩=some (fv)/\W.cell? ⟨w.heap.size,6,none⟩=some (iv)/\W.cell? ⟨w.heap.size,7,none⟩=some (bv)/\W.cell? ⟨w.heap.size,8,none⟩=some (.bool wd)/\W.cell? ⟨w.heap.size,9,none⟩=some (.int .i64 gk)/\w.heap.size<W.heap.size from λW h=>⟨((dJ.o.below h dJ.o.lt).cell 0).trans rfl,((dJ.o.below h dJ.o.lt).cell 1).trans rfl,((dJ.o.below h dJ.o.lt).cell 2).trans rfl,((dJ.o.below h dJ.o.lt).cell 3).trans rfl,((dJ.o.below h dJ.o.lt).cell 4).trans rfl,((dJ.o.below h dJ.o.lt).cell 5).trans rfl,((dJ.o.below h dJ.o.lt).cell 6).trans rfl,((dJ.o.below h dJ.o.lt).cell 7).trans rfl,((dJ.o.below h dJ.o.lt).cell 8).trans rfl,((dJ.o.below h dJ.o.lt).cell 9).trans rfl,(dJ.o.below h dJ.o.lt).lt⟩);have HV:=bx hV;have rD:=bx (show V.heap.size=w.heap.size+1+1 by rw [hV];simp);have HC2:=bx (λW (h:Below w.heap.size w W)=>afV _ g.t w0 W h1 (bt HB0.o h));have dN:=bx (λW (h:Below w.heap.size w W)=>amd _ g.w w0 W h2 (bt HB0.o h));have TU:=bx (show tn=g.t.n/\wd=g.w.wide/\gk=g.k from⟨hn,hwd,hgk⟩);clear h1 h2 hV hb0 hn hwd hgk
 go_enter Tryz.func12,Tryz.ntmps12
 go_upto_region 1 with(fail)
 rw [<- HV.o];refine fP 9 (λW=>W.cell? ⟨w.heap.size,0,none⟩=some (.int .i64 tn)/\W.cell? ⟨w.heap.size,1,none⟩=some (pi)/\W.cell? ⟨w.heap.size,2,none⟩=some (pb)/\W.cell? ⟨w.heap.size,3,none⟩=some (rv)/\W.cell? ⟨w.heap.size,4,none⟩=some (nv)/\W.cell? ⟨w.heap.size,5,none⟩=some (fv)/\W.cell? ⟨w.heap.size,6,none⟩=some (iv)/\W.cell? ⟨w.heap.size,7,none⟩=some (bv)/\W.cell? ⟨w.heap.size,8,none⟩=some (.bool wd)/\W.cell? ⟨w.heap.size,9,none⟩=some (.int .i64 gk)) (by kernel_rfl) ?_;have o7:=bx (show ∀ W,Below V.heap.size V W->W.cell? ⟨w.heap.size,0,none⟩=some (.int .i64 tn)/\W.cell? ⟨w.heap.size,1,none⟩=some (pi)/\W.cell? ⟨w.heap.size,2,none⟩=some (pb)/\W.cell? ⟨w.heap.size,3,none⟩=some (rv)/\W.cell? ⟨w.heap.size,4,none⟩=some (nv)/\W.cell? ⟨w.heap.size,5,none⟩=some (fv)/\W.cell? ⟨w.heap.size,6,none⟩=some (iv)/\W.cell? ⟨w.heap.size,7,none⟩=some (bv)/\W.cell? ⟨w.heap.size,8,none⟩=some (.bool wd)/\W.cell? ⟨w.heap.size,9,none⟩=some (.int .i64 gk) from λW h=>by
  obtain⟨q0,q1,q2,q3,q4,q5,q6,q7,q8,q9,-⟩:=lC.o W h;exact⟨q0,q1,q2,q3,q4,q5,q6,q7,q8,q9⟩)
 have aF:=bx (show Below V.heap.size V V.drew from iD V 1);have aA:=bx (o7.o _ aF.o);have aJ:=bx (bt bI.o aF.o);have dY:=bx aQ.o.drew;have zx:=bx (show w.heap.size<=V.drew.heap.size from aJ.o.size);generalize V.drew=WR at *;refine kS 0 ?_ rfl aA.o ?_ ?_;rotate_left
 ·rintro w ⟨q1,q2,q3,q4,q5,q6,q7,q8,q9,q10⟩;go_simp;try with_reducible rfl
 refine kS 1 ?_ rfl aA.o ?_ ?_;rotate_left
 ·rintro w ⟨q1,q2,q3,q4,q5,q6,q7,q8,q9,q10⟩;go_simp;try with_reducible rfl
 refine kS 3 ?_ rfl aA.o ?_ ?_;rotate_left
 ·rintro w ⟨q1,q2,q3,q4,q5,q6,q7,q8,q9,q10⟩;go_simp;try with_reducible rfl
 refine kS 4 ?_ rfl aA.o ?_ ?_;rotate_left
 ·rintro w ⟨q1,q2,q3,q4,q5,q6,q7,q8,q9,q10⟩;go_simp;try with_reducible rfl
 refine kS 6 ?_ rfl aA.o ?_ ?_;rotate_left
 ·rintro w ⟨q1,q2,q3,q4,q5,q6,q7,q8,q9,q10⟩;go_simp;try with_reducible rfl
 refine kS 7 ?_ rfl aA.o ?_ ?_;rotate_left
 ·rintro w ⟨q1,q2,q3,q4,q5,q6,q7,q8,q9,q10⟩;go_simp;try with_reducible rfl
 refine kP 2 rfl λKK ah=>?_
 go_simp;refine(HC2.o _ aJ.o).mono ?_;rintro e w2 ⟨hb2,v2,rfl,ht2⟩;obtain⟨pi2,pb2,rv2,nv2,fv2,rfl,i1,i2,i3,i4,i5⟩:=ht2 w2 (Turns.refl _ _) (HB0.o.trans ((bt aJ.o hb2).mono HB0.o.size));obtain⟨a1,c1,rfl⟩:=i1.slice;obtain⟨a2,c2,rfl⟩:=i2.slice;obtain⟨a3,c3,rfl⟩:=i3.slice;obtain⟨a4,c4,rfl⟩:=i4.slice;obtain⟨a5,c5,rfl⟩:=i5.slice;clear i1 i2 i3 i4 i5;have HT2:=bx ht2;have zy:=bx hb2;have HB2:=bx (show Below V.heap.size V w2 from bt aF.o hb2);have jh:=bx (bt aJ.o hb2);have HS2:=bx (dY.o.below hb2);clear hb2 ht2;refine ah.out _ _ (λ_=>o7.o _ HB2.o) ?_;clear ah KK;refine kP 5 rfl λKK ah=>?_
 go_simp;refine(dN.o _ jh.o).mono ?_;rintro e w3 ⟨hb3,v3,rfl,ht3⟩;obtain⟨iv3,bv3,rfl,i6,i7⟩:=ht3 w3 (Turns.refl _ _) (HB0.o.trans ((bt jh.o hb3).mono HB0.o.size));obtain⟨a6,c6,rfl⟩:=i6.slice;obtain⟨a7,c7,rfl⟩:=i7.slice;clear i6 i7;have HT3:=bx ht3;have nS:=bx hb3;have HB3:=bx (show Below V.heap.size V w3 from bt HB2.o hb3);have aC:=bx (HS2.o.below hb3);clear hb3 ht3;refine ah.out _ _ (λ_=>o7.o _ HB3.o) ?_;clear ah KK;refine kP 8 rfl λKK ah=>?_
 go_simp;refine ah.out _ _ (λ_=>o7.o _ HB3.o) ?_;clear ah KK;have HG:=bx (aC.o.blk 0 rfl);have y0:=(HG.o.cell 0).trans (show _=some (Value.int .i64 0) from rfl);have e0:=HG.o.frozen 0;have y1:=(HG.o.cell 1).trans (show _=some (Value.slice none 0 0) from rfl);have e1:=HG.o.frozen 1;have y2:=(HG.o.cell 2).trans (show _=some (Value.slice none 0 0) from rfl);have e2:=HG.o.frozen 2;have y3:=(HG.o.cell 3).trans (show _=some (Value.slice none 0 0) from rfl);have e3:=HG.o.frozen 3;have y4:=(HG.o.cell 4).trans (show _=some (Value.slice none 0 0) from rfl);have e4:=HG.o.frozen 4;have y5:=(HG.o.cell 5).trans (show _=some (Value.slice none 0 0) from rfl);have e5:=HG.o.frozen 5;have y6:=(HG.o.cell 6).trans (show _=some (Value.slice none 0 0) from rfl);have e6:=HG.o.frozen 6;have y7:=(HG.o.cell 7).trans (show _=some (Value.slice none 0 0) from rfl);have e7:=HG.o.frozen 7;have y8:=(HG.o.cell 8).trans (show _=some (Value.bool false) from rfl);have e8:=HG.o.frozen 8;have y9:=(HG.o.cell 9).trans (show _=some (Value.int .i64 0) from rfl);have e9:=HG.o.frozen 9;have yl:=HG.o.lt;have S0:=bx aC.o;have S1:=bx (show Sep [Pc.blk (w.heap.size+1) 35 #[.int .i64 (bV g.t).n, .slice none 0 0, .slice none 0 0, .slice none 0 0, .slice none 0 0, .slice none 0 0, .slice none 0 0, .slice none 0 0, .bool false, .int .i64 0],Pc.blk w.heap.size 35 #[.int .i64 tn,pi,pb,rv,nv,fv,iv,bv, .bool wd, .int .i64 gk],Pc.old w.heap.size w] _ from S0.o.set 0 rfl 0 (.int .i64 (bV g.t).n));have S2:=bx (show Sep [Pc.blk (w.heap.size+1) 35 #[.int .i64 (bV g.t).n, .slice a1 (bV g.t).p.1.length c1, .slice none 0 0, .slice none 0 0, .slice none 0 0, .slice none 0 0, .slice none 0 0, .slice none 0 0, .bool false, .int .i64 0],Pc.blk w.heap.size 35 #[.int .i64 tn,pi,pb,rv,nv,fv,iv,bv, .bool wd, .int .i64 gk],Pc.old w.heap.size w] _ from S1.o.set 0 rfl 1 (.slice a1 (bV g.t).p.1.length c1));have S3:=bx (show Sep [Pc.blk (w.heap.size+1) 35 #[.int .i64 (bV g.t).n, .slice a1 (bV g.t).p.1.length c1, .slice a2 (bV g.t).p.2.length c2, .slice none 0 0, .slice none 0 0, .slice none 0 0, .slice none 0 0, .slice none 0 0, .bool false, .int .i64 0],Pc.blk w.heap.size 35 #[.int .i64 tn,pi,pb,rv,nv,fv,iv,bv, .bool wd, .int .i64 gk],Pc.old w.heap.size w] _ from S2.o.set 0 rfl 2 (.slice a2 (bV g.t).p.2.length c2));have S4:=bx (show Sep [Pc.blk (w.heap.size+1) 35 #[.int .i64 (bV g.t).n, .slice a1 (bV g.t).p.1.length c1, .slice a2 (bV g.t).p.2.length c2, .slice a3 (bV g.t).r.length c3, .slice none 0 0, .slice none 0 0, .slice none 0 0, .slice none 0 0, .bool false, .int .i64 0],Pc.blk w.heap.size 35 #[.int .i64 tn,pi,pb,rv,nv,fv,iv,bv, .bool wd, .int .i64 gk],Pc.old w.heap.size w] _ from S3.o.set 0 rfl 3 (.slice a3 (bV g.t).r.length c3));have S5:=bx (show Sep [Pc.blk (w.heap.size+1) 35 #[.int .i64 (bV g.t).n, .slice a1 (bV g.t).p.1.length c1, .slice a2 (bV g.t).p.2.length c2, .slice a3 (bV g.t).r.length c3, .slice a4 (bV g.t).m.1.length c4, .slice none 0 0, .slice none 0 0, .slice none 0 0, .bool false, .int .i64 0],Pc.blk w.heap.size 35 #[.int .i64 tn,pi,pb,rv,nv,fv,iv,bv, .bool wd, .int .i64 gk],Pc.old w.heap.size w] _ from S4.o.set 0 rfl 4 (.slice a4 (bV g.t).m.1.length c4));have S6:=bx (show Sep [Pc.blk (w.heap.size+1) 35 #[.int .i64 (bV g.t).n, .slice a1 (bV g.t).p.1.length c1, .slice a2 (bV g.t).p.2.length c2, .slice a3 (bV g.t).r.length c3, .slice a4 (bV g.t).m.1.length c4, .slice a5 (bV g.t).m.2.length c5, .slice none 0 0, .slice none 0 0, .bool false, .int .i64 0],Pc.blk w.heap.size 35 #[.int .i64 tn,pi,pb,rv,nv,fv,iv,bv, .bool wd, .int .i64 gk],Pc.old w.heap.size w] _ from S5.o.set 0 rfl 5 (.slice a5 (bV g.t).m.2.length c5));have S7:=bx (show Sep [Pc.blk (w.heap.size+1) 35 #[.int .i64 (bV g.t).n, .slice a1 (bV g.t).p.1.length c1, .slice a2 (bV g.t).p.2.length c2, .slice a3 (bV g.t).r.length c3, .slice a4 (bV g.t).m.1.length c4, .slice a5 (bV g.t).m.2.length c5, .slice a6 (oq g.w).p.1.length c6, .slice none 0 0, .bool false, .int .i64 0],Pc.blk w.heap.size 35 #[.int .i64 tn,pi,pb,rv,nv,fv,iv,bv, .bool wd, .int .i64 gk],Pc.old w.heap.size w] _ from S6.o.set 0 rfl 6 (.slice a6 (oq g.w).p.1.length c6));have S8:=bx (show Sep [Pc.blk (w.heap.size+1) 35 #[.int .i64 (bV g.t).n, .slice a1 (bV g.t).p.1.length c1, .slice a2 (bV g.t).p.2.length c2, .slice a3 (bV g.t).r.length c3, .slice a4 (bV g.t).m.1.length c4, .slice a5 (bV g.t).m.2.length c5, .slice a6 (oq g.w).p.1.length c6, .slice a7 (oq g.w).p.2.length c7, .bool false, .int .i64 0],Pc.blk w.heap.size 35 #[.int .i64 tn,pi,pb,rv,nv,fv,iv,bv, .bool wd, .int .i64 gk],Pc.old w.heap.size w] _ from S7.o.set 0 rfl 7 (.slice a7 (oq g.w).p.2.length c7));have S9:=bx (show Sep [Pc.blk (w.heap.size+1) 35 #[.int .i64 (bV g.t).n, .slice a1 (bV g.t).p.1.length c1, .slice a2 (bV g.t).p.2.length c2, .slice a3 (bV g.t).r.length c3, .slice a4 (bV g.t).m.1.length c4, .slice a5 (bV g.t).m.2.length c5, .slice a6 (oq g.w).p.1.length c6, .slice a7 (oq g.w).p.2.length c7, .bool (oq g.w).wide, .int .i64 0],Pc.blk w.heap.size 35 #[.int .i64 tn,pi,pb,rv,nv,fv,iv,bv, .bool wd, .int .i64 gk],Pc.old w.heap.size w] _ from S8.o.set 0 rfl 8 (.bool (oq g.w).wide));have lV:=bx (show Sep [Pc.blk (w.heap.size+1) 35 #[.int .i64 (bV g.t).n, .slice a1 (bV g.t).p.1.length c1, .slice a2 (bV g.t).p.2.length c2, .slice a3 (bV g.t).r.length c3, .slice a4 (bV g.t).m.1.length c4, .slice a5 (bV g.t).m.2.length c5, .slice a6 (oq g.w).p.1.length c6, .slice a7 (oq g.w).p.2.length c7, .bool (oq g.w).wide, .int .i64 gk],Pc.blk w.heap.size 35 #[.int .i64 tn,pi,pb,rv,nv,fv,iv,bv, .bool wd, .int .i64 gk],Pc.old w.heap.size w] _ from S9.o.set 0 rfl 9 (.int .i64 gk));have bU:=lV;refine kP 9 rfl λKK ah=>?_
 go_simp;refine ah.out _ _ (λh=>by cases h) ?_;clear ah KK;refine kD ?_ _;go_wp2_with fail;have tC:=bU.o.bel (n:=w.heap.size) (W0:=w) (by simp);have hT5:=(aZ (aZ (aZ (aZ (aZ (aZ (aZ (aZ (aZ (aZ (Turns.refl (λq=>q=w.heap.size+1) w3) (p:=⟨w.heap.size+1,0,none⟩) rfl (.int .i64 (bV g.t).n)) (p:=⟨w.heap.size+1,1,none⟩) rfl (.slice a1 (bV g.t).p.1.length c1)) (p:=⟨w.heap.size+1,2,none⟩) rfl (.slice a2 (bV g.t).p.2.length c2)) (p:=⟨w.heap.size+1,3,none⟩) rfl (.slice a3 (bV g.t).r.length c3)) (p:=⟨w.heap.size+1,4,none⟩) rfl (.slice a4 (bV g.t).m.1.length c4)) (p:=⟨w.heap.size+1,5,none⟩) rfl (.slice a5 (bV g.t).m.2.length c5)) (p:=⟨w.heap.size+1,6,none⟩) rfl (.slice a6 (oq g.w).p.1.length c6)) (p:=⟨w.heap.size+1,7,none⟩) rfl (.slice a7 (oq g.w).p.2.length c7)) (p:=⟨w.heap.size+1,8,none⟩) rfl (.bool (oq g.w).wide)) (p:=⟨w.heap.size+1,9,none⟩) rfl (.int .i64 gk))
 have hlt:w.heap.size+1<WR.heap.size:=dY.o.lt (List.mem_cons_self ..) (k:=w.heap.size+1) rfl;refine bodyPost_ret (v:=.agg #[.int .i64 (bV g.t).n, .slice a1 (bV g.t).p.1.length c1, .slice a2 (bV g.t).p.2.length c2, .slice a3 (bV g.t).r.length c3, .slice a4 (bV g.t).m.1.length c4, .slice a5 (bV g.t).m.2.length c5, .slice a6 (oq g.w).p.1.length c6, .slice a7 (oq g.w).p.2.length c7, .bool (oq g.w).wide, .int .i64 gk]) (results_cell_row Tryz.results12 _ _ (w.heap.size+1) 35 _ (0,0) _ rfl (bU.o.blk 0 rfl) Tryz.underlying35 rfl aeV) rfl ⟨tC,_,rfl,λW' ht hbw=>⟨_,_,_,_,_,_,_,by rw [TU.o.2.2];rfl,?_,?_⟩⟩
 ·have u5:=hT5.mono (own':=λq=>q<WR.heap.size) (λq hq=>by rw [hq];exact hlt);exact HT2.o W' (((Turns.of_below nS.o).trans u5).trans (ht.mono (λq hq=>Nat.lt_trans hq (Nat.lt_of_succ_lt hlt)))) hbw
 ·have u5:=hT5.mono (own':=λq=>q<w2.heap.size) (λq hq=>by rw [hq];exact Nat.lt_of_lt_of_le hlt zy.o.size);exact HT3.o W' (u5.trans (ht.mono (λq hq=>Nat.lt_of_lt_of_le (Nat.lt_trans hq (Nat.lt_of_succ_lt hlt)) zy.o.size))) hbw
end
end Go.Proofs.YtdenoeakcflnmaaGreatDoor
