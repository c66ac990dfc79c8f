/- Texts of this claim. -/
import Derived.IntWalk
import Derived.Laws.IdiomStrings
import Derived.Laws.BytesArg
import Derived.Lib.MinMax
import Derived.Lib.OthersKept
import Derived.Test.YtdponihkpomheaaGreatDoorH9
import Derived.Test.YtdponihkpomheaaGreatDoorH17

set_option maxHeartbeats 16000000
set_option maxRecDepth 100000
namespace Go.Proofs.YtdponihkpomheaaGreatDoor
open Go.RowKit
attribute [local go_sem] Oper.semAt_some
open Tryz
theorem adN:∀ (k:Nat) (s:List UInt8),(M.FN k s).length<=k
 | 0,s=>bK _
 | k+1,s=>by
  simp only [M.FN]
  split
  ·simp
  rw [dY];have:=adN k (s.drop (M.unit s).1);omega
theorem uJ (s:List UInt8):(dF s).length<=s.length:=by
 obtain⟨l,h,h2⟩:=M.Uj s;have:dF s=l:=by unfold dF;rw [h];rfl
 rw [this,h2];exact adN _ _
def textE (t:Tab) (s:List UInt8):Int:=if nD t=false then 120 else if 2000<s.length then 121 else 0
theorem toList_mk (l:List UInt8):(⟨l.toArray⟩:ByteArray).data.toList=l:=rfl
theorem size_mk (l:List UInt8):(⟨l.toArray⟩:ByteArray).size=l.length:=by rw [size_eq,toList_mk]
theorem Rz {t:Tab} {s:List UInt8} (h:textE t s=0):nD t=true/\s.length<=2000:=by
 unfold textE at h
 split at h
 ·cases h
 rename_i h1
 split at h
 ·cases h
 rename_i h2
 exact⟨by simpa using h1,by omega⟩
def rX (t:Tab) (s:List UInt8):List Int:=Af t.r t.m t.n.toNat (jU t.p (dF s))
def Ip (t:Tab) (s:List UInt8):List Int:=if textE t s=0 then rX t s else []
def T.Cm (c:T.Cs) (t:Tab) (s:List UInt8):Int:=if T.lI 600 c=false then 140 else textE t s
def dZ (t:Tab) (s:List UInt8):List Nat:=(rX t s).map Int.toNat
theorem qg (t:Tab) (s:List UInt8):rX t s=(dZ t s).map (λn:Nat=>(n:Int))/\wS (dF s).length (dZ t s):=by
 obtain⟨ns,h1,h2⟩:=arq t.r t.m t.n.toNat (jU t.p (dF s))
 have e:dZ t s=ns:=by
  unfold dZ rX;rw [h1,EX]
  conv=>rhs;rw [<- List.map_id ns]
  exact List.map_congr_left (λx _=>by simp)
 rw [show (jU t.p (dF s)).length=(dF s).length by unfold jU;rw [aV]] at h2;rw [e];exact⟨h1,h2⟩
theorem wS.len {N:Nat} {ns:List Nat} (h:wS N ns):ns.length<=N+1:=by
 have key:∀ i,i<ns.length->i<=ns.getD i 0:=by
  intro i
  induction i with
  | zero=>intro _;exact nK _
  | succ i ih =>
   intro hi;have h1:=ih (by omega);have h2:=h.up i hi;omega
 have h1:=key (ns.length-1) (by have:=h.ne;omega);rw [h.last] at h1;omega
def T.LX (c:T.Cs) (t:Tab) (s:List UInt8):List Int:=T.Ap c (dF s) (dZ t s) ((dZ t s).length-1)
def T.Ew (c:T.Cs) (t:Tab) (s:List UInt8):List UInt8:=if T.Cm c t s=0 then U.textOf (T.LX c t s) else []
theorem ajz {n:Nat} {l:List Int} (h:T.Fine n l):J5 l = .tuple #[.string ⟨(U.textOf l).toArray⟩, ah 0]:=ahx l (jG.2 h.2)
namespace C
open Go.Proofs.YtdponihkpomheaaGreatDoor
structure Wd where
 p:F.Trie
 wide:Bool
def vZ (w:Wd):Bool:=F.nT w.p&&w.p.2.all (λr=>r.all (λx=>decide (x<=6)))
def kE (w:Wd) (r:Int):Int :=
 if F.says w.p r=3\/F.says w.p r=4\/(F.says w.p r=1/\w.wide=true) then 2 else if F.says w.p r=6 then 0 else 1
def most (w:Wd):List Int->Int:=λl=>l.foldl (λn r=>max n (kE w r)) 0
def emoji (l:List Int):Bool:=(l.drop 1).any (·==65039)
def iq (w:Wd) (l:List Int):Int:=if (emoji l&&decide (0<most w l))=true then 2 else most w l
theorem ajM (w:Wd) (r:Int):0<=kE w r/\kE w r<=2:=by
 unfold kE
 split
 ·omega
 split <;> omega
theorem avR (w:Wd) (l:List Int) (r:Int):most w (l++[r])=max (most w l) (kE w r):=by
 unfold most;rw [List.foldl_append]
 rfl
theorem ahz (w:Wd):∀ (l:List Int) (n:Int),0<=n->n<=2->0<=l.foldl (λn r=>max n (kE w r)) n/\l.foldl (λn r=>max n (kE w r)) n<=2
 | [],n,h0,h1=>⟨h0,h1⟩
 | x::t,n,h0,h1=>by
  rw [List.foldl_cons];have:=ajM w x;exact ahz w t _ (by omega) (by omega)
theorem atd (w:Wd) (l:List Int):0<=most w l/\most w l<=2:=ahz w l 0 (by omega) (by omega)
theorem RV (w:Wd) (l:List Int):0<=iq w l/\iq w l<=2:=by
 have:=atd w l;unfold iq
 split <;> omega
structure Ga where
 t:Tab
 w:Wd
 k:Int
def jF (g:Ga):Bool:=nD g.t&&vZ g.w&&decide (0<=g.k)&&decide (g.k<=2)
def meas (g:Ga) (l:List Int):Int:=if g.k=0 then ((U.textOf l).length:Int) else if g.k=1 then 1 else iq g.w l
def aO (t:Tab) (s:List UInt8):List (List Int):=(List.range ((dZ t s).length-1)).map λi=>T.part (dF s) ((dZ t s).getD i 0) ((dZ t s).getD (i+1) 0-(dZ t s).getD i 0)
theorem VG (t:Tab) (s:List UInt8):(aO t s).map U.textOf=pieces (dF s) (dZ t s):=by
 unfold aO pieces;rw [EX]
 rfl
theorem Gt (t:Tab) (s:List UInt8):(aO t s).length=(dZ t s).length-1:=by unfold aO;rw [aV,wF]
def dX (g:Ga) (ls:List (List Int)) (k:Nat):Int:=((ls.take k).map (meas g)).sum
theorem SS (g:Ga) (ls:List (List Int)):dX g ls 0=0:=rfl
theorem XV (g:Ga) (ls:List (List Int)) {k:Nat} {l:List Int} (h:ls[k]?=some l):dX g ls (k+1)=dX g ls k+meas g l:=by
 obtain⟨hk,rfl⟩:=dO h;unfold dX;rw [Ja hk,gX,List.sum_append];simp
theorem Ui (g:Ga) (l:List Int):0<=meas g l:=by
 unfold meas
 split
 ·omega
 split
 ·omega
 exact(RV g.w l).1
theorem aia (g:Ga) (ls:List (List Int)) (a:Nat):∀ n,dX g ls a<=dX g ls (a+n)
 | 0=>Int.le_refl _
 | n+1=>by
  have ih:=aia g ls a n
  cases h:ls[a+n]? with
  | none =>
   have hl:ls.length<=a+n:=Vz.1 h;have e:dX g ls (a+(n+1))=dX g ls (a+n):=by
    unfold dX;rw [gq (by omega),gq hl]
   omega
  | some l =>
   have:=XV g ls h;have h2:=Ui g l;rw [show a+(n+1)=a+n+1 by omega];omega
theorem abS (g:Ga) (ls:List (List Int)) {a b:Nat} (h:a<=b):dX g ls a<=dX g ls b:=by
 obtain⟨n,rfl⟩:=Nat.exists_eq_add_of_le h;exact aia g ls a n
def kM (g:Ga) (s:List UInt8):Int:=if jF g=false then 150 else if 2000<s.length then 121 else 0
def bZ (g:Ga) (s:List UInt8):Int:=if kM g s=0 then dX g (aO g.t s) (aO g.t s).length else 0
def BD (t:Tab) (s:List UInt8):List Nat:=if textE t s=0 then places (dF s) (dZ t s) else []
def bf (t:Tab) (s:List UInt8):List (List UInt8):=if textE t s=0 then pieces (dF s) (dZ t s) else []
def isA (t:Tab) (s:List UInt8) (a:Int):Bool:=(BD t s).any (λp=>(p:Int)==a)
def nI (g:Ga) (h t:List UInt8) (n:Int):Bool:=isA g.t (h++t) h.length&&decide (bZ g (h++t)<=n)
def headA (t:Tab) (s:List UInt8) (k:Nat):List UInt8:=((bf t s).take k).flatten
def yF (g:Ga) (s e:List UInt8) (n:Int):Nat->Option Nat
 | 0=>if nI g (headA g.t s 0) (M.fix e) n=true then some 0 else none
 | k+1=>if nI g (headA g.t s (k+1)) (M.fix e) n=true then some (k+1) else yF g s e n k
def ug (g:Ga) (s e:List UInt8):Int:=if jF g=false then 150 else if 600<s.length\/60<e.length then 121 else 0
def su (g:Ga) (s e:List UInt8) (n:Int):Option Nat:=if ug g s e=0 then yF g s e n (bf g.t s).length else none
theorem ZG {g:Ga} {s e:List UInt8} {n:Int}:∀ {k i:Nat},yF g s e n k=some i->i<=k/\nI g (headA g.t s i) (M.fix e) n=true
 | 0,i,h=>by
  unfold yF at h
  split at h
  ·rename_i h1;cases h;exact⟨bK _,h1⟩
  cases h
 | k+1,i,h=>by
  unfold yF at h
  split at h
  ·rename_i h1;cases h;exact⟨bK _,h1⟩
  have:=ZG h;exact⟨by omega,this.2⟩
end C
def WideAt (w:World) (v:Value) (c:C.Wd):Prop:=∃ iv bv,v = .agg #[iv,bv, .bool c.wide]/\aN w iv c.p.1/\iF w bv c.p.2
theorem WideAt.below {w w':World} {v:Value} {c:C.Wd} (h:WideAt w v c) (hb:ak w w'):WideAt w' v c:=by
 obtain⟨iv,bv,h1,h2,h3⟩:=h;exact⟨iv,bv,h1,h2.below hb,h3.below hb⟩
structure rY (c:C.Wd):Prop where
 p1:c.p.1.length<=100000
 p2:c.p.2.length<=100000
 p3:∀ r∈c.p.2,r.length<=16777216
theorem aqw {t:F.Trie} (h:F.nT t=true):∀ r∈t.2,r.length=256:=by
 rw [F.UR] at h;simp only [dD,jG] at h;intro r hr;have:=h.2 r hr;unfold F.sG at this;rw [dD] at this;exact of_decide_eq_true this.1
def maxL:List Int->Int
 | []=>0
 | x::t=>t.foldl max x
theorem aoC (l:List Int) (h:l≠[]) (x:Int):maxL (l++[x])=max (maxL l) x:=by
 cases l with
 | nil=>exact absurd rfl h
 | cons y t =>
  show (t++[x]).foldl max y=_
  rw [List.foldl_append]
  rfl
theorem acn (n:Int):∀ (t:List Int) (y:Int),decide (n<t.foldl max y)=(decide (n<y)||t.any λx=>decide (n<x))
 | [],y=>by rw [List.any_nil,Bool.or_false,List.foldl_nil]
 | x::t,y=>by
  rw [List.foldl_cons,acn n t,List.any_cons,<- Bool.or_assoc]
  congr 1
  rw [ny];simp;omega
theorem arM (n:Int) (l:List Int) (h:l≠[]):decide (n<maxL l)=l.any λx=>decide (n<x):=by
 cases l with
 | nil=>exact absurd rfl h
 | cons y t=>rw [List.any_cons];exact acn n t y
def yY (r:List Int):Bool:=decide (6<maxL r)
theorem ac6 (r:List Int) (h:r≠[]):yY r=!(r.all λx=>decide (x<=6)):=by
 unfold yY;rw [arM 6 r h,<- ML (p:=λx:Int=>decide (6<x)) (q:=λx=>decide (x<=6)) (λx=>by rw [ny];simp),Bool.not_not]
theorem amf (v:Value) (xs:List Int) (w:World) (hv:aN w v xs) (hn:xs≠[]) (hz:xs.length<=16777216) :
  Calls prog 127 #[v] w λe w'=>e = .returned (ah (maxL xs))/\w=w':=by
 obtain⟨g,off,cap,rfl,hg2,hg3,hg4,hg5⟩:=hv.get hn;obtain⟨N,hN⟩:∃ N,xs.length=N:=⟨_,rfl⟩
 have hN0:0<N:=by rw [<- hN];exact List.length_pos_iff.2 hn
 obtain⟨x0,hx0⟩:∃ x,xs[0]?=some x:=⟨_,dW (by omega)⟩
 have c0:w.cell? ⟨g,off,none⟩=some (ah x0):=by have h:=hg5 0 x0 hx0;rwa [Nat.add_zero] at h
 have Qv:=bx (show maxL (xs.take 1)=x0 by
  cases xs with
  | nil=>exact absurd rfl hn
  | cons y t=>simp at hx0;rw [<- hx0];rfl)
 rw [hN] at hg2 hz ⊢;have HN:=bx hN;have HG:=bx hg5;have e0:decide ((N:Int)<1)=false:=dh (by omega);unfold maxLen at hg3;clear hv hn hN hx0 hg5
 go_in
 go_wp2_with fail;clear c0 e0
 go_loop [3,4] (λm i=>∃ k:Nat,1<=k/\k<=N/\m = ah (maxL (xs.take k))/\i = ah k) (λ_ i=>N-(intOf i).toNat)
 ·exact⟨1,bK _,by omega,by rw [Qv.o],rfl⟩
 obtain⟨k,hk1,hk,rfl,rfl⟩:=hrel
 by_cases hlt:k<N
 ·obtain⟨x,hx⟩:=bV xs k (by rw [HN.o];exact hlt);have cx:=HG.o k x hx;have HT:=bx (show maxL (xs.take (k+1))=max (maxL (xs.take k)) x by
   rw [jw,hx];exact aoC _ (by intro h;have:=congrArg List.length h;rw [dw,HN.o,iG] at this;omega) x)
  generalize maxL (xs.take k)=m at HT ⊢;clear hx;go_wp2_with fail
  go_round
  ·exact⟨k+1,by omega,by omega,by rw [HT.o],by go_num⟩
  simp [intOf];omega
 obtain rfl:k=N:=by omega
 have HT:=bx (show maxL (xs.take k)=maxL xs by rw [gq (by rw [HN.o];exact bK _)])
 go_wp2
 go_ret
 exact⟨Bv HT.o,rfl⟩
theorem apq (v:Value) (xs:List Int) (w:World) (hv:aN w v xs) (hz:xs.length=256) :
  Calls prog 126 #[v] w λe w'=>e = .returned (.bool (yY xs))/\w=w':=by
 have HC:=bx (amf v xs w hv (by rintro rfl;simp at hz) (by omega));have HI:=bx (show yY xs=decide (6<maxL xs) from rfl);generalize maxL xs=m at HC HI;clear hv hz
 go_in
 go_wp2_with fail;refine aP HC.o ?_
 go_wp2
 go_ret
 exact⟨aY HI.o.symm,rfl⟩
theorem amD (v:Value) (bl:List (List Int)) (w:World) (hv:iF w v bl) (hz:bl.length<=16777216) (hzz:∀ r∈bl,r.length=256) :
  Calls prog 218 #[v, .func (.func 126) #[] #[]] w λe w'=>(∃ i:Int,e = .returned (ah i)/\decide (0<=i)=bl.any (λr=>yY r))/\w=w':=by
 have mO:=bx hv;obtain⟨ao,cap,rfl⟩:=hv.slice;have HO:=bx (λu r (h:aN w u r) (hr:r∈bl)=>apq u r w h (hzz r hr));clear hv hzz
 go_in
 go_wp2_with fail
 go_loop [8] (λi=>∃ k:Nat,k<=bl.length/\i = ah k/\Box ((bl.take k).any (λr=>yY r)=false)) (λi=>bl.length-(intOf i).toNat)
 ·exact⟨0,by omega,rfl,⟨rfl⟩⟩
 obtain⟨k,hk,rfl,ha⟩:=hrel
 by_cases hlt':k<bl.length
 ·obtain⟨x,hx⟩:∃ x,bl[k]?=some x:=⟨_,dW hlt'⟩
  obtain⟨g,off,cap2,hg1,hg2,hg3,hg4,hg5⟩:=mO.o.get (by rintro rfl;simp at hlt');obtain⟨rfl,rfl⟩:=dQ hg1;obtain⟨u,hcx,Ou⟩:=hg5 k x hx;have HX:=bx hx;have tC:=bx (HO.o u x Ou (dB hx));unfold maxLen at hg3;clear hx hg1 hg5 Ou
  cases hi:yY x with
  | false =>
   have HT:=bx (show (bl.take (k+1)).any (λr=>yY r)=false by rw [jw,HX.o,List.any_append,ha.o,Option.toList_some,List.any_cons,hi];rfl);have HI:=bx hi;clear hi;go_wp2_with fail;refine aP tC.o ?_;rw [HI.o];go_wp2_with fail
   go_round
   ·exact⟨k+1,hlt',by go_num,HT⟩
   simp [intOf];omega
  | true =>
   have HT:=bx (show bl.any (λr=>yY r)=true by rw [zO];exact⟨x,dB HX.o,by rw [hi]⟩);have HI:=bx hi;clear hi;go_wp2_with fail;refine aP tC.o ?_;rw [HI.o]
   go_wp2
   go_ret
   exact⟨⟨k,rfl,by rw [HT.o];simp⟩,rfl⟩
 have HT:=bx (show bl.any (λr=>yY r)=false by have:=ha.o;rwa [gq (by omega)] at this)
 go_wp2
 go_ret
 exact⟨⟨-1,rfl,by rw [HT.o];rfl⟩,rfl⟩
theorem akx (v:Value) (bl:List (List Int)) (w:World) (hv:iF w v bl) (hz:bl.length<=16777216) (hzz:∀ r∈bl,r.length=256) :
  Calls prog 128 #[v, .func (.func 126) #[] #[]] w λe w'=>e = .returned (.bool (bl.any (λr=>yY r)))/\w=w':=by
 have HI:=bx (amD v bl w hv hz hzz);clear hv hzz
 go_in
 go_wp2_with fail;refine HI.o.mono ?_;rintro e w1 ⟨⟨i,rfl,hi⟩,rfl⟩;have HX:=bx hi;clear hi
 go_wp2
 go_ret
 exact⟨aY (by simpa using HX.o),rfl⟩
theorem aag (v:Value) (c:C.Wd) (w:World) (hv:WideAt w v c) (hs:rY c) :
  Calls prog 64 #[v] w λe w'=>e = .returned (.bool (C.vZ c))/\ak w w':=by
 have iP:=bx (show C.vZ c=(F.nT c.p&&c.p.2.all (λr=>r.all (λx=>decide (x<=6)))) from rfl);have HRW:=bx (λh=>aqw (t:=c.p) h);have h2:=hs.p2;obtain⟨iv,bv,rfl,hiv,hbv⟩:=hv;obtain⟨V,hV⟩:∃ V,V=w.alloc (.cells #[iv,bv, .bool c.wide] 33):=⟨_,rfl⟩
 have HB0:=bx (aB hV);have HK:=bx (aK hV);have lq:=bx (MZ (.agg #[iv,bv]) c.p V ⟨iv,bv,rfl,hiv.below HB0.o,hbv.below HB0.o⟩ hs.p1 hs.p2 hs.p3);have HCW:=bx (λW (h:ak w W) (hr:∀ r∈c.p.2,r.length=256)=>akx bv c.p.2 W (hbv.below h) (by omega) hr);have qB:=bx (λ(hr:∀ r∈c.p.2,r.length=256)=>show (!c.p.2.any yY)=c.p.2.all (λr=>r.all (λx=>decide (x<=6))) by
  rw [ny];simp only [Bool.not_eq_true',List.any_eq_false,jG (l:=c.p.2)]
  constructor
  ·intro h r hr2;have:=h r hr2;rw [ac6 r (by rintro rfl;have:=hr _ hr2;simp at this)] at this
   simpa using this
  intro h r hr2;rw [ac6 r (by rintro rfl;have:=hr _ hr2;simp at this),h r hr2];simp)
 obtain⟨wd,hwd⟩:∃ b,b=c.wide:=⟨_,rfl⟩
 rw [<- hwd] at HK hV ⊢;generalize C.vZ c=res at iP ⊢;obtain⟨ba,bc,rfl⟩:=hbv.slice;generalize c.p.2.length=M at HK lq HCW hV ⊢;generalize F.nT c.p=tb at iP HRW lq;have aI:=bx (λW (h:ak V W)=>HK.o.d3 h);have HV:=bx hV;clear hiv hbv hs hV h2 hwd;obtain⟨c0,c1,c2,cl⟩:=aI.o V aZ
 go_in
 go_upto_region 1 with(fail)
 rw [<- HV.o];go_wp2_with fail;refine aT lq.o λw1 hb1=>?_
 have HB1:=aJ HB0 hb1
 cases tb with
 | false =>
  clear hb1 c0 c1 c2 cl
  go_wp2
  go_ret
  exact⟨aY (by rw [iP.o];rfl),HB1.o⟩
 | true =>
  rw [Bool.true_and] at iP;have HR:=bx (HRW.o rfl);clear HRW;have ng:=bx (HCW.o w1 HB1.o HR.o);have HAA:=bx (qB.o HR.o);rw [<- HAA.o] at iP;generalize c.p.2.any yY=bb at ng iP;clear c0 c1 c2 cl;obtain⟨c0,c1,c2,cl⟩:=aI.o w1 hb1;clear hb1;go_wp2_with fail;refine aP ng.o ?_
  go_wp2
  go_ret
  exact⟨aY (by rw [iP.o]),HB1.o⟩
def akJ:List Nat:=[0,1]
def aof (g:Nat):Int:=if g=0 then 150 else 121
theorem VD (A:Nat->Addr) (B:Nat) (g:Nat) (hg:g∈akJ) (w:World) (hE:E A B w) :
  Calls prog 80 #[oZ A g] w λe w'=>e = .returned (ah (aof g))/\w=w':=by
 have h0:=hE.var 0 (by decide);have h1:=hE.var 1 (by decide);have HI:=bx (λk (hk:k∈NI)=>SA hE g k (by revert g;decide) hk);clear hE;unfold oZ
 rcases fB.1 hg with rfl | hg
 ·go_in
  go_wp2_with fail;refine aP (HI.o 0 (by decide)) ?_
  go_wp2
  go_ret
  exact⟨rfl,rfl⟩
 obtain rfl:g=1:=by simpa using hg
 go_in
 go_wp2_with fail;refine aP (HI.o 0 (by decide)) ?_;go_wp2_with fail;refine aP (HI.o 1 (by decide)) ?_
 go_wp2
 go_ret
 exact⟨rfl,rfl⟩
theorem atZ (s:ByteArray) (n:Int) (w:World) :
  Calls prog 144 #[.agg #[.string s, ah n]] w λe w'=>e = .returned (.bool (decide (n<(s.size:Int))))/\ak w w':=by
 have hb:=dA w (.cells #[.string s, ah n] 122);have HB:=bx hb;clear hb
 go_in
 go_wp2
 go_ret
 exact⟨rfl,HB.o⟩
def rM (w:World) (v:Value) (g:C.Ga):Prop:=∃ pi pb rv nv fv iv bv,v = .agg #[ah g.t.n,pi,pb,rv,nv,fv,iv,bv, .bool g.w.wide, ah g.k] /\
 TabAt w (.agg #[ah g.t.n,pi,pb,rv,nv,fv]) g.t/\WideAt w (.agg #[iv,bv, .bool g.w.wide]) g.w
theorem rM.below {w w':World} {v:Value} {g:C.Ga} (h:rM w v g) (hb:ak w w'):rM w' v g:=by
 obtain⟨pi,pb,rv,nv,fv,iv,bv,h1,h2,h3⟩:=h;exact⟨pi,pb,rv,nv,fv,iv,bv,h1,h2.below hb,h3.below hb⟩
theorem ael (A:Nat->Addr) (B:Nat) (v:Value) (g:C.Ga) (w:World) (hv:rM w v g) (hs:nN g.t) (hw:rY g.w) (hD:Ed A B w) (hE:Eg A B w) (hB:B<=w.heap.size) :
  Calls prog 142 #[v] w λe w'=>e = .returned (.bool (C.jF g))/\ak w w':=by
 obtain⟨tn,hn⟩:∃ n,n=g.t.n:=⟨_,rfl⟩
 obtain⟨wd,hwd⟩:∃ b,b=g.w.wide:=⟨_,rfl⟩
 obtain⟨gk,hgk⟩:∃ k,k=g.k:=⟨_,rfl⟩
 obtain⟨pi,pb,rv,nv,fv,iv,bv,rfl,h1,h2⟩:=hv;rw [<- hn] at h1;rw [<- hwd] at h2;rw [<- hn,<- hwd,<- hgk];obtain⟨V,hV⟩:∃ V,V=w.alloc (.cells #[ah tn,pi,pb,rv,nv,fv,iv,bv, .bool wd, ah gk] 57):=⟨_,rfl⟩
 have HB0:=bx (aB hV);have HK:=bx (aK hV);have aI:=bx (λW (h:ak V W)=>HK.o.d10 h);have HV:=bx hV;have lq:=bx (NQ A B _ g.t V (h1.below HB0.o) hs (hD.below (HB0.o.mono hB)) (hE.below (HB0.o.mono hB)) (bP hB HB0.o.size));have Ur:=bx (λW (h:ak w W)=>aag _ g.w W (h2.below h) hw);have iP:=bx (show C.jF g=(nD g.t&&C.vZ g.w&&decide (0<=gk)&&decide (gk<=2)) by rw [hgk];rfl);generalize C.jF g=res at iP ⊢;generalize nD g.t=tb at lq iP;generalize C.vZ g.w=wb at Ur iP;clear h1 h2 hV hs hw hn hwd hgk hD hE hB;obtain⟨k0,k1,k2,k3,k4,k5,k6,k7,k8,k9,kk⟩:=aI.o V aZ
 go_in
 go_upto_region 1 with(fail)
 rw [<- HV.o];go_wp2_with fail;refine aT lq.o λw1 hb1=>?_
 have HB1:=aJ HB0 hb1;have pU:=bx hb1;clear k0 k1 k2 k3 k4 k5 k6 k7 k8 k9 kk hb1
 cases tb with
 | false =>
  go_wp2
  go_ret
  exact⟨aY (by rw [iP.o];rfl),HB1.o⟩
 | true =>
  obtain⟨k0,k1,k2,k3,k4,k5,k6,k7,k8,k9,kk⟩:=aI.o w1 pU.o;go_wp2_with fail;refine aT (Ur.o w1 HB1.o) λw2 hb2=>?_
  have HB2:=aJ HB1 hb2;have HC2:=aJ pU hb2;clear k0 k1 k2 k3 k4 k5 k6 k7 k8 k9 kk hb2
  cases wb with
  | false =>
   go_wp2
   go_ret
   exact⟨aY (by rw [iP.o];rfl),HB2.o⟩
  | true =>
   obtain⟨k0,k1,k2,k3,k4,k5,k6,k7,k8,k9,kk⟩:=aI.o w2 HC2.o
   by_cases e0:0<=gk
   ·by_cases e1:gk<=2
    ·have d0:=bD e0;have d1:=bD e1;have HR:=bx (show res=true by rw [iP.o,d0,d1];rfl);clear e0 e1
     go_wp2
     go_ret
     exact⟨aY HR.o.symm,HB2.o⟩
    have d0:=bD e0;have d1:=dh e1;have HR:=bx (show res=false by rw [iP.o,d0,d1];rfl);clear e0 e1
    go_wp2
    go_ret
    exact⟨aY HR.o.symm,HB2.o⟩
   have d0:=dh e0;have HR:=bx (show res=false by rw [iP.o,d0];rfl);clear e0
   go_wp2
   go_ret
   exact⟨aY HR.o.symm,HB2.o⟩
def L9:List (List UInt8):=[[78],[65],[72],[87],[70],[78,97],[90]]
theorem alh (w:World) :
  Calls prog 106 #[] w λe w'=>(∃ v,e = .returned v/\cZ w' v L9)/\ak w w':=by
 go_in
 go_wp2
 go_ret
 exact⟨⟨_,rfl,gB.Q9 (xs:=L9.map gW) (aC.new w 9 #[.string (bs [78]), .string (bs [65]), .string (bs [72]), .string (bs [87]), .string (bs [70]), .string (bs [78,97]), .string (bs [90])]) (by decide)⟩,dA _ _⟩
theorem agD:(prog.info? 33).map (·.size)=some 3:=by kernel_rfl
section
variable {W W':World} {R:Nat} {T:TypeId}
def NS:Array Value:=#[aj, aj, .bool false]
theorem aeD {j:Nat} {u:Value} (h:aC W R T NS) (hu:ay W R j=some u):u = aj\/u = .bool false:=by
 unfold ay at hu;rw [h.cell j] at hu;unfold NS at hu
 match j with
 | 0 | 1=>left;simpa using hu.symm
 | 2=>right;simpa using hu.symm
 | j+3=>simp at hu
theorem agf {v:Value} {xs:List Int} (hb:aC W R T NS) (ht:Turns (λq=>q=R) W W') (h:aN W v xs) (h2:xs≠[]):aN W' v xs:=by
 obtain⟨b,off,cap,rfl,h3,h4,h5,h6⟩:=h.get h2;have hne:b≠R:=by
  rintro rfl;have e1:=h6 0 _ (dW (List.length_pos_iff.2 h2))
  rcases aeD hb e1 with h7 | h7 <;> cases h7
 exact WM h ht.size (λg hg=>by simp [Value.ownBlock] at hg;subst hg;exact ht.block _ h5 hne)
theorem amu {v:Value} {rows:List (List Int)} (hb:aC W R T NS) (ht:Turns (λq=>q=R) W W') (h:iF W v rows) (hn:rows≠[]) (h2:∀ r∈rows,r≠[]):iF W' v rows:=by
 obtain⟨b,off,cap,rfl,h3,h4,h5,h6⟩:=h.get hn;have hne:b≠R:=by
  rintro rfl;obtain⟨r0,hr0⟩:=bV rows 0 (List.length_pos_iff.2 hn);obtain⟨x,hx,hi⟩:=h6 0 r0 hr0;have h7:=h2 r0 (dB hr0);obtain⟨_,_,_,rfl,-⟩:=hi.get h7
  rcases aeD hb hx with h8 | h8
  ·injection h8 with h8;cases h8
  cases h8
 refine .inr ⟨b,off,none,cap,rfl,h3,h4,λ_=>⟨rfl,fC h5 ht.size,λi r hr=>?_⟩⟩;obtain⟨x,hx,hi⟩:=h6 i r hr;exact⟨x,(World.cell?_of_block (ht.block b h5 hne)).trans hx,agf hb ht hi (h2 r (dB hr))⟩
end
theorem awJ (file:List UInt8) (wd:Bool) (t:List F.bI) (w:World) (hp:F.BI file L9 false=some t) (ht:F.uy t=true) :
  Calls prog 48 #[.string (bs file), .bool wd] w λe w'=>(∃ v,e = .returned (.tuple #[v, ah 0, ah 0])/\WideAt w' v ⟨F.iC t,wd⟩)/\ak w w':=by
 obtain⟨TT,zM⟩:∃ TT,F.iC t=TT:=⟨_,rfl⟩
 have qC:=bx (show TT.1.length=4352/\TT.2≠[]/\∀ x∈TT.2,x.length=256 from zM▸⟨(F.JY t 4352).1,F.afI t,(F.JY t 4352).2.2⟩);rw [zM];have hb0:=dA w (.cells #[aj, aj, .bool false] 33);have HNA:=bx (alh (w.alloc (.cells #[aj, aj, .bool false] 33)));have qF:=bx (λnv W (hn:cZ W nv L9)=>Y9 file nv L9 false t W hn (by decide +kernel) hp);have I8:=bx (λlv W (hl:jO W lv t)=>zM▸abr lv t W hl ht);have HB0:=bx hb0;have HR0:=bx (aC.new w 33 #[aj, aj, .bool false]);clear hb0 hp ht zM
 go_in
 go_wp2_with fail;refine HNA.o.mono ?_;rintro e w0 ⟨⟨nv,rfl,hnv⟩,hb0⟩;have aaC:=bx (bt HB0.o hb0);have Yv:=HR0.ub hb0;have HNV:=bx hnv;clear hb0 hnv;go_wp2_with fail;refine(qF.o nv w0 HNV.o).mono ?_;rintro e w1 ⟨⟨lv,rfl,hlv⟩,hb1⟩;have HB1:=bx (aaC.o.trans (hb1.mono aaC.o.size));have HR1:=bx (Yv.o.below hb1 Yv.o.lt);have qG:=bx hlv;clear hb1 hlv;go_wp2_with fail;refine(I8.o lv w1 qG.o).mono ?_;rintro e w5 ⟨⟨tv,rfl,IV⟩,hb5⟩;have bU:=aJ HB1 hb5;have Wv:=HR1.ub hb5;have MK:=bx IV;obtain⟨iv,bv,rfl,hiv,hbv⟩:=IV;obtain⟨ia,ic,rfl⟩:=hiv.slice;obtain⟨ba,bc,rfl⟩:=hbv.slice;clear hb5 hiv hbv I8 qF HNA HR0 HR1 HB0 HB1 qG HNV aaC Yv;have k6:=dA w5 (.cells #[.slice ia TT.1.length ic, .slice ba TT.2.length bc] 25);have eY:=aJ bU k6;have nP:=Wv.ub k6;have PD:=bx (MK.o.below k6);have r0:=(nP.o.cell 0).trans (show _=some (Value.slice none 0 0) from rfl);have r1:=(nP.o.cell 1).trans (show _=some (Value.slice none 0 0) from rfl);have r2:=(nP.o.cell 2).trans (show _=some (Value.bool false) from rfl);have f0:=nP.o.frozen 0;have f1:=nP.o.frozen 1;have f2:=nP.o.frozen 2;have rl:=nP.o.lt;clear k6;go_wp2_with fail;have hT:Turns (λq=>q=w.heap.size) (w5.alloc (.cells #[.slice ia TT.1.length ic, .slice ba TT.2.length bc] 25)) ((((w5.alloc (.cells #[.slice ia TT.1.length ic, .slice ba TT.2.length bc] 25)).setCell ⟨w.heap.size,0,none⟩ (.slice ia TT.1.length ic)).setCell ⟨w.heap.size,1,none⟩ (.slice ba TT.2.length bc)).setCell ⟨w.heap.size,2,none⟩ (.bool wd)):=(((Turns.setCell (own:=λq=>q=w.heap.size) _ (p:=⟨w.heap.size,0,none⟩) rfl _).trans (Turns.setCell (own:=λq=>q=w.heap.size) _ (p:=⟨w.heap.size,1,none⟩) rfl _)).trans (Turns.setCell (own:=λq=>q=w.heap.size) _ (p:=⟨w.heap.size,2,none⟩) rfl _))
 obtain⟨iv,bv,e1,ht1,ht2⟩:=PD.o;injection e1 with e1;simp only [Array.mk.injEq,jm,and_true] at e1;obtain⟨rfl,rfl⟩:=e1;have hres:aC (w5.alloc (.cells #[.slice ia TT.1.length ic, .slice ba TT.2.length bc] 25)) w.heap.size 33 NS:=nP.o;have q1:=agf hres hT ht1 (by intro h;have:=qC.o.1;rw [h] at this;simp at this);have q2:=amu hres hT ht2 qC.o.2.1 (λx hx h=>by have:=qC.o.2.2 x hx;rw [h] at this;simp at this);refine bodyPost_ret (v:=.tuple #[.agg #[.slice ia TT.1.length ic, .slice ba TT.2.length bc, .bool wd], ah 0, ah 0]) (JE results48 _ _ w.heap.size 33 #[.slice ia TT.1.length ic, .slice ba TT.2.length bc, .bool wd] (0,0) _ rfl (((nP.o.bJ 0 (.slice ia TT.1.length ic)).bJ 1 (.slice ba TT.2.length bc)).bJ 2 (.bool wd)) underlying33 rfl agD) rfl
  ⟨⟨_,rfl,_,_,rfl,q1,q2⟩,(((eY.o.setCell aU _).setCell aU _).setCell aU _)⟩
section
open Go.Shelf
def tq (c:C.Wd):C.Wd:=⟨lY c.p,c.wide⟩
theorem acV:(prog.info? 57).map (·.size)=some 10:=by kernel_rfl
theorem auX (v:Value) (c:C.Wd) (w0 w:World) (hv:WideAt w0 v c) (hb0:ak w0 w) :
  Calls prog 51 #[v] w λe w'=>ak w w'/\∃ v',e = .returned v'/\∀ W',Turns (λq=>q<w.heap.size) w' W'->ak w0 W'->WideAt W' v' (tq c):=by
 obtain⟨iv,bv,rfl,h1,h2⟩:=hv;obtain⟨wd,hwd⟩:∃ b,b=c.wide:=⟨_,rfl⟩
 rw [<- hwd];obtain⟨V,hV⟩:∃ V,V=(w.alloc (.cells #[iv,bv, .bool wd] 33)).alloc (.cells #[aj, aj, .bool false] 33):=⟨_,rfl⟩
 have bQ:=bx (show Sep [Pc.blk (w.heap.size+1) 33 #[aj, aj, .bool false],Pc.blk w.heap.size 33 #[iv,bv, .bool wd],Pc.old w.heap.size w] V by
  rw [hV];have h:=((Sep.start w).eu 33 #[iv,bv, .bool wd]).eu 33 #[aj, aj, .bool false]
  simpa using h)
 have HB0:=bx hb0;have fV:=bx (show ak w V from bQ.o.bel (by simp));have gU:=bx (bQ.o.blk 1 rfl);have iE:=bx (show ∀ W,ak V W->ay W w.heap.size 0=some (iv)/\ay W w.heap.size 1=some (bv)/\ay W w.heap.size 2=some (.bool wd)/\w.heap.size<W.heap.size from λW h=>⟨((gU.o.below h gU.o.lt).cell 0).trans rfl,((gU.o.below h gU.o.lt).cell 1).trans rfl,((gU.o.below h gU.o.lt).cell 2).trans rfl,(gU.o.below h gU.o.lt).lt⟩);have HV:=bx hV;have vT:=bx (show V.heap.size=w.heap.size+1+1 by rw [hV];simp);have HC2:=bx (λW (h:ak w W)=>RX bv iv c.p w0 W h1 h2 (bt HB0.o h));have yJ:=bx hwd;clear h1 h2 hV hb0 hwd
 go_in
 go_upto_region 1 with(fail)
 rw [<- HV.o];refine jl 6 (λW=>ay W w.heap.size 0=some (iv)/\ay W w.heap.size 1=some (bv)/\ay W w.heap.size 2=some (.bool wd)) (by kernel_rfl) ?_;have kR:=bx (show ∀ W,ak V W->ay W w.heap.size 0=some (iv)/\ay W w.heap.size 1=some (bv)/\ay W w.heap.size 2=some (.bool wd) from λW h=>by
  obtain⟨q0,q1,q2,-⟩:=iE.o W h;exact⟨q0,q1,q2⟩)
 have aX:=bx (show ak V V.drew from jg V 1);have gK:=bx (kR.o _ aX.o);have bM:=bx (bt fV.o aX.o);have dP:=bx bQ.o.drew;have lD:=bx (show w.heap.size<=V.drew.heap.size from bM.o.size);generalize V.drew=WR at *;refine jB [0,1,3,4] ?_
 iterate 4 (refine jA ?_ rfl gK.o ?_ ?_;rotate_left;·rintro w ⟨q1,q2,q3⟩;go_simp;try with_reducible rfl)
 refine jr ?_;refine kP 2 rfl λKK au=>?_
 go_simp;refine(HC2.o _ bM.o).mono ?_;rintro e w2 ⟨hb2,f2,v2,L2,rfl,hi2,hV2,ho2⟩;have HB2:=bx (show ak V w2 from bt aX.o hb2);have HS2:=bx (dP.o.got (base:=w.heap.size) hb2 ho2 lD.o);obtain⟨EP,BA,rfl,-,-⟩:=gI ho2;obtain⟨fa2,Jm,rfl⟩:=hi2.slice;have HI2:=bx hi2;have iV:=bx hV2;clear hb2 hV2 ho2 hi2;refine au.out _ _ (λ_=>kR.o _ HB2.o) ?_;clear au KK;refine kP 5 rfl λKK au=>?_
 go_simp;refine au.out _ _ (λ_=>kR.o _ HB2.o) ?_;clear au KK;have HG:=bx (HS2.o.blk 1 rfl);have y0:=(HG.o.cell 0).trans (show _=some (Value.slice none 0 0) from rfl);have e0:=HG.o.frozen 0;have y1:=(HG.o.cell 1).trans (show _=some (Value.slice none 0 0) from rfl);have e1:=HG.o.frozen 1;have y2:=(HG.o.cell 2).trans (show _=some (Value.bool false) from rfl);have e2:=HG.o.frozen 2;have yl:=HG.o.lt;have bG:=bx (((HS2.o.set 1 rfl 0 (.slice fa2 (lY c.p).1.length Jm)).set 1 rfl 1 (.slice EP L2.length BA)).set 1 rfl 2 (.bool wd));refine kP 6 rfl λKK au=>?_
 go_simp;refine au.out _ _ (λh=>by cases h) ?_;clear au KK;refine kD ?_ _;go_wp2_with fail;have Ak:=bG.o.bel (n:=w.heap.size) (W0:=w) (by simp);refine bodyPost_ret (v:=.agg #[.slice fa2 (lY c.p).1.length Jm, .slice EP L2.length BA, .bool wd]) (results_cell_row results51 _ _ (w.heap.size+1) 33 _ (0,0) _ rfl (bG.o.blk 1 rfl) underlying33 rfl agD) rfl ⟨Ak,_,rfl,λW' ht hbw=>⟨.slice fa2 (lY c.p).1.length Jm, .slice EP L2.length BA,by rw [yJ.o];rfl,?_,?_⟩⟩
 ·exact HI2.o.below hbw
 exact Oq (GZ (bG.o.row 0 rfl) ht) rfl iV.o hbw
end
def GH (w:World) (v:Value) (ls:List (ByteArray×Int)):Prop:=∃ b off cap,v = .slice (some ⟨b,off,none⟩) ls.length cap/\ls.length<=cap/\cap<=maxLen/\b<w.heap.size /\
 ∀ i x,ls[i]?=some x->w.cell? ⟨b,off+i*2,none⟩=some (.string x.1)/\w.cell? ⟨b,off+i*2+1,none⟩=some (ah x.2)
theorem GH.below {w w':World} {v:Value} {ls:List (ByteArray×Int)} (h:GH w v ls) (hb:ak w w'):GH w' v ls:=by
 obtain⟨b,off,cap,h1,h2,h3,h4,h5⟩:=h;exact⟨b,off,cap,h1,h2,h3,fC h4 hb.size,λi x hx=>⟨(hb.cell (p:=⟨b,off+i*2,none⟩) h4).trans (h5 i x hx).1,(hb.cell (p:=⟨b,off+i*2+1,none⟩) h4).trans (h5 i x hx).2⟩⟩
theorem ai6 (W:World) (s:ByteArray) (n:Int) (T:TypeId):GH (W.alloc (.cells #[.string s, ah n] T)) (.slice (some ⟨W.heap.size,0,none⟩) 1 1) [(s,n)]:=by
 have h:=aC.new W T #[.string s, ah n];refine⟨W.heap.size,0,1,rfl,bK _,by unfold maxLen;omega,h.lt,λi x hx=>?_⟩
 cases i with
 | zero =>
  simp only [rQ,iQ] at hx;subst hx;exact⟨(h.cell 0).trans rfl,(h.cell 1).trans rfl⟩
 | succ i=>simp at hx
theorem asq (W:World) (s e:ByteArray) (n m:Int) (T:TypeId):GH (W.alloc (.cells #[.string s, ah n, .string e, ah m] T)) (.slice (some ⟨W.heap.size,0,none⟩) 2 2) [(s,n),(e,m)]:=by
 have h:=aC.new W T #[.string s, ah n, .string e, ah m];refine⟨W.heap.size,0,2,rfl,bK _,by unfold maxLen;omega,h.lt,λi x hx=>?_⟩
 match i with
 | 0 =>
  simp only [rQ,iQ] at hx;subst hx;exact⟨(h.cell 0).trans rfl,(h.cell 1).trans rfl⟩
 | 1 =>
  simp only [List.getElem?_cons_succ,rQ,iQ] at hx;subst hx;exact⟨(h.cell 2).trans rfl,(h.cell 3).trans rfl⟩
 | i+2=>simp at hx
theorem amK (v:Value) (ls:List (ByteArray×Int)) (w:World) (hv:GH w v ls) (hz:ls.length<=100) (hal:∀ x∈ls,(x.1.size:Int)<=x.2) :
  Calls prog 231 #[v, .func (.func 144) #[] #[]] w λe w'=>e = .returned (ah (-1))/\ak w w':=by
 have HO:=bx (λW (x:ByteArray×Int) (hx:x∈ls)=>show Calls prog 144 #[.agg #[.string x.1, ah x.2]] W λe w'=>e = .returned (.bool false)/\ak W w' from(atZ x.1 x.2 W).mono λe w' h=>by
  have h9:=hal x hx;rw [dh (show ¬ x.2<(x.1.size:Int) by omega)] at h;exact h)
 obtain⟨b,off,cap,rfl,h2,h3,h4,h5⟩:=hv;obtain⟨N,hN⟩:∃ N,ls.length=N:=⟨_,rfl⟩
 rw [hN] at hz h2 ⊢;have HN:=bx hN;have H5:=bx h5;unfold maxLen at h3;clear hal hN h5
 go_in
 go_wp2_with fail
 go_loopw [8] (λi wr=>∃ k:Nat,k<=N/\i = ah k/\Box (ak w wr)) (λi _=>N-(intOf i).toNat)
 ·exact⟨0,by omega,rfl,⟨Below.refl _ _⟩⟩
 obtain⟨k,hk,rfl,hb⟩:=hrel
 by_cases hlt:k<N
 ·obtain⟨x,hx⟩:=bV ls k (by rw [HN.o];exact hlt);have cx:=(hb.o.cell (p:=⟨b,off+k*2,none⟩) h4).trans (H5.o k x hx).1;have cy:=(hb.o.cell (p:=⟨b,off+k*2+1,none⟩) h4).trans (H5.o k x hx).2;have tC:=bx (HO.o wr x (dB hx));have hbl:=fC h4 hb.o.size;clear hx;go_wp2_with fail;refine dI tC.o hb.o λw1 HB1=>?_
  clear cx cy hbl
  go_wp2
  go_roundw
  ·exact⟨k+1,by omega,by go_num,HB1⟩
  simp [intOf];omega
 go_wp2
 go_ret
 exact⟨rfl,hb.o⟩
theorem auH (v:Value) (ls:List (ByteArray×Int)) (w:World) (hv:GH w v ls) (hz:ls.length<=100) (hal:∀ x∈ls,(x.1.size:Int)<=x.2) :
  Calls prog 143 #[v, .func (.func 144) #[] #[]] w λe w'=>e = .returned (.bool false)/\ak w w':=by
 have HI:=bx (amK v ls w hv hz hal);clear hv hal
 go_in
 go_wp2_with fail;refine aT HI.o λw1 hb1=>?_
 have HB1:=bx hb1;clear hb1
 go_wp2
 go_ret
 exact⟨rfl,HB1.o⟩
def oQ (mg:Nat):MapEntry:=⟨ah 0, .func (.func 145) #[aA mg] #[],0⟩
def qo (mg:Nat):MapEntry:=⟨ah 1, .func (.func 146) #[aA mg] #[],1⟩
def qE (mg:Nat):MapEntry:=⟨ah 2, .func (.func 147) #[aA mg] #[],2⟩
structure Mt (w:World) (mg hm:Nat) (pi pb rv nv fv iv bv:Value) (g:C.Ga):Prop where
 blk:aC w mg 205 #[ah g.t.n,pi,pb,rv,nv,fv,iv,bv, .bool g.w.wide, ah g.k, .map (some hm)]
 how:w.heap[hm]?=some (.map #[oQ mg,qo mg,qE mg] 3)
 tab:TabAt w (.agg #[ah g.t.n,pi,pb,rv,nv,fv]) g.t
 wid:WideAt w (.agg #[iv,bv, .bool g.w.wide]) g.w
theorem Mt.below {w w':World} {mg hm:Nat} {pi pb rv nv fv iv bv:Value} {g:C.Ga} (h:Mt w mg hm pi pb rv nv fv iv bv g) (hb:ak w w'):Mt w' mg hm pi pb rv nv fv iv bv g :=
 ⟨h.blk.below hb h.blk.lt,(hb.block hm (fF.1 h.how).1).trans h.how,h.tab.below hb,h.wid.below hb⟩
theorem Yb (A:Nat->Addr) (B:Nat) (v lv:Value) (g:C.Ga) (w:World) (hv:rM w v g) (hs:nN g.t) (hw:rY g.w) (hE:E A B w) (hD:Ed A B w) (hG:Eg A B w) (hB:B<=w.heap.size) (hb:C.jF g=false) :
  Calls prog 79 #[v,lv] w λe w'=>e = .returned (.tuple #[.pointer none,oZ A 0])/\ak w w':=by
 have N8:=bx (λW (h:ak w W)=>ael A B v g W (hv.below h) hs hw (hD.below (h.mono hB)) (hG.below (h.mono hB)) (bP hB h.size));have HVV:=bx (λW (h:ak w W)=>hv.below h);have jW:=bx (λW (h:ak w W)=>show ay W 0 0=some (.iface 448 (.pointer (some (A 0))))/\ay W 1 0=some (.iface 448 (.pointer (some (A 1)))) from
  ⟨(hE.below (h.mono hB)).cell 0 (by decide),(hE.below (h.mono hB)).cell 1 (by decide)⟩)
 obtain⟨tn,hn⟩:∃ n,n=g.t.n:=⟨_,rfl⟩
 obtain⟨wd,hwd⟩:∃ b,b=g.w.wide:=⟨_,rfl⟩
 obtain⟨gk,hgk⟩:∃ k,k=g.k:=⟨_,rfl⟩
 obtain⟨pi,pb,rv,nv,fv,iv,bv,rfl,h1,h2⟩:=hv;rw [<- hn] at h1;rw [<- hwd] at h2;rw [<- hn,<- hwd,<- hgk];obtain⟨V,hV⟩:∃ V,V=w.alloc (.cells #[ah tn,pi,pb,rv,nv,fv,iv,bv, .bool wd, ah gk] 57):=⟨_,rfl⟩
 have HB0:=bx (aB hV);have HK:=bx (aK hV);have xk:=bx (λW (h:ak w W)=>show TabAt W (.agg #[ah tn,pi,pb,rv,nv,fv]) g.t/\WideAt W (.agg #[iv,bv, .bool wd]) g.w from⟨h1.below h,h2.below h⟩);have aI:=bx (λW (h:ak V W)=>HK.o.d10 h);have HV:=bx hV;rw [<- hn,<- hwd,<- hgk] at N8 HVV;have cu:=bx (show ak V (V.alloc (.cells #[ah tn,pi,pb,rv,nv,fv,iv,bv, .bool wd, ah gk, .map none] 205)) from dA V _);have kX:=bx (bt HB0.o cu.o);have Rq:=bx (aC.new V 205 #[ah tn,pi,pb,rv,nv,fv,iv,bv, .bool wd, ah gk, .map none]);have dU:=bx (show V.heap.size=w.heap.size+1 by rw [hV];simp);have HR1:=bx (N8.o _ kX.o);obtain⟨g0,g1⟩:=jW.o _ kX.o;obtain⟨k0,k1,k2,k3,k4,k5,k6,k7,k8,k9,kk⟩:=aI.o V aZ;obtain⟨l0,l1,l2,l3,l4,l5,l6,l7,l8,l9,ll⟩:=aI.o _ cu.o;have PE:=bx hb;clear h1 h2 hV hs hw hn hwd hgk hE hD hG hB hb
 go_in
 go_upto_region 1 with(fail)
 rw [<- HV.o];go_wp2_with fail;refine uz 0 rfl ?_;go_wp2_with fail;refine aT HR1.o λw1 hb1=>?_
 rw [PE.o];have HB1:=aJ kX hb1;clear hb1 g0 g1 k0 k1 k2 k3 k4 k5 k6 k7 k8 k9 kk l0 l1 l2 l3 l4 l5 l6 l7 l8 l9 ll;go_wp2_with fail
 go_step3
 refine⟨rfl,?_⟩;go_wp2_with fail;rw [Exit.noGoto_ret];go_ret2;exact⟨rfl,HB1.o⟩
theorem XZ (A:Nat->Addr) (B:Nat) (v lv:Value) (g:C.Ga) (ls:List (ByteArray×Int)) (w:World) (hv:rM w v g) (hs:nN g.t) (hw:rY g.w) (hE:E A B w) (hD:Ed A B w) (hG:Eg A B w) (hB:B<=w.heap.size) (hb:C.jF g=true) (hl:GH w lv ls) (hz:ls.length<=100) (hal:∀ x∈ls,(x.1.size:Int)<=x.2) :
  Calls prog 79 #[v,lv] w λe w'=>(∃ mg hm pi pb rv nv fv iv bv,e = .returned (.tuple #[aA mg, .nilIface])/\Mt w' mg hm pi pb rv nv fv iv bv g)/\ak w w':=by
 have N8:=bx (λW (h:ak w W)=>ael A B v g W (hv.below h) hs hw (hD.below (h.mono hB)) (hG.below (h.mono hB)) (bP hB h.size));have HVV:=bx (λW (h:ak w W)=>hv.below h);have jW:=bx (λW (h:ak w W)=>show ay W 0 0=some (.iface 448 (.pointer (some (A 0))))/\ay W 1 0=some (.iface 448 (.pointer (some (A 1)))) from
  ⟨(hE.below (h.mono hB)).cell 0 (by decide),(hE.below (h.mono hB)).cell 1 (by decide)⟩)
 have kK:=bx (λW (h:ak w W)=>auH lv ls W (hl.below h) hz hal);obtain⟨tn,hn⟩:∃ n,n=g.t.n:=⟨_,rfl⟩
 obtain⟨wd,hwd⟩:∃ b,b=g.w.wide:=⟨_,rfl⟩
 obtain⟨gk,hgk⟩:∃ k,k=g.k:=⟨_,rfl⟩
 obtain⟨pi,pb,rv,nv,fv,iv,bv,rfl,h1,h2⟩:=hv;rw [<- hn] at h1;rw [<- hwd] at h2;rw [<- hn,<- hwd,<- hgk];obtain⟨V,hV⟩:∃ V,V=w.alloc (.cells #[ah tn,pi,pb,rv,nv,fv,iv,bv, .bool wd, ah gk] 57):=⟨_,rfl⟩
 have HB0:=bx (aB hV);have HK:=bx (aK hV);have xk:=bx (λW (h:ak w W)=>show TabAt W (.agg #[ah tn,pi,pb,rv,nv,fv]) g.t/\WideAt W (.agg #[iv,bv, .bool wd]) g.w from⟨h1.below h,h2.below h⟩);have aI:=bx (λW (h:ak V W)=>HK.o.d10 h);have HV:=bx hV;rw [<- hn,<- hwd,<- hgk] at N8 HVV;have cu:=bx (show ak V (V.alloc (.cells #[ah tn,pi,pb,rv,nv,fv,iv,bv, .bool wd, ah gk, .map none] 205)) from dA V _);have kX:=bx (bt HB0.o cu.o);have Rq:=bx (aC.new V 205 #[ah tn,pi,pb,rv,nv,fv,iv,bv, .bool wd, ah gk, .map none]);have dU:=bx (show V.heap.size=w.heap.size+1 by rw [hV];simp);have HR1:=bx (N8.o _ kX.o);obtain⟨g0,g1⟩:=jW.o _ kX.o;obtain⟨k0,k1,k2,k3,k4,k5,k6,k7,k8,k9,kk⟩:=aI.o V aZ;obtain⟨l0,l1,l2,l3,l4,l5,l6,l7,l8,l9,ll⟩:=aI.o _ cu.o;have PE:=bx hb;have Dt:=bx (show tn=g.t.n/\wd=g.w.wide/\gk=g.k from⟨hn,hwd,hgk⟩);obtain⟨lb,ak7,aub,rfl,-⟩:=hl;generalize ls.length=Q at kK hz ⊢;obtain⟨mg,hmg⟩:∃ mg,mg=V.heap.size:=⟨_,rfl⟩
 have hmm:=@run_makeMap prog;have Fv:=λ(W:World)=>yN (P:=prog) underlying203 underlying3 W #[] 0 0 (oQ mg).val W.heap.size rfl rfl
 have Es:=λ(W:World)=>yN (P:=prog) underlying203 underlying3 W #[oQ mg] 1 1 (qo mg).val W.heap.size rfl rfl
 have Fg:=λ(W:World)=>yN (P:=prog) underlying203 underlying3 W #[oQ mg,qo mg] 2 2 (qE mg).val W.heap.size rfl rfl
 simp only [ou,iJ,jd,oQ,qo,qE,Nat.reduceAdd,Nat.zero_add] at Fv Es Fg;rw [hmg] at Fv Es Fg;clear h1 h2 hV hs hw hn hwd hgk hE hD hG hB hb
 go_in
 go_upto_region 1 with(fail)
 rw [<- HV.o];go_wp2_with fail;refine uz 0 rfl ?_;go_wp2_with fail;refine aT HR1.o λw1 hb1=>?_
 rw [PE.o];have nM:=aJ cu hb1;have HB1:=aJ kX hb1;have pF:=Rq.ub hb1;clear hb1 g0 g1 k0 k1 k2 k3 k4 k5 k6 k7 k8 k9 kk l0 l1 l2 l3 l4 l5 l6 l7 l8 l9 ll;obtain⟨g0,g1⟩:=jW.o w1 HB1.o;go_wp2_with fail;refine aT (kK.o w1 HB1.o) λw2 hb2=>?_
 have HB2:=aJ HB1 hb2;have wV:=bx (pF.o.below hb2 pF.o.lt).lt;have E8:=bx ((pF.o.below hb2 pF.o.lt).alloc (.map #[oQ V.heap.size,qo V.heap.size,qE V.heap.size] 3));have c10:(w2.alloc (.map #[oQ V.heap.size,qo V.heap.size,qE V.heap.size] 3)).cell? ⟨V.heap.size,10,none⟩=some (.map none):=(E8.o.cell 10).trans rfl;have f10:=E8.o.frozen 10;have l10:=E8.o.lt;simp only [oQ,qo,qE] at c10 f10 l10;clear hb2 g0 g1;go_wp2_with fail;rw [yE];go_ret2;have hT:=Turns.setCell (own:=λq=>q=V.heap.size) (w2.alloc (.map #[oQ V.heap.size,qo V.heap.size,qE V.heap.size] 3)) (p:=⟨V.heap.size,10,none⟩) rfl (.map (some w2.heap.size));have hVl:=wV.o;have hbF:ak w ((w2.alloc (.map #[oQ V.heap.size,qo V.heap.size,qE V.heap.size] 3)).setCell ⟨V.heap.size,10,none⟩ (.map (some w2.heap.size))):=(HB2.o.alloc HB2.o.size _).trans (hT.below ((HB2.o.alloc HB2.o.size _).size) (λk hk=>by have:=dU.o;omega));obtain⟨e1,e2,e3⟩:=Dt.o;obtain⟨q1,q2⟩:=xk.o _ hbF;rw [e1] at q1;rw [e2] at q2;have hbk:=E8.o.bJ 10 (.map (some w2.heap.size));rw [e1,e2,e3] at hbk;exact⟨⟨V.heap.size,w2.heap.size,pi,pb,rv,nv,fv,iv,bv,rfl,⟨hbk,(hT.block _ (by simp) (by omega)).trans (World.alloc_heap_new w2 _),q1,q2⟩⟩,hbF⟩
def yx (es:Array MapEntry) (q:Int):Option Value:=match Instr.findNow (.int .i32) (.int .i32 q) es.toList 0 with | some (some p)=>some p.2 | _=>none
def FD (es:Array MapEntry):Prop:=∀ x∈es.toList,∃ k,x.key = .int .i32 k
def Am:Value->Int->Bool
 | .int .i32 k,q=>decide (k=q)
 | _,_=>false
theorem asl (v:Value) (q:Int):Am v q=true↔v = .int .i32 q:=by
 constructor
 ·intro h;unfold Am at h
  split at h
  ·simp at h;subst h;rfl
  cases h
 rintro rfl;simp [Am]
def qZ:List MapEntry->Int->Option Value
 | [],_=>none
 | e::es,q=>if Am e.key q=true then some e.val else qZ es q
theorem RP (q:Int):∀ (l:List MapEntry) (i:Nat),(∀ x∈l,∃ k,x.key = .int .i32 k) ->
  (Instr.findNow (.int .i32) (.int .i32 q) l i=some none/\qZ l q=none)\/∃ j v,Instr.findNow (.int .i32) (.int .i32 q) l i=some (some (i+j,v))/\qZ l q=some v/\∃ e,l[j]?=some e/\e.key = .int .i32 q/\e.val=v
 | [],_,_=>.inl ⟨rfl,rfl⟩
 | e::es,i,h=>by
  obtain⟨k,hk⟩:=h e (jZ ..)
  by_cases hq:q=k
  ·subst hq;refine .inr ⟨0,e.val,?_,?_,e,rfl,hk,rfl⟩
   ·simp [Instr.findNow,Instr.sameNow,hk]
   simp [qZ,Am,hk]
  have hq':(q==k)=false:=by simpa using hq
  have hkq:¬ k=q:=λe=>hq e.symm
  rcases RP q es (i+1) (λx hx=>h x (mZ _ hx)) with⟨h1,h2⟩ | ⟨j,v,h1,h2,e',h3,h4⟩
  ·exact .inl ⟨by simp [Instr.findNow,Instr.sameNow,hk,hq',h1],by simp [qZ,Am,hk,hkq,h2]⟩
  exact .inr ⟨j+1,v,by simp [Instr.findNow,Instr.sameNow,hk,hq',h1];omega,by simp [qZ,Am,hk,hkq,h2],e',h3,h4⟩
theorem KP {es:Array MapEntry} (h:FD es) (q:Int):yx es q=qZ es.toList q:=by
 unfold yx
 rcases RP q es.toList 0 h with⟨h1,h2⟩ | ⟨j,v,h1,h2,_⟩ <;> rw [h1,h2]
theorem anB (l:List MapEntry) (e:MapEntry) (k q:Int) (hk:e.key = .int .i32 k) (hn:qZ l k=none):qZ (l++[e]) q=if q=k then some e.val else qZ l q:=by
 induction l with
 | nil =>
  by_cases h:q=k
  ·subst h;simp [qZ,Am,hk]
  have:¬ k=q:=λe=>h e.symm
  simp [qZ,Am,hk,h,this]
 | cons x t ih =>
  simp only [qZ] at hn
  split at hn
  ·cases hn
  rename_i hx
  simp only [jd,qZ];rw [ih hn]
  by_cases h:q=k
  ·subst h;rw [aF hx,aG rfl,aG rfl]
  rw [aF h,aF h]
theorem agE (k q:Int) (v:Value):∀ (l:List MapEntry) (j:Nat) (e:MapEntry),l[j]?=some e->e.key = .int .i32 k->qZ l k=some e.val->(∀ i x,i<j->l[i]?=some x->x.key≠.int .i32 k) ->
  qZ (l.modify j (λe=>{ e with key:=.int .i32 k,val:=v })) q=if q=k then some v else qZ l q
 | [],_,_,h,_,_,_=>by simp at h
 | x::t,0,e,h,hk,_,_=>by
  simp at h;subst h;simp only [List.modify_zero_cons,qZ]
  by_cases hq:q=k
  ·subst hq;simp [Am]
  have:¬ k=q:=λe=>hq e.symm
  simp [hq,this,hk,Am]
 | x::t,j+1,e,h,hk,hl,hf=>by
  have hx:=hf 0 x (by omega) rfl;simp only [List.getElem?_cons_succ] at h;simp only [qZ] at hl;have hx':¬ Am x.key k=true:=λe=>hx ((asl _ _).mp e)
  rw [aF hx'] at hl;have ih:=agE k q v t j e h hk hl (λi y hi hy=>hf (i+1) y (by omega) (by simpa using hy));simp only [List.modify_succ_cons,qZ];rw [ih]
  by_cases hq:q=k
  ·subst hq;rw [aF hx',aG rfl,aG rfl]
  rw [aF hq,aF hq]
theorem aaX (k:Int):∀ (l:List MapEntry) (i j:Nat) (v:Value),(∀ x∈l,∃ k,x.key = .int .i32 k)->Instr.findNow (.int .i32) (.int .i32 k) l i=some (some (i+j,v))->∀ m x,m<j->l[m]?=some x->x.key≠.int .i32 k
 | [],_,_,_,_,h=>by simp [Instr.findNow] at h
 | e::es,i,j,v,hk,h=>by
  obtain⟨k',hk'⟩:=hk e (jZ ..)
  by_cases hq:k=k'
  ·subst hq;simp [Instr.findNow,Instr.sameNow,hk'] at h;intro m x hm;omega
  have hq':(k==k')=false:=by simpa using hq
  simp [Instr.findNow,Instr.sameNow,hk',hq'] at h;intro m x hm hx
  cases m with
  | zero =>
   simp at hx;subst hx;rw [hk'];intro e;injection e with _ e;exact hq e.symm
  | succ m =>
   exact aaX k es (i+1) (j-1) v (λx hx=>hk x (mZ _ hx)) (by rw [h];congr 3;omega) m x (by omega) (by simpa using hx)
section
variable {P:Program} {T K E:TypeId}
theorem acd (hm:P.underlying T=some (.map K E)) (hk:P.underlying K=some (.int .i32)) (W:World) (es:Array MapEntry) (clk:Nat) (k:Int) (v:Value) (n:Nat) (hg:W.heap[n]?=some (.map es clk)) (hik:FD es) :
  ∃ es' lV,(Instr.mapUpdate T (.map (some n)) (.int .i32 k) v).run P W = .ok () (W.putObj n (.map es' lV))/\FD es'/\∀ q,yx es' q=if q=k then some v else yx es q:=by
 have h1:(Instr.checkKey false 10000 K (.int .i32 k)).run P W = .ok () W:=MapKept.run_checkKey hk (by simp [MapKept.IsKey]) false 9999
 rcases RP k es.toList 0 hik with⟨hf,hl⟩ | ⟨j,v0,hf,hl,e,he,hek,hev⟩
 ·have h2:=MapKept.run_findKey (P:=P) (w:=W) hk hf;have hik':FD (es.push ⟨.int .i32 k,v,clk⟩):=by
   intro x hx;rw [Array.toList_push,lM,fU] at hx
   rcases hx with hx | rfl
   ·exact hik x hx
   exact⟨k,rfl⟩
  refine⟨es.push ⟨.int .i32 k,v,clk⟩,clk+1,?_,hik',λq=>?_⟩
  ·unfold Instr.mapUpdate;simp only [Sem.run_bind,run_underlying hm,Result.andThen,MapKept.run_getObj_map hg,h1,h2,MapKept.run_setObj_map _ hg]
   rfl
  rw [KP hik',KP hik,Array.toList_push,anB _ _ k q rfl hl]
 have h2:=MapKept.run_findKey (P:=P) (w:=W) hk hf;rw [Nat.zero_add] at hf h2;have hje:es[j]?=some e:=by simpa using he
 have hik':FD (es.modify j (λe=>{ e with key:=.int .i32 k,val:=v })):=by
  intro x hx
  rcases MapFrom.mem_modify hx with hx | ⟨e',_,rfl⟩
  ·exact hik x hx
  exact⟨k,rfl⟩
 refine⟨es.modify j (λe=>{ e with key:=.int .i32 k,val:=v }),clk,?_,hik',λq=>?_⟩
 ·unfold Instr.mapUpdate;simp only [Sem.run_bind,run_underlying hm,Result.andThen,MapKept.run_getObj_map hg,h1,h2,hje,Option.map_some,jE,hek,MapKept.run_keyThatStays (k:=.int .i32 k) (d:=.int .i32) (by simp [MapKept.IsKey]),MapKept.run_setObj_map _ hg]
  rfl
 rw [KP hik',KP hik,Array.toList_modify];exact agE k q v es.toList j e he hek (by rw [hl,hev]) (λi x hi hx=>aaX k es.toList 0 j v0 hik (by rw [Nat.zero_add];exact hf) i x hi hx)
end
theorem aja {P:Program} {T K E:TypeId} (hm:P.underlying T=some (.map K E)) (hk:P.underlying K=some (.int .i32)) (W:World) (es:Array MapEntry) (clk:Nat) (k:Int) (n:Nat) (hg:W.heap[n]?=some (.map es clk)) (hik:FD es) (z:Value) (hz:(zeroValue E).run P W = .ok z W) :
  (Instr.lookup T (.map (some n)) (.int .i32 k) true).run P W = .ok (.tuple #[(yx es k).getD z, .bool (yx es k).isSome]) W:=by
 have h1:(Instr.checkKey es.isEmpty 10000 K (.int .i32 k)).run P W = .ok () W:=MapKept.run_checkKey hk (by simp [MapKept.IsKey]) _ 9999
 rcases RP k es.toList 0 hik with⟨hf,hl⟩ | ⟨j,v,hf,hl,_⟩
 ·have h2:=MapKept.run_findKey (P:=P) (w:=W) hk hf;unfold Instr.lookup;rw [KP hik,hl];simp only [Sem.run_bind,run_underlying hm,Result.andThen,MapKept.run_getObj_map hg,h1,h2,Sem.run_pure,if_true,hz,Option.getD_none,Option.isSome_none]
 have h2:=MapKept.run_findKey (P:=P) (w:=W) hk hf;unfold Instr.lookup;rw [KP hik,hl];simp only [Sem.run_bind,run_underlying hm,Result.andThen,MapKept.run_getObj_map hg,h1,h2,Sem.run_pure,if_true,jE,Option.isSome_some]
def AX (W:World) (km:Nat) (t:F.Trie):Prop:=∃ es clk,W.heap[km]?=some (.map es clk)/\FD es/\∀ q v,yx es q=some v->v = ah (F.says t q)
theorem AX.lt {W:World} {km:Nat} {t:F.Trie} (h:AX W km t):km<W.heap.size:=by
 obtain⟨es,clk,h,-⟩:=h;exact(fF.1 h).1
theorem AX.block {W W':World} {km:Nat} {t:F.Trie} (h:AX W km t) (hb:W'.heap[km]?=W.heap[km]?):AX W' km t:=by
 obtain⟨es,clk,h1,h2,h3⟩:=h;exact⟨es,clk,hb.trans h1,h2,h3⟩
theorem AX.turns {own:Nat->Prop} {W W':World} {km:Nat} {t:F.Trie} (h:AX W km t) (ht:Turns own W W') (ho:¬ own km):AX W' km t:=h.block (ht.block _ h.lt ho)
def Pc.PZ (km:Nat) (t:F.Trie):Pc where
 fp k:=k=km
 ok W:=AX W km t
 keep:=λ{_ _ _} h ht ho=>h.turns ht (ho km rfl)
 lt:=λ{_ _} h hk=>hk▸h.lt
theorem aiY (W:World):(zeroValue 3).run prog W = .ok (ah 0) W:=by kernel_rfl
theorem Xh (W:World) (it:Nat) (s:ByteArray) (p:Nat):Turns (λk=>k=it) W (W.iterAt it s p) :=
 ⟨rfl,rfl,rfl,by rw [Lib.iterAt_size];exact bK _,λk _ ho=>Lib.iterAt_other W it k s p (λe=>ho e)⟩
theorem aik {xs:List Int} {k:Nat} {x:Int} (h:xs[k]?=some x):(U.textOf xs).drop (U.textOf (xs.take k)).length=U.enc x++U.textOf (xs.drop (k+1))/\U.textOf (xs.take (k+1))=U.textOf (xs.take k)++U.enc x:=by
 have e:=zS (l:=xs) (i:=k) (dO h).1;rw [(dO h).2] at e;have e2:xs=xs.take k++x::xs.drop (k+1):=by rw [<- e];exact(oN k xs).symm
 constructor
 ·have e3:U.textOf xs=U.textOf (xs.take k)++(U.enc x++U.textOf (xs.drop (k+1))):=by
   have:U.textOf xs=U.textOf (xs.take k++x::xs.drop (k+1)):=by rw [<- e2]
   rw [this];unfold U.textOf;rw [oz,pq]
  rw [e3,List.drop_left]
 unfold U.textOf;rw [jw,h,oz];simp
def wz (W:World) (km:Nat) (c:C.Wd):Prop:=∃ es clk,W.heap[km]?=some (.map es clk)/\FD es/\∀ q v,yx es q=some v->v = ah (C.kE c q)
theorem wz.lt {W:World} {km:Nat} {c:C.Wd} (h:wz W km c):km<W.heap.size:=by
 obtain⟨es,clk,h,-⟩:=h;exact(fF.1 h).1
theorem wz.block {W W':World} {km:Nat} {c:C.Wd} (h:wz W km c) (hb:W'.heap[km]?=W.heap[km]?):wz W' km c:=by
 obtain⟨es,clk,h1,h2,h3⟩:=h;exact⟨es,clk,hb.trans h1,h2,h3⟩
theorem wz.turns {own:Nat->Prop} {W W':World} {km:Nat} {c:C.Wd} (h:wz W km c) (ht:Turns own W W') (ho:¬ own km):wz W' km c:=h.block (ht.block _ h.lt ho)
def Pc.P9 (km:Nat) (c:C.Wd):Pc where
 fp k:=k=km
 ok W:=wz W km c
 keep:=λ{_ _ _} h ht ho=>h.turns ht (ho km rfl)
 lt:=λ{_ _} h hk=>hk▸h.lt
def yM (rg km:Nat) (iv bv:Value) (c:C.Wd) (ps:List Pc):List Pc:=Pc.blk rg 373 #[iv,bv, .bool c.wide, .map (some km)]::Pc.P9 km c::ps
theorem auW (rg km:Nat) (iv bv:Value) (c:C.Wd) (ps:List Pc) (r:Nat) (hr:r<=1114111) (w:World) (hs:rY c) (ht:F.nT c.p=true) (hR:∀ W,Sep ps W->aN W iv c.p.1/\iF W bv c.p.2) (hS:Sep (yM rg km iv bv c ps) w) :
  Calls prog 287 #[aA rg, .int .i32 (r:Int)] w λe w'=>e = .returned (ah (C.kE c (r:Int)))/\Turns (λk=>k=km) w w'/\wz w' km c:=by
 have zB:=bx (show C.kE c (r:Int)=if F.says c.p (r:Int)=3\/F.says c.p (r:Int)=4\/(F.says c.p (r:Int)=1/\c.wide=true) then 2 else if F.says c.p (r:Int)=6 then 0 else 1 from rfl);have zZ:=bx (show wz w km c from hS.at' 1 rfl);have dn:=bx (hS.blk 0 rfl);obtain⟨h1,h2⟩:=hR w hS.tail.tail;have OU:=bx (aam (.agg #[iv,bv]) c.p r w ⟨iv,bv,rfl,h1,h2⟩ ⟨hs.p1,hs.p2,hs.p3⟩ ht hr);obtain⟨es,clk,hm,hik,hes⟩:=zZ.o;have hlk:=aja underlying215 underlying21 w es clk (r:Int) km hm hik _ (aiY w);obtain⟨wd,hwd⟩:∃ b,b=c.wide:=⟨_,rfl⟩
 rw [<- hwd] at zB dn;generalize F.says c.p (r:Int)=y at zB OU;have c0:w.cell? ⟨rg,0,none⟩=some iv:=(dn.o.cell 0).trans rfl;have c1:w.cell? ⟨rg,1,none⟩=some bv:=(dn.o.cell 1).trans rfl;have c3:w.cell? ⟨rg,3,none⟩=some (.map (some km)):=(dn.o.cell 3).trans rfl;have cl:=dn.o.lt;have wr9:IntKind.i64.wrap (r:Int)=(r:Int):=by rw [yC];omega
 cases hq:yx es (r:Int) with
 | some v =>
  rw [hq,jE,Option.isSome_some,hes _ v hq] at hlk;generalize C.kE c (r:Int)=res at hlk ⊢;clear hq hes hik hm h1 h2 hwd hR hS hs ht OU zB
  go_in
  go_wp2
  go_ret
  exact⟨rfl,Turns.refl _ _,zZ.o⟩
 | none =>
  rw [hq,Option.getD_none,Option.isSome_none] at hlk;have uZ:=bx (λ(w1:World) (hb:ak w w1) (n:Int) (hn:C.kE c (r:Int)=n) (es':Array MapEntry) (lV:Nat) (hk:FD es') (hg:∀ q,yx es' q=if q=(r:Int) then some (ah n) else yx es q) =>
   show Ending.returned (ah n) = .returned (ah (C.kE c (r:Int)))/\Turns (λk=>k=km) w (w1.putObj km (.map es' lV))/\wz (w1.putObj km (.map es' lV)) km c from by
    have hm1:w1.heap[km]?=some (.map es clk):=(hb.block km (fF.1 hm).1).trans hm;refine⟨by rw [hn],(Turns.of_below hb).trans (Turns.putObj (own:=λk=>k=km) _ rfl _),es',lV,World.putObj_heap_same (LH hm1),hk,λq v hq=>?_⟩;rw [hg] at hq
    split at hq
    ·rename_i e;subst e;injection hq with hq;rw [<- hq,hn]
    exact hes q v hq)
  have xC:=bx (λ(w1:World) (hb:ak w w1) (n:Int)=>acd underlying215 underlying21 w1 es clk (r:Int) (ah n) km ((hb.block km (fF.1 hm).1).trans hm) hik);have hcase:y=3\/y=4\/(y=1/\wd=true)\/(y=1/\wd=false)\/y=6\/(y≠3/\y≠4/\y≠1/\y≠6):=by
   cases wd <;> simp <;> omega
  generalize C.kE c (r:Int)=res at zB uZ ⊢;clear hq hes hik hm h1 h2 hwd hR hS hs ht
  go_in
  go_wp2_with fail;refine aT OU.o λw1 hb1=>?_
  have HB1:=bx hb1;have hbk:=dn.o.below hb1 dn.o.lt;have d2:w1.cell? ⟨rg,2,none⟩=some (.bool wd):=(hbk.cell 2).trans rfl;have d3:w1.cell? ⟨rg,3,none⟩=some (.map (some km)):=(hbk.cell 3).trans rfl;have dl:=hbk.lt;clear hb1 hbk c0 c1 c3 cl hlk
  rcases hcase with rfl | rfl | ⟨rfl,rfl⟩ | ⟨rfl,rfl⟩ | rfl | ⟨n3,n4,n1,n6⟩
  ·obtain⟨es',lV,hu,hik',hes'⟩:=xC.o w1 HB1.o 2;have HF:=bx (uZ.o w1 HB1.o 2 (by rw [zB.o];simp) es' lV hik' hes');clear hik' hes'
   go_wp2
   go_ret
   exact HF.o
  ·obtain⟨es',lV,hu,hik',hes'⟩:=xC.o w1 HB1.o 2;have HF:=bx (uZ.o w1 HB1.o 2 (by rw [zB.o];simp) es' lV hik' hes');clear hik' hes'
   go_wp2
   go_ret
   exact HF.o
  ·obtain⟨es',lV,hu,hik',hes'⟩:=xC.o w1 HB1.o 2;have HF:=bx (uZ.o w1 HB1.o 2 (by rw [zB.o];simp) es' lV hik' hes');clear hik' hes'
   go_wp2
   go_ret
   exact HF.o
  ·obtain⟨es',lV,hu,hik',hes'⟩:=xC.o w1 HB1.o 1;have HF:=bx (uZ.o w1 HB1.o 1 (by rw [zB.o];simp) es' lV hik' hes');clear hik' hes'
   go_wp2
   go_ret
   exact HF.o
  ·obtain⟨es',lV,hu,hik',hes'⟩:=xC.o w1 HB1.o 0;have HF:=bx (uZ.o w1 HB1.o 0 (by rw [zB.o];simp) es' lV hik' hes');clear hik' hes'
   go_wp2
   go_ret
   exact HF.o
  have e3:(y==3)=false:=by rw [fG];exact n3
  have e4:(y==4)=false:=by rw [fG];exact n4
  have e1:(y==1)=false:=by rw [fG];exact n1
  have e6:(y != 6)=true:=by rw [Ji];exact n6
  rw [aF (by omega),aF n6] at zB;clear n3 n4 n1 n6;obtain⟨es',lV,hu,hik',hes'⟩:=xC.o w1 HB1.o 1;have HF:=bx (uZ.o w1 HB1.o 1 (by exact zB.o) es' lV hik' hes');clear hik' hes'
  go_wp2
  go_ret
  exact HF.o
theorem aw8 {xs:List Int} {k:Nat} {x:Int} (hx:xs[k]?=some x):C.emoji (xs.take (k+1))=(C.emoji (xs.take k)||(decide (0<k)&&(x==65039))):=by
 unfold C.emoji;rw [jw,hx,Option.toList_some,List.drop_append];have hk:(xs.take k).length=k:=by rw [dw];have:=(dO hx).1;omega
 rw [hk,List.any_append]
 cases k with
 | zero=>simp
 | succ k=>simp
theorem TW:∀ xs:List Int,xs.length<=(U.textOf xs).length
 | []=>bK _
 | x::t=>by
  unfold U.textOf;rw [pq,bC,dY];have h1:=(U.Jo x).1;have h2:=TW t;unfold U.textOf at h2;omega
theorem aqc {c:C.Wd} {xs:List Int} {k:Nat} {x:Int} (hx:xs[k]?=some x):C.most c (xs.take (k+1))=max (C.most c (xs.take k)) (C.kE c x):=by
 rw [jw,hx];exact C.avR c _ x
end Go.Proofs.YtdponihkpomheaaGreatDoor
