/- Texts of this claim. -/
import Derived.Test.YtlmdjifffmofeaaGreatDoorH14
import Derived.Test.YtlmdjifffmofeaaGreatDoorHXTitleTexts1

set_option maxRecDepth 100000
set_option maxHeartbeats 16000000
namespace Go.Proofs.YtlmdjifffmofeaaGreatDoor
section
open Go.RowKit
theorem dP.take {w:World} {ao:Option Addr} {cap cap':Nat} {l:List D.Rule} (h:dP w (.slice ao l.length cap) l) (n:Nat) (hc:(l.take n).length<=cap') (hc':cap'<=cap):dP w (.slice ao (l.take n).length cap') (l.take n):=by
 rcases h with⟨h1,rfl⟩ | ⟨b,off,sp,cap,h1,h2,h3,h4⟩
 ·injection h1 with h1 h2 h3;subst h1 h3;obtain rfl:cap'=0:=by omega
  simp [dP]
 ·injection h1 with h1 h2' h3';subst h1 h3';refine .inr ⟨b,off,sp,_,rfl,hc,Nat.le_trans hc' h3,λhn=>?_⟩;have hn':l≠[]:=by rintro rfl;simp at hn
  refine⟨(h4 hn').1,(h4 hn').2.1,λi x hx=>(h4 hn').2.2 i x ?_⟩;rw [List.getElem?_take] at hx
  split at hx
  ·exact hx
  ·cases hx
def qQ (w:World) (v:Value) (xs:List Bool):Prop :=
 (v = .slice none 0 0/\xs=[])\/∃ b off sp cap,v = .slice (some ⟨b,off,sp⟩) xs.length cap/\xs.length<=cap/\cap<=maxLen/\(xs≠[]->sp=none/\b<w.heap.size/\∀ i x,xs[i]?=some x->w.cell? ⟨b,off+i,none⟩=some (.bool x))
theorem qQ.below {w w':World} {v:Value} {xs:List Bool} (h:qQ w v xs) (hb:Below w.heap.size w w'):qQ w' v xs:=by
 rcases h with h | ⟨b,off,sp,cap,h1,h2,h3,h4⟩
 ·exact .inl h
 ·exact .inr ⟨b,off,sp,cap,h1,h2,h3,λhn=>⟨(h4 hn).1,Nat.lt_of_lt_of_le (h4 hn).2.1 hb.size,λi x hx=>(hb.cell (p:=⟨b,off+i,none⟩) (h4 hn).2.1).trans ((h4 hn).2.2 i x hx)⟩⟩
theorem qQ.get {w:World} {v:Value} {xs:List Bool} (h:qQ w v xs) (hn:xs≠[]) :
  ∃ b off cap,v = .slice (some ⟨b,off,none⟩) xs.length cap/\xs.length<=cap/\cap<=maxLen/\b<w.heap.size/\∀ i x,xs[i]?=some x->w.cell? ⟨b,off+i,none⟩=some (.bool x):=by
 rcases h with⟨_,h⟩ | ⟨b,off,sp,cap,h1,h2,h3,h4⟩
 ·exact absurd h hn
 ·obtain⟨rfl,h5,h6⟩:=h4 hn;exact⟨b,off,cap,h1,h2,h3,h5,h6⟩
theorem qQ.slice {w:World} {v:Value} {xs:List Bool} (h:qQ w v xs):∃ a cap,v = .slice a xs.length cap:=by
 rcases h with⟨rfl,rfl⟩ | ⟨b,off,sp,cap,rfl,_⟩
 ·exact⟨_,_,rfl⟩
 ·exact⟨_,_,rfl⟩
end
section
open Go.Sort
namespace N
theorem adE (l:List Item) (cs:List Int) (i a:Nat):nexts l cs i a=nx cs (l.getD i (0,0)) a:=rfl
end N
theorem acy {l:List N.Item} {cs:List Int} (hh:∀ i,N.iM l i=0\/N.iM l i=1\/N.iM l i=2) (a:Nat):∀ k,k<=l.length->∀ b:Int,b∈mM cs l a k↔∃ n:Nat,b=n/\N.Ends l cs k a n
 | 0,_,b=>by
  rw [Jw,List.mem_singleton];exact⟨λh=>⟨a,h,rfl⟩,λ⟨n,h,e⟩=>by rw [h,show n=a from e]⟩
 | k+1,hk,b=>by
  have ih:=acy (cs:=cs) hh a k (by omega);have hx:l[k]?=some (l.getD k (0,0)):=by
   rw [List.getD_eq_getElem?_getD,List.getElem?_eq_getElem (by omega)]
   rfl
  rw [Og cs l a k _ hx,abX,List.mem_flatMap]
  constructor
  ·rintro⟨c,hc,hb⟩;obtain⟨n,rfl,he⟩:=(ih c).1 hc;obtain⟨m,hm,rfl⟩:=List.mem_map.1 hb;rw [Int.toNat_natCast,<- N.adE] at hm;exact⟨m,rfl,n,he,(N.abz hh k n m).1 hm⟩
  ·rintro⟨m,rfl,n,he,hf⟩;refine⟨n,(ih n).2 ⟨n,rfl,he⟩,List.mem_map.2 ⟨m,?_,rfl⟩⟩;rw [Int.toNat_natCast,<- N.adE];exact(N.abz hh k n m).2 hf
end
section
open Go.RowKit
theorem Xt {l:List N.Item} (h:iO l=true) (i:Nat):N.iM l i=0\/N.iM l i=1\/N.iM l i=2:=by
 unfold N.iM
 rcases Nat.lt_or_ge i l.length with hi | hi
 ·have:=Ub h l[i] (List.getElem_mem hi);rw [List.getD_eq_getElem?_getD,List.getElem?_eq_getElem hi];exact this
 ·rw [List.getD_eq_getElem?_getD,List.getElem?_eq_none hi];exact .inl rfl
end
section
open Go.RowKit Go.Shelf
attribute [local go_sem] Oper.semAt_some
def J7 (n:Nat) (M:D.dF) (l:List Int):List Int:=(jD n M l).map (vw M)
def akr (n:Int) (M:D.dF) (l:List Int) (w:World) (e:Ending) (w':World):Prop :=
 Below w.heap.size w w'/\∃ v,e = .returned (.tuple #[v, .int .i64 (goCode n M)])/\ay w' v (if jB n M=true then J7 n.toNat M l else [])
theorem akm {w:World} {base n:Nat} {T:TypeId} {v:Value} {xs:List Int} (h:w.ownsRow base T 1 v n (xs.map (Value.int .i64))) (hn:n=xs.length):ay w v xs:=ay.dL h hn
def ng (x:D.Rule):D.Rule:=((x.1.1,x.1.2.take 12),(x.2.1.1,x.2.1.2.take 12),x.2.2)
def mJ (l:List D.Rule):List D.Rule:=(l.take 42).map ng
end
section
open Go.RowKit
attribute [local go_sem] Oper.semAt_some
theorem pR {α:Type} {p:α->Bool} {l:List α} (h:∀ (j:Nat) (x:α),j<l.length->l[j]?=some x->p x=true):l.all p=true:=by
 rw [List.all_eq_true];intro x hx;obtain⟨i,hi,e⟩:=List.getElem_of_mem hx;exact h i x hi (by rw [List.getElem?_eq_getElem hi,e])
theorem Bg (v:Value) (t:F.Trie) (w:World) (hv:uU w v t) (h1:t.1.length<=100000) (h2:t.2.length<=100000) :
  Calls Tryz.prog 86 #[v] w λe w'=>e = .returned (.bool (F.jK t))/\Below w.heap.size w w':=by
 rw [F.La];obtain⟨xs,bl⟩:=t;obtain⟨iv,bv,rfl,hiv,hbv⟩:=hv;simp only at hiv hbv h1 h2 ⊢;obtain⟨ia,ic,rfl⟩:=hiv.slice;obtain⟨ba,bc,rfl⟩:=hbv.slice;obtain⟨N,hN⟩:∃ N,xs.length=N:=⟨_,rfl⟩
 obtain⟨M,hM⟩:∃ M,bl.length=M:=⟨_,rfl⟩
 rw [hN] at hiv h1 ⊢;rw [hM] at hbv h2 ⊢;have HN:=bx hN;have HM:=bx hM;obtain⟨V,hV⟩:∃ V,V=w.alloc (.cells #[.slice ia N ic, .slice ba M bc] 26):=⟨_,rfl⟩
 have bG:=bx (show Below w.heap.size w V by rw [hV];exact aS _ _);have HK:=bx (show ak V w.heap.size 26 #[.slice ia N ic, .slice ba M bc] by rw [hV];exact ak.new _ _ _);have HI:=bx (hiv.below bG.o);have HB:=bx (hbv.below bG.o);have HV:=bx hV;clear hiv hbv hN hM hV;have aB:=bx (λW (h:Below V.heap.size V W)=>HK.o.c2 h)
 go_enter Tryz.func86,Tryz.ntmps86
 go_upto_region 1 with(fail)
 rw [<- HV.o];obtain⟨Q,hQ⟩:∃ Q,w.heap.size=Q:=⟨_,rfl⟩
 rw [hQ] at aB ⊢;have HQ:=bx hQ;clear HV hQ
 by_cases vg:N=4352
 rotate_left
 ·have e0:decide (N=4352)=false:=decide_eq_false vg;have e1:((N:Int) != 4352)=true:=by rw [bne_iff_ne];omega
  obtain⟨c0,c1,cl⟩:=aB.o V (Below.refl _ _);have HE:=bx e0;clear vg e0;go_wp2_with fail;go_ret
  exact⟨aI (by rw [HE.o];rfl),bG.o⟩
 have e0:decide (N=4352)=true:=decide_eq_true vg;have e1:((N:Int) != 4352)=false:=by rw [bne_eq_false_iff_eq];omega
 have HE:=bx e0;clear vg e0;obtain⟨c0,c1,cl⟩:=aB.o V (Below.refl _ _);go_wp2_with fail;clear c0 c1 cl e1
 go_loopw [3] (λi wr=>∃ k:Nat,k<=N/\i = .int .i64 k/\Box (∀ (j:Nat) (y:Int),j<k->xs[j]?=some y->(decide (0<=y)&&decide (y<(M:Int)))=true)/\Box (Below V.heap.size V wr)) (λi _=>N-(intOf i).toNat)
 case atStart=>exact⟨0,by omega,rfl,⟨λj y h=>by omega⟩,⟨Below.refl _ _⟩⟩
 case round =>
  obtain⟨k,hk,rfl,hok,hb⟩:=hrel;obtain⟨c0,c1,cl⟩:=aB.o wr hb.o;have HDR:=bx (λm=>hb.o.trans ((jG wr m).mono hb.o.size));have aJ:=bx (λm=>bG.o.trans ((HDR.o m).mono bG.o.size))
  by_cases hlt:k<N
  ·obtain⟨y,hy⟩:∃ y,xs[k]?=some y:=⟨_,List.getElem?_eq_getElem (by rw [HN.o];exact hlt)⟩
   obtain⟨g,off,cap2,hg1,hg2,hg3,hg4,hg5⟩:=(HI.o.below hb.o).get (by rintro rfl;simp at hy);rw [HN.o] at hg1 hg2;obtain⟨rfl,rfl⟩:ia=some ⟨g,off,none⟩/\ic=cap2:=by injection hg1 with h1 h2 h3;exact⟨h1,h3⟩
   have hck:=hg5 k y hy;have HY:=bx hy;unfold maxLen at hg3;clear hy hg1 hg5
   by_cases hlo:0<=y
   ·have e1:decide (y<0)=false:=decide_eq_false (by omega)
    by_cases hhi:y<(M:Int)
    ·have e2:decide ((M:Int)<=y)=false:=decide_eq_false (by omega);have bZ:=bx (upto_succ hok.o HY.o (show (decide (0<=y)&&decide (y<(M:Int)))=true by rw [decide_eq_true hlo,decide_eq_true hhi];rfl));clear hlo hhi;go_wp2_with fail
     go_quiet (fail)
     go_wp2_with fail
     go_roundw
     case rel=>exact⟨k+1,by omega,by go_num,bZ,⟨HDR.o _⟩⟩
     case measure=>simp [intOf];omega
    ·have e2:decide ((M:Int)<=y)=true:=decide_eq_true (by omega);have HF:=bx (show xs.all (λn=>decide (0<=n)&&decide (n<(M:Int)))=false from jk HY.o (by rw [decide_eq_false hhi,Bool.and_false]));clear hlo hhi;go_wp2_with fail
     go_quiet (fail)
     go_wp2_with fail;go_ret
     exact⟨aI (by rw [HE.o,HF.o];rfl),aJ.o _⟩
   ·have e1:decide (y<0)=true:=decide_eq_true (by omega);have HF:=bx (show xs.all (λn=>decide (0<=n)&&decide (n<(M:Int)))=false from jk HY.o (by rw [decide_eq_false hlo,Bool.false_and]));clear hlo;go_wp2_with fail
    go_quiet (fail)
    go_wp2_with fail;go_ret
    exact⟨aI (by rw [HE.o,HF.o];rfl),aJ.o _⟩
  ·obtain rfl:k=N:=by omega
   have HA:=bx (show xs.all (λn=>decide (0<=n)&&decide (n<(M:Int)))=true from pR (λj x hj hx=>hok.o j x (by rw [<- HN.o];exact hj) hx));go_wp2_with fail
   go_loopw [4] (λi wx=>∃ m:Nat,m<=M/\i = .int .i64 m/\Box (∀ (j:Nat) (y:List Int),j<m->bl[j]?=some y->F.fK y=true)/\Box (Below V.heap.size V wx)) (λi _=>M-(intOf i).toNat)
   case atStart=>exact⟨0,by omega,rfl,⟨λj y h=>by omega⟩,hb⟩
   case round =>
    obtain⟨m,hm,rfl,nD,hbx⟩:=hrel;obtain⟨ws,rfl⟩:∃ W,W=wr:=⟨_,rfl⟩
    obtain⟨c0,c1,cl⟩:=aB.o ws hbx.o;have aJ:=bx (bt bG.o hbx.o)
    by_cases hml:m<M
    ·obtain⟨r,hr⟩:∃ r,bl[m]?=some r:=⟨_,List.getElem?_eq_getElem (by rw [HM.o];exact hml)⟩
     obtain⟨g,off,cap2,hg1,hg2,hg3,hg4,hg5⟩:=(HB.o.below hbx.o).get (by rintro rfl;simp at hr);rw [HM.o] at hg1 hg2;obtain⟨rfl,rfl⟩:ba=some ⟨g,off,none⟩/\bc=cap2:=by injection hg1 with h1 h2 h3;exact⟨h1,h3⟩
     obtain⟨x,hck,hxi⟩:=hg5 m r hr;obtain⟨xa,xc,rfl⟩:=hxi.slice;have HX:=bx hxi;have HR:=bx hr;obtain⟨L,hL⟩:∃ L,r.length=L:=⟨_,rfl⟩
     rw [hL] at hck HX;have HL:=bx hL;unfold maxLen at hg3;clear hr hg1 hg5 hxi hL
     by_cases h256:L=256
     ·have e1:((L:Int) != 256)=false:=by rw [bne_eq_false_iff_eq];omega
      have HL2:=bx h256;obtain⟨g2,off2,cap3,k1,k2,k3,k4,k5⟩:=HX.o.get (by rintro rfl;have h1:=HL.o;have h2:=HL2.o;simp at h1;omega);rw [HL.o] at k1 k2;obtain⟨rfl,rfl⟩:xa=some ⟨g2,off2,none⟩/\xc=cap3:=by injection k1 with h1 h2 h3;exact⟨h1,h3⟩
      have wJ:=bx k5;unfold maxLen at k3;have Yl:256<=L:=by omega
      clear h256 k1 k5;go_wp2_with fail
      go_loopw [5] (λi wx=>∃ q:Nat,q<=256/\i = .int .i64 q/\Box (∀ (j:Nat) (y:Int),j<q->r[j]?=some y->(decide (0<=y)&&decide (y<=31))=true)/\wx=ws) (λi _=>256-(intOf i).toNat)
      case atStart=>exact⟨0,by omega,rfl,⟨λj y h=>by omega⟩,rfl⟩
      case round =>
       obtain⟨q,hq,rfl,hqo,rfl⟩:=hrel
       by_cases zK:q<256
       ·obtain⟨y,hy⟩:∃ y,r[q]?=some y:=⟨_,List.getElem?_eq_getElem (by rw [HL.o,HL2.o];exact zK)⟩
        have hcy:=wJ.o q y hy;have HY:=bx hy;clear hy
        by_cases hlo:0<=y
        ·have e2:decide (y<0)=false:=decide_eq_false (by omega)
         by_cases hhi:y<=31
         ·have e3:decide (31<y)=false:=decide_eq_false (by omega);have bZ:=bx (upto_succ hqo.o HY.o (show (decide (0<=y)&&decide (y<=31))=true by rw [decide_eq_true hlo,decide_eq_true hhi];rfl));clear hlo hhi;go_wp2_with fail
          go_roundw
          case rel=>exact⟨q+1,by omega,by go_num,bZ,trivial⟩
          case measure=>simp [intOf];omega
         ·have e3:decide (31<y)=true:=decide_eq_true (by omega);have HF:=bx (show bl.all F.fK=false from jk HR.o (by unfold F.fK;rw [jk HY.o (by rw [decide_eq_false hhi,Bool.and_false]),Bool.and_false]));clear hlo hhi;go_wp2_with fail;go_ret
          exact⟨aI (by rw [HF.o,Bool.and_false]),aJ.o⟩
        ·have e2:decide (y<0)=true:=decide_eq_true (by omega);have HF:=bx (show bl.all F.fK=false from jk HR.o (by unfold F.fK;rw [jk HY.o (by rw [decide_eq_false hlo,Bool.false_and]),Bool.and_false]));clear hlo;go_wp2_with fail;go_ret
         exact⟨aI (by rw [HF.o,Bool.and_false]),aJ.o⟩
       ·obtain rfl:q=256:=by omega
        have nC:=bx (upto_succ nD.o HR.o (show F.fK r=true by
         unfold F.fK;rw [decide_eq_true (by rw [HL.o,HL2.o]),Bool.true_and];exact pR (λj x hj hx=>hqo.o j x (by rw [HL.o,HL2.o] at hj;exact hj) hx)))
        go_wp2_with fail
        go_roundw
        case rel=>exact⟨m+1,by omega,by go_num,nC,hbx⟩
        case measure=>simp [intOf];omega
     ·have e1:((L:Int) != 256)=true:=by rw [bne_iff_ne];omega
      have HF:=bx (show bl.all F.fK=false from jk HR.o (by unfold F.fK;rw [decide_eq_false (by rw [HL.o];exact h256),Bool.false_and]));clear h256;go_wp2_with fail;go_ret
      exact⟨aI (by rw [HF.o,Bool.and_false]),aJ.o⟩
    ·obtain rfl:m=M:=by omega
     have HAB:=bx (show bl.all F.fK=true from pR (λj x hj hx=>nD.o j x (by rw [<- HM.o];exact hj) hx));go_wp2_with fail;go_ret
     exact⟨aI (by rw [HE.o,HA.o,HAB.o];rfl),aJ.o⟩
theorem LP (v:Value) (xs:List Int) (w:World) (hv:ay w v xs) (hz:xs.length<=100000) :
  Calls Tryz.prog 109 #[v] w λe w'=>e = .returned (.bool (T.toB xs))/\w=w':=by
 have HV:=bx hv;obtain⟨a,cap,rfl⟩:=hv.slice;obtain⟨N,hN⟩:∃ N,xs.length=N:=⟨_,rfl⟩
 rw [hN] at HV hz ⊢;have HN:=bx hN;clear hv hN
 go_enter Tryz.func109,Tryz.ntmps109
 go_wp2_with fail
 go_loopw [3] (λi wr=>∃ k:Nat,k<=N/\i = .int .i64 k/\Box (∀ (j:Nat) (y:Int),j<k->xs[j]?=some y->U.right y=true)/\wr=w) (λi _=>N-(intOf i).toNat)
 case atStart=>exact⟨0,by omega,rfl,⟨λj y h=>by omega⟩,rfl⟩
 case round =>
  obtain⟨k,hk,rfl,hok,rfl⟩:=hrel
  by_cases hlt:k<N
  ·obtain⟨y,hy⟩:∃ y,xs[k]?=some y:=⟨_,List.getElem?_eq_getElem (by rw [HN.o];exact hlt)⟩
   obtain⟨g,off,cap2,hg1,hg2,hg3,hg4,hg5⟩:=HV.o.get (by rintro rfl;simp at hy);rw [HN.o] at hg1 hg2;obtain⟨rfl,rfl⟩:a=some ⟨g,off,none⟩/\cap=cap2:=by injection hg1 with h1 h2 h3;exact⟨h1,h3⟩
   have hck:=hg5 k y hy;have HY:=bx hy;have bI:=bx (λW=>wC y W);unfold maxLen at hg3;clear hy hg1 hg5
   cases hr:U.right y with
   | true =>
    rw [hr] at bI;have bZ:=bx (upto_succ hok.o HY.o hr);clear hr;go_wp2_with fail;refine(bI.o _).mono ?_;rintro e w1 ⟨rfl,rfl⟩;go_wp2_with fail
    go_roundw
    case rel=>exact⟨k+1,by omega,by go_num,bZ,trivial⟩
    case measure=>simp [intOf];omega
   | false =>
    rw [hr] at bI;have HF:=bx (show T.toB xs=false by unfold T.toB;rw [jk HY.o hr,Bool.and_false]);clear hr;go_wp2_with fail;refine(bI.o _).mono ?_;rintro e w1 ⟨rfl,rfl⟩;go_wp2_with fail;go_ret
    exact⟨aI HF.o.symm,rfl⟩
  ·obtain rfl:k=N:=by omega
   have HA:=bx (show xs.all U.right=true from pR (λj x hj hx=>hok.o j x (by rw [<- HN.o];exact hj) hx));go_wp2_with fail;go_ret
   exact⟨aI (by unfold T.toB;rw [HA.o,Bool.and_true,HN.o,Bool.eq_iff_iff];simp;omega),rfl⟩
theorem D9 (v:Value) (l:List F.Map) (w:World) (hv:lK w v l) (hz:l.length<=100000) (mY:∀ x∈l,x.2.length<=100000) :
  Calls Tryz.prog 85 #[v] w λe w'=>e = .returned (.bool (T.iI 600 l))/\Below w.heap.size w w':=by
 have HV:=bx hv;obtain⟨a,cap,rfl,hc1,hc2⟩:=hv.slice;obtain⟨N,hN⟩:∃ N,l.length=N:=⟨_,rfl⟩
 rw [hN] at HV hz hc1 ⊢;have HN:=bx hN;have tK:=bx mY;clear hv hN mY
 go_enter Tryz.func85,Tryz.ntmps85
 go_wp2_with fail
 go_loopw [3] (λi wr=>∃ k:Nat,k<=N/\i = .int .i64 k/\Box (∀ j,j<k->T.jY l j=true)/\Box (Below w.heap.size w wr)) (λi _=>N-(intOf i).toNat)
 case atStart=>exact⟨0,by omega,rfl,⟨λj h=>by omega⟩,⟨Below.refl _ _⟩⟩
 case round =>
  obtain⟨k,hk,rfl,hok,hb⟩:=hrel;have HDR:=bx (λm=>hb.o.trans ((jG wr m).mono hb.o.size))
  by_cases hlt:k<N
  ·obtain⟨x,hx⟩:∃ x,l[k]?=some x:=⟨_,List.getElem?_eq_getElem (by rw [HN.o];exact hlt)⟩
   obtain⟨g,off,cap2,hg1,hg2,hg3,hg4,hg5⟩:=(HV.o.below hb.o).get (by rintro rfl;simp at hx);rw [HN.o] at hg1 hg2;obtain⟨rfl,rfl⟩:a=some ⟨g,off,none⟩/\cap=cap2:=by injection hg1 with h1 h2 h3;exact⟨h1,h3⟩
   obtain⟨x0,u,x1,hu⟩:=hg5 k x hx;have hgd:l.getD k (0,[])=x:=by rw [List.getD_eq_getElem?_getD,hx];rfl
   have fH:=bx (show T.jY l k=(U.right x.1&&(decide (k=0)||decide ((l.getD (k-1) (0,[])).1<x.1))&&T.toB x.2) by unfold T.jY;rw [hgd]);have qR:=bx (λ(h:T.jY l k=false)=>show T.iI 600 l=false by
    unfold T.iI;rw [T.Ei,jk (k:=k) (x:=k) (by rw [List.getElem?_range (by rw [HN.o];exact hlt)]) h,Bool.false_and])
   have bI:=bx (λW=>wC x.1 W);have fC:=bx (λm=>LP u x.2 (wr.drewN m) (hu.below (jG wr m)) (tK.o x (List.mem_of_getElem? hx)));unfold maxLen at hg3;have jZ:=bx hg5;have XB:=bx hx;clear hx hg1 hg5 hgd hu
   cases hr:U.right x.1 with
   | false =>
    rw [hr] at bI fH;have HF:=bx (qR.o (by rw [fH.o];rfl));clear hr;go_wp2_with fail
    go_quiet ((go_at_call 75;exact fV (bI.o _)))
    go_wp2_with fail;go_ret
    exact⟨aI HF.o.symm,HDR.o _⟩
   | true =>
    rw [hr] at bI fH;clear hr
    rcases Nat.eq_zero_or_pos k with h0 | h0
    ·have e0:decide (0<k)=false:=decide_eq_false (by omega);have wY:=bx (show (decide (k=0)||decide ((l.getD (k-1) (0,[])).1<x.1))=true by rw [decide_eq_true h0];rfl);clear h0
     cases hto:T.toB x.2 with
     | true =>
      rw [hto] at fC fH;have bZ:=bx (show ∀ j,j<k+1->T.jY l j=true from λj hj=>by
       rcases Nat.lt_or_ge j k with h1 | h1
       ·exact hok.o j h1
       ·obtain rfl:j=k:=by omega
        rw [fH.o,wY.o];rfl)
      clear hto;go_wp2_with fail
      go_quiet ((first | (go_at_call 75;exact fV (bI.o _)) | (go_at_call 109;exact fV (fC.o _))))
      go_wp2_with fail
      go_roundw
      case rel=>exact⟨k+1,hlt,by go_num,bZ,⟨HDR.o _⟩⟩
      case measure=>simp [intOf];omega
     | false =>
      rw [hto] at fC fH;have HF:=bx (qR.o (by rw [fH.o,Bool.and_false]));clear hto;go_wp2_with fail
      go_quiet ((first | (go_at_call 75;exact fV (bI.o _)) | (go_at_call 109;exact fV (fC.o _))))
      go_wp2_with fail;go_ret
      exact⟨aI HF.o.symm,HDR.o _⟩
    ·obtain⟨y,hy⟩:∃ y,l[k-1]?=some y:=⟨_,List.getElem?_eq_getElem (by rw [HN.o];omega)⟩
     obtain⟨y0,-⟩:=jZ.o (k-1) y hy;have rY:l.getD (k-1) (0,[])=y:=by rw [List.getD_eq_getElem?_getD,hy];rfl
     have e0:decide (0<k)=true:=decide_eq_true (by omega);have i0:(0:Int)<=(k:Int)-1:=by omega
     have i1:(k:Int)-1<(N:Int):=by omega
     have i2:((k:Int)-1).toNat=k-1:=by omega
     by_cases hlo:y.1<x.1
     ·have e1:decide (x.1<=y.1)=false:=decide_eq_false (by omega);have wY:=bx (show (decide (k=0)||decide ((l.getD (k-1) (0,[])).1<x.1))=true by rw [rY,decide_eq_true hlo,Bool.or_true]);clear h0 hlo rY hy
      cases hto:T.toB x.2 with
      | true =>
       rw [hto] at fC fH;have bZ:=bx (show ∀ j,j<k+1->T.jY l j=true from λj hj=>by
        rcases Nat.lt_or_ge j k with h1 | h1
        ·exact hok.o j h1
        ·obtain rfl:j=k:=by omega
         rw [fH.o,wY.o];rfl)
       clear hto;go_wp2_with fail
       go_quiet ((first | (go_at_call 75;exact fV (bI.o _)) | (go_at_call 109;exact fV (fC.o _))))
       go_wp2_with fail
       go_roundw
       case rel=>exact⟨k+1,hlt,by go_num,bZ,⟨HDR.o _⟩⟩
       case measure=>simp [intOf];omega
      | false =>
       rw [hto] at fC fH;have HF:=bx (qR.o (by rw [fH.o,Bool.and_false]));clear hto;go_wp2_with fail
       go_quiet ((first | (go_at_call 75;exact fV (bI.o _)) | (go_at_call 109;exact fV (fC.o _))))
       go_wp2_with fail;go_ret
       exact⟨aI HF.o.symm,HDR.o _⟩
     ·have e1:decide (x.1<=y.1)=true:=decide_eq_true (by omega);have HF:=bx (qR.o (by rw [fH.o,rY,decide_eq_false hlo,decide_eq_false (by omega)];rfl));clear h0 hlo rY hy;go_wp2_with fail
      go_quiet ((first | (go_at_call 75;exact fV (bI.o _)) | (go_at_call 109;exact fV (fC.o _))))
      go_wp2_with fail;go_ret
      exact⟨aI HF.o.symm,HDR.o _⟩
  ·obtain rfl:k=N:=by omega
   have HA:=bx (show T.iI 600 l=decide (k<=600) by
    unfold T.iI;rw [T.Ei,HN.o,show (List.range k).all (T.jY l)=true by rw [List.all_eq_true];exact λj hj=>hok.o j (List.mem_range.1 hj),Bool.true_and])
   go_wp2_with fail;go_ret
   exact⟨aI (by rw [HA.o,Bool.eq_iff_iff];simp;omega),hb.o⟩
theorem FZ (v:Value) (c:T.Cs) (w:World) (hv:bC w v c) (hs:T.Small c) :
  Calls Tryz.prog 48 #[v] w λe w'=>e = .returned (.bool (T.cu 600 c))/\Below w.heap.size w w':=by
 rw [wE];obtain⟨lv,tv,ci,cb,gi,gb,rfl,h1,h2,h3,h4,h5,h6⟩:=hv;have fD:=bx (λW (h:Below w.heap.size w W)=>D9 lv c.lo W (h1.below h) hs.lo hs.loA);have kZ:=bx (λW (h:Below w.heap.size w W)=>D9 tv c.ti W (h2.below h) hs.ti hs.tiA);have HT1:=bx (λW (h:Below w.heap.size w W)=>Bg (.agg #[ci,cb]) c.ca W ⟨_,_,rfl,h3.below h,h4.below h⟩ hs.c1 hs.c2);have HT2:=bx (λW (h:Below w.heap.size w W)=>Bg (.agg #[gi,gb]) c.ig W ⟨_,_,rfl,h5.below h,h6.below h⟩ hs.g1 hs.g2);generalize T.iI 600 c.lo=b1 at fD ⊢;generalize T.iI 600 c.ti=b2 at kZ ⊢;generalize F.jK c.ca=b3 at HT1 ⊢;generalize F.jK c.ig=b4 at HT2 ⊢;obtain⟨V,hV⟩:∃ V,V=w.alloc (.cells #[lv,tv,ci,cb,gi,gb] 28):=⟨_,rfl⟩
 have HB0:=bx (show Below w.heap.size w V by rw [hV];exact aS _ _);have HK:=bx (show ak V w.heap.size 28 #[lv,tv,ci,cb,gi,gb] by rw [hV];exact ak.new _ _ _);have aB:=bx (λW (h:Below V.heap.size V W)=>HK.o.c6 h);have HV:=bx hV;clear h1 h2 h3 h4 h5 h6 hs hV
 go_enter Tryz.func48,Tryz.ntmps48
 go_upto_region 1 with(fail)
 rw [<- HV.o];obtain⟨Q,hQ⟩:∃ Q,w.heap.size=Q:=⟨_,rfl⟩
 rw [hQ] at aB ⊢;clear hQ HV;have HW0:=bx (Below.refl V.heap.size V);obtain⟨k0,k1,k2,k3,k4,k5,kl⟩:=aB.o V HW0.o;go_wp2_with fail;refine(fD.o V (bt HB0.o HW0.o)).mono ?_;rintro e V1 ⟨rfl,hb1⟩;have HW1:=bx (bt HW0.o hb1);clear k0 k1 k2 k3 k4 k5 kl hb1;obtain⟨k0,k1,k2,k3,k4,k5,kl⟩:=aB.o V1 HW1.o
 cases b1 with
 | false =>
  go_wp2_with fail;go_ret
  exact⟨aI (by simp),bt HB0.o HW1.o⟩
 | true =>
  go_wp2_with fail;refine(kZ.o V1 (bt HB0.o HW1.o)).mono ?_;rintro e V2 ⟨rfl,hb2⟩;have HW2:=bx (bt HW1.o hb2);clear k0 k1 k2 k3 k4 k5 kl hb2;obtain⟨k0,k1,k2,k3,k4,k5,kl⟩:=aB.o V2 HW2.o
  cases b2 with
  | false =>
   go_wp2_with fail;go_ret
   exact⟨aI (by simp),bt HB0.o HW2.o⟩
  | true =>
   go_wp2_with fail;refine(HT1.o V2 (bt HB0.o HW2.o)).mono ?_;rintro e V3 ⟨rfl,hb3⟩;have HW3:=bx (bt HW2.o hb3);clear k0 k1 k2 k3 k4 k5 kl hb3;obtain⟨k0,k1,k2,k3,k4,k5,kl⟩:=aB.o V3 HW3.o
   cases b3 with
   | false =>
    go_wp2_with fail;go_ret
    exact⟨aI (by simp),bt HB0.o HW3.o⟩
   | true =>
    go_wp2_with fail;refine(HT2.o V3 (bt HB0.o HW3.o)).mono ?_;rintro e V4 ⟨rfl,hb4⟩;have rZ:=bx (bt HW3.o hb4);clear k0 k1 k2 k3 k4 k5 kl hb4;obtain⟨k0,k1,k2,k3,k4,k5,kl⟩:=aB.o V4 rZ.o;go_wp2_with fail;go_ret
    exact⟨aI (by simp),bt HB0.o rZ.o⟩
theorem zJ (v:Value) (t:F.Trie) (r:Nat) (w:World) (hv:uU w v t) (ht:F.jK t=true) (hr:r<=1114111) :
  Calls Tryz.prog 76 #[v, .int .i64 (r:Int)] w λe w'=>e = .returned (.bool (F.says t (r:Int) != 0))/\Below w.heap.size w w':=by
 obtain⟨iv,bv,rfl,hi,hb⟩:=hv;obtain⟨V,hV⟩:∃ V,V=w.alloc (.cells #[iv,bv] 26):=⟨_,rfl⟩
 have HB0:=bx (show Below w.heap.size w V by rw [hV];exact aS _ _);have hk:ak V w.heap.size 26 #[iv,bv]:=by rw [hV];exact ak.new _ _ _
 obtain⟨g,off,cap,n,g2,off2,cap2,g3,qU,cap3,rfl,a2,a3,a4,a5,a6,rfl,b2,b3,b4,b5,c2,c3,c4,c5⟩:=Il (hi.below HB0.o) (hb.below HB0.o) ht r hr;have HV:=bx hV;generalize F.says t (r:Int)=y at c5 ⊢;generalize t.2.length=M at *;have m0:=(hk.cell 0).trans (show _=some (Value.slice (some ⟨g,off,none⟩) 4352 cap) from rfl);have m1:=(hk.cell 1).trans (show _=some (Value.slice (some ⟨g2,off2,none⟩) M cap2) from rfl);have ml:=hk.lt;obtain⟨d,hd⟩:∃ d,r / 256=d:=⟨_,rfl⟩
 obtain⟨q,hq⟩:∃ q,r % 256=q:=⟨_,rfl⟩
 have hd1:d<4352:=by omega
 have hq1:q<256:=by omega
 have td:(r:Int).tdiv 256=(d:Int):=by rw [<- hd];rfl
 have tm:(r:Int).tmod 256=(q:Int):=by rw [<- hq];rfl
 rw [hd] at a5;rw [hq] at c5;clear hk hd hq hi hb ht hV
 go_enter Tryz.func76,Tryz.ntmps76
 go_upto_region 1 with(fail)
 rw [<- HV.o];have HDR:=bx (λm=>HB0.o.trans ((jG V m).mono HB0.o.size))
 go_quiet (fail)
 go_wp2_with fail;go_ret
 exact⟨rfl,HDR.o _⟩
theorem E8 (v:Value) (l:List F.Map) (r:Int) (w:World) (hv:lK w v l) (hz:l.length<=100000) (mY:∀ x∈l,x.2.length<=100000) :
  Calls Tryz.prog 79 #[v, .int .i64 r] w λe w'=>(∃ v',e = .returned v'/\ay w' v' (T.becomes l r)/\∀ g,v'.ownBlock=some g->w.heap.size<=g/\g<w'.heap.size)/\Below w.heap.size w w':=by
 have HV:=bx hv;obtain⟨a,cap,rfl,hc1,hc2⟩:=hv.slice;obtain⟨N,hN⟩:∃ N,l.length=N:=⟨_,rfl⟩
 rw [hN] at HV hz hc1 ⊢;have HN:=bx hN;have tK:=bx mY;have aU:=bx ((Sep.start w).fP w.heap.size 1 3);clear hv hN mY
 go_enter Tryz.func79,Tryz.ntmps79
 go_wp2_with fail
 go_loopw [5] (λi wr=>∃ k:Nat,k<=N/\i = .int .i64 k/\Box (∀ (j:Nat) (y:F.Map),j<k->l[j]?=some y->y.1≠r)/\wr=w) (λi _=>N-(intOf i).toNat)
 case atStart=>exact⟨0,by omega,rfl,⟨λj y h=>by omega⟩,rfl⟩
 case round =>
  obtain⟨k,hk,rfl,hno,rfl⟩:=hrel
  by_cases hlt:k<N
  ·obtain⟨x,hx⟩:∃ x,l[k]?=some x:=⟨_,List.getElem?_eq_getElem (by rw [HN.o];exact hlt)⟩
   obtain⟨g,off,cap2,hg1,hg2,hg3,hg4,hg5⟩:=HV.o.get (by rintro rfl;simp at hx);rw [HN.o] at hg1 hg2;obtain⟨rfl,rfl⟩:a=some ⟨g,off,none⟩/\cap=cap2:=by injection hg1 with h1 h2 h3;exact⟨h1,h3⟩
   obtain⟨x0,u,x1,hu⟩:=hg5 k x hx;obtain⟨ua,uc,rfl⟩:=hu.slice;have HX:=bx hx;have HU:=bx (pG hu);have Jt:=bx (tK.o x (List.mem_of_getElem? hx));unfold maxLen at hg3;clear hx hg1 hg5 hu
   by_cases he:x.1=r
   ·have e1:(x.1==r)=true:=by rw [beq_iff_eq];exact he
    have dJ:=bx (NI HX.o he hno.o);have yL:=Jt.o;clear he;go_wp2_with (at_builtin;refine lX rfl _ _ 23 rfl lQ (by decide) aU.o 0 rfl rfl rfl HU.o (by rw [List.length_map,Nat.mul_one]) (by intro z hz;obtain⟨q,-,rfl⟩:=List.mem_map.1 hz;rfl) (by omega) (by omega) (Nat.le_refl _) ?_;rintro v7 w7 hS7)
    have hrow:=hS7.row 0 rfl;have HI:=bx (show ay w7 v7 (T.becomes l r) by
     rw [dJ.o];rw [Nat.zero_add,List.nil_append] at hrow;exact ay.dL hrow rfl)
    have HF:=bx (λg hg=>hrow.lt g hg);have aH:=bx (hS7.bel (n:=wr.heap.size) (W0:=wr) (by simp));clear hS7 hrow yL;go_wp2_with fail;go_ret
    exact⟨⟨_,rfl,HI.o,HF.o⟩,aH.o⟩
   ·have e1:(x.1==r)=false:=by rw [beq_eq_false_iff_ne];exact he
    have bZ:=bx (upto_succ hno.o HX.o he);clear he;go_wp2_with fail
    go_roundw
    case rel=>exact⟨k+1,by omega,by go_num,bZ,trivial⟩
    case measure=>simp [intOf];omega
  ·obtain rfl:k=N:=by omega
   have dJ:=bx (NH (l:=l) (r:=r) (λj y hj hy=>hno.o j y (by rw [<- HN.o];exact hj) hy));have HI:=bx (DN wr r 3);have HB:=bx (aS wr (.cells #[.int .i64 r] 3));go_wp2_with fail;go_ret
   exact⟨⟨_,rfl,by rw [dJ.o];exact HI.o,λg hg=>by simp [Value.ownBlock] at hg;subst hg;exact⟨Nat.le_refl _,by simp⟩⟩,HB.o⟩
theorem Dp (v aT:Value) (c:T.Cs) (xs:List Int) (w:World) (hv:bC w v c) (hc:T.cu 600 c=true) (hl:ay w aT xs) (hx:∀ x∈xs,U.right x=true) (hz:xs.length<=100000) :
  Calls Tryz.prog 77 #[v,aT] w λe w'=>e = .returned (.bool (xs.all (T.aX c)))/\Below w.heap.size w w':=by
 obtain⟨lv,tv,ci,cb,gi,gb,rfl,h1,h2,h3,h4,h5,h6⟩:=hv;obtain⟨V,hV⟩:∃ V,V=w.alloc (.cells #[lv,tv,ci,cb,gi,gb] 28):=⟨_,rfl⟩
 have HB0:=bx (show Below w.heap.size w V by rw [hV];exact aS _ _);have HK:=bx (show ak V w.heap.size 28 #[lv,tv,ci,cb,gi,gb] by rw [hV];exact ak.new _ _ _);have bU:=bx (λW (h:Below w.heap.size w W)=>show bC W (.agg #[lv,tv,ci,cb,gi,gb]) c from⟨lv,tv,ci,cb,gi,gb,rfl,h1.below h,h2.below h,h3.below h,h4.below h,h5.below h,h6.below h⟩);have aB:=bx (λW (h:Below V.heap.size V W)=>HK.o.c6 h);have HV:=bx hV;rw [wE] at hc;simp only [Bool.and_eq_true] at hc;have dB:=bx (λ(x:Int) (hxr:U.right x=true) W (h:Below w.heap.size w W)=>show Calls Tryz.prog 76 #[.agg #[gi,gb], .int .i64 x] W λe w'=>e = .returned (.bool (T.aX c x))/\Below W.heap.size W w' by
  obtain⟨rn,rfl,hrz⟩:=yw hxr;exact zJ (.agg #[gi,gb]) c.ig rn W ⟨_,_,rfl,h5.below h,h6.below h⟩ hc.2 hrz)
 have HL:=bx (λW (h:Below w.heap.size w W)=>hl.below h);have jX:=bx hx;obtain⟨la,lc,rfl⟩:=hl.slice;obtain⟨N,hN⟩:∃ N,xs.length=N:=⟨_,rfl⟩
 rw [hN] at HL hz ⊢;have HN:=bx hN;clear h1 h2 h3 h4 h5 h6 hc hV hl hx hN
 go_enter Tryz.func77,Tryz.ntmps77
 go_upto_region 1 with(fail)
 rw [<- HV.o];go_wp2_with fail
 go_loopw [5] (λi wr=>∃ k:Nat,k<=N/\i = .int .i64 k/\Box (∀ (j:Nat) (y:Int),j<k->xs[j]?=some y->T.aX c y=true)/\Box (Below V.heap.size V wr)) (λi _=>N-(intOf i).toNat)
 case atStart=>exact⟨0,by omega,rfl,⟨λj y h=>by omega⟩,⟨Below.refl _ _⟩⟩
 case round =>
  obtain⟨k,hk,rfl,hok,hb⟩:=hrel;have aJ:=bx (bt HB0.o hb.o)
  by_cases hlt:k<N
  ·obtain⟨x,hx⟩:∃ x,xs[k]?=some x:=⟨_,List.getElem?_eq_getElem (by rw [HN.o];exact hlt)⟩
   obtain⟨g,off,cap2,hg1,hg2,hg3,hg4,hg5⟩:=(HL.o wr aJ.o).get (by rintro rfl;simp at hx);rw [HN.o] at hg1 hg2;obtain⟨rfl,rfl⟩:la=some ⟨g,off,none⟩/\lc=cap2:=by injection hg1 with h1 h2 h3;exact⟨h1,h3⟩
   have hck:=hg5 k x hx;have HX:=bx hx;have dB:=bx (dB.o x (jX.o x (List.mem_of_getElem? hx)));unfold maxLen at hg3;obtain⟨Inv,hI1,hI2⟩:∃ Inv:World->Prop,(∀ W,Inv W->Below wr.heap.size wr W)/\(∀ W,Below wr.heap.size wr W->Inv W):=⟨_,λ_ h=>h,λ_ h=>h⟩
   have aZ:=bx (show ∀ q:CW Inv,Below wr.heap.size wr q.w from λq=>hI1 _ q.h);have eH:=bx (show ∀ (q:CW Inv) w',Below q.w.heap.size q.w w'->Inv w' from λq w' h=>hI2 _ ((aZ.o q).trans (h.mono (aZ.o q).size)));have bf:=bx (λq:CW Inv=>hb.o.trans ((aZ.o q).mono hb.o.size));have fQ:=bx (λq:CW Inv=>HB0.o.trans ((bf.o q).mono HB0.o.size));have q4:∀ q:CW Inv,q.w.cell? ⟨w.heap.size,4,none⟩=some gi:=λq=>(aB.o _ (bf.o q)).2.2.2.2.1
   have q5:∀ q:CW Inv,q.w.cell? ⟨w.heap.size,5,none⟩=some gb:=λq=>(aB.o _ (bf.o q)).2.2.2.2.2.1
   have q6:∀ q:CW Inv,q.w.cell? ⟨g,off+k,none⟩=some (.int .i64 x):=λq=>((aZ.o q).cell (p:=⟨g,off+k,none⟩) hg4).trans hck
   have HDR:=bx (hI2 _ (eu wr 1));clear hx hg1 hg5 hI1 hI2 hck
   cases hy:T.aX c x with
   | true =>
    rw [hy] at dB;have HY:=bx hy;clear hy;have K1:=bx (λq:CW Inv=>ji (dB.o q.w (fQ.o q)) rfl (eH.o q));go_wp2_with fail;refine gK Inv (by kernel_rfl) (by kernel_rfl) HDR.o (λhne=>?_)
    repeat (any_goals (first | go_big_quiet_step ((go_at_call 76;exact K1.o _)) | quiet_step ((go_at_call 76;exact K1.o _))))
    refine wpQuiet_nil ?_;rintro w7 ⟨q7,rfl⟩;have aH:=bx (bf.o q7);clear q4 q5 q6 hne;go_wp2_with fail
    go_roundw
    case rel=>exact⟨k+1,by omega,by go_num,⟨upto_succ hok.o HX.o HY.o⟩,aH⟩
    case measure=>simp [intOf];omega
   | false =>
    rw [hy] at dB;have HY:=bx hy;clear hy;have K1:=bx (λq:CW Inv=>ji (dB.o q.w (fQ.o q)) rfl (eH.o q));go_wp2_with fail;refine gK Inv (by kernel_rfl) (by kernel_rfl) HDR.o (λhne=>?_)
    repeat (any_goals (first | go_big_quiet_step ((go_at_call 76;exact K1.o _)) | quiet_step ((go_at_call 76;exact K1.o _))))
    refine wpQuiet_nil ?_;rintro w7 ⟨q7,rfl⟩;have aH:=bx (bf.o q7);clear q4 q5 q6 hne;go_wp2_with fail;go_ret
    exact⟨aI (by rw [jk HX.o HY.o]),bt HB0.o aH.o⟩
  ·obtain rfl:k=N:=by omega
   have HA:=bx (show xs.all (T.aX c)=true from pR (λj x hj hx=>hok.o j x (by rw [<- HN.o];exact hj) hx));go_wp2_with fail;go_ret
   exact⟨aI (by rw [HA.o]),aJ.o⟩
theorem DC (v aT:Value) (c:T.Cs) (xs:List Int) (w:World) (hv:bC w v c) (hs:T.Small c) (hl:ay w aT xs) (hz:xs.length<=100000) :
  Calls Tryz.prog 38 #[v,aT] w λe w'=>e = .returned (.int .i64 (T.wrong c xs))/\Below w.heap.size w w':=by
 obtain⟨lv,tv,ci,cb,gi,gb,rfl,h1,h2,h3,h4,h5,h6⟩:=hv;obtain⟨V,hV⟩:∃ V,V=w.alloc (.cells #[lv,tv,ci,cb,gi,gb] 28):=⟨_,rfl⟩
 have HB0:=bx (show Below w.heap.size w V by rw [hV];exact aS _ _);have HK:=bx (show ak V w.heap.size 28 #[lv,tv,ci,cb,gi,gb] by rw [hV];exact ak.new _ _ _);have bU:=bx (λW (h:Below w.heap.size w W)=>show bC W (.agg #[lv,tv,ci,cb,gi,gb]) c from⟨lv,tv,ci,cb,gi,gb,rfl,h1.below h,h2.below h,h3.below h,h4.below h,h5.below h,h6.below h⟩);have aB:=bx (λW (h:Below V.heap.size V W)=>HK.o.c6 h);have HV:=bx hV;have dK:=bx (λW (h:Below w.heap.size w W)=>FZ _ c W (bU.o W h) hs);have HL:=bx (λW (h:Below w.heap.size w W)=>hl.below h);obtain⟨la,lc,rfl⟩:=hl.slice;obtain⟨N,hN⟩:∃ N,xs.length=N:=⟨_,rfl⟩
 rw [hN] at HL hz ⊢;have HN:=bx hN;clear h1 h2 h3 h4 h5 h6 hs hV hl hN;obtain⟨k0,k1,k2,k3,k4,k5,kl⟩:=aB.o V (Below.refl _ _)
 go_enter Tryz.func38,Tryz.ntmps38
 go_upto_region 1 with(fail)
 rw [<- HV.o]
 cases hcb:T.cu 600 c with
 | false =>
  rw [hcb] at dK;have HW:=bx (show T.wrong c xs=140 by unfold T.wrong;rw [if_pos hcb]);clear hcb;go_wp2_with fail;refine(dK.o _ HB0.o).mono ?_;rintro e w1 ⟨rfl,hb1⟩;have HB1:=bx (bt HB0.o hb1);clear hb1;go_wp2_with fail;go_ret
  exact⟨by rw [HW.o];rfl,HB1.o⟩
 | true =>
  rw [hcb] at dK;have iG:=bx hcb;clear hcb
  by_cases rD:2000<N
  ·have e1:decide ((2000:Int)<(N:Int))=true:=decide_eq_true (by omega);have HW:=bx (show T.wrong c xs=121 by unfold T.wrong;rw [iG.o,if_neg (by simp),if_pos (by rw [HN.o];exact rD)]);clear rD;go_wp2_with fail;refine(dK.o _ HB0.o).mono ?_;rintro e w1 ⟨rfl,hb1⟩;have HB1:=bx (bt HB0.o hb1);clear hb1;go_wp2_with fail;go_ret
   exact⟨by rw [HW.o];rfl,HB1.o⟩
  ·have e1:decide ((2000:Int)<(N:Int))=false:=decide_eq_false (by omega);have CX:=bx (show T.wrong c xs=if xs.all U.right=false then 10 else 0 by unfold T.wrong;rw [iG.o,if_neg (by simp),if_neg (by rw [HN.o];exact rD)]);clear rD;go_wp2_with fail;refine(dK.o _ HB0.o).mono ?_;rintro e w1 ⟨rfl,hb1⟩;have HB1:=bx (bt HB0.o hb1);clear hb1 k0 k1 k2 k3 k4 k5 kl;go_wp2_with fail
   go_loopw [5] (λi wr=>∃ k:Nat,k<=N/\i = .int .i64 k/\Box (∀ (j:Nat) (y:Int),j<k->xs[j]?=some y->U.right y=true)/\wr=w1) (λi _=>N-(intOf i).toNat)
   case atStart=>exact⟨0,by omega,rfl,⟨λj y h=>by omega⟩,rfl⟩
   case round =>
    obtain⟨k,hk,rfl,hok,rfl⟩:=hrel
    by_cases hlt:k<N
    ·obtain⟨y,hy⟩:∃ y,xs[k]?=some y:=⟨_,List.getElem?_eq_getElem (by rw [HN.o];exact hlt)⟩
     obtain⟨g,off,cap2,hg1,hg2,hg3,hg4,hg5⟩:=(HL.o _ HB1.o).get (by rintro rfl;simp at hy);rw [HN.o] at hg1 hg2;obtain⟨rfl,rfl⟩:la=some ⟨g,off,none⟩/\lc=cap2:=by injection hg1 with h1 h2 h3;exact⟨h1,h3⟩
     have hck:=hg5 k y hy;have HY:=bx hy;have bI:=bx (λW=>wC y W);unfold maxLen at hg3;clear hy hg1 hg5
     cases hr:U.right y with
     | true =>
      rw [hr] at bI;have bZ:=bx (upto_succ hok.o HY.o hr);clear hr;go_wp2_with fail;refine(bI.o _).mono ?_;rintro e w2 ⟨rfl,rfl⟩;go_wp2_with fail
      go_roundw
      case rel=>exact⟨k+1,by omega,by go_num,bZ,trivial⟩
      case measure=>simp [intOf];omega
     | false =>
      rw [hr] at bI;have HF:=bx (show xs.all U.right=false from jk HY.o hr);clear hr;go_wp2_with fail;refine(bI.o _).mono ?_;rintro e w2 ⟨rfl,rfl⟩;go_wp2_with fail;go_ret
      exact⟨by rw [CX.o,if_pos HF.o];rfl,HB1.o⟩
    ·obtain rfl:k=N:=by omega
     have HA:=bx (show xs.all U.right=true from pR (λj x hj hx=>hok.o j x (by rw [<- HN.o];exact hj) hx));go_wp2_with fail;go_ret
     exact⟨by rw [CX.o,if_neg (by rw [HA.o];simp)];rfl,HB1.o⟩
end
namespace T
open Go.Proofs.YtlmdjifffmofeaaGreatDoor
def kC (c:Cs) (m:List Int):Bool:=(List.range m.length).any λi=>cased c (m.getD i 0)&&(m.drop (i+1)).all (aX c)
theorem Na (c:Cs) (m:List Int) (x:Int):kC c (m++[x])=(cased c x||(aX c x&&kC c m)):=by
 unfold kC;rw [List.length_append,List.length_singleton,List.range_succ,List.any_append,List.any_cons,List.any_nil,Bool.or_false,Bool.or_comm]
 congr 1
 ·rw [List.getD_eq_getElem?_getD,List.getElem?_append_right (Nat.le_refl _),Nat.sub_self];simp
 ·rw [Bool.eq_iff_iff];simp only [List.any_eq_true,List.mem_range,Bool.and_eq_true]
  constructor
  ·rintro⟨i,hi,h1,h2⟩;rw [List.getD_eq_getElem?_getD,List.getElem?_append_left hi,<- List.getD_eq_getElem?_getD] at h1;rw [List.drop_append_of_le_length (by omega),List.all_append,Bool.and_eq_true] at h2;exact⟨by simpa using h2.2,i,hi,h1,h2.1⟩
  ·rintro⟨h0,i,hi,h1,h2⟩;refine⟨i,hi,?_,?_⟩
   ·rw [List.getD_eq_getElem?_getD,List.getElem?_append_left hi,<- List.getD_eq_getElem?_getD];exact h1
   ·rw [List.drop_append_of_le_length (by omega),List.all_append,Bool.and_eq_true];exact⟨h2,by simpa using h0⟩
theorem Nb (c:Cs) (m:List Int):meets c m.reverse=kC c m:=by
 have key:∀ n (m:List Int),m.length=n->meets c m.reverse=kC c m:=by
  intro n
  induction n with
  | zero=>intro m hm;rw [List.eq_nil_of_length_eq_zero hm];rfl
  | succ n ih =>
   intro m hm
   rcases List.eq_nil_or_concat m with rfl | ⟨q,x,rfl⟩
   ·simp at hm
   ·rw [List.concat_eq_append] at hm ⊢;rw [List.reverse_append,List.reverse_singleton,List.singleton_append,Na];have:=ih q (by simpa using hm);show (cased c x||(aX c x&&meets c q.reverse))=_
    rw [this]
 exact key _ m rfl
end T
namespace T
open Go.Proofs.YtlmdjifffmofeaaGreatDoor
def oN (c:Cs) (m:List Int):Bool:=(List.range m.length).any λi=>cased c (m.getD i 0)&&(m.take i).all (aX c)
theorem Eo (c:Cs):∀ m:List Int,meets c m=oN c m
 | []=>rfl
 | x::t=>by
  have ih:=Eo c t;unfold meets;rw [ih];unfold oN;rw [List.length_cons,List.range_succ_eq_map,List.any_cons,List.any_map]
  congr 1
  ·simp
  ·rw [Bool.eq_iff_iff,Bool.and_eq_true,List.any_eq_true,List.any_eq_true]
   constructor
   ·rintro⟨h0,i,hi,h1⟩;refine⟨i,hi,?_⟩;simp only [Function.comp,List.getD_cons_succ,List.take_succ_cons,List.all_cons];rw [Bool.and_eq_true] at h1 ⊢;exact⟨h1.1,by rw [h0,h1.2];rfl⟩
   ·rintro⟨i,hi,h1⟩;simp only [Function.comp,List.getD_cons_succ,List.take_succ_cons,List.all_cons,Bool.and_eq_true] at h1;exact⟨h1.2.1,i,hi,by rw [h1.1,h1.2.2];rfl⟩
theorem Kr (c:Cs) (l:List Int) (at':Nat):final c l at'=(kC c (l.take at')&&!oN c (l.drop (at'+1))):=by
 unfold final;rw [Nb,Eo]
def jE (c:Cs) (l:List Int) (at' k:Nat):Bool:=(List.range k).any λi=>cased c (l.getD i 0)&&((l.take at').drop (i+1)).all (aX c)
theorem Np (c:Cs) (l:List Int) (at' k:Nat):jE c l at' (k+1)=(jE c l at' k||(cased c (l.getD k 0)&&((l.take at').drop (k+1)).all (aX c))):=by
 unfold jE;rw [List.range_succ,List.any_append,List.any_cons,List.any_nil,Bool.or_false]
theorem KR (c:Cs) (l:List Int) (at':Nat) (h:at'<=l.length):jE c l at' at'=kC c (l.take at'):=by
 unfold jE kC;rw [List.length_take,Nat.min_eq_left h];rw [Bool.eq_iff_iff,List.any_eq_true,List.any_eq_true];have key:∀ i,i<at'->(l.take at').getD i 0=l.getD i 0:=λi hi=>by
  rw [List.getD_eq_getElem?_getD,List.getD_eq_getElem?_getD,List.getElem?_take_of_lt hi]
 constructor
 ·rintro⟨i,hi,h1⟩;exact⟨i,hi,by rw [key i (List.mem_range.1 hi)];exact h1⟩
 ·rintro⟨i,hi,h1⟩;exact⟨i,hi,by rw [key i (List.mem_range.1 hi)] at h1;exact h1⟩
def jC (c:Cs) (l:List Int) (at' k:Nat):Bool:=(List.range k).any λi=>cased c (l.getD (at'+1+i) 0)&&((l.drop (at'+1)).take i).all (aX c)
theorem Jq (c:Cs) (l:List Int) (at' k:Nat):jC c l at' (k+1)=(jC c l at' k||(cased c (l.getD (at'+1+k) 0)&&((l.drop (at'+1)).take k).all (aX c))):=by
 unfold jC;rw [List.range_succ,List.any_append,List.any_cons,List.any_nil,Bool.or_false]
theorem MO (c:Cs) (l:List Int) (at':Nat):jC c l at' (l.length-(at'+1))=oN c (l.drop (at'+1)):=by
 unfold jC oN;rw [List.length_drop];have key:∀ i,(l.drop (at'+1)).getD i 0=l.getD (at'+1+i) 0:=λi=>by
  rw [List.getD_eq_getElem?_getD,List.getD_eq_getElem?_getD,List.getElem?_drop]
 simp only [key]
end T
section
open Go.RowKit
attribute [local go_sem] Oper.semAt_some
theorem xA (a:Option Addr) (N cap i j:Nat) (xs:List Int) (hij:i<=j) (hj:j<=N) (hN:xs.length=N) (hz:N<=100000) {w0:World} (h0:ay w0 (.slice a N cap) xs) :
  ∃ Y,(∀ W,(Instr.slice 23 (.slice a N cap) (some (.int .i64 (i:Int))) (some (.int .i64 (j:Int))) none).run Tryz.prog W = .ok Y W)/\∀ W,ay W (.slice a N cap) xs->ay W Y ((xs.take j).drop i):=by
 subst hN
 rcases h0 with⟨h1,h2⟩ | ⟨b,off,sp,cap2,h1,h2,h3,h4⟩
 ·injection h1 with e1 e2 e3;subst e1 e3 h2;obtain rfl:j=0:=by simpa using hj
  obtain rfl:i=0:=by omega
  exact⟨.slice none 0 0,λW=>by go_simp,λW _=>by simpa using ay.nil⟩
 ·injection h1 with e1 e2 e3;subst e1 e3
  by_cases hn:xs=[]
  ·subst hn;obtain rfl:j=0:=by simpa using hj
   obtain rfl:i=0:=by omega
   refine⟨.slice (some ⟨b,off,sp⟩) 0 cap,λW=>?_,λW _=>?_⟩
   ·unfold maxLen at h3
    by_cases hc:cap=0
    ·subst hc;go_simp
    ·go_simp
   ·exact .inr ⟨b,off,sp,cap,by simp,by simp,h3,λh=>absurd (by simp) h⟩
  ·obtain⟨rfl,h5,h6⟩:=h4 hn;have hk:j<=cap:=by omega
   by_cases hc:cap=i
   ·obtain rfl:j=i:=by omega
    obtain rfl:cap=j:=hc;refine⟨.slice (some ⟨b,off,none⟩) (cap-cap) (cap-cap),λW=>?_,λW hW=>hW.part cap cap _ hij hj (by omega) (by omega) _ (λh=>by omega)⟩;unfold maxLen at h3;go_simp
   ·refine⟨.slice (some ((⟨b,off,none⟩:Addr).add i)) (j-i) (cap-i),λW=>?_,λW hW=>hW.part i j _ hij hj (by omega) (by omega) _ (λ_=>rfl)⟩;unfold maxLen at h3;go_simp
theorem Gm (v aT:Value) (c:T.Cs) (xs:List Int) (a:Nat) (w:World) (hv:bC w v c) (hc:T.cu 600 c=true) (hl:ay w aT xs) (hx:∀ x∈xs,U.right x=true) (hz:xs.length<=100000) (ha:a<xs.length) :
  Calls Tryz.prog 39 #[v,aT, .int .i64 (a:Int)] w λe w'=>e = .returned (.bool (T.final c xs a))/\Below w.heap.size w w':=by
 obtain⟨lv,tv,ci,cb,gi,gb,rfl,h1,h2,h3,h4,h5,h6⟩:=hv;obtain⟨V,hV⟩:∃ V,V=w.alloc (.cells #[lv,tv,ci,cb,gi,gb] 28):=⟨_,rfl⟩
 have HB0:=bx (show Below w.heap.size w V by rw [hV];exact aS _ _);have HK:=bx (show ak V w.heap.size 28 #[lv,tv,ci,cb,gi,gb] by rw [hV];exact ak.new _ _ _);have bU:=bx (λW (h:Below w.heap.size w W)=>show bC W (.agg #[lv,tv,ci,cb,gi,gb]) c from⟨lv,tv,ci,cb,gi,gb,rfl,h1.below h,h2.below h,h3.below h,h4.below h,h5.below h,h6.below h⟩);have aB:=bx (λW (h:Below V.heap.size V W)=>HK.o.c6 h);have HV:=bx hV;have iG:=bx hc;rw [wE] at hc;simp only [Bool.and_eq_true] at hc;have dB:=bx (λ(x:Int) (hxr:U.right x=true) W (h:Below w.heap.size w W)=>show Calls Tryz.prog 76 #[.agg #[ci,cb], .int .i64 x] W λe w'=>e = .returned (.bool (T.cased c x))/\Below W.heap.size W w' by
  obtain⟨rn,rfl,hrz⟩:=yw hxr;exact zJ (.agg #[ci,cb]) c.ca rn W ⟨_,_,rfl,h3.below h,h4.below h⟩ hc.1.2 hrz)
 have HL:=bx (λW (h:Below w.heap.size w W)=>hl.below h);have jX:=bx hx;obtain⟨la,lc,rfl⟩:=hl.slice;obtain⟨N,hN⟩:∃ N,xs.length=N:=⟨_,rfl⟩
 rw [hN] at HL hz ha ⊢;have HN:=bx hN;clear h1 h2 h3 h4 h5 h6 hc hV hl hx hN
 go_enter Tryz.func39,Tryz.ntmps39
 go_upto_region 1 with(fail)
 rw [<- HV.o];go_wp2_with fail
 go_loopw [7,8] (λb i wr=>∃ k:Nat,k<=a/\i = .int .i64 k/\b = .bool (T.jE c xs a k)/\Box (Below V.heap.size V wr)) (λ_ i _=>a-(intOf i).toNat)
 case atStart=>exact⟨0,by omega,rfl,rfl,⟨Below.refl _ _⟩⟩
 case round =>
  obtain⟨k,hk,rfl,rfl,hb⟩:=hrel;have aJ:=bx (bt HB0.o hb.o);obtain⟨ah,hah⟩:∃ ah,ah=T.jE c xs a k:=⟨_,rfl⟩
  rw [<- hah];have nH:=bx hah;clear hah
  by_cases hlt:k<a
  ·have lG:=bx (T.Np c xs a k);obtain⟨x,hx⟩:∃ x,xs[k]?=some x:=⟨_,List.getElem?_eq_getElem (by rw [HN.o];omega)⟩
   obtain⟨g,off,cap2,hg1,hg2,hg3,hg4,hg5⟩:=(HL.o wr aJ.o).get (by rintro rfl;simp at hx);rw [HN.o] at hg1 hg2;obtain⟨rfl,rfl⟩:la=some ⟨g,off,none⟩/\lc=cap2:=by injection hg1 with h1 h2 h3;exact⟨h1,h3⟩
   have hck:=hg5 _ x hx;have fO:=bx (show xs.getD (k) 0=x by rw [List.getD_eq_getElem?_getD,hx,Option.getD_some]);have dB:=bx (dB.o x (jX.o x (List.mem_of_getElem? hx)));obtain⟨Y,hsl,hY⟩:=xA (some ⟨g,off,none⟩) N lc (k+1) a xs (by omega) (by omega) HN.o hz (HL.o wr aJ.o);obtain⟨ig,hig⟩:∃ ig,ig=((xs.take a).drop (k+1)).all (T.aX c):=⟨_,rfl⟩
   have uT:=bx hig.symm;have zi:=bx (λW (h:Below w.heap.size w W)=>show Calls Tryz.prog 77 #[.agg #[lv,tv,ci,cb,gi,gb],Y] W λe w'=>e = .returned (.bool ig)/\Below W.heap.size W w' by
    have h9:=hY W (HL.o W h);rw [hig];refine Dp _ Y c _ W (bU.o W h) iG.o (by first | exact h9 | simpa using h9) (λz hz=>jX.o z ?_) (by have:=HN.o;simp;omega)
    first | exact List.mem_of_mem_take (List.mem_of_mem_drop hz) | exact List.mem_of_mem_drop (List.mem_of_mem_take hz))
   unfold maxLen at hg3;obtain⟨Inv,hI1,hI2⟩:∃ Inv:World->Prop,(∀ W,Inv W->Below wr.heap.size wr W)/\(∀ W,Below wr.heap.size wr W->Inv W):=⟨_,λ_ h=>h,λ_ h=>h⟩
   have aZ:=bx (show ∀ q:CW Inv,Below wr.heap.size wr q.w from λq=>hI1 _ q.h);have eH:=bx (show ∀ (q:CW Inv) w',Below q.w.heap.size q.w w'->Inv w' from λq w' h=>hI2 _ ((aZ.o q).trans (h.mono (aZ.o q).size)));have bf:=bx (λq:CW Inv=>hb.o.trans ((aZ.o q).mono hb.o.size));have fQ:=bx (λq:CW Inv=>HB0.o.trans ((bf.o q).mono HB0.o.size));have q0:∀ q:CW Inv,q.w.cell? ⟨w.heap.size,0,none⟩=some lv:=λq=>(aB.o _ (bf.o q)).1
   have q1:∀ q:CW Inv,q.w.cell? ⟨w.heap.size,1,none⟩=some tv:=λq=>(aB.o _ (bf.o q)).2.1
   have q2:∀ q:CW Inv,q.w.cell? ⟨w.heap.size,2,none⟩=some ci:=λq=>(aB.o _ (bf.o q)).2.2.1
   have q3:∀ q:CW Inv,q.w.cell? ⟨w.heap.size,3,none⟩=some cb:=λq=>(aB.o _ (bf.o q)).2.2.2.1
   have q4:∀ q:CW Inv,q.w.cell? ⟨w.heap.size,4,none⟩=some gi:=λq=>(aB.o _ (bf.o q)).2.2.2.2.1
   have q5:∀ q:CW Inv,q.w.cell? ⟨w.heap.size,5,none⟩=some gb:=λq=>(aB.o _ (bf.o q)).2.2.2.2.2.1
   have ql:∀ q:CW Inv,w.heap.size<q.w.heap.size:=λq=>(aB.o _ (bf.o q)).2.2.2.2.2.2
   have q6:∀ q:CW Inv,q.w.cell? ⟨g,off+(k),none⟩=some (.int .i64 x):=λq=>((aZ.o q).cell (p:=⟨g,off+(k),none⟩) hg4).trans hck
   have HDR:=bx (hI2 _ (eu wr 1));clear hx hg1 hg5 hI1 hI2 hck hY hig;rw [show ((k+1:Nat):Int)=(k:Int)+1 by omega] at hsl
   cases ah with
   | true =>
    have bZ:=bx (show T.jE c xs a (k+1)=true by rw [lG.o,<- nH.o,Bool.true_or]);clear hsl;go_wp2_with fail;refine gK Inv (by kernel_rfl) (by kernel_rfl) HDR.o (λhne=>?_)
    repeat (any_goals (first | go_big_quiet_step (fail) | quiet_step (fail)))
    refine wpQuiet_nil ?_;rintro w7 ⟨q7,rfl⟩;have aH:=bx (bf.o q7);clear q0 q1 q2 q3 q4 q5 ql q6 hne;go_wp2_with fail
    go_roundw
    case rel=>exact⟨k+1,by omega,by go_num,by rw [bZ.o],aH⟩
    case measure=>simp [intOf];omega
   | false =>
    cases hy:T.cased c x with
    | false =>
     rw [hy] at dB;have bZ:=bx (show T.jE c xs a (k+1)=false by rw [lG.o,<- nH.o,fO.o,hy,Bool.false_or,Bool.false_and]);clear hy hsl;have K1:=bx (λq:CW Inv=>ji (dB.o q.w (fQ.o q)) rfl (eH.o q));go_wp2_with fail;refine gK Inv (by kernel_rfl) (by kernel_rfl) HDR.o (λhne=>?_)
     repeat (any_goals (first | go_big_quiet_step ((go_at_call 76;exact K1.o _)) | quiet_step ((go_at_call 76;exact K1.o _))))
     refine wpQuiet_nil ?_;rintro w7 ⟨q7,rfl⟩;have aH:=bx (bf.o q7);clear q0 q1 q2 q3 q4 q5 ql q6 hne;go_wp2_with fail
     go_roundw
     case rel=>exact⟨k+1,by omega,by go_num,by rw [bZ.o],aH⟩
     case measure=>simp [intOf];omega
    | true =>
     rw [hy] at dB;have bZ:=bx (show T.jE c xs a (k+1)=ig by rw [lG.o,<- nH.o,fO.o,hy,uT.o,Bool.false_or,Bool.true_and]);clear hy;have K1:=bx (λq:CW Inv=>ji (dB.o q.w (fQ.o q)) rfl (eH.o q));have K2:=bx (λq:CW Inv=>ji (zi.o q.w (fQ.o q)) rfl (eH.o q));go_wp2_with fail;refine gK Inv (by kernel_rfl) (by kernel_rfl) HDR.o (λhne=>?_)
     iterate 9 (first | go_big_quiet_step ((go_at_call 76;exact K1.o _)) | quiet_step ((go_at_call 76;exact K1.o _)))
     clear K1
     repeat (any_goals (first | go_big_quiet_step ((go_at_call 77;exact K2.o _)) | quiet_step ((go_at_call 77;exact K2.o _))))
     refine wpQuiet_nil ?_;rintro w7 ⟨q7,rfl⟩;have aH:=bx (bf.o q7);clear q0 q1 q2 q3 q4 q5 ql q6 hne;go_wp2_with fail
     go_roundw
     case rel=>exact⟨k+1,by omega,by go_num,by rw [bZ.o],aH⟩
     case measure=>simp [intOf];omega
  ·obtain rfl:a=k:=by omega
   have HAD:=bx (show ah=T.kC c (xs.take a) by rw [nH.o,T.KR c xs a (by rw [HN.o];omega)]);obtain⟨w5,hw5⟩:∃ w5:World,w5=wr:=⟨_,rfl⟩
   have hb5:=bx (show Below V.heap.size V w5 by rw [hw5];exact hb.o);rw [<- hw5];clear hb nH aJ hlt hk hw5;go_wp2_with fail
   go_loopw [9,10] (λb i wr=>∃ k:Nat,k<=N-(a+1)/\i = .int .i64 ((a:Int)+1+k)/\b = .bool (T.jC c xs a k)/\Box (Below V.heap.size V wr)) (λ_ i _=>N-(intOf i).toNat)
   case atStart=>exact⟨0,by omega,by go_num,rfl,hb5⟩
   case round =>
    obtain⟨k,hk,rfl,rfl,hb⟩:=hrel;have aJ:=bx (bt HB0.o hb.o);obtain⟨bh,qw⟩:∃ bh,bh=T.jC c xs a k:=⟨_,rfl⟩
    rw [<- qw];have rP:=bx qw;clear qw;obtain⟨p,hp⟩:∃ p:Nat,p=a+1+k:=⟨_,rfl⟩
    rw [show (a:Int)+1+k=(p:Int) by omega];have HP:=bx hp;have hap:a+1<=p:=by omega
    by_cases hlt:p<N
    ·have lG:=bx (T.Jq c xs a k);rw [<- hp] at lG;have zB:=bx (show (xs.take p).drop (a+1)=(xs.drop (a+1)).take k by rw [List.drop_take,hp,Nat.add_sub_cancel_left]);have hkn:k+1<=N-(a+1):=by omega
     clear hp hk;obtain⟨x,hx⟩:∃ x,xs[p]?=some x:=⟨_,List.getElem?_eq_getElem (by rw [HN.o];omega)⟩
     obtain⟨g,off,cap2,hg1,hg2,hg3,hg4,hg5⟩:=(HL.o wr aJ.o).get (by rintro rfl;simp at hx);rw [HN.o] at hg1 hg2;obtain⟨rfl,rfl⟩:la=some ⟨g,off,none⟩/\lc=cap2:=by injection hg1 with h1 h2 h3;exact⟨h1,h3⟩
     have hck:=hg5 _ x hx;have fO:=bx (show xs.getD (p) 0=x by rw [List.getD_eq_getElem?_getD,hx,Option.getD_some]);have dB:=bx (dB.o x (jX.o x (List.mem_of_getElem? hx)));obtain⟨Y,hsl,hY⟩:=xA (some ⟨g,off,none⟩) N lc (a+1) p xs (by omega) (by omega) HN.o hz (HL.o wr aJ.o);obtain⟨ig,hig⟩:∃ ig,ig=((xs.take p).drop (a+1)).all (T.aX c):=⟨_,rfl⟩
     have uT:=bx hig.symm;have zi:=bx (λW (h:Below w.heap.size w W)=>show Calls Tryz.prog 77 #[.agg #[lv,tv,ci,cb,gi,gb],Y] W λe w'=>e = .returned (.bool ig)/\Below W.heap.size W w' by
      have h9:=hY W (HL.o W h);rw [hig];refine Dp _ Y c _ W (bU.o W h) iG.o (by first | exact h9 | simpa using h9) (λz hz=>jX.o z ?_) (by have:=HN.o;simp;omega)
      first | exact List.mem_of_mem_take (List.mem_of_mem_drop hz) | exact List.mem_of_mem_drop (List.mem_of_mem_take hz))
     unfold maxLen at hg3;obtain⟨Inv,hI1,hI2⟩:∃ Inv:World->Prop,(∀ W,Inv W->Below wr.heap.size wr W)/\(∀ W,Below wr.heap.size wr W->Inv W):=⟨_,λ_ h=>h,λ_ h=>h⟩
     have aZ:=bx (show ∀ q:CW Inv,Below wr.heap.size wr q.w from λq=>hI1 _ q.h);have eH:=bx (show ∀ (q:CW Inv) w',Below q.w.heap.size q.w w'->Inv w' from λq w' h=>hI2 _ ((aZ.o q).trans (h.mono (aZ.o q).size)));have bf:=bx (λq:CW Inv=>hb.o.trans ((aZ.o q).mono hb.o.size));have fQ:=bx (λq:CW Inv=>HB0.o.trans ((bf.o q).mono HB0.o.size));have q0:∀ q:CW Inv,q.w.cell? ⟨w.heap.size,0,none⟩=some lv:=λq=>(aB.o _ (bf.o q)).1
     have q1:∀ q:CW Inv,q.w.cell? ⟨w.heap.size,1,none⟩=some tv:=λq=>(aB.o _ (bf.o q)).2.1
     have q2:∀ q:CW Inv,q.w.cell? ⟨w.heap.size,2,none⟩=some ci:=λq=>(aB.o _ (bf.o q)).2.2.1
     have q3:∀ q:CW Inv,q.w.cell? ⟨w.heap.size,3,none⟩=some cb:=λq=>(aB.o _ (bf.o q)).2.2.2.1
     have q4:∀ q:CW Inv,q.w.cell? ⟨w.heap.size,4,none⟩=some gi:=λq=>(aB.o _ (bf.o q)).2.2.2.2.1
     have q5:∀ q:CW Inv,q.w.cell? ⟨w.heap.size,5,none⟩=some gb:=λq=>(aB.o _ (bf.o q)).2.2.2.2.2.1
     have ql:∀ q:CW Inv,w.heap.size<q.w.heap.size:=λq=>(aB.o _ (bf.o q)).2.2.2.2.2.2
     have q6:∀ q:CW Inv,q.w.cell? ⟨g,off+(p),none⟩=some (.int .i64 x):=λq=>((aZ.o q).cell (p:=⟨g,off+(p),none⟩) hg4).trans hck
     have HDR:=bx (hI2 _ (eu wr 1));clear hx hg1 hg5 hI1 hI2 hck hY hig;rw [show ((a+1:Nat):Int)=(a:Int)+1 by omega] at hsl;rw [zB.o] at uT
     cases bh with
     | true =>
      have bZ:=bx (show T.jC c xs a (k+1)=true by rw [lG.o,<- rP.o,Bool.true_or]);clear hsl;go_wp2_with fail;refine gK Inv (by kernel_rfl) (by kernel_rfl) HDR.o (λhne=>?_)
      repeat (any_goals (first | go_big_quiet_step (fail) | quiet_step (fail)))
      refine wpQuiet_nil ?_;rintro w7 ⟨q7,rfl⟩;have aH:=bx (bf.o q7);clear q0 q1 q2 q3 q4 q5 ql q6 hne;go_wp2_with fail
      go_roundw
      case rel=>exact⟨k+1,hkn,by have h8:=HP.o;go_num,by rw [bZ.o],aH⟩
      case measure=>have h8:=HP.o;simp [intOf];omega
     | false =>
      cases hy:T.cased c x with
      | false =>
       rw [hy] at dB;have bZ:=bx (show T.jC c xs a (k+1)=false by rw [lG.o,<- rP.o,fO.o,hy,Bool.false_or,Bool.false_and]);clear hy hsl;have K1:=bx (λq:CW Inv=>ji (dB.o q.w (fQ.o q)) rfl (eH.o q));go_wp2_with fail;refine gK Inv (by kernel_rfl) (by kernel_rfl) HDR.o (λhne=>?_)
       repeat (any_goals (first | go_big_quiet_step ((go_at_call 76;exact K1.o _)) | quiet_step ((go_at_call 76;exact K1.o _))))
       refine wpQuiet_nil ?_;rintro w7 ⟨q7,rfl⟩;have aH:=bx (bf.o q7);clear q0 q1 q2 q3 q4 q5 ql q6 hne;go_wp2_with fail
       go_roundw
       case rel=>exact⟨k+1,hkn,by have h8:=HP.o;go_num,by rw [bZ.o],aH⟩
       case measure=>have h8:=HP.o;simp [intOf];omega
      | true =>
       rw [hy] at dB;have bZ:=bx (show T.jC c xs a (k+1)=ig by rw [lG.o,<- rP.o,fO.o,hy,uT.o,Bool.false_or,Bool.true_and]);clear hy;have K1:=bx (λq:CW Inv=>ji (dB.o q.w (fQ.o q)) rfl (eH.o q));have K2:=bx (λq:CW Inv=>ji (zi.o q.w (fQ.o q)) rfl (eH.o q));go_wp2_with fail;refine gK Inv (by kernel_rfl) (by kernel_rfl) HDR.o (λhne=>?_)
       iterate 9 (first | go_big_quiet_step ((go_at_call 76;exact K1.o _)) | quiet_step ((go_at_call 76;exact K1.o _)))
       clear K1
       repeat (any_goals (first | go_big_quiet_step ((go_at_call 77;exact K2.o _)) | quiet_step ((go_at_call 77;exact K2.o _))))
       refine wpQuiet_nil ?_;rintro w7 ⟨q7,rfl⟩;have aH:=bx (bf.o q7);clear q0 q1 q2 q3 q4 q5 ql q6 hne;go_wp2_with fail
       go_roundw
       case rel=>exact⟨k+1,hkn,by have h8:=HP.o;go_num,by rw [bZ.o],aH⟩
       case measure=>have h8:=HP.o;simp [intOf];omega
    ·have aF:=bx (show bh=T.oN c (xs.drop (a+1)) by rw [rP.o,<- T.MO,HN.o,show k=N-(a+1) by omega]);have e9:decide ((p:Int)<(N:Int))=false:=decide_eq_false (by omega);clear hp;have HF:=bx (show T.final c xs a=(ah&&!bh) by rw [T.Kr,HAD.o,aF.o]);have dJ:=bx (bt HB0.o hb.o);clear rP aF HAD
     cases ah with
     | true =>
      go_wp2_with fail;go_ret
      exact⟨aI (by rw [HF.o];rfl),dJ.o⟩
     | false =>
      go_wp2_with fail;go_ret
      exact⟨aI (by rw [HF.o];rfl),dJ.o⟩
theorem Gn (v aT:Value) (c:T.Cs) (xs:List Int) (a:Nat) (w:World) (hv:bC w v c) (hs:T.Small c) (hc:T.cu 600 c=true) (hl:ay w aT xs) (hx:∀ x∈xs,U.right x=true) (hz:xs.length<=100000) (ha:a<xs.length) :
  Calls Tryz.prog 41 #[v,aT, .int .i64 (a:Int)] w λe w'=>(∃ v',e = .returned v'/\ay w' v' (T.small c xs a)/\∀ g,v'.ownBlock=some g->w.heap.size<=g/\g<w'.heap.size)/\Below w.heap.size w w':=by
 obtain⟨lv,tv,ci,cb,gi,gb,rfl,h1,h2,h3,h4,h5,h6⟩:=hv;obtain⟨V,hV⟩:∃ V,V=w.alloc (.cells #[lv,tv,ci,cb,gi,gb] 28):=⟨_,rfl⟩
 have HB0:=bx (show Below w.heap.size w V by rw [hV];exact aS _ _);have HK:=bx (show ak V w.heap.size 28 #[lv,tv,ci,cb,gi,gb] by rw [hV];exact ak.new _ _ _);have bU:=bx (λW (h:Below w.heap.size w W)=>show bC W (.agg #[lv,tv,ci,cb,gi,gb]) c from⟨lv,tv,ci,cb,gi,gb,rfl,h1.below h,h2.below h,h3.below h,h4.below h,h5.below h,h6.below h⟩);have aB:=bx (λW (h:Below V.heap.size V W)=>HK.o.c6 h);have HV:=bx hV;have eF:=bx (λW (h:Below w.heap.size w W)=>Gm _ aT c xs a W (bU.o W h) hc (hl.below h) hx hz ha);have dJ:=bx (λW (h:Below w.heap.size w W)=>λ(x:Int)=>E8 lv c.lo x W (h1.below h) hs.lo hs.loA);have HL:=bx (λW (h:Below w.heap.size w W)=>hl.below h);obtain⟨la,lc,rfl⟩:=hl.slice;obtain⟨N,hN⟩:∃ N,xs.length=N:=⟨_,rfl⟩
 rw [hN] at HL eF hz ha ⊢;have HN:=bx hN;obtain⟨x,hx⟩:∃ x,xs[a]?=some x:=⟨_,List.getElem?_eq_getElem (by rw [HN.o];omega)⟩
 obtain⟨g,off,cap2,hg1,hg2,hg3,hg4,hg5⟩:=(HL.o V HB0.o).get (by rintro rfl;simp at hx);rw [HN.o] at hg1 hg2;obtain⟨rfl,rfl⟩:la=some ⟨g,off,none⟩/\lc=cap2:=by injection hg1 with h1 h2 h3;exact⟨h1,h3⟩
 have iT:=bx (λW (h:Below V.heap.size V W)=>show W.cell? ⟨g,off+a,none⟩=some (.int .i64 x) from(h.cell (p:=⟨g,off+a,none⟩) hg4).trans (hg5 a x hx));have dJ:=bx (λW (h:Below w.heap.size w W)=>dJ.o W h x);have fO:=bx (show xs.getD a 0=x by rw [List.getD_eq_getElem?_getD,hx,Option.getD_some]);have pX:=bx (show T.small c xs a=if (x==931&&T.final c xs a)=true then [962] else T.becomes c.lo x by unfold T.small;rw [fO.o]);unfold maxLen at hg3;clear h1 h2 h3 h4 h5 h6 hs hc hV hl hN hx hg1 hg5;obtain⟨k0,k1,k2,k3,k4,k5,kk⟩:=aB.o V (Below.refl _ _);have kx:=iT.o V (Below.refl _ _)
 go_enter Tryz.func41,Tryz.ntmps41
 go_upto_region 1 with(fail)
 rw [<- HV.o]
 by_cases h9:x=931
 ·have e9:(x==931)=true:=by rw [beq_iff_eq];exact h9
  have gu:=bx (show T.small c xs a=if T.final c xs a=true then [962] else T.becomes c.lo x by rw [pX.o,e9,Bool.true_and]);generalize T.final c xs a=fb at eF gu;clear h9
  cases fb with
  | true =>
   have HS:=bx (show T.small c xs a=[962] by rw [gu.o,if_pos rfl]);go_wp2_with fail;refine(eF.o _ HB0.o).mono ?_;rintro e w1 ⟨rfl,hb1⟩;have HB1:=bx (bt HB0.o hb1);have HI:=bx (DN w1 962 3);have HB2:=bx (HB1.o.trans ((aS w1 (.cells #[.int .i64 962] 3)).mono HB1.o.size));have bK:=bx HB1.o.size;clear hb1 k0 k1 k2 k3 k4 k5 kk kx;go_wp2_with fail;go_ret
   exact⟨⟨_,rfl,by rw [HS.o];exact HI.o,λq hq=>by simp [Value.ownBlock] at hq;subst hq;exact⟨bK.o,by simp⟩⟩,HB2.o⟩
  | false =>
   have HS:=bx (show T.small c xs a=T.becomes c.lo x by rw [gu.o,if_neg (by simp)]);go_wp2_with fail;refine(eF.o _ HB0.o).mono ?_;rintro e w1 ⟨rfl,hb1⟩;have HB1:=bx (bt HB0.o hb1);have Dv:=iT.o w1 hb1;clear k0 k1 k2 k3 k4 k5 kk kx;obtain⟨k0,k1,k2,k3,k4,k5,kk⟩:=aB.o w1 hb1;have kx:=Dv;clear hb1 Dv k1 k2 k3 k4 k5;have HDR:=bx (show Below w1.heap.size w1 w1.drew from eu w1 1);have aF:=bx (show Below w.heap.size w w1.drew from bt HB1.o HDR.o);have au:=bx (show w1.drew.cell? ⟨w.heap.size,0,none⟩=some lv/\w1.drew.cell? ⟨g,off+a,none⟩=some (.int .i64 x) from⟨k0,kx⟩);have jU:=bx (dJ.o w1.drew aF.o);go_wp2_with fail;refine dO 6 (λW=>W.cell? ⟨w.heap.size,0,none⟩=some lv/\W.cell? ⟨g,off+a,none⟩=some (.int .i64 x)) (by kernel_rfl) ?_;generalize w1.drew=WR at HDR aF au jU ⊢;clear k0 kx kk;refine kS 0 ?_ rfl au.o ?_ ?_;rotate_left
   ·rintro w ⟨q1,q2⟩;go_simp;try with_reducible rfl
   refine kS 1 ?_ rfl au.o ?_ ?_;rotate_left
   ·rintro w ⟨q1,q2⟩;go_simp;try with_reducible rfl
   refine kS 2 ?_ rfl au.o ?_ ?_;rotate_left
   ·rintro w ⟨q1,q2⟩;go_simp;try with_reducible rfl
   refine kS 3 ?_ rfl au.o ?_ ?_;rotate_left
   ·rintro w ⟨q1,q2⟩;go_simp;try with_reducible rfl
   refine kS 4 ?_ rfl au.o ?_ ?_;rotate_left
   ·rintro w ⟨q1,q2⟩;go_simp;try with_reducible rfl
   refine kS 5 ?_ rfl au.o ?_ ?_;rotate_left
   ·rintro w ⟨q1,q2⟩;go_simp;try with_reducible rfl
   refine kP 6 rfl λKK aj=>?_
   go_simp;refine jU.o.mono ?_;rintro e w7 ⟨⟨v7,rfl,hv7,rX⟩,hb7⟩;have aH:=bx (bt aF.o hb7);have oG:=bx hv7;have pW:=bx rX;have bK:=bx aF.o.size;clear hv7 rX hb7;refine aj.out _ _ (λh=>by cases h) ?_;clear aj KK;refine kP 7 rfl λKK aj=>?_
   go_simp;refine aj.out _ _ (λh=>by cases h) ?_;clear aj KK;refine kD ?_ _;go_wp2_with fail;go_ret
   exact⟨⟨_,rfl,by rw [HS.o];exact oG.o,λq hq=>⟨Nat.le_trans bK.o (pW.o q hq).1,(pW.o q hq).2⟩⟩,aH.o⟩
 ·have e9:(x==931)=false:=by rw [beq_eq_false_iff_ne];exact h9
  have HS:=bx (show T.small c xs a=T.becomes c.lo x by rw [pX.o,e9,Bool.false_and,if_neg (by simp)]);clear h9 k1 k2 k3 k4 k5;have HDR:=bx (show Below V.heap.size V V.drew from eu V 1);have aF:=bx (show Below w.heap.size w V.drew from bt HB0.o HDR.o);have au:=bx (show V.drew.cell? ⟨w.heap.size,0,none⟩=some lv/\V.drew.cell? ⟨g,off+a,none⟩=some (.int .i64 x) from⟨k0,kx⟩);have jU:=bx (dJ.o V.drew aF.o);go_wp2_with fail;refine dO 6 (λW=>W.cell? ⟨w.heap.size,0,none⟩=some lv/\W.cell? ⟨g,off+a,none⟩=some (.int .i64 x)) (by kernel_rfl) ?_;generalize V.drew=WR at HDR aF au jU ⊢;clear k0 kx kk;refine kS 0 ?_ rfl au.o ?_ ?_;rotate_left
  ·rintro w ⟨q1,q2⟩;go_simp;try with_reducible rfl
  refine kS 1 ?_ rfl au.o ?_ ?_;rotate_left
  ·rintro w ⟨q1,q2⟩;go_simp;try with_reducible rfl
  refine kS 2 ?_ rfl au.o ?_ ?_;rotate_left
  ·rintro w ⟨q1,q2⟩;go_simp;try with_reducible rfl
  refine kS 3 ?_ rfl au.o ?_ ?_;rotate_left
  ·rintro w ⟨q1,q2⟩;go_simp;try with_reducible rfl
  refine kS 4 ?_ rfl au.o ?_ ?_;rotate_left
  ·rintro w ⟨q1,q2⟩;go_simp;try with_reducible rfl
  refine kS 5 ?_ rfl au.o ?_ ?_;rotate_left
  ·rintro w ⟨q1,q2⟩;go_simp;try with_reducible rfl
  refine kP 6 rfl λKK aj=>?_
  go_simp;refine jU.o.mono ?_;rintro e w7 ⟨⟨v7,rfl,hv7,rX⟩,hb7⟩;have aH:=bx (bt aF.o hb7);have oG:=bx hv7;have pW:=bx rX;have bK:=bx aF.o.size;clear hv7 rX hb7;refine aj.out _ _ (λh=>by cases h) ?_;clear aj KK;refine kP 7 rfl λKK aj=>?_
  go_simp;refine aj.out _ _ (λh=>by cases h) ?_;clear aj KK;refine kD ?_ _;go_wp2_with fail;go_ret
  exact⟨⟨_,rfl,by rw [HS.o];exact oG.o,λq hq=>⟨Nat.le_trans bK.o (pW.o q hq).1,(pW.o q hq).2⟩⟩,aH.o⟩
end
end Go.Proofs.YtlmdjifffmofeaaGreatDoor
