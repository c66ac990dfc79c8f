/- Texts of this claim. -/
import Derived.Test.YtdenoeakcflnmaaGreatDoorH18
import Derived.Test.YtdenoeakcflnmaaGreatDoorHXGaugeWith1

set_option maxRecDepth 100000
set_option maxHeartbeats 8000000
namespace Go.Proofs.YtdenoeakcflnmaaGreatDoor
section
open Go.Sort
namespace N
theorem Jh (l:List Item) (cs:List Int) (i a:Nat):nexts l cs i a=nx cs (l.getD i (0,0)) a:=rfl
end N
theorem Ll {l:List N.Item} {cs:List Int} (hh:∀ i,N.dn l i=0\/N.dn l i=1\/N.dn l i=2) (a:Nat):∀ k,k<=l.length->∀ b:Int,b∈lZ cs l a k↔∃ n:Nat,b=n/\N.Ends l cs k a n
 | 0,_,b=>by
  rw [Gv,List.mem_singleton];exact⟨λh=>⟨a,h,rfl⟩,λ⟨n,h,e⟩=>by rw [h,show n=a from e]⟩
 | k+1,hk,b=>by
  have ih:=Ll (cs:=cs) hh a k (by omega);have hx:l[k]?=some (l.getD k (0,0)):=by
   rw [List.getD_eq_getElem?_getD,List.getElem?_eq_getElem (by omega)]
   rfl
  rw [Iy cs l a k _ hx,Sr,List.mem_flatMap]
  constructor
  ·rintro⟨c,hc,hb⟩;obtain⟨n,rfl,he⟩:=(ih c).1 hc;obtain⟨m,hm,rfl⟩:=List.mem_map.1 hb;rw [Int.toNat_natCast,<- N.Jh] at hm;exact⟨m,rfl,n,he,(N.Ig hh k n m).1 hm⟩
  ·rintro⟨m,rfl,n,he,hf⟩;refine⟨n,(ih n).2 ⟨n,rfl,he⟩,List.mem_map.2 ⟨m,?_,rfl⟩⟩;rw [Int.toNat_natCast,<- N.Jh];exact(N.Ig hh k n m).2 hf
end
section
open Go.RowKit
theorem DI {l:List N.Item} (h:fQ l=true) (i:Nat):N.dn l i=0\/N.dn l i=1\/N.dn l i=2:=by
 unfold N.dn
 rcases Nat.lt_or_ge i l.length with hi | hi
 ·have:=JM h l[i] (List.getElem_mem hi);rw [List.getD_eq_getElem?_getD,List.getElem?_eq_getElem hi];exact this
 ·rw [List.getD_eq_getElem?_getD,List.getElem?_eq_none hi];exact .inl rfl
end
section
open Go.RowKit
attribute [local go_sem] Oper.semAt_some
theorem o8 {α:Type} {p:α->Bool} {l:List α} {k:Nat} {x:α} (hx:l[k]?=some x) (h:p x=false):l.all p=false:=by
 rw [Bool.eq_false_iff,ne_eq,List.all_eq_true];intro h1;have:=h1 x (List.mem_of_getElem? hx);rw [h] at this
 cases this
theorem wJ {α:Type} {p:α->Bool} {l:List α} (h:∀ (j:Nat) (x:α),j<l.length->l[j]?=some x->p x=true):l.all p=true:=by
 rw [List.all_eq_true];intro x hx;obtain⟨i,hi,e⟩:=List.getElem_of_mem hx;exact h i x hi (by rw [List.getElem?_eq_getElem hi,e])
theorem upto_succ {α:Type} {p:α->Prop} {l:List α} {k:Nat} {x:α} (h:∀ (j:Nat) (y:α),j<k->l[j]?=some y->p y) (hx:l[k]?=some x) (hp:p x):∀ (j:Nat) (y:α),j<k+1->l[j]?=some y->p y:=λj y hj hy=>by
 rcases Nat.lt_or_ge j k with h1 | h1
 ·exact h j y h1 hy
 ·obtain rfl:j=k:=by omega
  rw [hx] at hy
  cases hy;exact hp
theorem J7 (v:Value) (t:F.Trie) (w:World) (hv:yN w v t) (h1:t.1.length<=100000) (h2:t.2.length<=100000) :
  Calls Tryz.prog 103 #[v] w λe w'=>e = .returned (.bool (F.iw t))/\Below w.heap.size w w':=by
 rw [F.Jo];obtain⟨xs,bl⟩:=t;obtain⟨iv,bv,rfl,hiv,hbv⟩:=hv;simp only at hiv hbv h1 h2 ⊢;obtain⟨ia,ic,rfl⟩:=hiv.slice;obtain⟨ba,bc,rfl⟩:=hbv.slice;obtain⟨N,hN⟩:∃ N,xs.length=N:=⟨_,rfl⟩
 obtain⟨M,hM⟩:∃ M,bl.length=M:=⟨_,rfl⟩
 rw [hN] at hiv h1 ⊢;rw [hM] at hbv h2 ⊢;have HN:=bx hN;have HM:=bx hM;obtain⟨V,hV⟩:∃ V,V=w.alloc (.cells #[.slice ia N ic, .slice ba M bc] 25):=⟨_,rfl⟩
 have bI:=bx (show Below w.heap.size w V by rw [hV];exact aO _ _);have HK:=bx (show aj V w.heap.size 25 #[.slice ia N ic, .slice ba M bc] by rw [hV];exact aj.new _ _ _);have HI:=bx (hiv.below bI.o);have HB:=bx (hbv.below bI.o);have HV:=bx hV;clear hiv hbv hN hM hV;have ay:=bx (λW (h:Below V.heap.size V W)=>HK.o.c2 h)
 go_enter Tryz.func103,Tryz.ntmps103
 go_upto_region 1 with(fail)
 rw [<- HV.o];obtain⟨Q,hQ⟩:∃ Q,w.heap.size=Q:=⟨_,rfl⟩
 rw [hQ] at ay ⊢;have HQ:=bx hQ;clear HV hQ
 by_cases Ac:N=4352
 rotate_left
 ·have e0:decide (N=4352)=false:=decide_eq_false Ac;have e1:((N:Int) != 4352)=true:=by rw [bne_iff_ne];omega
  obtain⟨c0,c1,cl⟩:=ay.o V (Below.refl _ _);have HE:=bx e0;clear Ac e0;go_wp2_with fail;go_ret
  exact⟨aI (by rw [HE.o];rfl),bI.o⟩
 have e0:decide (N=4352)=true:=decide_eq_true Ac;have e1:((N:Int) != 4352)=false:=by rw [bne_eq_false_iff_eq];omega
 have HE:=bx e0;clear Ac e0;obtain⟨c0,c1,cl⟩:=ay.o V (Below.refl _ _);go_wp2_with fail;clear c0 c1 cl e1
 go_loopw [3] (λi wr=>∃ k:Nat,k<=N/\i = .int .i64 k/\Box (∀ (j:Nat) (y:Int),j<k->xs[j]?=some y->(decide (0<=y)&&decide (y<(M:Int)))=true)/\Box (Below V.heap.size V wr)) (λi _=>N-(intOf i).toNat)
 case atStart=>exact⟨0,by omega,rfl,⟨λj y h=>by omega⟩,⟨Below.refl _ _⟩⟩
 case round =>
  obtain⟨k,hk,rfl,hok,hb⟩:=hrel;obtain⟨c0,c1,cl⟩:=ay.o wr hb.o;have HDR:=bx (λm=>hb.o.trans ((jW wr m).mono hb.o.size));have aJ:=bx (λm=>bI.o.trans ((HDR.o m).mono bI.o.size))
  by_cases hlt:k<N
  ·obtain⟨y,hy⟩:∃ y,xs[k]?=some y:=⟨_,List.getElem?_eq_getElem (by rw [HN.o];exact hlt)⟩
   obtain⟨g,off,cap2,hg1,hg2,hg3,hg4,hg5⟩:=(HI.o.below hb.o).get (by rintro rfl;simp at hy);rw [HN.o] at hg1 hg2;obtain⟨rfl,rfl⟩:ia=some ⟨g,off,none⟩/\ic=cap2:=by injection hg1 with h1 h2 h3;exact⟨h1,h3⟩
   have hck:=hg5 k y hy;have HY:=bx hy;unfold maxLen at hg3;clear hy hg1 hg5
   by_cases hlo:0<=y
   ·have e1:decide (y<0)=false:=decide_eq_false (by omega)
    by_cases hhi:y<(M:Int)
    ·have e2:decide ((M:Int)<=y)=false:=decide_eq_false (by omega);have qy:=bx (upto_succ hok.o HY.o (show (decide (0<=y)&&decide (y<(M:Int)))=true by rw [decide_eq_true hlo,decide_eq_true hhi];rfl));clear hlo hhi;go_wp2_with fail
     go_quiet (fail)
     go_wp2_with fail
     go_roundw
     case rel=>exact⟨k+1,by omega,by go_num,qy,⟨HDR.o _⟩⟩
     case measure=>simp [intOf];omega
    ·have e2:decide ((M:Int)<=y)=true:=decide_eq_true (by omega);have HF:=bx (show xs.all (λn=>decide (0<=n)&&decide (n<(M:Int)))=false from o8 HY.o (by rw [decide_eq_false hhi,Bool.and_false]));clear hlo hhi;go_wp2_with fail
     go_quiet (fail)
     go_wp2_with fail;go_ret
     exact⟨aI (by rw [HE.o,HF.o];rfl),aJ.o _⟩
   ·have e1:decide (y<0)=true:=decide_eq_true (by omega);have HF:=bx (show xs.all (λn=>decide (0<=n)&&decide (n<(M:Int)))=false from o8 HY.o (by rw [decide_eq_false hlo,Bool.false_and]));clear hlo;go_wp2_with fail
    go_quiet (fail)
    go_wp2_with fail;go_ret
    exact⟨aI (by rw [HE.o,HF.o];rfl),aJ.o _⟩
  ·obtain rfl:k=N:=by omega
   have HA:=bx (show xs.all (λn=>decide (0<=n)&&decide (n<(M:Int)))=true from wJ (λj x hj hx=>hok.o j x (by rw [<- HN.o];exact hj) hx));go_wp2_with fail
   go_loopw [4] (λi wx=>∃ m:Nat,m<=M/\i = .int .i64 m/\Box (∀ (j:Nat) (y:List Int),j<m->bl[j]?=some y->F.gX y=true)/\Box (Below V.heap.size V wx)) (λi _=>M-(intOf i).toNat)
   case atStart=>exact⟨0,by omega,rfl,⟨λj y h=>by omega⟩,hb⟩
   case round =>
    obtain⟨m,hm,rfl,fU,hbx⟩:=hrel;obtain⟨ws,rfl⟩:∃ W,W=wr:=⟨_,rfl⟩
    obtain⟨c0,c1,cl⟩:=ay.o ws hbx.o;have aJ:=bx (bt bI.o hbx.o)
    by_cases hml:m<M
    ·obtain⟨r,hr⟩:∃ r,bl[m]?=some r:=⟨_,List.getElem?_eq_getElem (by rw [HM.o];exact hml)⟩
     obtain⟨g,off,cap2,hg1,hg2,hg3,hg4,hg5⟩:=(HB.o.below hbx.o).get (by rintro rfl;simp at hr);rw [HM.o] at hg1 hg2;obtain⟨rfl,rfl⟩:ba=some ⟨g,off,none⟩/\bc=cap2:=by injection hg1 with h1 h2 h3;exact⟨h1,h3⟩
     obtain⟨x,hck,hxi⟩:=hg5 m r hr;obtain⟨xa,xc,rfl⟩:=hxi.slice;have HX:=bx hxi;have HR:=bx hr;obtain⟨L,hL⟩:∃ L,r.length=L:=⟨_,rfl⟩
     rw [hL] at hck HX;have HL:=bx hL;unfold maxLen at hg3;clear hr hg1 hg5 hxi hL
     by_cases h256:L=256
     ·have e1:((L:Int) != 256)=false:=by rw [bne_eq_false_iff_eq];omega
      have HL2:=bx h256;obtain⟨g2,off2,cap3,k1,k2,k3,k4,k5⟩:=HX.o.get (by rintro rfl;have h1:=HL.o;have h2:=HL2.o;simp at h1;omega);rw [HL.o] at k1 k2;obtain⟨rfl,rfl⟩:xa=some ⟨g2,off2,none⟩/\xc=cap3:=by injection k1 with h1 h2 h3;exact⟨h1,h3⟩
      have yH:=bx k5;unfold maxLen at k3;have afY:256<=L:=by omega
      clear h256 k1 k5;go_wp2_with fail
      go_loopw [5] (λi wx=>∃ q:Nat,q<=256/\i = .int .i64 q/\Box (∀ (j:Nat) (y:Int),j<q->r[j]?=some y->(decide (0<=y)&&decide (y<=31))=true)/\wx=ws) (λi _=>256-(intOf i).toNat)
      case atStart=>exact⟨0,by omega,rfl,⟨λj y h=>by omega⟩,rfl⟩
      case round =>
       obtain⟨q,hq,rfl,hqo,rfl⟩:=hrel
       by_cases tY:q<256
       ·obtain⟨y,hy⟩:∃ y,r[q]?=some y:=⟨_,List.getElem?_eq_getElem (by rw [HL.o,HL2.o];exact tY)⟩
        have hcy:=yH.o q y hy;have HY:=bx hy;clear hy
        by_cases hlo:0<=y
        ·have e2:decide (y<0)=false:=decide_eq_false (by omega)
         by_cases hhi:y<=31
         ·have e3:decide (31<y)=false:=decide_eq_false (by omega);have qy:=bx (upto_succ hqo.o HY.o (show (decide (0<=y)&&decide (y<=31))=true by rw [decide_eq_true hlo,decide_eq_true hhi];rfl));clear hlo hhi;go_wp2_with fail
          go_roundw
          case rel=>exact⟨q+1,by omega,by go_num,qy,trivial⟩
          case measure=>simp [intOf];omega
         ·have e3:decide (31<y)=true:=decide_eq_true (by omega);have HF:=bx (show bl.all F.gX=false from o8 HR.o (by unfold F.gX;rw [o8 HY.o (by rw [decide_eq_false hhi,Bool.and_false]),Bool.and_false]));clear hlo hhi;go_wp2_with fail;go_ret
          exact⟨aI (by rw [HF.o,Bool.and_false]),aJ.o⟩
        ·have e2:decide (y<0)=true:=decide_eq_true (by omega);have HF:=bx (show bl.all F.gX=false from o8 HR.o (by unfold F.gX;rw [o8 HY.o (by rw [decide_eq_false hlo,Bool.false_and]),Bool.and_false]));clear hlo;go_wp2_with fail;go_ret
         exact⟨aI (by rw [HF.o,Bool.and_false]),aJ.o⟩
       ·obtain rfl:q=256:=by omega
        have mV:=bx (upto_succ fU.o HR.o (show F.gX r=true by
         unfold F.gX;rw [decide_eq_true (by rw [HL.o,HL2.o]),Bool.true_and];exact wJ (λj x hj hx=>hqo.o j x (by rw [HL.o,HL2.o] at hj;exact hj) hx)))
        go_wp2_with fail
        go_roundw
        case rel=>exact⟨m+1,by omega,by go_num,mV,hbx⟩
        case measure=>simp [intOf];omega
     ·have e1:((L:Int) != 256)=true:=by rw [bne_iff_ne];omega
      have HF:=bx (show bl.all F.gX=false from o8 HR.o (by unfold F.gX;rw [decide_eq_false (by rw [HL.o];exact h256),Bool.false_and]));clear h256;go_wp2_with fail;go_ret
      exact⟨aI (by rw [HF.o,Bool.and_false]),aJ.o⟩
    ·obtain rfl:m=M:=by omega
     have HAB:=bx (show bl.all F.gX=true from wJ (λj x hj hx=>fU.o j x (by rw [<- HM.o];exact hj) hx));go_wp2_with fail;go_ret
     exact⟨aI (by rw [HE.o,HA.o,HAB.o];rfl),aJ.o⟩
end
namespace C
open Go.Proofs.YtdenoeakcflnmaaGreatDoor
theorem SX (x:Int) (t:List Int) (k:Nat):dA (x::t) (k+1)=(U.enc x).length+dA t k:=by
 unfold dA;rw [List.take_succ_cons];unfold U.textOf;rw [List.flatMap_cons,List.length_append]
theorem MF:∀ xs:List Int,(∀ x∈xs,U.right x=true)->M.cuts (M.places (U.textOf xs))=(List.range (xs.length+1)).map (dA xs)
 | [],_=>by decide
 | x::t,h=>by
  have ih:=MF t (λy hy=>h y (List.mem_cons_of_mem _ hy));have e:U.textOf (x::t)=U.enc x++U.textOf t:=by unfold U.textOf;rw [List.flatMap_cons]
  have hu:M.unit (U.textOf (x::t))=((U.enc x).length,true):=by rw [e];exact M.Gs (U.Oa x (h x (List.mem_cons_self ..)) _)
  have hd:(U.textOf (x::t)).drop (U.enc x).length=U.textOf t:=by rw [e,List.drop_append,List.drop_length,Nat.sub_self];rfl
  have hn:U.textOf (x::t)≠[]:=by
   intro h0;have:=O8 (l:=x::t) (by simp);rw [h0] at this;simp at this
  rw [M.Wi hn,hu];simp only;rw [hd,ih,List.length_cons,List.range_succ_eq_map (n:=t.length+1),List.map_cons,List.map_map,List.map_map,QO]
  congr 1
  refine List.map_congr_left (λk _=>?_);simp only [Function.comp];rw [Nat.succ_eq_add_one,SX];omega
end C
section
open Go.RowKit
attribute [local go_sem] Oper.semAt_some
theorem zW {n:Nat} {W0 w:World} {ov:Value} {l:List Int} (h:Sep (fK n W0 ov l) w):Below n W0 w:=Sep.bel (ps:=fK n W0 ov l) h (by simp [fK])
theorem DW {n:Nat} {W0 w:World} {ov:Value} {l m r:List Int} {k:Nat} (h:Sep ((fK n W0 ov l).set 0 (Pc.row n 3 1 ov k (l.map (Value.int .i64)++m.map (Value.int .i64)))) w) (hk:k=l.length+m.length) (hr:r=l++m):Sep (fK n W0 ov r) w:=by
 subst hr hk;rw [<- List.map_append,<- List.length_append] at h;exact h
end
section
open Go.RowKit
namespace N
def dw (x:Item) (cs:List Int) (F:List Bool):Nat->Bool×Bool
 | 0=>(false,false)
 | i+1 =>
  let fo:=(dw x cs F i).1||(F.getD i false&&decide (x.2≠0))
  if iC x.1 (cs.getD i (-1))=true then (if x.2=0 then (F.getD i false,false) else if x.2=1 then (fo,false) else ((dw x cs F i).2,fo)) else (false,false)
def fD (x:Item) (cs:List Int) (F:List Bool) (i:Nat):Bool:=(dw x cs F i).1||(F.getD i false&&decide (x.2≠0))
def nK (x:Item) (cs:List Int) (F:List Bool):List Bool:=(List.range (cs.length+1)).map (fD x cs F)
def jw (cs:List Int):List Item->List Bool->List Bool
 | [],F=>F
 | x::t,F=>jw cs t (nK x cs F)
theorem zu (x:Item) (cs:List Int) (F:List Bool):(nK x cs F).length=cs.length+1:=by unfold nK;simp
theorem Um {x:Item} {cs:List Int} {F:List Bool} {i:Nat} (h:i<=cs.length):(nK x cs F).getD i false=fD x cs F i:=by
 unfold nK;rw [List.getD_eq_getElem?_getD,List.getElem?_map,List.getElem?_range (by omega)]
 rfl
theorem Dv {cs:List Int}:∀ {l:List Item} {F:List Bool},F.length=cs.length+1->(jw cs l F).length=cs.length+1
 | [],_,h=>h
 | x::t,F,_=>by
  show (jw cs t (nK x cs F)).length=_
  exact Dv (zu x cs F)
theorem Ko (cs:List Int) (y:Item):∀ (l:List Item) (F:List Bool),jw cs (l++[y]) F=nK y cs (jw cs l F)
 | [],_=>rfl
 | _::t,_=>Ko cs y t _
theorem P6 {l:List Item} {cs:List Int} {k i:Nat} (hi:i<cs.length):wR l cs k i↔iC (l.getD k (0,0)).1 (cs.getD i (-1))=true:=by
 unfold wR;rw [List.getD_eq_getElem?_getD (l:=cs),List.getElem?_eq_getElem hi]
 constructor
 ·rintro⟨c,hc,h⟩;injection hc with hc;rw [hc];exact h
 ·intro h;exact⟨_,rfl,h⟩
theorem Ih {l:List Item} {cs:List Int} {k:Nat} {F:List Bool} (hh:dn l k=0\/dn l k=1\/dn l k=2) :
  ∀ i,i<=cs.length->((dw (l.getD k (0,0)) cs F i).1=true↔∃ b,b<i/\F.getD b false=true/\full l cs k b i)/\((dw (l.getD k (0,0)) cs F i).2=true↔dn l k=2/\∃ b,b<i/\F.getD b false=true/\xM l cs k b i/\(i-b) % 2=1)
 | 0,_=>by
  refine⟨⟨λh=>by simp [dw] at h,λ⟨b,h,_⟩=>by omega⟩,⟨λh=>by simp [dw] at h,λ⟨_,b,h,_⟩=>by omega⟩⟩
 | i+1,hi=>by
  obtain⟨ih1,ih2⟩:=Ih (cs:=cs) (F:=F) hh i (by omega);have hok:=P6 (l:=l) (cs:=cs) (k:=k) (show i<cs.length by omega);have hfo:fD (l.getD k (0,0)) cs F i=true↔∃ b,b<=i/\F.getD b false=true/\full l cs k b i:=by
   unfold fD;rw [Bool.or_eq_true,ih1,Bool.and_eq_true,decide_eq_true_eq]
   constructor
   ·rintro(⟨b,h1,h2,h3⟩ | ⟨h1,h2⟩)
    ·exact⟨b,by omega,h2,h3⟩
    ·exact⟨i,Nat.le_refl _,h1,Nat.le_refl _,λj h3 h4=>by omega,λh=>absurd h h2,λ_=>by simp⟩
   ·rintro⟨b,h1,h2,h3⟩
    rcases Nat.eq_or_lt_of_le h1 with e | e
    ·subst e;refine .inr ⟨h2,λh0=>?_⟩;have:=h3.2.2.1 h0;omega
    ·exact .inl ⟨b,e,h2,h3⟩
  have hon:∀ b,b<=i->(xM l cs k b (i+1)↔xM l cs k b i/\wR l cs k i):=λb hb =>
   ⟨λh=>⟨λj h1 h2=>h j h1 (by omega),h i hb (by omega)⟩,λ⟨h,h'⟩ j h1 h2=>by
    rcases Nat.eq_or_lt_of_le (show j<=i by omega) with e | e
    ·rw [e];exact h'
    ·exact h j h1 e⟩
  have agL:(l.getD k (0,0)).2=dn l k:=rfl;have e:dw (l.getD k (0,0)) cs F (i+1)=if iC (l.getD k (0,0)).1 (cs.getD i (-1))=true then (if dn l k=0 then (F.getD i false,false) else if dn l k=1 then (fD (l.getD k (0,0)) cs F i,false) else ((dw (l.getD k (0,0)) cs F i).2,fD (l.getD k (0,0)) cs F i)) else (false,false):=rfl
  rw [e]
  by_cases hc:iC (l.getD k (0,0)).1 (cs.getD i (-1))=true
  rotate_left
  ·rw [if_neg hc];have hno:¬ wR l cs k i:=λh=>hc (hok.1 h)
   refine⟨⟨λh=>absurd h Bool.false_ne_true,λ⟨b,h1,_,h3⟩=>absurd (h3.2.1 i (by omega) (by omega)) hno⟩,⟨λh=>absurd h Bool.false_ne_true,λ⟨_,b,h1,_,h3,_⟩=>absurd (h3 i (by omega) (by omega)) hno⟩⟩
  rw [if_pos hc];have hyes:=hok.2 hc
  rcases hh with h0 | h1 | h2
  ·rw [if_pos h0];refine⟨⟨λh=>⟨i,by omega,h,by omega,λj h3 h4=>?_,λ_=>rfl,λh=>by omega⟩,λ⟨b,h3,h4,h5⟩=>?_⟩,⟨λh=>absurd h Bool.false_ne_true,λ⟨h,_⟩=>by omega⟩⟩
   ·obtain rfl:j=i:=by omega
    exact hyes
   ·have:=h5.2.2.1 h0;obtain rfl:b=i:=by omega
    exact h4
  ·rw [if_neg (by omega),if_pos h1];refine⟨?_,⟨λh=>absurd h Bool.false_ne_true,λ⟨h,_⟩=>by omega⟩⟩;rw [hfo]
   constructor
   ·rintro⟨b,h3,h4,h5⟩;exact⟨b,by omega,h4,by omega,(hon b h3).2 ⟨h5.2.1,hyes⟩,λh=>by omega,λh=>by omega⟩
   ·rintro⟨b,h3,h4,h5⟩;exact⟨b,by omega,h4,by omega,((hon b (by omega)).1 h5.2.1).1,λh=>by omega,λh=>by omega⟩
  ·rw [if_neg (by omega),if_neg (by omega)];refine⟨?_,?_⟩
   ·rw [ih2]
    constructor
    ·rintro⟨-,b,h3,h4,h5,h6⟩;exact⟨b,by omega,h4,by omega,(hon b (by omega)).2 ⟨h5,hyes⟩,λh=>by omega,λ_=>by omega⟩
    ·rintro⟨b,h3,h4,h5⟩;have hp:=h5.2.2.2 h2;refine⟨h2,b,by omega,h4,((hon b (by omega)).1 h5.2.1).1,by omega⟩
   ·rw [hfo]
    constructor
    ·rintro⟨b,h3,h4,h5⟩;have hp:=h5.2.2.2 h2;exact⟨h2,b,by omega,h4,(hon b h3).2 ⟨h5.2.1,hyes⟩,by omega⟩
    ·rintro⟨-,b,h3,h4,h5,h6⟩;exact⟨b,by omega,h4,by omega,((hon b (by omega)).1 h5).1,λh=>by omega,λ_=>by omega⟩
theorem QE {l:List Item} {cs:List Int} {k:Nat} {F:List Bool} (hh:dn l k=0\/dn l k=1\/dn l k=2) {i:Nat} (hi:i<=cs.length) :
  fD (l.getD k (0,0)) cs F i=true↔∃ b,b<=i/\F.getD b false=true/\full l cs k b i:=by
 unfold fD;rw [Bool.or_eq_true,(Ih (F:=F) hh i hi).1,Bool.and_eq_true,decide_eq_true_eq]
 constructor
 ·rintro(⟨b,h1,h2,h3⟩ | ⟨h1,h2⟩)
  ·exact⟨b,by omega,h2,h3⟩
  ·exact⟨i,Nat.le_refl _,h1,Nat.le_refl _,λj h3 h4=>by omega,λh=>absurd h h2,λ_=>by simp⟩
 ·rintro⟨b,h1,h2,h3⟩
  rcases Nat.eq_or_lt_of_le h1 with e | e
  ·subst e;refine .inr ⟨h2,λh0=>?_⟩;have:=h3.2.2.1 h0;omega
  ·exact .inl ⟨b,e,h2,h3⟩
def jR (n p:Nat):List Bool:=(List.range n).map λi=>i==p
theorem xU (n p:Nat):(jR n p).length=n:=by unfold jR;simp
theorem Qs {n p i:Nat} (h:i<n):(jR n p).getD i false=(i==p):=by
 unfold jR;rw [List.getD_eq_getElem?_getD,List.getElem?_map,List.getElem?_range h]
 rfl
theorem Df {l:List Item} {cs:List Int} (hh:∀ i,dn l i=0\/dn l i=1\/dn l i=2) {p:Nat} (hp:p<=cs.length) :
  ∀ k,k<=l.length->∀ i,i<=cs.length->((jw cs (l.take k) (jR (cs.length+1) p)).getD i false=true↔Ends l cs k p i)
 | 0,_,i,hi=>by
  rw [List.take_zero,jw,Qs (by omega),beq_iff_eq];exact Iff.rfl
 | k+1,hk,i,hi=>by
  have ih:=Df (cs:=cs) hh hp k (by omega);have hx:l[k]?=some (l.getD k (0,0)):=by
   rw [List.getD_eq_getElem?_getD,List.getElem?_eq_getElem (by omega)]
   rfl
  have ht:l.take (k+1)=l.take k++[l.getD k (0,0)]:=by
   rw [List.take_add_one,hx]
   rfl
  rw [ht,Ko,Um hi,QE (hh k) hi]
  constructor
  ·rintro⟨b,h1,h2,h3⟩;exact⟨b,(ih b (by omega)).1 h2,h3⟩
  ·rintro⟨b,h1,h2⟩;exact⟨b,h2.1,(ih b (by have:=h2.1;omega)).2 h1,h2⟩
theorem Ends.top {l:List Item} {cs:List Int}:∀ {i f a:Nat},f<=cs.length->Ends l cs i f a->a<=cs.length
 | 0,f,a,hf,h=>by unfold Ends at h;omega
 | i+1,f,a,hf,h=>by
  obtain⟨b,h1,h2⟩:=h;have hb:=h1.top hf
  rcases Nat.eq_or_lt_of_le h2.1 with e | e
  ·omega
  ·obtain⟨c,hc,-⟩:=h2.2.1 (a-1) (by omega) (by omega);have:=(List.getElem?_eq_some_iff.1 hc).1;omega
end N
def kJ (st:Bool) (l:List N.Item) (cs:List Int) (p:Int):Bool :=
 fQ l&&decide (0<=p)&&decide (p<=cs.length)&&!(st&&decide (0<p))&&(N.jw cs l (N.jR (cs.length+1) p.toNat)).any id
theorem QV (st:Bool) (l:List N.Item) (cs:List Int) (p:Int):kJ st l cs p=kC st l cs p:=by
 unfold kJ kC
 cases hr:fQ l with
 | false=>rfl
 | true =>
  by_cases h0:0<=p/\p<=cs.length
  rotate_left
  ·by_cases h1:0<=p
   ·rw [decide_eq_false (show ¬ p<=cs.length by omega)];simp
   ·rw [decide_eq_false h1];simp
  obtain⟨n,rfl⟩:=Int.eq_ofNat_of_zero_le h0.1;have hn:n<=cs.length:=by omega
  congr 1
  rw [Int.toNat_natCast,Bool.eq_iff_iff,decide_eq_true_eq,List.any_eq_true];have hi:=N.Df (l:=l) (cs:=cs) (DI hr) hn l.length (Nat.le_refl _);have ho:=Ll (l:=l) (cs:=cs) (DI hr) n l.length (Nat.le_refl _);rw [List.take_length] at hi;have hlen:(N.jw cs l (N.jR (cs.length+1) n)).length=cs.length+1:=N.Dv (N.xU _ _)
  constructor
  ·rintro⟨b,hb,hb2⟩;obtain⟨i,hi1,hi2⟩:=List.getElem_of_mem hb;have he:=(hi i (by omega)).1 (by rw [List.getD_eq_getElem?_getD,List.getElem?_eq_getElem hi1,hi2];exact hb2);have hm:=(ho (i:Int)).2 ⟨i,rfl,he⟩;exact List.length_pos_of_mem hm
  ·intro hpos;obtain⟨b,hb⟩:=List.exists_mem_of_length_pos hpos;obtain⟨i,rfl,he⟩:=(ho b).1 hb;have htop:=he.top hn;have hg:=(hi i htop).2 he;refine⟨_,List.getElem_mem (l:=N.jw cs l (N.jR (cs.length+1) n)) (n:=i) (by omega),?_⟩;rw [List.getD_eq_getElem?_getD,List.getElem?_eq_getElem (by omega)] at hg;exact hg
end
section
open Go.RowKit Go.Shelf
attribute [local go_sem] Oper.semAt_some
def dU (n:Nat) (f:Nat->Bool):Array Value:=((List.range n).map λj=>Value.bool (f j)).toArray
theorem uO {n k:Nat} (f:Nat->Bool) (h:k<n):(dU n f)[k]?=some (.bool (f k)):=by
 unfold dU;rw [List.getElem?_toArray,List.getElem?_map,List.getElem?_range h]
 rfl
theorem rU {n:Nat} {f g:Nat->Bool} (h:∀ j,j<n->f j=g j):dU n f=dU n g:=by
 unfold dU;rw [List.map_congr_left (g:=λj=>Value.bool (g j))];intro j hj;rw [h j (List.mem_range.1 hj)]
theorem yX (n k:Nat) (f:Nat->Bool) (b:Bool):(dU n f).setIfInBounds k (.bool b)=dU n (λj=>if j=k then b else f j):=by
 unfold dU;rw [List.setIfInBounds_toArray]
 congr 1
 apply List.ext_getElem?
 intro j;rw [List.getElem?_set,List.getElem?_map,List.getElem?_map]
 rcases Nat.lt_or_ge j n with hj | hj
 ·rw [List.getElem?_range hj]
  by_cases e:k=j
  ·subst e;simp;omega
  ·rw [if_neg e];simp [Ne.symm e]
 ·rw [List.getElem?_eq_none (by simpa using hj)]
  by_cases e:k=j
  ·subst e;simp;omega
  ·rw [if_neg e];rfl
theorem Sj (n:Nat):dU n (λ_=>false)=Array.replicate n (.bool false):=by
 unfold dU
 apply Array.ext'
 rw [Array.toList_replicate]
 apply List.ext_getElem?
 intro j;rw [List.getElem?_map]
 rcases Nat.lt_or_ge j n with hj | hj
 ·rw [List.getElem?_range hj];simp [hj]
 ·rw [List.getElem?_eq_none (by simpa using hj)];simp;omega
theorem Dy (L:Nat) (h:L<=299) (w:World):(Instr.makeSlice 288 (.int .i64 ((L:Int)+1)) (.int .i64 ((L:Int)+1))).run Tryz.prog w = .ok (.slice (some ⟨w.heap.size,0,none⟩) (L+1) (L+1)) (w.alloc (.cells (dU (L+1) λ_=>false) 4)):=by
 have hi:(Tryz.prog.info? 4).map (λi=>(i.zero,i.size,i.bytes))=some (some (.bool false),1,1):=by kernel_rfl
 obtain⟨z,hz,hz2⟩:=Option.map_eq_some_iff.1 hi;simp only [Prod.mk.injEq] at hz2;have hz:=And.intro hz hz2;have:=run_makeSlice (P:=Tryz.prog) (w:=w) 288 4 z (.bool false) Tryz.underlying288 hz.1 hz.2.1 .i64 .i64 ((L:Int)+1) ((L:Int)+1) (by omega) (by omega) (by rw [hz.2.2.1];simp;omega) (by rw [hz.2.2.2];omega) (by omega);have e:madeCells (Value.bool false).cells (((L:Int)+1).toNat*z.size)=dU (L+1) λ_=>false:=by
  rw [hz.2.2.1,Sj,show ((L:Int)+1).toNat=L+1 by omega,Nat.mul_one]
  apply Array.ext'
  rw [Array.toList_replicate];exact toList_madeCells_one (Value.bool false) (L+1)
 rw [this,e,show ((L:Int)+1).toNat=L+1 by omega]
def outA (x:N.Item) (cs:List Int) (F:List Bool) (k:Nat):Array Value:=dU (cs.length+1) λj=>if j<k then N.fD x cs F j else if j=k then (N.dw x cs F k).1 else false
def nG (x:N.Item) (cs:List Int) (F:List Bool) (k:Nat):Array Value:=dU (cs.length+1) λj=>if j<=k then N.fD x cs F j else false
def gJ (x:N.Item) (cs:List Int) (F:List Bool) (k:Nat):Array Value:=dU (cs.length+1) λj=>if j<=k then (N.dw x cs F j).2 else false
theorem Pq (x:N.Item) (cs:List Int) (F:List Bool):outA x cs F 0=dU (cs.length+1) λ_=>false:=rU λj _=>by
 rcases Nat.eq_zero_or_pos j with e | e
 ·subst e;rfl
 ·simp;omega
theorem UJ (x:N.Item) (cs:List Int) (F:List Bool):gJ x cs F 0=dU (cs.length+1) λ_=>false:=rU λj _=>by
 rcases Nat.eq_zero_or_pos j with e | e
 ·subst e;rfl
 ·simp;omega
theorem Qg {x:N.Item} {cs:List Int} {F:List Bool} {k:Nat} (h:k<=cs.length):(outA x cs F k)[k]?=some (.bool (N.dw x cs F k).1):=by
 unfold outA;rw [uO _ (by omega)];simp
theorem UO {x:N.Item} {cs:List Int} {F:List Bool} {k:Nat} (h:k<=cs.length):(gJ x cs F k)[k]?=some (.bool (N.dw x cs F k).2):=by
 unfold gJ;rw [uO _ (by omega)];simp
theorem U0 {x:N.Item} {cs:List Int} {F:List Bool} {k:Nat} (h:k<=cs.length):(nG x cs F k)[k]?=some (.bool (N.fD x cs F k)):=by
 unfold nG;rw [uO _ (by omega)];simp
theorem Ux {x:N.Item} {cs:List Int} {F:List Bool} {k:Nat} (h:k<cs.length):(nG x cs F k)[k+1]?=some (.bool false):=by
 unfold nG;rw [uO _ (by omega),if_neg (by omega)]
theorem Xe {x:N.Item} {cs:List Int} {F:List Bool} {k:Nat} (h:k<cs.length):(gJ x cs F k)[k+1]?=some (.bool false):=by
 unfold gJ;rw [uO _ (by omega),if_neg (by omega)]
theorem RU (x:N.Item) (cs:List Int) (F:List Bool) (k:Nat):(outA x cs F k).setIfInBounds k (.bool (N.fD x cs F k))=nG x cs F k:=by
 unfold outA nG;rw [yX];refine rU λj _=>?_
 rcases Nat.lt_trichotomy j k with h | h | h
 ·simp [h,Nat.ne_of_lt h,Nat.le_of_lt h]
 ·subst h;simp
 ·rw [if_neg (by omega),if_neg (by omega),if_neg (by omega),if_neg (by omega)]
theorem KR {x:N.Item} {cs:List Int} {F:List Bool} {k:Nat} (h:cs.length<=k\/(N.dw x cs F (k+1)).1=false):nG x cs F k=outA x cs F (k+1):=by
 unfold outA nG;refine rU λj hj=>?_
 rcases Nat.lt_trichotomy j (k+1) with h2 | h2 | h2
 ·rw [if_pos (by omega),if_pos h2]
 ·subst h2
  rcases h with h | h
  ·omega
  ·rw [if_neg (by omega),if_neg (by omega),if_pos rfl,h]
 ·rw [if_neg (by omega),if_neg (by omega),if_neg (by omega)]
theorem CP (x:N.Item) (cs:List Int) (F:List Bool) (k:Nat):(nG x cs F k).setIfInBounds (k+1) (.bool (N.dw x cs F (k+1)).1)=outA x cs F (k+1):=by
 unfold outA nG;rw [yX];refine rU λj _=>?_
 rcases Nat.lt_trichotomy j (k+1) with h | h | h
 ·rw [if_neg (by omega),if_pos (by omega),if_pos h]
 ·subst h;simp
 ·rw [if_neg (by omega),if_neg (by omega),if_neg (by omega),if_neg (by omega)]
theorem zq {x:N.Item} {cs:List Int} {F:List Bool} {k:Nat} (h:cs.length<=k\/(N.dw x cs F (k+1)).2=false):gJ x cs F k=gJ x cs F (k+1):=by
 unfold gJ;refine rU λj hj=>?_
 rcases Nat.lt_trichotomy j (k+1) with h2 | h2 | h2
 ·rw [if_pos (by omega),if_pos (by omega)]
 ·subst h2
  rcases h with h | h
  ·omega
  ·rw [if_neg (by omega),if_pos (Nat.le_refl _),h]
 ·rw [if_neg (by omega),if_neg (by omega)]
theorem Vf (x:N.Item) (cs:List Int) (F:List Bool) (k:Nat):(gJ x cs F k).setIfInBounds (k+1) (.bool (N.dw x cs F (k+1)).2)=gJ x cs F (k+1):=by
 unfold gJ;rw [yX];refine rU λj _=>?_
 rcases Nat.lt_trichotomy j (k+1) with h | h | h
 ·rw [if_neg (by omega),if_pos (by omega),if_pos (by omega)]
 ·subst h;simp
 ·rw [if_neg (by omega),if_neg (by omega),if_neg (by omega)]
theorem SQ (x:N.Item) (cs:List Int) (F:List Bool):outA x cs F (cs.length+1)=((N.nK x cs F).map Value.bool).toArray:=by
 unfold outA N.nK dU;rw [List.map_map]
 congr 1
 refine List.map_congr_left λj hj=>?_
 show Value.bool (if j<cs.length+1 then _ else _)=_
 rw [if_pos (List.mem_range.1 hj)]
 rfl
theorem UD {x:N.Item} {cs:List Int} {F:List Bool} {k:Nat} {c:Int} (hc:cs[k]?=some c) :
  N.dw x cs F (k+1)=if N.iC x.1 c=true then (if x.2=0 then (F.getD k false,false) else if x.2=1 then (N.fD x cs F k,false) else ((N.dw x cs F k).2,N.fD x cs F k)) else (false,false):=by
 have e:cs.getD k (-1)=c:=by rw [List.getD_eq_getElem?_getD,hc];rfl
 show (if N.iC x.1 (cs.getD k (-1))=true then _ else _)=_
 rw [e]
 rfl
theorem Ju {w:World} {g:Nat} {T:TypeId} {xs:List Bool} (h:aj w g T (xs.map Value.bool).toArray) (hz:xs.length<=1000000):iy w (.slice (some ⟨g,0,none⟩) xs.length xs.length) xs:=by
 refine .inr ⟨g,0,none,xs.length,rfl,Nat.le_refl _,by unfold maxLen;omega,λ_=>⟨rfl,h.lt,λi x hx=>?_⟩⟩;rw [Nat.zero_add];refine(h.cell i).trans ?_;rw [List.getElem?_toArray,List.getElem?_map,hx]
 rfl
theorem JX (n:Nat) (w:World) (hn:n<=40) :
  Calls Tryz.prog 155 #[.int .i64 n] w λe w'=>e = .returned (.int .i64 ((2 ^ n:Nat):Int))/\w=w':=by
 go_enter Tryz.func155,Tryz.ntmps155
 go_wp2
 go_loop [4,3] (λi o=>∃ (k:Nat) (x:Int),k<=n/\i = .int .i64 k/\o = .int .i64 x/\0<=x/\x<=1099511627776/\Box (x=2 ^ k)) (λi _=>n-(intOf i).toNat)
 case atStart=>exact⟨0,1,by omega,rfl,rfl,by omega,by omega,⟨rfl⟩⟩
 case round =>
  obtain⟨k,x,hk,rfl,rfl,hx0,hx1,hx⟩:=hrel
  by_cases hlt:k<n
  ·have h2:=KW (k+1) (by omega);have HX:=bx (show 2*x=2 ^ (k+1) by rw [hx.o,Int.pow_succ];omega);have HY:=bx (show 2*x<=1099511627776 by rw [HX.o];exact h2);clear h2
   go_wp2
   go_round
   case rel=>exact⟨k+1,2*x,hlt,by go_num,rfl,by omega,HY.o,HX⟩
   case measure=>simp [intOf];omega
  ·obtain rfl:k=n:=by omega
   go_wp2
   go_ret
   exact⟨by rw [hx.o];simp,rfl⟩
theorem Q8 (rv:Value) (R:List D.Rule) (mv:Value) (M:D.bH) (n:Int) (w:World) (hR:fA w rv R) (hf:∀ x∈R,nX x) (oI:R.length<=16777216) (hM:kQ w mv M) (kF:oN M) :
  Calls Tryz.prog 153 #[rv,mv, .int .i64 n] w λe w'=>e = .returned (.bool (jd R M n))/\Below w.heap.size w w':=by
 have jS:=bx (λW (h:Below w.heap.size w W)=>Wv rv R n W hf (hR.below h) oI);have xX:=bx (λW (h:Below w.heap.size w W)=>Jj mv M n W (hM.below h) kF);obtain⟨ro,rc,rfl⟩:=hR.slice;obtain⟨nv,fv,rfl,hra,hia⟩:=hM;obtain⟨na,nc,rfl⟩:=hra.slice;have uU:=bx hia;obtain⟨fo,fc,rfl⟩:=hia.slice;obtain⟨w2,hw2⟩:∃ w2,w2=w.alloc (.cells #[.slice na M.1.length nc, .slice fo M.2.length fc] 29):=⟨_,rfl⟩
 have HW2:=bx hw2;have hb2:Below w.heap.size w w2:=by rw [hw2];exact aO _ _
 have HB2:=bx hb2;have dB:=bx (show aj w2 w.heap.size 29 #[.slice na M.1.length nc, .slice fo M.2.length fc] by rw [hw2];exact aj.new w _ _);clear hra hia hR hf kF hw2 hb2
 cases hr:pX n R with
 | false =>
  have HR:=bx hr;have HA:=bx (show jd R M n=false by unfold jd;rw [hr];rfl);clear hr
  go_enter Tryz.func153,Tryz.ntmps153
  go_upto_region 1 with(fail)
  rw [<- HW2.o];go_wp2_with fail;refine(jS.o _ HB2.o).mono ?_;rintro e w3 ⟨rfl,hb3⟩;rw [HR.o];have HB3:=bx (bt HB2.o hb3);clear hb3;go_wp2_with fail;go_ret
  exact⟨by rw [HA.o];rfl,HB3.o⟩
 | true =>
  have HR:=bx hr;have yD:=(ED hr).2.2.1
  cases hm:fO n M with
  | false =>
   have HM:=bx hm;have HA:=bx (show jd R M n=false by unfold jd;rw [hm];simp);clear hr hm yD
   go_enter Tryz.func153,Tryz.ntmps153
   go_upto_region 1 with(fail)
   rw [<- HW2.o];go_wp2_with fail;refine(jS.o _ HB2.o).mono ?_;rintro e w3 ⟨rfl,hb3⟩;rw [HR.o];have HB3:=bx (bt HB2.o hb3);have hba:=dB.o.below hb3 dB.o.lt;have c0:w3.cell? ⟨w.heap.size,0,none⟩=some (.slice na M.1.length nc):=(hba.cell 0).trans rfl;have c1:w3.cell? ⟨w.heap.size,1,none⟩=some (.slice fo M.2.length fc):=(hba.cell 1).trans rfl;have l0:=hba.lt;clear hb3 hba;go_wp2_with fail;refine(xX.o _ HB3.o).mono ?_;rintro e w4 ⟨rfl,hb4⟩;rw [HM.o];have HB4:=bx (bt HB3.o hb4);clear hb4 c0 c1 l0;go_wp2_with fail;go_ret
   exact⟨by rw [HA.o];rfl,HB4.o⟩
  | true =>
   have HM:=bx hm;have HA:=bx (show jd R M n=M.2.all (inB R.length) by unfold jd;rw [hr,hm];rfl);have HF:=bx (Dn hm);obtain⟨-,-,-,TK,hmm⟩:=wF hm;have hfl:M.2.length<=300:=by omega
   clear hr hm TK hmm
   go_enter Tryz.func153,Tryz.ntmps153
   go_upto_region 1 with(fail)
   rw [<- HW2.o];go_wp2_with fail;refine(jS.o _ HB2.o).mono ?_;rintro e w3 ⟨rfl,hb3⟩;rw [HR.o];have HB3:=bx (bt HB2.o hb3);have xK:=bx (dB.o.below hb3 dB.o.lt);have c0:w3.cell? ⟨w.heap.size,0,none⟩=some (.slice na M.1.length nc):=(xK.o.cell 0).trans rfl;have c1:w3.cell? ⟨w.heap.size,1,none⟩=some (.slice fo M.2.length fc):=(xK.o.cell 1).trans rfl;have l0:=xK.o.lt;clear hb3;go_wp2_with fail;refine(xX.o _ HB3.o).mono ?_;rintro e w4 ⟨rfl,hb4⟩;rw [HM.o];have HB4:=bx (bt HB3.o hb4);have Jc:=bx (xK.o.below hb4 xK.o.lt);clear hb4 c0 c1 l0;go_wp2_with fail
   go_loopw [7] (λi wr=>∃ k:Nat,k<=M.2.length/\i = .int .i64 k/\Box ((M.2.take k).all (inB R.length)=true)/\Box (Below w4.heap.size w4 wr)) (λi _=>M.2.length-(intOf i).toNat)
   case atStart=>exact⟨0,by omega,rfl,⟨rfl⟩,⟨Below.refl _ _⟩⟩
   case round =>
    obtain⟨k,hk,rfl,hall,hb⟩:=hrel;have hbr:=Jc.o.below hb.o Jc.o.lt;have c1:wr.cell? ⟨w.heap.size,1,none⟩=some (.slice fo M.2.length fc):=(hbr.cell 1).trans rfl;have l0:=hbr.lt;have HDR:=bx (λm=>HB4.o.trans ((hb.o.trans ((jW wr m).mono hb.o.size)).mono HB4.o.size));have Rw:=bx (λm=>hb.o.trans ((jW wr m).mono hb.o.size))
    by_cases hlt:k<M.2.length
    ·obtain⟨x,hx⟩:∃ x,M.2[k]?=some x:=⟨_,List.getElem?_eq_getElem hlt⟩
     obtain⟨g,off,cap2,hg1,hg2,hg3,hg4,hg5⟩:=(uU.o.below (bt HB4.o hb.o)).get (by rintro e;rw [e] at hlt;simp at hlt);obtain⟨rfl,rfl⟩:fo=some ⟨g,off,none⟩/\fc=cap2:=by injection hg1 with h1 h2 h3;exact⟨h1,h3⟩
     have hcx:=hg5 k x hx;have dF:=bx (show (M.2.take (k+1)).all (inB R.length)=inB R.length x by
      rw [List.take_add_one,hx,List.all_append,hall.o];simp)
     have iP:=bx (show inB R.length x=false->M.2.all (inB R.length)=false from λh=>by
      rw [Bool.eq_false_iff];intro ha;rw [List.all_eq_true] at ha;rw [ha x (List.mem_of_getElem? hx)] at h
      cases h)
     have HP:=bx (show ((2 ^ R.length:Nat):Int)=2 ^ R.length from by simp);obtain⟨P,hP⟩:∃ P:Nat,P=2 ^ R.length:=⟨_,rfl⟩
     have pI:=bx (λW=>JX R.length W yD);rw [<- hP] at pI;have dQ:=bx (show inB R.length x=decide (x<(P:Int)) by unfold inB;rw [<- HP.o,<- hP]);unfold maxLen at hg3;clear hg1 hg5 hx hP
     rcases Int.lt_or_le x P with hxp | hxp
     ·have HT:=bx (show (M.2.take (k+1)).all (inB R.length)=true by rw [dF.o,dQ.o];exact decide_eq_true hxp);have d0:decide ((P:Int)<=x)=false:=decide_eq_false (by omega);go_wp2_with fail
      go_quiet ((go_at_call 155;exact rH (pI.o _)))
      go_wp2_with fail
      go_roundw
      case rel=>exact⟨k+1,hlt,by go_num,HT,⟨Rw.o _⟩⟩
      case measure=>simp [intOf];omega
     ·have HT:=bx (iP.o (by rw [dQ.o];exact decide_eq_false (by omega)));have d0:decide ((P:Int)<=x)=true:=decide_eq_true hxp;go_wp2_with fail
      go_quiet ((go_at_call 155;exact rH (pI.o _)))
      go_wp2_with fail;go_ret
      exact⟨by rw [HA.o,HT.o];rfl,HDR.o _⟩
    ·have HT:=bx (show M.2.all (inB R.length)=true by have:=hall.o;rwa [List.take_of_length_le (by omega)] at this);go_wp2_with fail;go_ret
     exact⟨by rw [HA.o,HT.o];rfl,bt HB4.o hb.o⟩
theorem Qu (cs:List Int) (hcz:cs.length<=299) (x:N.Item) (t:List N.Item) (hx2:x.2=0\/x.2=1\/x.2=2) (htz:t.length+1<=16777216) (ih:∀ (v cv fv:Value) (F:List Bool) (w:World),bQ w v t->aB w cv cs->iy w fv F->F.length=cs.length+1 ->
  Calls Tryz.prog 214 #[v,cv,fv] w λe w'=>(∃ v',e = .returned v'/\iy w' v' (N.jw cs t F))/\Below w.heap.size w w')
  (v cv fv:Value) (F:List Bool) (w:World) (hv:bQ w v (x::t)) (hc:aB w cv cs) (hF:iy w fv F) (oZ:F.length=cs.length+1) :
  Calls Tryz.prog 214 #[v,cv,fv] w λe w'=>(∃ v',e = .returned v'/\iy w' v' (N.jw cs (x::t) F))/\Below w.heap.size w w':=by
 have HC:=bx hc;have zV:=bx hF;have HIH:=bx ih;obtain⟨co,cc,rfl⟩:=hc.slice;obtain⟨fo,fc,rfl⟩:=hF.slice;have gq:=bx oZ;have cu:=bx (show iy w (.slice fo (cs.length+1) fc) F by rw [<- gq.o];exact zV.o);obtain⟨fg,qA,JD,f1,f2,f3,f4,f5⟩:=zV.o.get (by intro e;rw [e] at oZ;simp at oZ);obtain⟨rfl,rfl⟩:fo=some ⟨fg,qA,none⟩/\fc=JD:=by injection f1 with h1 h2 h3;exact⟨h1,h3⟩
 rw [oZ] at f2 ⊢;have zk:=bx f4;have fB:=bx f5;unfold maxLen at f3;clear f1 f4 f5;obtain⟨b,off,cap,rfl,hb1,hb2,hb3,hb4⟩:=hv.get (by simp);obtain⟨hx0,hx1⟩:=hb4 0 x rfl;have HT:=bx (show ∀ i y,t[i]?=some y->w.cell? ⟨b,off+2+i*2,none⟩=some (.int .i64 y.1)/\w.cell? ⟨b,off+2+i*2+1,none⟩=some (.int .i64 y.2) from λi y hy=>by
  have:=hb4 (i+1) y hy;rw [show off+(i+1)*2=off+2+i*2 by omega] at this;exact this)
 rw [Nat.zero_mul,Nat.add_zero] at hx0 hx1;obtain⟨set,how⟩:=x;simp only at hx0 hx1 hx2;rw [List.length_cons] at hb1 ⊢;unfold maxLen at hb2;obtain⟨V1,hV1⟩:∃ V1,V1=w.alloc (.cells #[.int .i64 set, .int .i64 how] 292):=⟨_,rfl⟩
 have fH:=bx hV1;have s1:V1.heap.size=w.heap.size+1:=by rw [hV1];simp
 have hS1:Sep [Pc.blk w.heap.size 292 #[.int .i64 set, .int .i64 how],Pc.old w.heap.size w] V1:=by rw [hV1];exact(Sep.start w).bM _ _
 have hm1:=Dy cs.length hcz V1;obtain⟨V2,hV2⟩:∃ V2,V2=V1.alloc (.cells (dU (cs.length+1) λ_=>false) 4):=⟨_,rfl⟩
 have s2:V2.heap.size=w.heap.size+1+1:=by rw [hV2];simp [s1]
 have hS2:=hS1.bM 4 (dU (cs.length+1) λ_=>false);rw [<- hV2,s1] at hS2;rw [<- hV2,s1] at hm1;have hm2:=Dy cs.length hcz V2;obtain⟨V3,lX⟩:∃ V3,V3=V2.alloc (.cells (dU (cs.length+1) λ_=>false) 4):=⟨_,rfl⟩
 have hS3:=hS2.bM 4 (dU (cs.length+1) λ_=>false);rw [<- lX,s2] at hS3;rw [<- lX,s2] at hm2;have aQ:=bx (show Sep [Pc.blk (w.heap.size+1+1) 4 (gJ (set,how) cs F 0),Pc.blk (w.heap.size+1) 4 (outA (set,how) cs F 0),Pc.blk w.heap.size 292 #[.int .i64 set, .int .i64 how],Pc.old w.heap.size w] V3 by
  rw [UJ,Pq];exact hS3)
 have jf:=bx hm1;have vK:=bx hm2;clear hV1 hV2 lX hS1 hS2 hS3 hm1 hm2 s1 s2 hc hF ih hv hb4 oZ zV
 go_enter Tryz.func214,Tryz.ntmps214
 go_upto_region 4 with(fail)
 rw [<- fH.o];have hm1:=jf.o
 go_upto_region 5 with(fail)
 clear hm1;have hm2:=vK.o
 go_upto_region 6 with(fail)
 clear hm2 jf vK fH hx0 hx1;go_wp2_with fail;generalize ((t.length:Int)+1==0)=z13
 go_loopw [10] (λi wr=>∃ k:Nat,k<=cs.length+1/\i = .int .i64 k/\Box (Sep [Pc.blk (w.heap.size+1+1) 4 (gJ (set,how) cs F k),Pc.blk (w.heap.size+1) 4 (outA (set,how) cs F k),Pc.blk w.heap.size 292 #[.int .i64 set, .int .i64 how],Pc.old w.heap.size w] wr)) (λi _=>cs.length+1-(intOf i).toNat)
 case atStart=>exact⟨0,by omega,rfl,aQ⟩
 case round =>
  obtain⟨k,hk,rfl,hsep⟩:=hrel;have aP:=bx (show Below w.heap.size w wr from hsep.o.bel (by simp));have hbi:=hsep.o.blk 2 rfl
  by_cases hlt:k<cs.length+1
  ·obtain⟨f,hf⟩:∃ f,F[k]?=some f:=⟨_,List.getElem?_eq_getElem (by rw [gq.o];exact hlt)⟩
   have ay:=bx (fB.o k f hf);have hcf:=(aP.o.cell (p:=⟨fg,qA+k,none⟩) zk.o).trans ay.o;have au:=bx (show F.getD k false=f by rw [List.getD_eq_getElem?_getD,hf];rfl);have fU:=hsep.o.blk 1 rfl;have sK:=hsep.o.blk 0 rfl;have hco:=(fU.cell k).trans (Qg (by omega));have hlo:=fU.lt;have hfo:=fU.frozen k;have hci:=(hbi.cell 1).trans (show _=some (Value.int .i64 how) from rfl);obtain⟨o,ho⟩:∃ o,(N.dw (set,how) cs F k).1=o:=⟨_,rfl⟩
   have JE:=bx (show N.fD (set,how) cs F k=(o||(f&&decide (how≠0))) by unfold N.fD;rw [ho,au.o]);rw [ho] at hco;have hfc:k<fc:=by omega
   have mP:=bx (show ∀ fv,N.fD (set,how) cs F k=fv->Sep [Pc.blk (w.heap.size+1+1) 4 (gJ (set,how) cs F k),Pc.blk (w.heap.size+1) 4 (nG (set,how) cs F k),Pc.blk w.heap.size 292 #[.int .i64 set, .int .i64 how],Pc.old w.heap.size w] (wr.setCell ⟨w.heap.size+1,k,none⟩ (.bool fv)) from λfv h=>by
    have h2:=hsep.o.set 1 rfl k (.bool fv);rw [<- h,RU] at h2;rw [<- h];exact h2)
   clear fU sK hf ho hbi;obtain⟨fv,hfv⟩:∃ fv,(o||(f&&decide (how≠0)))=fv:=⟨_,rfl⟩
   rcases (show (o=true/\fv=true)\/(o=false/\f=false/\fv=false)\/(o=false/\f=true/\how≠0/\fv=true)\/(o=false/\f=true/\how=0/\fv=false) by
    rw [<- hfv]
    cases o <;> cases f <;> by_cases h:how=0 <;> simp [h]) with⟨rfl,rfl⟩ | ⟨rfl,rfl,rfl⟩ | ⟨rfl,rfl,hh,rfl⟩ | ⟨rfl,rfl,hh,rfl⟩
   all_goals
    have yZ:=bx (JE.o.trans hfv);have bG:=bx (mP.o _ (JE.o.trans hfv));clear hfv mP hsep
    first | (have hne:(how != 0)=true:=bne_iff_ne.2 hh) | (have hne:(how != 0)=false:=bne_eq_false_iff_eq.2 hh) | skip
    first | (have HHB:=bx hh;clear hh) | skip
    go_upto_region 10 with(fail)
    first | clear hne | skip
    clear hco hfo hlo hci hcf
    first | (have VA:N.fD (set,how) cs F k=true:=yZ.o;clear VA;generalize wr.setCell ⟨w.heap.size+1,k,none⟩ (.bool true)=W1 at bG ⊢) | generalize wr.setCell ⟨w.heap.size+1,k,none⟩ (.bool false)=W1 at bG ⊢
    have LC:=bx (show Below w.heap.size w W1 from bG.o.bel (by simp));have hbi:=bG.o.blk 2 rfl;have hi0:=(hbi.cell 0).trans (show _=some (Value.int .i64 set) from rfl);have hi1:=(hbi.cell 1).trans (show _=some (Value.int .i64 how) from rfl);have hil:=hbi.lt;clear hbi
    rcases Nat.lt_or_ge k cs.length with hkl | hkl
    rotate_left
    ·have HN:=bx (λm=>show Sep [Pc.blk (w.heap.size+1+1) 4 (gJ (set,how) cs F (k+1)),Pc.blk (w.heap.size+1) 4 (outA (set,how) cs F (k+1)),Pc.blk w.heap.size 292 #[.int .i64 set, .int .i64 how],Pc.old w.heap.size w] (W1.drewN m) by
      have h:=bG.o.drewN m;rw [KR (.inl hkl),zq (.inl hkl)] at h;exact h)
     have hke:((k:Int)==(cs.length:Int))=true:=by rw [beq_iff_eq];omega
     go_wp2_with fail
     go_quiet (fail)
     go_wp2_with fail
     go_roundw
     case rel=>exact⟨k+1,hlt,by go_num,⟨HN.o _⟩⟩
     case measure=>simp [intOf];omega
    obtain⟨c,hck⟩:∃ c,cs[k]?=some c:=⟨_,List.getElem?_eq_getElem hkl⟩
    obtain⟨cg,dK,rY,c1,c2,c3,c4,c5⟩:=(HC.o.below LC.o).get (by rintro rfl;simp at hkl);obtain⟨rfl,rfl⟩:co=some ⟨cg,dK,none⟩/\cc=rY:=by injection c1 with h1 h2 h3;exact⟨h1,h3⟩
    have hcc:=c5 k c hck;have Af:=bx (UD (x:=(set,how)) (F:=F) hck);have oQ:=bx (λW=>CS set c W);have hke:((k:Int)==(cs.length:Int))=false:=by rw [beq_eq_false_iff_ne];omega
    have afS:k<cc:=by omega
    unfold maxLen at c3;clear c1 c5 hck
    cases hhas:N.iC set c with
    | false =>
     have nU:=bx (show N.dw (set,how) cs F (k+1)=(false,false) by rw [Af.o];simp only;rw [hhas];rfl);have HN:=bx (λm=>show Sep [Pc.blk (w.heap.size+1+1) 4 (gJ (set,how) cs F (k+1)),Pc.blk (w.heap.size+1) 4 (outA (set,how) cs F (k+1)),Pc.blk w.heap.size 292 #[.int .i64 set, .int .i64 how],Pc.old w.heap.size w] (W1.drewN m) by
      have h:=bG.o.drewN m;rw [KR (.inr (by rw [nU.o])),zq (.inr (by rw [nU.o]))] at h;exact h)
     rw [hhas] at oQ;clear hhas;go_wp2_with fail
     go_quiet ((go_at_call 219;exact rH (oQ.o _)))
     go_wp2_with fail
     go_roundw
     case rel=>exact⟨k+1,hlt,by go_num,⟨HN.o _⟩⟩
     case measure=>simp [intOf];omega
    | true =>
     rw [hhas] at oQ;have fU:=bG.o.blk 1 rfl;have sK:=bG.o.blk 0 rfl;have hco:=(fU.cell k).trans (U0 (by omega));rw [yZ.o] at hco;have hch:=(sK.cell k).trans (UO (by omega));have ahw:=(fU.cell (k+1)).trans (Ux hkl);have aki:=(sK.cell (k+1)).trans (Xe hkl);have hlo:=fU.lt;have hlh:=sK.lt;have hfo:=fU.frozen (k+1);have hfh:=sK.frozen (k+1);have hcf:=(LC.o.cell (p:=⟨fg,qA+k,none⟩) zk.o).trans ay.o;clear fU sK
     rcases hx2 with hw | hw | hw
     ·subst hw;have nU:=bx (show N.dw (set,0) cs F (k+1)=(F.getD k false,false) by rw [Af.o];simp only;rw [hhas];rfl);have HN:=bx (λm=>show Sep [Pc.blk (w.heap.size+1+1) 4 (gJ (set,0) cs F (k+1)),Pc.blk (w.heap.size+1) 4 (outA (set,0) cs F (k+1)),Pc.blk w.heap.size 292 #[.int .i64 set, .int .i64 0],Pc.old w.heap.size w] ((W1.drewN m).setCell ⟨w.heap.size+1,k+1,none⟩ (.bool (F.getD k false))) by
       have h:=(bG.o.drewN m).set 1 rfl (k+1) (.bool (N.dw (set,0) cs F (k+1)).1);rw [CP] at h;rw [zq (.inr (by rw [nU.o]))] at h;rw [nU.o] at h;exact h)
      rw [au.o] at HN;clear hhas;go_wp2_with fail
      go_quiet ((go_at_call 219;exact rH (oQ.o _)))
      go_wp2_with fail
      go_roundw
      case rel=>exact⟨k+1,hlt,by go_num,⟨HN.o _⟩⟩
      case measure=>simp [intOf];omega
     ·subst hw;have nU:=bx (show N.dw (set,1) cs F (k+1)=(N.fD (set,1) cs F k,false) by rw [Af.o];simp only;rw [hhas];rfl);have HN:=bx (λm=>show Sep [Pc.blk (w.heap.size+1+1) 4 (gJ (set,1) cs F (k+1)),Pc.blk (w.heap.size+1) 4 (outA (set,1) cs F (k+1)),Pc.blk w.heap.size 292 #[.int .i64 set, .int .i64 1],Pc.old w.heap.size w] ((W1.drewN m).setCell ⟨w.heap.size+1,k+1,none⟩ (.bool (N.fD (set,1) cs F k))) by
       have h:=(bG.o.drewN m).set 1 rfl (k+1) (.bool (N.dw (set,1) cs F (k+1)).1);rw [CP] at h;rw [zq (.inr (by rw [nU.o]))] at h;rw [nU.o] at h;exact h)
      rw [yZ.o] at HN;clear hhas;go_wp2_with fail
      go_quiet ((go_at_call 219;exact rH (oQ.o _)))
      go_wp2_with fail
      go_roundw
      case rel=>exact⟨k+1,hlt,by go_num,⟨HN.o _⟩⟩
      case measure=>simp [intOf];omega
     ·subst hw;obtain⟨hq,DU⟩:∃ hq,(N.dw (set,2) cs F k).2=hq:=⟨_,rfl⟩
      have nU:=bx (show N.dw (set,2) cs F (k+1)=((N.dw (set,2) cs F k).2,N.fD (set,2) cs F k) by rw [Af.o];simp only;rw [hhas];rfl);have HN:=bx (λm=>show Sep [Pc.blk (w.heap.size+1+1) 4 (gJ (set,2) cs F (k+1)),Pc.blk (w.heap.size+1) 4 (outA (set,2) cs F (k+1)),Pc.blk w.heap.size 292 #[.int .i64 set, .int .i64 2],Pc.old w.heap.size w] (((W1.drewN m).setCell ⟨w.heap.size+1+1,k+1,none⟩ (.bool (N.fD (set,2) cs F k))).setCell ⟨w.heap.size+1,k+1,none⟩ (.bool (N.dw (set,2) cs F k).2)) by
       have h:=((bG.o.drewN m).set 0 rfl (k+1) (.bool (N.dw (set,2) cs F (k+1)).2)).set 1 rfl (k+1) (.bool (N.dw (set,2) cs F (k+1)).1);rw [CP,Vf] at h;rw [nU.o] at h;exact h)
      rw [yZ.o,DU] at HN;rw [DU] at hch;clear DU;clear hhas;go_wp2_with fail
      go_quiet ((go_at_call 219;exact rH (oQ.o _)))
      go_wp2_with fail
      go_roundw
      case rel=>exact⟨k+1,hlt,by go_num,⟨HN.o _⟩⟩
      case measure=>simp [intOf];omega
  ·obtain rfl:k=cs.length+1:=by omega
   have fU:=hsep.o.blk 1 rfl;rw [SQ] at fU;have aG:=bx (show iy wr (.slice (some ⟨w.heap.size+1,0,none⟩) (cs.length+1) (cs.length+1)) (N.nK (set,how) cs F) by
    have h:=Ju fU (by rw [N.zu];omega);rw [N.zu] at h;exact h)
   clear fU hbi;have HIT:=bx (show ∀ o c,(t=[]\/o=off+2)->t.length<=c->c<=cap->bQ w (.slice (some ⟨b,o,none⟩) t.length c) t from λo c ho h1 h2 =>
    .inr ⟨b,o,none,c,rfl,h1,by unfold maxLen;omega,λhn=>⟨rfl,hb3,λi y hy=>by
     rcases ho with ho | ho
     ·exact absurd ho hn
     ·rw [ho];exact HT.o i y hy⟩⟩)
   have jC:=bx (show ∀ o c,(t=[]\/o=off+2)->t.length<=c->c<=cap->_ from λo c ho h1 h2=>HIH.o (.slice (some ⟨b,o,none⟩) t.length c) (.slice co cs.length cc) (.slice (some ⟨w.heap.size+1,0,none⟩) (cs.length+1) (cs.length+1)) (N.nK (set,how) cs F) wr ((HIT.o o c ho h1 h2).below aP.o) (HC.o.below aP.o) aG.o (N.zu _ _ _))
   rcases Nat.eq_zero_or_pos t.length with ht0 | ht0
   ·have ht:t=[]:=List.eq_nil_of_length_eq_zero ht0;subst ht
    rcases Nat.eq_or_lt_of_le (show 1<=cap from hb1) with hcap | hcap
    ·subst hcap;go_wp2_with fail;refine(jC.o off 0 (.inl (by simp)) (Nat.le_refl _) (by omega)).mono ?_;rintro e w5 ⟨⟨v5,rfl,h5⟩,hb5⟩;have H5:=bx h5;have aK:=bx (ku aP.o hb5);clear h5 hb5;go_wp2_with fail;go_ret
     exact⟨⟨_,rfl,H5.o⟩,aK.o⟩
    ·go_wp2_with fail;refine(jC.o (off+2) (cap-1) (.inl (by simp)) (by simp) (by omega)).mono ?_;rintro e w5 ⟨⟨v5,rfl,h5⟩,hb5⟩;have H5:=bx h5;have aK:=bx (ku aP.o hb5);clear h5 hb5;go_wp2_with fail;go_ret
     exact⟨⟨_,rfl,H5.o⟩,aK.o⟩
   ·go_wp2_with fail;refine(jC.o (off+2) (cap-1) (.inr rfl) (by omega) (by omega)).mono ?_;rintro e w5 ⟨⟨v5,rfl,h5⟩,hb5⟩;have H5:=bx h5;have aK:=bx (ku aP.o hb5);clear h5 hb5;go_wp2_with fail;go_ret
    exact⟨⟨_,rfl,H5.o⟩,aK.o⟩
theorem KJ (cs:List Int) (hcz:cs.length<=299):∀ (t:List N.Item),(∀ x∈t,x.2=0\/x.2=1\/x.2=2)->t.length<=16777216->∀ (v cv fv:Value) (F:List Bool) (w:World),bQ w v t->aB w cv cs->iy w fv F->F.length=cs.length+1 ->
  Calls Tryz.prog 214 #[v,cv,fv] w λe w'=>(∃ v',e = .returned v'/\iy w' v' (N.jw cs t F))/\Below w.heap.size w w'
 | [],_,_,v,cv,fv,F,w,hv,hc,hF,oZ=>by
  have HF:=bx hF;obtain⟨a,c,rfl⟩:=hv.slice;clear hv hc hF oZ;rw [List.length_nil]
  go_enter Tryz.func214,Tryz.ntmps214
  go_wp2_with fail;go_ret
  exact⟨⟨_,rfl,HF.o⟩,Below.refl _ _⟩
 | x::t,hx,hz,v,cv,fv,F,w,hv,hc,hF,oZ =>
  Qu cs hcz x t (hx x (List.mem_cons_self ..)) hz (λv cv fv F w=>KJ cs hcz t (λy hy=>hx y (List.mem_cons_of_mem _ hy)) (by rw [List.length_cons] at hz;omega) v cv fv F w) v cv fv F w hv hc hF oZ
end
end Go.Proofs.YtdenoeakcflnmaaGreatDoor
