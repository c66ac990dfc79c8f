/- Texts of this claim. -/
import Derived.Test.YtlmdjifffmofeaaGreatDoorH12

set_option maxRecDepth 100000
set_option maxHeartbeats 8000000
namespace Go.Proofs.YtlmdjifffmofeaaGreatDoor
section
open Go.RowKit
attribute [local go_sem] Oper.semAt_some
theorem abh (v:Value) (l:List (Int×Value)) (r:Int) (tv:Value) (w:World) (hv:lY 2 w v (l.map eG)) (hsl:∀ y∈l,isSlice y.2) (QJ:isSlice tv) (hz:l.length<=100000) :
  Calls Tryz.prog 107 #[v, .int .i64 r,tv] w λe w'=>(∃ v',e = .returned v'/\w'.ownsRow w.heap.size 130 2 v' (rV l r tv).length ((rV l r tv).flatMap eG))/\Below w.heap.size w w':=by
 obtain⟨a,cap,rfl,hc1,hc2⟩:=hv.slice;obtain⟨ta,tn,tc,rfl⟩:=QJ;rw [List.length_map] at hv hc1 ⊢;obtain⟨N,hN⟩:∃ N,l.length=N:=⟨_,rfl⟩
 have HN:=bx hN;rw [hN] at hv hc1 hz ⊢;have HV:=bx hv;have HSL:=bx hsl;have aU:=bx ((Sep.start w).fP w.heap.size 2 130);clear hv hN hsl
 go_enter Tryz.func107,Tryz.ntmps107
 go_wp2_with fail
 go_loopw [8,7] (λi o wr=>∃ (k:Nat) (oo:Option Addr) (oc:Nat),k<=N/\i = .int .i64 k/\o = .slice oo k oc/\Box (∀ (j:Nat) (y:Int×Value),j<k->l[j]?=some y->y.1<r)/\Box (Sep [Pc.row w.heap.size 130 2 (.slice oo k oc) k ((l.take k).flatMap eG),Pc.old w.heap.size w] wr)) (λi _ _=>N-(intOf i).toNat)
 case atStart=>exact⟨0,none,0,by omega,rfl,rfl,⟨λj y h=>by omega⟩,aU⟩
 case round =>
  obtain⟨k,oo,oc,hk,rfl,rfl,hno,hse⟩:=hrel;have aV:=bx (hse.o.bel (n:=w.heap.size) (W0:=w) (by simp));have hbs:=aV.o.size
  by_cases hgo:∃ y,l[k]?=some y/\y.1<r
  ·obtain⟨y,hy,hlt⟩:=hgo;have hkl:k<N:=by rw [<- HN.o];exact(List.getElem?_eq_some_iff.1 hy).1
   have zH:(l.map eG)[k]?=some (eG y):=by rw [List.getElem?_map,hy];rfl
   obtain⟨g,off,cap2,hg1,hg2,hg3,hg4,hg5⟩:=(HV.o.below aV.o).get (by intro e;rw [e] at zH;simp at zH);rw [List.length_map,HN.o] at hg1;obtain⟨rfl,rfl⟩:a=some ⟨g,off,none⟩/\cap=cap2:=by injection hg1 with h1 h2 h3;exact⟨h1,h3⟩
   obtain⟨y1,y2⟩:=y;obtain⟨ya,yn,yc,rfl⟩:isSlice y2:=HSL.o _ (List.mem_of_getElem? hy);have c0:wr.cell? ⟨g,off+k*2,none⟩=some (.int .i64 y1):=hg5 k _ zH 0 _ rfl;have c1:wr.cell? ⟨g,off+k*2+1,none⟩=some (.slice ya yn yc):=hg5 k _ zH 1 _ rfl;have e1:decide (y1<r)=true:=decide_eq_true hlt;have jS:=bx (show ∀ (j:Nat) (z:Int×Value),j<k+1->l[j]?=some z->z.1<r from λj z hj hz=>by
    rcases Nat.lt_or_ge j k with h1 | h1
    ·exact hno.o j z h1 hz
    ·obtain rfl:j=k:=by omega
     rw [hy] at hz
     cases hz;exact hlt)
   have gI:=bx (show (l.take (k+1)).flatMap eG=(l.take k).flatMap eG++eG (y1, .slice ya yn yc) by rw [List.take_add_one,hy,Option.toList_some,List.flatMap_append,List.flatMap_singleton]);unfold maxLen at hg3;clear hy hlt zH hg1 hg2 hg5;go_wp2_with (at_builtin;refine xR (cs:=eG (y1, .slice ya yn yc)) rfl _ _ 22 rfl EH (by decide) hse.o 0 rfl rfl rfl rfl (by intro u hu;simp only [eG,List.mem_cons,List.not_mem_nil,or_false] at hu;rcases hu with rfl | rfl <;> rfl) (by omega) (by omega) hbs ?_;rintro v' w6 hS6 ⟨go',gc',rfl,-,-⟩)
   rw [<- gI.o] at hS6;have dA:=bx hS6;clear hS6;go_wp2_with fail
   go_roundw
   case rel=>exact⟨k+1,_,_,hkl,by go_num,rfl,jS,dA⟩
   case measure=>simp [intOf];omega
  ·obtain⟨BH,IY⟩:Box (l.takeWhile (λy=>decide (y.1<r))=l.take k)/\Box (l.dropWhile (λy=>decide (y.1<r))=l.drop k):=by
    obtain⟨h1,h2⟩:=ak0 (a:=r) hno.o (by rw [HN.o];exact hk) (λy hy h=>hgo ⟨y,hy,h⟩);exact⟨⟨h1⟩,⟨h2⟩⟩
   have Tt:N=k\/∃ y,l[k]?=some y/\¬ y.1<r:=by
    rcases Nat.lt_or_ge k N with h | h
    ·exact .inr ⟨l[k]'(by rw [HN.o];exact h),List.getElem?_eq_getElem (by rw [HN.o];exact h),λh9=>hgo ⟨_,List.getElem?_eq_getElem (by rw [HN.o];exact h),h9⟩⟩
    ·exact .inl (by omega)
   clear hgo hno
   rcases Tt with rfl | ⟨y,hy,hlt⟩
   ·obtain⟨L,Y,hLk,UO,hcut⟩:=Si a N cap N l hk hc1 hc2 HN.o HV.o;have xk:=bx (show rV l r (.slice ta tn tc)=l.take N++(r, .slice ta tn tc)::l.drop N by
     unfold rV;rw [BH.o,IY.o,List.drop_eq_nil_of_le (by rw [HN.o];omega)])
    have oh:=bx hLk;have wQ:=bx (λW (h:Below w.heap.size w W)=>hcut W (HV.o.below h));have sO:=bx (UU (l:=l.drop (N)) (λy hy=>HSL.o y (List.mem_of_mem_drop hy)));have hLn:L<=100000:=by omega
    clear hcut hLk;go_wp2_with (first
     | (at_builtin;refine lX rfl _ _ 22 rfl EH (by decide) dA.o 0 rfl rfl rfl (wQ.o _ cO.o) (by rw [Vr,List.length_drop,HN.o];have:=oh.o;omega) sO.o (by omega) (by omega) cO.o.size ?_;rintro v7 w7 hS7)
     | (at_builtin;refine xR (cs:=eG (r, .slice ta tn tc)) rfl _ _ 22 rfl EH (by decide) hse.o 0 rfl rfl rfl rfl (by intro u hu;simp only [eG,List.mem_cons,List.not_mem_nil,or_false] at hu;rcases hu with rfl | rfl <;> rfl) (by omega) (by omega) hbs ?_;rintro v' w6 hS6 ⟨go',gc',rfl,-,-⟩;have dA:=bx hS6;have cO:=bx (dA.o.bel (n:=w.heap.size) (W0:=w) (by simp));clear hS6))
    have hrow:=hS7.row 0 rfl;have aH:=bx (hS7.bel (n:=w.heap.size) (W0:=w) (by simp));have qB:=bx (show w7.ownsRow w.heap.size 130 2 v7 (rV l r (.slice ta tn tc)).length ((rV l r (.slice ta tn tc)).flatMap eG) by
     rw [xk.o,List.flatMap_append,List.flatMap_cons,List.length_append,List.length_cons,List.length_take,List.length_drop,HN.o,<- List.append_assoc,show min N N+(N-(N)+1)=N+1+L by have:=oh.o;omega];exact hrow)
    clear hS7 hrow;go_wp2_with fail;go_ret
    exact⟨⟨_,rfl,qB.o⟩,aH.o⟩
   ·have hkl:k<N:=by rw [<- HN.o];exact(List.getElem?_eq_some_iff.1 hy).1
    have zH:(l.map eG)[k]?=some (eG y):=by rw [List.getElem?_map,hy];rfl
    obtain⟨g,off,cap2,hg1,hg2,hg3,hg4,hg5⟩:=(HV.o.below aV.o).get (by intro e;rw [e] at zH;simp at zH);rw [List.length_map,HN.o] at hg1;obtain⟨rfl,rfl⟩:a=some ⟨g,off,none⟩/\cap=cap2:=by injection hg1 with h1 h2 h3;exact⟨h1,h3⟩
    have c0:wr.cell? ⟨g,off+k*2,none⟩=some (.int .i64 y.1):=hg5 k _ zH 0 _ rfl;have e0:decide ((k:Int)<(N:Int))=true:=decide_eq_true (by omega);have e1:decide (y.1<r)=false:=decide_eq_false hlt;have hdk:l.drop k=y::l.drop (k+1):=by rw [List.drop_eq_getElem_cons (by rw [HN.o];exact hkl),(List.getElem?_eq_some_iff.1 hy).2]
    unfold maxLen at hg3;clear hy hlt zH hg1 hg2 hg5
    by_cases heq:y.1=r
    ·obtain⟨L,Y,hLk,abW,hcut⟩:=Si _ N cap (k+1) l (by omega) hc1 hc2 HN.o HV.o;have UO:∀ W,(Instr.slice 22 (.slice (some ⟨g,off,none⟩) N cap) (some (.int .i64 ((k:Int)+1))) none none).run Tryz.prog W = .ok Y W:=λW=>by
      have:=abW W
      rwa [show ((k+1:Nat):Int)=(k:Int)+1 by omega] at this
     have xk:=bx (show rV l r (.slice ta tn tc)=l.take k++(r, .slice ta tn tc)::l.drop (k+1) by
      unfold rV;rw [BH.o,IY.o,hdk];simp only [if_pos heq])
     have e2:(y.1==r)=true:=by rw [beq_iff_eq];exact heq
     clear abW heq hdk;have oh:=bx hLk;have wQ:=bx (λW (h:Below w.heap.size w W)=>hcut W (HV.o.below h));have sO:=bx (UU (l:=l.drop (k+1)) (λy hy=>HSL.o y (List.mem_of_mem_drop hy)));have hLn:L<=100000:=by omega
     clear hcut hLk;go_wp2_with (first
      | (at_builtin;refine lX rfl _ _ 22 rfl EH (by decide) dA.o 0 rfl rfl rfl (wQ.o _ cO.o) (by rw [Vr,List.length_drop,HN.o];have:=oh.o;omega) sO.o (by omega) (by omega) cO.o.size ?_;rintro v7 w7 hS7)
      | (at_builtin;refine xR (cs:=eG (r, .slice ta tn tc)) rfl _ _ 22 rfl EH (by decide) hse.o 0 rfl rfl rfl rfl (by intro u hu;simp only [eG,List.mem_cons,List.not_mem_nil,or_false] at hu;rcases hu with rfl | rfl <;> rfl) (by omega) (by omega) hbs ?_;rintro v' w6 hS6 ⟨go',gc',rfl,-,-⟩;have dA:=bx hS6;have cO:=bx (dA.o.bel (n:=w.heap.size) (W0:=w) (by simp));clear hS6))
     have hrow:=hS7.row 0 rfl;have aH:=bx (hS7.bel (n:=w.heap.size) (W0:=w) (by simp));have qB:=bx (show w7.ownsRow w.heap.size 130 2 v7 (rV l r (.slice ta tn tc)).length ((rV l r (.slice ta tn tc)).flatMap eG) by
      rw [xk.o,List.flatMap_append,List.flatMap_cons,List.length_append,List.length_cons,List.length_take,List.length_drop,HN.o,<- List.append_assoc,show min k N+(N-(k+1)+1)=k+1+L by have:=oh.o;omega];exact hrow)
     clear hS7 hrow;go_wp2_with fail;go_ret
     exact⟨⟨_,rfl,qB.o⟩,aH.o⟩
    ·obtain⟨L,Y,hLk,UO,hcut⟩:=Si _ N cap k l hk hc1 hc2 HN.o HV.o;have xk:=bx (show rV l r (.slice ta tn tc)=l.take k++(r, .slice ta tn tc)::l.drop k by
      unfold rV;rw [BH.o,IY.o,hdk];simp only [if_neg heq])
     have e2:(y.1==r)=false:=by rw [beq_eq_false_iff_ne];exact heq
     clear heq hdk;have oh:=bx hLk;have wQ:=bx (λW (h:Below w.heap.size w W)=>hcut W (HV.o.below h));have sO:=bx (UU (l:=l.drop (k)) (λy hy=>HSL.o y (List.mem_of_mem_drop hy)));have hLn:L<=100000:=by omega
     clear hcut hLk;go_wp2_with (first
      | (at_builtin;refine lX rfl _ _ 22 rfl EH (by decide) dA.o 0 rfl rfl rfl (wQ.o _ cO.o) (by rw [Vr,List.length_drop,HN.o];have:=oh.o;omega) sO.o (by omega) (by omega) cO.o.size ?_;rintro v7 w7 hS7)
      | (at_builtin;refine xR (cs:=eG (r, .slice ta tn tc)) rfl _ _ 22 rfl EH (by decide) hse.o 0 rfl rfl rfl rfl (by intro u hu;simp only [eG,List.mem_cons,List.not_mem_nil,or_false] at hu;rcases hu with rfl | rfl <;> rfl) (by omega) (by omega) hbs ?_;rintro v' w6 hS6 ⟨go',gc',rfl,-,-⟩;have dA:=bx hS6;have cO:=bx (dA.o.bel (n:=w.heap.size) (W0:=w) (by simp));clear hS6))
     have hrow:=hS7.row 0 rfl;have aH:=bx (hS7.bel (n:=w.heap.size) (W0:=w) (by simp));have qB:=bx (show w7.ownsRow w.heap.size 130 2 v7 (rV l r (.slice ta tn tc)).length ((rV l r (.slice ta tn tc)).flatMap eG) by
      rw [xk.o,List.flatMap_append,List.flatMap_cons,List.length_append,List.length_cons,List.length_take,List.length_drop,HN.o,<- List.append_assoc,show min k N+(N-(k)+1)=k+1+L by have:=oh.o;omega];exact hrow)
     clear hS7 hrow;go_wp2_with fail;go_ret
     exact⟨⟨_,rfl,qB.o⟩,aH.o⟩
theorem F.ad3 {s:List UInt8} {o:List Int} (h:F.xH s=some o):(s=[]/\o=[])\/(s≠[]/\∃ r,F.code s=some r/\U.right r=true/\o=[r]):=by
 unfold F.xH at h
 by_cases h0:s=[]
 ·rw [if_pos h0] at h
  cases h;exact .inl ⟨h0,rfl⟩
 ·rw [if_neg h0] at h
  cases hc:F.code s with
  | none=>rw [hc] at h;cases h
  | some r =>
   rw [hc] at h;simp only at h
   split at h
   ·rename_i hr
    cases h;exact .inr ⟨h0,r,rfl,hr,rfl⟩
   ·cases h
theorem DN (W:World) (r:Int) (T:TypeId):ay (W.alloc (.cells #[.int .i64 r] T)) (.slice (some ⟨W.heap.size,0,none⟩) 1 1) [r]:=by
 refine .inr ⟨W.heap.size,0,none,1,rfl,Nat.le_refl _,by unfold maxLen;omega,λ_=>⟨rfl,by simp,λi x hx=>?_⟩⟩;have hi:i=0:=by have:=(List.getElem?_eq_some_iff.1 hx).1;simpa using this
 subst hi
 cases hx;exact(ak.new W T #[.int .i64 r]).cell 0
theorem IG (s:List UInt8) (o:List Int) (w:World) (hok:F.xH s=some o) (hz:s.length<=20000) :
  Calls Tryz.prog 105 #[.string (bs s)] w λe w'=>(∃ v,e = .returned (.tuple #[v, .bool true])/\ay w' v o/\∀ g,v.ownBlock=some g->w.heap.size<=g/\g<w'.heap.size)/\Below w.heap.size w w':=by
 rcases F.ad3 hok with⟨rfl,rfl⟩ | ⟨hs,r,hc,hr,rfl⟩
 ·have hemp:=G8;clear hok
  go_enter Tryz.func105,Tryz.ntmps105
  go_wp2_with fail;go_ret2
  exact⟨⟨_,rfl, .inl ⟨rfl,rfl⟩,λg hg=>by cases hg⟩,Below.refl _ _⟩
 ·have hemp:=BA hs;have oH:=bx (Pm s w (by omega));rw [hc] at oH;unfold PO at oH;simp only at oH;have bI:=bx (λW=>hr▸wC r W);have HI:=bx (DN w r 3);have HB:=bx (aS w (.cells #[.int .i64 r] 3));clear hok hs hc hr
  go_enter Tryz.func105,Tryz.ntmps105
  go_wp2_with fail;refine oH.o.mono ?_;rintro e w1 ⟨rfl,rfl⟩;go_wp2_with fail;refine(bI.o _).mono ?_;rintro e w2 ⟨rfl,rfl⟩;go_wp2_with fail;go_ret2
  exact⟨⟨_,rfl,HI.o,λg hg=>by simp [Value.ownBlock] at hg;subst hg;exact⟨Nat.le_refl _,by simp⟩⟩,HB.o⟩
theorem adD (v:Value) (xs:List Int) (r:Int) (w:World) (hv:ay w v xs) (hz:xs.length<=100000) :
  Calls Tryz.prog 106 #[v, .int .i64 r] w λe w'=>e = .returned (.bool (xs.contains r))/\w=w':=by
 have HV:=bx hv;obtain⟨a,cap,rfl⟩:=hv.slice;clear hv
 go_enter Tryz.func106,Tryz.ntmps106
 go_wp2_with fail
 go_loopw [5] (λi wr=>∃ k:Nat,k<=xs.length/\i = .int .i64 k/\Box (∀ (j:Nat) (y:Int),j<k->xs[j]?=some y->y≠r)/\wr=w) (λi _=>xs.length-(intOf i).toNat)
 case atStart=>exact⟨0,by omega,rfl,⟨λj y h=>by omega⟩,rfl⟩
 case round =>
  obtain⟨k,hk,rfl,hno,rfl⟩:=hrel
  by_cases hlt:k<xs.length
  ·obtain⟨y,hy⟩:∃ y,xs[k]?=some y:=⟨_,List.getElem?_eq_getElem hlt⟩
   obtain⟨g,off,cap2,hg1,hg2,hg3,hg4,hg5⟩:=HV.o.get (by rintro rfl;simp at hy);obtain⟨rfl,rfl⟩:a=some ⟨g,off,none⟩/\cap=cap2:=by injection hg1 with h1 h2 h3;exact⟨h1,h3⟩
   have hck:=hg5 k y hy;unfold maxLen at hg3;have HY:=bx hy;clear hy hg1 hg5
   by_cases he:y=r
   ·have e1:(y==r)=true:=by rw [beq_iff_eq];exact he
    have HC:=bx (show xs.contains r=true by rw [List.contains_iff_mem];rw [<- he];exact List.mem_of_getElem? HY.o);clear he;go_wp2_with fail;go_ret
    exact⟨aI HC.o.symm,rfl⟩
   ·have e1:(y==r)=false:=by rw [beq_eq_false_iff_ne];exact he
    have HN:=bx (show ∀ (j:Nat) (z:Int),j<k+1->xs[j]?=some z->z≠r from λj z hj hz=>by
     rcases Nat.lt_or_ge j k with h1 | h1
     ·exact hno.o j z h1 hz
     ·obtain rfl:j=k:=by omega
      rw [HY.o] at hz
      cases hz;exact he)
    clear he;go_wp2_with fail
    go_roundw
    case rel=>exact⟨k+1,hlt,by go_num,HN,trivial⟩
    case measure=>simp [intOf];omega
  ·obtain rfl:k=xs.length:=by omega
   have HC:=bx (show xs.contains r=false by
    rw [Bool.eq_false_iff,ne_eq,List.contains_iff_mem];intro hm;obtain⟨i,hi,e⟩:=List.getElem_of_mem hm;exact hno.o i r hi (by rw [List.getElem?_eq_getElem hi,e]) rfl)
   go_wp2_with fail;go_ret
   exact⟨aI HC.o.symm,rfl⟩
end
section
open Go.RowKit
def F.KO (x:F.Rec):Option (Bool×List Int) :=
 if x.2.1=x.2.2.1/\U.right x.2.1=true/\14<=x.2.2.2.length then
  match F.xH (x.2.2.2.getD 11 []),F.xH (x.2.2.2.getD 12 []),F.xH (x.2.2.2.getD 13 []) with
  | some [],some (s::t),some []=>some (true,s::t)
  | some _,some [],some (s::t)=>some (false,s::t)
  | _,_,_=>none
 else none
def F.sV (rs:List F.Rec):Nat->Option (List Int×List F.Map×List F.Map)
 | 0=>some ([],[],[])
 | k+1=>match F.sV rs k with
  | none=>none
  | some (met,lo,ti)=>match F.KO (rs.getD k (0,0,0,[])) with
   | none=>none
   | some (b,o)=>if met.contains (rs.getD k (0,0,0,[])).2.1=true then none else some (met++[(rs.getD k (0,0,0,[])).2.1],if b=true then F.BL lo (rs.getD k (0,0,0,[])).2.1 o else lo,if b=true then ti else F.BL ti (rs.getD k (0,0,0,[])).2.1 o)
theorem F.abU {rs:List F.Rec} {k:Nat}:∀ {n:Nat} {r:List Int×List F.Map×List F.Map},k<=n->F.sV rs n=some r->∃ q,F.sV rs k=some q
 | 0,r,hk,h=>by obtain rfl:k=0:=(by omega);exact⟨r,h⟩
 | n+1,r,hk,h=>by
  rcases Nat.lt_or_ge k (n+1) with h1 | h1
  ·unfold F.sV at h
   cases hq:F.sV rs n with
   | none=>rw [hq] at h;cases h
   | some q=>exact F.abU (by omega) hq
  ·obtain rfl:k=n+1:=by omega
   exact⟨r,h⟩
theorem F.anG {rs:List F.Rec} {k:Nat} {x:F.Rec} {met:List Int} {lo ti:List F.Map} {r:List Int×List F.Map×List F.Map} (hx:rs[k]?=some x) (hq:F.sV rs k=some (met,lo,ti)) (hr:F.sV rs (k+1)=some r) :
  ∃ b o,F.KO x=some (b,o)/\met.contains x.2.1=false/\r=(met++[x.2.1],if b=true then F.BL lo x.2.1 o else lo,if b=true then ti else F.BL ti x.2.1 o):=by
 have hgd:rs.getD k (0,0,0,[])=x:=by rw [List.getD_eq_getElem?_getD,hx];rfl
 unfold F.sV at hr;rw [hq,hgd] at hr;simp only at hr
 cases hb:F.KO x with
 | none=>rw [hb] at hr;cases hr
 | some y =>
  obtain⟨b,o⟩:=y;rw [hb] at hr;simp only at hr
  split at hr
  ·cases hr
  ·rename_i h
   cases hr;exact⟨b,o,rfl,by simpa using h,rfl⟩
theorem F.amN {x:F.Rec} {b:Bool} {o:List Int} (h:F.KO x=some (b,o)):x.2.1=x.2.2.1/\U.right x.2.1=true/\14<=x.2.2.2.length/\o≠[] /\
  ((b=true/\F.xH (x.2.2.2.getD 11 [])=some []/\F.xH (x.2.2.2.getD 12 [])=some o/\F.xH (x.2.2.2.getD 13 [])=some [])\/(b=false/\(∃ q,F.xH (x.2.2.2.getD 11 [])=some q)/\F.xH (x.2.2.2.getD 12 [])=some []/\F.xH (x.2.2.2.getD 13 [])=some o)):=by
 unfold F.KO at h
 split at h
 ·rename_i hc
  refine⟨hc.1,hc.2.1,hc.2.2,?_⟩
  split at h
  ·rename_i h1 h2 h3
   cases h;exact⟨by simp, .inl ⟨rfl,h1,h2,h3⟩⟩
  ·rename_i h1 h2 h3
   cases h;exact⟨by simp, .inr ⟨rfl,⟨_,h1⟩,h2,h3⟩⟩
  ·cases h
 ·cases h
def xO {α:Type} (key:α->Int) (l:List α) (x:α):List α :=
 l.takeWhile (λy=>decide (key y<key x))++x::match l.dropWhile (λy=>decide (key y<key x)) with
  | []=>[]
  | z::q=>if key z=key x then q else z::q
theorem aco {α β:Type} {ka:α->Int} {kb:β->Int} (f:α->β) (hf:∀ x,kb (f x)=ka x) (l:List α) (x:α):(xO ka l x).map f=xO kb (l.map f) (f x):=by
 unfold xO;rw [List.map_append,List.map_cons,List.takeWhile_map,List.dropWhile_map];have e:(λy=>decide (kb y<kb (f x)))∘f=λy=>decide (ka y<ka x):=by
  funext y
  simp [hf]
 rw [e]
 congr 2
 cases l.dropWhile (λy=>decide (ka y<ka x)) with
 | nil=>rfl
 | cons z q =>
  simp only [List.map_cons,hf]
  split <;> rfl
theorem aeA {α:Type} {key:α->Int} {l:List α} {x y:α} (h:y∈xO key l x):y∈l\/y=x:=by
 unfold xO at h
 rcases List.mem_append.1 h with h | h
 ·exact .inl (List.takeWhile_subset _ h)
 ·rcases List.mem_cons.1 h with h | h
  ·exact .inr h
  ·split at h
   ·cases h
   ·rename_i z q hq
    refine .inl ((List.dropWhile_subset (λy=>decide (key y<key x)):_ ⊆ l) ?_);rw [hq]
    split at h
    ·exact List.mem_cons_of_mem _ h
    ·exact h
theorem ado {α:Type} (key:α->Int) (l:List α) (x:α):(xO key l x).length<=l.length+1:=by
 unfold xO;have:=congrArg List.length (List.takeWhile_append_dropWhile (p:=λy=>decide (key y<key x)) (l:=l));rw [List.length_append] at this;rw [List.length_append,List.length_cons]
 split
 ·simp;omega
 ·rename_i z q hq
  rw [hq,List.length_cons] at this
  split <;> simp <;> omega
theorem ai9 (l:List (Int×Value)) (r:Int) (t:Value):xO (λy:Int×Value=>y.1) l (r,t)=rV l r t:=by
 unfold xO rV;simp only
 cases l.dropWhile (λy=>decide (y.1<r)) <;> rfl
theorem aht (l:List F.Map) (r:Int) (o:List Int):xO (λy:F.Map=>y.1) l (r,o)=F.BL l r o:=by
 unfold xO F.BL;simp only
 cases l.dropWhile (λy=>decide (y.1<r)) <;> rfl
abbrev jV:=F.Map×Value
def pr (y:jV):Int×Value:=(y.1.1,y.2)
def rO (l:List jV) (r:Int) (o:List Int) (t:Value):List jV:=xO (λy:jV=>y.1.1) l ((r,o),t)
theorem Zf (l:List jV) (r:Int) (o:List Int) (t:Value):(rO l r o t).map pr=rV (l.map pr) r t:=by
 exact aco (ka:=λy:jV=>y.1.1) (kb:=λy:Int×Value=>y.1) pr (λ_=>rfl) l ((r,o),t) |>.trans (ai9 _ _ _)
theorem acz (l:List jV) (r:Int) (o:List Int) (t:Value):(rO l r o t).map (·.1)=F.BL (l.map (·.1)) r o:=by
 exact aco (ka:=λy:jV=>y.1.1) (kb:=λy:F.Map=>y.1) (λy:jV=>y.1) (λ_=>rfl) l ((r,o),t) |>.trans (aht _ _ _)
end
section
open Go.RowKit
attribute [local go_sem] Oper.semAt_some
def Gl:Array Value:=#[.slice none 0 0, .slice none 0 0, .slice none 0 0, .slice none 0 0, .slice none 0 0, .slice none 0 0]
abbrev Ie (n:Nat) (W0:World) (C R:Nat) (lv tv mv rv:Value) (met:List Int) (LO TI:List jV) (B:List (Value×List Int)) (RL:List (F.Rec×Value)):List Pc :=
 [Pc.blk C 28 #[lv,tv, .slice none 0 0, .slice none 0 0, .slice none 0 0, .slice none 0 0],Pc.row n 3 1 mv met.length (met.map (Value.int .i64)),
  Pc.row n 130 2 lv (LO.map pr).length ((LO.map pr).flatMap eG),Pc.row n 130 2 tv (TI.map pr).length ((TI.map pr).flatMap eG),Pc.iV oq B,
  Pc.row n 171 4 rv RL.length (RL.flatMap recC),Pc.iV Gh RL,Pc.blk R 28 Gl,Pc.old n W0]
theorem QV:(Tryz.prog.info? 28).map (·.size)=some 6:=by kernel_rfl
def qm (L:List jV) (B:List (Value×List Int)):Prop:=∀ y∈L,(y.2,y.1.2)∈B/\isSlice y.2
theorem qm.more {L:List jV} {B:List (Value×List Int)} {z:Value×List Int} (h:qm L B):qm L (B++[z]):=λy hy=>⟨List.mem_append_left _ (h y hy).1,(h y hy).2⟩
theorem qm.put {L:List jV} {B:List (Value×List Int)} {r:Int} {o:List Int} {t:Value} (h:qm L B) (ht:isSlice t):qm (rO L r o t) (B++[(t,o)]):=λy hy=>by
 rcases aeA hy with h1 | rfl
 ·exact h.more y h1
 ·exact⟨List.mem_append_right _ (List.mem_singleton.2 rfl),ht⟩
theorem qm.prs {L:List jV} {B:List (Value×List Int)} (h:qm L B):∀ y∈L.map pr,isSlice y.2:=λy hy=>by
 obtain⟨z,hz,rfl⟩:=List.mem_map.1 hy;exact(h z hz).2
theorem WW {w:World} {n:Nat} {T:TypeId} {v:Value} {L:List (Int×Value)} (h:w.ownsRow n T 2 v L.length (L.flatMap eG)):lY 2 w v (L.map eG):=by
 rw [PE] at h;exact lY.dL h (by rw [List.length_map]) (λc hc=>by obtain⟨y,-,rfl⟩:=List.mem_map.1 hc;rfl)
theorem F.ag0 {s:List UInt8} {a b:Int} {fs:List (List UInt8)} (h:F.zY s=some (some (a,b,fs))) (hz:s.length<=20000):∀ f∈fs,f.length<=20000:=by
 obtain⟨-,-,-,-,-,-,hfs⟩:=F.Td h;intro f hf;rw [hfs] at hf;obtain⟨q,hq,rfl⟩:=List.mem_map.1 (List.mem_of_mem_tail hf);have h1:=F.Fh q;have h2:=F.Jb 59 _ q hq;have h3:=F.Fh ((F.split 35 s).headD []);obtain⟨h,t,hs,hl⟩:=Oq 35 s;rw [hs,List.headD_cons] at h2 h3;omega
theorem F.aiP {s:List UInt8} {rs:List F.Rec} (h:F.parse s=some rs):∀ r∈rs,∀ f∈r.2.2.2,f.length<=20000:=by
 unfold F.parse at h
 split at h
 rotate_left
 ·cases h
 rename_i hz
 have key:∀ {L:List (List UInt8)},(∀ x∈L,x.length<=20000)->∀ {k:Nat} {rs:List F.Rec},F.qN L k=some rs->∀ r∈rs,∀ f∈r.2.2.2,f.length<=20000:=by
  intro L hL k
  induction k with
  | zero=>intro rs h r hr;cases h;exact absurd hr List.not_mem_nil
  | succ k ih =>
   intro rs h;unfold F.qN at h
   cases hq:F.qN L k with
   | none=>rw [hq] at h;cases h
   | some q =>
    rw [hq] at h;simp only at h;have ih:=ih hq;have hlk:(L.getD k []).length<=20000:=by
     rw [List.getD_eq_getElem?_getD]
     cases hk:L[k]? with
     | none=>simp
     | some x=>exact hL x (List.mem_of_getElem? hk)
    cases hl:F.zY (L.getD k []) with
    | none=>rw [hl] at h;cases h
    | some y =>
     rw [hl] at h
     cases y with
     | none=>simp only [Option.some.injEq] at h;rw [<- h];exact ih
     | some y =>
      obtain⟨a,b,fs⟩:=y;simp only at h
      split at h
      ·cases h
      ·simp only [Option.some.injEq] at h;rw [<- h];intro r hr
       rcases List.mem_append.1 hr with h1 | h1
       ·exact ih r h1
       ·rw [List.mem_singleton.1 h1];exact F.ag0 hl hlk
 exact key (λx hx=>by have:=F.Jb 10 s x hx;omega) h
theorem amF (s:List UInt8) (rs:List F.Rec) (met:List Int) (lo ti:List F.Map) (w:World) (hp:F.parse s=some rs) (hok:F.sV rs rs.length=some (met,lo,ti)) :
  Calls Tryz.prog 62 #[.string (bs s), .agg #[.slice none 0 0, .slice none 0 0, .slice none 0 0, .slice none 0 0, .slice none 0 0, .slice none 0 0]] w λe w'=>∃ lv tv LO TI B,e = .returned (.tuple #[.agg #[lv,tv, .slice none 0 0, .slice none 0 0, .slice none 0 0, .slice none 0 0], .int .i64 0, .int .i64 0])/\LO.map (·.1)=lo/\TI.map (·.1)=ti/\qm LO B/\qm TI B/\Sep [Pc.row w.heap.size 130 2 lv (LO.map pr).length ((LO.map pr).flatMap eG),Pc.row w.heap.size 130 2 tv (TI.map pr).length ((TI.map pr).flatMap eG),Pc.iV oq B,Pc.old w.heap.size w] w':=by
 obtain⟨N,hN⟩:∃ N,rs.length=N:=⟨_,rfl⟩
 have vJ:=bx (show N<=100000 by rw [<- hN];exact F.aaO hp);rw [hN] at hok;have HN:=bx hN;have nC:=bx hok;have HPP:=bx hp;obtain⟨V,hV⟩:∃ V,V=(w.alloc (.cells Gl 28)).alloc (.cells Gl 28):=⟨_,rfl⟩
 have h2:=((Sep.start w).dh 28 Gl).dh 28 Gl;rw [show (w.alloc (.cells Gl 28)).heap.size=w.heap.size+1 by simp,<- hV] at h2;have tV:=bx h2;have zA:=bx (adS s rs V hp);have HV:=bx hV;clear hp hok hN hV h2;unfold Gl at HV
 go_enter Tryz.func62,Tryz.ntmps62
 go_upto_region 1 with(fail)
 rw [<- HV.o];obtain⟨n,hn⟩:∃ n,w.heap.size=n:=⟨_,rfl⟩
 rw [hn] at tV ⊢;have nJ:=bx hn;clear hn HV;go_wp2_with fail;refine zA.o.mono ?_;rintro e w1 ⟨rv,RL,rfl,hRL,hS1⟩;have Iz:=bx hRL;have Ua:=bx (show RL.length=N by rw [<- HN.o,<- hRL,List.length_map]);have bQ:=bx (show Sep (Ie n w n (n+1) (.slice none 0 0) (.slice none 0 0) (.slice none 0 0) rv [] [] [] [] RL) w1 from by
  have h1:=tV.o.frame (qs:=[_,_]) hS1;have hle:n<=V.heap.size:=(tV.o.at' 2 (p:=Pc.old n w) rfl).1;have h3:=h1.as 0 (p':=Pc.row n 171 4 rv RL.length (RL.flatMap recC)) rfl (λhr=>own_base hr hle) (λ_ hk=>hk);have h4:=(((h3.RY oq).fP n 2 130).fP n 2 130).fP n 1 3;exact h4.front 7 rfl)
 obtain⟨ra,rc,rfl,VO,alm⟩:=dN (bQ.o.row 5 rfl);rw [Ua.o] at VO;rw [Ua.o];clear hS1 hRL tV;go_wp2_with fail
 go_loopw [11,10] (λi m wr=>∃ (k:Nat) (lv tv:Value) (met:List Int) (LO TI:List jV) (B:List (Value×List Int)),k<=N/\i = .int .i64 k/\Box (F.sV rs k=some (met,LO.map (·.1),TI.map (·.1))/\qm LO B/\qm TI B/\LO.length<=k/\TI.length<=k/\met.length=k)/\Box (Sep (Ie n w n (n+1) lv tv m (.slice ra RL.length rc) met LO TI B RL) wr)) (λi _ _=>N-(intOf i).toNat)
 case atStart=>exact⟨0,_,_,[],[],[],[],by omega,rfl,⟨rfl,λy hy=>absurd hy List.not_mem_nil,λy hy=>absurd hy List.not_mem_nil,Nat.le_refl _,Nat.le_refl _,rfl⟩,bQ⟩
 case round =>
  obtain⟨k,lv,tv,met,LO,TI,B,hk,rfl,hsp,hse⟩:=hrel;have aV:=bx (show Below w.heap.size w wr by rw [nJ.o];exact hse.o.bel (n:=n) (W0:=w) (by simp));obtain⟨la,lc,rfl,aod,aog⟩:=dN (hse.o.row 2 rfl);obtain⟨ta,tc,rfl,ao6,aoZ⟩:=dN (hse.o.row 3 rfl);obtain⟨ma,mc,rfl,aoY,apb⟩:=dN (hse.o.row 1 rfl)
  by_cases hlt:k<N
  ·obtain⟨x,hx⟩:∃ x,rs[k]?=some x:=⟨_,List.getElem?_eq_getElem (by rw [HN.o];exact hlt)⟩
   have hrec:vN wr (.slice ra RL.length rc) rs:=by
    have h9:=vN.dL (hse.o.row 5 rfl) rfl (λy hy=>(hse.o.iV 6 rfl y hy).1)
    rwa [Iz.o] at h9
   obtain⟨g,off,cap2,hg1,hg2,hg3,hg4,hg5⟩:=hrec.get (by rintro rfl;simp at hx);rw [HN.o,Ua.o] at hg1;obtain⟨rfl,rfl⟩:ra=some ⟨g,off,none⟩/\rc=cap2:=by injection hg1 with h1 h2 h3;exact⟨h1,h3⟩
   obtain⟨c0,c1,c2,fv,c3,hfv⟩:=hg5 k x hx;obtain⟨⟨m2,l2,t2⟩,hr⟩:=F.abU (k:=k+1) (by omega) nC.o;obtain⟨b,o,hrb,hno,hrq⟩:=F.anG hx hsp.o.1 hr;obtain⟨hab,qO,TV,hone,hsh⟩:=F.amN hrb;obtain⟨ln,xa,xb,fs⟩:=x;simp only at hab qO TV hsh hno hrq c0 c1 c2 c3 hfv;subst hab;obtain⟨fg,fo,fc,rfl,hf2,hf3,hf4,hf5⟩:=hfv.get (by rintro rfl;simp at TV);obtain⟨fl,hfl⟩:∃ fl,fs.length=fl:=⟨_,rfl⟩
   rw [hfl] at hf2 TV c3;have hfd:∀ i,i<fl->fs[i]?=some (fs.getD i []):=λi hi=>by rw [List.getD_eq_getElem?_getD,List.getElem?_eq_getElem (by omega)];rfl
   have jP:=bx (λi (hi:i<fl)=>F.aiP HPP.o _ (List.mem_of_getElem? hx) (fs.getD i []) (List.mem_of_getElem? (hfd i hi)));have aB:=bx (λW (h:Below wr.heap.size wr W)=>show W.cell? ⟨fg,fo+11,none⟩=some (.string (bs (fs.getD 11 [])))/\W.cell? ⟨fg,fo+12,none⟩=some (.string (bs (fs.getD 12 [])))/\W.cell? ⟨fg,fo+13,none⟩=some (.string (bs (fs.getD 13 []))) from
    ⟨(h.cell (p:=⟨fg,fo+11,none⟩) hf4).trans (hf5 11 _ (hfd 11 (by omega))),(h.cell (p:=⟨fg,fo+12,none⟩) hf4).trans (hf5 12 _ (hfd 12 (by omega))),(h.cell (p:=⟨fg,fo+13,none⟩) hf4).trans (hf5 13 _ (hfd 13 (by omega)))⟩)
   have BM:=bx (λW (h:Below wr.heap.size wr W)=>show fg<W.heap.size from Nat.lt_of_lt_of_le hf4 h.size);have bI:=bx (λW=>qO▸wC xa W);have HSH:=bx hsh;have Nj:=bx (show F.sV rs (k+1)=some (met++[xa],if b=true then F.BL (LO.map (·.1)) xa o else LO.map (·.1),if b=true then TI.map (·.1) else F.BL (TI.map (·.1)) xa o) by rw [hr,hrq]);have jS:=bx hno;have sO:=bx hone;have HS2:=bx (hse.o.dh 171 #[.int .i64 ln, .int .i64 xa, .int .i64 xa, .slice (some ⟨fg,fo,none⟩) fl fc]);have HB2:=bx (aS wr (.cells #[.int .i64 ln, .int .i64 xa, .int .i64 xa, .slice (some ⟨fg,fo,none⟩) fl fc] 171));have e14:decide ((fl:Int)<14)=false:=decide_eq_false (by omega);unfold maxLen at hg3 hf3;clear hx hg1 hg2 hg5 hr hrb hrq hsh hno hone qO hfv hf5 hfd hfl hrec;go_wp2_with fail;obtain⟨X,hX⟩:∃ X,wr.heap.size=X:=⟨_,rfl⟩
   rw [hX] at HS2 ⊢;clear hX;generalize (wr.alloc (.cells #[.int .i64 ln, .int .i64 xa, .int .i64 xa, .slice (some ⟨fg,fo,none⟩) fl fc] 171))=w2 at HS2 HB2 ⊢;refine(bI.o _).mono ?_;rintro e w2' ⟨rfl,rfl⟩;have hx:=HS2.o.blk 0 rfl;have x1:w2.cell? ⟨X,1,none⟩=some (.int .i64 xa):=(hx.cell 1).trans rfl;have x3:w2.cell? ⟨X,3,none⟩=some (.slice (some ⟨fg,fo,none⟩) fl fc):=(hx.cell 3).trans rfl;have xl:=hx.lt;clear hx
   rcases HSH.o with⟨rfl,hq11,hq12,MB⟩ | ⟨rfl,⟨q,hq11⟩,hq12,MB⟩
   ·have Vb:=bx hq11;have Wj:=bx hq12;have Vg:=bx MB;clear hq11 hq12 MB;obtain⟨f11,f12,f13⟩:=aB.o _ HB2.o;have yG:=BM.o _ HB2.o;have Lr:=bx (IG (fs.getD 11 []) [] w2 Vb.o (jP.o 11 (by omega)));go_wp2_with fail;refine Lr.o.mono ?_;rintro e w3 ⟨⟨v3,rfl,hv3,hfr3⟩,hb3⟩;have HB3:=bx (bt HB2.o hb3);obtain⟨a3,k3,rfl⟩:=hv3.slice;have aK:=bx (HS2.o.below hb3);clear hv3 hfr3 hb3 f11 f12 f13 yG x1 x3 xl;have hx:=aK.o.blk 0 rfl;have x1:w3.cell? ⟨X,1,none⟩=some (.int .i64 xa):=(hx.cell 1).trans rfl;have x3:w3.cell? ⟨X,3,none⟩=some (.slice (some ⟨fg,fo,none⟩) fl fc):=(hx.cell 3).trans rfl;have xl:=hx.lt;clear hx;obtain⟨f11,f12,f13⟩:=aB.o _ HB3.o;have yG:=BM.o _ HB3.o;have Q5:=bx (IG (fs.getD 12 []) o w3 Wj.o (jP.o 12 (by omega)));go_wp2_with fail;refine Q5.o.mono ?_;rintro e w4 ⟨⟨v4,rfl,hv4,JU⟩,hb4⟩;have HB4:=bx (bt HB3.o hb4);obtain⟨a4,k4,rfl⟩:=hv4.slice;have dn:=bx (Sep.NZ (b:=oq) (y:=(.slice a4 o.length k4,o)) (L:=B) (aK.o.Dl (b:=oq) (y:=(.slice a4 o.length k4,o)) hb4 ⟨hv4,λg hg=>(JU g hg).2⟩ (λg hg=>(JU g hg).1)) 5 rfl);clear hv4 JU hb4 f11 f12 f13 yG x1 x3 xl;have hx:=dn.o.blk 0 rfl;have x1:w4.cell? ⟨X,1,none⟩=some (.int .i64 xa):=(hx.cell 1).trans rfl;have x3:w4.cell? ⟨X,3,none⟩=some (.slice (some ⟨fg,fo,none⟩) fl fc):=(hx.cell 3).trans rfl;have xl:=hx.lt;clear hx;obtain⟨f11,f12,f13⟩:=aB.o _ HB4.o;have yG:=BM.o _ HB4.o;have UH:=bx (IG (fs.getD 13 []) [] w4 Vg.o (jP.o 13 (by omega)));go_wp2_with fail;refine UH.o.mono ?_;rintro e w5 ⟨⟨v5,rfl,hv5,Lu⟩,hb5⟩;have aP:=bx (bt HB4.o hb5);obtain⟨a5,k5,rfl⟩:=hv5.slice;have aG:=bx (dn.o.below hb5);clear hv5 Lu hb5 f11 f12 f13 yG x1 x3 xl;have hx:=aG.o.blk 0 rfl;have x1:w5.cell? ⟨X,1,none⟩=some (.int .i64 xa):=(hx.cell 1).trans rfl;have x3:w5.cell? ⟨X,3,none⟩=some (.slice (some ⟨fg,fo,none⟩) fl fc):=(hx.cell 3).trans rfl;have xl:=hx.lt;clear hx;have KN:=bx (adD (.slice ma met.length mc) met xa w5 (ay.dL (aG.o.row 2 rfl) rfl) (by have:=hsp.o.2.2.2.2.2;have:=vJ.o;omega));rw [jS.o] at KN;obtain⟨no,hno⟩:∃ no,o.length=no:=⟨_,rfl⟩
    have RF:=bx hno;have anP:0<no:=by rw [<- hno];exact List.length_pos_iff.2 sO.o
    rw [hno];have e0:((no:Int)==0)=false:=by rw [beq_eq_false_iff_ne];omega
    have e1:decide ((0:Int)<(no:Int))=true:=decide_eq_true (by omega);clear hno;go_wp2_with fail;refine KN.o.mono ?_;rintro e w6 ⟨rfl,rfl⟩;have hc:=aG.o.blk 1 rfl;have d0:w5.cell? ⟨n,0,none⟩=some (.slice la (LO.map pr).length lc):=(hc.cell 0).trans rfl;have d1:w5.cell? ⟨n,1,none⟩=some (.slice ta (TI.map pr).length tc):=(hc.cell 1).trans rfl;have CG:=hc.frozen 0;have AV:=hc.frozen 1;have dl:=hc.lt;clear hc;have hbs:n<=w5.heap.size:=(aG.o.at' 9 (p:=Pc.old n w) rfl).1;have hmk:met.length<=1000000000:=by have:=hsp.o.2.2.2.2.2;have:=vJ.o;omega
    clear x1 x3 xl d0 d1 CG AV dl;have hx:=aG.o.blk 0 rfl;have x1:w5.cell? ⟨X,1,none⟩=some (.int .i64 xa):=(hx.cell 1).trans rfl;have x3:w5.cell? ⟨X,3,none⟩=some (.slice (some ⟨fg,fo,none⟩) fl fc):=(hx.cell 3).trans rfl;have xl:=hx.lt;clear hx;go_wp2_with (at_builtin;refine lI (u:=.int .i64 xa) rfl _ _ 23 rfl mQ aG.o 2 rfl rfl rfl rfl hmk (by omega) hbs ?_;rintro v' w7 hS7 ⟨gm,TB,rfl,-,-⟩;have bH:=bx hS7;have hx:=bH.o.blk 0 rfl;have x1:w7.cell? ⟨X,1,none⟩=some (.int .i64 xa):=(hx.cell 1).trans rfl;have xl:=hx.lt;have hc:=bH.o.blk 1 rfl;have d0:w7.cell? ⟨n,0,none⟩=some (.slice la (LO.map pr).length lc):=(hc.cell 0).trans rfl;have d1:w7.cell? ⟨n,1,none⟩=some (.slice ta (TI.map pr).length tc):=(hc.cell 1).trans rfl;have CG:=hc.frozen 0;have AV:=hc.frozen 1;have dl:=hc.lt;clear hS7 hx hc)
    have hpu:=abh (.slice la (LO.map pr).length lc) (LO.map pr) xa (.slice a4 no k4) w7 (WW (bH.o.row 3 rfl)) hsp.o.2.1.prs ⟨_,_,_,rfl⟩ (by rw [List.length_map];have h1:=hsp.o.2.2.2.1;have h2:=hsp.o.2.2.2.2.1;have h3:=vJ.o;omega);rw [<- Zf LO xa o,List.length_map] at hpu;have H6:=bx hpu;clear hpu;refine H6.o.mono ?_;rintro e w8 ⟨⟨v8,rfl,hown⟩,hb8⟩;have LH:n<=w7.heap.size:=(bH.o.at' 9 (p:=Pc.old n w) rfl).1;have dW:=(bH.o.got hb8 hown LH).join 3 rfl (Sep.head (bH.o.got hb8 hown LH)) (λ_ hk=>.inl hk);obtain⟨sa,sc,rfl,hs1,hs2⟩:=dN hown;obtain⟨sn,hsn⟩:∃ sn,((rO LO xa o (.slice a4 no k4)).map pr).length=sn:=⟨_,rfl⟩
    have gU:=bx hsn;rw [hsn] at dW ⊢;have dS:=bx dW;clear dW hown hb8 hs1 hs2 hsn x1 xl d0 d1 CG AV dl;have hc:=dS.o.blk 1 rfl;have d0:w8.cell? ⟨n,0,none⟩=some (.slice la (LO.map pr).length lc):=(hc.cell 0).trans rfl;have d1:w8.cell? ⟨n,1,none⟩=some (.slice ta (TI.map pr).length tc):=(hc.cell 1).trans rfl;have CG:=hc.frozen 0;have AV:=hc.frozen 1;have dl:=hc.lt;clear hc;have fE:=bx (show Sep (Ie n w n (n+1) (.slice sa sn sc) (.slice ta (TI.map pr).length tc) (.slice (some ⟨gm,0,none⟩) (met.length+1) TB) (.slice (some ⟨g,off,none⟩) RL.length rc) (met++[xa]) (rO LO xa o (.slice a4 no k4)) TI (B++[(.slice a4 no k4,o)]) RL) (w8.setCell ⟨n,0,none⟩ (.slice sa sn sc)) by
     have h9:=(dS.o.set 1 rfl 0 (.slice sa sn sc)).tail;rw [RF.o] at h9;rw [<- gU.o] at h9 ⊢;simp only [Ie,List.map_append,List.length_append];exact h9)
    have HI:=bx (show F.sV rs (k+1)=some (met++[xa],(rO LO xa o (.slice a4 no k4)).map (·.1),TI.map (·.1))/\qm (rO LO xa o (.slice a4 no k4)) (B++[(.slice a4 no k4,o)])/\qm TI (B++[(.slice a4 no k4,o)])/\(rO LO xa o (.slice a4 no k4)).length<=k+1/\TI.length<=k+1/\(met++[xa]).length=k+1 from⟨by rw [Nj.o];simp only [if_true];rw [acz],qm.put hsp.o.2.1 ⟨_,_,_,rfl⟩,hsp.o.2.2.1.more,by have:=ado (λy:jV=>y.1.1) LO ((xa,o), .slice a4 no k4);have:=hsp.o.2.2.2.1;show (rO LO xa o (.slice a4 no k4)).length<=k+1;unfold rO;omega,by have:=hsp.o.2.2.2.2.1;omega,by rw [List.length_append,hsp.o.2.2.2.2.2];rfl⟩);go_wp2_with fail
    go_roundw
    case rel=>exact⟨k+1,_,_,_,_,_,_,hlt,by go_num,HI,fE⟩
    case measure=>simp [intOf];omega
   ·have Vb:=bx hq11;have Wj:=bx hq12;have Vg:=bx MB;clear hq11 hq12 MB;obtain⟨f11,f12,f13⟩:=aB.o _ HB2.o;have yG:=BM.o _ HB2.o;have Lr:=bx (IG (fs.getD 11 []) q w2 Vb.o (jP.o 11 (by omega)));go_wp2_with fail;refine Lr.o.mono ?_;rintro e w3 ⟨⟨v3,rfl,hv3,hfr3⟩,hb3⟩;have HB3:=bx (bt HB2.o hb3);obtain⟨a3,k3,rfl⟩:=hv3.slice;have aK:=bx (HS2.o.below hb3);clear hv3 hfr3 hb3 f11 f12 f13 yG x1 x3 xl;have hx:=aK.o.blk 0 rfl;have x1:w3.cell? ⟨X,1,none⟩=some (.int .i64 xa):=(hx.cell 1).trans rfl;have x3:w3.cell? ⟨X,3,none⟩=some (.slice (some ⟨fg,fo,none⟩) fl fc):=(hx.cell 3).trans rfl;have xl:=hx.lt;clear hx;obtain⟨f11,f12,f13⟩:=aB.o _ HB3.o;have yG:=BM.o _ HB3.o;have Q5:=bx (IG (fs.getD 12 []) [] w3 Wj.o (jP.o 12 (by omega)));go_wp2_with fail;refine Q5.o.mono ?_;rintro e w4 ⟨⟨v4,rfl,hv4,JU⟩,hb4⟩;have HB4:=bx (bt HB3.o hb4);obtain⟨a4,k4,rfl⟩:=hv4.slice;have dn:=bx (aK.o.below hb4);clear hv4 JU hb4 f11 f12 f13 yG x1 x3 xl;have hx:=dn.o.blk 0 rfl;have x1:w4.cell? ⟨X,1,none⟩=some (.int .i64 xa):=(hx.cell 1).trans rfl;have x3:w4.cell? ⟨X,3,none⟩=some (.slice (some ⟨fg,fo,none⟩) fl fc):=(hx.cell 3).trans rfl;have xl:=hx.lt;clear hx;obtain⟨f11,f12,f13⟩:=aB.o _ HB4.o;have yG:=BM.o _ HB4.o;have UH:=bx (IG (fs.getD 13 []) o w4 Vg.o (jP.o 13 (by omega)));go_wp2_with fail;refine UH.o.mono ?_;rintro e w5 ⟨⟨v5,rfl,hv5,Lu⟩,hb5⟩;have aP:=bx (bt HB4.o hb5);obtain⟨a5,k5,rfl⟩:=hv5.slice;have aG:=bx (Sep.NZ (b:=oq) (y:=(.slice a5 o.length k5,o)) (L:=B) (dn.o.Dl (b:=oq) (y:=(.slice a5 o.length k5,o)) hb5 ⟨hv5,λg hg=>(Lu g hg).2⟩ (λg hg=>(Lu g hg).1)) 5 rfl);clear hv5 Lu hb5 f11 f12 f13 yG x1 x3 xl;have hx:=aG.o.blk 0 rfl;have x1:w5.cell? ⟨X,1,none⟩=some (.int .i64 xa):=(hx.cell 1).trans rfl;have x3:w5.cell? ⟨X,3,none⟩=some (.slice (some ⟨fg,fo,none⟩) fl fc):=(hx.cell 3).trans rfl;have xl:=hx.lt;clear hx;have KN:=bx (adD (.slice ma met.length mc) met xa w5 (ay.dL (aG.o.row 2 rfl) rfl) (by have:=hsp.o.2.2.2.2.2;have:=vJ.o;omega));rw [jS.o] at KN;obtain⟨no,hno⟩:∃ no,o.length=no:=⟨_,rfl⟩
    have RF:=bx hno;have anP:0<no:=by rw [<- hno];exact List.length_pos_iff.2 sO.o
    rw [hno];have e0:((no:Int)==0)=false:=by rw [beq_eq_false_iff_ne];omega
    have e1:decide ((0:Int)<(no:Int))=true:=decide_eq_true (by omega);clear hno;go_wp2_with fail;refine KN.o.mono ?_;rintro e w6 ⟨rfl,rfl⟩;have hc:=aG.o.blk 1 rfl;have d0:w5.cell? ⟨n,0,none⟩=some (.slice la (LO.map pr).length lc):=(hc.cell 0).trans rfl;have d1:w5.cell? ⟨n,1,none⟩=some (.slice ta (TI.map pr).length tc):=(hc.cell 1).trans rfl;have CG:=hc.frozen 0;have AV:=hc.frozen 1;have dl:=hc.lt;clear hc;have hbs:n<=w5.heap.size:=(aG.o.at' 9 (p:=Pc.old n w) rfl).1;have hmk:met.length<=1000000000:=by have:=hsp.o.2.2.2.2.2;have:=vJ.o;omega
    clear x1 x3 xl d0 d1 CG AV dl;have hx:=aG.o.blk 0 rfl;have x1:w5.cell? ⟨X,1,none⟩=some (.int .i64 xa):=(hx.cell 1).trans rfl;have x3:w5.cell? ⟨X,3,none⟩=some (.slice (some ⟨fg,fo,none⟩) fl fc):=(hx.cell 3).trans rfl;have xl:=hx.lt;clear hx;go_wp2_with (at_builtin;refine lI (u:=.int .i64 xa) rfl _ _ 23 rfl mQ aG.o 2 rfl rfl rfl rfl hmk (by omega) hbs ?_;rintro v' w7 hS7 ⟨gm,TB,rfl,-,-⟩;have bH:=bx hS7;have hx:=bH.o.blk 0 rfl;have x1:w7.cell? ⟨X,1,none⟩=some (.int .i64 xa):=(hx.cell 1).trans rfl;have xl:=hx.lt;have hc:=bH.o.blk 1 rfl;have d0:w7.cell? ⟨n,0,none⟩=some (.slice la (LO.map pr).length lc):=(hc.cell 0).trans rfl;have d1:w7.cell? ⟨n,1,none⟩=some (.slice ta (TI.map pr).length tc):=(hc.cell 1).trans rfl;have CG:=hc.frozen 0;have AV:=hc.frozen 1;have dl:=hc.lt;clear hS7 hx hc)
    have hpu:=abh (.slice ta (TI.map pr).length tc) (TI.map pr) xa (.slice a5 no k5) w7 (WW (bH.o.row 4 rfl)) hsp.o.2.2.1.prs ⟨_,_,_,rfl⟩ (by rw [List.length_map];have h1:=hsp.o.2.2.2.1;have h2:=hsp.o.2.2.2.2.1;have h3:=vJ.o;omega);rw [<- Zf TI xa o,List.length_map] at hpu;have H6:=bx hpu;clear hpu;refine H6.o.mono ?_;rintro e w8 ⟨⟨v8,rfl,hown⟩,hb8⟩;have LH:n<=w7.heap.size:=(bH.o.at' 9 (p:=Pc.old n w) rfl).1;have dW:=(bH.o.got hb8 hown LH).join 4 rfl (Sep.head (bH.o.got hb8 hown LH)) (λ_ hk=>.inl hk);obtain⟨sa,sc,rfl,hs1,hs2⟩:=dN hown;obtain⟨sn,hsn⟩:∃ sn,((rO TI xa o (.slice a5 no k5)).map pr).length=sn:=⟨_,rfl⟩
    have gU:=bx hsn;rw [hsn] at dW ⊢;have dS:=bx dW;clear dW hown hb8 hs1 hs2 hsn x1 xl d0 d1 CG AV dl;have hc:=dS.o.blk 1 rfl;have d0:w8.cell? ⟨n,0,none⟩=some (.slice la (LO.map pr).length lc):=(hc.cell 0).trans rfl;have d1:w8.cell? ⟨n,1,none⟩=some (.slice ta (TI.map pr).length tc):=(hc.cell 1).trans rfl;have CG:=hc.frozen 0;have AV:=hc.frozen 1;have dl:=hc.lt;clear hc;have fE:=bx (show Sep (Ie n w n (n+1) (.slice la (LO.map pr).length lc) (.slice sa sn sc) (.slice (some ⟨gm,0,none⟩) (met.length+1) TB) (.slice (some ⟨g,off,none⟩) RL.length rc) (met++[xa]) LO (rO TI xa o (.slice a5 no k5)) (B++[(.slice a5 no k5,o)]) RL) (w8.setCell ⟨n,1,none⟩ (.slice sa sn sc)) by
     have h9:=(dS.o.set 1 rfl 1 (.slice sa sn sc)).tail;rw [RF.o] at h9;rw [<- gU.o] at h9 ⊢;simp only [Ie,List.map_append,List.length_append];exact h9)
    have HI:=bx (show F.sV rs (k+1)=some (met++[xa],LO.map (·.1),(rO TI xa o (.slice a5 no k5)).map (·.1))/\qm LO (B++[(.slice a5 no k5,o)])/\qm (rO TI xa o (.slice a5 no k5)) (B++[(.slice a5 no k5,o)])/\LO.length<=k+1/\(rO TI xa o (.slice a5 no k5)).length<=k+1/\(met++[xa]).length=k+1 from⟨by rw [Nj.o];simp only [Bool.false_eq_true,if_false];rw [acz],hsp.o.2.1.more,qm.put hsp.o.2.2.1 ⟨_,_,_,rfl⟩,by have:=hsp.o.2.2.2.1;omega,by have:=ado (λy:jV=>y.1.1) TI ((xa,o), .slice a5 no k5);have:=hsp.o.2.2.2.2.1;show (rO TI xa o (.slice a5 no k5)).length<=k+1;unfold rO;omega,by rw [List.length_append,hsp.o.2.2.2.2.2];rfl⟩);go_wp2_with fail
    go_roundw
    case rel=>exact⟨k+1,_,_,_,_,_,_,hlt,by go_num,HI,fE⟩
    case measure=>simp [intOf];omega
  ·obtain rfl:k=N:=by omega
   have hq:=hsp.o.1.symm.trans nC.o;simp only [Option.some.injEq,Prod.mk.injEq] at hq;obtain⟨-,hlo,hti⟩:=hq;have qH:=bx hlo;have iD:=bx hti;clear hlo hti;have hc:=hse.o.blk 0 rfl;have hr:=hse.o.blk 7 rfl;have xG:=bx (show ak wr (n+1) 28 #[.slice none 0 0, .slice none 0 0, .slice none 0 0, .slice none 0 0, .slice none 0 0, .slice none 0 0] from hr);have d0:wr.cell? ⟨n,0,none⟩=some (.slice la LO.length lc):=by have h7:=(hc.cell 0).trans (show _=some (Value.slice la (LO.map pr).length lc) from rfl);rwa [List.length_map] at h7
   have d1:wr.cell? ⟨n,1,none⟩=some (.slice ta TI.length tc):=by have h7:=(hc.cell 1).trans (show _=some (Value.slice ta (TI.map pr).length tc) from rfl);rwa [List.length_map] at h7
   have d2:wr.cell? ⟨n,2,none⟩=some (.slice none 0 0):=(hc.cell 2).trans rfl;have d3:wr.cell? ⟨n,3,none⟩=some (.slice none 0 0):=(hc.cell 3).trans rfl;have d4:wr.cell? ⟨n,4,none⟩=some (.slice none 0 0):=(hc.cell 4).trans rfl;have d5:wr.cell? ⟨n,5,none⟩=some (.slice none 0 0):=(hc.cell 5).trans rfl;have r0:wr.cell? ⟨n+1,0,none⟩=some (.slice none 0 0):=(hr.cell 0).trans rfl;have f0:=hr.frozen 0;have r1:wr.cell? ⟨n+1,1,none⟩=some (.slice none 0 0):=(hr.cell 1).trans rfl;have f1:=hr.frozen 1;have r2:wr.cell? ⟨n+1,2,none⟩=some (.slice none 0 0):=(hr.cell 2).trans rfl;have f2:=hr.frozen 2;have r3:wr.cell? ⟨n+1,3,none⟩=some (.slice none 0 0):=(hr.cell 3).trans rfl;have f3:=hr.frozen 3;have r4:wr.cell? ⟨n+1,4,none⟩=some (.slice none 0 0):=(hr.cell 4).trans rfl;have f4:=hr.frozen 4;have r5:wr.cell? ⟨n+1,5,none⟩=some (.slice none 0 0):=(hr.cell 5).trans rfl;have f5:=hr.frozen 5;have dl:=hc.lt;have rl:=hr.lt;clear hc hr;go_wp2_with fail;have hT:Turns (λq=>q=n+1) wr ((((((wr.setCell ⟨n+1,0,none⟩ (.slice la LO.length lc)).setCell ⟨n+1,1,none⟩ (.slice ta TI.length tc)).setCell ⟨n+1,2,none⟩ (.slice none 0 0)).setCell ⟨n+1,3,none⟩ (.slice none 0 0)).setCell ⟨n+1,4,none⟩ (.slice none 0 0)).setCell ⟨n+1,5,none⟩ (.slice none 0 0)):=((((((Turns.setCell (own:=λq=>q=n+1) _ (p:=⟨n+1,0,none⟩) rfl _).trans (Turns.setCell (own:=λq=>q=n+1) _ (p:=⟨n+1,1,none⟩) rfl _)).trans (Turns.setCell (own:=λq=>q=n+1) _ (p:=⟨n+1,2,none⟩) rfl _)).trans (Turns.setCell (own:=λq=>q=n+1) _ (p:=⟨n+1,3,none⟩) rfl _)).trans (Turns.setCell (own:=λq=>q=n+1) _ (p:=⟨n+1,4,none⟩) rfl _)).trans (Turns.setCell (own:=λq=>q=n+1) _ (p:=⟨n+1,5,none⟩) rfl _))
   have hf:=hse.o.front 7 rfl;have hk:Sep _ ((((((wr.setCell ⟨n+1,0,none⟩ (.slice la LO.length lc)).setCell ⟨n+1,1,none⟩ (.slice ta TI.length tc)).setCell ⟨n+1,2,none⟩ (.slice none 0 0)).setCell ⟨n+1,3,none⟩ (.slice none 0 0)).setCell ⟨n+1,4,none⟩ (.slice none 0 0)).setCell ⟨n+1,5,none⟩ (.slice none 0 0)):=hf.tail.keep hT (λp hp q hq e=>hf.apart hp (k:=n+1) rfl (e▸hq));refine bodyPost_ret (v:=.tuple #[.agg #[.slice la LO.length lc, .slice ta TI.length tc, .slice none 0 0, .slice none 0 0, .slice none 0 0, .slice none 0 0], .int .i64 0, .int .i64 0]) (GV Tryz.results62 _ _ (n+1) 28 #[.slice la LO.length lc, .slice ta TI.length tc, .slice none 0 0, .slice none 0 0, .slice none 0 0, .slice none 0 0] (0,0) _ rfl ((((((xG.o.bP 0 (.slice la LO.length lc)).bP 1 (.slice ta TI.length tc)).bP 2 (.slice none 0 0)).bP 3 (.slice none 0 0)).bP 4 (.slice none 0 0)).bP 5 (.slice none 0 0)) Tryz.underlying28 rfl QV) rfl ⟨_,_,rfl,LO,qH.o,TI,iD.o,B,hsp.o.2.1,hsp.o.2.2.1,?_⟩;rw [nJ.o];have h9:=(((hk.drop 6).drop 5).drop 1).tail;simp only [List.length_map] at h9;exact h9
def lK (w:World) (v:Value) (l:List F.Map):Prop:=∃ L:List jV,L.map (·.1)=l/\lY 2 w v ((L.map pr).map eG)/\∀ y∈L,ay w y.2 y.1.2
theorem lK.below {w w':World} {v:Value} {l:List F.Map} (h:lK w v l) (hb:Below w.heap.size w w'):lK w' v l:=by
 obtain⟨L,h1,h2,h3⟩:=h;exact⟨L,h1,h2.below hb,λy hy=>(h3 y hy).below hb⟩
def bC (w:World) (v:Value) (c:T.Cs):Prop:=∃ lv tv ci cb gi gb,v = .agg #[lv,tv,ci,cb,gi,gb]/\lK w lv c.lo/\lK w tv c.ti/\ay w ci c.ca.1/\iq w cb c.ca.2/\ay w gi c.ig.1/\iq w gb c.ig.2
theorem bC.below {w w':World} {v:Value} {c:T.Cs} (h:bC w v c) (hb:Below w.heap.size w w'):bC w' v c:=by
 obtain⟨lv,tv,ci,cb,gi,gb,h0,h1,h2,h3,h4,h5,h6⟩:=h;exact⟨lv,tv,ci,cb,gi,gb,h0,h1.below hb,h2.below hb,h3.below hb,h4.below hb,h5.below hb,h6.below hb⟩
theorem aml {P:Program} {fn:Func} {p u u2 u3:Tmp} {ty:TypeId} (h:fn.results=#[.cell p ty, .tmp u, .tmp u2, .tmp u3]) (tmps:Array Value) (w:World) (g:Nat) (t:TypeId) (cs:Array Value) (fr:Nat×Nat) (d:TypeDesc)
  (hp:tmps.getD p undef = .pointer (some ⟨g,0,none⟩)) (hg:w.heap[g]?=some (.cells cs t fr)) (hu:P.underlying ty=some d) (hd:(match d with | .struct _ | .array _ _=>true | _=>false)=true) (hi:(P.info? ty).map (·.size)=some cs.size) :
  (results fn tmps).run P w = .ok (.tuple #[.agg cs,tmps.getD u undef,tmps.getD u2 undef,tmps.getD u3 undef]) w:=by
 have hp':tmps[p]?.getD undef = .pointer (some ⟨g,0,none⟩):=by simpa using hp
 simp [results,h,hp',asAddr,run_loadVar_row w g t ty cs fr d hg hu hd hi,Result.andThen]
theorem F.parse_nil:F.parse []=some []:=by kernel_rfl
theorem Sep.lone {ps:List Pc} {W W':World} {g:Nat} {t:TypeId} {cs:Array Value} (h:Sep ps W) (i:Nat) (hi:ps[i]?=some (Pc.blk g t cs)) (ht:Turns (λq=>q=g) W W'):Sep (ps.eraseIdx i) W':=by
 have hf:=h.front i hi;exact hf.tail.keep ht (λp hp q hq e=>hf.apart hp (k:=g) rfl (e▸hq))
theorem aiM (la ta:Option Addr) (ln lc tn tc:Nat) (w:World) :
  Calls Tryz.prog 63 #[.string (bs []), .agg #[.slice la ln lc, .slice ta tn tc, .slice none 0 0, .slice none 0 0, .slice none 0 0, .slice none 0 0]] w λe w'=>e = .returned (.tuple #[.agg #[.slice la ln lc, .slice ta tn tc, .slice none 0 0, .slice none 0 0, .slice none 0 0, .slice none 0 0], .int .i64 0, .int .i64 0])/\Below w.heap.size w w':=by
 obtain⟨V,hV⟩:∃ V,V=(w.alloc (.cells #[.slice la ln lc, .slice ta tn tc, .slice none 0 0, .slice none 0 0, .slice none 0 0, .slice none 0 0] 28)).alloc (.cells #[.slice none 0 0, .slice none 0 0, .slice none 0 0, .slice none 0 0, .slice none 0 0, .slice none 0 0] 28):=⟨_,rfl⟩
 have h2:=((Sep.start w).dh 28 #[.slice la ln lc, .slice ta tn tc, .slice none 0 0, .slice none 0 0, .slice none 0 0, .slice none 0 0]).dh 28 #[.slice none 0 0, .slice none 0 0, .slice none 0 0, .slice none 0 0, .slice none 0 0, .slice none 0 0];rw [show (w.alloc (.cells #[.slice la ln lc, .slice ta tn tc, .slice none 0 0, .slice none 0 0, .slice none 0 0, .slice none 0 0] 28)).heap.size=w.heap.size+1 by simp,<- hV] at h2;have tV:=bx h2;have zA:=bx (aaP [] [] V F.parse_nil);have HV:=bx hV;clear hV h2
 go_enter Tryz.func63,Tryz.ntmps63
 go_upto_region 1 with(fail)
 rw [<- HV.o];obtain⟨n,hn⟩:∃ n,w.heap.size=n:=⟨_,rfl⟩
 rw [hn] at tV ⊢;have nJ:=bx hn;clear hn HV;go_wp2_with fail;refine zA.o.mono ?_;rintro e w1 ⟨⟨v,rfl,hv⟩,hb1⟩;have bQ:=bx (tV.o.below hb1);obtain⟨va,vc,rfl,-,-⟩:=hv.slice;clear hb1 hv;rw [List.length_nil];have hcx:=bQ.o.blk 1 rfl;have c0:w1.cell? ⟨n,0,none⟩=some (.slice la ln lc):=(hcx.cell 0).trans rfl;have c1:w1.cell? ⟨n,1,none⟩=some (.slice ta tn tc):=(hcx.cell 1).trans rfl;have c2:w1.cell? ⟨n,2,none⟩=some (.slice none 0 0):=(hcx.cell 2).trans rfl;have c3:w1.cell? ⟨n,3,none⟩=some (.slice none 0 0):=(hcx.cell 3).trans rfl;have c4:w1.cell? ⟨n,4,none⟩=some (.slice none 0 0):=(hcx.cell 4).trans rfl;have c5:w1.cell? ⟨n,5,none⟩=some (.slice none 0 0):=(hcx.cell 5).trans rfl;have cl:=hcx.lt;clear hcx;have hrx:=bQ.o.blk 0 rfl;have r0:w1.cell? ⟨n+1,0,none⟩=some (.slice none 0 0):=(hrx.cell 0).trans rfl;have r1:w1.cell? ⟨n+1,1,none⟩=some (.slice none 0 0):=(hrx.cell 1).trans rfl;have r2:w1.cell? ⟨n+1,2,none⟩=some (.slice none 0 0):=(hrx.cell 2).trans rfl;have r3:w1.cell? ⟨n+1,3,none⟩=some (.slice none 0 0):=(hrx.cell 3).trans rfl;have r4:w1.cell? ⟨n+1,4,none⟩=some (.slice none 0 0):=(hrx.cell 4).trans rfl;have r5:w1.cell? ⟨n+1,5,none⟩=some (.slice none 0 0):=(hrx.cell 5).trans rfl;have F6:=hrx.frozen 0;have FD:=hrx.frozen 1;have rf2:=hrx.frozen 2;have rf3:=hrx.frozen 3;have rf4:=hrx.frozen 4;have rf5:=hrx.frozen 5;have rl:=hrx.lt;clear hrx;have xG:=bx (show ak w1 (n+1) 28 #[.slice none 0 0, .slice none 0 0, .slice none 0 0, .slice none 0 0, .slice none 0 0, .slice none 0 0] from bQ.o.blk 0 rfl);go_wp2_with fail;refine wp_loop_rounds 1 ?_;rw [rounds_succ];go_wp2_with fail;have hT:Turns (λq=>q=n+1) w1 ((((((w1.setCell ⟨n+1,0,none⟩ (.slice la ln lc)).setCell ⟨n+1,1,none⟩ (.slice ta tn tc)).setCell ⟨n+1,2,none⟩ (.slice none 0 0)).setCell ⟨n+1,3,none⟩ (.slice none 0 0)).setCell ⟨n+1,4,none⟩ (.slice none 0 0)).setCell ⟨n+1,5,none⟩ (.slice none 0 0)):=((((((Turns.setCell (own:=λq=>q=n+1) _ (p:=⟨n+1,0,none⟩) rfl _).trans (Turns.setCell (own:=λq=>q=n+1) _ (p:=⟨n+1,1,none⟩) rfl _)).trans (Turns.setCell (own:=λq=>q=n+1) _ (p:=⟨n+1,2,none⟩) rfl _)).trans (Turns.setCell (own:=λq=>q=n+1) _ (p:=⟨n+1,3,none⟩) rfl _)).trans (Turns.setCell (own:=λq=>q=n+1) _ (p:=⟨n+1,4,none⟩) rfl _)).trans (Turns.setCell (own:=λq=>q=n+1) _ (p:=⟨n+1,5,none⟩) rfl _))
 have hk:=(bQ.o.lone 0 rfl hT).tail;exact bodyPost_ret (v:=.tuple #[.agg #[.slice la ln lc, .slice ta tn tc, .slice none 0 0, .slice none 0 0, .slice none 0 0, .slice none 0 0], .int .i64 0, .int .i64 0]) (GV Tryz.results63 _ _ (n+1) 28 #[.slice la ln lc, .slice ta tn tc, .slice none 0 0, .slice none 0 0, .slice none 0 0, .slice none 0 0] (0,0) _ rfl ((((((xG.o.bP 0 (.slice la ln lc)).bP 1 (.slice ta tn tc)).bP 2 (.slice none 0 0)).bP 3 (.slice none 0 0)).bP 4 (.slice none 0 0)).bP 5 (.slice none 0 0)) Tryz.underlying28 rfl QV) rfl ⟨rfl,by rw [nJ.o];exact hk.bel (n:=n) (W0:=w) (by simp)⟩
theorem Sep.write {ps:List Pc} {W W':World} {g:Nat} {t:TypeId} {cs cs':Array Value} (h:Sep ps W) (i:Nat) (hi:ps[i]?=some (Pc.blk g t cs)) (ht:Turns (λq=>q=g) W W') (hb:ak W' g t cs'):Sep (ps.set i (Pc.blk g t cs')) W' :=
 h.upd i hi ht (λ_ hq _=>hq) hb (λ_ hk=>.inl hk)
theorem adF {w:World} {n:Nat} {T:TypeId} {v:Value} {L:List jV} {B:List (Value×List Int)} (h:w.ownsRow n T 2 v (L.map pr).length ((L.map pr).flatMap eG)) (hb:(Pc.iV oq B).ok w) (hi:qm L B):lK w v (L.map (·.1)) :=
 ⟨L,rfl,WW h,λy hy=>(hb _ (hi y hy).1).1⟩
theorem ahf (a c:List UInt8) (rs:List F.Rec) (met:List Int) (lo ti:List F.Map) (t1 t2:List F.bJ) (w:World) (hp:F.parse a=some rs) (hd:F.sV rs rs.length=some (met,lo,ti))
  (h1:F.Bh c [[78,111],[67,97,115,101,100]] true=some t1) (hr1:F.tX t1=true) (h2:F.Bh c [[78,111],[67,97,115,101,95,73,103,110,111,114,97,98,108,101]] true=some t2) (hr2:F.tX t2=true) :
  Calls Tryz.prog 31 #[.string (bs a), .string (bs []), .string (bs c)] w λe w'=>(∃ v,e = .returned (.tuple #[v, .int .i64 0, .int .i64 0, .int .i64 0])/\bC w' v ⟨lo,ti,F.iR t1,F.iR t2⟩)/\Below w.heap.size w w':=by
 obtain⟨zq,hT1⟩:∃ TT,F.iR t1=TT:=⟨_,rfl⟩
 obtain⟨Ce,hT2⟩:∃ TT,F.iR t2=TT:=⟨_,rfl⟩
 rw [hT1,hT2];obtain⟨V,hV⟩:∃ V,V=w.alloc (.cells #[.slice none 0 0, .slice none 0 0, .slice none 0 0, .slice none 0 0, .slice none 0 0, .slice none 0 0] 28):=⟨_,rfl⟩
 have aU:=bx (show Sep [Pc.blk w.heap.size 28 #[.slice none 0 0, .slice none 0 0, .slice none 0 0, .slice none 0 0, .slice none 0 0, .slice none 0 0],Pc.old w.heap.size w] V by rw [hV];exact(Sep.start w).dh 28 #[.slice none 0 0, .slice none 0 0, .slice none 0 0, .slice none 0 0, .slice none 0 0, .slice none 0 0]);have J5:=bx (amF a rs met lo ti V hp hd);have nV:=bx (λW=>hT1▸acC c [67,97,115,101,100] t1 W (by decide +kernel) h1 hr1);have HC2:=bx (λW=>hT2▸acC c [67,97,115,101,95,73,103,110,111,114,97,98,108,101] t2 W (by decide +kernel) h2 hr2);have hn1:bs [67,97,115,101,100]={ data:=#[67,97,115,101,100] }:=rfl;have hn2:bs [67,97,115,101,95,73,103,110,111,114,97,98,108,101]={ data:=#[67,97,115,101,95,73,103,110,111,114,97,98,108,101] }:=rfl;rw [hn1] at nV;rw [hn2] at HC2;have HV:=bx hV;clear hp hd h1 hr1 h2 hr2 hT1 hT2 hV hn1 hn2
 go_enter Tryz.func31,Tryz.ntmps31
 go_upto_region 1 with(fail)
 rw [<- HV.o];obtain⟨n,hn⟩:∃ n,w.heap.size=n:=⟨_,rfl⟩
 rw [hn] at aU ⊢;have nJ:=bx hn;clear hn HV;go_wp2_with fail;refine J5.o.mono ?_;rintro e w1 ⟨lv,tv,LO,TI,B,rfl,hLO,hTI,hiL,hiT,hS1⟩;have qH:=bx hLO;have iD:=bx hTI;have Sr:=bx hiL;have HIT:=bx hiT;have W9:=aU.o.frame (qs:=[_,_,_]) hS1;obtain⟨la,lc,rfl,-,-⟩:=dN (hS1.row 0 rfl);obtain⟨ta,tc,rfl,-,-⟩:=dN (hS1.row 1 rfl);obtain⟨ln,hln⟩:∃ ln,(LO.map pr).length=ln:=⟨_,rfl⟩
 obtain⟨tn,htn⟩:∃ tn,(TI.map pr).length=tn:=⟨_,rfl⟩
 have JE:=bx hln;have HTN:=bx htn;rw [hln,htn] at W9 ⊢;have HS2:=bx (W9.dh 28 #[.slice la ln lc, .slice ta tn tc, .slice none 0 0, .slice none 0 0, .slice none 0 0, .slice none 0 0]);clear hLO hTI hiL hiT hS1 W9 hln htn
 go_upto_region 2 with(fail)
 obtain⟨X,hX⟩:∃ X,w1.heap.size=X:=⟨_,rfl⟩
 rw [hX] at HS2 ⊢;generalize w1.alloc (.cells #[.slice la ln lc, .slice ta tn tc, .slice none 0 0, .slice none 0 0, .slice none 0 0, .slice none 0 0] 28)=w2 at HS2 ⊢;clear hX;have hxx:=HS2.o.blk 0 rfl;have x0:w2.cell? ⟨X,0,none⟩=some (.slice la ln lc):=(hxx.cell 0).trans rfl;have x1:w2.cell? ⟨X,1,none⟩=some (.slice ta tn tc):=(hxx.cell 1).trans rfl;have x2:w2.cell? ⟨X,2,none⟩=some (.slice none 0 0):=(hxx.cell 2).trans rfl;have x3:w2.cell? ⟨X,3,none⟩=some (.slice none 0 0):=(hxx.cell 3).trans rfl;have x4:w2.cell? ⟨X,4,none⟩=some (.slice none 0 0):=(hxx.cell 4).trans rfl;have x5:w2.cell? ⟨X,5,none⟩=some (.slice none 0 0):=(hxx.cell 5).trans rfl;have xl:=hxx.lt;clear hxx;go_wp2_with fail;refine(aiM la ta ln lc tn tc w2).mono ?_;rintro e w3 ⟨rfl,hb3⟩;have aK:=bx (HS2.o.below hb3);clear hb3;clear x0 x1 x2 x3 x4 x5 xl;have hxx:=aK.o.blk 0 rfl;have x0:w3.cell? ⟨X,0,none⟩=some (.slice la ln lc):=(hxx.cell 0).trans rfl;have xf0:=hxx.frozen 0;have x1:w3.cell? ⟨X,1,none⟩=some (.slice ta tn tc):=(hxx.cell 1).trans rfl;have xf1:=hxx.frozen 1;have x2:w3.cell? ⟨X,2,none⟩=some (.slice none 0 0):=(hxx.cell 2).trans rfl;have Md:=hxx.frozen 2;have x3:w3.cell? ⟨X,3,none⟩=some (.slice none 0 0):=(hxx.cell 3).trans rfl;have Nh:=hxx.frozen 3;have x4:w3.cell? ⟨X,4,none⟩=some (.slice none 0 0):=(hxx.cell 4).trans rfl;have LV:=hxx.frozen 4;have x5:w3.cell? ⟨X,5,none⟩=some (.slice none 0 0):=(hxx.cell 5).trans rfl;have Mc:=hxx.frozen 5;have xl:=hxx.lt;clear hxx;have dn:=bx (aK.o.write (cs':=#[.slice la ln lc, .slice ta tn tc, .slice none 0 0, .slice none 0 0, .slice none 0 0, .slice none 0 0]) (W':=((((((w3.setCell ⟨X,0,none⟩ (.slice la ln lc)).setCell ⟨X,1,none⟩ (.slice ta tn tc)).setCell ⟨X,2,none⟩ (.slice none 0 0)).setCell ⟨X,3,none⟩ (.slice none 0 0)).setCell ⟨X,4,none⟩ (.slice none 0 0)).setCell ⟨X,5,none⟩ (.slice none 0 0))) 0 rfl ((((((Turns.setCell (own:=λq=>q=X) _ (p:=⟨X,0,none⟩) rfl _).trans (Turns.setCell (own:=λq=>q=X) _ (p:=⟨X,1,none⟩) rfl _)).trans (Turns.setCell (own:=λq=>q=X) _ (p:=⟨X,2,none⟩) rfl _)).trans (Turns.setCell (own:=λq=>q=X) _ (p:=⟨X,3,none⟩) rfl _)).trans (Turns.setCell (own:=λq=>q=X) _ (p:=⟨X,4,none⟩) rfl _)).trans (Turns.setCell (own:=λq=>q=X) _ (p:=⟨X,5,none⟩) rfl _)) (((((((aK.o.blk 0 rfl).bP 0 (.slice la ln lc)).bP 1 (.slice ta tn tc)).bP 2 (.slice none 0 0)).bP 3 (.slice none 0 0)).bP 4 (.slice none 0 0)).bP 5 (.slice none 0 0)))
 go_upto_region 5 with(fail)
 generalize ((((((w3.setCell ⟨X,0,none⟩ (.slice la ln lc)).setCell ⟨X,1,none⟩ (.slice ta tn tc)).setCell ⟨X,2,none⟩ (.slice none 0 0)).setCell ⟨X,3,none⟩ (.slice none 0 0)).setCell ⟨X,4,none⟩ (.slice none 0 0)).setCell ⟨X,5,none⟩ (.slice none 0 0))=w4 at dn ⊢;clear x0 x1 x2 x3 x4 x5 xf0 xf1 Md Nh LV Mc xl;go_wp2_with fail;refine(nV.o w4).mono ?_;rintro e w5 ⟨iv,bv,L1,rfl,hL1,hS5⟩;have iQ:=bx hL1;obtain⟨ia,ic,rfl,-,-⟩:=dN (hS5.row 0 rfl);obtain⟨ba,bc,rfl,-,-⟩:=dN (hS5.row 1 rfl);have aG:=bx (dn.o.frame (qs:=[_,_,_]) hS5);clear hL1 hS5;have hxx:=aG.o.blk 3 rfl;have x0:w5.cell? ⟨X,0,none⟩=some (.slice la ln lc):=(hxx.cell 0).trans rfl;have xf0:=hxx.frozen 0;have x1:w5.cell? ⟨X,1,none⟩=some (.slice ta tn tc):=(hxx.cell 1).trans rfl;have xf1:=hxx.frozen 1;have x2:w5.cell? ⟨X,2,none⟩=some (.slice none 0 0):=(hxx.cell 2).trans rfl;have Md:=hxx.frozen 2;have x3:w5.cell? ⟨X,3,none⟩=some (.slice none 0 0):=(hxx.cell 3).trans rfl;have Nh:=hxx.frozen 3;have x4:w5.cell? ⟨X,4,none⟩=some (.slice none 0 0):=(hxx.cell 4).trans rfl;have LV:=hxx.frozen 4;have x5:w5.cell? ⟨X,5,none⟩=some (.slice none 0 0):=(hxx.cell 5).trans rfl;have Mc:=hxx.frozen 5;have xl:=hxx.lt;clear hxx;have dA:=bx (aG.o.write (cs':=#[.slice la ln lc, .slice ta tn tc, .slice ia zq.1.length ic, .slice ba L1.length bc, .slice none 0 0, .slice none 0 0]) (W':=((w5.setCell ⟨X,2,none⟩ (.slice ia zq.1.length ic)).setCell ⟨X,3,none⟩ (.slice ba L1.length bc))) 3 rfl ((Turns.setCell (own:=λq=>q=X) _ (p:=⟨X,2,none⟩) rfl _).trans (Turns.setCell (own:=λq=>q=X) _ (p:=⟨X,3,none⟩) rfl _)) (((aG.o.blk 3 rfl).bP 2 (.slice ia zq.1.length ic)).bP 3 (.slice ba L1.length bc)))
 go_upto_region 8 with(fail)
 generalize ((w5.setCell ⟨X,2,none⟩ (.slice ia zq.1.length ic)).setCell ⟨X,3,none⟩ (.slice ba L1.length bc))=w6 at dA ⊢;clear x0 x1 x2 x3 x4 x5 xf0 xf1 Md Nh LV Mc xl;go_wp2_with fail;refine(HC2.o w6).mono ?_;rintro e w7 ⟨gv,dv,L2,rfl,hL2,hS7⟩;have HL2:=bx hL2;obtain⟨ja,jc,rfl,-,-⟩:=dN (hS7.row 0 rfl);obtain⟨da,dc,rfl,-,-⟩:=dN (hS7.row 1 rfl);have bH:=bx (dA.o.frame (qs:=[_,_,_]) hS7);clear hL2 hS7;have hxx:=bH.o.blk 6 rfl;have x0:w7.cell? ⟨X,0,none⟩=some (.slice la ln lc):=(hxx.cell 0).trans rfl;have xf0:=hxx.frozen 0;have x1:w7.cell? ⟨X,1,none⟩=some (.slice ta tn tc):=(hxx.cell 1).trans rfl;have xf1:=hxx.frozen 1;have x2:w7.cell? ⟨X,2,none⟩=some (.slice ia zq.1.length ic):=(hxx.cell 2).trans rfl;have Md:=hxx.frozen 2;have x3:w7.cell? ⟨X,3,none⟩=some (.slice ba L1.length bc):=(hxx.cell 3).trans rfl;have Nh:=hxx.frozen 3;have x4:w7.cell? ⟨X,4,none⟩=some (.slice none 0 0):=(hxx.cell 4).trans rfl;have LV:=hxx.frozen 4;have x5:w7.cell? ⟨X,5,none⟩=some (.slice none 0 0):=(hxx.cell 5).trans rfl;have Mc:=hxx.frozen 5;have xl:=hxx.lt;clear hxx;have dS:=bx (bH.o.write (cs':=#[.slice la ln lc, .slice ta tn tc, .slice ia zq.1.length ic, .slice ba L1.length bc, .slice ja Ce.1.length jc, .slice da L2.length dc]) (W':=((w7.setCell ⟨X,4,none⟩ (.slice ja Ce.1.length jc)).setCell ⟨X,5,none⟩ (.slice da L2.length dc))) 6 rfl ((Turns.setCell (own:=λq=>q=X) _ (p:=⟨X,4,none⟩) rfl _).trans (Turns.setCell (own:=λq=>q=X) _ (p:=⟨X,5,none⟩) rfl _)) (((bH.o.blk 6 rfl).bP 4 (.slice ja Ce.1.length jc)).bP 5 (.slice da L2.length dc)))
 go_upto_region 10 with(fail)
 generalize ((w7.setCell ⟨X,4,none⟩ (.slice ja Ce.1.length jc)).setCell ⟨X,5,none⟩ (.slice da L2.length dc))=w8 at dS ⊢;clear x0 x1 x2 x3 x4 x5 xf0 xf1 Md Nh LV Mc xl;have hxx:=dS.o.blk 6 rfl;have x0:w8.cell? ⟨X,0,none⟩=some (.slice la ln lc):=(hxx.cell 0).trans rfl;have x1:w8.cell? ⟨X,1,none⟩=some (.slice ta tn tc):=(hxx.cell 1).trans rfl;have x2:w8.cell? ⟨X,2,none⟩=some (.slice ia zq.1.length ic):=(hxx.cell 2).trans rfl;have x3:w8.cell? ⟨X,3,none⟩=some (.slice ba L1.length bc):=(hxx.cell 3).trans rfl;have x4:w8.cell? ⟨X,4,none⟩=some (.slice ja Ce.1.length jc):=(hxx.cell 4).trans rfl;have x5:w8.cell? ⟨X,5,none⟩=some (.slice da L2.length dc):=(hxx.cell 5).trans rfl;have xl:=hxx.lt;clear hxx;have hrx:=dS.o.blk 10 rfl;have r0:w8.cell? ⟨n,0,none⟩=some (.slice none 0 0):=(hrx.cell 0).trans rfl;have F6:=hrx.frozen 0;have r1:w8.cell? ⟨n,1,none⟩=some (.slice none 0 0):=(hrx.cell 1).trans rfl;have FD:=hrx.frozen 1;have r2:w8.cell? ⟨n,2,none⟩=some (.slice none 0 0):=(hrx.cell 2).trans rfl;have rf2:=hrx.frozen 2;have r3:w8.cell? ⟨n,3,none⟩=some (.slice none 0 0):=(hrx.cell 3).trans rfl;have rf3:=hrx.frozen 3;have r4:w8.cell? ⟨n,4,none⟩=some (.slice none 0 0):=(hrx.cell 4).trans rfl;have rf4:=hrx.frozen 4;have r5:w8.cell? ⟨n,5,none⟩=some (.slice none 0 0):=(hrx.cell 5).trans rfl;have rf5:=hrx.frozen 5;have rl:=hrx.lt;clear hrx;go_wp2_with fail;have hT:Turns (λq=>q=n) w8 ((((((w8.setCell ⟨n,0,none⟩ (.slice la ln lc)).setCell ⟨n,1,none⟩ (.slice ta tn tc)).setCell ⟨n,2,none⟩ (.slice ia zq.1.length ic)).setCell ⟨n,3,none⟩ (.slice ba L1.length bc)).setCell ⟨n,4,none⟩ (.slice ja Ce.1.length jc)).setCell ⟨n,5,none⟩ (.slice da L2.length dc)):=((((((Turns.setCell (own:=λq=>q=n) _ (p:=⟨n,0,none⟩) rfl _).trans (Turns.setCell (own:=λq=>q=n) _ (p:=⟨n,1,none⟩) rfl _)).trans (Turns.setCell (own:=λq=>q=n) _ (p:=⟨n,2,none⟩) rfl _)).trans (Turns.setCell (own:=λq=>q=n) _ (p:=⟨n,3,none⟩) rfl _)).trans (Turns.setCell (own:=λq=>q=n) _ (p:=⟨n,4,none⟩) rfl _)).trans (Turns.setCell (own:=λq=>q=n) _ (p:=⟨n,5,none⟩) rfl _))
 have hk:=dS.o.lone 10 rfl hT;have hbl:ak w8 n 28 #[.slice none 0 0, .slice none 0 0, .slice none 0 0, .slice none 0 0, .slice none 0 0, .slice none 0 0]:=dS.o.blk 10 rfl;have q1:=adF (L:=LO) (by rw [JE.o];exact hk.row 7 rfl) (hk.at' 9 (p:=Pc.iV oq B) rfl) Sr.o;have q2:=adF (L:=TI) (by rw [HTN.o];exact hk.row 8 rfl) (hk.at' 9 (p:=Pc.iV oq B) rfl) HIT.o;rw [qH.o] at q1;rw [iD.o] at q2;have q3:=ay.dL (hk.row 3 rfl) rfl;have q4:=Rj (hk.row 4 rfl) (λy hy=>(hk.iV 5 rfl y hy).1);have q5:=ay.dL (hk.row 0 rfl) rfl;have q6:=Rj (hk.row 1 rfl) (λy hy=>(hk.iV 2 rfl y hy).1);rw [iQ.o] at q4;rw [HL2.o] at q6;exact bodyPost_ret (v:=.tuple #[.agg #[.slice la ln lc, .slice ta tn tc, .slice ia zq.1.length ic, .slice ba L1.length bc, .slice ja Ce.1.length jc, .slice da L2.length dc], .int .i64 0, .int .i64 0, .int .i64 0]) (aml Tryz.results31 _ _ n 28 #[.slice la ln lc, .slice ta tn tc, .slice ia zq.1.length ic, .slice ba L1.length bc, .slice ja Ce.1.length jc, .slice da L2.length dc] (0,0) _ rfl ((((((hbl.bP 0 (.slice la ln lc)).bP 1 (.slice ta tn tc)).bP 2 (.slice ia zq.1.length ic)).bP 3 (.slice ba L1.length bc)).bP 4 (.slice ja Ce.1.length jc)).bP 5 (.slice da L2.length dc)) Tryz.underlying28 rfl QV) rfl
  ⟨⟨_,rfl,_,_,_,_,_,_,rfl,q1,q2,q3,q4,q5,q6⟩,by rw [nJ.o];exact hk.bel (n:=n) (W0:=w) (by simp)⟩
def F.fK (b:List Int):Bool:=decide (b.length=256)&&b.all λv=>decide (0<=v)&&decide (v<=31)
theorem F.La (t:F.Trie):F.jK t=(decide (t.1.length=4352)&&t.1.all (λn=>decide (0<=n)&&decide (n<t.2.length))&&t.2.all F.fK):=rfl
theorem jk {α:Type} {p:α->Bool} {l:List α} {k:Nat} {x:α} (hx:l[k]?=some x) (h:p x=false):l.all p=false:=by
 rw [Bool.eq_false_iff,ne_eq,List.all_eq_true];intro h1;have:=h1 x (List.mem_of_getElem? hx);rw [h] at this
 cases this
theorem upto_succ {α:Type} {p:α->Prop} {l:List α} {k:Nat} {x:α} (h:∀ (j:Nat) (y:α),j<k->l[j]?=some y->p y) (hx:l[k]?=some x) (hp:p x):∀ (j:Nat) (y:α),j<k+1->l[j]?=some y->p y:=λj y hj hy=>by
 rcases Nat.lt_or_ge j k with h1 | h1
 ·exact h j y h1 hy
 ·obtain rfl:j=k:=by omega
  rw [hx] at hy
  cases hy;exact hp
def T.jY (l:List F.Map) (i:Nat):Bool:=U.right (l.getD i (0,[])).1&&(decide (i=0)||decide ((l.getD (i-1) (0,[])).1<(l.getD i (0,[])).1))&&T.toB (l.getD i (0,[])).2
theorem T.ZA:∀ (l:List F.Map) (last:Int),T.CY last l=true↔∀ (i:Nat) (x:F.Map),l[i]?=some x->U.right x.1=true/\T.toB x.2=true/\(i=0->last<x.1)/\∀ (j:Nat) (y:F.Map),i=j+1->l[j]?=some y->y.1<x.1
 | [],_=>by unfold T.CY;simp
 | x::t,last=>by
  unfold T.CY;simp only [Bool.and_eq_true,decide_eq_true_eq,T.ZA t x.1]
  constructor
  ·rintro⟨⟨⟨h1,h2⟩,h3⟩,h4⟩ i y hy
   cases i with
   | zero =>
    simp only [List.getElem?_cons_zero,Option.some.injEq] at hy;subst hy;exact⟨h1,h3,λ_=>h2,λj _ h=>by omega⟩
   | succ i =>
    rw [List.getElem?_cons_succ] at hy;obtain⟨k1,k2,k3,k4⟩:=h4 i y hy;refine⟨k1,k2,λh=>by omega,λj z hj hz=>?_⟩;obtain rfl:j=i:=by omega
    cases j with
    | zero =>
     simp only [List.getElem?_cons_zero,Option.some.injEq] at hz;subst hz;exact k3 rfl
    | succ j=>exact k4 j z rfl (by simpa using hz)
  ·intro h;obtain⟨k1,k2,k3,-⟩:=h 0 x rfl;refine⟨⟨⟨k1,k3 rfl⟩,k2⟩,λi y hy=>?_⟩;obtain⟨q1,q2,q3,q4⟩:=h (i+1) y (by simpa using hy);refine⟨q1,q2,λe=>q4 0 x (by omega) rfl,λj z hj hz=>q4 (j+1) z (by omega) (by simpa using hz)⟩
theorem T.Ei (l:List F.Map):T.CY (-1) l=(List.range l.length).all (T.jY l):=by
 rw [Bool.eq_iff_iff,T.ZA,List.all_eq_true];have hg:∀ (i:Nat) (x:F.Map),l[i]?=some x->l.getD i (0,[])=x:=λi x h=>by rw [List.getD_eq_getElem?_getD,h];rfl
 constructor
 ·intro h i hi;have hi:=List.mem_range.1 hi;obtain⟨k1,k2,k3,k4⟩:=h i l[i] (List.getElem?_eq_getElem hi);unfold T.jY;rw [hg i _ (List.getElem?_eq_getElem hi),k1,k2,Bool.true_and,Bool.and_true,Bool.or_eq_true,decide_eq_true_eq,decide_eq_true_eq]
  cases i with
  | zero=>exact .inl rfl
  | succ i =>
   refine .inr ?_;rw [show i+1-1=i by omega,hg i _ (List.getElem?_eq_getElem (by omega))];exact k4 i _ rfl (List.getElem?_eq_getElem (by omega))
 ·intro h i x hx;have hi:=(List.getElem?_eq_some_iff.1 hx).1;have:=h i (List.mem_range.2 hi);unfold T.jY at this;rw [hg i x hx] at this;simp only [Bool.and_eq_true,Bool.or_eq_true,decide_eq_true_eq] at this;obtain⟨⟨k1,k2⟩,k3⟩:=this;refine⟨k1,k3,λ_=>?_,λj y hj hy=>?_⟩
  ·unfold U.right at k1;simp only [Bool.and_eq_true,decide_eq_true_eq,Bool.or_eq_true] at k1;omega
  ·subst hj
   rcases k2 with k2 | k2
   ·omega
   ·rw [show j+1-1=j by omega,hg j y hy] at k2;exact k2
theorem lK.get {w:World} {v:Value} {l:List F.Map} (h:lK w v l) (hn:l≠[]) :
  ∃ b off cap,v = .slice (some ⟨b,off,none⟩) l.length cap/\l.length<=cap/\cap<=maxLen/\b<w.heap.size/\∀ i x,l[i]?=some x->w.cell? ⟨b,off+i*2,none⟩=some (.int .i64 x.1)/\∃ u,w.cell? ⟨b,off+i*2+1,none⟩=some u/\ay w u x.2:=by
 obtain⟨L,rfl,h1,h2⟩:=h;obtain⟨b,off,cap,k1,k2,k3,k4,k5⟩:=h1.get (by intro e;apply hn;simpa using e);rw [List.length_map,List.length_map] at k1 k2;rw [List.length_map];refine⟨b,off,cap,k1,k2,k3,k4,λi x hx=>?_⟩;rw [List.getElem?_map] at hx;obtain⟨y,hy,rfl⟩:=Option.map_eq_some_iff.1 hx;have hm:((L.map pr).map eG)[i]?=some (eG (pr y)):=by rw [List.getElem?_map,List.getElem?_map,hy];rfl
 exact⟨k5 i _ hm 0 _ rfl,y.2,k5 i _ hm 1 _ rfl,h2 y (List.mem_of_getElem? hy)⟩
theorem lK.slice {w:World} {v:Value} {l:List F.Map} (h:lK w v l):∃ a cap,v = .slice a l.length cap/\l.length<=cap/\cap<=9223372036854775807:=by
 obtain⟨L,rfl,h1,h2⟩:=h;obtain⟨a,cap,k1,k2,k3⟩:=h1.slice;rw [List.length_map,List.length_map] at k1 k2;exact⟨a,cap,by rw [List.length_map];exact k1,by rw [List.length_map];exact k2,k3⟩
end
end Go.Proofs.YtlmdjifffmofeaaGreatDoor
