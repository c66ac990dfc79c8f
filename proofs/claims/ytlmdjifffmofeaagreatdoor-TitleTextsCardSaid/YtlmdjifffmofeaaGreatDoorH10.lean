/- Texts of this claim. -/
import Derived.Test.YtlmdjifffmofeaaGreatDoorH9

set_option maxRecDepth 100000
set_option maxHeartbeats 8000000
namespace Go.Proofs.YtlmdjifffmofeaaGreatDoor
section
open Go.RowKit
theorem ji {P:Program} {f:FuncId} {args:Array Value} {v v':Value} {W:World} {Inv:World->Prop} (h:Calls P f args W λe w'=>e = .returned v/\Below W.heap.size W w') (hv:v=v') (hI:∀ w',Below W.heap.size W w'->Inv w') :
  Calls P f args W λe w''=>e = .returned v'/\∃ m:CW Inv,w''=m.w:=hv▸uj h hI
theorem QX {R:List D.Rule} {ks:List Int} {f:Nat} {p:Int} {k:Nat} {x:D.Rule} (hx:R[k]?=some x) (h:f.testBit k=false\/nX x.2.1.1 x.2.1.2 ks p=false):G.hit R ks f p k=false:=by
 unfold G.hit;rw [hx]
 rcases h with h | h <;> simp [h]
theorem adk {R:List D.Rule} {ks:List Int} {f:Nat} {p:Int} {k:Nat} {x:D.Rule} (hx:R[k]?=some x) (h:f.testBit k=true) (h2:nX x.2.1.1 x.2.1.2 ks p=true):G.hit R ks f p k=true:=by
 unfold G.hit;rw [hx];simp [h,h2]
theorem afG (cb:Nat) (nv fv rv lv:Value) (R:List D.Rule) (ks:List Int) (p:Int) (f:Nat) (w:World) (hC:ak w cb 264 #[nv,fv,rv,lv]) (hR:dP w rv R) (hL:ay w lv ks) (hf:∀ x∈R,pz x) (hks:ks.length<=900) (hfl:f<1099511627776) (hRl:R.length<=40) :
  Calls Tryz.prog 181 #[.pointer (some ⟨cb,0,none⟩), .int .i64 p, .int .i64 f] w λe w'=>e = .returned (.bool (G.Ez R ks f p))/\Below w.heap.size w w':=by
 have HC:=bx hC;have HR:=bx hR;have HL:=bx hL;have HF:=bx hf;have hcl:=hC.lt;obtain⟨ro,rc,rfl⟩:=hR.slice;have c0:w.cell? ⟨cb,2,none⟩=some (.slice ro R.length rc):=(hC.cell 2).trans rfl;clear hC hR hL hf
 go_enter Tryz.func181,Tryz.ntmps181
 go_wp2_with fail
 go_loopw [14] (λi wr=>∃ k:Nat,k<=R.length/\i = .int .i64 k/\Box (∀ i,i<k->G.hit R ks f p i=false)/\Box (Below w.heap.size w wr)) (λi _=>R.length-(intOf i).toNat)
 case atStart=>exact⟨0,Nat.zero_le _,rfl,⟨λi hi=>by omega⟩,⟨Below.refl _ _⟩⟩
 case round =>
  obtain⟨k,hk,rfl,hno,hb⟩:=hrel;clear c0
  by_cases hlt:k<R.length
  ·obtain⟨x,hx⟩:∃ x,R[k]?=some x:=⟨_,List.getElem?_eq_getElem hlt⟩
   obtain⟨g,off,cap,k1,k2,k3,k4,k5⟩:=(HR.o.below hb.o).get (by rintro rfl;simp at hlt);obtain⟨rfl,rfl⟩:ro=some ⟨g,off,none⟩/\rc=cap:=by injection k1 with h1 h2 h3;exact⟨h1,h3⟩
   obtain⟨vl,vr,r0,r1,r2,r3,r4,hil,hir⟩:=k5 k x hx;obtain⟨al,acl,rfl⟩:=hil.slice;obtain⟨ar,BU,rfl⟩:=hir.slice;have hfit:=(HF.o x (List.mem_of_getElem? hx)).2;obtain⟨V,hV⟩:∃ V,V=wr.alloc (.cells #[.bool x.1.1,(.slice al x.1.2.length acl), .bool x.2.1.1,(.slice ar x.2.1.2.length BU), .bool x.2.2] 147):=⟨_,rfl⟩
   have Hy:Below wr.heap.size wr V:=by rw [hV];exact aS wr _
   have dR:=bx (show ak V wr.heap.size 147 #[.bool x.1.1,(.slice al x.1.2.length acl), .bool x.2.1.1,(.slice ar x.2.1.2.length BU), .bool x.2.2] by rw [hV];exact ak.new _ _ _);have bG:=bx (show Below w.heap.size w V from bt hb.o Hy);have nH:=bx (λ(W:World) (h:Below V.heap.size V W)=>afV x.2.1.1 (.slice ar x.2.1.2.length BU) x.2.1.2 lv ks p W ((hir.below Hy).below h) hfit ((HL.o.below bG.o).below h) hks);have HX:=bx hx;have ht:=acQ f k (by omega);have jS:=bx (show G.hit R ks f p k=false->∀ i,i<k+1->G.hit R ks f p i=false from λh i hi=>by
    rcases Nat.lt_or_ge i k with h1 | h1
    ·exact hno.o i h1
    ·obtain rfl:i=k:=by omega
     exact h)
   have hcV:=HC.o.below bG.o hcl;have OD:V.cell? ⟨cb,3,none⟩=some lv:=(hcV.cell 3).trans rfl;have b2:V.cell? ⟨wr.heap.size,2,none⟩=some (.bool x.2.1.1):=(dR.o.cell 2).trans rfl;have b3:V.cell? ⟨wr.heap.size,3,none⟩=some (.slice ar x.2.1.2.length BU):=(dR.o.cell 3).trans rfl;have kN:=bx hV;have lC:=bx hcV.lt;have ada:k<40:=by omega
   unfold maxLen at k3;clear k1 k5 hx hil hir hV Hy hcV
   cases hbit:f.testBit k with
   | false =>
    have HN:=bx (jS.o (QX HX.o (.inl hbit)));have HDR:=bx (λm=>bG.o.trans ((below_drewN (Below.refl V.heap.size V) m).mono bG.o.size));rw [hbit] at ht;clear hbit
    go_upto_region 4 with(fail)
    rw [<- kN.o]
    go_quiet (fail)
    go_wp2_with fail
    go_roundw
    case rel=>exact⟨k+1,hlt,by go_num,HN,⟨HDR.o _⟩⟩
    case measure=>simp [intOf];omega
   | true =>
    rw [hbit] at ht
    cases hah:nX x.2.1.1 x.2.1.2 ks p with
    | false =>
     have HN:=bx (jS.o (QX HX.o (.inr hah)));obtain⟨Inv,hI1,hI2⟩:∃ Inv:World->Prop,(∀ W,Inv W->Below V.heap.size V W)/\(∀ W,Below V.heap.size V W->Inv W):=⟨_,λ_ h=>h,λ_ h=>h⟩
     have aZ:=bx (show ∀ q:CW Inv,Below V.heap.size V q.w from λq=>hI1 _ q.h);have eH:=bx (show ∀ (q:CW Inv) w',Below q.w.heap.size q.w w'->Inv w' from λq w' h=>hI2 _ ((aZ.o q).trans (h.mono (aZ.o q).size)));have q0:∀ q:CW Inv,q.w.cell? ⟨cb,3,none⟩=some lv:=λq=>((aZ.o q).cell (p:=⟨cb,3,none⟩) lC.o).trans OD
     have q1:∀ q:CW Inv,q.w.cell? ⟨wr.heap.size,2,none⟩=some (.bool x.2.1.1):=λq=>((aZ.o q).cell (p:=⟨wr.heap.size,2,none⟩) dR.o.lt).trans b2
     have q2:∀ q:CW Inv,q.w.cell? ⟨wr.heap.size,3,none⟩=some (.slice ar x.2.1.2.length BU):=λq=>((aZ.o q).cell (p:=⟨wr.heap.size,3,none⟩) dR.o.lt).trans b3
     have K1:=bx (λq:CW Inv=>ji (nH.o q.w (aZ.o q)) (show Value.bool (nX x.2.1.1 x.2.1.2 ks p) = .bool false by rw [hah]) (eH.o q));have HDR:=bx (hI2 _ (eu V 1));clear hbit hah hI1 hI2
     go_upto_region 4 with(fail)
     rw [<- kN.o];clear OD b2 b3;refine gK Inv (by kernel_rfl) (by kernel_rfl) HDR.o (λhne=>?_)
     repeat (any_goals (first | go_big_quiet_step ((go_at_call 206;exact K1.o _)) | quiet_step ((go_at_call 206;exact K1.o _))))
     refine wpQuiet_nil ?_;rintro w7 ⟨q7,rfl⟩;have aH:=bx (bG.o.trans ((aZ.o q7).mono bG.o.size));clear q0 q1 q2 hne;go_wp2_with fail
     go_roundw
     case rel=>exact⟨k+1,hlt,by go_num,HN,aH⟩
     case measure=>simp [intOf];omega
    | true =>
     have HN:=bx (G.aa1 HX.o (adk HX.o hbit hah) hno.o);obtain⟨Inv,hI1,hI2⟩:∃ Inv:World->Prop,(∀ W,Inv W->Below V.heap.size V W)/\(∀ W,Below V.heap.size V W->Inv W):=⟨_,λ_ h=>h,λ_ h=>h⟩
     have aZ:=bx (show ∀ q:CW Inv,Below V.heap.size V q.w from λq=>hI1 _ q.h);have eH:=bx (show ∀ (q:CW Inv) w',Below q.w.heap.size q.w w'->Inv w' from λq w' h=>hI2 _ ((aZ.o q).trans (h.mono (aZ.o q).size)));have q0:∀ q:CW Inv,q.w.cell? ⟨cb,3,none⟩=some lv:=λq=>((aZ.o q).cell (p:=⟨cb,3,none⟩) lC.o).trans OD
     have q1:∀ q:CW Inv,q.w.cell? ⟨wr.heap.size,2,none⟩=some (.bool x.2.1.1):=λq=>((aZ.o q).cell (p:=⟨wr.heap.size,2,none⟩) dR.o.lt).trans b2
     have q2:∀ q:CW Inv,q.w.cell? ⟨wr.heap.size,3,none⟩=some (.slice ar x.2.1.2.length BU):=λq=>((aZ.o q).cell (p:=⟨wr.heap.size,3,none⟩) dR.o.lt).trans b3
     have K1:=bx (λq:CW Inv=>ji (nH.o q.w (aZ.o q)) (show Value.bool (nX x.2.1.1 x.2.1.2 ks p) = .bool true by rw [hah]) (eH.o q));have HDR:=bx (hI2 _ (eu V 1));clear hbit hah hI1 hI2
     go_upto_region 4 with(fail)
     rw [<- kN.o];clear OD b2 b3;refine gK Inv (by kernel_rfl) (by kernel_rfl) HDR.o (λhne=>?_)
     repeat (any_goals (first | go_big_quiet_step ((go_at_call 206;exact K1.o _)) | quiet_step ((go_at_call 206;exact K1.o _))))
     refine wpQuiet_nil ?_;rintro w7 ⟨q7,rfl⟩;have aH:=bx (bG.o.trans ((aZ.o q7).mono bG.o.size));have b4:q7.w.cell? ⟨wr.heap.size,4,none⟩=some (.bool x.2.2):=((aZ.o q7).cell (p:=⟨wr.heap.size,4,none⟩) dR.o.lt).trans ((dR.o.cell 4).trans rfl);clear q0 q1 q2 hne;go_wp2_with fail;go_ret
     exact⟨aI HN.o.symm,aH.o⟩
  ·have HN:=bx (G.adi (R:=R) (ks:=ks) (f:=f) (p:=p) (λi hi=>hno.o i (by omega)));go_wp2_with fail;go_ret
   exact⟨aI HN.o.symm,hb.o⟩
end
section
open Go.RowKit
attribute [local go_sem] Oper.semAt_some
def dH (x:F.bJ):List Value:=[.int .i64 x.1, .int .i64 x.2.1, .int .i64 x.2.2]
def jh (w:World) (v:Value) (l:List F.bJ):Prop:=lY 3 w v (l.map dH)
theorem jh.below {w w':World} {v:Value} {l:List F.bJ} (h:jh w v l) (hb:Below w.heap.size w w'):jh w' v l:=lY.below h hb
theorem jh.slice {w:World} {v:Value} {l:List F.bJ} (h:jh w v l):∃ a cap,v = .slice a l.length cap/\l.length<=cap/\cap<=9223372036854775807:=by
 have:=lY.slice h
 rwa [List.length_map] at this
theorem jh.get {w:World} {v:Value} {l:List F.bJ} (h:jh w v l) (hn:l≠[]) :
  ∃ b off cap,v = .slice (some ⟨b,off,none⟩) l.length cap/\l.length<=cap/\cap<=maxLen/\b<w.heap.size/\∀ i x,l[i]?=some x->w.cell? ⟨b,off+i*3,none⟩=some (.int .i64 x.1)/\w.cell? ⟨b,off+i*3+1,none⟩=some (.int .i64 x.2.1)/\w.cell? ⟨b,off+i*3+2,none⟩=some (.int .i64 x.2.2):=by
 obtain⟨b,off,cap,h1,h2,h3,h4,h5⟩:=lY.get h (by simpa using hn);rw [List.length_map] at h1 h2;refine⟨b,off,cap,h1,h2,h3,h4,λi x hx=>?_⟩;have hc:(l.map dH)[i]?=some (dH x):=by rw [List.getElem?_map,hx];rfl
 exact⟨h5 i _ hc 0 _ rfl,h5 i _ hc 1 _ rfl,h5 i _ hc 2 _ rfl⟩
theorem jh.dL {w:World} {base n:Nat} {T:TypeId} {v:Value} {l:List F.bJ} (h:w.ownsRow base T 3 v n (l.flatMap dH)) (hn:n=l.length):jh w v l:=by
 rw [PE] at h;exact lY.dL h (by rw [List.length_map];exact hn) (λc hc=>by obtain⟨y,-,rfl⟩:=List.mem_map.1 hc;rfl)
theorem aaN (x:F.bJ) (w:World):Calls Tryz.prog 156 #[.agg #[.int .i64 x.1, .int .i64 x.2.1, .int .i64 x.2.2]] w λe w'=>e = .returned (.bool (F.Ep x))/\Below w.heap.size w w':=by
 obtain⟨a,b,c⟩:=x;unfold F.Ep;simp only;have hb:Below w.heap.size w (w.alloc (.cells #[.int .i64 a, .int .i64 b, .int .i64 c] 179)):=(Below.refl _ _).alloc (Nat.le_refl _) _;have HB:=bx hb;clear hb
 go_enter Tryz.func156,Tryz.ntmps156
 go_wp2_with fail
 all_goals go_returns
 all_goals exact⟨aI (by first | rfl | (rw [Bool.eq_iff_iff];simp;done) | (rw [Bool.eq_iff_iff];simp;omega)),HB.o⟩
theorem acV (v:Value) (l:List F.bJ) (w:World) (hv:jh w v l) (hok:F.tX l=true) :
  Calls Tryz.prog 122 #[v] w λe w'=>e = .returned (.bool true)/\Below w.heap.size w w':=by
 unfold F.tX at hok;rw [Bool.and_eq_true,decide_eq_true_eq,List.all_eq_true] at hok;obtain⟨hall,Wq⟩:=hok;have fC:=bx hall;have HV:=bx hv;obtain⟨a,cap,rfl,hc1,hc2⟩:=hv.slice;clear hv hall
 go_enter Tryz.func122,Tryz.ntmps122
 go_wp2_with fail
 go_loopw [3] (λi wr=>∃ k:Nat,k<=l.length/\i = .int .i64 k/\Box (Below w.heap.size w wr)) (λi _=>l.length-(intOf i).toNat)
 case atStart=>exact⟨0,by omega,rfl,⟨Below.refl _ _⟩⟩
 case round =>
  obtain⟨k,hk,rfl,hb⟩:=hrel
  by_cases hlt:k<l.length
  ·have hko:=fC.o k (List.mem_range.2 hlt);obtain⟨x,hx⟩:∃ x,l[k]?=some x:=⟨_,List.getElem?_eq_getElem hlt⟩
   have hgd:l.getD k (0,0,0)=x:=by rw [List.getD_eq_getElem?_getD,hx];rfl
   rw [hgd,Bool.and_eq_true,Bool.or_eq_true,decide_eq_true_eq,decide_eq_true_eq] at hko;obtain⟨hr,hlo⟩:=hko;obtain⟨g,off,cap2,hg1,hg2,hg3,hg4,hg5⟩:=(HV.o.below hb.o).get (by rintro rfl;simp at hlt);obtain⟨rfl,rfl⟩:a=some ⟨g,off,none⟩/\cap=cap2:=by injection hg1 with h1 h2 h3;exact⟨h1,h3⟩
   obtain⟨x0,x1,x2⟩:=hg5 k x hx;have sO:=bx (λW=>aaN x W);rw [hr] at sO;have qH:=bx hlo;obtain⟨Inv,hI1,hI2⟩:∃ Inv:World->Prop,(∀ W,Inv W->Below wr.heap.size wr W)/\(∀ W,Below wr.heap.size wr W->Inv W):=⟨_,λ_ h=>h,λ_ h=>h⟩
   have aZ:=bx (show ∀ q:CW Inv,Below wr.heap.size wr q.w from λq=>hI1 _ q.h);have eH:=bx (show ∀ (q:CW Inv) w',Below q.w.heap.size q.w w'->Inv w' from λq w' h=>hI2 _ ((aZ.o q).trans (h.mono (aZ.o q).size)));have q0:∀ q:CW Inv,q.w.cell? ⟨g,off+k*3,none⟩=some (.int .i64 x.1):=λq=>((aZ.o q).cell (p:=⟨g,off+k*3,none⟩) hg4).trans x0
   have q1:∀ q:CW Inv,q.w.cell? ⟨g,off+k*3+1,none⟩=some (.int .i64 x.2.1):=λq=>((aZ.o q).cell (p:=⟨g,off+k*3+1,none⟩) hg4).trans x1
   have q2:∀ q:CW Inv,q.w.cell? ⟨g,off+k*3+2,none⟩=some (.int .i64 x.2.2):=λq=>((aZ.o q).cell (p:=⟨g,off+k*3+2,none⟩) hg4).trans x2
   have K1:=bx (λq:CW Inv=>ji (sO.o q.w) rfl (eH.o q));have HDR:=bx (hI2 _ (eu wr 1));unfold maxLen at hg3
   rcases Nat.eq_zero_or_pos k with h0 | h0
   ·have e0:decide (0<k)=false:=decide_eq_false (by omega);clear hx hgd hr hlo hg1 hg5 x0 x1 x2 hI1 hI2 h0;go_wp2_with fail;refine gK Inv (by kernel_rfl) (by kernel_rfl) HDR.o (λhne=>?_)
    repeat (any_goals (first | go_big_quiet_step ((go_at_call 156;exact K1.o _)) | quiet_step ((go_at_call 156;exact K1.o _))))
    refine wpQuiet_nil ?_;rintro w7 ⟨q7,rfl⟩;have aH:=bx (hb.o.trans ((aZ.o q7).mono hb.o.size));clear q0 q1 q2 hne;go_wp2_with fail
    go_roundw
    case rel=>exact⟨k+1,hlt,by go_num,aH⟩
    case measure=>simp [intOf];omega
   ·obtain⟨y,hy⟩:∃ y,l[k-1]?=some y:=⟨_,List.getElem?_eq_getElem (by omega)⟩
    have rY:l.getD (k-1) (0,0,0)=y:=by rw [List.getD_eq_getElem?_getD,hy];rfl
    have hxy:y.2.1<x.1:=by
     rcases hlo with h | h
     ·omega
     ·rw [rY] at h;exact h
    obtain⟨y0,y1,y2⟩:=hg5 (k-1) y hy;have q3:∀ q:CW Inv,q.w.cell? ⟨g,off+(k-1)*3+1,none⟩=some (.int .i64 y.2.1):=λq=>((aZ.o q).cell (p:=⟨g,off+(k-1)*3+1,none⟩) hg4).trans y1
    have e0:decide (0<k)=true:=decide_eq_true (by omega);have e1:decide (x.1<=y.2.1)=false:=decide_eq_false (by omega);have i0:(0:Int)<=(k:Int)-1:=by omega
    have i1:(k:Int)-1<(l.length:Int):=by omega
    have i2:((k:Int)-1).toNat=k-1:=by omega
    clear hx hgd hr hlo hg1 hg5 x0 x1 x2 hI1 hI2 hy rY y0 y1 y2;go_wp2_with fail;refine gK Inv (by kernel_rfl) (by kernel_rfl) HDR.o (λhne=>?_)
    repeat (any_goals (first | go_big_quiet_step ((go_at_call 156;exact K1.o _)) | quiet_step ((go_at_call 156;exact K1.o _))))
    refine wpQuiet_nil ?_;rintro w7 ⟨q7,rfl⟩;have aH:=bx (hb.o.trans ((aZ.o q7).mono hb.o.size));clear q0 q1 q2 q3 hne;go_wp2_with fail
    go_roundw
    case rel=>exact⟨k+1,hlt,by go_num,aH⟩
    case measure=>simp [intOf];omega
  ·have dJ:=bx hb.o;go_wp2_with fail;go_ret
   exact⟨aI (decide_eq_true (by omega)),dJ.o⟩
theorem ajG {w:World} {base n s:Nat} {e:TypeId} {v:Value} {xs:List Value} (h:w.ownsRow base e s v n xs) {g:Nat} (hg:v.ownBlock=some g) (i:Nat) (hi:i<n*s) (u:Value):(w.setCell ⟨g,i,none⟩ u).ownsRow base e s v n (xs.set i u):=by
 refine⟨by rw [List.length_set];exact h.1,?_⟩
 rcases h.2 with⟨-,h0⟩ | ⟨g',cap,cur,rfl,h2,h3,h4,h5,h6,h7⟩
 ·subst h0;omega
 ·simp [Value.ownBlock] at hg;subst hg;refine .inr ⟨g',cap,cur.setIfInBounds i u,rfl,h2,ak.bP (w:=w) (t:=e) h3 i u,h4,h5,by simpa using h6,?_⟩;rw [Array.toList_setIfInBounds,<- h7];generalize n*s=m at hi
  apply List.ext_getElem?
  intro j;rw [List.getElem?_take,List.getElem?_set,List.getElem?_set,List.getElem?_take,List.length_take]
  by_cases hj:j<m
  ·simp only [hj,if_true]
   by_cases e1:i=j
   ·subst e1;simp only [if_true];have:i<min m cur.toList.length↔i<cur.toList.length:=by omega
    simp only [this]
   ·simp [e1]
  ·simp only [hj,if_false]
   by_cases e1:i=j
   ·omega
   ·simp [e1]
theorem Sep.ag4 {W:World} {ps:List Pc} (h:Sep ps W) (k:Nat) {base n s:Nat} {e:TypeId} {v:Value} {xs:List Value} (hk:ps[k]?=some (Pc.row base e s v n xs)) {g:Nat} (hg:v.ownBlock=some g) (i:Nat) (hi:i<n*s) (u:Value) :
  Sep (ps.set k (Pc.row base e s v n (xs.set i u))) (W.setCell ⟨g,i,none⟩ u) :=
 h.upd (own:=λq=>q=g) k hk (Turns.setCell (own:=λq=>q=g) W (p:=⟨g,i,none⟩) rfl u) (λq hq _=>by subst hq;exact hg) (ajG (h.row k hk) hg i hi u) (λq hq=>.inl hq)
theorem amA {w:World} {base n s:Nat} {e:TypeId} {v:Value} {xs:List Value} (h:w.ownsRow base e s v n xs) (hn:0<n):∃ (g cap:Nat) (cur:Array Value),v = .slice (some ⟨g,0,none⟩) n cap/\base<=g/\n<=cap/\cap<=9223372036854775807/\ak w g e cur/\∀ (i:Nat) (x:Value),xs[i]?=some x->cur[i]?=some x:=by
 rcases h.2 with⟨-,h0⟩ | ⟨g,cap,cur,rfl,h2,h3,h4,h5,h6,h7⟩
 ·omega
 ·refine⟨g,cap,cur,rfl,h2,h4,by unfold maxLen at h5;omega,h3,λi x hx=>?_⟩;rw [<- h7,List.getElem?_take] at hx
  split at hx
  ·rw [<- Array.getElem?_toList];exact hx
  ·cases hx
theorem oI:wP Tryz.prog 120 179 3 24:=.mk' (z:=.agg #[.int .i64 0, .int .i64 0, .int .i64 0]) Tryz.underlying120 (by kernel_rfl) rfl
theorem wO (l:List F.bJ):(l.flatMap dH).length=l.length*3:=by
 induction l with
 | nil=>rfl
 | cons x t ih=>rw [List.flatMap_cons,List.length_append,ih,List.length_cons];simp [dH];omega
theorem Vk (r:List F.bJ) (y:F.bJ) (j:Nat) (hj:j<3):((r++[y]).flatMap dH)[r.length*3+j]?=(dH y)[j]?:=by
 rw [List.flatMap_append,List.flatMap_singleton,List.getElem?_append_right (by rw [wO];omega),wO]
 congr 1
 omega
theorem amo (r:List F.bJ) (y:F.bJ) (u:Int):((r++[y]).flatMap dH).set (r.length*3+1) (.int .i64 u)=(r++[(y.1,u,y.2.2)]).flatMap dH:=by
 rw [List.flatMap_append,List.flatMap_append,List.flatMap_singleton,List.flatMap_singleton,List.set_append,if_neg (by rw [wO];omega),wO,show r.length*3+1-r.length*3=1 by omega]
 rfl
theorem anz {ps:List Pc} (i:Nat) (base:Nat) (v:Value) (l:List F.bJ) (x:F.bJ) (w:World) (hS:Sep ps w) (hi:ps[i]?=some (Pc.row base 179 3 v l.length (l.flatMap dH))) (hz:l.length<=100000) (hl:∀ y∈l,0<=y.2.1/\y.2.1<=1114111) (hbase:base<=w.heap.size) :
  Calls Tryz.prog 158 #[v, .agg #[.int .i64 x.1, .int .i64 x.2.1, .int .i64 x.2.2]] w λe w'=>∃ v',e = .returned v'/\Sep (ps.set i (Pc.row base 179 3 v' (F.wH l x).length ((F.wH l x).flatMap dH))) w':=by
 obtain⟨a,b,c⟩:=x;obtain⟨V,hV⟩:∃ V,V=w.alloc (.cells #[.int .i64 a, .int .i64 b, .int .i64 c] 179):=⟨_,rfl⟩
 have Wy:V.heap.size=w.heap.size+1:=by rw [hV];simp
 have Nl:Sep (Pc.blk w.heap.size 179 #[.int .i64 a, .int .i64 b, .int .i64 c]::ps) V:=by rw [hV];exact hS.dh _ _
 have hbk:=Nl.blk 0 rfl;have c0:V.cell? ⟨w.heap.size,0,none⟩=some (.int .i64 a):=(hbk.cell 0).trans rfl;have c1:V.cell? ⟨w.heap.size,1,none⟩=some (.int .i64 b):=(hbk.cell 1).trans rfl;have c2:V.cell? ⟨w.heap.size,2,none⟩=some (.int .i64 c):=(hbk.cell 2).trans rfl;have cl:=hbk.lt;have tV:=bx Nl;have HV:=bx hV;have HI:=bx hi;have hbs:base<=V.heap.size:=by omega
 -- one more behind them
 have ao4:=bx (show ∀ W,Sep (Pc.blk w.heap.size 179 #[.int .i64 a, .int .i64 b, .int .i64 c]::ps) W->Sep ps W from λW h=>h.tail)
 rcases List.eq_nil_or_concat l with rfl | ⟨r,y,rfl⟩
 ·have HA:=bx (show F.wH [] (a,b,c)=[(a,b,c)] from rfl);obtain⟨oo,oc,rfl,-,-⟩:=dN (hS.row i hi);have HI:=bx (show (Pc.blk w.heap.size 179 #[.int .i64 a, .int .i64 b, .int .i64 c]::ps)[i+1]?=some (Pc.row base 179 3 (.slice oo 0 oc) 0 []) from hi);rw [List.length_nil];clear hS hi hV Nl hbk hl
  go_enter Tryz.func158,Tryz.ntmps158
  go_upto_region 1 with(fail)
  rw [<- HV.o];go_wp2_with fail
  go_quiet (fail)
  have nI:=bx (tV.o.drewN nq);have hbq:base<=(V.drewN nq).heap.size:=hbs;have Nu:=bx (show (V.drewN nq).heap.size=w.heap.size+1 from Wy);go_wp2_with (at_builtin;refine xR (cs:=dH (a,b,c)) rfl _ _ 120 rfl oI (by decide) nI.o (i+1) HI.o rfl (by rw [Nu.o];rfl) rfl (by intro u hu;simp only [dH,List.mem_cons,List.not_mem_nil,or_false] at hu;rcases hu with rfl | rfl | rfl <;> rfl) (by omega) (by omega) hbq ?_;rintro v' w6 hS6 ⟨go',gc',rfl,-,-⟩)
  have dA:=bx hS6;clear hS6;go_wp2_with fail;go_ret
  refine⟨_,rfl,?_⟩;have h8:=dA.o.tail;rw [HA.o]
  skip
  exact h8
 ·rw [List.concat_eq_append] at *;have hlen:(r++[y]).length=r.length+1:=by simp
  rw [hlen] at hi hz;have hy:=hl y (by simp);obtain⟨g,cap,cur,rfl,r1,r2,r3,hbl,hcur⟩:=amA (Nl.row (i+1) hi) (by omega);have y0:V.cell? ⟨g,r.length*3,none⟩=some (.int .i64 y.1):=(hbl.cell _).trans (hcur _ _ (by have:=Vk r y 0 (by omega);rw [Nat.add_zero] at this;exact this));have y1:V.cell? ⟨g,r.length*3+1,none⟩=some (.int .i64 y.2.1):=(hbl.cell _).trans (hcur _ _ (Vk r y 1 (by omega)));have y2:V.cell? ⟨g,r.length*3+2,none⟩=some (.int .i64 y.2.2):=(hbl.cell _).trans (hcur _ _ (Vk r y 2 (by omega)));have yl:=hbl.lt;have yf:=hbl.frozen (r.length*3+1);have HI:=bx (show (Pc.blk w.heap.size 179 #[.int .i64 a, .int .i64 b, .int .i64 c]::ps)[i+1]?=some (Pc.row base 179 3 (.slice (some ⟨g,0,none⟩) (r.length+1) cap) (r.length+1) ((r++[y]).flatMap dH)) from hi);have HLEN:=bx hlen;obtain⟨ya,yb,yc⟩:=y;simp only at hy y0 y1 y2;have Di:=bx (show F.wH (r++[(ya,yb,yc)]) (a,b,c)=if yb+1=a/\yc=c then r++[(ya,b,yc)] else (r++[(ya,yb,yc)])++[(a,b,c)] by
   unfold F.wH;rw [List.getLast?_append,List.getLast?_singleton,Option.some_or,List.dropLast_concat])
  clear hS hi hV Nl hbk hl hbl hcur hlen
  go_enter Tryz.func158,Tryz.ntmps158
  go_upto_region 1 with(fail)
  rw [<- HV.o]
  by_cases hA:yb+1=a
  ·by_cases hB:yc=c
   ·have HA:=bx (show F.wH (r++[(ya,yb,yc)]) (a,b,c)=r++[(ya,b,yc)] by rw [Di.o,if_pos ⟨hA,hB⟩]);have e1:(yb+1==a)=true:=by rw [beq_iff_eq];exact hA
    have e2:(yc==c)=true:=by rw [beq_iff_eq];exact hB
    clear hA hB;go_wp2_with fail
    go_quiet (fail)
    have nI:=bx (tV.o.drewN nq);go_wp2_with fail;go_ret
    refine⟨_,rfl,?_⟩;have h8:=(nI.o.ag4 (i+1) HI.o (g:=g) rfl (r.length*3+1) (by omega) (.int .i64 b)).tail;rw [amo] at h8;rw [HA.o,List.length_append];exact h8
   ·have HA:=bx (show F.wH (r++[(ya,yb,yc)]) (a,b,c)=(r++[(ya,yb,yc)])++[(a,b,c)] by rw [Di.o,if_neg (λh=>hB h.2)]);have e1:(yb+1==a)=true:=by rw [beq_iff_eq];exact hA
    have e2:(yc==c)=false:=by rw [beq_eq_false_iff_ne];exact hB
    clear hA hB;go_wp2_with fail
    go_quiet (fail)
    have nI:=bx (tV.o.drewN nq);have hbq:base<=(V.drewN nq).heap.size:=hbs;have Nu:=bx (show (V.drewN nq).heap.size=w.heap.size+1 from Wy);go_wp2_with (at_builtin;refine xR (cs:=dH (a,b,c)) rfl _ _ 120 rfl oI (by decide) nI.o (i+1) HI.o rfl (by rw [Nu.o];rfl) rfl (by intro u hu;simp only [dH,List.mem_cons,List.not_mem_nil,or_false] at hu;rcases hu with rfl | rfl | rfl <;> rfl) (by omega) (by omega) hbq ?_;rintro v' w6 hS6 ⟨go',gc',rfl,-,-⟩)
    have dA:=bx hS6;clear hS6;go_wp2_with fail;go_ret
    refine⟨_,rfl,?_⟩;have h8:=dA.o.tail;rw [HA.o];rw [List.length_append,HLEN.o,List.flatMap_append (xs:=r++[(ya,yb,yc)]),List.flatMap_singleton];exact h8
  ·have HA:=bx (show F.wH (r++[(ya,yb,yc)]) (a,b,c)=(r++[(ya,yb,yc)])++[(a,b,c)] by rw [Di.o,if_neg (λh=>hA h.1)]);have e1:(yb+1==a)=false:=by rw [beq_eq_false_iff_ne];exact hA
   clear hA;go_wp2_with fail
   go_quiet (fail)
   have nI:=bx (tV.o.drewN nq);have hbq:base<=(V.drewN nq).heap.size:=hbs;have Nu:=bx (show (V.drewN nq).heap.size=w.heap.size+1 from Wy);go_wp2_with (at_builtin;refine xR (cs:=dH (a,b,c)) rfl _ _ 120 rfl oI (by decide) nI.o (i+1) HI.o rfl (by rw [Nu.o];rfl) rfl (by intro u hu;simp only [dH,List.mem_cons,List.not_mem_nil,or_false] at hu;rcases hu with rfl | rfl | rfl <;> rfl) (by omega) (by omega) hbq ?_;rintro v' w6 hS6 ⟨go',gc',rfl,-,-⟩)
   have dA:=bx hS6;clear hS6;go_wp2_with fail;go_ret
   refine⟨_,rfl,?_⟩;have h8:=dA.o.tail;rw [HA.o];rw [List.length_append,HLEN.o,List.flatMap_append (xs:=r++[(ya,yb,yc)]),List.flatMap_singleton];exact h8
theorem ae0 {l:List F.bJ} {x:F.bJ} (hl:∀ y∈l,0<=y.2.1/\y.2.1<=1114111) (hx:0<=x.2.1/\x.2.1<=1114111):(∀ y∈F.wH l x,0<=y.2.1/\y.2.1<=1114111)/\(F.wH l x).length<=l.length+1:=by
 unfold F.wH
 split
 ·exact⟨λy hy=>by
   rcases List.mem_append.1 hy with h | h
   ·exact hl y h
   ·rw [List.mem_singleton.1 h];exact hx,by simp⟩
 ·rename_i z hz
  split
  ·exact⟨λy hy=>by
    rcases List.mem_append.1 hy with h | h
    ·exact hl y (List.dropLast_subset l h)
    ·rw [List.mem_singleton.1 h];exact hx,by simp⟩
  ·exact⟨λy hy=>by
    rcases List.mem_append.1 hy with h | h
    ·exact hl y h
    ·rw [List.mem_singleton.1 h];exact hx,by simp⟩
theorem ahH (v:Value) (l:List F.bJ) (w:World) (hv:jh w v l) (hok:F.tX l=true) :
  Calls Tryz.prog 113 #[v] w λe w'=>(∃ v',e = .returned (.tuple #[v', .int .i64 0])/\jh w' v' (F.Ac l l.length))/\Below w.heap.size w w':=by
 have bI:=bx (acV v l w hv hok);have HV:=bx hv;unfold F.tX at hok;rw [Bool.and_eq_true,decide_eq_true_eq,List.all_eq_true] at hok;obtain⟨hall,Wq⟩:=hok;have fC:=bx (show ∀ (i:Nat) (x:F.bJ),l[i]?=some x->0<=x.2.1/\x.2.1<=1114111 from λi x hx=>by
  have hi:=(List.getElem?_eq_some_iff.1 hx).1;have h:=hall i (List.mem_range.2 hi);have hgd:l.getD i (0,0,0)=x:=by rw [List.getD_eq_getElem?_getD,hx];rfl
  rw [hgd,Bool.and_eq_true] at h;have h2:=h.1;unfold F.Ep at h2;simp only [Bool.and_eq_true,decide_eq_true_eq] at h2;omega)
 obtain⟨a,cap,rfl,hc1,hc2⟩:=hv.slice;clear hv hall
 go_enter Tryz.func113,Tryz.ntmps113
 go_wp2_with fail;refine bI.o.mono ?_;rintro e w1 ⟨rfl,hb1⟩;have HB1:=bx hb1;have dU:=bx (HV.o.below hb1);have aU:=bx ((Sep.start w1).fP w1.heap.size 3 179);clear hb1;go_wp2_with fail
 go_loopw [5,4] (λi o wr=>∃ k:Nat,k<=l.length/\i = .int .i64 k/\(F.Ac l k).length<=k/\Box (∀ y∈F.Ac l k,0<=y.2.1/\y.2.1<=1114111)/\Box (Sep [Pc.row w1.heap.size 179 3 o (F.Ac l k).length ((F.Ac l k).flatMap dH),Pc.old w1.heap.size w1] wr)) (λi _ _=>l.length-(intOf i).toNat)
 case atStart=>exact⟨0,by omega,rfl,Nat.le_refl _,⟨λy hy=>absurd hy List.not_mem_nil⟩,aU⟩
 case round =>
  obtain⟨k,hk,rfl,hln,hrg,hse⟩:=hrel;have aV:=bx (hse.o.bel (n:=w1.heap.size) (W0:=w1) (by simp));clear aU;obtain⟨oo,oc,rfl,ho1,ho2⟩:=dN (hse.o.row 0 rfl)
  by_cases hlt:k<l.length
  ·obtain⟨x,hx⟩:∃ x,l[k]?=some x:=⟨_,List.getElem?_eq_getElem hlt⟩
   have hgd:l.getD k (0,0,0)=x:=by rw [List.getD_eq_getElem?_getD,hx];rfl
   have jX:=bx (fC.o k x hx);have HT:=bx (show F.Ac l (k+1)=F.wH (F.Ac l k) x by rw [<- hgd];rfl);obtain⟨g,off,cap2,hg1,hg2,hg3,hg4,hg5⟩:=(dU.o.below aV.o).get (by rintro rfl;simp at hlt);obtain⟨rfl,rfl⟩:a=some ⟨g,off,none⟩/\cap=cap2:=by injection hg1 with h1 h2 h3;exact⟨h1,h3⟩
   obtain⟨x0,x1,x2⟩:=hg5 k x hx;have HAD:=bx (anz 0 w1.heap.size _ (F.Ac l k) x wr hse.o rfl (by omega) hrg.o aV.o.size);have Kt:=bx (ae0 hrg.o jX.o);rw [<- HT.o] at HAD Kt;unfold maxLen at hg3;clear hx hgd hg1 hg5;go_wp2_with fail;refine HAD.o.mono ?_;rintro e w2 ⟨v',rfl,hS2⟩;have HS2:=bx hS2;clear hS2;go_wp2_with fail
   go_roundw
   case rel=>exact⟨k+1,hlt,by go_num,by have:=Kt.o.2;omega,⟨Kt.o.1⟩,HS2⟩
   case measure=>simp [intOf];omega
  ·obtain rfl:k=l.length:=by omega
   have HO:=bx (jh.dL (hse.o.row 0 rfl) rfl);have dJ:=bx (bt HB1.o aV.o);go_wp2_with fail;go_ret2
   exact⟨⟨_,rfl,HO.o⟩,dJ.o⟩
theorem oW {P:Program} {w0:World} {o:Oper} {a:Act} {K:Act->World->Prop} {Q:Exit->Act->World->Prop} {E':Prop} {ops:Array Oper} (hgd:o.guard=none) (s x:Operand) (t:TypeId)
  (ho:o.op = .call { callee:=.builtin .append,args:=#[s,x],argTypes:=#[t,t] }) {base:Nat} {e:TypeId} {sz bytes:Nat} (hP:wP P t e sz bytes) (hsz:0<sz) {ps:List Pc} (hS:Sep ps w0) (k:Nat) {v xv:Value} {cs:List Value} {n m:Nat} {xs:List Value}
  (hk:ps[k]?=some (Pc.row base e sz v n xs)) (hs:a.eval s=v) (hx:a.eval x=xv) (hX:qo w0 xv m cs) (hc:cs.length=m*sz) (h1:∀ u∈cs,u.oneCell'=true) (hn:n+m<=1000000000) (hby:bytes<=10000) (hbase:base<=w0.heap.size)
  (h:∀ v' w',Sep (ps.set k (Pc.row base e sz v' (n+m) (xs++cs))) w'->K (a.put o.dst v') w') :
  if Region.wanted o (yielded ops a.tmps)=true then Oper.wp P o a w0 K Q else E':=by
 rw [if_pos (by simp [Region.wanted,hgd])];obtain⟨i,z,ht,hi,hz0,hz1,hz2,hz3⟩:=hP.o
 rcases hX with⟨rfl,rfl,rfl⟩ | ⟨ad,c,rfl,hcl⟩
 ·have hrun:=run_append_owned_none (P:=P) (w:=w0) base t o.type e i sz ht hi v n xs (hS.row k hk);have h8:=h v w0;rw [Nat.add_zero,List.append_nil,show ps.set k (Pc.row base e sz v n xs)=ps by
   obtain⟨h2,h3⟩:=List.getElem?_eq_some_iff.1 hk;rw [<- h3,List.set_getElem_self]] at h8
  unfold Oper.wp;simp [execOp,ho,resolve,invoke,builtin,hs,hx,hrun,Result.andThen];exact h8 hS
 ·have hb:(n+m)*bytes<=1000000000*10000:=Nat.mul_le_mul hn hby;obtain⟨v',w',hr,hown,hgrow,-,hat⟩:=run_append_own_at (P:=P) w0 base t o.type e i z sz bytes ht hi hz0 hz1 hz2 hz3 hsz v n xs (hS.row k hk) ad m c cs hc hcl h1 (by unfold maxLen;omega) (by omega) hbase;unfold Oper.wp execOp;simp only [ho,resolve,invoke,builtin,Sem.run_bind,Sem.run_pure,Result.andThen_ok,List.map_toArray,List.map_cons,List.map_nil,hs,hx,hr];exact h v' w' (hS.grow k hk hgrow hown (by
   rcases hat with e1 | e1
   ·exact .inl e1
   ·exact .inr (λq hq=>by rw [e1] at hq;simp only [Option.some.injEq] at hq;omega)))
theorem ahP {l:List F.bJ} {a:Int}:∀ {k:Nat},(∀ (j:Nat) (y:F.bJ),j<k->l[j]?=some y->y.1<a)->k<=l.length->(∀ y,l[k]?=some y->¬ y.1<a)->l.takeWhile (λy=>decide (y.1<a))=l.take k/\l.dropWhile (λy=>decide (y.1<a))=l.drop k:=by
 induction l with
 | nil =>
  intro k _ hk _;simp at hk;subst hk;exact⟨rfl,rfl⟩
 | cons x t ih =>
  intro k h1 hk h2
  cases k with
  | zero =>
   have hx:=h2 x rfl;exact⟨List.takeWhile_cons_of_neg (by simpa using hx),List.dropWhile_cons_of_neg (by simpa using hx)⟩
  | succ k =>
   have hx:=h1 0 x (by omega) rfl;obtain⟨i1,i2⟩:=ih (k:=k) (λj y hj hy=>h1 (j+1) y (by omega) (by simpa using hy)) (by simp at hk;omega) (λy hy=>h2 y (by simpa using hy));rw [List.takeWhile_cons_of_pos (by simpa using hx),List.dropWhile_cons_of_pos (by simpa using hx),i1,i2];exact⟨rfl,rfl⟩
theorem zI:∀ {l:List F.bJ},∀ u∈l.flatMap dH,u.oneCell'=true:=by
 intro l u hu;obtain⟨y,-,hy⟩:=List.mem_flatMap.1 hu;simp only [dH,List.mem_cons,List.not_mem_nil,or_false] at hy
 rcases hy with rfl | rfl | rfl <;> rfl
theorem jh.cells {w:World} {b off cap:Nat} {l:List F.bJ} (h:∀ i x,l[i]?=some x->w.cell? ⟨b,off+i*3,none⟩=some (.int .i64 x.1)/\w.cell? ⟨b,off+i*3+1,none⟩=some (.int .i64 x.2.1)/\w.cell? ⟨b,off+i*3+2,none⟩=some (.int .i64 x.2.2)) (n:Nat):qo w (.slice (some ⟨b,off,none⟩) n cap) n (l.flatMap dH):=by
 refine .inr ⟨_,_,rfl,λj u hu=>?_⟩;have hj:j<(l.flatMap dH).length:=(List.getElem?_eq_some_iff.1 hu).1;rw [wO] at hj;obtain⟨x,hx⟩:∃ x,l[j / 3]?=some x:=⟨_,List.getElem?_eq_getElem (by omega)⟩
 obtain⟨h0,h1,h2⟩:=h (j / 3) x hx;have hg:=flat_get dH 3 l (j / 3) (j % 3) x (λy _=>rfl) hx (by omega);have ej:j / 3*3+j % 3=j:=by omega
 rw [ej] at hg;have e2:(⟨b,off,none⟩:Addr).add j=⟨b,off+(j / 3*3+j % 3),none⟩:=by rw [ej];unfold Addr.add;by_cases h0:j=0 <;> simp [h0]
 rw [e2];rw [hu] at hg
 rcases (show j % 3=0\/j % 3=1\/j % 3=2 by omega) with e | e | e
 ·rw [e] at hg ⊢
  cases hg;exact h0
 ·rw [e] at hg ⊢
  cases hg;rw [<- Nat.add_assoc];exact h1
 ·rw [e] at hg ⊢
  cases hg;rw [<- Nat.add_assoc];exact h2
theorem Ii {W:World} {q:Nat} {T:TypeId} {cs:List Value} (h:ak W q T cs.toArray):qo W (.slice (some ⟨q,0,none⟩) 1 1) 1 cs :=
 .inr ⟨_,_,rfl,λj u hu=>by
  rw [show (⟨q,0,none⟩:Addr).add j=⟨q,j,none⟩ by unfold Addr.add;by_cases h0:j=0 <;> simp [h0]];exact(h.cell j).trans (by rw [List.getElem?_toArray];exact hu)⟩
theorem adb {w:World} {ad ad':Addr} {cap k:Nat} {l:List F.bJ} (h:jh w (.slice (some ad) l.length cap) l) (hk:k<=l.length) (had:k<l.length->ad'=ad.add (k*3)):qo w (.slice (some ad) k cap) k ((l.take k).flatMap dH)/\qo w (.slice (some ad') (l.length-k) (cap-k)) (l.length-k) ((l.drop k).flatMap dH):=by
 by_cases hn:l=[]
 ·subst hn;exact⟨.inr ⟨_,_,rfl,λj u hu=>by simp at hu⟩, .inr ⟨_,_,rfl,λj u hu=>by simp at hu⟩⟩
 ·obtain⟨b,off,cap2,e1,-,-,-,hg⟩:=h.get hn;obtain⟨rfl,rfl⟩:ad=⟨b,off,none⟩/\cap=cap2:=by injection e1 with h1 h2 h3;injection h1 with h1;exact⟨h1,h3⟩
  refine⟨jh.cells (λi x hx=>hg i x ?_) k,?_⟩
  ·rw [List.getElem?_take] at hx
   split at hx
   ·exact hx
   ·cases hx
  ·rcases Nat.lt_or_ge k l.length with h1 | h1
   ·rw [had h1,show (⟨b,off,none⟩:Addr).add (k*3)=⟨b,off+k*3,none⟩ by unfold Addr.add;by_cases h0:k*3=0 <;> simp [h0]];refine jh.cells (λi x hx=>?_) _;rw [List.getElem?_drop] at hx;have h9:=hg (k+i) x hx;rw [show off+k*3+i*3=off+(k+i)*3 by rw [Nat.add_mul];omega];exact h9
   ·rw [List.drop_eq_nil_of_le h1];exact .inr ⟨_,_,rfl,λj u hu=>by simp at hu⟩
theorem ael (a:Option Addr) (N cap k:Nat) (l:List F.bJ) (hk:k<=N) (hc:N<=cap) (hz:cap<=9223372036854775807) (hN:l.length=N) {w0:World} (h0:jh w0 (.slice a N cap) l):∃ L X Y,L+k=N/\(∀ W,(Instr.slice 120 (.slice a N cap) none (some (.int .i64 (k:Int))) none).run Tryz.prog W = .ok X W)/\(∀ W,(Instr.slice 120 (.slice a N cap) (some (.int .i64 (k:Int))) none none).run Tryz.prog W = .ok Y W)/\∀ W,jh W (.slice a N cap) l->qo W X k ((l.take k).flatMap dH)/\qo W Y L ((l.drop k).flatMap dH):=by
 subst hN;have hkc:k<=cap:=by omega
 cases a with
 | none =>
  obtain⟨rfl,rfl⟩:l=[]/\cap=0:=by
   rcases h0 with⟨h1,h2⟩ | ⟨b,off,sp,cap2,h1,_⟩
   ·injection h1 with h1 h2' h3';exact⟨by simpa using h2,h3'⟩
   ·injection h1 with h1;cases h1
  obtain rfl:k=0:=by simpa using hk
  exact⟨0, .slice none 0 0, .slice none 0 0,rfl,λW=>by go_simp,λW=>by go_simp,λW _=>⟨.inl ⟨rfl,rfl,rfl⟩, .inl ⟨rfl,rfl,rfl⟩⟩⟩
 | some ad =>
  have V7:∀ W,(Instr.slice 120 (.slice (some ad) l.length cap) none (some (.int .i64 (k:Int))) none).run Tryz.prog W = .ok (.slice (some ad) k cap) W:=λW=>by go_simp
  by_cases h:cap=k
  ·exact⟨l.length-k, .slice (some ad) k cap, .slice (some ad) (l.length-k) (cap-k),by omega,V7,λW=>by go_simp,λW hW=>adb hW hk (λh1=>by omega)⟩
  ·exact⟨l.length-k, .slice (some ad) k cap, .slice (some (ad.add (k*3))) (l.length-k) (cap-k),by omega,V7,λW=>by go_simp,λW hW=>adb hW hk (λ_=>rfl)⟩
theorem akn (v:Value) (l:List F.bJ) (x:F.bJ) (w:World) (hv:jh w v l) (hz:l.length<=100000) :
  Calls Tryz.prog 157 #[v, .agg #[.int .i64 x.1, .int .i64 x.2.1, .int .i64 x.2.2]] w λe w'=>(∃ v',e = .returned v'/\w'.ownsRow w.heap.size 179 3 v' (l.length+1) ((F.FC l x).flatMap dH))/\Below w.heap.size w w':=by
 obtain⟨xa,xb,xc⟩:=x;obtain⟨a,cap,rfl,hc1,hc2⟩:=hv.slice;obtain⟨N,hN⟩:∃ N,l.length=N:=⟨_,rfl⟩
 have HN:=bx hN;rw [hN] at hv hc1 hz ⊢;have HV:=bx hv;clear hN;obtain⟨V,hV⟩:∃ V,V=w.alloc (.cells #[.int .i64 xa, .int .i64 xb, .int .i64 xc] 179):=⟨_,rfl⟩
 have Hy:Below w.heap.size w V:=by rw [hV];exact(Below.refl _ _).alloc (Nat.le_refl _) _
 have bG:=bx Hy;have dR:=bx (show ak V w.heap.size 179 #[.int .i64 xa, .int .i64 xb, .int .i64 xc] by rw [hV];exact ak.new _ _ _);have HV0:=bx hV;clear hv hV Hy
 go_enter Tryz.func157,Tryz.ntmps157
 go_upto_region 1 with(fail)
 rw [<- HV0.o];go_wp2_with fail
 go_loopw [5] (λi wr=>∃ k:Nat,k<=N/\i = .int .i64 k/\Box (∀ (j:Nat) (y:F.bJ),j<k->l[j]?=some y->y.1<xa)/\Box (Below V.heap.size V wr)) (λi _=>N-(intOf i).toNat)
 case atStart=>exact⟨0,by omega,rfl,⟨λj y h=>by omega⟩,⟨Below.refl _ _⟩⟩
 case round =>
  obtain⟨k,hk,rfl,hno,hb⟩:=hrel;have hbk:=dR.o.below hb.o dR.o.lt;have c0:wr.cell? ⟨w.heap.size,0,none⟩=some (.int .i64 xa):=(hbk.cell 0).trans rfl;have c1:wr.cell? ⟨w.heap.size,1,none⟩=some (.int .i64 xb):=(hbk.cell 1).trans rfl;have c2:wr.cell? ⟨w.heap.size,2,none⟩=some (.int .i64 xc):=(hbk.cell 2).trans rfl;have cl:=hbk.lt;have aJ:=bx (bt bG.o hb.o);have HDR:=bx (λm=>hb.o.trans ((jG wr m).mono hb.o.size));clear hbk
  by_cases hgo:∃ y,l[k]?=some y/\y.1<xa
  ·obtain⟨y,hy,hlt⟩:=hgo;have hkl:k<N:=by rw [<- HN.o];exact(List.getElem?_eq_some_iff.1 hy).1
   obtain⟨g,off,cap2,hg1,hg2,hg3,hg4,hg5⟩:=(HV.o.below aJ.o).get (by rintro rfl;simp at hy);rw [HN.o] at hg1;obtain⟨rfl,rfl⟩:a=some ⟨g,off,none⟩/\cap=cap2:=by injection hg1 with h1 h2 h3;exact⟨h1,h3⟩
   obtain⟨y0,y1,y2⟩:=hg5 k y hy;have HN:=bx (show ∀ (j:Nat) (z:F.bJ),j<k+1->l[j]?=some z->z.1<xa from λj z hj hz=>by
    rcases Nat.lt_or_ge j k with h1 | h1
    ·exact hno.o j z h1 hz
    ·obtain rfl:j=k:=by omega
     rw [hy] at hz
     cases hz;exact hlt)
   have e0:decide ((k:Int)<(N:Int))=true:=decide_eq_true (by omega);have e1:decide (y.1<xa)=true:=decide_eq_true hlt;unfold maxLen at hg3;clear hy hlt hg1 hg5;go_wp2_with fail
   go_quiet (fail)
   go_wp2_with fail
   go_roundw
   case rel=>exact⟨k+1,by omega,by go_num,HN,⟨HDR.o _⟩⟩
   case measure=>simp [intOf];omega
  ·obtain⟨BH,IY⟩:Box (l.takeWhile (λy=>decide (y.1<xa))=l.take k)/\Box (l.dropWhile (λy=>decide (y.1<xa))=l.drop k):=by
    obtain⟨h1,h2⟩:=ahP (a:=xa) hno.o (by rw [HN.o];exact hk) (λy hy h=>hgo ⟨y,hy,h⟩);exact⟨⟨h1⟩,⟨h2⟩⟩
   have xk:=bx (show F.FC l (xa,xb,xc)=l.take k++(xa,xb,xc)::l.drop k by unfold F.FC;rw [BH.o,IY.o]);have BK:=bx hk;obtain⟨L,X,Y,hLk,V7,UO,hcut⟩:=ael a N cap k l hk hc1 hc2 HN.o HV.o;have wQ:=bx (λW (h:Below w.heap.size w W)=>hcut W (HV.o.below h));have oh:=bx hLk;clear hcut hLk;have Tt:N=k\/∃ y,l[k]?=some y/\¬ y.1<xa:=by
    rcases Nat.lt_or_ge k N with h | h
    ·exact .inr ⟨l[k]'(by rw [HN.o];exact h),List.getElem?_eq_getElem (by rw [HN.o];exact h),λh9=>hgo ⟨_,List.getElem?_eq_getElem (by rw [HN.o];exact h),h9⟩⟩
    ·exact .inl (by omega)
   clear hgo hno BH IY
   rcases Tt with rfl | ⟨y,hy,hlt⟩
   ·go_wp2_with fail
    go_quiet (fail)
    go_wp2_with fail;have aF:=bx (show Below w.heap.size w (wr.drewN nq).drew from aJ.o.trans (((jG wr nq).trans (show Below wr.heap.size (wr.drewN nq) (wr.drewN nq).drew from eu (wr.drewN nq) 1)).mono aJ.o.size));have au:=bx (show (λW=>W.cell? ⟨w.heap.size,0,none⟩=some (.int .i64 xa)/\W.cell? ⟨w.heap.size,1,none⟩=some (.int .i64 xb)/\W.cell? ⟨w.heap.size,2,none⟩=some (.int .i64 xc)) (wr.drewN nq).drew from⟨c0,c1,c2⟩);have kM:=bx (show w.heap.size<(wr.drewN nq).drew.heap.size from cl);refine dO 12 (λW=>W.cell? ⟨w.heap.size,0,none⟩=some (.int .i64 xa)/\W.cell? ⟨w.heap.size,1,none⟩=some (.int .i64 xb)/\W.cell? ⟨w.heap.size,2,none⟩=some (.int .i64 xc)) (by kernel_rfl) ?_;generalize (wr.drewN nq).drew=WR at aF au kM ⊢;have dZ:=bx (show ∀ W,Below WR.heap.size WR W->(λW=>W.cell? ⟨w.heap.size,0,none⟩=some (.int .i64 xa)/\W.cell? ⟨w.heap.size,1,none⟩=some (.int .i64 xb)/\W.cell? ⟨w.heap.size,2,none⟩=some (.int .i64 xc)) W from λW h=>⟨(h.cell (p:=⟨w.heap.size,0,none⟩) kM.o).trans au.o.1,(h.cell (p:=⟨w.heap.size,1,none⟩) kM.o).trans au.o.2.1,(h.cell (p:=⟨w.heap.size,2,none⟩) kM.o).trans au.o.2.2⟩);have MW:=bx (show ∀ W,Below WR.heap.size WR W->qo W (X) N ((l.take N).flatMap dH) from λW h=>(wQ.o W (bt aF.o h)).1);have MS:=bx (show ∀ W,Below WR.heap.size WR W->qo W (Y) L ((l.drop N).flatMap dH) from λW h=>(wQ.o W (bt aF.o h)).2);have aU:=bx ((Sep.start WR).fP WR.heap.size 3 179);have htl:((l.take N).flatMap dH).length=N*3:=by rw [wO,List.length_take,HN.o,Nat.min_eq_left BK.o]
    clear c0 c1 c2 cl;refine kS 0 ?_ rfl au.o ?_ ?_;rotate_left
    ·rintro w ⟨q1,q2,q3⟩;go_simp;try with_reducible rfl
    refine kS 1 ?_ rfl au.o ?_ ?_;rotate_left
    ·rintro w ⟨q1,q2,q3⟩;go_simp;try with_reducible rfl
    refine kS 2 ?_ rfl au.o ?_ ?_;rotate_left
    ·rintro w ⟨q1,q2,q3⟩;go_simp;try with_reducible rfl
    refine kS 3 ?_ rfl au.o ?_ ?_;rotate_left
    ·rintro w ⟨q1,q2,q3⟩;go_simp;try with_reducible rfl
    refine kS 8 ?_ rfl au.o ?_ ?_;rotate_left
    ·rintro w ⟨q1,q2,q3⟩;go_simp;try with_reducible rfl
    refine kS 9 ?_ rfl au.o ?_ ?_;rotate_left
    ·rintro w ⟨q1,q2,q3⟩;go_simp;try with_reducible rfl
    refine kS 10 ?_ rfl au.o ?_ ?_;rotate_left
    ·rintro w ⟨q1,q2,q3⟩;go_simp;try with_reducible rfl
    refine kS 5 ?_ rfl au.o ?_ ?_;rotate_left
    ·rintro w ⟨q1,q2,q3⟩;go_simp;try with_reducible rfl
    refine KW (rs:=[4,6]) (by kernel_rfl) (by simp) (pU.cons rfl (λKK aj=>?_) (pU.cons rfl (λKK aj=>?_) pU.nil))
    ·refine oW rfl _ _ 120 rfl oI (by decide) aU.o 0 rfl (by kernel_rfl) (by kernel_rfl) (m:=N) (cs:=(l.take N).flatMap dH) (MW.o _ (Below.refl _ _)) htl zI (by omega) (by omega) (Nat.le_refl _) ?_;rintro v4 w4 hS4;have dn:=bx hS4;have HB4:=bx (dn.o.bel (n:=WR.heap.size) (W0:=WR) (by simp));clear hS4;refine aj.out _ _ (λ_=>dZ.o _ HB4.o) ?_;clear aj KK;refine kP 6 rfl λKK aj=>?_
     go_simp;have aG:=bx (dn.o.dh 179 #[.int .i64 xa, .int .i64 xb, .int .i64 xc]);refine aj.out _ _ (λ_=>dZ.o _ (aG.o.bel (n:=WR.heap.size) (W0:=WR) (by simp))) ?_;clear aj KK;have aP:=bx (aG.o.bel (n:=WR.heap.size) (W0:=WR) (by simp));refine kP 7 rfl λKK aj=>?_
     refine oW rfl _ _ 120 rfl oI (by decide) aG.o 1 rfl (by kernel_rfl) (by kernel_rfl) (m:=1) (cs:=dH (xa,xb,xc)) (Ii (aG.o.blk 0 rfl)) rfl (by intro u hu;simp only [dH,List.mem_cons,List.not_mem_nil,or_false] at hu;rcases hu with rfl | rfl | rfl <;> rfl) (by omega) (by omega) aP.o.size ?_;rintro v7 w7 hS7;have bH:=bx hS7;have aH:=bx (bH.o.bel (n:=WR.heap.size) (W0:=WR) (by simp));clear hS7;refine aj.out _ _ (λ_=>dZ.o _ aH.o) ?_;clear aj KK;refine kP 11 rfl λKK aj=>?_
     refine oW rfl _ _ 120 rfl oI (by decide) bH.o 1 rfl (by kernel_rfl) (by kernel_rfl) (m:=L) (cs:=(l.drop N).flatMap dH) (MS.o _ aH.o) (by rw [wO,List.length_drop];have:=oh.o;have:=HN.o;omega) zI (by have:=oh.o;omega) (by omega) aH.o.size ?_;rintro v8 w8 dW;have dS:=bx dW;have aY:=bx (dS.o.bel (n:=WR.heap.size) (W0:=WR) (by simp));clear dW;refine aj.out _ _ (λ_=>dZ.o _ aY.o) ?_;clear aj KK;refine kP 12 rfl λKK aj=>?_
     go_simp;refine aj.out _ _ (λh=>by cases h) ?_;clear aj KK;refine kD ?_ _;go_wp2_with fail;go_ret
     refine⟨⟨_,rfl,?_⟩,bt aF.o aY.o⟩;have hrow:=own_base (dS.o.row 1 rfl) (show w.heap.size<=WR.heap.size from aF.o.size);rw [show 0+N+1+L=N+1 by have:=oh.o;omega,List.nil_append] at hrow;rw [xk.o,List.flatMap_append,List.flatMap_cons,<- List.append_assoc];exact hrow
    ·go_simp;have aG:=bx (aU.o.dh 179 #[.int .i64 xa, .int .i64 xb, .int .i64 xc]);have cO:=bx (aG.o.bel (n:=WR.heap.size) (W0:=WR) (by simp));refine aj.out _ _ (λ_=>dZ.o _ cO.o) ?_;clear aj KK;refine kP 4 rfl λKK aj=>?_
     refine oW rfl _ _ 120 rfl oI (by decide) aG.o 1 rfl (by kernel_rfl) (by kernel_rfl) (m:=N) (cs:=(l.take N).flatMap dH) (MW.o _ cO.o) htl zI (by omega) (by omega) cO.o.size ?_;rintro v4 w4 hS4;have dn:=bx hS4;have HB4:=bx (dn.o.bel (n:=WR.heap.size) (W0:=WR) (by simp));clear hS4;refine aj.out _ _ (λ_=>dZ.o _ HB4.o) ?_;clear aj KK;have aP:=bx (dn.o.bel (n:=WR.heap.size) (W0:=WR) (by simp));refine kP 7 rfl λKK aj=>?_
     refine oW rfl _ _ 120 rfl oI (by decide) dn.o 1 rfl (by kernel_rfl) (by kernel_rfl) (m:=1) (cs:=dH (xa,xb,xc)) (Ii (dn.o.blk 0 rfl)) rfl (by intro u hu;simp only [dH,List.mem_cons,List.not_mem_nil,or_false] at hu;rcases hu with rfl | rfl | rfl <;> rfl) (by omega) (by omega) aP.o.size ?_;rintro v7 w7 hS7;have bH:=bx hS7;have aH:=bx (bH.o.bel (n:=WR.heap.size) (W0:=WR) (by simp));clear hS7;refine aj.out _ _ (λ_=>dZ.o _ aH.o) ?_;clear aj KK;refine kP 11 rfl λKK aj=>?_
     refine oW rfl _ _ 120 rfl oI (by decide) bH.o 1 rfl (by kernel_rfl) (by kernel_rfl) (m:=L) (cs:=(l.drop N).flatMap dH) (MS.o _ aH.o) (by rw [wO,List.length_drop];have:=oh.o;have:=HN.o;omega) zI (by have:=oh.o;omega) (by omega) aH.o.size ?_;rintro v8 w8 dW;have dS:=bx dW;have aY:=bx (dS.o.bel (n:=WR.heap.size) (W0:=WR) (by simp));clear dW;refine aj.out _ _ (λ_=>dZ.o _ aY.o) ?_;clear aj KK;refine kP 12 rfl λKK aj=>?_
     go_simp;refine aj.out _ _ (λh=>by cases h) ?_;clear aj KK;refine kD ?_ _;go_wp2_with fail;go_ret
     refine⟨⟨_,rfl,?_⟩,bt aF.o aY.o⟩;have hrow:=own_base (dS.o.row 1 rfl) (show w.heap.size<=WR.heap.size from aF.o.size);rw [show 0+N+1+L=N+1 by have:=oh.o;omega,List.nil_append] at hrow;rw [xk.o,List.flatMap_append,List.flatMap_cons,<- List.append_assoc];exact hrow
   ·have hkl:k<N:=by rw [<- HN.o];exact(List.getElem?_eq_some_iff.1 hy).1
    obtain⟨g,off,cap2,hg1,hg2,hg3,hg4,hg5⟩:=(HV.o.below aJ.o).get (by rintro rfl;simp at hy);rw [HN.o] at hg1;obtain⟨rfl,rfl⟩:a=some ⟨g,off,none⟩/\cap=cap2:=by injection hg1 with h1 h2 h3;exact⟨h1,h3⟩
    obtain⟨y0,y1,y2⟩:=hg5 k y hy;have e0:decide ((k:Int)<(N:Int))=true:=decide_eq_true (by omega);have e1:decide (y.1<xa)=false:=decide_eq_false hlt;unfold maxLen at hg3;clear hy hlt hg1 hg5;go_wp2_with fail
    go_quiet (fail)
    go_wp2_with fail;clear y0 y1 y2 e1;have aF:=bx (show Below w.heap.size w (wr.drewN nq).drew from aJ.o.trans (((jG wr nq).trans (show Below wr.heap.size (wr.drewN nq) (wr.drewN nq).drew from eu (wr.drewN nq) 1)).mono aJ.o.size));have au:=bx (show (λW=>W.cell? ⟨w.heap.size,0,none⟩=some (.int .i64 xa)/\W.cell? ⟨w.heap.size,1,none⟩=some (.int .i64 xb)/\W.cell? ⟨w.heap.size,2,none⟩=some (.int .i64 xc)) (wr.drewN nq).drew from⟨c0,c1,c2⟩);have kM:=bx (show w.heap.size<(wr.drewN nq).drew.heap.size from cl);refine dO 12 (λW=>W.cell? ⟨w.heap.size,0,none⟩=some (.int .i64 xa)/\W.cell? ⟨w.heap.size,1,none⟩=some (.int .i64 xb)/\W.cell? ⟨w.heap.size,2,none⟩=some (.int .i64 xc)) (by kernel_rfl) ?_;generalize (wr.drewN nq).drew=WR at aF au kM ⊢;have dZ:=bx (show ∀ W,Below WR.heap.size WR W->(λW=>W.cell? ⟨w.heap.size,0,none⟩=some (.int .i64 xa)/\W.cell? ⟨w.heap.size,1,none⟩=some (.int .i64 xb)/\W.cell? ⟨w.heap.size,2,none⟩=some (.int .i64 xc)) W from λW h=>⟨(h.cell (p:=⟨w.heap.size,0,none⟩) kM.o).trans au.o.1,(h.cell (p:=⟨w.heap.size,1,none⟩) kM.o).trans au.o.2.1,(h.cell (p:=⟨w.heap.size,2,none⟩) kM.o).trans au.o.2.2⟩);have MW:=bx (show ∀ W,Below WR.heap.size WR W->qo W (X) k ((l.take k).flatMap dH) from λW h=>(wQ.o W (bt aF.o h)).1);have MS:=bx (show ∀ W,Below WR.heap.size WR W->qo W (Y) L ((l.drop k).flatMap dH) from λW h=>(wQ.o W (bt aF.o h)).2);have aU:=bx ((Sep.start WR).fP WR.heap.size 3 179);have htl:((l.take k).flatMap dH).length=k*3:=by rw [wO,List.length_take,HN.o,Nat.min_eq_left BK.o]
    clear c0 c1 c2 cl;refine kS 0 ?_ rfl au.o ?_ ?_;rotate_left
    ·rintro w ⟨q1,q2,q3⟩;go_simp;try with_reducible rfl
    refine kS 1 ?_ rfl au.o ?_ ?_;rotate_left
    ·rintro w ⟨q1,q2,q3⟩;go_simp;try with_reducible rfl
    refine kS 2 ?_ rfl au.o ?_ ?_;rotate_left
    ·rintro w ⟨q1,q2,q3⟩;go_simp;try with_reducible rfl
    refine kS 3 ?_ rfl au.o ?_ ?_;rotate_left
    ·rintro w ⟨q1,q2,q3⟩;go_simp;try with_reducible rfl
    refine kS 8 ?_ rfl au.o ?_ ?_;rotate_left
    ·rintro w ⟨q1,q2,q3⟩;go_simp;try with_reducible rfl
    refine kS 9 ?_ rfl au.o ?_ ?_;rotate_left
    ·rintro w ⟨q1,q2,q3⟩;go_simp;try with_reducible rfl
    refine kS 10 ?_ rfl au.o ?_ ?_;rotate_left
    ·rintro w ⟨q1,q2,q3⟩;go_simp;try with_reducible rfl
    refine kS 5 ?_ rfl au.o ?_ ?_;rotate_left
    ·rintro w ⟨q1,q2,q3⟩;go_simp;try with_reducible rfl
    refine KW (rs:=[4,6]) (by kernel_rfl) (by simp) (pU.cons rfl (λKK aj=>?_) (pU.cons rfl (λKK aj=>?_) pU.nil))
    ·refine oW rfl _ _ 120 rfl oI (by decide) aU.o 0 rfl (by kernel_rfl) (by kernel_rfl) (m:=k) (cs:=(l.take k).flatMap dH) (MW.o _ (Below.refl _ _)) htl zI (by omega) (by omega) (Nat.le_refl _) ?_;rintro v4 w4 hS4;have dn:=bx hS4;have HB4:=bx (dn.o.bel (n:=WR.heap.size) (W0:=WR) (by simp));clear hS4;refine aj.out _ _ (λ_=>dZ.o _ HB4.o) ?_;clear aj KK;refine kP 6 rfl λKK aj=>?_
     go_simp;have aG:=bx (dn.o.dh 179 #[.int .i64 xa, .int .i64 xb, .int .i64 xc]);refine aj.out _ _ (λ_=>dZ.o _ (aG.o.bel (n:=WR.heap.size) (W0:=WR) (by simp))) ?_;clear aj KK;have aP:=bx (aG.o.bel (n:=WR.heap.size) (W0:=WR) (by simp));refine kP 7 rfl λKK aj=>?_
     refine oW rfl _ _ 120 rfl oI (by decide) aG.o 1 rfl (by kernel_rfl) (by kernel_rfl) (m:=1) (cs:=dH (xa,xb,xc)) (Ii (aG.o.blk 0 rfl)) rfl (by intro u hu;simp only [dH,List.mem_cons,List.not_mem_nil,or_false] at hu;rcases hu with rfl | rfl | rfl <;> rfl) (by omega) (by omega) aP.o.size ?_;rintro v7 w7 hS7;have bH:=bx hS7;have aH:=bx (bH.o.bel (n:=WR.heap.size) (W0:=WR) (by simp));clear hS7;refine aj.out _ _ (λ_=>dZ.o _ aH.o) ?_;clear aj KK;refine kP 11 rfl λKK aj=>?_
     refine oW rfl _ _ 120 rfl oI (by decide) bH.o 1 rfl (by kernel_rfl) (by kernel_rfl) (m:=L) (cs:=(l.drop k).flatMap dH) (MS.o _ aH.o) (by rw [wO,List.length_drop];have:=oh.o;have:=HN.o;omega) zI (by have:=oh.o;omega) (by omega) aH.o.size ?_;rintro v8 w8 dW;have dS:=bx dW;have aY:=bx (dS.o.bel (n:=WR.heap.size) (W0:=WR) (by simp));clear dW;refine aj.out _ _ (λ_=>dZ.o _ aY.o) ?_;clear aj KK;refine kP 12 rfl λKK aj=>?_
     go_simp;refine aj.out _ _ (λh=>by cases h) ?_;clear aj KK;refine kD ?_ _;go_wp2_with fail;go_ret
     refine⟨⟨_,rfl,?_⟩,bt aF.o aY.o⟩;have hrow:=own_base (dS.o.row 1 rfl) (show w.heap.size<=WR.heap.size from aF.o.size);rw [show 0+k+1+L=N+1 by have:=oh.o;omega,List.nil_append] at hrow;rw [xk.o,List.flatMap_append,List.flatMap_cons,<- List.append_assoc];exact hrow
    ·go_simp;have aG:=bx (aU.o.dh 179 #[.int .i64 xa, .int .i64 xb, .int .i64 xc]);have cO:=bx (aG.o.bel (n:=WR.heap.size) (W0:=WR) (by simp));refine aj.out _ _ (λ_=>dZ.o _ cO.o) ?_;clear aj KK;refine kP 4 rfl λKK aj=>?_
     refine oW rfl _ _ 120 rfl oI (by decide) aG.o 1 rfl (by kernel_rfl) (by kernel_rfl) (m:=k) (cs:=(l.take k).flatMap dH) (MW.o _ cO.o) htl zI (by omega) (by omega) cO.o.size ?_;rintro v4 w4 hS4;have dn:=bx hS4;have HB4:=bx (dn.o.bel (n:=WR.heap.size) (W0:=WR) (by simp));clear hS4;refine aj.out _ _ (λ_=>dZ.o _ HB4.o) ?_;clear aj KK;have aP:=bx (dn.o.bel (n:=WR.heap.size) (W0:=WR) (by simp));refine kP 7 rfl λKK aj=>?_
     refine oW rfl _ _ 120 rfl oI (by decide) dn.o 1 rfl (by kernel_rfl) (by kernel_rfl) (m:=1) (cs:=dH (xa,xb,xc)) (Ii (dn.o.blk 0 rfl)) rfl (by intro u hu;simp only [dH,List.mem_cons,List.not_mem_nil,or_false] at hu;rcases hu with rfl | rfl | rfl <;> rfl) (by omega) (by omega) aP.o.size ?_;rintro v7 w7 hS7;have bH:=bx hS7;have aH:=bx (bH.o.bel (n:=WR.heap.size) (W0:=WR) (by simp));clear hS7;refine aj.out _ _ (λ_=>dZ.o _ aH.o) ?_;clear aj KK;refine kP 11 rfl λKK aj=>?_
     refine oW rfl _ _ 120 rfl oI (by decide) bH.o 1 rfl (by kernel_rfl) (by kernel_rfl) (m:=L) (cs:=(l.drop k).flatMap dH) (MS.o _ aH.o) (by rw [wO,List.length_drop];have:=oh.o;have:=HN.o;omega) zI (by have:=oh.o;omega) (by omega) aH.o.size ?_;rintro v8 w8 dW;have dS:=bx dW;have aY:=bx (dS.o.bel (n:=WR.heap.size) (W0:=WR) (by simp));clear dW;refine aj.out _ _ (λ_=>dZ.o _ aY.o) ?_;clear aj KK;refine kP 12 rfl λKK aj=>?_
     go_simp;refine aj.out _ _ (λh=>by cases h) ?_;clear aj KK;refine kD ?_ _;go_wp2_with fail;go_ret
     refine⟨⟨_,rfl,?_⟩,bt aF.o aY.o⟩;have hrow:=own_base (dS.o.row 1 rfl) (show w.heap.size<=WR.heap.size from aF.o.size);rw [show 0+k+1+L=N+1 by have:=oh.o;omega,List.nil_append] at hrow;rw [xk.o,List.flatMap_append,List.flatMap_cons,<- List.append_assoc];exact hrow
theorem F.aaQ {l:List F.bJ} {k:Nat}:∀ {n:Nat} {r:List F.bJ},k<=n->F.vI l n=some r->∃ q,F.vI l k=some q
 | 0,r,hk,h=>by obtain rfl:k=0:=(by omega);exact⟨r,h⟩
 | n+1,r,hk,h=>by
  rcases Nat.lt_or_ge k (n+1) with h1 | h1
  ·unfold F.vI at h
   cases hq:F.vI l n with
   | none=>rw [hq] at h;cases h
   | some q=>exact F.aaQ (by omega) hq
  ·obtain rfl:k=n+1:=by omega
   exact⟨r,h⟩
theorem F.ag3 (l:List F.bJ) (x:F.bJ):(F.FC l x).length=l.length+1:=by
 unfold F.FC;rw [List.length_append,List.length_cons];have:=congrArg List.length (List.takeWhile_append_dropWhile (p:=λy:F.bJ=>decide (y.1<x.1)) (l:=l));rw [List.length_append] at this;omega
theorem F.Y0 {l:List F.bJ}:∀ {n:Nat} {r:List F.bJ},F.vI l n=some r->r.length=n
 | 0,r,h=>by cases h;rfl
 | n+1,r,h=>by
  unfold F.vI at h
  cases hq:F.vI l n with
  | none=>rw [hq] at h;cases h
  | some q =>
   rw [hq] at h;simp only at h
   split at h
   ·cases h
   ·cases h;rw [F.ag3,F.Y0 hq]
theorem F.an3 {l:List F.bJ} {k:Nat} {x:F.bJ} {q r:List F.bJ} (hx:l[k]?=some x) (hq:F.vI l k=some q) (hr:F.vI l (k+1)=some r):r=F.FC q x/\∀ (j:Nat) (y:F.bJ),j<k->l[j]?=some y->¬ (x.1<=y.2.1/\y.1<=x.2.1):=by
 have hgd:l.getD k (0,0,0)=x:=by rw [List.getD_eq_getElem?_getD,hx];rfl
 unfold F.vI at hr;rw [hq,hgd] at hr;simp only at hr
 split at hr
 ·cases hr
 ·rename_i h
  cases hr;refine⟨rfl,λj y hj hy hl=>h ?_⟩;rw [List.any_eq_true];refine⟨j,List.mem_range.2 hj,?_⟩;rw [List.getD_eq_getElem?_getD,hy,Option.getD_some];unfold F.XJ;rw [Bool.and_eq_true,decide_eq_true_eq,decide_eq_true_eq];exact hl
theorem ac9 (v:Value) (l m:List F.bJ) (w:World) (hv:jh w v l) (hok:F.Jf l=some m) :
  Calls Tryz.prog 112 #[v] w λe w'=>(∃ v',e = .returned (.tuple #[v', .int .i64 0, .int .i64 0])/\jh w' v' m)/\Below w.heap.size w w':=by
 unfold F.Jf at hok
 split at hok
 rotate_left
 ·cases hok
 rename_i hc
 obtain⟨hall,Wq⟩:=hc;rw [List.all_eq_true] at hall;have fC:=bx hall;have nC:=bx hok;have HV:=bx hv;obtain⟨a,cap,rfl,hc1,hc2⟩:=hv.slice;obtain⟨N,hN⟩:∃ N,l.length=N:=⟨_,rfl⟩
 have HN:=bx hN;rw [hN] at HV nC hc1 Wq ⊢;clear hv hall hok hN
 go_enter Tryz.func112,Tryz.ntmps112
 go_wp2_with fail
 go_loopw [5] (λi wr=>∃ k:Nat,k<=N/\i = .int .i64 k/\Box (Below w.heap.size w wr)) (λi _=>N-(intOf i).toNat)
 case atStart=>exact⟨0,by omega,rfl,⟨Below.refl _ _⟩⟩
 case round =>
  obtain⟨k,hk,rfl,hb⟩:=hrel
  by_cases hlt:k<N
  ·obtain⟨x,hx⟩:∃ x,l[k]?=some x:=⟨_,List.getElem?_eq_getElem (by rw [HN.o];exact hlt)⟩
   have hr:=fC.o x (List.mem_of_getElem? hx);obtain⟨g,off,cap2,hg1,hg2,hg3,hg4,hg5⟩:=(HV.o.below hb.o).get (by rintro rfl;simp at hx);rw [HN.o] at hg1;obtain⟨rfl,rfl⟩:a=some ⟨g,off,none⟩/\cap=cap2:=by injection hg1 with h1 h2 h3;exact⟨h1,h3⟩
   obtain⟨x0,x1,x2⟩:=hg5 k x hx;have sO:=bx (λW=>aaN x W);rw [hr] at sO;unfold maxLen at hg3;clear hx hr hg1 hg2 hg5;go_wp2_with fail;refine(sO.o _).mono ?_;rintro e w2 ⟨rfl,hb2⟩;have HB2:=bx (bt hb.o hb2);clear hb2 x0 x1 x2;go_wp2_with fail
   go_roundw
   case rel=>exact⟨k+1,hlt,by go_num,HB2⟩
   case measure=>simp [intOf];omega
  ·obtain rfl:k=N:=by omega
   go_wp2_with fail
   go_loopw [7,6] (λi o ws=>∃ (j:Nat) (q:List F.bJ) (qa:Option Addr) (qc:Nat),j<=k/\i = .int .i64 j/\o = .slice qa j qc/\j<=qc/\qc<=9223372036854775807/\Box (q.length=j/\F.vI l j=some q)/\Box (jh ws (.slice qa j qc) q)/\Box (Below w.heap.size w ws)) (λi _ _=>k-(intOf i).toNat)
   case atStart=>exact⟨0,[],none,0,by omega,rfl,rfl,by omega,by omega,⟨rfl,rfl⟩,⟨.inl ⟨rfl,rfl⟩⟩,hb⟩
   case round =>
    obtain⟨j,q,qa,qc,hj,rfl,rfl,aoI,aoy,hq,hqv,hbs⟩:=hrel;obtain⟨ws,rfl⟩:∃ W,W=wr:=⟨_,rfl⟩
    by_cases hjl:j<k
    ·obtain⟨x,hx⟩:∃ x,l[j]?=some x:=⟨_,List.getElem?_eq_getElem (by rw [HN.o];exact hjl)⟩
     obtain⟨r,hr⟩:=F.aaQ (k:=j+1) (by omega) nC.o;obtain⟨hrq,hno⟩:=F.an3 hx hq.o.2 hr;obtain⟨g,off,cap2,hg1,hg2,hg3,hg4,hg5⟩:=(HV.o.below hbs.o).get (by rintro rfl;simp at hx);rw [HN.o] at hg1;obtain⟨rfl,rfl⟩:a=some ⟨g,off,none⟩/\cap=cap2:=by injection hg1 with h1 h2 h3;exact⟨h1,h3⟩
     have Nj:=bx (show r.length=j+1/\F.vI l (j+1)=some r from⟨F.Y0 hr,hr⟩);have SK:=bx hrq;have jS:=bx hno;have HC:=bx (λ(i:Nat) (y:F.bJ) (hy:l[i]?=some y) W (hW:Below ws.heap.size ws W)=>show W.cell? ⟨g,off+i*3,none⟩=some (.int .i64 y.1)/\W.cell? ⟨g,off+i*3+1,none⟩=some (.int .i64 y.2.1)/\W.cell? ⟨g,off+i*3+2,none⟩=some (.int .i64 y.2.2) from⟨(hW.cell (p:=⟨g,off+i*3,none⟩) hg4).trans (hg5 i y hy).1,(hW.cell (p:=⟨g,off+i*3+1,none⟩) hg4).trans (hg5 i y hy).2.1,(hW.cell (p:=⟨g,off+i*3+2,none⟩) hg4).trans (hg5 i y hy).2.2⟩);unfold maxLen at hg3;have HX:=bx hx;clear hx hr hrq hno hg1 hg2 hg5;go_wp2_with fail
     go_loopw [8] (λi wr=>∃ (u:Nat),u<=j/\i = .int .i64 u/\Box (Below ws.heap.size ws wr)) (λi _=>j-(intOf i).toNat)
     case atStart=>exact⟨0,by omega,rfl,⟨Below.refl _ _⟩⟩
     case round =>
      obtain⟨u,hu,rfl,hbw⟩:=hrel;obtain⟨x0,x1,x2⟩:=HC.o j x HX.o _ hbw.o;have HDR:=bx (λm=>hbw.o.trans ((jG wr m).mono hbw.o.size))
      by_cases yL:u<j
      ·obtain⟨y,hy⟩:∃ y,l[u]?=some y:=⟨_,List.getElem?_eq_getElem (by rw [HN.o];omega)⟩
       obtain⟨y0,y1,y2⟩:=HC.o u y hy _ hbw.o;have hno:=jS.o u y yL hy;clear hy
       by_cases h1:x.1<=y.2.1
       ·have e1:decide (x.1<=y.2.1)=true:=decide_eq_true h1;have e2:decide (y.1<=x.2.1)=false:=decide_eq_false (λh=>hno ⟨h1,h⟩);clear h1 hno;go_wp2_with fail
        go_quiet (fail)
        go_wp2_with fail
        go_roundw
        case rel=>exact⟨u+1,yL,by go_num,⟨HDR.o _⟩⟩
        case measure=>simp [intOf];omega
       ·have e1:decide (x.1<=y.2.1)=false:=decide_eq_false h1;clear h1 hno;go_wp2_with fail
        go_quiet (fail)
        go_wp2_with fail
        go_roundw
        case rel=>exact⟨u+1,yL,by go_num,⟨HDR.o _⟩⟩
        case measure=>simp [intOf];omega
      ·obtain rfl:u=j:=by omega
       have xk:=bx (akn (.slice qa u qc) q x wr (hqv.o.below hbw.o) (by rw [hq.o.1];omega));have HBM:=bx (bt hbs.o hbw.o);go_wp2_with fail;refine xk.o.mono ?_;rintro e w4 ⟨⟨v',rfl,hown⟩,hb4⟩;rw [<- SK.o,hq.o.1] at hown;obtain⟨va,vc,rfl,amg,an0⟩:=dN hown;have HR4:=bx (show jh w4 (.slice va (u+1) vc) r from jh.dL hown Nj.o.1.symm);have HB4:=bx (bt HBM.o hb4);clear hown hb4 x0 x1 x2;go_wp2_with fail
       go_roundw
       case rel=>exact⟨u+1,r,va,vc,hjl,by go_num,rfl,amg,an0,Nj,HR4,HB4⟩
       case measure=>simp [intOf];omega
    ·obtain rfl:j=k:=by omega
     have HM:=bx (show q=m by have:=hq.o.2.symm.trans nC.o;simpa using this);go_wp2_with fail
     go_ret3
     exact⟨⟨_,rfl,HM.o▸hqv.o⟩,hbs.o⟩
end
end Go.Proofs.YtlmdjifffmofeaaGreatDoor
