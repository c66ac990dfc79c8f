/- Texts of this claim. -/
import Derived.Test.YtdenoeakcflnmaaGreatDoorH4

set_option maxRecDepth 100000
set_option maxHeartbeats 8000000
namespace Go.Proofs.YtdenoeakcflnmaaGreatDoor
section
open Go.RowKit Go.Shelf
attribute [local go_sem] Oper.semAt_some
theorem ako:Pushes Tryz.prog 190 27 24:=.mk' (z:=.slice none 0 0) Tryz.underlying190 (by kernel_rfl) rfl
theorem O9:Pushes Tryz.prog 23 22 24:=.mk' (z:=.slice none 0 0) Tryz.underlying23 (by kernel_rfl) rfl
def sD (L:List (List Nat)):List (List Value):=L.map λr=>r.map eu
theorem Oi (L:List (List Nat)):(sD L).length=L.length:=by simp [sD]
theorem ZO (L:List (List Nat)) (r:List Nat):sD (L++[r])=sD L++[r.map eu]:=by simp [sD]
theorem O5 {W:World} {base:Nat} {E e:TypeId} {v:Value} {vs:List Value} {L:List (List Nat)} (h:(Pc.rows base E e v vs (sD L)).ok W):fJ W v (L.map zs):=by
 obtain⟨h0,h1,h2⟩:=h;have hl:vs.length=L.length:=by rw [Oi] at h0;simpa using h0
 rcases h1.2 with⟨h3,h4⟩ | ⟨g,cap,cur,h3,h4,h5,h6,h7,h8,h9⟩
 ·refine .inl ⟨h3,?_⟩;rw [List.eq_nil_of_length_eq_zero (show L.length=0 by omega)];rfl
 ·refine .inr ⟨g,0,none,cap,by rw [h3,List.length_map,hl],by rw [List.length_map];omega,h7,λhn=>⟨rfl,(Array.getElem?_eq_some_iff.1 h5).1,λi r hr=>?_⟩⟩;rw [List.getElem?_map] at hr;obtain⟨r0,h10,rfl⟩:=Option.map_eq_some_iff.1 hr;obtain⟨x,hx,hxr,-⟩:=h2 i (r0.map eu) (by unfold sD;rw [List.getElem?_map,h10];rfl);refine⟨x,?_,Ey hxr (by simp)⟩;have:=h1.cells (g:=g) (by rw [h3];rfl) i x hx;rw [show (⟨g,0+i,none⟩:Addr)=(⟨g,0,none⟩:Addr).add i by unfold Addr.add;by_cases h0:i=0 <;> simp [h0]];exact this
theorem afM {rs:List D.Side} {k:Nat} (h:k<rs.length):(D.ru rs).take (k+1)=(D.ru rs).take k++[D.firstAt rs k]:=take_snoc' _ _ _ (by unfold D.ru;rw [List.getElem?_map,List.getElem?_range h];rfl)
theorem Py {t:List D.Sets} {s:D.Sets} (h:D.place t s=t.length):s∉t:=λhm=>by have:=D.acK hm;omega
theorem VE {t:List D.Sets} {s:D.Sets} (h:s∉t):D.add t s=t++[s]:=by unfold D.add;rw [if_neg h]
theorem ahZ {t:List D.Sets} {s:D.Sets} (h:s∈t):D.add t s=t:=by unfold D.add;rw [if_pos h]
theorem aeH {sd:List D.Side} {n K j:Nat} {T:List D.Sets} {NX:List (List Nat)} {FX:List Nat} {S:D.Sets} (hb:D.build sd n K=⟨T,NX,FX⟩) (hk:NX.length=K) (hK:K+1<=300) (hS:T[K]?=some S) (hj:j+1<=n+1) (hl:300<(D.row sd n S T (j+1)).2.length):D.zZ sd n=false:=by
 refine D.akt _ _ (k:=K+1) hK ?_;have e:D.build sd n (K+1)=(D.build sd n K).go sd n:=rfl;rw [e,hb,D.Xf _ _ (b:=⟨T,NX,FX⟩) (S:=S) (by show T[NX.length]?=some S;rw [hk];exact hS)];exact Nat.lt_of_lt_of_le hl (D.aeC (rs:=sd) (n:=n) (S:=S) (t:=T) hj)
theorem agc {sd:List D.Side} {n K:Nat} {T t':List D.Sets} {NX:List (List Nat)} {FX r:List Nat} {S:D.Sets} (hb:D.build sd n K=⟨T,NX,FX⟩) (hk:NX.length=K) (hS:T[K]?=some S) (hr:D.row sd n S T (n+1)=(r,t')) :
  D.build sd n (K+1)=⟨t',NX++[r],FX++[D.nO sd S sd.length]⟩:=by
 have e:D.build sd n (K+1)=(D.build sd n K).go sd n:=rfl;rw [e,hb,D.Xf _ _ (b:=⟨T,NX,FX⟩) (S:=S) (by show T[NX.length]?=some S;rw [hk];exact hS)];simp only;rw [hr]
def Ob (w:World) (rs:List D.Rule) (n K g:Nat) (Dt:Value) (wr:World):Prop :=
 ∃ nv fv us oW,Sep [Pc.rows w.heap.size 27 2 Dt us (sD (D.build (lefts rs) n K).todo),Pc.blk g 29 #[nv,fv],Pc.rows w.heap.size 22 3 nv oW (sD (D.build (lefts rs) n K).next),
  Pc.row w.heap.size 2 1 fv K ((D.build (lefts rs) n K).fits.map eu),Pc.blk w.heap.size 29 #[.slice none 0 0, .slice none 0 0],Pc.old w.heap.size w] wr
def Hy (w:World) (t:List D.Sets) (r:List Nat) (next:List (List Nat)) (fits:List Nat) (K g j:Nat) (nv fv:Value) (oW:List Value) (Dt cv:Value) (wr:World):Prop :=
 ∃ us,Sep [Pc.row w.heap.size 3 1 cv j (r.map eu),Pc.rows w.heap.size 27 2 Dt us (sD t),Pc.blk g 29 #[nv,fv],Pc.rows w.heap.size 22 3 nv oW (sD next),
  Pc.row w.heap.size 2 1 fv K (fits.map eu),Pc.blk w.heap.size 29 #[.slice none 0 0, .slice none 0 0],Pc.old w.heap.size w] wr
theorem alB (v:Value) (rs:List D.Rule) (n:Int) (w:World) (hf:∀ x∈rs,nX x) (hv:fA w v rs) (hz:rs.length<=16777216) :
  Calls Tryz.prog 66 #[v, .int .i64 n] w (Yj rs n w):=by
 have hb0:=aO w (.cells #[.slice none 0 0, .slice none 0 0] 29);have HP:=bx (Wv v rs n _ hf (hv.below hb0) hz);have HB0:=bx hb0;have HR:=bx (aj.new w 29 #[.slice none 0 0, .slice none 0 0]);have aQ:=bx ((Sep.start w).bM 29 #[.slice none 0 0, .slice none 0 0]);have HV:=bx hv;obtain⟨ao,cap,rfl⟩:=hv.slice;obtain⟨hc1,hc2⟩:=hv.QI;clear hv hb0
 cases hr:pX n rs with
 | false =>
  have fE:=bx hr;have HC:=bx (show yK rs n=90 by unfold yK;rw [hr];rfl);have HM:=bx (show vG rs n=([],[]) by unfold vG;rw [hr];rfl);clear hr
  go_enter Tryz.func66,Tryz.ntmps66
  go_wp2_with fail;refine HP.o.mono ?_;rintro e w1 ⟨rfl,hb1⟩;rw [fE.o];have HB1:=bx (bt HB0.o hb1);have HR1:=bx (HR.o.below hb1 HR.o.lt);have r0:=(HR1.o.cell 0).trans (show _=some (Value.slice none 0 0) from rfl);have r1:=(HR1.o.cell 1).trans (show _=some (Value.slice none 0 0) from rfl);have f0:=HR1.o.frozen 0;have f1:=HR1.o.frozen 1;have lr:=HR1.o.lt;clear hb1;go_wp2_with fail;exact bodyPost_ret (v:=.tuple #[.agg #[.slice none 0 0, .slice none 0 0], .int .i64 90]) (zO Tryz.results66 _ _ w.heap.size 29 #[.slice none 0 0, .slice none 0 0] (0,0) _ rfl ((HR1.o.dh 0 (.slice none 0 0)).dh 1 (.slice none 0 0)) Tryz.underlying29 rfl OX) rfl
   ⟨(HB1.o.setCell (Nat.le_refl _) _).setCell (Nat.le_refl _) _,_,by rw [HC.o],by rw [HM.o];exact aai _⟩
 | true =>
  have fE:=bx hr;obtain⟨hn1,hn2,yD,hso⟩:=ED hr;obtain⟨nn,rfl⟩:=Int.eq_ofNat_of_zero_le (show 0<=n by omega);have xI:=bx hso;have gq:=bx (D.aiu (lefts rs));have vN:=bx (λ(k:Nat) (h:k<rs.length)=>show ((D.ru (lefts rs)).take (k+1)).map eu=((D.ru (lefts rs)).take k).map eu++[eu (D.firstAt (lefts rs) k)] by rw [afM (by rw [vk];exact h),List.map_append];rfl);clear hr hso
  go_enter Tryz.func66,Tryz.ntmps66
  go_wp2_with fail;refine HP.o.mono ?_;rintro e w1 ⟨rfl,hb1⟩;rw [fE.o];have bG:=bx (((aQ.o.below hb1)).iW w.heap.size 1 2);clear hb1;go_wp2_with fail
  go_loopw [6,7] (λo i wr=>∃ k:Nat,k<=rs.length/\i = .int .i64 k/\Box (Sep [Pc.row w.heap.size 2 1 o k (((D.ru (lefts rs)).take k).map eu),Pc.blk w.heap.size 29 #[.slice none 0 0, .slice none 0 0],Pc.old w.heap.size w] wr)) (λ_ i _=>rs.length-(intOf i).toNat)
  case atStart=>exact⟨0,by omega,rfl,bG⟩
  case round =>
   obtain⟨k,hk,rfl,hsep⟩:=hrel;have aP:=bx (show Below w.heap.size w wr from hsep.o.bel (by simp))
   by_cases hlt:k<rs.length
   ·obtain⟨x,hx⟩:∃ x,rs[k]?=some x:=⟨_,List.getElem?_eq_getElem hlt⟩
    obtain⟨bg,off,cap2,hg1,hg2,hg3,hg4,hg5⟩:=(HV.o.below aP.o).get (by rintro rfl;simp at hlt);obtain⟨rfl,rfl⟩:ao=some ⟨bg,off,none⟩/\cap=cap2:=by injection hg1 with h1 h2 h3;exact⟨h1,h3⟩
    obtain⟨vl,vr,hc0,hc1,hc2,hc3,hc4,hil,hir⟩:=hg5 k x hx;have hrx:=xI.o x (List.mem_of_getElem? hx);have dF:=bx (show ((D.ru (lefts rs)).take (k+1)).map eu=((D.ru (lefts rs)).take k).map eu++[Value.int .i64 ((N.clo x.1.2 0:Nat):Int)] by rw [vN.o k hlt];unfold D.firstAt;rw [J5 hx];rfl);have iV:=bx (show NM x.1.2 = .tuple #[.int .i64 (N.clo x.1.2 0), .int .i64 0] by unfold NM;rw [hrx];rfl);have HST:=bx (amI x.1.1 vl x.1.2 wr hil (by have:=xC hrx;omega));unfold maxLen at hg3;obtain⟨⟨rE,il⟩,⟨str,ir⟩,br⟩:=x;simp only at hc0 hc1 hc2 hc3 hc4 dF iV HST;clear hx hg1 hg5 hil hir hrx;go_wp2_with fail;refine HST.o.mono ?_;rintro e w3 ⟨rfl,hb3⟩;rw [iV.o];have aC:=bx (hsep.o.below hb3);have hlb:w.heap.size<=w3.heap.size:=Nat.le_trans aP.o.size hb3.size;clear hb3;go_wp2_with (at_builtin;refine ji rfl _ _ 27 rfl Le aC.o 0 rfl rfl rfl rfl (by omega) (by omega) hlb ?_;rintro v' w4 hS4 -)
    rw [<- dF.o] at hS4;have aY:=bx hS4;clear hS4;go_wp2_with fail
    go_roundw
    case rel=>exact⟨k+1,hlt,by go_num,aY⟩
    case measure=>simp [intOf];omega
   ·obtain rfl:k=rs.length:=by omega
    have tX:=bx (show (D.ru (lefts rs)).take rs.length=D.ru (lefts rs) by rw [<- vk rs,<- gq.o,List.take_length]);have Nk:=hsep.o;rw [tX.o] at Nk;obtain⟨fa,fc,rfl,TV,PE⟩:=iU (Nk.row 0 rfl);have vJ:=bx ((Sep.akY (E:=27) (xs:=(D.ru (lefts rs)).map eu) (by rw [List.length_map,gq.o,vk];exact Nk) aP.o.size).bM 29 #[.slice none 0 0, .slice none 0 0]);clear hsep Nk
    go_upto_region 11 with(fail)
    obtain⟨g,hg⟩:∃ g,g=wr.heap.size+1:=⟨_,rfl⟩
    obtain⟨W2,hW2⟩:∃ W2,W2=(wr.alloc (.cells #[.slice fa rs.length fc] 27)).alloc (.cells #[.slice none 0 0, .slice none 0 0] 29):=⟨_,rfl⟩
    rw [<- hW2,<- hg];have rG:=bx (show Ob w rs nn 0 g (.slice (some ⟨wr.heap.size,0,none⟩) 1 1) W2 by
     have h1:=vJ.o;rw [<- hW2,show (wr.alloc (.cells #[.slice fa rs.length fc] 27)).heap.size=g by rw [hg];simp] at h1;have h2:=((h1.iW w.heap.size 1 2).ad9 w.heap.size 22 3)
     exact⟨_,_,_,_,((h2.front 1 rfl).front 1 rfl |>.front 2 rfl).front 3 rfl⟩)
    have PN:=bx (show (D.build (lefts rs) nn 0).next.length=0/\0<=(D.build (lefts rs) nn 0).todo.length/\(D.build (lefts rs) nn 0).todo.length<=300 from⟨rfl,Nat.zero_le _,(show (1:Nat)<=300 from by decide)⟩);have HGW:=bx (show w.heap.size<=g by have:=aP.o.size;omega);clear vJ tX gq vN bG aQ HP HB0 HR hk hlt TV PE hW2 hg;go_wp2_with fail
    go_loopw [10,12] (λDt i wo=>∃ K:Nat,K<=300/\i = .int .i64 K/\Box (Ob w rs nn K g Dt wo)/\Box ((D.build (lefts rs) nn K).next.length=K/\K<=(D.build (lefts rs) nn K).todo.length/\(D.build (lefts rs) nn K).todo.length<=300)) (λ_ i _=>301-(intOf i).toNat)
    case atStart=>exact⟨0,by omega,rfl,rG,PN⟩
    case round =>
     obtain⟨K,hK,rfl,hco,hkk⟩:=hrel;obtain⟨nv,fv,us,oW,hso⟩:=hco.o;obtain⟨T,hT⟩:∃ T,(D.build (lefts rs) nn K).todo=T:=⟨_,rfl⟩
     obtain⟨NX,W9⟩:∃ NX,(D.build (lefts rs) nn K).next=NX:=⟨_,rfl⟩
     obtain⟨FX,Wn⟩:∃ FX,(D.build (lefts rs) nn K).fits=FX:=⟨_,rfl⟩
     have aF:=bx (show D.build (lefts rs) nn K=⟨T,NX,FX⟩ by rw [<- hT,<- W9,<- Wn]);obtain⟨hk1,hk2,hk3⟩:=hkk.o;have WS:=D.ae7 (lefts rs) nn K;rw [hT] at hk2 hk3 WS hso;rw [W9] at hk1 hso;rw [Wn] at hso;have HGT:=bx WS;have EU:=bx (show us.length=T.length by have:=(hso.at' 0 rfl).1;rw [Oi] at this;simpa using this);obtain⟨aa,ac,hav,an3,anX⟩:=iU (hso.at' 0 rfl).2.1;rw [EU.o] at hav;subst hav;have zN:=bx hso;clear hco hkk WS hso hT W9 Wn
     by_cases hlt:K<T.length
     ·obtain⟨S,hS⟩:∃ S,T[K]?=some S:=⟨_,List.getElem?_eq_getElem hlt⟩
      have HS:=bx hS;have YX:=bx (HGT.o S (List.mem_of_getElem? hS));have afI:=bx (show Hy w T [] NX FX K g 0 nv fv oW (.slice aa T.length ac) (.slice none 0 0) wr from⟨us,zN.o.iW _ _ _⟩);clear hS;go_wp2_with fail
      go_loopw [10,13,14] (λDt cv c wi=>∃ j:Nat,j<=nn+1/\c = .int .i64 j/\Box (Hy w (D.row (lefts rs) nn S T j).2 (D.row (lefts rs) nn S T j).1 NX FX K g j nv fv oW Dt cv wi)/\Box ((D.row (lefts rs) nn S T j).2.length<=300)) (λ_ _ c _=>nn+1-(intOf c).toNat)
      case atStart=>exact⟨0,by omega,rfl,afI,⟨hk3⟩⟩
      case round =>
       obtain⟨j,hj,rfl,hci,hle⟩:=hrel;obtain⟨us,hsi⟩:=hci.o;obtain⟨⟨r,t'⟩,hrow⟩:∃ q,D.row (lefts rs) nn S T j=q:=⟨_,rfl⟩
       have pF:=bx hrow;have hpre:=D.JO (lefts rs) nn S T j;have hrl:=D.abR (lefts rs) nn S T j;rw [hrow] at hsi hle hpre hrl;simp only at hsi hle hpre hrl;have EU:=bx (show us.length=t'.length by have:=(hsi.at' 1 rfl).1;rw [Oi] at this;simpa using this);have ai7:=bx (show ∀ x∈t',D.Good (lefts rs) x by
        have:=D.QG (rs:=lefts rs) (n:=nn) (S:=S) (t:=T) HGT.o (λc=>D.good_step (lefts rs) S c) j;rw [hrow] at this;exact this)
       have HSI:=bx hsi;have jl:=bx (show Below w.heap.size w wr from hsi.bel (by simp));obtain⟨ca,cc,rfl,aoJ,aoK⟩:=iU (hsi.row 0 rfl);have oD:=bx (O5 (hsi.at' 1 rfl));have hS':=D.acf hpre HS.o;have hKt:K<t'.length:=(List.getElem?_eq_some_iff.1 hS').1;have hle':=hle.o
       by_cases hjn:j<=nn
       ·obtain⟨ab,AP,GI,hav,ha2,qw,jk,IX⟩:=oD.o.get (by intro e;have:=congrArg List.length e;simp at this;subst this;simp at hKt);rw [List.length_map] at hav ha2;subst hav;obtain⟨xv,hcx,hxi⟩:=IX K (zs S) (by rw [List.getElem?_map,hS'];rfl);obtain⟨cc',hcc,hjc⟩:∃ cc:Int,D.cls nn j=cc/\((j=nn/\cc=-1)\/(j<nn/\cc=(j:Int))):=by
         refine⟨_,rfl,?_⟩;unfold D.cls
         rcases Nat.lt_or_ge j nn with h | h
         ·exact .inr ⟨h,by rw [if_neg (by omega)]⟩
         ·exact .inl ⟨by omega,by rw [if_pos (by omega)]⟩
        obtain⟨s,hs⟩:∃ s,D.qV (lefts rs) S cc'=s:=⟨_,rfl⟩
        have HST:=bx (amO (.slice ao rs.length cap) xv rs S cc' wr (HV.o.below jl.o) yD xI.o YX.o hxi);rw [hs] at HST;have HSL:=bx (show s.length=rs.length by rw [<- hs,D.acD,vk]);have pW:=bx (show D.row (lefts rs) nn S T (j+1)=(r++[D.place t' s],D.add t' s) by rw [D.KF,pF.o,hcc,hs]);unfold maxLen at qw;have hKc:K<GI:=by omega
        clear hsi hci hpre hS' IX hxi hrow hs hcc;have acz:Calls Tryz.prog 118 #[.slice ao rs.length cap,xv, .int .i64 cc'] wr λe w'=>Box (Below wr.heap.size wr w')/\∃ la lc,e = .returned (.slice la rs.length lc)/\Box (Sep [Pc.row w.heap.size 2 1 (.slice la rs.length lc) rs.length (s.map eu),Pc.row w.heap.size 3 1 (.slice ca j cc) j (r.map eu),Pc.rows w.heap.size 27 2 (.slice (some ⟨ab,AP,none⟩) t'.length GI) us (sD t'),Pc.blk g 29 #[nv,fv],Pc.rows w.heap.size 22 3 nv oW (sD NX),
          Pc.row w.heap.size 2 1 fv K (FX.map eu),Pc.blk w.heap.size 29 #[.slice none 0 0, .slice none 0 0],Pc.old w.heap.size w] w'):=HST.o.mono (by
         rintro e w3 ⟨hb3,lv,rfl,hlr⟩;obtain⟨la,lc,rfl,-,-⟩:=iU hlr;exact⟨⟨hb3⟩,la,lc,rfl,⟨HSI.o.got hb3 hlr jl.o.size⟩⟩)
        have qH:=bx acz;clear acz HST;have am1:(((j:Int)==(nn:Int))=true/\cc'=-1)\/(((j:Int)==(nn:Int))=false/\cc'=(j:Int)):=by
         rcases hjc with⟨h,h'⟩ | ⟨h,h'⟩
         ·exact .inl ⟨by rw [beq_iff_eq];omega,h'⟩
         ·exact .inr ⟨beq_eq_false_iff_ne.2 (by omega),h'⟩
        clear hjc
        rcases am1 with⟨aik,rfl⟩ | ⟨aik,rfl⟩
        all_goals
         go_wp2_with fail;refine qH.o.mono ?_;rintro e w3 ⟨hb3,la,lc,rfl,hs3⟩;have kZ:=bx (aky (.slice (some ⟨ab,AP,none⟩) t'.length GI) (.slice la rs.length lc) t' s w3 (O5 (hs3.o.at' 2 rfl)) (by omega) (λx hx=>by rw [(ai7.o x hx).1,vk];exact yD) (by rw [HSL.o];exact yD) (Ey (hs3.o.row 0 rfl) HSL.o.symm));obtain⟨p,hp⟩:∃ p,D.place t' s=p:=⟨_,rfl⟩
         have eY:=bx hp;have XJ:=D.agu t' s;rw [hp] at kZ XJ;rw [hp] at pW;clear hp
         rcases (show (p=300/\t'.length=300)\/(p<300/\p=t'.length)\/(p<300/\p<t'.length) by omega) with⟨hp1,hp2⟩ | ⟨hp1,hp2⟩ | ⟨hp1,hp2⟩
         ·have q1:((p:Int)==300)=true:=by rw [beq_iff_eq];omega
          have oG:=bx hp1;have HP2:=bx hp2;have dJ:=bx (show K+1<=300 by omega);clear hp1 hp2 XJ;go_wp2_with fail;refine kZ.o.mono ?_;rintro e w4 ⟨rfl,hb4⟩;have aY:=bx (hs3.o.below hb4);have E8:=bx (aeH aF.o hk1 dJ.o HS.o (show j+1<=nn+1 by omega) (by rw [pW.o];simp only;rw [VE (Py (by rw [eY.o,oG.o,HP2.o])),List.length_append,HP2.o];exact Nat.lt_succ_self 300));have HC:=bx (show yK rs nn=100 by unfold yK;rw [fE.o,Int.toNat_natCast,E8.o];rfl);have HM:=bx (show vG rs nn=([],[]) by unfold vG;rw [fE.o,Int.toNat_natCast,E8.o];rfl);have HR1:=bx (aY.o.blk 6 rfl);have HB1:=bx (show Below w.heap.size w w4 from aY.o.bel (by simp));have r0:=(HR1.o.cell 0).trans (show _=some (Value.slice none 0 0) from rfl);have r1:=(HR1.o.cell 1).trans (show _=some (Value.slice none 0 0) from rfl);have f0:=HR1.o.frozen 0;have f1:=HR1.o.frozen 1;have lr:=HR1.o.lt;clear hb4;go_wp2_with fail;exact bodyPost_ret (v:=.tuple #[.agg #[.slice none 0 0, .slice none 0 0], .int .i64 100]) (zO Tryz.results66 _ _ w.heap.size 29 #[.slice none 0 0, .slice none 0 0] (0,0) _ rfl ((HR1.o.dh 0 (.slice none 0 0)).dh 1 (.slice none 0 0)) Tryz.underlying29 rfl OX) rfl
           ⟨(HB1.o.setCell (Nat.le_refl _) _).setCell (Nat.le_refl _) _,_,by rw [HC.o],by rw [HM.o];exact aai _⟩
         ·go_wp2_with fail;refine kZ.o.mono ?_;rintro e w4 ⟨rfl,hb4⟩;have aY:=bx (hs3.o.below hb4);subst hp2;have q1:((t'.length:Int)==300)=false:=beq_eq_false_iff_ne.2 (by omega);have RY:w.heap.size<=w4.heap.size:=by have:=hb3.o.size;have:=hb4.size;have:=jl.o.size;omega
          have Jl:us.length<=1000000000:=by rw [EU.o];omega
          have BP:=bx (show sD (D.add t' s)=sD t'++[s.map eu] by rw [VE (Py eY.o),ZO]);have iI:=bx (show (D.add t' s).length<=300 by rw [VE (Py eY.o),List.length_append];simp;omega);have Ve:=bx (show j<=1000000000 by omega);clear hb4;go_wp2_with (first
           | (at_builtin;refine XO rfl _ _ 190 rfl ako aY.o 1 rfl rfl rfl rfl (by rw [List.length_map,HSL.o]) Jl (by omega) RY ?_;rintro v' w5 hS5 ⟨g5,c5,rfl,h51,h52⟩;have ai8:=(hS5.bel (n:=w.heap.size) (W0:=w) (by simp)).size)
           | (at_builtin;refine ji rfl _ _ 22 rfl iT hS5 0 rfl rfl rfl rfl Ve.o (by omega) ai8 ?_;rintro v' w6 hS6 -))
          have xH:=bx (show Hy w (D.row (lefts rs) nn S T (j+1)).2 (D.row (lefts rs) nn S T (j+1)).1 NX FX K g (j+1) nv fv oW (.slice (some ⟨g5,0,none⟩) (us.length+1) c5) v' w6 by
           rw [pW.o];unfold Hy;simp only;rw [BP.o,List.map_append];exact⟨_,hS6⟩)
          clear hS5 hS6;go_wp2_with fail
          go_roundw
          case rel=>exact⟨j+1,by omega,by go_num,xH,⟨by rw [pW.o];exact iI.o⟩⟩
          case measure=>simp [intOf];omega
         ·go_wp2_with fail;refine kZ.o.mono ?_;rintro e w4 ⟨rfl,hb4⟩;have aY:=bx (hs3.o.below hb4).tail;have q1:((p:Int)==300)=false:=beq_eq_false_iff_ne.2 (by omega);have q2:((p:Int)==(t'.length:Int))=false:=beq_eq_false_iff_ne.2 (by omega);have RY:w.heap.size<=w4.heap.size:=by have:=hb3.o.size;have:=hb4.size;have:=jl.o.size;omega
          have hmem:s∈t':=by
           rcases Classical.em (s∈t') with h | h
           ·exact h
           ·have:=D.VF h;rw [eY.o] at this;omega
          have BP:=bx (ahZ hmem);have Ve:=bx (show j<=1000000000 by omega);clear hb4 hmem;go_wp2_with (at_builtin;refine ji rfl _ _ 22 rfl iT aY.o 0 rfl rfl rfl rfl Ve.o (by omega) RY ?_;rintro v' w6 hS6 -)
          have xH:=bx (show Hy w (D.row (lefts rs) nn S T (j+1)).2 (D.row (lefts rs) nn S T (j+1)).1 NX FX K g (j+1) nv fv oW (.slice (some ⟨ab,AP,none⟩) t'.length GI) v' w6 by
           rw [pW.o];unfold Hy;simp only;rw [BP.o,List.map_append];exact⟨_,hS6⟩)
          clear hS6;go_wp2_with fail
          go_roundw
          case rel=>exact⟨j+1,by omega,by go_num,xH,⟨by rw [pW.o];simp only;rw [BP.o];exact hle'⟩⟩
          case measure=>simp [intOf];omega
       ·obtain⟨na,nc,rfl,alO,afE⟩:=iU (hsi.at' 3 rfl).2.1;obtain⟨AU,BU,rfl,TV,PE⟩:=iU (hsi.row 4 rfl);have ahL:=bx (show oW.length=NX.length by have:=(hsi.at' 3 rfl).1;rw [Oi] at this;simpa using this);have hu2:oW.length<=1000000000:=by rw [ahL.o,hk1];omega
        have hbs:w.heap.size<=wr.heap.size:=jl.o.size;have PI:=bx (hsi.blk 2 rfl);have cg0:wr.cell? ⟨g,0,none⟩=some (.slice na oW.length nc):=(PI.o.cell 0).trans rfl;have lg:=PI.o.lt;have HLR:=bx (show j=(r.map eu).length by rw [List.length_map,hrl]);have hj':j=nn+1:=by omega
        have HJ:=bx hj';have aby:=bx hsi;clear hsi hci hpre hS' hrl hrow hj';go_wp2_with (at_builtin;refine XO rfl _ _ 23 rfl O9 aby.o 2 rfl rfl rfl rfl HLR.o hu2 (by omega) hbs ?_;rintro v' w5 hS5 ⟨g5,c5,rfl,h51,h52⟩;have kH:=bx (hS5.blk 1 rfl);have e0:=(kH.o.cell 0).trans (show _=some (Value.slice na oW.length nc) from rfl);have f0:=kH.o.frozen 0;have l5:=kH.o.lt;have aW:=bx (hS5.set 1 rfl 0 (.slice (some ⟨g5,0,none⟩) (oW.length+1) c5)))
        simp only [List.set] at aW;generalize w5.setCell ⟨g,0,none⟩ (.slice (some ⟨g5,0,none⟩) (oW.length+1) c5)=w6 at aW ⊢;clear e0 f0 l5 kH hS5 aby cg0 lg PI hu2 hbs;have Y5:w.heap.size<=w6.heap.size:=(aW.o.bel (n:=w.heap.size) (W0:=w) (by simp)).size;have amo:=bx (show t'[K]?=some S from D.acf (by have:=D.JO (lefts rs) nn S T j;rw [pF.o] at this;exact this) HS.o);obtain⟨WR,N9⟩:∃ WR,WR=w6.drew:=⟨_,rfl⟩
        have mQ:=bx (show Sep _ WR by rw [N9];exact aW.o.drew);have alK:w.heap.size<=WR.heap.size:=by rw [N9];exact Y5
        have aP:=bx (show Below w.heap.size w WR from mQ.o.bel (by simp));have aag:=O5 (mQ.o.at' 0 rfl);obtain⟨ab,AP,GI,hav,ha2,qw,jk,IX⟩:=aag.get (by intro e;have:=congrArg List.length e;simp at this;subst this;simp at hKt);rw [List.length_map] at hav ha2;subst hav;obtain⟨xv,hcx,hxi⟩:=IX K (zs S) (by rw [List.getElem?_map,amo.o];rfl);unfold maxLen at qw;have JY:=bx (ahd (.slice ao rs.length cap) xv rs S WR (HV.o.below aP.o) yD xI.o YX.o hxi);have HG:=bx (mQ.o.blk 1 rfl);have dP:=bx (show ∀ W',Below WR.heap.size WR W'->W'.cell? ⟨g,1,none⟩=some (.slice AU K BU)/\W'.cell? ⟨ab,AP+K,none⟩=some xv from λW' h=>⟨((HG.o.below h HG.o.lt).cell 1).trans rfl,(h.cell (p:=⟨ab,AP+K,none⟩) jk).trans hcx⟩);have hF0:=dP.o WR (Below.refl _ _);have lgR:=HG.o.lt;clear hcx IX hxi aag Y5 aW;refine fP 9 (λW=>W.cell? ⟨g,1,none⟩=some (.slice AU K BU)/\W.cell? ⟨ab,AP+K,none⟩=some xv) (by kernel_rfl) ?_;rw [<- N9];clear N9;have aA:=bx hF0;clear hF0;refine kS 0 ?_ rfl aA.o ?_ ?_;rotate_left
        ·rintro w ⟨q1,q2⟩;go_simp;try with_reducible rfl
        refine kS 1 ?_ rfl aA.o ?_ ?_;rotate_left
        ·rintro w ⟨q1,q2⟩;go_simp;try with_reducible rfl
        refine kS 2 ?_ rfl aA.o ?_ ?_;rotate_left
        ·rintro w ⟨q1,q2⟩;go_simp;try with_reducible rfl
        refine kS 3 ?_ rfl aA.o ?_ ?_;rotate_left
        ·rintro w ⟨q1,q2⟩;go_simp;try with_reducible rfl
        refine kS 4 ?_ rfl aA.o ?_ ?_;rotate_left
        ·rintro w ⟨q1,q2⟩;go_simp;try with_reducible rfl
        refine kS 5 ?_ rfl aA.o ?_ ?_;rotate_left
        ·rintro w ⟨q1,q2⟩;go_simp;try with_reducible rfl
        refine kS 6 ?_ rfl aA.o ?_ ?_;rotate_left
        ·rintro w ⟨q1,q2⟩;go_simp;try with_reducible rfl
        refine kP 7 rfl λKK ah=>?_
        go_simp;go_wp2_with (go_at_call 120;refine JY.o.mono ?_;rintro e w7 ⟨rfl,hb7⟩)
        have bW:=bx (show Below WR.heap.size WR w7 from hb7);have dX:=bx (mQ.o.below hb7);have agk:w.heap.size<=w7.heap.size:=Nat.le_trans alK hb7.size;clear hb7;refine ah.out _ _ (λ_=>dP.o _ bW.o) ?_;clear ah KK;refine kP 8 rfl λKK ah=>?_
        go_simp;refine ah.out _ _ (λ_=>dP.o _ (bW.o.alloc bW.o.size _)) ?_;clear ah KK;refine kP 9 rfl λKK ah=>?_
        refine uF rfl _ _ 27 rfl Le dX.o 3 rfl (by kernel_rfl) (by kernel_rfl) rfl (by omega) (by omega) agk ?_;rintro v' w8 jY ⟨g8,c8,rfl,h81,h82⟩;refine ah.out _ _ (λh=>by cases h) ?_;clear ah KK;have WE:=bx (jY.blk 1 rfl);have e0:=(WE.o.cell 1).trans (show _=some (Value.slice AU K BU) from rfl);have f0:=WE.o.frozen 1;have l8:=WE.o.lt;have jo:=bx (jY.set 1 rfl 1 (.slice (some ⟨g8,0,none⟩) (K+1) c8));clear jY;refine kP 10 rfl λKK ah=>?_
        go_simp;refine ah.out _ _ (λh=>by cases h) ?_;clear ah KK;refine kP 11 rfl λKK ah=>?_
        go_simp;refine ah.out _ _ (λh=>by cases h) ?_;clear ah KK;refine kD ?_ _;have HBN:=bx (show D.build (lefts rs) nn (K+1)=⟨t',NX++[r],FX++[D.nO (lefts rs) S (lefts rs).length]⟩ from agc aF.o hk1 HS.o (by have:=pF.o;rw [HJ.o] at this;exact this));have afX:=bx (show Ob w rs nn (K+1) g (.slice (some ⟨ab,AP,none⟩) t'.length GI) (w8.setCell ⟨g,1,none⟩ (.slice (some ⟨g8,0,none⟩) (K+1) c8)) by
         unfold Ob;rw [HBN.o];simp only;rw [ZO,List.map_append,vk];exact⟨_,_,_,_,jo.o⟩)
        have aeS:=bx (show (D.build (lefts rs) nn (K+1)).next.length=K+1/\K+1<=(D.build (lefts rs) nn (K+1)).todo.length/\(D.build (lefts rs) nn (K+1)).todo.length<=300 by
         rw [HBN.o];simp only;rw [List.length_append,hk1];exact⟨rfl,hKt,hle'⟩)
        go_wp2_with fail
        go_roundw
        case rel=>exact⟨K+1,by omega,by go_num,afX,aeS⟩
        case measure=>simp [intOf];omega
     ·have sO:=bx (show T.length<=NX.length by rw [hk1];omega);have wP:=bx (show D.build (lefts rs) nn 300=⟨T,NX,FX⟩ by
       rw [<- aF.o];exact D.Qo _ _ hK (by rw [aF.o];exact sO.o))
      have acJ:=bx (show D.zZ (lefts rs) nn=true from D.Zx _ _ hK (by rw [aF.o];exact sO.o) (by rw [aF.o];exact hk3));have HC:=bx (show yK rs nn=0 by unfold yK;rw [fE.o,Int.toNat_natCast,acJ.o];rfl);have HM:=bx (show vG rs nn=Nj ⟨T,NX,FX⟩ by unfold vG Qb;rw [fE.o,Int.toNat_natCast,acJ.o,wP.o];rfl);have HG:=bx (zN.o.blk 1 rfl);have pW:=bx (zN.o.blk 4 rfl);have ou:=bx (show w.heap.size≠g from λe=>zN.o.tail.head |> λ_=>(zN.o.tail.2.1 (Pc.blk w.heap.size 29 #[.slice none 0 0, .slice none 0 0]) (by simp) g rfl) e.symm);obtain⟨na,nc,rfl,alO,afE⟩:=iU (zN.o.at' 2 rfl).2.1;obtain⟨AU,BU,rfl,TV,PE⟩:=iU (zN.o.row 3 rfl);have c0:=(HG.o.cell 0).trans (show _=some (Value.slice na oW.length nc) from rfl);have c1:=(HG.o.cell 1).trans (show _=some (Value.slice AU K BU) from rfl);have lg:=HG.o.lt;have q0:=(pW.o.cell 0).trans (show _=some (Value.slice none 0 0) from rfl);have q1:=(pW.o.cell 1).trans (show _=some (Value.slice none 0 0) from rfl);have f0:=pW.o.frozen 0;have f1:=pW.o.frozen 1;have lr:=pW.o.lt;have jo:=bx ((zN.o.set 4 rfl 0 (.slice na oW.length nc)).set 4 rfl 1 (.slice AU K BU));have qJ:=bx (show Below w.heap.size w wr from zN.o.bel (by simp));have hlk:T.length=K:=by omega
      have aly:=bx (show K=FX.length by have:=D.abE (lefts rs) nn K;rw [aF.o] at this;have:=this.1;simp only at this;omega);go_wp2_with fail;exact bodyPost_ret (v:=.tuple #[.agg #[.slice na oW.length nc, .slice AU K BU], .int .i64 0]) (zO Tryz.results66 _ _ w.heap.size 29 #[.slice na oW.length nc, .slice AU K BU] (0,0) _ rfl (jo.o.blk 4 rfl) Tryz.underlying29 rfl OX) rfl
       ⟨(qJ.o.setCell (Nat.le_refl _) _).setCell (Nat.le_refl _) _,_,by rw [HC.o],by rw [HM.o];exact ajn (O5 (jo.o.at' 2 rfl)) (Ey (jo.o.row 3 rfl) aly.o)⟩
def oN (M:D.bH):Prop:=M.1.length<=1000/\M.2.length<=1000/\∀ r∈M.1,r.length<=1000
def toR (L:Nat) (t:Int):Bool:=decide (0<=t)&&decide (t<L)
def je (n:Int) (M:D.bH) (i:Nat):Bool:=decide (((M.1.getD i []).length:Int)=n+1)&&(M.1.getD i []).all (toR M.1.length)&&decide (0<=M.2.getD i 0)&&decide (M.2.getD i 0<1099511627776)
def fO (n:Int) (M:D.bH):Bool:=decide (1<=n)&&decide (n<=32)&&decide (1<=M.1.length)&&decide (M.1.length<=300)&&decide (M.2.length=M.1.length)&&(List.range M.1.length).all (je n M)
theorem adu (t:Int) (bm:Nat) (na:Option Addr) (L nc:Nat) (w:World) (hc:w.cell? ⟨bm,0,none⟩=some (.slice na L nc)) (_hlt:bm<w.heap.size) :
  Calls Tryz.prog 175 #[.int .i64 t, .pointer (some ⟨bm,0,none⟩)] w λe w'=>e = .returned (.bool (!toR L t))/\w=w':=by
 unfold toR
 go_enter Tryz.func175,Tryz.ntmps175
 rcases Int.lt_or_le t 0 with h | h
 ·go_wp2_with fail;go_ret
  exact⟨aI (by simp;omega),rfl⟩
 ·rcases Int.lt_or_le t L with h2 | h2
  ·go_wp2_with fail;go_ret
   exact⟨aI (by simp [h,h2]),rfl⟩
  ·go_wp2_with fail;go_ret
   exact⟨aI (by simp <;> omega),rfl⟩
theorem ake (v:Value) (xs:List Int) (bm:Nat) (na:Option Addr) (L nc:Nat) (w:World) (hv:aB w v xs) (hz:xs.length<=16777216) (hc:w.cell? ⟨bm,0,none⟩=some (.slice na L nc)) (hlt:bm<w.heap.size) :
  Calls Tryz.prog 182 #[v, .func (.func 175) #[] #[.pointer (some ⟨bm,0,none⟩)]] w λe w'=>(∃ i:Int,e = .returned (.int .i64 i)/\decide (0<=i)=!xs.all (toR L))/\w=w':=by
 have oz:=bx hv;obtain⟨ao,cap,rfl⟩:=hv.slice;have HO:=bx (λt=>adu t bm na L nc w hc hlt);clear hv hc
 go_enter Tryz.func182,Tryz.ntmps182
 go_wp2
 go_loop [8] (λi=>∃ k:Nat,k<=xs.length/\i = .int .i64 k/\Box ((xs.take k).all (toR L)=true)) (λi=>xs.length-(intOf i).toNat)
 case atStart=>exact⟨0,by omega,rfl,⟨rfl⟩⟩
 case round =>
  obtain⟨k,hk,rfl,ha⟩:=hrel
  by_cases hlt':k<xs.length
  ·obtain⟨x,hx⟩:∃ x,xs[k]?=some x:=⟨_,List.getElem?_eq_getElem hlt'⟩
   obtain⟨g,off,cap2,hg1,hg2,hg3,hg4,hg5⟩:=oz.o.get (by rintro rfl;simp at hlt');obtain⟨rfl,rfl⟩:ao=some ⟨g,off,none⟩/\cap=cap2:=by injection hg1 with h1 h2 h3;exact⟨h1,h3⟩
   have hcx:=hg5 k x hx;have HX:=bx hx;unfold maxLen at hg3;clear hx hg1 hg5
   cases hi:toR L x with
   | true =>
    have HT:=bx (show (xs.take (k+1)).all (toR L)=true by rw [List.take_add_one,HX.o,List.all_append,ha.o];simp [hi]);have HI:=bx (show (!toR L x)=false by rw [hi];rfl);clear hi;go_wp2_with fail;refine(HO.o x).mono ?_;rintro e w1 ⟨rfl,rfl⟩;rw [HI.o];go_wp2_with fail
    go_round
    case rel=>exact⟨k+1,hlt',by go_num,HT⟩
    case measure=>simp [intOf];omega
   | false =>
    have HT:=bx (show xs.all (toR L)=false by
     rw [Bool.eq_false_iff];intro h;rw [List.all_eq_true] at h;rw [h x (List.mem_of_getElem? HX.o)] at hi
     cases hi)
    have HI:=bx (show (!toR L x)=true by rw [hi];rfl);clear hi;go_wp2_with fail;refine(HO.o x).mono ?_;rintro e w1 ⟨rfl,rfl⟩;rw [HI.o];go_wp2_with fail;go_ret
    exact⟨⟨k,rfl,by rw [HT.o];simp⟩,rfl⟩
  ·have HT:=bx (show xs.all (toR L)=true by have:=ha.o;rwa [List.take_of_length_le (by omega)] at this);go_wp2_with fail;go_ret
   exact⟨⟨-1,rfl,by rw [HT.o];rfl⟩,rfl⟩
theorem ani (v:Value) (xs:List Int) (bm:Nat) (na:Option Addr) (L nc:Nat) (w:World) (hv:aB w v xs) (hz:xs.length<=16777216) (hc:w.cell? ⟨bm,0,none⟩=some (.slice na L nc)) (hlt:bm<w.heap.size) :
  Calls Tryz.prog 143 #[v, .func (.func 175) #[] #[.pointer (some ⟨bm,0,none⟩)]] w λe w'=>e = .returned (.bool (!xs.all (toR L)))/\w=w':=by
 have HI:=bx (ake v xs bm na L nc w hv hz hc hlt);clear hv hc
 go_enter Tryz.func143,Tryz.ntmps143
 go_wp2_with fail;refine HI.o.mono ?_;rintro e w1 ⟨⟨i,rfl,hi⟩,rfl⟩;have HX:=bx hi;clear hi;go_wp2_with fail;go_ret
 exact⟨aI (by simpa using HX.o),rfl⟩
theorem vg {n:Int} {M:D.bH} {k:Nat} (hk:k<M.1.length) (h:je n M k=false):fO n M=false:=by
 unfold fO;rw [show (List.range M.1.length).all (je n M)=false by
  rw [Bool.eq_false_iff];intro ha;rw [List.all_eq_true] at ha;rw [ha k (List.mem_range.2 hk)] at h
  cases h]
 simp
theorem Pn (v:Value) (M:D.bH) (n:Int) (w:World) (hv:kQ w v M) (hM:oN M) :
  Calls Tryz.prog 135 #[v, .int .i64 n] w λe w'=>e = .returned (.bool (fO n M))/\Below w.heap.size w w':=by
 obtain⟨na,fa,rfl,hra,hia⟩:=hv;have oD:=bx hra;have uU:=bx hia;have EZ:=bx hM;obtain⟨aa,ca,rfl⟩:=hra.slice;obtain⟨fo,fc,rfl⟩:=hia.slice;obtain⟨w2,hw2⟩:∃ w2,w2=w.alloc (.cells #[.slice aa M.1.length ca, .slice fo M.2.length fc] 29):=⟨_,rfl⟩
 have HW2:=bx hw2;have hbw:Below w.heap.size w w2:=by rw [hw2];exact aO _ _
 have aJ:=bx hbw;have dB:=bx (show aj w2 w.heap.size 29 #[.slice aa M.1.length ca, .slice fo M.2.length fc] by rw [hw2];exact aj.new w _ _);have c0:w2.cell? ⟨w.heap.size,0,none⟩=some (.slice aa M.1.length ca):=(dB.o.cell 0).trans rfl;have c1:w2.cell? ⟨w.heap.size,1,none⟩=some (.slice fo M.2.length fc):=(dB.o.cell 1).trans rfl;have l0:=dB.o.lt;clear hra hia hM hbw hw2
 by_cases hg:1<=n/\n<=32/\1<=M.1.length/\M.1.length<=300/\M.2.length=M.1.length
 ·obtain⟨g1,g2,g3,g4,g5⟩:=hg;have uw:=bx (show fO n M=(List.range M.1.length).all (je n M) by
   unfold fO;rw [decide_eq_true g1,decide_eq_true g2,decide_eq_true g3,decide_eq_true g4,decide_eq_true g5];rfl)
  have kH:=bx g5;have hf5:(M.2.length:Int)=(M.1.length:Int):=by omega
  rw [g5] at c1;clear g5
  go_enter Tryz.func135,Tryz.ntmps135
  go_upto_region 1 with(fail)
  rw [<- HW2.o];go_wp2_with fail
  go_loop [39] (λi=>∃ k:Nat,k<=M.1.length/\i = .int .i64 k/\Box ((List.range k).all (je n M)=true)) (λi=>M.1.length-(intOf i).toNat)
  case atStart=>exact⟨0,by omega,rfl,⟨rfl⟩⟩
  case round =>
   obtain⟨k,hk,rfl,ha⟩:=hrel
   by_cases hlt:k<M.1.length
   ·obtain⟨x,hx⟩:∃ x,M.1[k]?=some x:=⟨_,List.getElem?_eq_getElem hlt⟩
    obtain⟨y,hy⟩:∃ y,M.2[k]?=some y:=⟨_,List.getElem?_eq_getElem (by rw [kH.o];exact hlt)⟩
    obtain⟨pa,oa,ca',ha0,ha1,ha2,qw,jk⟩:=(oD.o.below aJ.o).get (by intro e;rw [e] at hlt;simp at hlt);obtain⟨rfl,rfl⟩:aa=some ⟨pa,oa,none⟩/\ca=ca':=by injection ha0 with h1 h2 h3;exact⟨h1,h3⟩
    obtain⟨pb,ob,cb',hb0,hb1,hb2,hb3,hb4⟩:=(uU.o.below aJ.o).get (by intro e;rw [e] at hy;simp at hy);obtain⟨rfl,rfl⟩:fo=some ⟨pb,ob,none⟩/\fc=cb':=by injection hb0 with h1 h2 h3;exact⟨h1,h3⟩
    obtain⟨xv,hxc,hxi⟩:=jk k x hx;have O6:=hb4 k y hy;have rW:=bx (show je n M k=(decide ((x.length:Int)=n+1)&&x.all (toR M.1.length)&&decide (0<=y)&&decide (y<1099511627776)) by
     unfold je;rw [show M.1.getD k []=x by rw [List.getD,hx];rfl,show M.2.getD k 0=y by rw [List.getD,hy];rfl])
    have xH:=bx (ani xv x w.heap.size (some ⟨pa,oa,none⟩) M.1.length ca w2 hxi (by have:=EZ.o.2.2 x (List.mem_of_getElem? hx);omega) c0 l0);obtain⟨xo,xc,rfl⟩:=hxi.slice;have jM:=bx hlt;have hxz:=EZ.o.2.2 x (List.mem_of_getElem? hx);rw [kH.o] at hb1;unfold maxLen at ha2 hb2;clear ha0 jk hb0 hb4 hx hy hxi
    by_cases hl1:(x.length:Int)=n+1
    ·have iQ:=bx hl1;have q1:((x.length:Int)==n+1)=true:=by rw [beq_iff_eq];exact hl1
     clear hl1
     cases hal:x.all (toR M.1.length) with
     | true =>
      have iI:=bx (show (!x.all (toR M.1.length))=false by rw [hal];rfl)
      rcases Int.lt_or_le y 0 with hy0 | hy0
      ·have HF:=bx (vg jM.o (show je n M k=false by rw [rW.o,decide_eq_true iQ.o,hal];simp;omega));clear hal;go_wp2_with (go_at_call 143;refine xH.o.mono ?_;rintro e w1 ⟨rfl,rfl⟩;rw [iI.o])
       all_goals first | (exact absurd iQ.o (by assumption)) | (exfalso;omega) | skip
       go_ret
       exact⟨aI (by rw [HF.o]),aJ.o⟩
      ·rcases Int.lt_or_le y 1099511627776 with hy1 | hy1
       ·have HT:=bx (show (List.range (k+1)).all (je n M)=true by
         rw [List.range_succ,List.all_append,ha.o];simp only [List.all_cons,List.all_nil,Bool.and_true,Bool.true_and];rw [rW.o,decide_eq_true iQ.o,hal,decide_eq_true hy0,decide_eq_true hy1];rfl)
        clear hal;go_wp2_with (go_at_call 143;refine xH.o.mono ?_;rintro e w1 ⟨rfl,rfl⟩;rw [iI.o])
        all_goals first | (exact absurd iQ.o (by assumption)) | (exfalso;omega) | skip
        go_round
        case rel=>exact⟨k+1,hlt,by go_num,HT⟩
        case measure=>simp [intOf];omega
       ·have HF:=bx (vg jM.o (show je n M k=false by rw [rW.o,decide_eq_true iQ.o,hal];simp;omega));clear hal;go_wp2_with (go_at_call 143;refine xH.o.mono ?_;rintro e w1 ⟨rfl,rfl⟩;rw [iI.o])
        all_goals first | (exact absurd iQ.o (by assumption)) | (exfalso;omega) | skip
        go_ret
        exact⟨aI (by rw [HF.o]),aJ.o⟩
     | false =>
      have iI:=bx (show (!x.all (toR M.1.length))=true by rw [hal];rfl);have HF:=bx (vg jM.o (show je n M k=false by rw [rW.o,hal];simp));clear hal;go_wp2_with (go_at_call 143;refine xH.o.mono ?_;rintro e w1 ⟨rfl,rfl⟩;rw [iI.o])
      all_goals first | (exact absurd iQ.o (by assumption)) | (exfalso;omega) | skip
      go_ret
      exact⟨aI (by rw [HF.o]),aJ.o⟩
    ·have HF:=bx (vg jM.o (show je n M k=false by rw [rW.o,decide_eq_false hl1];rfl));have q1:((x.length:Int)==n+1)=false:=beq_eq_false_iff_ne.2 hl1;have ou:=bx hl1;clear hl1;go_wp2_with fail
     all_goals first | (exact absurd (by assumption) ou.o) | skip
     go_ret
     exact⟨aI (by rw [HF.o]),aJ.o⟩
   ·have HT:=bx (show fO n M=true by rw [uw.o,show M.1.length=k by omega];exact ha.o);go_wp2_with fail;go_ret
    exact⟨aI (by rw [HT.o]),aJ.o⟩
 ·have HF:=bx (show fO n M=false by
   unfold fO;rw [Bool.eq_false_iff];intro h;simp only [Bool.and_eq_true,decide_eq_true_eq] at h;exact hg ⟨h.1.1.1.1.1,h.1.1.1.1.2,h.1.1.1.2,h.1.1.2,h.1.2⟩)
  have hg':n<1\/(1<=n/\32<n)\/(1<=n/\n<=32/\M.1.length<1)\/(1<=n/\n<=32/\1<=M.1.length/\300<M.1.length)\/(1<=n/\n<=32/\1<=M.1.length/\M.1.length<=300/\((M.2.length:Int) != (M.1.length:Int))=true):=by
   simp only [bne_iff_ne,ne_eq];omega
  clear hg
  rcases hg' with g1 | ⟨g1,g2⟩ | ⟨g1,g2,g3⟩ | ⟨g1,g2,g3,g4⟩ | ⟨g1,g2,g3,g4,g5⟩
  all_goals
   go_enter Tryz.func135,Tryz.ntmps135
   go_upto_region 1 with(fail)
   rw [<- HW2.o];go_wp2_with fail
   all_goals first | (exfalso;omega) | (exfalso;simp_all;done) | skip
   go_ret
   exact⟨aI (by rw [HF.o]),aJ.o⟩
theorem Sep.lit {ps:List Pc} {W:World} (h:Sep ps W) {base:Nat} {e:TypeId} {cs:Array Value} {n:Nat} (hb:base<=W.heap.size) (hn:n=cs.size) (hm:n<=1000000):Sep (Pc.row base e 1 (.slice (some ⟨W.heap.size,0,none⟩) n n) n cs.toList::ps) (W.alloc (.cells cs e)):=by
 subst hn;refine h.add ((Below.refl _ _).alloc (Nat.le_refl _) _) ⟨by simp, .inr ⟨W.heap.size,cs.size,cs,rfl,hb,heap_alloc_new _ _,Nat.le_refl _,by unfold maxLen;omega,by simp,?_⟩⟩ (λk hk=>?_)
 ·rw [Nat.mul_one,<- Array.length_toList,List.take_length]
 ·simp [Pc.row,Value.ownBlock] at hk;omega
def stepM (n:Nat) (M:D.bH) (at':Nat) (c:Int):Nat:=((M.1.getD at' []).getD (jU n c) 0).toNat
def stM (n:Nat) (M:D.bH) (l:List Int) (i:Nat):Nat:=(l.take i).foldl (stepM n M) 0
def fC (n:Nat) (M:D.bH) (l:List Int):List Nat:=(List.range (l.length+1)).map (stM n M l)
theorem WB {n:Nat} {M:D.bH} {l:List Int} {i:Nat} {c:Int} (h:l[i]?=some c):stM n M l (i+1)=stepM n M (stM n M l i) c:=by
 unfold stM;rw [take_snoc' _ _ _ h,List.foldl_append];rfl
theorem Dq {n:Nat} {M:D.bH} (h:fO n M=true) {a:Nat} (ha:a<M.1.length) :
  ∃ r,M.1[a]?=some r/\r.length=n+1/\(∀ c,c<=n->∃ x:Int,r[c]?=some x/\0<=x/\x<M.1.length)/\∃ f:Int,M.2[a]?=some f/\0<=f/\f<1099511627776:=by
 unfold fO at h;simp only [Bool.and_eq_true,decide_eq_true_eq] at h;obtain⟨⟨⟨⟨⟨h1,h2⟩,h3⟩,h4⟩,h5⟩,h6⟩:=h;rw [List.all_eq_true] at h6;have h7:=h6 a (List.mem_range.2 ha);have hr:M.1[a]?=some M.1[a]:=List.getElem?_eq_getElem ha;have hf:M.2[a]?=some (M.2[a]'(by omega)):=List.getElem?_eq_getElem (by omega);unfold je at h7;rw [show M.1.getD a []=M.1[a] by rw [List.getD,hr];rfl,show M.2.getD a 0=M.2[a]'(by omega) by rw [List.getD,hf];rfl] at h7;simp only [Bool.and_eq_true,decide_eq_true_eq] at h7;obtain⟨⟨⟨k1,k2⟩,k3⟩,k4⟩:=h7;refine⟨_,hr,by omega,λc hc=>?_,_,hf,k3,k4⟩;have hcl:c<M.1[a].length:=by omega
 rw [List.all_eq_true] at k2;have k5:=k2 _ (List.getElem_mem hcl);unfold toR at k5;simp only [Bool.and_eq_true,decide_eq_true_eq] at k5;exact⟨_,List.getElem?_eq_getElem hcl,k5.1,k5.2⟩
theorem wF {n:Int} {M:D.bH} (h:fO n M=true):1<=n/\n<=32/\1<=M.1.length/\M.1.length<=300/\M.2.length=M.1.length:=by
 unfold fO at h;simp only [Bool.and_eq_true,decide_eq_true_eq] at h;exact⟨h.1.1.1.1.1,h.1.1.1.1.2,h.1.1.1.2,h.1.1.2,h.1.2⟩
theorem ajU {n:Nat} {M:D.bH} (h:fO n M=true) {a:Nat} (ha:a<M.1.length) (c:Int):stepM n M a c<M.1.length:=by
 obtain⟨r,hr,hl,hc,-⟩:=Dq h ha;obtain⟨x,hx,h0,h1⟩:=hc (jU n c) (Dj n c);unfold stepM;rw [show M.1.getD a []=r by rw [List.getD,hr];rfl,show r.getD (jU n c) 0=x by rw [List.getD,hx];rfl];omega
theorem Gx {n:Nat} {M:D.bH} (h:fO n M=true) (l:List Int):∀ i,stM n M l i<M.1.length:=by
 intro i;unfold stM;have key:∀ (t:List Int) (a:Nat),a<M.1.length->t.foldl (stepM n M) a<M.1.length:=by
  intro t
  induction t with
  | nil=>intro a ha;exact ha
  | cons c t ih=>intro a ha;exact ih _ (ajU h ha c)
 exact key _ 0 (by have:=(wF h).2.2.1;omega)
theorem Vw {n:Nat} {M:D.bH} {l:List Int} {i:Nat} (h:i<=l.length):(fC n M l)[i]?=some (stM n M l i):=by
 unfold fC;rw [List.getElem?_map,List.getElem?_range (by omega)];rfl
theorem JV (n:Nat) (M:D.bH) (l:List Int):(fC n M l).length=l.length+1:=by unfold fC;simp
theorem VH {n:Nat} {M:D.bH} {l:List Int} {i:Nat} (h:i<l.length):(fC n M l).take (i+2)=(fC n M l).take (i+1)++[stM n M l (i+1)]:=take_snoc' _ _ _ (Vw (by omega))
def goCode (n:Int) (M:D.bH):Int:=if fO n M=true then 0 else 100
def Wh (n:Int) (M:D.bH) (l:List Int) (w:World) (e:Ending) (w':World):Prop :=
 Below w.heap.size w w'/\∃ v,e = .returned (.tuple #[v, .int .i64 (goCode n M)])/\w'.ownsRow w.heap.size 3 1 v (if fO n M=true then l.length+1 else 0) ((if fO n M=true then fC n.toNat M l else []).map eu)
theorem aez (A:Nat->Addr) (B:Nat) (v lv:Value) (M:D.bH) (n:Int) (l:List Int) (w:World) (hv:kQ w v M) (hM:oN M) (hl:aB w lv l) (hz:l.length<=16777216) (hD:Ed A B w) (hB:B<=w.heap.size) :
  Calls Tryz.prog 138 #[v, .int .i64 n,lv] w (Wh n M l w):=by
 have fE:=bx (λW (h:Below w.heap.size w W)=>Pn v M n W (hv.below h) hM);have HD:=bx (λW (h:Below w.heap.size w W)=>hD.below (h.mono hB));have HL:=bx hl;have mY:=bx hv;obtain⟨na,fa,rfl,hra,-⟩:=hv;obtain⟨aa,ca,rfl⟩:=hra.slice;obtain⟨lo,lc,rfl⟩:=hl.slice;have oD:=bx hra;obtain⟨w2,hw2⟩:∃ w2,w2=(w.alloc (.cells #[.slice aa M.1.length ca,fa] 29)).alloc (.cells #[.int .i64 0] 3):=⟨_,rfl⟩
 have HW2:=bx hw2;have HS2:=bx (show Sep [Pc.row w.heap.size 3 1 (.slice (some ⟨w.heap.size+1,0,none⟩) 1 1) 1 [.int .i64 0],Pc.blk w.heap.size 29 #[.slice aa M.1.length ca,fa],Pc.old w.heap.size w] w2 by
  have h1:=(Sep.start w).bM 29 #[.slice aa M.1.length ca,fa];have h2:=h1.lit (base:=w.heap.size) (e:=3) (cs:=#[.int .i64 0]) (n:=1) (by simp) rfl (by omega);rw [hw2]
  simpa using h2)
 have hb2:Below w.heap.size w w2:=HS2.o.bel (by simp);have HB2:=bx hb2;have hba:=HS2.o.blk 1 rfl;have c0:w2.cell? ⟨w.heap.size,0,none⟩=some (.slice aa M.1.length ca):=(hba.cell 0).trans rfl;have c1:w2.cell? ⟨w.heap.size,1,none⟩=some fa:=(hba.cell 1).trans rfl;have l0:=hba.lt;clear hra hl hM hD hw2 hb2 hba
 cases hr:fO n M with
 | false =>
  have HR:=bx hr;have HC:=bx (show goCode n M=100 by unfold goCode;rw [hr];rfl);clear hr
  go_enter Tryz.func138,Tryz.ntmps138
  go_wp2_with fail;refine wG 0 rfl ?_
  go_upto_region 3 with(fail)
  rw [<- HW2.o];go_wp2_with fail;refine(fE.o _ HB2.o).mono ?_;rintro e w3 ⟨rfl,hb3⟩;rw [HR.o];have HB3:=bx (bt HB2.o hb3);have hD3:=HD.o w3 HB3.o;have hg:=hD3.var 8 (by decide);have HT:=bx (aip A B 8 (by decide) w3 hD3);unfold jZ at HT;clear hb3 hD3;go_wp2_with fail
  go_step3
  refine⟨rfl,?_⟩;go_wp2_with fail;refine HT.o.mono ?_;rintro e w4 ⟨rfl,rfl⟩;go_wp2_with fail;rw [Exit.noGoto_ret];go_ret2
  refine⟨HB3.o,_,by rw [HC.o];rfl,?_⟩;rw [HR.o];exact World.ownsRow_nil _ _ _ _
 | true =>
  have HR:=bx hr;obtain⟨h1,h2,h3,h4,h5⟩:=wF hr;obtain⟨nn,rfl⟩:=Int.eq_ofNat_of_zero_le (show 0<=n by omega);have HC:=bx (show goCode nn M=0 by unfold goCode;rw [hr];rfl);have dQ:=bx (λ(c:Int) (W:World)=>amx c nn W (by omega) (by omega));have jM:=bx (λi=>Gx hr l i);have pF:=bx (λ{a:Nat} (ha:a<M.1.length)=>Dq hr ha);have lG:=bx (show (fC nn M l).take 1=[0] by unfold fC;rw [List.range_succ_eq_map];rfl);clear hr h5
  go_enter Tryz.func138,Tryz.ntmps138
  go_wp2_with fail;refine wG 0 rfl ?_
  go_upto_region 3 with(fail)
  rw [<- HW2.o];go_wp2_with fail;refine(fE.o _ HB2.o).mono ?_;rintro e w3 ⟨rfl,hb3⟩;rw [HR.o];have aC:=bx (show Sep [Pc.row w.heap.size 3 1 (.slice (some ⟨w.heap.size+1,0,none⟩) 1 1) (0+1) (((fC nn M l).take (0+1)).map eu),Pc.blk w.heap.size 29 #[.slice aa M.1.length ca,fa],Pc.old w.heap.size w] w3 by
   rw [lG.o];exact HS2.o.below (hb3.mono HB2.o.size |> λ_=>hb3.mono (Nat.le_refl _) |> λ_=>by
    exact⟨hb3.os,hb3.tape,hb3.output,hb3.size,λk hk=>hb3.block k hk⟩))
  clear hb3 c0 c1 l0;go_wp2_with fail
  go_loopw [8,9,20] (λat' o i wr=>∃ k:Nat,k<=l.length/\i = .int .i64 k/\at' = .int .i64 (stM nn M l k)/\Box (Sep [Pc.row w.heap.size 3 1 o (k+1) (((fC nn M l).take (k+1)).map eu),Pc.blk w.heap.size 29 #[.slice aa M.1.length ca,fa],Pc.old w.heap.size w] wr)) (λ_ _ i _=>l.length-(intOf i).toNat)
  case atStart=>exact⟨0,by omega,rfl,rfl,aC⟩
  case round =>
   obtain⟨k,hk,rfl,rfl,hsep⟩:=hrel;have aP:=bx (show Below w.heap.size w wr from hsep.o.bel (by simp))
   by_cases hlt:k<l.length
   ·obtain⟨c,hc⟩:∃ c,l[k]?=some c:=⟨_,List.getElem?_eq_getElem hlt⟩
    obtain⟨lb,iE,kV,k1,k2,k3,k4,k5⟩:=(HL.o.below aP.o).get (by rintro rfl;simp at hlt);obtain⟨rfl,rfl⟩:lo=some ⟨lb,iE,none⟩/\lc=kV:=by injection k1 with h1 h2 h3;exact⟨h1,h3⟩
    have hlc:=k5 k c hc;have hat:=jM.o k;have O7:=bx (jM.o (k+1));obtain⟨r,hr1,hr2,hr3,-⟩:=pF.o hat
    obtain⟨x,hx1,hx2,hx3⟩:=hr3 (jU nn c) (Dj nn c);have HST:=bx (show stM nn M l (k+1)=x.toNat by
     rw [WB hc];unfold stepM;rw [show M.1.getD (stM nn M l k) []=r by rw [List.getD,hr1];rfl,show r.getD (jU nn c) 0=x by rw [List.getD,hx1];rfl])
    have dF:=bx (VH (n:=nn) (M:=M) hlt);have hcl:=Dj nn c;obtain⟨pa,oa,ca',ha0,ha1,ha2,qw,jk⟩:=(oD.o.below aP.o).get (by intro e;rw [e] at hr1;simp at hr1);obtain⟨rfl,rfl⟩:aa=some ⟨pa,oa,none⟩/\ca=ca':=by injection ha0 with h1 h2 h3;exact⟨h1,h3⟩
    obtain⟨xv,hxc,hxi⟩:=jk _ r hr1;obtain⟨rb,roff,sN,r1,r2,r3,r4,r5⟩:=hxi.get (by rintro rfl;simp at hr2);rw [hr2] at r1 r2;subst r1;have hxx:=r5 _ x hx1;have hba:=hsep.o.blk 1 rfl;have ai4:=bx (λW=>dQ.o c W);obtain⟨oo,oc,rfl,ho1,ho2⟩:=iU (hsep.o.row 0 rfl);have lC:=bx (show ∀ W,Below wr.heap.size wr W->W.cell? ⟨w.heap.size,0,none⟩=some (.slice (some ⟨pa,oa,none⟩) M.1.length ca)/\W.cell? ⟨pa,oa+stM nn M l k,none⟩=some (.slice (some ⟨rb,roff,none⟩) (nn+1) sN)/\W.cell? ⟨rb,roff+jU nn c,none⟩=some (.int .i64 x) from λW h =>
     ⟨((hba.below h hba.lt).cell 0).trans rfl,(h.cell (p:=⟨pa,oa+stM nn M l k,none⟩) qw).trans hxc,(h.cell (p:=⟨rb,roff+jU nn c,none⟩) r4).trans hxx⟩)
    have aF:=bx (show Below wr.heap.size wr wr.drew from⟨rfl,rfl,rfl,Nat.le_refl _,λ_ _=>rfl⟩);have dY:=bx hsep.o.drew;have hbs:w.heap.size<=wr.drew.heap.size:=aP.o.size;unfold maxLen at k3 ha2 r3;generalize hso:stM nn M l k=so at *;generalize hco:jU nn c=co at *;have hs1:so<ca:=by omega
    have hc1:co<nn+1:=by omega
    have hc2:co<sN:=by omega
    have hc3:(co:Int)<(nn:Int)+1:=by omega
    clear k1 k5 ha0 jk hxc hxi r5 hxx hba hr1 hr3 hx1 hc hsep hso hco;go_wp2_with fail;refine fP 9 (λW=>W.cell? ⟨w.heap.size,0,none⟩=some (.slice (some ⟨pa,oa,none⟩) M.1.length ca)/\W.cell? ⟨pa,oa+so,none⟩=some (.slice (some ⟨rb,roff,none⟩) (nn+1) sN)/\W.cell? ⟨rb,roff+co,none⟩=some (.int .i64 x)) (by kernel_rfl) ?_;have aA:=bx (lC.o _ aF.o);generalize wr.drew=WR at *;refine kS 0 ?_ rfl aA.o ?_ ?_;rotate_left
    ·rintro w ⟨q1,q2,q3⟩;go_simp;try with_reducible rfl
    refine kS 1 ?_ rfl aA.o ?_ ?_;rotate_left
    ·rintro w ⟨q1,q2,q3⟩;go_simp;try with_reducible rfl
    refine kS 2 ?_ rfl aA.o ?_ ?_;rotate_left
    ·rintro w ⟨q1,q2,q3⟩;go_simp;try with_reducible rfl
    refine kS 3 ?_ rfl aA.o ?_ ?_;rotate_left
    ·rintro w ⟨q1,q2,q3⟩;go_simp;try with_reducible rfl
    refine kS 4 ?_ rfl aA.o ?_ ?_;rotate_left
    ·rintro w ⟨q1,q2,q3⟩;go_simp;try with_reducible rfl
    refine kS 5 ?_ rfl aA.o ?_ ?_;rotate_left
    ·rintro w ⟨q1,q2,q3⟩;go_simp;try with_reducible rfl
    refine kS 6 ?_ rfl aA.o ?_ ?_;rotate_left
    ·rintro w ⟨q1,q2,q3⟩;go_simp;try with_reducible rfl
    refine kP 7 rfl λKK ah=>?_
    go_simp;go_wp2_with (go_at_call 178;refine(ai4.o _).mono ?_;rintro e w7 ⟨rfl,rfl⟩)
    refine ah.out _ _ (λ_=>aA.o) ?_;clear ah KK;refine kS 8 ?_ rfl aA.o ?_ ?_;rotate_left
    ·rintro w ⟨q1,q2,q3⟩;go_simp;try with_reducible rfl
    obtain⟨y1,y2,y3⟩:=aA.o;refine kP 9 rfl λKK ah=>?_
    go_simp;refine ah.out _ _ (λh=>by cases h) ?_;clear ah KK;refine kP 10 rfl λKK ah=>?_
    go_simp;refine ah.out _ _ (λh=>by cases h) ?_;clear ah KK;refine kD ?_ _;clear y1 y2 y3;go_wp2_with (at_builtin;refine ji rfl _ _ 22 rfl iT dY.o 0 rfl rfl rfl rfl (by omega) (by omega) hbs ?_;rintro v' w4 hS4 -)
    have HX:=bx (show (Value.int .i64 x)=eu (stM nn M l (k+1)) by unfold eu;rw [HST.o];exact kG (by omega));rw [HX.o] at hS4;have aY:=bx (show Sep [Pc.row w.heap.size 3 1 v' (k+1+1) (((fC nn M l).take (k+1+1)).map eu),Pc.blk w.heap.size 29 #[.slice (some ⟨pa,oa,none⟩) M.1.length ca,fa],Pc.old w.heap.size w] w4 by
     rw [dF.o,List.map_append];exact hS4)
    clear hS4;go_wp2_with fail
    go_roundw
    case rel=>exact⟨k+1,hlt,by go_num,HX.o,aY⟩
    case measure=>simp [intOf];omega
   ·obtain rfl:k=l.length:=by omega
    have uQ:=bx (show (fC nn M l).take (l.length+1)=fC nn M l by rw [<- JV nn M l,List.take_length]);go_wp2_with fail;rw [wC];go_ret2
    refine⟨aP.o,_,by rw [HC.o];rfl,?_⟩;have:=hsep.o.row 0 rfl;rw [uQ.o] at this;rw [HR.o];exact this
def mG (M:D.bH) (a:Nat):Int:=M.2.getD a 0
theorem ahu (W:World) (xs:List Int) (T:TypeId) (n:Nat) (hn:n=xs.length) (hz:n<=1000000) (cs:Array Value) (hc:cs=(xs.map (Value.int .i64)).toArray):aB (W.alloc (.cells cs T)) (.slice (some ⟨W.heap.size,0,none⟩) n n) xs:=by
 subst hn hc;refine .inr ⟨W.heap.size,0,none,xs.length,rfl,Nat.le_refl _,by unfold maxLen;omega,λ_=>⟨rfl,by simp,λi x hx=>?_⟩⟩;rw [Nat.zero_add,cell_of_row _ _ _ _ _ _ (heap_alloc_new W _)];simp [hx]
theorem MP {w:World} {ao:Option Addr} {cap:Nat} {xs:List Int} (h:aB w (.slice ao xs.length cap) xs) (n:Nat):aB w (.slice ao (xs.take n).length cap) (xs.take n):=by
 rcases h with⟨h1,rfl⟩ | ⟨b,off,sp,cap,h1,h2,h3,h4⟩
 ·injection h1 with h1 h2 h3;subst h1 h3;simp [aB]
 ·injection h1 with h1 h2' h3';subst h1 h3';refine .inr ⟨b,off,sp,_,rfl,by rw [List.length_take];omega,h3,λhn=>?_⟩;have hn':xs≠[]:=by rintro rfl;simp at hn
  refine⟨(h4 hn').1,(h4 hn').2.1,λi x hx=>(h4 hn').2.2 i x ?_⟩;rw [List.getElem?_take] at hx
  split at hx
  ·exact hx
  ·cases hx
theorem ML {w:World} {ao:Option Addr} {cap n:Nat} {xs:List Int} (h:aB w (.slice ao n cap) xs):xs.length<=cap/\cap<=9223372036854775807:=by
 rcases h with⟨h1,rfl⟩ | ⟨b,off,sp,cap,h1,h2,h3,h4⟩
 ·injection h1 with h1 h2 h3;subst h3;simp
 ·injection h1 with h1 h2' h3';subst h3';unfold maxLen at h3;omega
def Ae (M:D.bH):D.bH:=((M.1.take 302).map λr=>r.take 34,M.2.take 302)
theorem alh (M:D.bH):oN (Ae M):=by
 unfold Ae oN;refine⟨by simp only [List.length_map,List.length_take];omega,by simp only [List.length_take];omega,λr hr=>?_⟩;obtain⟨r0,-,rfl⟩:=List.mem_map.1 hr;rw [List.length_take];omega
theorem alZ {W:World} {base n:Nat} {T:TypeId} {v:Value} {vs:List Value} {L:List (List Int)} (h:W.ownsRow base T 1 v n vs) (hn:n=L.length) (hV:∀ (i:Nat) (r:List Int),L[i]?=some r->∃ x,vs[i]?=some x/\aB W x r):fJ W v L:=by
 subst hn
 rcases h.2 with⟨h1,h2⟩ | ⟨g,cap,cur,h1,h2,h3,h4,h5,h6,h7⟩
 ·rw [List.eq_nil_of_length_eq_zero h2];exact .inl ⟨h1,rfl⟩
 ·refine .inr ⟨g,0,none,cap,h1,h4,h5,λhn=>⟨rfl,(Array.getElem?_eq_some_iff.1 h3).1,λi r hr=>?_⟩⟩;obtain⟨x,hx,hi⟩:=hV i r hr;refine⟨x,?_,hi⟩;have h8:=h.cells (g:=g) (by rw [h1];rfl) i x hx;rw [show (⟨g,0,none⟩:Addr).add i=⟨g,0+i,none⟩ by unfold Addr.add;split <;> simp_all] at h8;exact h8
def vZ (W:World) (vs:List Value) (L:List (List Int)):Prop:=vs.length=L.length/\∀ (i:Nat) (r:List Int),L[i]?=some r->∃ x,vs[i]?=some x/\aB W x r
theorem vZ.snoc {W:World} {vs:List Value} {L:List (List Int)} (h:vZ W vs L) {x:Value} {r:List Int} (hx:aB W x r):vZ W (vs++[x]) (L++[r]):=by
 refine⟨by rw [List.length_append,List.length_append,h.1];rfl,λi q hq=>?_⟩
 rcases Nat.lt_or_ge i L.length with hl | hl
 ·rw [List.getElem?_append_left hl] at hq;obtain⟨y,hy,h2⟩:=h.2 i q hq;exact⟨y,by rw [List.getElem?_append_left (by rw [h.1];exact hl)];exact hy,h2⟩
 ·rw [List.getElem?_append_right hl] at hq;have hi0:i-L.length=0:=by have:=(List.getElem?_eq_some_iff.1 hq).1;simp at this;omega
  rw [hi0] at hq;simp only [List.getElem?_cons_zero,Option.some.injEq] at hq;subst hq;exact⟨x,by rw [List.getElem?_append_right (by rw [h.1];exact hl),h.1,hi0];rfl,hx⟩
def KQ (r:List Int):List Int:=r.take 34
end
end Go.Proofs.YtdenoeakcflnmaaGreatDoor
