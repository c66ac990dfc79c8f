/- Texts of this claim. -/
import Derived.Laws.IdiomRangeMap
import Derived.Test.YtlmdjifffmofeaaGreatDoorH8

set_option maxRecDepth 100000
set_option maxHeartbeats 8000000
namespace Go.Proofs.YtlmdjifffmofeaaGreatDoor
section
open Go.RowKit Go.Shelf
attribute [local go_sem] Oper.semAt_some
theorem afH:Pushes Tryz.prog 189 42 24:=.mk' (z:=.slice none 0 0) Tryz.underlying189 (by kernel_rfl) rfl
theorem Hr:Pushes Tryz.prog 24 23 24:=.mk' (z:=.slice none 0 0) Tryz.underlying24 (by kernel_rfl) rfl
def tN (L:List (List Nat)):List (List Value):=L.map λr=>r.map gB
theorem QW (L:List (List Nat)):(tN L).length=L.length:=by simp [tN]
theorem X7 (L:List (List Nat)) (r:List Nat):tN (L++[r])=tN L++[r.map gB]:=by simp [tN]
theorem OI {W:World} {base:Nat} {E e:TypeId} {v:Value} {vs:List Value} {L:List (List Nat)} (h:(Pc.rows base E e v vs (tN L)).ok W):iq W v (L.map zs):=by
 obtain⟨h0,h1,h2⟩:=h;have hl:vs.length=L.length:=by rw [QW] at h0;simpa using h0
 rcases h1.2 with⟨h3,h4⟩ | ⟨g,cap,cur,h3,h4,h5,h6,h7,h8,h9⟩
 ·refine .inl ⟨h3,?_⟩;rw [List.eq_nil_of_length_eq_zero (show L.length=0 by omega)];rfl
 ·refine .inr ⟨g,0,none,cap,by rw [h3,List.length_map,hl],by rw [List.length_map];omega,h7,λhn=>⟨rfl,(Array.getElem?_eq_some_iff.1 h5).1,λi r hr=>?_⟩⟩;rw [List.getElem?_map] at hr;obtain⟨r0,h10,rfl⟩:=Option.map_eq_some_iff.1 hr;obtain⟨x,hx,hxr,-⟩:=h2 i (r0.map gB) (by unfold tN;rw [List.getElem?_map,h10];rfl);refine⟨x,?_,Jj hxr (by simp)⟩;have:=h1.cells (g:=g) (by rw [h3];rfl) i x hx;rw [show (⟨g,0+i,none⟩:Addr)=(⟨g,0,none⟩:Addr).add i by unfold Addr.add;by_cases h0:i=0 <;> simp [h0]];exact this
theorem afq {rs:List D.Side} {k:Nat} (h:k<rs.length):(D.sQ rs).take (k+1)=(D.sQ rs).take k++[D.firstAt rs k]:=take_snoc' _ _ _ (by unfold D.sQ;rw [List.getElem?_map,List.getElem?_range h];rfl)
theorem WZ {t:List D.Sets} {s:D.Sets} (h:D.place t s=t.length):s∉t:=λhm=>by have:=D.aa4 hm;omega
theorem VQ {t:List D.Sets} {s:D.Sets} (h:s∉t):D.add t s=t++[s]:=by unfold D.add;rw [if_neg h]
theorem aeK {t:List D.Sets} {s:D.Sets} (h:s∈t):D.add t s=t:=by unfold D.add;rw [if_pos h]
theorem alF {sd:List D.Side} {n K j:Nat} {T:List D.Sets} {NX:List (List Nat)} {FX:List Nat} {S:D.Sets} (hb:D.build sd n K=⟨T,NX,FX⟩) (hk:NX.length=K) (hK:K+1<=300) (hS:T[K]?=some S) (hj:j+1<=n+1) (hl:300<(D.row sd n S T (j+1)).2.length):D.Bd sd n=false:=by
 refine D.anI _ _ (k:=K+1) hK ?_;have e:D.build sd n (K+1)=(D.build sd n K).go sd n:=rfl;rw [e,hb,D.Ud _ _ (b:=⟨T,NX,FX⟩) (S:=S) (by show T[NX.length]?=some S;rw [hk];exact hS)];exact Nat.lt_of_lt_of_le hl (D.anf (rs:=sd) (n:=n) (S:=S) (t:=T) hj)
theorem afJ {sd:List D.Side} {n K:Nat} {T t':List D.Sets} {NX:List (List Nat)} {FX r:List Nat} {S:D.Sets} (hb:D.build sd n K=⟨T,NX,FX⟩) (hk:NX.length=K) (hS:T[K]?=some S) (hr:D.row sd n S T (n+1)=(r,t')) :
  D.build sd n (K+1)=⟨t',NX++[r],FX++[D.nO sd S sd.length]⟩:=by
 have e:D.build sd n (K+1)=(D.build sd n K).go sd n:=rfl;rw [e,hb,D.Ud _ _ (b:=⟨T,NX,FX⟩) (S:=S) (by show T[NX.length]?=some S;rw [hk];exact hS)];simp only;rw [hr]
def OM (w:World) (rs:List D.Rule) (n K g:Nat) (Gq:Value) (wr:World):Prop :=
 ∃ nv fv us qx,Sep [Pc.rows w.heap.size 42 2 Gq us (tN (D.build (lefts rs) n K).todo),Pc.blk g 44 #[nv,fv],Pc.rows w.heap.size 23 3 nv qx (tN (D.build (lefts rs) n K).next),
  Pc.row w.heap.size 2 1 fv K ((D.build (lefts rs) n K).fits.map gB),Pc.blk w.heap.size 44 #[.slice none 0 0, .slice none 0 0],Pc.old w.heap.size w] wr
def G5 (w:World) (t:List D.Sets) (r:List Nat) (next:List (List Nat)) (fits:List Nat) (K g j:Nat) (nv fv:Value) (qx:List Value) (Gq cv:Value) (wr:World):Prop :=
 ∃ us,Sep [Pc.row w.heap.size 3 1 cv j (r.map gB),Pc.rows w.heap.size 42 2 Gq us (tN t),Pc.blk g 44 #[nv,fv],Pc.rows w.heap.size 23 3 nv qx (tN next),
  Pc.row w.heap.size 2 1 fv K (fits.map gB),Pc.blk w.heap.size 44 #[.slice none 0 0, .slice none 0 0],Pc.old w.heap.size w] wr
theorem ahY (v:Value) (rs:List D.Rule) (n:Int) (w:World) (hf:∀ x∈rs,pz x) (hv:dP w v rs) (hz:rs.length<=16777216) :
  Calls Tryz.prog 67 #[v, .int .i64 n] w (ZT rs n w):=by
 have hb0:=aS w (.cells #[.slice none 0 0, .slice none 0 0] 44);have HP:=bx (aaR v rs n _ hf (hv.below hb0) hz);have HB0:=bx hb0;have HR:=bx (ak.new w 44 #[.slice none 0 0, .slice none 0 0]);have aU:=bx ((Sep.start w).dh 44 #[.slice none 0 0, .slice none 0 0]);have HV:=bx hv;obtain⟨ao,cap,rfl⟩:=hv.slice;obtain⟨hc1,hc2⟩:=hv.FM;clear hv hb0
 cases hr:qP n rs with
 | false =>
  have dK:=bx hr;have HC:=bx (show zW rs n=90 by unfold zW;rw [hr];rfl);have HM:=bx (show xB rs n=([],[]) by unfold xB;rw [hr];rfl);clear hr
  go_enter Tryz.func67,Tryz.ntmps67
  go_wp2_with fail;refine HP.o.mono ?_;rintro e w1 ⟨rfl,hb1⟩;rw [dK.o];have HB1:=bx (bt HB0.o hb1);have HR1:=bx (HR.o.below hb1 HR.o.lt);have r0:=(HR1.o.cell 0).trans (show _=some (Value.slice none 0 0) from rfl);have r1:=(HR1.o.cell 1).trans (show _=some (Value.slice none 0 0) from rfl);have f0:=HR1.o.frozen 0;have f1:=HR1.o.frozen 1;have lr:=HR1.o.lt;clear hb1;go_wp2_with fail;exact bodyPost_ret (v:=.tuple #[.agg #[.slice none 0 0, .slice none 0 0], .int .i64 90]) (BJ Tryz.results67 _ _ w.heap.size 44 #[.slice none 0 0, .slice none 0 0] (0,0) _ rfl ((HR1.o.bP 0 (.slice none 0 0)).bP 1 (.slice none 0 0)) Tryz.underlying44 rfl Jc) rfl
   ⟨(HB1.o.setCell (Nat.le_refl _) _).setCell (Nat.le_refl _) _,_,by rw [HC.o],by rw [HM.o];exact adB _⟩
 | true =>
  have dK:=bx hr;obtain⟨hn1,hn2,FI,hso⟩:=KE hr;obtain⟨nn,rfl⟩:=Int.eq_ofNat_of_zero_le (show 0<=n by omega);have kV:=bx hso;have jP:=bx (D.amO (lefts rs));have gZ:=bx (λ(k:Nat) (h:k<rs.length)=>show ((D.sQ (lefts rs)).take (k+1)).map gB=((D.sQ (lefts rs)).take k).map gB++[gB (D.firstAt (lefts rs) k)] by rw [afq (by rw [yh];exact h),List.map_append];rfl);clear hr hso
  go_enter Tryz.func67,Tryz.ntmps67
  go_wp2_with fail;refine HP.o.mono ?_;rintro e w1 ⟨rfl,hb1⟩;rw [dK.o];have bQ:=bx (((aU.o.below hb1)).fP w.heap.size 1 2);clear hb1;go_wp2_with fail
  go_loopw [6,7] (λo i wr=>∃ k:Nat,k<=rs.length/\i = .int .i64 k/\Box (Sep [Pc.row w.heap.size 2 1 o k (((D.sQ (lefts rs)).take k).map gB),Pc.blk w.heap.size 44 #[.slice none 0 0, .slice none 0 0],Pc.old w.heap.size w] wr)) (λ_ i _=>rs.length-(intOf i).toNat)
  case atStart=>exact⟨0,by omega,rfl,bQ⟩
  case round =>
   obtain⟨k,hk,rfl,hsep⟩:=hrel;have aV:=bx (show Below w.heap.size w wr from hsep.o.bel (by simp))
   by_cases hlt:k<rs.length
   ·obtain⟨x,hx⟩:∃ x,rs[k]?=some x:=⟨_,List.getElem?_eq_getElem hlt⟩
    obtain⟨bg,off,cap2,hg1,hg2,hg3,hg4,hg5⟩:=(HV.o.below aV.o).get (by rintro rfl;simp at hlt);obtain⟨rfl,rfl⟩:ao=some ⟨bg,off,none⟩/\cap=cap2:=by injection hg1 with h1 h2 h3;exact⟨h1,h3⟩
    obtain⟨vl,vr,hc0,hc1,hc2,hc3,hc4,hil,hir⟩:=hg5 k x hx;have hrx:=kV.o x (List.mem_of_getElem? hx);have gI:=bx (show ((D.sQ (lefts rs)).take (k+1)).map gB=((D.sQ (lefts rs)).take k).map gB++[Value.int .i64 ((N.clo x.1.2 0:Nat):Int)] by rw [gZ.o k hlt];unfold D.firstAt;rw [Kq hx];rfl);have eY:=bx (show Oc x.1.2 = .tuple #[.int .i64 (N.clo x.1.2 0), .int .i64 0] by unfold Oc;rw [hrx];rfl);have HST:=bx (afL x.1.1 vl x.1.2 wr hil (by have:=AP hrx;omega));unfold maxLen at hg3;obtain⟨⟨kY,il⟩,⟨str,ir⟩,br⟩:=x;simp only at hc0 hc1 hc2 hc3 hc4 gI eY HST;clear hx hg1 hg5 hil hir hrx;go_wp2_with fail;refine HST.o.mono ?_;rintro e w3 ⟨rfl,hb3⟩;rw [eY.o];have aK:=bx (hsep.o.below hb3);have hlb:w.heap.size<=w3.heap.size:=Nat.le_trans aV.o.size hb3.size;clear hb3;go_wp2_with (at_builtin;refine lI rfl _ _ 42 rfl PX aK.o 0 rfl rfl rfl rfl (by omega) (by omega) hlb ?_;rintro v' w4 hS4 -)
    rw [<- gI.o] at hS4;have dn:=bx hS4;clear hS4;go_wp2_with fail
    go_roundw
    case rel=>exact⟨k+1,hlt,by go_num,dn⟩
    case measure=>simp [intOf];omega
   ·obtain rfl:k=rs.length:=by omega
    have fG:=bx (show (D.sQ (lefts rs)).take rs.length=D.sQ (lefts rs) by rw [<- yh rs,<- jP.o,List.take_length]);have Pj:=hsep.o;rw [fG.o] at Pj;obtain⟨fa,fc,rfl,Uc,Ui⟩:=dN (Pj.row 0 rfl);have rQ:=bx ((Sep.akh (E:=42) (xs:=(D.sQ (lefts rs)).map gB) (by rw [List.length_map,jP.o,yh];exact Pj) aV.o.size).dh 44 #[.slice none 0 0, .slice none 0 0]);clear hsep Pj
    go_upto_region 11 with(fail)
    obtain⟨g,hg⟩:∃ g,g=wr.heap.size+1:=⟨_,rfl⟩
    obtain⟨W2,hW2⟩:∃ W2,W2=(wr.alloc (.cells #[.slice fa rs.length fc] 42)).alloc (.cells #[.slice none 0 0, .slice none 0 0] 44):=⟨_,rfl⟩
    rw [<- hW2,<- hg];have oH:=bx (show OM w rs nn 0 g (.slice (some ⟨wr.heap.size,0,none⟩) 1 1) W2 by
     have h1:=rQ.o;rw [<- hW2,show (wr.alloc (.cells #[.slice fa rs.length fc] 42)).heap.size=g by rw [hg];simp] at h1;have h2:=((h1.fP w.heap.size 1 2).akS w.heap.size 23 3)
     exact⟨_,_,_,_,((h2.front 1 rfl).front 1 rfl |>.front 2 rfl).front 3 rfl⟩)
    have WB:=bx (show (D.build (lefts rs) nn 0).next.length=0/\0<=(D.build (lefts rs) nn 0).todo.length/\(D.build (lefts rs) nn 0).todo.length<=300 from⟨rfl,Nat.zero_le _,(show (1:Nat)<=300 from by decide)⟩);have YP:=bx (show w.heap.size<=g by have:=aV.o.size;omega);clear rQ fG jP gZ bQ aU HP HB0 HR hk hlt Uc Ui hW2 hg;go_wp2_with fail
    go_loopw [10,12] (λGq i wo=>∃ K:Nat,K<=300/\i = .int .i64 K/\Box (OM w rs nn K g Gq wo)/\Box ((D.build (lefts rs) nn K).next.length=K/\K<=(D.build (lefts rs) nn K).todo.length/\(D.build (lefts rs) nn K).todo.length<=300)) (λ_ i _=>301-(intOf i).toNat)
    case atStart=>exact⟨0,by omega,rfl,oH,WB⟩
    case round =>
     obtain⟨K,hK,rfl,hco,hkk⟩:=hrel;obtain⟨nv,fv,us,qx,hso⟩:=hco.o;obtain⟨T,hT⟩:∃ T,(D.build (lefts rs) nn K).todo=T:=⟨_,rfl⟩
     obtain⟨NX,Uk⟩:∃ NX,(D.build (lefts rs) nn K).next=NX:=⟨_,rfl⟩
     obtain⟨FX,WJ⟩:∃ FX,(D.build (lefts rs) nn K).fits=FX:=⟨_,rfl⟩
     have aF:=bx (show D.build (lefts rs) nn K=⟨T,NX,FX⟩ by rw [<- hT,<- Uk,<- WJ]);obtain⟨hk1,hk2,hk3⟩:=hkk.o;have SB:=D.ai2 (lefts rs) nn K;rw [hT] at hk2 hk3 SB hso;rw [Uk] at hk1 hso;rw [WJ] at hso;have YA:=bx SB;have Ut:=bx (show us.length=T.length by have:=(hso.at' 0 rfl).1;rw [QW] at this;simpa using this);obtain⟨aa,ac,hav,aoA,aoX⟩:=dN (hso.at' 0 rfl).2.1;rw [Ut.o] at hav;subst hav;have Bv:=bx hso;clear hco hkk SB hso hT Uk WJ
     by_cases hlt:K<T.length
     ·obtain⟨S,hS⟩:∃ S,T[K]?=some S:=⟨_,List.getElem?_eq_getElem hlt⟩
      have HS:=bx hS;have HGS:=bx (YA.o S (List.mem_of_getElem? hS));have alW:=bx (show G5 w T [] NX FX K g 0 nv fv qx (.slice aa T.length ac) (.slice none 0 0) wr from⟨us,Bv.o.fP _ _ _⟩);clear hS;go_wp2_with fail
      go_loopw [10,13,14] (λGq cv c wi=>∃ j:Nat,j<=nn+1/\c = .int .i64 j/\Box (G5 w (D.row (lefts rs) nn S T j).2 (D.row (lefts rs) nn S T j).1 NX FX K g j nv fv qx Gq cv wi)/\Box ((D.row (lefts rs) nn S T j).2.length<=300)) (λ_ _ c _=>nn+1-(intOf c).toNat)
      case atStart=>exact⟨0,by omega,rfl,alW,⟨hk3⟩⟩
      case round =>
       obtain⟨j,hj,rfl,hci,hle⟩:=hrel;obtain⟨us,hsi⟩:=hci.o;obtain⟨⟨r,t'⟩,hrow⟩:∃ q,D.row (lefts rs) nn S T j=q:=⟨_,rfl⟩
       have qB:=bx hrow;have hpre:=D.KZ (lefts rs) nn S T j;have hrl:=D.abL (lefts rs) nn S T j;rw [hrow] at hsi hle hpre hrl;simp only at hsi hle hpre hrl;have Ut:=bx (show us.length=t'.length by have:=(hsi.at' 1 rfl).1;rw [QW] at this;simpa using this);have anq:=bx (show ∀ x∈t',D.Good (lefts rs) x by
        have:=D.Ul (rs:=lefts rs) (n:=nn) (S:=S) (t:=T) YA.o (λc=>D.good_step (lefts rs) S c) j;rw [hrow] at this;exact this)
       have HSI:=bx hsi;have oM:=bx (show Below w.heap.size w wr from hsi.bel (by simp));obtain⟨ca,cc,rfl,aon,aoh⟩:=dN (hsi.row 0 rfl);have qh:=bx (OI (hsi.at' 1 rfl));have hS':=D.adz hpre HS.o;have hKt:K<t'.length:=(List.getElem?_eq_some_iff.1 hS').1;have hle':=hle.o
       by_cases hjn:j<=nn
       ·obtain⟨ab,Dn,G7,hav,ha2,qE,jA,JD⟩:=qh.o.get (by intro e;have:=congrArg List.length e;simp at this;subst this;simp at hKt);rw [List.length_map] at hav ha2;subst hav;obtain⟨xv,hcx,hxi⟩:=JD K (zs S) (by rw [List.getElem?_map,hS'];rfl);obtain⟨cc',hcc,hjc⟩:∃ cc:Int,D.cls nn j=cc/\((j=nn/\cc=-1)\/(j<nn/\cc=(j:Int))):=by
         refine⟨_,rfl,?_⟩;unfold D.cls
         rcases Nat.lt_or_ge j nn with h | h
         ·exact .inr ⟨h,by rw [if_neg (by omega)]⟩
         ·exact .inl ⟨by omega,by rw [if_pos (by omega)]⟩
        obtain⟨s,hs⟩:∃ s,D.sK (lefts rs) S cc'=s:=⟨_,rfl⟩
        have HST:=bx (ank (.slice ao rs.length cap) xv rs S cc' wr (HV.o.below oM.o) FI kV.o HGS.o hxi);rw [hs] at HST;have HSL:=bx (show s.length=rs.length by rw [<- hs,D.Zx,yh]);have lW:=bx (show D.row (lefts rs) nn S T (j+1)=(r++[D.place t' s],D.add t' s) by rw [D.MZ,qB.o,hcc,hs]);unfold maxLen at qE;have hKc:K<G7:=by omega
        clear hsi hci hpre hS' JD hxi hrow hs hcc;have acW:Calls Tryz.prog 119 #[.slice ao rs.length cap,xv, .int .i64 cc'] wr λe w'=>Box (Below wr.heap.size wr w')/\∃ la lc,e = .returned (.slice la rs.length lc)/\Box (Sep [Pc.row w.heap.size 2 1 (.slice la rs.length lc) rs.length (s.map gB),Pc.row w.heap.size 3 1 (.slice ca j cc) j (r.map gB),Pc.rows w.heap.size 42 2 (.slice (some ⟨ab,Dn,none⟩) t'.length G7) us (tN t'),Pc.blk g 44 #[nv,fv],Pc.rows w.heap.size 23 3 nv qx (tN NX),
          Pc.row w.heap.size 2 1 fv K (FX.map gB),Pc.blk w.heap.size 44 #[.slice none 0 0, .slice none 0 0],Pc.old w.heap.size w] w'):=HST.o.mono (by
         rintro e w3 ⟨hb3,lv,rfl,hlr⟩;obtain⟨la,lc,rfl,-,-⟩:=dN hlr;exact⟨⟨hb3⟩,la,lc,rfl,⟨HSI.o.got hb3 hlr oM.o.size⟩⟩)
        have gW:=bx acW;clear acW HST;have ajX:(((j:Int)==(nn:Int))=true/\cc'=-1)\/(((j:Int)==(nn:Int))=false/\cc'=(j:Int)):=by
         rcases hjc with⟨h,h'⟩ | ⟨h,h'⟩
         ·exact .inl ⟨by rw [beq_iff_eq];omega,h'⟩
         ·exact .inr ⟨beq_eq_false_iff_ne.2 (by omega),h'⟩
        clear hjc
        rcases ajX with⟨ajw,rfl⟩ | ⟨ajw,rfl⟩
        all_goals
         go_wp2_with fail;refine gW.o.mono ?_;rintro e w3 ⟨hb3,la,lc,rfl,hs3⟩;have NS:=bx (aiD (.slice (some ⟨ab,Dn,none⟩) t'.length G7) (.slice la rs.length lc) t' s w3 (OI (hs3.o.at' 2 rfl)) (by omega) (λx hx=>by rw [(anq.o x hx).1,yh];exact FI) (by rw [HSL.o];exact FI) (Jj (hs3.o.row 0 rfl) HSL.o.symm));obtain⟨p,hp⟩:∃ p,D.place t' s=p:=⟨_,rfl⟩
         have nS:=bx hp;have abl:=D.afD t' s;rw [hp] at NS abl;rw [hp] at lW;clear hp
         rcases (show (p=300/\t'.length=300)\/(p<300/\p=t'.length)\/(p<300/\p<t'.length) by omega) with⟨hp1,hp2⟩ | ⟨hp1,hp2⟩ | ⟨hp1,hp2⟩
         ·have q1:((p:Int)==300)=true:=by rw [beq_iff_eq];omega
          have yQ:=bx hp1;have HP2:=bx hp2;have dG:=bx (show K+1<=300 by omega);clear hp1 hp2 abl;go_wp2_with fail;refine NS.o.mono ?_;rintro e w4 ⟨rfl,hb4⟩;have dn:=bx (hs3.o.below hb4);have zX:=bx (alF aF.o hk1 dG.o HS.o (show j+1<=nn+1 by omega) (by rw [lW.o];simp only;rw [VQ (WZ (by rw [nS.o,yQ.o,HP2.o])),List.length_append,HP2.o];exact Nat.lt_succ_self 300));have HC:=bx (show zW rs nn=100 by unfold zW;rw [dK.o,Int.toNat_natCast,zX.o];rfl);have HM:=bx (show xB rs nn=([],[]) by unfold xB;rw [dK.o,Int.toNat_natCast,zX.o];rfl);have HR1:=bx (dn.o.blk 6 rfl);have HB1:=bx (show Below w.heap.size w w4 from dn.o.bel (by simp));have r0:=(HR1.o.cell 0).trans (show _=some (Value.slice none 0 0) from rfl);have r1:=(HR1.o.cell 1).trans (show _=some (Value.slice none 0 0) from rfl);have f0:=HR1.o.frozen 0;have f1:=HR1.o.frozen 1;have lr:=HR1.o.lt;clear hb4;go_wp2_with fail;exact bodyPost_ret (v:=.tuple #[.agg #[.slice none 0 0, .slice none 0 0], .int .i64 100]) (BJ Tryz.results67 _ _ w.heap.size 44 #[.slice none 0 0, .slice none 0 0] (0,0) _ rfl ((HR1.o.bP 0 (.slice none 0 0)).bP 1 (.slice none 0 0)) Tryz.underlying44 rfl Jc) rfl
           ⟨(HB1.o.setCell (Nat.le_refl _) _).setCell (Nat.le_refl _) _,_,by rw [HC.o],by rw [HM.o];exact adB _⟩
         ·go_wp2_with fail;refine NS.o.mono ?_;rintro e w4 ⟨rfl,hb4⟩;have dn:=bx (hs3.o.below hb4);subst hp2;have q1:((t'.length:Int)==300)=false:=beq_eq_false_iff_ne.2 (by omega);have WG:w.heap.size<=w4.heap.size:=by have:=hb3.o.size;have:=hb4.size;have:=oM.o.size;omega
          have yL:us.length<=1000000000:=by rw [Ut.o];omega
          have Di:=bx (show tN (D.add t' s)=tN t'++[s.map gB] by rw [VQ (WZ nS.o),X7]);have jr:=bx (show (D.add t' s).length<=300 by rw [VQ (WZ nS.o),List.length_append];simp;omega);have Sv:=bx (show j<=1000000000 by omega);clear hb4;go_wp2_with (first
           | (at_builtin;refine adT rfl _ _ 189 rfl afH dn.o 1 rfl rfl rfl rfl (by rw [List.length_map,HSL.o]) yL (by omega) WG ?_;rintro v' w5 hS5 ⟨g5,c5,rfl,h51,h52⟩;have U2:=(hS5.bel (n:=w.heap.size) (W0:=w) (by simp)).size)
           | (at_builtin;refine lI rfl _ _ 23 rfl mQ hS5 0 rfl rfl rfl rfl Sv.o (by omega) U2 ?_;rintro v' w6 hS6 -))
          have yY:=bx (show G5 w (D.row (lefts rs) nn S T (j+1)).2 (D.row (lefts rs) nn S T (j+1)).1 NX FX K g (j+1) nv fv qx (.slice (some ⟨g5,0,none⟩) (us.length+1) c5) v' w6 by
           rw [lW.o];unfold G5;simp only;rw [Di.o,List.map_append];exact⟨_,hS6⟩)
          clear hS5 hS6;go_wp2_with fail
          go_roundw
          case rel=>exact⟨j+1,by omega,by go_num,yY,⟨by rw [lW.o];exact jr.o⟩⟩
          case measure=>simp [intOf];omega
         ·go_wp2_with fail;refine NS.o.mono ?_;rintro e w4 ⟨rfl,hb4⟩;have dn:=bx (hs3.o.below hb4).tail;have q1:((p:Int)==300)=false:=beq_eq_false_iff_ne.2 (by omega);have q2:((p:Int)==(t'.length:Int))=false:=beq_eq_false_iff_ne.2 (by omega);have WG:w.heap.size<=w4.heap.size:=by have:=hb3.o.size;have:=hb4.size;have:=oM.o.size;omega
          have hmem:s∈t':=by
           rcases Classical.em (s∈t') with h | h
           ·exact h
           ·have:=D.Vt h;rw [nS.o] at this;omega
          have Di:=bx (aeK hmem);have Sv:=bx (show j<=1000000000 by omega);clear hb4 hmem;go_wp2_with (at_builtin;refine lI rfl _ _ 23 rfl mQ dn.o 0 rfl rfl rfl rfl Sv.o (by omega) WG ?_;rintro v' w6 hS6 -)
          have yY:=bx (show G5 w (D.row (lefts rs) nn S T (j+1)).2 (D.row (lefts rs) nn S T (j+1)).1 NX FX K g (j+1) nv fv qx (.slice (some ⟨ab,Dn,none⟩) t'.length G7) v' w6 by
           rw [lW.o];unfold G5;simp only;rw [Di.o,List.map_append];exact⟨_,hS6⟩)
          clear hS6;go_wp2_with fail
          go_roundw
          case rel=>exact⟨j+1,by omega,by go_num,yY,⟨by rw [lW.o];simp only;rw [Di.o];exact hle'⟩⟩
          case measure=>simp [intOf];omega
       ·obtain⟨na,nc,rfl,amR,aif⟩:=dN (hsi.at' 3 rfl).2.1;obtain⟨Eu,Du,rfl,Uc,Ui⟩:=dN (hsi.row 4 rfl);have amM:=bx (show qx.length=NX.length by have:=(hsi.at' 3 rfl).1;rw [QW] at this;simpa using this);have hu2:qx.length<=1000000000:=by rw [amM.o,hk1];omega
        have hbs:w.heap.size<=wr.heap.size:=oM.o.size;have RJ:=bx (hsi.blk 2 rfl);have cg0:wr.cell? ⟨g,0,none⟩=some (.slice na qx.length nc):=(RJ.o.cell 0).trans rfl;have lg:=RJ.o.lt;have HLR:=bx (show j=(r.map gB).length by rw [List.length_map,hrl]);have hj':j=nn+1:=by omega
        have HJ:=bx hj';have Y5:=bx hsi;clear hsi hci hpre hS' hrl hrow hj';go_wp2_with (at_builtin;refine adT rfl _ _ 24 rfl Hr Y5.o 2 rfl rfl rfl rfl HLR.o hu2 (by omega) hbs ?_;rintro v' w5 hS5 ⟨g5,c5,rfl,h51,h52⟩;have jZ:=bx (hS5.blk 1 rfl);have e0:=(jZ.o.cell 0).trans (show _=some (Value.slice na qx.length nc) from rfl);have f0:=jZ.o.frozen 0;have l5:=jZ.o.lt;have dA:=bx (hS5.set 1 rfl 0 (.slice (some ⟨g5,0,none⟩) (qx.length+1) c5)))
        simp only [List.set] at dA;generalize w5.setCell ⟨g,0,none⟩ (.slice (some ⟨g5,0,none⟩) (qx.length+1) c5)=w6 at dA ⊢;clear e0 f0 l5 jZ hS5 Y5 cg0 lg RJ hu2 hbs;have abp:w.heap.size<=w6.heap.size:=(dA.o.bel (n:=w.heap.size) (W0:=w) (by simp)).size;have aea:=bx (show t'[K]?=some S from D.adz (by have:=D.KZ (lefts rs) nn S T j;rw [qB.o] at this;exact this) HS.o);obtain⟨WR,Qo⟩:∃ WR,WR=w6.drew:=⟨_,rfl⟩
        have mO:=bx (show Sep _ WR by rw [Qo];exact dA.o.drew);have ajn:w.heap.size<=WR.heap.size:=by rw [Qo];exact abp
        have aV:=bx (show Below w.heap.size w WR from mO.o.bel (by simp));have aa8:=OI (mO.o.at' 0 rfl);obtain⟨ab,Dn,G7,hav,ha2,qE,jA,JD⟩:=aa8.get (by intro e;have:=congrArg List.length e;simp at this;subst this;simp at hKt);rw [List.length_map] at hav ha2;subst hav;obtain⟨xv,hcx,hxi⟩:=JD K (zs S) (by rw [List.getElem?_map,aea.o];rfl);unfold maxLen at qE;have JV:=bx (aey (.slice ao rs.length cap) xv rs S WR (HV.o.below aV.o) FI kV.o HGS.o hxi);have HG:=bx (mO.o.blk 1 rfl);have dZ:=bx (show ∀ W',Below WR.heap.size WR W'->W'.cell? ⟨g,1,none⟩=some (.slice Eu K Du)/\W'.cell? ⟨ab,Dn+K,none⟩=some xv from λW' h=>⟨((HG.o.below h HG.o.lt).cell 1).trans rfl,(h.cell (p:=⟨ab,Dn+K,none⟩) jA).trans hcx⟩);have Zj:=dZ.o WR (Below.refl _ _);have lgR:=HG.o.lt;clear hcx JD hxi aa8 abp dA;refine dO 9 (λW=>W.cell? ⟨g,1,none⟩=some (.slice Eu K Du)/\W.cell? ⟨ab,Dn+K,none⟩=some xv) (by kernel_rfl) ?_;rw [<- Qo];clear Qo;have aC:=bx Zj;clear Zj;refine kS 0 ?_ rfl aC.o ?_ ?_;rotate_left
        ·rintro w ⟨q1,q2⟩;go_simp;try with_reducible rfl
        refine kS 1 ?_ rfl aC.o ?_ ?_;rotate_left
        ·rintro w ⟨q1,q2⟩;go_simp;try with_reducible rfl
        refine kS 2 ?_ rfl aC.o ?_ ?_;rotate_left
        ·rintro w ⟨q1,q2⟩;go_simp;try with_reducible rfl
        refine kS 3 ?_ rfl aC.o ?_ ?_;rotate_left
        ·rintro w ⟨q1,q2⟩;go_simp;try with_reducible rfl
        refine kS 4 ?_ rfl aC.o ?_ ?_;rotate_left
        ·rintro w ⟨q1,q2⟩;go_simp;try with_reducible rfl
        refine kS 5 ?_ rfl aC.o ?_ ?_;rotate_left
        ·rintro w ⟨q1,q2⟩;go_simp;try with_reducible rfl
        refine kS 6 ?_ rfl aC.o ?_ ?_;rotate_left
        ·rintro w ⟨q1,q2⟩;go_simp;try with_reducible rfl
        refine kP 7 rfl λKK aj=>?_
        go_simp;go_wp2_with (go_at_call 121;refine JV.o.mono ?_;rintro e w7 ⟨rfl,hb7⟩)
        have aH:=bx (show Below WR.heap.size WR w7 from hb7);have bH:=bx (mO.o.below hb7);have am6:w.heap.size<=w7.heap.size:=Nat.le_trans ajn hb7.size;clear hb7;refine aj.out _ _ (λ_=>dZ.o _ aH.o) ?_;clear aj KK;refine kP 8 rfl λKK aj=>?_
        go_simp;refine aj.out _ _ (λ_=>dZ.o _ (aH.o.alloc aH.o.size _)) ?_;clear aj KK;refine kP 9 rfl λKK aj=>?_
        refine BZ rfl _ _ 42 rfl PX bH.o 3 rfl (by kernel_rfl) (by kernel_rfl) rfl (by omega) (by omega) am6 ?_;rintro v' w8 dW ⟨g8,c8,rfl,h81,h82⟩;refine aj.out _ _ (λh=>by cases h) ?_;clear aj KK;have Ko:=bx (dW.blk 1 rfl);have e0:=(Ko.o.cell 1).trans (show _=some (Value.slice Eu K Du) from rfl);have f0:=Ko.o.frozen 1;have l8:=Ko.o.lt;have fE:=bx (dW.set 1 rfl 1 (.slice (some ⟨g8,0,none⟩) (K+1) c8));clear dW;refine kP 10 rfl λKK aj=>?_
        go_simp;refine aj.out _ _ (λh=>by cases h) ?_;clear aj KK;refine kP 11 rfl λKK aj=>?_
        go_simp;refine aj.out _ _ (λh=>by cases h) ?_;clear aj KK;refine kD ?_ _;have YC:=bx (show D.build (lefts rs) nn (K+1)=⟨t',NX++[r],FX++[D.nO (lefts rs) S (lefts rs).length]⟩ from afJ aF.o hk1 HS.o (by have:=qB.o;rw [HJ.o] at this;exact this));have ahh:=bx (show OM w rs nn (K+1) g (.slice (some ⟨ab,Dn,none⟩) t'.length G7) (w8.setCell ⟨g,1,none⟩ (.slice (some ⟨g8,0,none⟩) (K+1) c8)) by
         unfold OM;rw [YC.o];simp only;rw [X7,List.map_append,yh];exact⟨_,_,_,_,fE.o⟩)
        have anN:=bx (show (D.build (lefts rs) nn (K+1)).next.length=K+1/\K+1<=(D.build (lefts rs) nn (K+1)).todo.length/\(D.build (lefts rs) nn (K+1)).todo.length<=300 by
         rw [YC.o];simp only;rw [List.length_append,hk1];exact⟨rfl,hKt,hle'⟩)
        go_wp2_with fail
        go_roundw
        case rel=>exact⟨K+1,by omega,by go_num,ahh,anN⟩
        case measure=>simp [intOf];omega
     ·have Y4:=bx (show T.length<=NX.length by rw [hk1];omega);have Aw:=bx (show D.build (lefts rs) nn 300=⟨T,NX,FX⟩ by
       rw [<- aF.o];exact D.Xh _ _ hK (by rw [aF.o];exact Y4.o))
      have Y2:=bx (show D.Bd (lefts rs) nn=true from D.Y8 _ _ hK (by rw [aF.o];exact Y4.o) (by rw [aF.o];exact hk3));have HC:=bx (show zW rs nn=0 by unfold zW;rw [dK.o,Int.toNat_natCast,Y2.o];rfl);have HM:=bx (show xB rs nn=Ob ⟨T,NX,FX⟩ by unfold xB U4;rw [dK.o,Int.toNat_natCast,Y2.o,Aw.o];rfl);have HG:=bx (Bv.o.blk 1 rfl);have lW:=bx (Bv.o.blk 4 rfl);have tq:=bx (show w.heap.size≠g from λe=>Bv.o.tail.head |> λ_=>(Bv.o.tail.2.1 (Pc.blk w.heap.size 44 #[.slice none 0 0, .slice none 0 0]) (by simp) g rfl) e.symm);obtain⟨na,nc,rfl,amR,aif⟩:=dN (Bv.o.at' 2 rfl).2.1;obtain⟨Eu,Du,rfl,Uc,Ui⟩:=dN (Bv.o.row 3 rfl);have c0:=(HG.o.cell 0).trans (show _=some (Value.slice na qx.length nc) from rfl);have c1:=(HG.o.cell 1).trans (show _=some (Value.slice Eu K Du) from rfl);have lg:=HG.o.lt;have q0:=(lW.o.cell 0).trans (show _=some (Value.slice none 0 0) from rfl);have q1:=(lW.o.cell 1).trans (show _=some (Value.slice none 0 0) from rfl);have f0:=lW.o.frozen 0;have f1:=lW.o.frozen 1;have lr:=lW.o.lt;have fE:=bx ((Bv.o.set 4 rfl 0 (.slice na qx.length nc)).set 4 rfl 1 (.slice Eu K Du));have dM:=bx (show Below w.heap.size w wr from Bv.o.bel (by simp));have hlk:T.length=K:=by omega
      have ahL:=bx (show K=FX.length by have:=D.adg (lefts rs) nn K;rw [aF.o] at this;have:=this.1;simp only at this;omega);go_wp2_with fail;exact bodyPost_ret (v:=.tuple #[.agg #[.slice na qx.length nc, .slice Eu K Du], .int .i64 0]) (BJ Tryz.results67 _ _ w.heap.size 44 #[.slice na qx.length nc, .slice Eu K Du] (0,0) _ rfl (fE.o.blk 4 rfl) Tryz.underlying44 rfl Jc) rfl
       ⟨(dM.o.setCell (Nat.le_refl _) _).setCell (Nat.le_refl _) _,_,by rw [HC.o],by rw [HM.o];exact alO (OI (fE.o.at' 2 rfl)) (Jj (fE.o.row 3 rfl) ahL.o)⟩
def qZ (M:D.dF):Prop:=M.1.length<=1000/\M.2.length<=1000/\∀ r∈M.1,r.length<=1000
def toR (L:Nat) (t:Int):Bool:=decide (0<=t)&&decide (t<L)
def nK (n:Int) (M:D.dF) (i:Nat):Bool:=decide (((M.1.getD i []).length:Int)=n+1)&&(M.1.getD i []).all (toR M.1.length)&&decide (0<=M.2.getD i 0)&&decide (M.2.getD i 0<1099511627776)
def jB (n:Int) (M:D.dF):Bool:=decide (1<=n)&&decide (n<=32)&&decide (1<=M.1.length)&&decide (M.1.length<=300)&&decide (M.2.length=M.1.length)&&(List.range M.1.length).all (nK n M)
theorem akI (t:Int) (bm:Nat) (na:Option Addr) (L nc:Nat) (w:World) (hc:w.cell? ⟨bm,0,none⟩=some (.slice na L nc)) (_hlt:bm<w.heap.size) :
  Calls Tryz.prog 200 #[.int .i64 t, .pointer (some ⟨bm,0,none⟩)] w λe w'=>e = .returned (.bool (!toR L t))/\w=w':=by
 unfold toR
 go_enter Tryz.func200,Tryz.ntmps200
 rcases Int.lt_or_le t 0 with h | h
 ·go_wp2_with fail;go_ret
  exact⟨aI (by simp;omega),rfl⟩
 ·rcases Int.lt_or_le t L with h2 | h2
  ·go_wp2_with fail;go_ret
   exact⟨aI (by simp [h,h2]),rfl⟩
  ·go_wp2_with fail;go_ret
   exact⟨aI (by simp <;> omega),rfl⟩
theorem amy (v:Value) (xs:List Int) (bm:Nat) (na:Option Addr) (L nc:Nat) (w:World) (hv:ay w v xs) (hz:xs.length<=16777216) (hc:w.cell? ⟨bm,0,none⟩=some (.slice na L nc)) (hlt:bm<w.heap.size) :
  Calls Tryz.prog 125 #[v, .func (.func 200) #[] #[.pointer (some ⟨bm,0,none⟩)]] w λe w'=>(∃ i:Int,e = .returned (.int .i64 i)/\decide (0<=i)=!xs.all (toR L))/\w=w':=by
 have jw:=bx hv;obtain⟨ao,cap,rfl⟩:=hv.slice;have HO:=bx (λt=>akI t bm na L nc w hc hlt);clear hv hc
 go_enter Tryz.func125,Tryz.ntmps125
 go_wp2
 go_loop [8] (λi=>∃ k:Nat,k<=xs.length/\i = .int .i64 k/\Box ((xs.take k).all (toR L)=true)) (λi=>xs.length-(intOf i).toNat)
 case atStart=>exact⟨0,by omega,rfl,⟨rfl⟩⟩
 case round =>
  obtain⟨k,hk,rfl,ha⟩:=hrel
  by_cases hlt':k<xs.length
  ·obtain⟨x,hx⟩:∃ x,xs[k]?=some x:=⟨_,List.getElem?_eq_getElem hlt'⟩
   obtain⟨g,off,cap2,hg1,hg2,hg3,hg4,hg5⟩:=jw.o.get (by rintro rfl;simp at hlt');obtain⟨rfl,rfl⟩:ao=some ⟨g,off,none⟩/\cap=cap2:=by injection hg1 with h1 h2 h3;exact⟨h1,h3⟩
   have hcx:=hg5 k x hx;have HX:=bx hx;unfold maxLen at hg3;clear hx hg1 hg5
   cases hi:toR L x with
   | true =>
    have HT:=bx (show (xs.take (k+1)).all (toR L)=true by rw [List.take_add_one,HX.o,List.all_append,ha.o];simp [hi]);have HI:=bx (show (!toR L x)=false by rw [hi];rfl);clear hi;go_wp2_with fail;refine(HO.o x).mono ?_;rintro e w1 ⟨rfl,rfl⟩;rw [HI.o];go_wp2_with fail
    go_round
    case rel=>exact⟨k+1,hlt',by go_num,HT⟩
    case measure=>simp [intOf];omega
   | false =>
    have HT:=bx (show xs.all (toR L)=false by
     rw [Bool.eq_false_iff];intro h;rw [List.all_eq_true] at h;rw [h x (List.mem_of_getElem? HX.o)] at hi
     cases hi)
    have HI:=bx (show (!toR L x)=true by rw [hi];rfl);clear hi;go_wp2_with fail;refine(HO.o x).mono ?_;rintro e w1 ⟨rfl,rfl⟩;rw [HI.o];go_wp2_with fail;go_ret
    exact⟨⟨k,rfl,by rw [HT.o];simp⟩,rfl⟩
  ·have HT:=bx (show xs.all (toR L)=true by have:=ha.o;rwa [List.take_of_length_le (by omega)] at this);go_wp2_with fail;go_ret
   exact⟨⟨-1,rfl,by rw [HT.o];rfl⟩,rfl⟩
theorem akP (v:Value) (xs:List Int) (bm:Nat) (na:Option Addr) (L nc:Nat) (w:World) (hv:ay w v xs) (hz:xs.length<=16777216) (hc:w.cell? ⟨bm,0,none⟩=some (.slice na L nc)) (hlt:bm<w.heap.size) :
  Calls Tryz.prog 71 #[v, .func (.func 200) #[] #[.pointer (some ⟨bm,0,none⟩)]] w λe w'=>e = .returned (.bool (!xs.all (toR L)))/\w=w':=by
 have HI:=bx (amy v xs bm na L nc w hv hz hc hlt);clear hv hc
 go_enter Tryz.func71,Tryz.ntmps71
 go_wp2_with fail;refine HI.o.mono ?_;rintro e w1 ⟨⟨i,rfl,hi⟩,rfl⟩;have HX:=bx hi;clear hi;go_wp2_with fail;go_ret
 exact⟨aI (by simpa using HX.o),rfl⟩
theorem CZ {n:Int} {M:D.dF} {k:Nat} (hk:k<M.1.length) (h:nK n M k=false):jB n M=false:=by
 unfold jB;rw [show (List.range M.1.length).all (nK n M)=false by
  rw [Bool.eq_false_iff];intro ha;rw [List.all_eq_true] at ha;rw [ha k (List.mem_range.2 hk)] at h
  cases h]
 simp
theorem Vd (v:Value) (M:D.dF) (n:Int) (w:World) (hv:nT w v M) (hM:qZ M) :
  Calls Tryz.prog 176 #[v, .int .i64 n] w λe w'=>e = .returned (.bool (jB n M))/\Below w.heap.size w w':=by
 obtain⟨na,fa,rfl,hra,hia⟩:=hv;have qh:=bx hra;have F7:=bx hia;have ND:=bx hM;obtain⟨aa,ca,rfl⟩:=hra.slice;obtain⟨fo,fc,rfl⟩:=hia.slice;obtain⟨w2,hw2⟩:∃ w2,w2=w.alloc (.cells #[.slice aa M.1.length ca, .slice fo M.2.length fc] 44):=⟨_,rfl⟩
 have HW2:=bx hw2;have hbw:Below w.heap.size w w2:=by rw [hw2];exact aS _ _
 have aJ:=bx hbw;have gV:=bx (show ak w2 w.heap.size 44 #[.slice aa M.1.length ca, .slice fo M.2.length fc] by rw [hw2];exact ak.new w _ _);have c0:w2.cell? ⟨w.heap.size,0,none⟩=some (.slice aa M.1.length ca):=(gV.o.cell 0).trans rfl;have c1:w2.cell? ⟨w.heap.size,1,none⟩=some (.slice fo M.2.length fc):=(gV.o.cell 1).trans rfl;have l0:=gV.o.lt;clear hra hia hM hbw hw2
 by_cases hg:1<=n/\n<=32/\1<=M.1.length/\M.1.length<=300/\M.2.length=M.1.length
 ·obtain⟨g1,g2,g3,g4,g5⟩:=hg;have Bf:=bx (show jB n M=(List.range M.1.length).all (nK n M) by
   unfold jB;rw [decide_eq_true g1,decide_eq_true g2,decide_eq_true g3,decide_eq_true g4,decide_eq_true g5];rfl)
  have jZ:=bx g5;have hf5:(M.2.length:Int)=(M.1.length:Int):=by omega
  rw [g5] at c1;clear g5
  go_enter Tryz.func176,Tryz.ntmps176
  go_upto_region 1 with(fail)
  rw [<- HW2.o];go_wp2_with fail
  go_loop [39] (λi=>∃ k:Nat,k<=M.1.length/\i = .int .i64 k/\Box ((List.range k).all (nK n M)=true)) (λi=>M.1.length-(intOf i).toNat)
  case atStart=>exact⟨0,by omega,rfl,⟨rfl⟩⟩
  case round =>
   obtain⟨k,hk,rfl,ha⟩:=hrel
   by_cases hlt:k<M.1.length
   ·obtain⟨x,hx⟩:∃ x,M.1[k]?=some x:=⟨_,List.getElem?_eq_getElem hlt⟩
    obtain⟨y,hy⟩:∃ y,M.2[k]?=some y:=⟨_,List.getElem?_eq_getElem (by rw [jZ.o];exact hlt)⟩
    obtain⟨pa,oa,ca',ha0,ha1,ha2,qE,jA⟩:=(qh.o.below aJ.o).get (by intro e;rw [e] at hlt;simp at hlt);obtain⟨rfl,rfl⟩:aa=some ⟨pa,oa,none⟩/\ca=ca':=by injection ha0 with h1 h2 h3;exact⟨h1,h3⟩
    obtain⟨pb,ob,cb',hb0,hb1,hb2,hb3,hb4⟩:=(F7.o.below aJ.o).get (by intro e;rw [e] at hy;simp at hy);obtain⟨rfl,rfl⟩:fo=some ⟨pb,ob,none⟩/\fc=cb':=by injection hb0 with h1 h2 h3;exact⟨h1,h3⟩
    obtain⟨xv,hxc,hxi⟩:=jA k x hx;have Z4:=hb4 k y hy;have Aq:=bx (show nK n M k=(decide ((x.length:Int)=n+1)&&x.all (toR M.1.length)&&decide (0<=y)&&decide (y<1099511627776)) by
     unfold nK;rw [show M.1.getD k []=x by rw [List.getD,hx];rfl,show M.2.getD k 0=y by rw [List.getD,hy];rfl])
    have yY:=bx (akP xv x w.heap.size (some ⟨pa,oa,none⟩) M.1.length ca w2 hxi (by have:=ND.o.2.2 x (List.mem_of_getElem? hx);omega) c0 l0);obtain⟨xo,xc,rfl⟩:=hxi.slice;have ru:=bx hlt;have hxz:=ND.o.2.2 x (List.mem_of_getElem? hx);rw [jZ.o] at hb1;unfold maxLen at ha2 hb2;clear ha0 jA hb0 hb4 hx hy hxi
    by_cases hl1:(x.length:Int)=n+1
    ·have iQ:=bx hl1;have q1:((x.length:Int)==n+1)=true:=by rw [beq_iff_eq];exact hl1
     clear hl1
     cases hal:x.all (toR M.1.length) with
     | true =>
      have jr:=bx (show (!x.all (toR M.1.length))=false by rw [hal];rfl)
      rcases Int.lt_or_le y 0 with hy0 | hy0
      ·have HF:=bx (CZ ru.o (show nK n M k=false by rw [Aq.o,decide_eq_true iQ.o,hal];simp;omega));clear hal;go_wp2_with (go_at_call 71;refine yY.o.mono ?_;rintro e w1 ⟨rfl,rfl⟩;rw [jr.o])
       all_goals first | (exact absurd iQ.o (by assumption)) | (exfalso;omega) | skip
       go_ret
       exact⟨aI (by rw [HF.o]),aJ.o⟩
      ·rcases Int.lt_or_le y 1099511627776 with hy1 | hy1
       ·have HT:=bx (show (List.range (k+1)).all (nK n M)=true by
         rw [List.range_succ,List.all_append,ha.o];simp only [List.all_cons,List.all_nil,Bool.and_true,Bool.true_and];rw [Aq.o,decide_eq_true iQ.o,hal,decide_eq_true hy0,decide_eq_true hy1];rfl)
        clear hal;go_wp2_with (go_at_call 71;refine yY.o.mono ?_;rintro e w1 ⟨rfl,rfl⟩;rw [jr.o])
        all_goals first | (exact absurd iQ.o (by assumption)) | (exfalso;omega) | skip
        go_round
        case rel=>exact⟨k+1,hlt,by go_num,HT⟩
        case measure=>simp [intOf];omega
       ·have HF:=bx (CZ ru.o (show nK n M k=false by rw [Aq.o,decide_eq_true iQ.o,hal];simp;omega));clear hal;go_wp2_with (go_at_call 71;refine yY.o.mono ?_;rintro e w1 ⟨rfl,rfl⟩;rw [jr.o])
        all_goals first | (exact absurd iQ.o (by assumption)) | (exfalso;omega) | skip
        go_ret
        exact⟨aI (by rw [HF.o]),aJ.o⟩
     | false =>
      have jr:=bx (show (!x.all (toR M.1.length))=true by rw [hal];rfl);have HF:=bx (CZ ru.o (show nK n M k=false by rw [Aq.o,hal];simp));clear hal;go_wp2_with (go_at_call 71;refine yY.o.mono ?_;rintro e w1 ⟨rfl,rfl⟩;rw [jr.o])
      all_goals first | (exact absurd iQ.o (by assumption)) | (exfalso;omega) | skip
      go_ret
      exact⟨aI (by rw [HF.o]),aJ.o⟩
    ·have HF:=bx (CZ ru.o (show nK n M k=false by rw [Aq.o,decide_eq_false hl1];rfl));have q1:((x.length:Int)==n+1)=false:=beq_eq_false_iff_ne.2 hl1;have tq:=bx hl1;clear hl1;go_wp2_with fail
     all_goals first | (exact absurd (by assumption) tq.o) | skip
     go_ret
     exact⟨aI (by rw [HF.o]),aJ.o⟩
   ·have HT:=bx (show jB n M=true by rw [Bf.o,show M.1.length=k by omega];exact ha.o);go_wp2_with fail;go_ret
    exact⟨aI (by rw [HT.o]),aJ.o⟩
 ·have HF:=bx (show jB n M=false by
   unfold jB;rw [Bool.eq_false_iff];intro h;simp only [Bool.and_eq_true,decide_eq_true_eq] at h;exact hg ⟨h.1.1.1.1.1,h.1.1.1.1.2,h.1.1.1.2,h.1.1.2,h.1.2⟩)
  have hg':n<1\/(1<=n/\32<n)\/(1<=n/\n<=32/\M.1.length<1)\/(1<=n/\n<=32/\1<=M.1.length/\300<M.1.length)\/(1<=n/\n<=32/\1<=M.1.length/\M.1.length<=300/\((M.2.length:Int) != (M.1.length:Int))=true):=by
   simp only [bne_iff_ne,ne_eq];omega
  clear hg
  rcases hg' with g1 | ⟨g1,g2⟩ | ⟨g1,g2,g3⟩ | ⟨g1,g2,g3,g4⟩ | ⟨g1,g2,g3,g4,g5⟩
  all_goals
   go_enter Tryz.func176,Tryz.ntmps176
   go_upto_region 1 with(fail)
   rw [<- HW2.o];go_wp2_with fail
   all_goals first | (exfalso;omega) | (exfalso;simp_all;done) | skip
   go_ret
   exact⟨aI (by rw [HF.o]),aJ.o⟩
theorem Sep.lit {ps:List Pc} {W:World} (h:Sep ps W) {base:Nat} {e:TypeId} {cs:Array Value} {n:Nat} (hb:base<=W.heap.size) (hn:n=cs.size) (hm:n<=1000000):Sep (Pc.row base e 1 (.slice (some ⟨W.heap.size,0,none⟩) n n) n cs.toList::ps) (W.alloc (.cells cs e)):=by
 subst hn;refine h.add ((Below.refl _ _).alloc (Nat.le_refl _) _) ⟨by simp, .inr ⟨W.heap.size,cs.size,cs,rfl,hb,heap_alloc_new _ _,Nat.le_refl _,by unfold maxLen;omega,by simp,?_⟩⟩ (λk hk=>?_)
 ·rw [Nat.mul_one,<- Array.length_toList,List.take_length]
 ·simp [Pc.row,Value.ownBlock] at hk;omega
def stepM (n:Nat) (M:D.dF) (at':Nat) (c:Int):Nat:=((M.1.getD at' []).getD (nM n c) 0).toNat
def stM (n:Nat) (M:D.dF) (l:List Int) (i:Nat):Nat:=(l.take i).foldl (stepM n M) 0
def jD (n:Nat) (M:D.dF) (l:List Int):List Nat:=(List.range (l.length+1)).map (stM n M l)
theorem Zk {n:Nat} {M:D.dF} {l:List Int} {i:Nat} {c:Int} (h:l[i]?=some c):stM n M l (i+1)=stepM n M (stM n M l i) c:=by
 unfold stM;rw [take_snoc' _ _ _ h,List.foldl_append];rfl
theorem Nz {n:Nat} {M:D.dF} (h:jB n M=true) {a:Nat} (ha:a<M.1.length) :
  ∃ r,M.1[a]?=some r/\r.length=n+1/\(∀ c,c<=n->∃ x:Int,r[c]?=some x/\0<=x/\x<M.1.length)/\∃ f:Int,M.2[a]?=some f/\0<=f/\f<1099511627776:=by
 unfold jB at h;simp only [Bool.and_eq_true,decide_eq_true_eq] at h;obtain⟨⟨⟨⟨⟨h1,h2⟩,h3⟩,h4⟩,h5⟩,h6⟩:=h;rw [List.all_eq_true] at h6;have h7:=h6 a (List.mem_range.2 ha);have hr:M.1[a]?=some M.1[a]:=List.getElem?_eq_getElem ha;have hf:M.2[a]?=some (M.2[a]'(by omega)):=List.getElem?_eq_getElem (by omega);unfold nK at h7;rw [show M.1.getD a []=M.1[a] by rw [List.getD,hr];rfl,show M.2.getD a 0=M.2[a]'(by omega) by rw [List.getD,hf];rfl] at h7;simp only [Bool.and_eq_true,decide_eq_true_eq] at h7;obtain⟨⟨⟨k1,k2⟩,k3⟩,k4⟩:=h7;refine⟨_,hr,by omega,λc hc=>?_,_,hf,k3,k4⟩;have hcl:c<M.1[a].length:=by omega
 rw [List.all_eq_true] at k2;have k5:=k2 _ (List.getElem_mem hcl);unfold toR at k5;simp only [Bool.and_eq_true,decide_eq_true_eq] at k5;exact⟨_,List.getElem?_eq_getElem hcl,k5.1,k5.2⟩
theorem Bq {n:Int} {M:D.dF} (h:jB n M=true):1<=n/\n<=32/\1<=M.1.length/\M.1.length<=300/\M.2.length=M.1.length:=by
 unfold jB at h;simp only [Bool.and_eq_true,decide_eq_true_eq] at h;exact⟨h.1.1.1.1.1,h.1.1.1.1.2,h.1.1.1.2,h.1.1.2,h.1.2⟩
theorem agA {n:Nat} {M:D.dF} (h:jB n M=true) {a:Nat} (ha:a<M.1.length) (c:Int):stepM n M a c<M.1.length:=by
 obtain⟨r,hr,hl,hc,-⟩:=Nz h ha;obtain⟨x,hx,h0,h1⟩:=hc (nM n c) (JM n c);unfold stepM;rw [show M.1.getD a []=r by rw [List.getD,hr];rfl,show r.getD (nM n c) 0=x by rw [List.getD,hx];rfl];omega
theorem Qs {n:Nat} {M:D.dF} (h:jB n M=true) (l:List Int):∀ i,stM n M l i<M.1.length:=by
 intro i;unfold stM;have key:∀ (t:List Int) (a:Nat),a<M.1.length->t.foldl (stepM n M) a<M.1.length:=by
  intro t
  induction t with
  | nil=>intro a ha;exact ha
  | cons c t ih=>intro a ha;exact ih _ (agA h ha c)
 exact key _ 0 (by have:=(Bq h).2.2.1;omega)
theorem ace {n:Nat} {M:D.dF} {l:List Int} {i:Nat} (h:i<=l.length):(jD n M l)[i]?=some (stM n M l i):=by
 unfold jD;rw [List.getElem?_map,List.getElem?_range (by omega)];rfl
theorem Xy (n:Nat) (M:D.dF) (l:List Int):(jD n M l).length=l.length+1:=by unfold jD;simp
theorem YE {n:Nat} {M:D.dF} {l:List Int} {i:Nat} (h:i<l.length):(jD n M l).take (i+2)=(jD n M l).take (i+1)++[stM n M l (i+1)]:=take_snoc' _ _ _ (ace (by omega))
def goCode (n:Int) (M:D.dF):Int:=if jB n M=true then 0 else 100
def Zh (n:Int) (M:D.dF) (l:List Int) (w:World) (e:Ending) (w':World):Prop :=
 Below w.heap.size w w'/\∃ v,e = .returned (.tuple #[v, .int .i64 (goCode n M)])/\w'.ownsRow w.heap.size 3 1 v (if jB n M=true then l.length+1 else 0) ((if jB n M=true then jD n.toNat M l else []).map gB)
theorem ajl (A:Nat->Addr) (B:Nat) (v lv:Value) (M:D.dF) (n:Int) (l:List Int) (w:World) (hv:nT w v M) (hM:qZ M) (hl:ay w lv l) (hz:l.length<=16777216) (hD:Ed A B w) (hB:B<=w.heap.size) :
  Calls Tryz.prog 179 #[v, .int .i64 n,lv] w (Zh n M l w):=by
 have dK:=bx (λW (h:Below w.heap.size w W)=>Vd v M n W (hv.below h) hM);have HD:=bx (λW (h:Below w.heap.size w W)=>hD.below (h.mono hB));have HL:=bx hl;have fH:=bx hv;obtain⟨na,fa,rfl,hra,-⟩:=hv;obtain⟨aa,ca,rfl⟩:=hra.slice;obtain⟨lo,lc,rfl⟩:=hl.slice;have qh:=bx hra;obtain⟨w2,hw2⟩:∃ w2,w2=(w.alloc (.cells #[.slice aa M.1.length ca,fa] 44)).alloc (.cells #[.int .i64 0] 3):=⟨_,rfl⟩
 have HW2:=bx hw2;have HS2:=bx (show Sep [Pc.row w.heap.size 3 1 (.slice (some ⟨w.heap.size+1,0,none⟩) 1 1) 1 [.int .i64 0],Pc.blk w.heap.size 44 #[.slice aa M.1.length ca,fa],Pc.old w.heap.size w] w2 by
  have h1:=(Sep.start w).dh 44 #[.slice aa M.1.length ca,fa];have h2:=h1.lit (base:=w.heap.size) (e:=3) (cs:=#[.int .i64 0]) (n:=1) (by simp) rfl (by omega);rw [hw2]
  simpa using h2)
 have hb2:Below w.heap.size w w2:=HS2.o.bel (by simp);have HB2:=bx hb2;have hba:=HS2.o.blk 1 rfl;have c0:w2.cell? ⟨w.heap.size,0,none⟩=some (.slice aa M.1.length ca):=(hba.cell 0).trans rfl;have c1:w2.cell? ⟨w.heap.size,1,none⟩=some fa:=(hba.cell 1).trans rfl;have l0:=hba.lt;clear hra hl hM hD hw2 hb2 hba
 cases hr:jB n M with
 | false =>
  have HR:=bx hr;have HC:=bx (show goCode n M=100 by unfold goCode;rw [hr];rfl);clear hr
  go_enter Tryz.func179,Tryz.ntmps179
  go_wp2_with fail;refine sS 0 rfl ?_
  go_upto_region 3 with(fail)
  rw [<- HW2.o];go_wp2_with fail;refine(dK.o _ HB2.o).mono ?_;rintro e w3 ⟨rfl,hb3⟩;rw [HR.o];have HB3:=bx (bt HB2.o hb3);have hD3:=HD.o w3 HB3.o;have hg:=hD3.var 8 (by decide);have HT:=bx (ae2 A B 8 (by decide) w3 hD3);unfold kH at HT;clear hb3 hD3;go_wp2_with fail
  go_step3
  refine⟨rfl,?_⟩;go_wp2_with fail;refine HT.o.mono ?_;rintro e w4 ⟨rfl,rfl⟩;go_wp2_with fail;rw [Exit.noGoto_ret];go_ret2
  refine⟨HB3.o,_,by rw [HC.o];rfl,?_⟩;rw [HR.o];exact World.ownsRow_nil _ _ _ _
 | true =>
  have HR:=bx hr;obtain⟨h1,h2,h3,h4,h5⟩:=Bq hr;obtain⟨nn,rfl⟩:=Int.eq_ofNat_of_zero_le (show 0<=n by omega);have HC:=bx (show goCode nn M=0 by unfold goCode;rw [hr];rfl);have aZ:=bx (λ(c:Int) (W:World)=>ajt c nn W (by omega) (by omega));have ru:=bx (λi=>Qs hr l i);have qB:=bx (λ{a:Nat} (ha:a<M.1.length)=>Nz hr ha);have mW:=bx (show (jD nn M l).take 1=[0] by unfold jD;rw [List.range_succ_eq_map];rfl);clear hr h5
  go_enter Tryz.func179,Tryz.ntmps179
  go_wp2_with fail;refine sS 0 rfl ?_
  go_upto_region 3 with(fail)
  rw [<- HW2.o];go_wp2_with fail;refine(dK.o _ HB2.o).mono ?_;rintro e w3 ⟨rfl,hb3⟩;rw [HR.o];have aK:=bx (show Sep [Pc.row w.heap.size 3 1 (.slice (some ⟨w.heap.size+1,0,none⟩) 1 1) (0+1) (((jD nn M l).take (0+1)).map gB),Pc.blk w.heap.size 44 #[.slice aa M.1.length ca,fa],Pc.old w.heap.size w] w3 by
   rw [mW.o];exact HS2.o.below (hb3.mono HB2.o.size |> λ_=>hb3.mono (Nat.le_refl _) |> λ_=>by
    exact⟨hb3.os,hb3.tape,hb3.output,hb3.size,λk hk=>hb3.block k hk⟩))
  clear hb3 c0 c1 l0;go_wp2_with fail
  go_loopw [8,9,20] (λat' o i wr=>∃ k:Nat,k<=l.length/\i = .int .i64 k/\at' = .int .i64 (stM nn M l k)/\Box (Sep [Pc.row w.heap.size 3 1 o (k+1) (((jD nn M l).take (k+1)).map gB),Pc.blk w.heap.size 44 #[.slice aa M.1.length ca,fa],Pc.old w.heap.size w] wr)) (λ_ _ i _=>l.length-(intOf i).toNat)
  case atStart=>exact⟨0,by omega,rfl,rfl,aK⟩
  case round =>
   obtain⟨k,hk,rfl,rfl,hsep⟩:=hrel;have aV:=bx (show Below w.heap.size w wr from hsep.o.bel (by simp))
   by_cases hlt:k<l.length
   ·obtain⟨c,hc⟩:∃ c,l[k]?=some c:=⟨_,List.getElem?_eq_getElem hlt⟩
    obtain⟨lb,vU,EO,k1,k2,k3,k4,k5⟩:=(HL.o.below aV.o).get (by rintro rfl;simp at hlt);obtain⟨rfl,rfl⟩:lo=some ⟨lb,vU,none⟩/\lc=EO:=by injection k1 with h1 h2 h3;exact⟨h1,h3⟩
    have hlc:=k5 k c hc;have hat:=ru.o k;have RX:=bx (ru.o (k+1));obtain⟨r,hr1,hr2,hr3,-⟩:=qB.o hat
    obtain⟨x,hx1,hx2,hx3⟩:=hr3 (nM nn c) (JM nn c);have HST:=bx (show stM nn M l (k+1)=x.toNat by
     rw [Zk hc];unfold stepM;rw [show M.1.getD (stM nn M l k) []=r by rw [List.getD,hr1];rfl,show r.getD (nM nn c) 0=x by rw [List.getD,hx1];rfl])
    have gI:=bx (YE (n:=nn) (M:=M) hlt);have hcl:=JM nn c;obtain⟨pa,oa,ca',ha0,ha1,ha2,qE,jA⟩:=(qh.o.below aV.o).get (by intro e;rw [e] at hr1;simp at hr1);obtain⟨rfl,rfl⟩:aa=some ⟨pa,oa,none⟩/\ca=ca':=by injection ha0 with h1 h2 h3;exact⟨h1,h3⟩
    obtain⟨xv,hxc,hxi⟩:=jA _ r hr1;obtain⟨rb,roff,Cm,r1,r2,r3,r4,r5⟩:=hxi.get (by rintro rfl;simp at hr2);rw [hr2] at r1 r2;subst r1;have hxx:=r5 _ x hx1;have hba:=hsep.o.blk 1 rfl;have ahq:=bx (λW=>aZ.o c W);obtain⟨oo,oc,rfl,ho1,ho2⟩:=dN (hsep.o.row 0 rfl);have dI:=bx (show ∀ W,Below wr.heap.size wr W->W.cell? ⟨w.heap.size,0,none⟩=some (.slice (some ⟨pa,oa,none⟩) M.1.length ca)/\W.cell? ⟨pa,oa+stM nn M l k,none⟩=some (.slice (some ⟨rb,roff,none⟩) (nn+1) Cm)/\W.cell? ⟨rb,roff+nM nn c,none⟩=some (.int .i64 x) from λW h =>
     ⟨((hba.below h hba.lt).cell 0).trans rfl,(h.cell (p:=⟨pa,oa+stM nn M l k,none⟩) qE).trans hxc,(h.cell (p:=⟨rb,roff+nM nn c,none⟩) r4).trans hxx⟩)
    have aF:=bx (show Below wr.heap.size wr wr.drew from⟨rfl,rfl,rfl,Nat.le_refl _,λ_ _=>rfl⟩);have cZ:=bx hsep.o.drew;have hbs:w.heap.size<=wr.drew.heap.size:=aV.o.size;unfold maxLen at k3 ha2 r3;generalize hso:stM nn M l k=so at *;generalize hco:nM nn c=co at *;have hs1:so<ca:=by omega
    have hc1:co<nn+1:=by omega
    have hc2:co<Cm:=by omega
    have hc3:(co:Int)<(nn:Int)+1:=by omega
    clear k1 k5 ha0 jA hxc hxi r5 hxx hba hr1 hr3 hx1 hc hsep hso hco;go_wp2_with fail;refine dO 9 (λW=>W.cell? ⟨w.heap.size,0,none⟩=some (.slice (some ⟨pa,oa,none⟩) M.1.length ca)/\W.cell? ⟨pa,oa+so,none⟩=some (.slice (some ⟨rb,roff,none⟩) (nn+1) Cm)/\W.cell? ⟨rb,roff+co,none⟩=some (.int .i64 x)) (by kernel_rfl) ?_;have aC:=bx (dI.o _ aF.o);generalize wr.drew=WR at *;refine kS 0 ?_ rfl aC.o ?_ ?_;rotate_left
    ·rintro w ⟨q1,q2,q3⟩;go_simp;try with_reducible rfl
    refine kS 1 ?_ rfl aC.o ?_ ?_;rotate_left
    ·rintro w ⟨q1,q2,q3⟩;go_simp;try with_reducible rfl
    refine kS 2 ?_ rfl aC.o ?_ ?_;rotate_left
    ·rintro w ⟨q1,q2,q3⟩;go_simp;try with_reducible rfl
    refine kS 3 ?_ rfl aC.o ?_ ?_;rotate_left
    ·rintro w ⟨q1,q2,q3⟩;go_simp;try with_reducible rfl
    refine kS 4 ?_ rfl aC.o ?_ ?_;rotate_left
    ·rintro w ⟨q1,q2,q3⟩;go_simp;try with_reducible rfl
    refine kS 5 ?_ rfl aC.o ?_ ?_;rotate_left
    ·rintro w ⟨q1,q2,q3⟩;go_simp;try with_reducible rfl
    refine kS 6 ?_ rfl aC.o ?_ ?_;rotate_left
    ·rintro w ⟨q1,q2,q3⟩;go_simp;try with_reducible rfl
    refine kP 7 rfl λKK aj=>?_
    go_simp;go_wp2_with (go_at_call 203;refine(ahq.o _).mono ?_;rintro e w7 ⟨rfl,rfl⟩)
    refine aj.out _ _ (λ_=>aC.o) ?_;clear aj KK;refine kS 8 ?_ rfl aC.o ?_ ?_;rotate_left
    ·rintro w ⟨q1,q2,q3⟩;go_simp;try with_reducible rfl
    obtain⟨y1,y2,y3⟩:=aC.o;refine kP 9 rfl λKK aj=>?_
    go_simp;refine aj.out _ _ (λh=>by cases h) ?_;clear aj KK;refine kP 10 rfl λKK aj=>?_
    go_simp;refine aj.out _ _ (λh=>by cases h) ?_;clear aj KK;refine kD ?_ _;clear y1 y2 y3;go_wp2_with (at_builtin;refine lI rfl _ _ 23 rfl mQ cZ.o 0 rfl rfl rfl rfl (by omega) (by omega) hbs ?_;rintro v' w4 hS4 -)
    have HX:=bx (show (Value.int .i64 x)=gB (stM nn M l (k+1)) by unfold gB;rw [HST.o];exact fF (by omega));rw [HX.o] at hS4;have dn:=bx (show Sep [Pc.row w.heap.size 3 1 v' (k+1+1) (((jD nn M l).take (k+1+1)).map gB),Pc.blk w.heap.size 44 #[.slice (some ⟨pa,oa,none⟩) M.1.length ca,fa],Pc.old w.heap.size w] w4 by
     rw [gI.o,List.map_append];exact hS4)
    clear hS4;go_wp2_with fail
    go_roundw
    case rel=>exact⟨k+1,hlt,by go_num,HX.o,dn⟩
    case measure=>simp [intOf];omega
   ·obtain rfl:k=l.length:=by omega
    have xU:=bx (show (jD nn M l).take (l.length+1)=jD nn M l by rw [<- Xy nn M l,List.take_length]);go_wp2_with fail;rw [yN];go_ret2
    refine⟨aV.o,_,by rw [HC.o];rfl,?_⟩;have:=hsep.o.row 0 rfl;rw [xU.o] at this;rw [HR.o];exact this
def vw (M:D.dF) (a:Nat):Int:=M.2.getD a 0
end
namespace D
def cut (n:Nat) (c:Int):Int:=if c<0\/(n:Int)<=c then -1 else c
def cuts (n:Nat) (cs:List Int):List Int:=cs.map (cut n)
end D
section
open Go.RowKit
def nX (st:Bool) (l:List N.Item) (cs:List Int) (p:Int):Bool :=
 iO l&&decide (0<=p)&&decide (p<=cs.length)&&!(st&&decide (0<p))&&decide (0<(mM cs l p l.length).length)
namespace G
def hit (R:List D.Rule) (ks:List Int) (f:Nat) (p:Int) (i:Nat):Bool:=f.testBit i&&match R[i]? with | some x=>nX x.2.1.1 x.2.1.2 ks p | none=>false
def Ez (R:List D.Rule) (ks:List Int) (f:Nat) (p:Int):Bool:=match (List.range R.length).find? (hit R ks f p) with | some i=>(R[i]?.map λx=>x.2.2).getD true | none=>true
theorem Zt (q:Nat->Bool):∀ n k,k<n->q k=true->(∀ i,i<k->q i=false)->(List.range n).find? q=some k
 | 0,_,h,_,_=>by omega
 | n+1,k,h,hk,hi=>by
  rw [List.range_succ,List.find?_append]
  rcases Nat.lt_or_ge k n with h1 | h1
  ·rw [Zt q n k h1 hk hi];rfl
  ·obtain rfl:k=n:=by omega
   have hn:(List.range k).find? q=none:=by
    rw [List.find?_eq_none];intro i hm;rw [hi i (List.mem_range.1 hm)];exact Bool.false_ne_true
   rw [hn,Option.none_or,List.find?_cons_of_pos hk]
theorem aa1 {R:List D.Rule} {ks:List Int} {f:Nat} {p:Int} {k:Nat} {x:D.Rule} (hx:R[k]?=some x) (hk:hit R ks f p k=true) (hi:∀ i,i<k->hit R ks f p i=false):Ez R ks f p=x.2.2:=by
 unfold Ez;rw [Zt _ _ k (List.getElem?_eq_some_iff.1 hx).1 hk hi];simp [hx]
theorem adi {R:List D.Rule} {ks:List Int} {f:Nat} {p:Int} (hi:∀ i,i<R.length->hit R ks f p i=false):Ez R ks f p=true:=by
 unfold Ez;rw [List.find?_eq_none.2 (λi hm=>by rw [hi i (List.mem_range.1 hm)];exact Bool.false_ne_true)]
end G
def cutAt (R:List D.Rule) (M:D.dF) (nn:Nat) (L:List Int) (p:Nat):Bool:=G.Ez R (D.cuts nn L) (vw M (stM nn M L p)).toNat (p:Int)
def AB (R:List D.Rule) (M:D.dF) (nn:Nat) (L:List Int) (k:Nat):List Nat:=((List.range k).map (·+1)).filter (cutAt R M nn L)
def vS (R:List D.Rule) (M:D.dF) (nn:Nat) (L:List Int):List Int:=(0::AB R M nn L (L.length-1)).map (λn:Nat=>(n:Int))++if 0<L.length then [(L.length:Int)] else []
theorem afV (st:Bool) (v:Value) (l:List N.Item) (cv:Value) (cs:List Int) (p:Int) (w:World) (hv:bM w v l) (hz:l.length<=16777216) (hc:ay w cv cs) (hcz:cs.length<=900) :
  Calls Tryz.prog 206 #[.agg #[.bool st,v],cv, .int .i64 p] w λe w'=>e = .returned (.bool (nX st l cs p))/\Below w.heap.size w w':=by
 obtain⟨W,hW⟩:∃ W,W=w.alloc (.cells #[.bool st,v] 144):=⟨_,rfl⟩
 have hbW:Below w.heap.size w W:=by rw [hW];exact Gf _ _
 have hbk:ak W w.heap.size 144 #[.bool st,v]:=by rw [hW];exact ak.new _ _ _
 have HP:=bx (agK st v l W (hv.below hbW) hz);have HV:=bx (hv.below hbW);have HC:=bx (hc.below hbW);have dR:=bx hbk;have aJ:=bx hbW;obtain⟨ao,cap,rfl⟩:=hc.slice;have c0:W.cell? ⟨w.heap.size,0,none⟩=some (.bool st):=(hbk.cell 0).trans rfl;have c1:W.cell? ⟨w.heap.size,1,none⟩=some v:=(hbk.cell 1).trans rfl;have HW:=bx hW;clear hv hc hbk hbW hW
 go_enter Tryz.func206,Tryz.ntmps206
 go_upto_region 1 with(fail)
 rw [<- HW.o]
 cases hr:iO l with
 | false =>
  have HR:=bx (show nX st l cs p=false by unfold nX;rw [hr];rfl);have HRR:=bx hr;clear hr;go_wp2_with fail;refine HP.o.mono ?_;rintro e w1 ⟨rfl,hb1⟩;rw [HRR.o];have HB1:=bx hb1;clear hb1;go_wp2_with fail;go_ret
  exact⟨aI HR.o.symm,bt aJ.o HB1.o⟩
 | true =>
  have HRR:=bx hr;clear hr
  rcases Int.lt_or_le p 0 with h0 | h0
  ·have HR:=bx (show nX st l cs p=false by unfold nX;rw [decide_eq_false (by omega:¬ 0<=p),Bool.and_false];rfl);go_wp2_with fail;refine HP.o.mono ?_;rintro e w1 ⟨rfl,hb1⟩;rw [HRR.o];have HB1:=bx hb1;clear hb1;go_wp2_with fail;go_ret
   exact⟨aI HR.o.symm,bt aJ.o HB1.o⟩
  rcases Int.lt_or_le cs.length p with h1 | h1
  ·have HR:=bx (show nX st l cs p=false by unfold nX;rw [decide_eq_false (by omega:¬ p<=cs.length),Bool.and_false];rfl);go_wp2_with fail;refine HP.o.mono ?_;rintro e w1 ⟨rfl,hb1⟩;rw [HRR.o];have HB1:=bx hb1;clear hb1;go_wp2_with fail;go_ret
   exact⟨aI HR.o.symm,bt aJ.o HB1.o⟩
  obtain⟨q,rfl⟩:=Int.eq_ofNat_of_zero_le h0;have hq:q<=cs.length:=by omega
  go_wp2_with fail;refine HP.o.mono ?_;rintro e w1 ⟨rfl,hb1⟩;rw [HRR.o];have hbk1:=dR.o.below hb1 dR.o.lt;have d0:w1.cell? ⟨w.heap.size,0,none⟩=some (.bool st):=(hbk1.cell 0).trans rfl;have d1:w1.cell? ⟨w.heap.size,1,none⟩=some v:=(hbk1.cell 1).trans rfl;have hl1:=hbk1.lt;have HB1:=bx (bt aJ.o hb1);have dU:=bx (HV.o.below hb1);have nV:=bx (HC.o.below hb1);clear hb1 hbk1 c0 c1
  by_cases hs:st=true/\0<q
  ·obtain⟨hs1,hs2⟩:=hs;have HR:=bx (show nX st l cs (q:Int)=false by unfold nX;rw [hs1,decide_eq_true (by omega:(0:Int)<(q:Int))];simp);rw [hs1] at d0;clear hs1;go_wp2_with fail;go_ret
   exact⟨aI HR.o.symm,HB1.o⟩
  ·have Tc:=bx (Ub HRR.o);have aiL:=AP HRR.o;obtain⟨W2,hW2⟩:∃ W2,W2=w1.alloc (.cells #[.slice ao cs.length cap] 315):=⟨_,rfl⟩
   have hb2:Below w1.heap.size w1 W2:=by rw [hW2];exact Gf _ _
   have zk:=bx (ai7 w1.heap.size (.slice ao cs.length cap) cs v l q W2 (by rw [hW2];exact ak.new _ _ _) (nV.o.below hb2) (dU.o.below hb2) Tc.o hcz (by omega) hq);have HB2:=bx (bt HB1.o hb2);have HW2:=bx hW2;have HR:=bx (show nX st l cs (q:Int)=decide (0<(mM cs l q l.length).length) by
    unfold nX;rw [HRR.o,decide_eq_true h0,decide_eq_true h1]
    rcases Bool.eq_false_or_eq_true st with e | e
    ·have:q=0:=by
      rcases Nat.eq_zero_or_pos q with h | h
      ·exact h
      ·exact absurd ⟨e,h⟩ hs
     subst this;rw [e];simp
    ·rw [e];simp)
   clear hb2 hW2;have fin:∀ (xv:Value) (w3:World),ay w3 xv (mM cs l q l.length)->∃ a c,xv = .slice a (mM cs l q l.length).length c:=λxv w3 h=>h.slice
   have FIN:=bx fin;clear fin
   rcases Bool.eq_false_or_eq_true st with e | e
   ·have hq0:q=0:=by
     rcases Nat.eq_zero_or_pos q with h | h
     ·exact h
     ·exact absurd ⟨e,h⟩ hs
    rw [e] at d0;subst hq0;clear e hs;go_wp2_with fail;rw [<- HW2.o];refine zk.o.mono ?_;rintro e w3 ⟨⟨xv,rfl,hi⟩,hb3⟩;obtain⟨a,c,rfl⟩:=FIN.o _ _ hi;have HB3:=bx (bt HB2.o hb3);clear hi hb3;go_wp2_with fail;go_ret
    exact⟨aI (by rw [HR.o];first | done | simp),HB3.o⟩
   ·rw [e] at d0;clear e hs;go_wp2_with fail;rw [<- HW2.o];refine zk.o.mono ?_;rintro e w3 ⟨⟨xv,rfl,hi⟩,hb3⟩;obtain⟨a,c,rfl⟩:=FIN.o _ _ hi;have HB3:=bx (bt HB2.o hb3);clear hi hb3;go_wp2_with fail;go_ret
    exact⟨aI (by rw [HR.o];first | done | simp),HB3.o⟩
def Eg (A:Nat->Addr) (B:Nat) (w:World):Prop:=Env [6] 348 A B w
theorem Eg.below {A:Nat->Addr} {B:Nat} {w w':World} (h:Eg A B w) (hb:Below B w w'):Eg A B w':=Env.below h hb
theorem Eg.cell {A:Nat->Addr} {B:Nat} {w:World} (h:Eg A B w):w.cell? ⟨6,0,none⟩=some (.iface 348 (.pointer (some (A 6)))):=h.var _ (List.mem_singleton.2 rfl)
def Jr (A:Nat->Addr):Value:=kH A 6
theorem UR (A:Nat->Addr) (B:Nat) (w:World) (hE:Eg A B w) :
  Calls Tryz.prog 182 #[Jr A] w λe w'=>e = .returned (.int .i64 110)/\w=w':=by
 have hg:=hE.cell;have HI:=bx (Qh hE 6 6 (by decide) (by decide));clear hE;unfold Jr kH
 go_enter Tryz.func182,Tryz.ntmps182
 go_wp2_with fail;refine HI.o.mono ?_;rintro e w1 ⟨rfl,rfl⟩;go_wp2_with fail;go_ret
 exact⟨rfl,rfl⟩
def inB (L:Nat) (f:Int):Bool:=decide (f<2 ^ L)
theorem div_pow (q L:Nat):((q:Int) / 2 ^ L==0)=inB L (q:Int):=by
 unfold inB;rw [show (2:Int) ^ L=((2 ^ L:Nat):Int) by simp,Bool.eq_iff_iff,beq_iff_eq,decide_eq_true_iff];have hp:0<2 ^ L:=Nat.two_pow_pos L
 constructor
 ·intro h;have h1:((q / 2 ^ L:Nat):Int)=0:=by rw [<- h];simp
  have h2:q / 2 ^ L=0:=by omega
  have:=(Nat.div_eq_zero_iff_lt hp).1 h2;omega
 ·intro h;have h2:q<2 ^ L:=by omega
  have:=Nat.div_eq_of_lt h2;rw [show (q:Int) / ((2 ^ L:Nat):Int)=((q / 2 ^ L:Nat):Int) by simp,this]
  rfl
theorem aiH (q:Nat) (_hq:q<1099511627776) (bm:Nat) (na:Option Addr) (L nc:Nat) (hL:L<=40) (w:World) (hc:w.cell? ⟨bm,0,none⟩=some (.slice na L nc)) (_hlt:bm<w.heap.size) :
  Calls Tryz.prog 202 #[.int .i64 q, .pointer (some ⟨bm,0,none⟩)] w λe w'=>e = .returned (.bool (!inB L q))/\w=w':=by
 have HD:=bx (div_pow q L)
 go_enter Tryz.func202,Tryz.ntmps202
 go_wp2_with fail;go_ret
 refine⟨aI ?_,rfl⟩;rw [<- HD.o];simp [bne]
theorem ahu (v:Value) (xs:List Int) (hx:∀ x∈xs,0<=x/\x<1099511627776) (bm:Nat) (na:Option Addr) (L nc:Nat) (hL:L<=40) (w:World) (hv:ay w v xs) (hz:xs.length<=16777216) (hc:w.cell? ⟨bm,0,none⟩=some (.slice na L nc)) (hlt:bm<w.heap.size) :
  Calls Tryz.prog 216 #[v, .func (.func 202) #[] #[.pointer (some ⟨bm,0,none⟩)]] w λe w'=>(∃ i:Int,e = .returned (.int .i64 i)/\decide (0<=i)=!xs.all (inB L))/\w=w':=by
 have jw:=bx hv;obtain⟨ao,cap,rfl⟩:=hv.slice;have HO:=bx (λt ht=>aiH t ht bm na L nc hL w hc hlt);have qW:=bx hx;clear hv hc hx
 go_enter Tryz.func216,Tryz.ntmps216
 go_wp2
 go_loop [8] (λi=>∃ k:Nat,k<=xs.length/\i = .int .i64 k/\Box ((xs.take k).all (inB L)=true)) (λi=>xs.length-(intOf i).toNat)
 case atStart=>exact⟨0,by omega,rfl,⟨rfl⟩⟩
 case round =>
  obtain⟨k,hk,rfl,ha⟩:=hrel
  by_cases hlt':k<xs.length
  ·obtain⟨x,hx⟩:∃ x,xs[k]?=some x:=⟨_,List.getElem?_eq_getElem hlt'⟩
   obtain⟨g,off,cap2,hg1,hg2,hg3,hg4,hg5⟩:=jw.o.get (by rintro rfl;simp at hlt');obtain⟨rfl,rfl⟩:ao=some ⟨g,off,none⟩/\cap=cap2:=by injection hg1 with h1 h2 h3;exact⟨h1,h3⟩
   obtain⟨x0,x1⟩:=qW.o x (List.mem_of_getElem? hx);obtain⟨q,rfl⟩:=Int.eq_ofNat_of_zero_le x0;have hq:q<1099511627776:=by omega
   have hcx:=hg5 k _ hx;have HX:=bx hx;unfold maxLen at hg3;clear hx hg1 hg5 x0 x1
   cases hi:inB L (q:Int) with
   | true =>
    have HT:=bx (show (xs.take (k+1)).all (inB L)=true by rw [List.take_add_one,HX.o,List.all_append,ha.o];simp [hi]);have HI:=bx (show (!inB L (q:Int))=false by rw [hi];rfl);clear hi;go_wp2_with fail;refine(HO.o q hq).mono ?_;rintro e w1 ⟨rfl,rfl⟩;rw [HI.o];go_wp2_with fail
    go_round
    case rel=>exact⟨k+1,hlt',by go_num,HT⟩
    case measure=>simp [intOf];omega
   | false =>
    have HT:=bx (show xs.all (inB L)=false by
     rw [Bool.eq_false_iff];intro h;rw [List.all_eq_true] at h;rw [h _ (List.mem_of_getElem? HX.o)] at hi
     cases hi)
    have HI:=bx (show (!inB L (q:Int))=true by rw [hi];rfl);clear hi;go_wp2_with fail;refine(HO.o q hq).mono ?_;rintro e w1 ⟨rfl,rfl⟩;rw [HI.o];go_wp2_with fail;go_ret
    exact⟨⟨k,rfl,by rw [HT.o];simp⟩,rfl⟩
  ·have HT:=bx (show xs.all (inB L)=true by have:=ha.o;rwa [List.take_of_length_le (by omega)] at this);go_wp2_with fail;go_ret
   exact⟨⟨-1,rfl,by rw [HT.o];rfl⟩,rfl⟩
theorem aju (v:Value) (xs:List Int) (hx:∀ x∈xs,0<=x/\x<1099511627776) (bm:Nat) (na:Option Addr) (L nc:Nat) (hL:L<=40) (w:World) (hv:ay w v xs) (hz:xs.length<=16777216) (hc:w.cell? ⟨bm,0,none⟩=some (.slice na L nc)) (hlt:bm<w.heap.size) :
  Calls Tryz.prog 201 #[v, .func (.func 202) #[] #[.pointer (some ⟨bm,0,none⟩)]] w λe w'=>e = .returned (.bool (!xs.all (inB L)))/\w=w':=by
 have HI:=bx (ahu v xs hx bm na L nc hL w hv hz hc hlt);clear hv hc hx
 go_enter Tryz.func201,Tryz.ntmps201
 go_wp2_with fail;refine HI.o.mono ?_;rintro e w1 ⟨⟨i,rfl,hi⟩,rfl⟩;have HX:=bx hi;clear hi;go_wp2_with fail;go_ret
 exact⟨aI (by simpa using HX.o),rfl⟩
theorem acP (v:Value) (xs:List Int) (hx:∀ x∈xs,0<=x/\x<1099511627776) (na:Option Addr) (L nc:Nat) (hL:L<=40) (w:World) (hv:ay w v xs) (hz:xs.length<=16777216) :
  Calls Tryz.prog 177 #[v, .slice na L nc] w λe w'=>e = .returned (.bool (xs.all (inB L)))/\Below w.heap.size w w':=by
 obtain⟨W,hW⟩:∃ W,W=w.alloc (.cells #[.slice na L nc] 41):=⟨_,rfl⟩
 have hbW:Below w.heap.size w W:=by rw [hW];exact aS w _
 have hbk:ak W w.heap.size 41 #[.slice na L nc]:=by rw [hW];exact ak.new _ _ _
 have HC:=bx (aju v xs hx w.heap.size na L nc hL W (hv.below hbW) hz ((hbk.cell 0).trans rfl) hbk.lt);have HW:=bx hW;have HB:=bx hbW;obtain⟨ao,cap,rfl⟩:=hv.slice;clear hv hx hW hbW hbk
 go_enter Tryz.func177,Tryz.ntmps177
 go_wp2_with fail;rw [<- HW.o];refine HC.o.mono ?_;rintro e w1 ⟨rfl,rfl⟩;go_wp2_with fail;go_ret
 exact⟨aI (by simp),HB.o⟩
end
end Go.Proofs.YtlmdjifffmofeaaGreatDoor
