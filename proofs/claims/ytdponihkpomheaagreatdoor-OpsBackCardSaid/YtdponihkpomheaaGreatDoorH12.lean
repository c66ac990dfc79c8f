/- Texts of this claim. -/
import Derived.Test.YtdponihkpomheaaGreatDoorH11

set_option maxRecDepth 100000
set_option maxHeartbeats 8000000
namespace Go.Proofs.YtdponihkpomheaaGreatDoor
open Go.RowKit
attribute [local go_sem] Oper.semAt_some
open Tryz
theorem F.anr {s:List UInt8} {a b:Int} {fs:List (List UInt8)} (h:F.Dl s=some (some (a,b,fs))):fs≠[]:=by
 obtain⟨-,-,-,-,h2,-,hfs⟩:=F.VU h;rintro rfl;have h9:=congrArg List.length hfs;rw [List.length_tail] at h9;simp only [iG] at h9;omega
theorem F.afd {L:List (List UInt8)}:∀ {k:Nat} {rs:List F.Rec},F.sN L k=some rs->∀ r∈rs,r.2.2.2≠[]
 | 0,rs,h=>by cases h;intro r hr;exact absurd hr iH
 | k+1,rs,h=>by
  unfold F.sN at h
  cases hq:F.sN L k with
  | none=>rw [hq] at h;cases h
  | some q =>
   rw [hq] at h;simp only at h;have ih:=F.afd hq
   cases hl:F.Dl (L.getD k []) with
   | none=>rw [hl] at h;cases h
   | some y =>
    rw [hl] at h
    cases y with
    | none=>simp only [iQ] at h;rw [<- h];exact ih
    | some y =>
     obtain⟨a,b,fs⟩:=y;simp only at h
     split at h
     ·cases h
     simp only [iQ] at h;rw [<- h];intro r hr
     rcases lM.1 hr with h1 | h1
     ·exact ih r h1
     rw [fU.1 h1];exact F.anr hl
theorem F.anS {s:List UInt8} {rs:List F.Rec} (h:F.parse s=some rs):∀ r∈rs,r.2.2.2≠[]:=by
 unfold F.parse at h
 split at h
 ·exact F.afd h
 cases h
theorem F.agz {names:List (List UInt8)} {loose:Bool} {rs:List F.Rec} {k:Nat}:∀ {n:Nat} {r:List F.bI},k<=n->F.zH names loose rs n=some r->∃ q,F.zH names loose rs k=some q
 | 0,r,hk,h=>by obtain rfl:k=0:=(by omega);exact⟨r,h⟩
 | n+1,r,hk,h=>by
  rcases gZ k (n+1) with h1 | h1
  ·unfold F.zH at h
   cases hq:F.zH names loose rs n with
   | none=>rw [hq] at h;cases h
   | some q=>exact F.agz (by omega) hq
  obtain rfl:k=n+1:=by omega
  exact⟨r,h⟩
theorem F.ajP {names:List (List UInt8)} {loose:Bool} {rs:List F.Rec} {k:Nat} {x:F.Rec} {q r:List F.bI} (hx:rs[k]?=some x) (hq:F.zH names loose rs k=some q) (hr:F.zH names loose rs (k+1)=some r) :
  (F.valueOf names (x.2.2.2.headD [])=none/\loose=true/\r=q)\/∃ v m,F.valueOf names (x.2.2.2.headD [])=some v/\F.La (q++[(x.2.1,x.2.2.1,(v:Int))])=some m/\r=q++[(x.2.1,x.2.2.1,(v:Int))]:=by
 have hgd:rs.getD k (0,0,0,[])=x:=by rw [fO,hx];rfl
 unfold F.zH at hr;rw [hq,hgd] at hr;simp only at hr
 cases hv:F.valueOf names (x.2.2.2.headD []) with
 | none =>
  rw [hv] at hr;simp only at hr
  split at hr
  ·rename_i h
   cases hr;exact .inl ⟨rfl,h,rfl⟩
  cases hr
 | some v =>
  rw [hv] at hr;simp only at hr
  split at hr
  ·rename_i h
   cases hr;obtain⟨m,hm⟩:=Option.isSome_iff_exists.1 h;exact .inr ⟨v,m,rfl,hm,rfl⟩
  cases hr
theorem F.adt {s:List UInt8} {rs:List F.Rec} (h:F.parse s=some rs):rs.length<=100000:=by
 unfold F.parse at h
 split at h
 ·rename_i hz
  have:∀ {L:List (List UInt8)} {k:Nat} {rs:List F.Rec},F.sN L k=some rs->rs.length<=k:=by
   intro L k
   induction k with
   | zero=>intro rs h;cases h;exact bK _
   | succ k ih =>
    intro rs h;unfold F.sN at h
    cases hq:F.sN L k with
    | none=>rw [hq] at h;cases h
    | some q =>
     rw [hq] at h;simp only at h;have:=ih hq
     split at h
     ·cases h
     ·cases h;omega
     split at h
     ·cases h
     cases h;simp;omega
  have h1:=this h;have h2:=F.Yl 10 s;omega
 cases h
theorem ar9 {w:World} {base n:Nat} {v:Value} {l:List F.bI} (h:w.ownsRow base 245 3 v n (l.flatMap dR)):tH w v n (l.flatMap dR):=by
 rcases h.2 with⟨rfl,h0⟩ | ⟨g,cap,cur,rfl,h2,h3,h4,h5,h6,h7⟩
 ·subst h0;have:=h.1;rw [Nat.zero_mul] at this;exact .inl ⟨rfl,rfl,nR this⟩
 refine .inr ⟨_,_,rfl,λj u hu=>?_⟩
 (try unfold ay at *);rw [show (⟨g,0,none⟩:Addr).add j=⟨g,j,none⟩ by unfold Addr.add;by_cases h0:j=0 <;> simp [h0]]
 have hb:aC w g 245 cur:=h3;rw [hb.cell j];rw [<- h7,wE] at hu
 split at hu
 ·rw [<- Array.getElem?_toList];exact hu
 cases hu
theorem ado (l:List F.bI) (x:F.bI):(l++[x]).flatMap dR=[]++l.flatMap dR++dR x:=by rw [oz,List.flatMap_singleton,iJ]
theorem Y9 (file:List UInt8) (nv:Value) (names:List (List UInt8)) (loose:Bool) (t:List F.bI) (w:World) (hn:cZ w nv names) (hnb:F.zQ names=true) (hok:F.BI file names loose=some t) :
  Calls prog 102 #[.string (bs file),nv, ah 0, .bool loose] w λe w'=>(∃ v',e = .returned (.tuple #[v', ah 0, ah 0])/\jO w' v' t)/\ak w w':=by
 unfold F.BI at hok
 cases hp:F.parse file with
 | none=>rw [hp] at hok;cases hok
 | some rs =>
 rw [hp] at hok;simp only at hok
 cases hr:F.zH names loose rs rs.length with
 | none=>rw [hr] at hok;cases hok
 | some out =>
 rw [hr] at hok;simp only at hok
 cases hs:F.La out with
 | none=>rw [hs] at hok;cases hok
 | some m =>
 rw [hs] at hok;simp only at hok
 split at hok
 rotate_left
 ·cases hok
 rename_i hrb
 simp only [iQ] at hok;obtain⟨N,hN⟩:∃ N,rs.length=N:=⟨_,rfl⟩
 have yS:=bx (show N<=100000 by rw [<- hN];exact F.adt hp);have dH:=bx (F.anS hp);rw [hN] at hr;have ku:=bx (Uf nv names w hn hnb);have xM:=bx (λW=>aby file rs W hp);have HR:=bx hr;have Jj:=bx hs;have HT:=bx hok;have DX:=bx hrb;have HN:=bx hN;have nC:=bx hn;have Vm:=bx (show names.length<=32 by unfold F.zQ at hnb;simp only [dD,fD] at hnb;exact hnb.2);clear hp hr hs hok hrb hN hn hnb
 go_in
 go_wp2_with fail;refine ku.o.mono ?_;rintro e w0 ⟨rfl,nd,rfl⟩;have HB0:=bx (uT w nd);generalize w.drewN nd=w0 at HB0 ⊢;go_wp2_with fail;refine(xM.o _).mono ?_;rintro e w1 ⟨⟨rv,rfl,Lp⟩,hb1⟩;have IX:=bx Lp;have HB1:=aJ HB0 hb1;obtain⟨ra,rc,rfl,YW,apo⟩:=Lp.slice;rw [HN.o] at IX YW ⊢;have bQ:=bx ((Sep.start w1).kV w1.heap.size 3 245);clear Lp hb1;go_wp2_with fail
 go_loopw [15,14] (λi o wr=>∃ (k:Nat) (L:List F.bI) (oo:Option Addr) (oc:Nat),k<=N/\i = ah k/\o = .slice oo L.length oc/\L.length<=k/\Box (F.zH names loose rs k=some L)/\Box (Sep [Pc.row w1.heap.size 245 3 (.slice oo L.length oc) L.length (L.flatMap dR),Pc.old w1.heap.size w1] wr)) (λi _ _=>N-(intOf i).toNat)
 ·exact⟨0,[],none,0,by omega,rfl,rfl,by simp,⟨rfl⟩,bQ⟩
 obtain⟨k,L,oo,oc,hk,rfl,rfl,hLk,hrt,hse⟩:=hrel;have dL:=bx (hse.o.bel (n:=w1.heap.size) (W0:=w1) (by simp));clear bQ
 by_cases hlt:k<N
 ·obtain⟨x,hx⟩:=bV rs k (by have:=HN.o;omega);obtain⟨g,off,cap2,hg1,hg2,hg3,hg4,hg5⟩:=(IX.o.below dL.o).get (by rintro rfl;simp at hx);rw [HN.o] at hg1 hg2;obtain⟨rfl,rfl⟩:=dQ hg1;obtain⟨c0,c1,c2,fv,c3,hfv⟩:=hg5 k x hx;obtain⟨r,hr⟩:=F.agz (k:=k+1) (by omega) HR.o;have iU:=bx hr;have hstep:=F.ajP hx hrt.o hr;obtain⟨f0,ft,hfd⟩:∃ f0 ft,x.2.2.2=f0::ft:=by
   cases hq:x.2.2.2 with
   | nil=>exact absurd hq (dH.o x (dB hx))
   | cons a b=>exact⟨a,b,rfl⟩
  rw [hfd] at hfv hstep;rw [List.headD_cons] at hstep;obtain⟨fg,fo,fc,rfl,hf2,hf3,hf4,hf5⟩:=hfv.get (by simp);have cf:=hf5 0 f0 rfl;rw [Nat.add_zero] at cf;rw [dY] at hf2 c3;obtain⟨lf,hlf⟩:∃ lf,ft.length=lf:=⟨_,rfl⟩
  rw [hlf] at c3 hf2;have asZ:=bx (VZ nv names f0 wr (nC.o.below (bt HB1.o dL.o)) (by have:=Vm.o;omega));have al4:=bx hstep;unfold maxLen at hg3 hf3;clear hx hg1 hg5 hr hstep hfd hfv hf5 hlf;go_wp2_with fail;refine aP asZ.o ?_
  rcases al4.o with⟨hno,hlo,hrq⟩ | ⟨v,m',hyes,hsm,hrq⟩
  ·rw [hno];unfold OO;have lU:=bx (show F.zH names loose rs (k+1)=some L by rw [iU.o,hrq]);obtain rfl:=hlo;clear hno hrq
   go_wp2
   go_roundw
   ·exact⟨k+1,L,oo,oc,hlt,by go_num,rfl,by omega,lU,hse⟩
   simp [intOf];omega
  rw [hyes];unfold OO;have lU:=bx (show F.zH names loose rs (k+1)=some (L++[(x.2.1,x.2.2.1,(v:Int))]) by rw [iU.o,hrq]);have nG:=bx (λvv W (h:jO W vv (L++[(x.2.1,x.2.2.1,(v:Int))]))=>acI vv _ m' W h hsm);clear hyes hrq hsm cf c3 c0;obtain⟨xn,xa,xb,xf⟩:=x;simp only at c1 c2 lU nG;go_wp2_with fail;have gK:=bx (show wr.drew.cell? ⟨g,off+k*4+1,none⟩=some (ah xa)/\wr.drew.cell? ⟨g,off+k*4+2,none⟩=some (ah xb) from⟨c1,c2⟩);refine jl 13 (λW=>ay W g (off+k*4+1)=some (ah xa)/\ay W g (off+k*4+2)=some (ah xb)) (by kernel_rfl) ?_;refine jB [0,1,2,3,4,5,6,7,8,9,10,11] ?_
  iterate 12 (refine jA ?_ rfl gK.o ?_ ?_;rotate_left;·rintro w ⟨q1,q2⟩;go_simp;try with_reducible rfl)
  refine jr ?_;have dP:=bx (hse.o.drew);have Oj:=bx (show g<wr.drew.heap.size from hg4);generalize wr.drew=WD at gK dP Oj ⊢;have uH:=bx (dP.o.eu 245 #[ah 0, ah 0, ah 0]);refine kP 12 rfl λKK au=>?_
  go_simp;refine au.out _ _ (λ_=>⟨(World.cell?_alloc_lt _ _ ⟨g,off+k*4+1,none⟩ Oj.o).trans gK.o.1,(World.cell?_alloc_lt _ _ ⟨g,off+k*4+2,none⟩ Oj.o).trans gK.o.2⟩) ?_;clear au KK;refine kP 13 rfl λKK au=>?_
  go_simp;have wK:=bx (dP.o.eu 245 #[ah xa, ah xb, ah v]);refine au.out _ _ (λh=>by cases h) ?_;clear au KK;refine kD ?_ _;clear gK dP uH Oj;generalize WD.heap.size=Q at wK ⊢;generalize WD.alloc (.cells #[ah xa, ah xb, ah v] 245)=WX at wK ⊢;go_wp2_with fail;refine jl 12 (λW=>ay W Q 0=some (ah xa)/\ay W Q 1=some (ah xb)/\ay W Q 2=some (ah v)) (by kernel_rfl) ?_;have jo:=bx (wK.o.drew);generalize WX.drew=WY at jo ⊢;have dn:=bx (jo.o.blk 0 rfl);have Aw:=bx (show WY.cell? ⟨Q,0,none⟩=some (ah xa)/\WY.cell? ⟨Q,1,none⟩=some (ah xb)/\WY.cell? ⟨Q,2,none⟩=some (ah v) from⟨(dn.o.cell 0).trans rfl,(dn.o.cell 1).trans rfl,(dn.o.cell 2).trans rfl⟩);have fQ:=bx (show ∀ W,ak WY W->ay W Q 0=some (ah xa)/\ay W Q 1=some (ah xb)/\ay W Q 2=some (ah v) from λW h=>⟨(h.cell (p:=⟨Q,0,none⟩) dn.o.lt).trans Aw.o.1,(h.cell (p:=⟨Q,1,none⟩) dn.o.lt).trans Aw.o.2.1,(h.cell (p:=⟨Q,2,none⟩) dn.o.lt).trans Aw.o.2.2⟩);have oD:=bx (λW (h:ak WY W)=>ar9 ((jo.o.below h).row 1 rfl));have bQ:=bx ((Sep.start WY).kV WY.heap.size 3 245);refine kS 0 ?_ rfl Aw.o ?_ ?_;rotate_left
  ·rintro w ⟨q1,q2,q3⟩;go_simp;try with_reducible rfl
  refine kS 2 ?_ rfl Aw.o ?_ ?_;rotate_left
  ·rintro w ⟨q1,q2,q3⟩;go_simp;try with_reducible rfl
  refine Qg (rs:=[1,3]) (by kernel_rfl) (by simp) (rD.cons rfl (λKK au=>?_) (rD.cons rfl (λKK au=>?_) rD.nil))
  ·refine uq rfl _ _ 164 rfl qx (by decide) bQ.o 0 rfl (by kernel_rfl) (by kernel_rfl) (m:=L.length) (cs:=L.flatMap dR) (oD.o _ aZ) (zG L) DV (by have:=yS.o;omega) (by omega) aU ?_;rintro v4 w4 hS4;have dJ:=bx hS4;have HB4:=bx (dJ.o.bel (n:=WY.heap.size) (W0:=WY) (by simp));clear hS4;refine au.out _ _ (λ_=>fQ.o _ HB4.o) ?_;clear au KK;refine kP 3 rfl λKK au=>?_
   go_simp;have bG:=bx (dJ.o.eu 245 #[ah xa, ah xb, ah v]);have bU:=bx (bG.o.bel (n:=WY.heap.size) (W0:=WY) (by simp));refine au.out _ _ (λ_=>fQ.o _ bU.o) ?_;clear au KK;refine kP 4 rfl λKK au=>?_
   refine uq rfl _ _ 164 rfl qx (by decide) bG.o 1 rfl (by kernel_rfl) (by kernel_rfl) (m:=1) (cs:=dR (xa,xb,v)) (MC (bG.o.blk 0 rfl)) rfl (by intro u hu;simp only [dR,fB,iH,or_false] at hu;rcases hu with rfl | rfl | rfl <;> rfl) (by have:=yS.o;omega) (by omega) bU.o.size ?_;rintro v7 w7 hS7;have cO:=bx hS7;have bW:=bx (cO.o.bel (n:=WY.heap.size) (W0:=WY) (by simp));clear hS7;refine au.out _ _ (λ_=>fQ.o _ bW.o) ?_;clear au KK;have MR:=bx (jO.iy (by rw [ado];exact cO.o.row 1 rfl) (by simp));refine kP 5 rfl λKK au=>?_
   go_simp;go_wp2_with (go_at_call 178;refine(nG.o _ _ MR.o).mono ?_;rintro e w8 ⟨⟨v8,rfl,-⟩,hb8⟩)
   have eU:=aJ bW hb8;clear hb8;refine au.out _ _ (λ_=>fQ.o _ eU.o) ?_;clear au KK;refine kP 6 rfl λKK au=>?_
   go_simp;refine au.out _ _ (λ_=>fQ.o _ eU.o) ?_;clear au KK;refine kS 7 ?_ rfl (fQ.o _ eU.o) ?_ ?_;rotate_left
   ·rintro w ⟨q1,q2,q3⟩;go_simp;try with_reducible rfl
   refine kS 8 ?_ rfl (fQ.o _ eU.o) ?_ ?_;rotate_left
   ·rintro w ⟨q1,q2,q3⟩;go_simp;try with_reducible rfl
   refine kS 9 ?_ rfl (fQ.o _ eU.o) ?_ ?_;rotate_left
   ·rintro w ⟨q1,q2,q3⟩;go_simp;try with_reducible rfl
   refine kP 10 rfl λKK au=>?_
   go_simp;refine au.out _ _ (λ_=>fQ.o _ eU.o) ?_;clear au KK;refine kP 11 rfl λKK au=>?_
   go_simp;refine au.out _ _ (λ_=>fQ.o _ eU.o) ?_;clear au KK;refine kP 12 rfl λKK au=>?_
   go_simp;refine au.out _ _ (λ_=>fQ.o _ eU.o) ?_;clear au KK;refine kD ?_ _;have dU:=bx (jo.o.below eU.o);obtain⟨z0,z1,z2⟩:=fQ.o _ eU.o;have X9:=fC dn.o.lt eU.o.size;have hwz:=bP (jo.o.bel (n:=w1.heap.size) (W0:=w1) (by simp)).size eU.o.size;clear dn Aw fQ oD bQ dJ bG cO MR;go_wp2_with (at_builtin;refine Bh (cs:=dR (xa,xb,v)) rfl _ _ 164 rfl qx (by decide) dU.o 1 rfl rfl rfl rfl (by intro u hu;simp only [dR,fB,iH,or_false] at hu;rcases hu with rfl | rfl | rfl <;> rfl) (by have:=yS.o;omega) (by omega) hwz ?_;rintro v9 w9 mF ⟨go',gc',rfl,-,-⟩)
   have gV:=bx (show Sep [Pc.row w1.heap.size 245 3 (.slice (some ⟨go',0,none⟩) (L++[(xa,xb,(v:Int))]).length gc') (L++[(xa,xb,(v:Int))]).length ((L++[(xa,xb,(v:Int))]).flatMap dR),Pc.old w1.heap.size w1] w9 by
    rw [bC,oz,List.flatMap_singleton];exact mF.tail)
   clear mF z0 z1 z2
   go_wp2
   go_roundw
   ·exact⟨k+1,L++[(xa,xb,(v:Int))],some ⟨go',0,none⟩,gc',hlt,by go_num,by rw [bC];rfl,by rw [bC];simp;omega,lU,gV⟩
   simp [intOf];omega
  go_simp;have aS:=bx (bQ.o.eu 245 #[ah xa, ah xb, ah v]);have HB3:=bx (aS.o.bel (n:=WY.heap.size) (W0:=WY) (by simp));refine au.out _ _ (λ_=>fQ.o _ HB3.o) ?_;clear au KK;refine kP 1 rfl λKK au=>?_
  refine uq rfl _ _ 164 rfl qx (by decide) aS.o 1 rfl (by kernel_rfl) (by kernel_rfl) (m:=L.length) (cs:=L.flatMap dR) (oD.o _ HB3.o) (zG L) DV (by have:=yS.o;omega) (by omega) HB3.o.size ?_;rintro v5 w5 hS5;have bG:=bx hS5;have bU:=bx (bG.o.bel (n:=WY.heap.size) (W0:=WY) (by simp));clear hS5;refine au.out _ _ (λ_=>fQ.o _ bU.o) ?_;clear au KK;have dJ:=aS;refine kP 4 rfl λKK au=>?_
  refine uq rfl _ _ 164 rfl qx (by decide) bG.o 1 rfl (by kernel_rfl) (by kernel_rfl) (m:=1) (cs:=dR (xa,xb,v)) (MC (bG.o.blk 0 rfl)) rfl (by intro u hu;simp only [dR,fB,iH,or_false] at hu;rcases hu with rfl | rfl | rfl <;> rfl) (by have:=yS.o;omega) (by omega) bU.o.size ?_;rintro v7 w7 hS7;have cO:=bx hS7;have bW:=bx (cO.o.bel (n:=WY.heap.size) (W0:=WY) (by simp));clear hS7;refine au.out _ _ (λ_=>fQ.o _ bW.o) ?_;clear au KK;have MR:=bx (jO.iy (by rw [ado];exact cO.o.row 1 rfl) (by simp));refine kP 5 rfl λKK au=>?_
  go_simp;go_wp2_with (go_at_call 178;refine(nG.o _ _ MR.o).mono ?_;rintro e w8 ⟨⟨v8,rfl,-⟩,hb8⟩)
  have eU:=aJ bW hb8;clear hb8;refine au.out _ _ (λ_=>fQ.o _ eU.o) ?_;clear au KK;refine kP 6 rfl λKK au=>?_
  go_simp;refine au.out _ _ (λ_=>fQ.o _ eU.o) ?_;clear au KK;refine kS 7 ?_ rfl (fQ.o _ eU.o) ?_ ?_;rotate_left
  ·rintro w ⟨q1,q2,q3⟩;go_simp;try with_reducible rfl
  refine kS 8 ?_ rfl (fQ.o _ eU.o) ?_ ?_;rotate_left
  ·rintro w ⟨q1,q2,q3⟩;go_simp;try with_reducible rfl
  refine kS 9 ?_ rfl (fQ.o _ eU.o) ?_ ?_;rotate_left
  ·rintro w ⟨q1,q2,q3⟩;go_simp;try with_reducible rfl
  refine kP 10 rfl λKK au=>?_
  go_simp;refine au.out _ _ (λ_=>fQ.o _ eU.o) ?_;clear au KK;refine kP 11 rfl λKK au=>?_
  go_simp;refine au.out _ _ (λ_=>fQ.o _ eU.o) ?_;clear au KK;refine kP 12 rfl λKK au=>?_
  go_simp;refine au.out _ _ (λ_=>fQ.o _ eU.o) ?_;clear au KK;refine kD ?_ _;have dU:=bx (jo.o.below eU.o);obtain⟨z0,z1,z2⟩:=fQ.o _ eU.o;have X9:=fC dn.o.lt eU.o.size;have hwz:=bP (jo.o.bel (n:=w1.heap.size) (W0:=w1) (by simp)).size eU.o.size;clear dn Aw fQ oD bQ dJ bG cO MR;go_wp2_with (at_builtin;refine Bh (cs:=dR (xa,xb,v)) rfl _ _ 164 rfl qx (by decide) dU.o 1 rfl rfl rfl rfl (by intro u hu;simp only [dR,fB,iH,or_false] at hu;rcases hu with rfl | rfl | rfl <;> rfl) (by have:=yS.o;omega) (by omega) hwz ?_;rintro v9 w9 mF ⟨go',gc',rfl,-,-⟩)
  have gV:=bx (show Sep [Pc.row w1.heap.size 245 3 (.slice (some ⟨go',0,none⟩) (L++[(xa,xb,(v:Int))]).length gc') (L++[(xa,xb,(v:Int))]).length ((L++[(xa,xb,(v:Int))]).flatMap dR),Pc.old w1.heap.size w1] w9 by
   rw [bC,oz,List.flatMap_singleton];exact mF.tail)
  clear mF z0 z1 z2
  go_wp2
  go_roundw
  ·exact⟨k+1,L++[(xa,xb,(v:Int))],some ⟨go',0,none⟩,gc',hlt,by go_num,by rw [bC];rfl,by rw [bC];simp;omega,lU,gV⟩
  simp [intOf];omega
 obtain rfl:k=N:=by omega
 have um:=bx (show L=out by have:=hrt.o.symm.trans HR.o;simpa using this);have HRO:=bx (jO.iy (hse.o.row 0 rfl) rfl);have avj:=bx (acI _ _ m wr HRO.o (by rw [um.o];exact Jj.o));have lK:=bx (bt HB1.o dL.o);go_wp2_with fail;refine avj.o.mono ?_;rintro e w2 ⟨⟨v2,rfl,hv2⟩,hb2⟩;have iV:=bx hv2;have HB2:=aJ lK hb2;have wU:=bx (ami v2 m w2 hv2 DX.o);clear hv2 hb2;go_wp2_with fail;refine wU.o.mono ?_;rintro e w3 ⟨⟨v3,rfl,hv3⟩,hb3⟩;have sV:=bx hv3;have HB3:=aJ HB2 hb3;clear hv3 hb3;go_wp2_with fail
 go_ret3
 exact⟨⟨_,rfl,HT.o▸sV.o⟩,HB3.o⟩
def oH (f:Nat->Int):Array Value:=((List.range 256).map λj=>Value.int .i64 (f j)).toArray
theorem agm (f:Nat->Int) (j:Nat) (h:j<256):(oH f)[j]?=some (ah (f j)):=by
 unfold oH;rw [List.getElem?_toArray,eX,yj h]
 rfl
theorem Yp {f g:Nat->Int} (h:∀ j,j<256->f j=g j):oH f=oH g:=by
 unfold oH
 congr 1
 exact List.map_congr_left λj hj=>by rw [h j (oM.1 hj)]
theorem arf (f:Nat->Int) (i:Nat) (v:Int):(oH f).setIfInBounds i (ah v)=oH λj=>if j=i then v else f j:=by
 unfold oH
 apply Array.ext'
 rw [Array.toList_setIfInBounds]
 apply List.ext_getElem?
 intro j;rw [List.getElem?_set,eX,eX,aV,wF]
 by_cases hj:j<256
 ·rw [yj hj]
  by_cases e:i=j
  ·subst e;simp [hj]
  rw [aF e];simp [Ne.symm e]
 rw [List.getElem?_eq_none (by simpa using hj)]
 by_cases e:i=j
 ·subst e;simp [hj]
 rw [aF e]
 rfl
theorem auG (w:World):(Instr.makeSlice 22 (ah 256) (ah 256)).run prog w = .ok (.slice (some ⟨w.heap.size,0,none⟩) 256 256) (w.alloc (.cells (oH λ_=>0) 3)):=by
 have hi:(prog.info? 3).map (λi=>(i.zero,i.size,i.bytes))=some (some (ah 0),1,8):=by kernel_rfl
 obtain⟨z,hz,hz2⟩:=rC.1 hi;simp only [Prod.mk.injEq] at hz2;have hz:=And.intro hz hz2;have:=run_makeSlice (P:=prog) (w:=w) 22 3 z (ah 0) underlying22 hz.1 hz.2.1 .i64 .i64 256 256 (by omega) (by omega) (by rw [hz.2.2.1];simp) (by rw [hz.2.2.2];omega) (by omega);have e:madeCells (Value.int .i64 0).cells ((256:Int).toNat*z.size)=oH λ_=>0:=by
  rw [hz.2.2.1];unfold oH
  apply Array.ext'
  rw [show (256:Int).toNat*1=256 from rfl];have:=toList_madeCells_one (Value.int .i64 0) 256;rw [show (Value.int .i64 0).cells=#[Value.int .i64 0] from rfl] at *;rw [this]
  apply List.ext_getElem?
  intro j;rw [eX,List.getElem?_replicate]
  by_cases hj:j<256
  ·rw [yj hj,aG hj];rfl
  rw [List.getElem?_eq_none (by simpa using hj),aF hj];rfl
 rw [this,e]
 rfl
theorem auZ {w:World} {g:Nat} {f:Nat->Int} (h:aC w g 3 (oH f)):aN w (.slice (some ⟨g,0,none⟩) 256 256) ((List.range 256).map f):=by
 refine .inr ⟨g,0,none,256,by rw [aV,wF],by rw [aV,wF];exact bK _,by unfold maxLen;omega,λ_=>⟨rfl,h.lt,λi x hx=>?_⟩⟩;have hi:i<256:=by
  have:=(dO hx).1
  rwa [aV,wF] at this
 rw [eX,yj hi] at hx
 cases hx;rw [Nat.zero_add,h.cell i];exact agm f i hi
theorem F.aqE (l:List F.bI) (x:F.bI) (y:Int):F.tJ (l++[x]) y=if x.1<=y/\y<=x.2.1 then x.2.2 else F.tJ l y:=by
 unfold F.tJ;rw [List.reverse_append,List.reverse_singleton,List.singleton_append,List.find?_cons]
 by_cases h:x.1<=y/\y<=x.2.1
 ·rw [aG h,show (decide (x.1<=y)&&decide (y<=x.2.1))=true by rw [bD h.1,bD h.2];rfl]
 rw [aF h,show (decide (x.1<=y)&&decide (y<=x.2.1))=false by
  rw [Ub,yX,yX]
  by_cases h1:x.1<=y
  ·exact .inr λh2=>h ⟨h1,h2⟩
  exact .inl h1]
def DU (l:List F.bI) (row i:Nat) (x:F.bI) (lo r:Int) (j:Nat):Int :=
 if lo<=((row*256+j:Nat):Int)/\((row*256+j:Nat):Int)<r then x.2.2 else F.tJ (l.take i) ((row*256+j:Nat):Int)
theorem al3 (l:List F.bI) (row i:Nat) (x:F.bI) (lo:Int):oH (DU l row i x lo lo)=oH (λj=>F.tJ (l.take i) ((row*256+j:Nat):Int)) :=
 Yp λj _=>by unfold DU;rw [aF (by omega)]
theorem amU (l:List F.bI) (row i:Nat) (x:F.bI) (lo r:Int) (hlo:lo<=r) (h0:((row*256:Nat):Int)<=lo):(oH (DU l row i x lo r)).setIfInBounds (r-((row*256:Nat):Int)).toNat (ah x.2.2)=oH (DU l row i x lo (r+1)):=by
 rw [arf];refine Yp λj _=>?_
 unfold DU
 by_cases e:j=(r-((row*256:Nat):Int)).toNat
 ·rw [aG e,aG (by omega)]
 rw [aF e]
 by_cases h:lo<=((row*256+j:Nat):Int)/\((row*256+j:Nat):Int)<r
 ·rw [aG h,aG (by omega)]
 rw [aF h,aF (by omega)]
theorem an6 {l:List F.bI} {row i:Nat} {x:F.bI} {lo mn r:Int} (hx:l[i]?=some x) (hlo:lo=max ((row*256:Nat):Int) x.1) (hmn:mn=min (((row*256:Nat):Int)+255) x.2.1) (h1:r<=max lo (mn+1)) (h2:mn<r):oH (DU l row i x lo r)=oH (λj=>F.tJ (l.take (i+1)) ((row*256+j:Nat):Int)) :=
 Yp λj hj=>by
  rw [jw,hx,Option.toList_some,F.aqE];unfold DU
  by_cases h:x.1<=((row*256+j:Nat):Int)/\((row*256+j:Nat):Int)<=x.2.1
  ·rw [aG h,aG (by omega)]
  rw [aF h,aF (by omega)]
theorem axH (v:Value) (l:List F.bI) (row:Nat) (w:World) (hv:jO w v l) (hl:∀ x∈l,F.Gn x=true) (hr:row<4352) :
  Calls prog 190 #[v, ah (row:Int)] w λe w'=>(∃ v',e = .returned v'/\aN w' v' (F.qU l row)/\∀ g,v'.ownBlock=some g->w.heap.size<=g/\g<w'.heap.size)/\ak w w':=by
 have HL:=bx hl;have HV:=bx hv;obtain⟨a,cap,rfl,hc1,hc2⟩:=hv.slice;obtain⟨N,hN⟩:∃ N,l.length=N:=⟨_,rfl⟩
 have HN:=bx hN;rw [hN] at HV hc1 ⊢;have hm:=auG w;obtain⟨V,hV⟩:∃ V,V=w.alloc (.cells (oH λ_=>0) 3):=⟨_,rfl⟩
 rw [<- hV] at hm;have HB0:=bx (show Below w.heap.size w V by rw [hV];exact(Below.refl _ _).alloc aU _);have YF:=bx (aK hV);clear hv hN hl hV
 go_in
 go_wp2_with fail
 go_loopw [7] (λi wr=>∃ k:Nat,k<=N/\i = ah k/\Box (aC wr w.heap.size 3 (oH λj=>F.tJ (l.take k) ((row*256+j:Nat):Int)))/\Box (ak w wr)) (λi _=>N-(intOf i).toNat)
 ·exact⟨0,by omega,rfl,YF,HB0⟩
 obtain⟨k,hk,rfl,hbk,hb⟩:=hrel
 by_cases hlt:k<N
 ·obtain⟨x,hx⟩:=bV l k (by rw [HN.o];exact hlt);have hrb:=HL.o x (dB hx);unfold F.Gn at hrb;simp only [dD,fD] at hrb;obtain⟨⟨⟨⟨b1,b2⟩,b3⟩,b4⟩,b5⟩:=hrb;obtain⟨g,off,cap2,hg1,hg2,hg3,hg4,hg5⟩:=HV.o.get (by rintro rfl;simp at hx);rw [HN.o] at hg1;obtain⟨rfl,rfl⟩:=dQ hg1;have HC:=bx (λW (h:ak w W)=>show ay W g (off+k*3)=some (ah x.1)/\ay W g (off+k*3+1)=some (ah x.2.1)/\ay W g (off+k*3+2)=some (ah x.2.2) from⟨(h.cell (p:=⟨g,off+k*3,none⟩) hg4).trans (hg5 k x hx).1,(h.cell (p:=⟨g,off+k*3+1,none⟩) hg4).trans (hg5 k x hx).2.1,(h.cell (p:=⟨g,off+k*3+2,none⟩) hg4).trans (hg5 k x hx).2.2⟩);obtain⟨x0,x1,x2⟩:=HC.o _ hb.o;unfold maxLen at hg3;have HX:=bx hx;clear hx hg1 hg2 hg5;go_wp2_with fail;obtain⟨lo,hlo⟩:∃ lo:Int,max ((row:Int)*256) x.1=lo:=⟨_,rfl⟩
  obtain⟨mn,hmn⟩:∃ mn:Int,min ((row:Int)*256+256-1) x.2.1=mn:=⟨_,rfl⟩
  rw [hlo];have um:=bx hlo;have Xc:=bx hmn;have b0:(row:Int)*256<=lo:=by omega
  have bm:mn<=(row:Int)*256+255:=by omega
  have bQ:=bx (show aC wr w.heap.size 3 (oH (DU l row k x lo lo)) by rw [al3];exact hbk.o)
  go_loopw [8] (λi wx=>∃ r:Int,lo<=r/\r<=max lo (mn+1)/\i = ah r/\Box (aC wx w.heap.size 3 (oH (DU l row k x lo r)))/\Box (ak w wx)) (λi _=>(mn+1-intOf i).toNat)
  ·exact⟨lo,by omega,by omega,rfl,bQ,hb⟩
  obtain⟨r,hr1,hr2,rfl,hbx,hbb⟩:=hrel;obtain⟨y0,y1,y2⟩:=HC.o _ hbb.o;clear hlo
  by_cases hle:r<=mn
  ·have e1:decide (r<=min ((row:Int)*256+256-1) x.2.1)=true:=bD (by rw [hmn];exact hle);have l1:r<=(row:Int)*256+256-1:=by omega
   have l2:r<=x.2.1:=by omega
   have l3:0<=r-(row:Int)*256:=by omega
   have l4:r-(row:Int)*256<256:=by omega
   have hck:=(hbx.o.cell (r-(row:Int)*256).toNat).trans (agm _ (r-(row:Int)*256).toNat (by omega));have hfk:=hbx.o.frozen (r-(row:Int)*256).toNat
   have hlk:=hbx.o.lt;have AP:=bx (show aC (wr.setCell ⟨w.heap.size,(r-(row:Int)*256).toNat,none⟩ (ah x.2.2)) w.heap.size 3 (oH (DU l row k x lo (r+1))) by
    have h9:=hbx.o.bJ (r-(row:Int)*256).toNat (ah x.2.2)
    have h8:=amU l row k x lo r hr1 (by omega);rw [show ((row*256:Nat):Int)=(row:Int)*256 by omega] at h8;rw [h8] at h9;exact h9)
   have FH:=bx (hbb.o.setCell (p:=⟨w.heap.size,(r-(row:Int)*256).toNat,none⟩) aU (ah x.2.2));have zo:=bx hle;clear hmn hle
   go_wp2
   go_roundw
   ·exact⟨r+1,by omega,by have:=zo.o;omega,by go_num,AP,FH⟩
   have:=zo.o;simp [intOf];omega
  have e1:decide (r<=min ((row:Int)*256+256-1) x.2.1)=false:=dh (by rw [hmn];exact hle);have Jk:=bx (show aC wr w.heap.size 3 (oH λj=>F.tJ (l.take (k+1)) ((row*256+j:Nat):Int)) by
   rw [<- an6 (row:=row) (lo:=lo) (mn:=mn) HX.o (by rw [<- um.o];simp) (by rw [<- Xc.o];congr 1;omega) hr2 (by omega)];exact hbx.o)
  clear hmn hle
  go_wp2
  go_roundw
  ·exact⟨k+1,hlt,by go_num,Jk,hbb⟩
  simp [intOf];omega
 obtain rfl:k=N:=by omega
 have HO:=bx (show aN wr (.slice (some ⟨w.heap.size,0,none⟩) 256 256) (F.qU l row) by
  have h9:=auZ hbk.o;rw [<- HN.o,mQ] at h9;exact h9)
 go_wp2
 go_ret
 exact⟨⟨_,rfl,HO.o,λg hg=>by simp [Value.ownBlock] at hg;have:=hbk.o.lt;omega⟩,hb.o⟩
theorem WM {W W':World} {v:Value} {xs:List Int} (h:aN W v xs) (hs:W.heap.size<=W'.heap.size) (hg:∀ g,v.ownBlock=some g->W'.heap[g]?=W.heap[g]?):aN W' v xs:=by
 rcases h with h | ⟨b,off,sp,cap,h1,h2,h3,h4⟩
 ·exact .inl h
 refine .inr ⟨b,off,sp,cap,h1,h2,h3,λhn=>?_⟩;obtain⟨k1,k2,k3⟩:=h4 hn;have hb:=hg b (by rw [h1];rfl);exact⟨k1,fC k2 hs,λi x hx=>(World.cell?_of_block hb).trans (k3 i x hx)⟩
def qO:GU (Value×List Int) where
 at' W y:=aN W y.1 y.2/\∀ g,y.1.ownBlock=some g->g<W.heap.size
 val y:=y.1
 same:=λ{_ _ _} h hs hg=>⟨WM h.1 hs hg,λg hg'=>fC (h.2 g hg') hs⟩
 lt:=λ{_ _ _} h hg=>h.2 _ hg
theorem MW {w:World} {v:Value} {xs:List Int} (h:aN w v xs):tH w v xs.length (xs.map (Value.int .i64)):=by
 rcases h with⟨rfl,rfl⟩ | ⟨b,off,sp,cap,rfl,h2,h3,h4⟩
 ·exact .inl ⟨rfl,rfl,rfl⟩
 refine .inr ⟨_,_,rfl,λj u hu=>?_⟩;have hne:xs≠[]:=by rintro rfl;simp at hu
 obtain⟨rfl,k2,k3⟩:=h4 hne;rw [eX] at hu;obtain⟨z,hz,rfl⟩:=rC.1 hu
 (try unfold ay at *);rw [show (⟨b,off,none⟩:Addr).add j=⟨b,off+j,none⟩ by unfold Addr.add;by_cases h0:j=0 <;> simp [h0]]
 exact k3 j z hz
abbrev Cb (n:Nat) (W0:World) (ps:List Pc) (iv bv:Value) (xs:List Int) (L:List (Value×List Int)):List Pc :=
 Pc.row n 3 1 iv xs.length (xs.map (Value.int .i64))::Pc.row n 22 1 bv L.length (L.map (·.1))::Pc.jQ qO L::Pc.old n W0::ps
theorem F.aqB {xs:List Int} {bs:List (List Int)} {b:List Int} {k:Nat} (hk:bs[k]?=some b) (h:∀ (j:Nat) (y:List Int),j<k->bs[j]?=some y->y≠b):F.xu (xs,bs) b=(xs++[(k:Int)],bs):=by
 unfold F.xu;have:bs.findIdx? (·==b)=some k:=by
  obtain⟨hkl,he⟩:=dO hk;rw [List.findIdx?_eq_some_iff_getElem];refine⟨hkl,by simp [he],λj hj=>?_⟩;have:=h j bs[j] hj (dW (by omega))
  simpa using this
 simp only [this]
theorem F.aue {xs:List Int} {bs:List (List Int)} {b:List Int} (h:∀ (j:Nat) (y:List Int),bs[j]?=some y->y≠b):F.xu (xs,bs) b=(xs++[(bs.length:Int)],bs++[b]):=by
 unfold F.xu;have:bs.findIdx? (·==b)=none:=by
  rw [List.findIdx?_eq_none_iff];intro y hy;obtain⟨i,hi,e⟩:=List.getElem_of_mem hy;have:=h i y (by rw [dW hi,e])
  simpa using this
 simp only [this]
theorem TL:(prog.info? 25).map (·.size)=some 2:=by kernel_rfl
theorem ajG (n:Nat) (W0:World) (ps:List Pc) (iv bv b:Value) (xs:List Int) (L:List (Value×List Int)) (bl:List Int) (w:World) (hS:Sep (Pc.jQ qO [(b,bl)]::Cb n W0 ps iv bv xs L) w) (h256:bl.length=256) (hx:xs.length<=10000) (hL:L.length<=10000) (hall:∀ y∈L,y.2.length=256) :
  Calls prog 189 #[.agg #[iv,bv],b] w λe w'=>∃ uG vJ L',e = .returned (.agg #[uG,vJ])/\Sep (Cb n W0 ps uG vJ (F.xu (xs,L.map (·.2)) bl).1 L') w'/\L'.map (·.2)=(F.xu (xs,L.map (·.2)) bl).2:=by
 obtain⟨ia,ic,rfl,hi1,hi2⟩:=gI (hS.row 1 rfl);obtain⟨ba,bc,rfl,hb1,hb2⟩:=gI (hS.row 2 rfl);have hb:=((hS.at' 0 (p:=Pc.jQ qO [(b,bl)]) rfl) (b,bl) (by simp)).1;simp only at hb;obtain⟨sa,sc,rfl⟩:=hb.slice;rw [h256] at hS ⊢;obtain⟨V,hV⟩:∃ V,V=(w.alloc (.cells #[.slice ia xs.length ic, .slice ba L.length bc] 25)).alloc (.cells #[aj, aj] 25):=⟨_,rfl⟩
 have h1:=hS.eu 25 #[.slice ia xs.length ic, .slice ba L.length bc];have h2:=h1.eu 25 #[aj, aj];have hsz:(w.alloc (.cells #[.slice ia xs.length ic, .slice ba L.length bc] 25)).heap.size=w.heap.size+1:=by simp
 rw [hsz,<- hV] at h2;have xJ:=bx h2;have HV:=bx hV;have Di:=bx h256;have qK:=bx hall;have HN:=bx (show n<=w.heap.size from(hS.at' 4 (p:=Pc.old n W0) rfl).1);clear hS hb hV h1 h2 hsz h256 hall
 go_in
 go_upto_region 1 with(fail)
 rw [<- HV.o];obtain⟨Q,hQ⟩:∃ Q,w.heap.size=Q:=⟨_,rfl⟩
 rw [hQ] at xJ HN ⊢;clear hQ HV;go_wp2_with fail
 go_loopw [5] (λi wr=>∃ k:Nat,k<=L.length/\i = ah k/\Box (∀ (j:Nat) (y:List Int),j<k->(L.map (·.2))[j]?=some y->y≠bl)/\Box (ak V wr)) (λi _=>L.length-(intOf i).toNat)
 ·exact⟨0,by omega,rfl,⟨λj y h=>by omega⟩,⟨Below.refl _ _⟩⟩
 obtain⟨k,hk,rfl,hno,hb⟩:=hrel;have vG:=bx (xJ.o.below hb.o);have hq:=vG.o.blk 1 rfl;have hr:=vG.o.blk 0 rfl;have c0:wr.cell? ⟨Q,0,none⟩=some (.slice ia xs.length ic):=(hq.cell 0).trans rfl;have c1:wr.cell? ⟨Q,1,none⟩=some (.slice ba L.length bc):=(hq.cell 1).trans rfl;have f0:=hq.frozen 0;have f1:=hq.frozen 1;have ql:=hq.lt;have bM:=bx ((vG.o.at' 2 (p:=Pc.jQ qO [(.slice sa 256 sc,bl)]) rfl) (.slice sa 256 sc,bl) (by simp)).1;simp only at bM;clear hq hr
 by_cases hlt:k<L.length
 ·obtain⟨y,hy⟩:=bV L k hlt;obtain⟨g,cap',cur,e1,s1,s2,s3,hbk,hcur⟩:=Sv (vG.o.row 4 rfl) (by omega);obtain⟨rfl,rfl⟩:ba=some ⟨g,0,none⟩/\bc=cap':=by injection e1 with e1 e2 e3;exact⟨e1,e3⟩
  have hck:=(hbk.cell k).trans (hcur k y.1 (by rw [eX,hy];rfl));have hyl:=hbk.lt;have hyi:=(vG.o.at' 5 (p:=Pc.jQ qO L) rfl) y (dB hy);have h256:=qK.o y (dB hy);have yL:=bx (anK y.1 (.slice sa 256 sc) y.2 bl wr hyi.1 bM.o (by omega) (by have:=Di.o;omega));have HYK:=bx (show (L.map (·.2))[k]?=some y.2 by rw [eX,hy];rfl);clear hy hbk hcur e1 hyi
  by_cases heq:y.2=bl
  ·have yt:=bx (F.aqB (xs:=xs) (by rw [HYK.o,heq]) hno.o);rw [bD heq] at yL;clear heq;go_wp2_with fail;refine aT yL.o λw2 hb2=>?_
   have HS2:=bx (vG.o.below hb2);have hq2:=HS2.o.blk 1 rfl;have d0:w2.cell? ⟨Q,0,none⟩=some (.slice ia xs.length ic):=(hq2.cell 0).trans rfl;have d1:w2.cell? ⟨Q,1,none⟩=some (.slice (some ⟨g,0,none⟩) L.length bc):=(hq2.cell 1).trans rfl;have e0:=hq2.frozen 0;have el:=hq2.lt;have hbs:n<=w2.heap.size:=by have:=HN.o;omega
   clear c0 c1 f0 f1 ql hck hyl hb2 hq2;go_wp2_with (at_builtin;refine vM (u:=ah (k:Int)) rfl _ _ 22 rfl yO HS2.o 3 rfl rfl rfl rfl (by omega) (by omega) hbs ?_;rintro v' w4 hS4 ⟨go',gc',rfl,-,-⟩;have dJ:=bx hS4;have hq4:=dJ.o.blk 1 rfl;have d0:w4.cell? ⟨Q,0,none⟩=some (.slice ia xs.length ic):=(hq4.cell 0).trans rfl;have d1:w4.cell? ⟨Q,1,none⟩=some (.slice (some ⟨g,0,none⟩) L.length bc):=(hq4.cell 1).trans rfl;have e0:=hq4.frozen 0;have e1:=hq4.frozen 1;have el:=hq4.lt;have hr4:=dJ.o.blk 0 rfl;have r0:w4.cell? ⟨Q+1,0,none⟩=some (aj):=(hr4.cell 0).trans rfl;have r1:w4.cell? ⟨Q+1,1,none⟩=some (aj):=(hr4.cell 1).trans rfl;have IK:=hr4.frozen 0;have Ig:=hr4.frozen 1;have rl:=hr4.lt;clear hS4 hq4 hr4)
   have h5:=dJ.o.set 1 rfl 0 (.slice (some ⟨go',0,none⟩) (xs.length+1) gc');have h6:=(h5.set 0 rfl 0 (.slice (some ⟨go',0,none⟩) (xs.length+1) gc')).set 0 rfl 1 (.slice (some ⟨g,0,none⟩) L.length bc);refine bodyPost_ret (v:=.agg #[.slice (some ⟨go',0,none⟩) (xs.length+1) gc', .slice (some ⟨g,0,none⟩) L.length bc]) (results_cell_row results189 _ _ (Q+1) 25 #[.slice (some ⟨go',0,none⟩) (xs.length+1) gc', .slice (some ⟨g,0,none⟩) L.length bc] (0,0) _ rfl (h6.blk 0 rfl) underlying25 rfl TL) rfl ⟨_,_,L,rfl,?_,by rw [yt.o]⟩;rw [yt.o];have h7:=h6.tail.tail.tail;simp only [Cb,gX,bC];exact h7
  have AP:=bx (show ∀ (j:Nat) (z:List Int),j<k+1->(L.map (·.2))[j]?=some z->z≠bl from λj z hj hz=>by
   rcases gZ j k with h1 | h1
   ·exact hno.o j z h1 hz
   obtain rfl:j=k:=by omega
   rw [HYK.o] at hz
   cases hz;exact heq)
  rw [dh heq] at yL;clear heq;go_wp2_with fail;refine dI yL.o hb.o λw2 HB2=>?_
  go_wp2
  go_roundw
  ·exact⟨k+1,hlt,by go_num,AP,HB2⟩
  simp [intOf];omega
 obtain rfl:k=L.length:=by omega
 have yt:=bx (F.aue (xs:=xs) (bs:=L.map (·.2)) (b:=bl) (λj y hy=>hno.o j y (by have:=(dO hy).1;simpa using this) hy));rw [aV] at yt;have hbs:n<=wr.heap.size:=by have:=HN.o;omega
 go_wp2_with (at_builtin;refine vM (u:=ah (L.length:Int)) rfl _ _ 22 rfl yO vG.o 3 rfl rfl rfl rfl (by omega) (by omega) hbs ?_;rintro v' w4 hS4 ⟨go',gc',rfl,-,-⟩;have dJ:=bx hS4;have hq4:=dJ.o.blk 1 rfl;have d0:w4.cell? ⟨Q,0,none⟩=some (.slice ia xs.length ic):=(hq4.cell 0).trans rfl;have d1:w4.cell? ⟨Q,1,none⟩=some (.slice ba L.length bc):=(hq4.cell 1).trans rfl;have e0:=hq4.frozen 0;have e1:=hq4.frozen 1;have el:=hq4.lt;have hr4:=dJ.o.blk 0 rfl;have r0:w4.cell? ⟨Q+1,0,none⟩=some (aj):=(hr4.cell 0).trans rfl;have r1:w4.cell? ⟨Q+1,1,none⟩=some (aj):=(hr4.cell 1).trans rfl;have IK:=hr4.frozen 0;have Ig:=hr4.frozen 1;have rl:=hr4.lt;clear hS4 hq4 hr4)
 refine jl 7 (λW=>ay W Q 1=some (.slice ba L.length bc)) (by kernel_rfl) ?_;have bG:=bx ((dJ.o.set 1 rfl 0 (.slice (some ⟨go',0,none⟩) (xs.length+1) gc')).drew.kV n 1 3);generalize (w4.setCell ⟨Q,0,none⟩ (.slice (some ⟨go',0,none⟩) (xs.length+1) gc')).drew=WD at bG ⊢;have gK:=bx (show WD.cell? ⟨Q,1,none⟩=some (.slice ba L.length bc) from((bG.o.blk 2 rfl).cell 1).trans rfl);have CV:=bx (MW (((bG.o.at' 3 (p:=Pc.jQ qO [(.slice sa 256 sc,bl)]) rfl) (.slice sa 256 sc,bl) (by simp)).1));simp only at CV;rw [Di.o] at CV;clear dJ;refine jB [0,1,2] ?_
 iterate 3 (refine jA ?_ rfl gK.o ?_ ?_;rotate_left;·intro w q1;go_simp;try with_reducible rfl)
 refine jr ?_;refine kP 3 rfl λKK au=>?_
 refine uq rfl _ _ 22 rfl Gz (by decide) bG.o 0 rfl (by kernel_rfl) (by kernel_rfl) (m:=256) (cs:=bl.map (Value.int .i64)) CV.o (by rw [aV,Di.o]) (by intro u hu;obtain⟨z,-,rfl⟩:=jM.1 hu;rfl) (by omega) (by omega) (bG.o.at' 7 (p:=Pc.old n W0) rfl).1 ?_;rintro v6 w6 hS6;have dV:=bx hS6;clear hS6;obtain⟨na,nc,rfl,hn1,hn2⟩:=gI (dV.o.row 0 rfl);refine au.out _ _ (λ_=>((dV.o.blk 2 rfl).cell 1).trans rfl) ?_;clear au KK;refine kP 4 rfl λKK au=>?_
 go_simp;refine au.out _ _ (λ_=>(((dV.o.alloc _).blk 2 rfl).cell 1).trans rfl) ?_;clear au KK;refine kP 5 rfl λKK au=>?_
 refine KU (u:=.slice na (0+256) nc) rfl _ _ 23 rfl TA dV.o 5 rfl (by kernel_rfl) (by kernel_rfl) rfl (by omega) (by omega) (dV.o.at' 7 (p:=Pc.old n W0) rfl).1 ?_;rintro v7 w7 hS7 ⟨g7,c7,rfl,-,-⟩;have cO:=bx hS7;have hq7:=cO.o.blk 2 rfl;have d0:w7.cell? ⟨Q,0,none⟩=some (.slice (some ⟨go',0,none⟩) (xs.length+1) gc'):=(hq7.cell 0).trans rfl;have d1:w7.cell? ⟨Q,1,none⟩=some (.slice ba L.length bc):=(hq7.cell 1).trans rfl;have e0:=hq7.frozen 0;have e1:=hq7.frozen 1;have el:=hq7.lt;have KT:=cO.o.blk 1 rfl;have r0:w7.cell? ⟨Q+1,0,none⟩=some (aj):=(KT.cell 0).trans rfl;have r1:w7.cell? ⟨Q+1,1,none⟩=some (aj):=(KT.cell 1).trans rfl;have IK:=KT.frozen 0;have Ig:=KT.frozen 1;have rl:=KT.lt;clear hS7 hq7 KT;refine au.out _ _ (λ_=>d1) ?_;clear au KK;refine kP 6 rfl λKK au=>?_
 go_simp;refine au.out _ _ (λ_=>d1) ?_;clear au KK;refine kP 7 rfl λKK au=>?_
 go_simp;refine au.out _ _ (λh=>by cases h) ?_;clear au KK;refine kD ?_ _;go_wp2_with fail;have h5:=cO.o.set 2 rfl 1 (.slice (some ⟨g7,0,none⟩) (L.length+1) c7);have h6:=(h5.set 1 rfl 0 (.slice (some ⟨go',0,none⟩) (xs.length+1) gc')).set 1 rfl 1 (.slice (some ⟨g7,0,none⟩) (L.length+1) c7);refine bodyPost_ret (v:=.agg #[.slice (some ⟨go',0,none⟩) (xs.length+1) gc', .slice (some ⟨g7,0,none⟩) (L.length+1) c7]) (results_cell_row results189 _ _ (Q+1) 25 #[.slice (some ⟨go',0,none⟩) (xs.length+1) gc', .slice (some ⟨g7,0,none⟩) (L.length+1) c7] (0,0) _ rfl (h6.blk 1 rfl) underlying25 rfl TL) rfl ⟨_,_,L++[(.slice na (0+256) nc,bl)],rfl,?_,by rw [yt.o,gX];rfl⟩;rw [yt.o];have hrow:=h6.row 0 rfl;have h7:=h6.as 0 (p':=Pc.jQ qO [(.slice na (0+256) nc,bl)]) rfl (λhr y hy=>by
  rw [fU.1 hy];exact⟨aN.iy hr (by rw [Di.o]),λg hg=>(hr.lt g hg).2⟩) (λk hk=>by
  obtain⟨y,hy,hk⟩:=hk;rw [fU.1 hy] at hk;exact hk)
 have h8:=(Sep.SN (b:=qO) (y:=(.slice na (0+256) nc,bl)) (L:=L) h7 5 rfl).tail.tail.tail;simp only [Cb,gX,bC];exact h8
theorem F.ah6 (l:List F.bI) (row:Nat):(F.qU l row).length=256:=by unfold F.qU;rw [aV,wF]
theorem F.arz (t:F.Trie) (b:List Int):(F.xu t b).1.length=t.1.length+1/\(F.xu t b).2.length<=t.2.length+1/\∀ x∈(F.xu t b).2,x∈t.2\/x=b:=by
 unfold F.xu
 split
 ·exact⟨by simp,by simp,λx hx=>.inl hx⟩
 exact⟨by simp,by simp,λx hx=>by
  rcases lM.1 hx with h | h
  ·exact .inl h
  exact .inr (fU.1 h)⟩
theorem F.JY (l:List F.bI):∀ k,(F.pR l k).1.length=k/\(F.pR l k).2.length<=k/\∀ x∈(F.pR l k).2,x.length=256
 | 0=>⟨rfl,bK _,λx hx=>absurd hx iH⟩
 | k+1=>by
  obtain⟨h1,h2,h3⟩:=F.JY l k;obtain⟨k1,k2,k3⟩:=F.arz (F.pR l k) (F.qU l k);have e:F.pR l (k+1)=F.xu (F.pR l k) (F.qU l k):=rfl;rw [e];exact⟨by omega,by omega,λx hx=>by
   rcases k3 x hx with h | h
   ·exact h3 x h
   rw [h];exact F.ah6 l k⟩
def Gf (w:World) (v:Value) (t:F.Trie):Prop:=∃ iv bv,v = .agg #[iv,bv]/\aN w iv t.1/\iF w bv t.2
theorem Gf.below {w w':World} {v:Value} {t:F.Trie} (h:Gf w v t) (hb:ak w w'):Gf w' v t:=by
 obtain⟨iv,bv,h1,h2,h3⟩:=h;exact⟨iv,bv,h1,h2.below hb,h3.below hb⟩
theorem Vu {w:World} {n:Nat} {T:TypeId} {bv:Value} {L:List (Value×List Int)} (h:w.ownsRow n T 1 bv L.length (L.map (·.1))) (hb:∀ y∈L,aN w y.1 y.2):iF w bv (L.map (·.2)):=by
 rcases h.2 with⟨h1,h2⟩ | ⟨g,cap,cur,rfl,h2,h3,h4,h5,h6,h7⟩
 ·refine .inl ⟨h1,?_⟩;rw [nR h2]
  rfl
 refine .inr ⟨g,0,none,cap,by rw [aV],by rw [aV];exact h4,h5,λ_=>⟨rfl,(h.lt g rfl).2,λi r hr=>?_⟩⟩;rw [eX] at hr;obtain⟨y,hy,rfl⟩:=rC.1 hr;refine⟨y.1,?_,hb y (dB hy)⟩;have:=h.cells (g:=g) rfl i y.1 (by rw [eX,hy];rfl)
 (try unfold ay at *);rw [show (⟨g,0+i,none⟩:Addr)=(⟨g,0,none⟩:Addr).add i by unfold Addr.add;by_cases h0:i=0 <;> simp [h0]]
 exact this
theorem ajo (v:Value) (l:List F.bI) (w:World) (hv:jO w v l) (hok:F.uy l=true) :
  Calls prog 105 #[v] w λe w'=>∃ iv bv L,e = .returned (.tuple #[.agg #[iv,bv], ah 0])/\L.map (·.2)=(F.iC l).2/\Sep (Cb w.heap.size w [] iv bv (F.iC l).1 L) w':=by
 have nX:=bx hok;have qK:=bx (show ∀ x∈l,F.Gn x=true by
  unfold F.uy at hok;rw [dD,jG] at hok;intro x hx;obtain⟨i,hi,rfl⟩:=List.getElem_of_mem hx;have h:=hok.1 i (oM.2 hi);rw [dD] at h;have h9:=h.1
  rwa [fO,dW hi,jE] at h9)
 have HV:=bx hv;obtain⟨a,cap,rfl,hc1,hc2⟩:=hv.slice;have hb0:=dA w (.cells #[aj, aj] 25);have jX:=bx (aeI _ l _ (hv.below hb0) hok);have bQ:=bx ((Sep.start w).eu 25 #[aj, aj]);clear hv hok hb0
 go_in
 go_wp2_with fail;refine aT jX.o λw1 hb1=>?_
 have eG:=bx (bQ.o.below hb1);have hr1:=eG.o.blk 0 rfl;have r0:w1.cell? ⟨w.heap.size,0,none⟩=some (aj):=(hr1.cell 0).trans rfl;have r1:w1.cell? ⟨w.heap.size,1,none⟩=some (aj):=(hr1.cell 1).trans rfl;have rl:=hr1.lt;clear hb1 hr1;go_wp2_with fail;have HS2:=bx (show Sep (Cb w.heap.size w [Pc.blk w1.heap.size 25 #[aj, aj],Pc.blk w.heap.size 25 #[aj, aj]] (aj) (aj) [] []) (w1.alloc (.cells #[aj, aj] 25)) from
  (((((eG.o.eu 25 #[aj, aj]).perm (List.perm_append_comm (l₁:=[_,_]) (l₂:=[_]))).aaK qO).kV w.heap.size 1 22).kV w.heap.size 1 3))
 obtain⟨T,hT⟩:∃ T,w1.heap.size=T:=⟨_,rfl⟩
 rw [hT] at HS2 ⊢;generalize w1.alloc (.cells #[aj, aj] 25)=V at HS2 ⊢;obtain⟨R,hR⟩:∃ R,w.heap.size=R:=⟨_,rfl⟩
 rw [hR] at HS2 ⊢;have HR:=bx hR;clear hT hR r0 r1 rl eG bQ jX
 go_loopw [5] (λi wr=>∃ (k:Nat) (iv bv:Value) (L:List (Value×List Int)),k<=4352/\i = ah k/\Box (L.map (·.2)=(F.pR l k).2)/\Box (Sep (Cb R w [Pc.blk T 25 #[iv,bv],Pc.blk R 25 #[aj, aj]] iv bv (F.pR l k).1 L) wr)) (λi _=>4352-(intOf i).toNat)
 ·exact⟨0, aj, aj,[],by omega,rfl,⟨rfl⟩,HS2⟩
 obtain⟨k,iv,bv,L,hk,rfl,RI,hse⟩:=hrel;have dL:=bx (show Below w.heap.size w wr by rw [HR.o];exact hse.o.bel (n:=R) (W0:=w) (by simp));obtain⟨ia,ic,rfl,hi1,hi2⟩:=gI (hse.o.row 0 rfl);obtain⟨ba,bc,rfl,hb1,hb2⟩:=gI (hse.o.row 1 rfl);have hq:=hse.o.blk 4 rfl;have hr:=hse.o.blk 5 rfl;have c0:wr.cell? ⟨T,0,none⟩=some (.slice ia (F.pR l k).1.length ic):=(hq.cell 0).trans rfl;have c1:wr.cell? ⟨T,1,none⟩=some (.slice ba L.length bc):=(hq.cell 1).trans rfl;have f0:=hq.frozen 0;have f1:=hq.frozen 1;have ql:=hq.lt;have r0:wr.cell? ⟨R,0,none⟩=some (aj):=(hr.cell 0).trans rfl;have r1:wr.cell? ⟨R,1,none⟩=some (aj):=(hr.cell 1).trans rfl;have IK:=hr.frozen 0;have Ig:=hr.frozen 1;have rl:=hr.lt;have HLEN:=bx (F.JY l k);have qj:=bx (show L.length<=k by have h9:=congrArg List.length RI.o;rw [aV] at h9;rw [h9];exact HLEN.o.2.1);obtain⟨xn,hxn⟩:∃ xn,(F.pR l k).1.length=xn:=⟨_,rfl⟩
 have P7:=bx hxn;rw [hxn] at c0;clear hxn hq hr hi1 hb1
 by_cases hlt:k<4352
 ·go_wp2_with fail;refine jl 5 (λW=>ay W T 0=some (.slice ia xn ic)/\ay W T 1=some (.slice ba L.length bc)) (by kernel_rfl) ?_;have dP:=bx hse.o.drew;have aX:=bx (dL.o.trans ((jg wr 1).mono dL.o.size));have gK:=bx (show wr.drew.cell? ⟨T,0,none⟩=some (.slice ia xn ic)/\wr.drew.cell? ⟨T,1,none⟩=some (.slice ba L.length bc) from⟨c0,c1⟩);have Vd:ak w wr.drew:=aX.o;generalize wr.drew=WD at dP gK Vd ⊢;have cu:=bx (axH _ l k WD (HV.o.below Vd) qK.o hlt);clear c0 c1 f0 f1 ql r0 r1 IK Ig rl Vd aX;refine jB [0,1,2] ?_
  iterate 3 (refine jA ?_ rfl gK.o ?_ ?_;rotate_left;·rintro w ⟨q1,q2⟩;go_simp;try with_reducible rfl)
  refine jr ?_;refine kP 3 rfl λKK au=>?_
  go_simp;go_wp2_with (go_at_call 190;refine cu.o.mono ?_;rintro e w6 ⟨⟨vb,rfl,hvb,hfr⟩,hb6⟩)
  have dV:=bx (dP.o.F9 (b:=qO) (y:=(vb,F.qU l k)) hb6 ⟨hvb,λg hg=>(hfr g hg).2⟩ (λg hg=>(hfr g hg).1));clear hb6 hvb hfr;refine au.out _ _ (λ_=>⟨((dV.o.blk 5 rfl).cell 0).trans (by rw [<- P7.o];rfl),((dV.o.blk 5 rfl).cell 1).trans rfl⟩) ?_;clear au KK;have KN:=bx (ajG R w _ _ _ vb (F.pR l k).1 L (F.qU l k) w6 dV.o (F.ah6 l k) (by rw [HLEN.o.1];omega) (by have:=qj.o;omega) (λy hy=>HLEN.o.2.2 y.2 (by rw [<- RI.o];exact List.mem_map_of_mem hy)));rw [P7.o] at KN;refine kP 4 rfl λKK au=>?_
  go_simp;go_wp2_with (go_at_call 189;refine KN.o.mono ?_;rintro e w7 ⟨uG,vJ,L',rfl,hS7,hL7⟩)
  have e7:F.xu ((F.pR l k).1,L.map (·.2)) (F.qU l k)=F.pR l (k+1):=by rw [RI.o];rfl
  rw [e7] at hS7 hL7;have cO:=bx hS7;have HL7:=bx hL7;obtain⟨ja,jc,rfl,hj1,hj2⟩:=gI (hS7.row 0 rfl);obtain⟨ca,cc,rfl,hc3,hc4⟩:=gI (hS7.row 1 rfl);have hq7:=hS7.blk 4 rfl;have c0:w7.cell? ⟨T,0,none⟩=some (.slice ia xn ic):=(hq7.cell 0).trans (by rw [<- P7.o];rfl);have c1:w7.cell? ⟨T,1,none⟩=some (.slice ba L.length bc):=(hq7.cell 1).trans rfl;have f0:=hq7.frozen 0;have f1:=hq7.frozen 1;have ql:=hq7.lt;clear hS7 hL7 e7 hq7;refine au.out _ _ (λ_=>⟨c0,c1⟩) ?_;clear au KK;refine kP 5 rfl λKK au=>?_
  go_simp;refine au.out _ _ (λh=>by cases h) ?_;clear au KK;refine kD ?_ _;have fM:=bx ((cO.o.set 4 rfl 0 (.slice ja (F.pR l (k+1)).1.length jc)).set 4 rfl 1 (.slice ca L'.length cc))
  go_wp2
  go_roundw
  ·exact⟨k+1,_,_,L',hlt,by go_num,HL7,fM⟩
  simp [intOf];omega
 obtain rfl:k=4352:=by omega
 have Du:=bx hse.o;have yL:=bx (show F.pR l 4352=F.iC l from rfl);have KR:=bx (hse.o.jQ 2 rfl);go_wp2_with fail;have h6:=(Du.o.set 5 rfl 0 (.slice ia xn ic)).set 5 rfl 1 (.slice ba L.length bc);refine bodyPost_ret (v:=.tuple #[.agg #[.slice ia xn ic, .slice ba L.length bc], ah 0]) (Ei results105 _ _ R 25 #[.slice ia xn ic, .slice ba L.length bc] (0,0) _ rfl (h6.blk 5 rfl) underlying25 rfl TL) rfl ⟨_,_,L,rfl,RI.o.trans (by rw [yL.o]),?_⟩;rw [HR.o];have h9:=(h6.drop 5).drop 4;rw [<- P7.o,yL.o] at h9;rw [<- P7.o,yL.o];exact h9
theorem aqi {n:Nat} {W0 w:World} {ps:List Pc} {iv bv:Value} {xs:List Int} {L:List (Value×List Int)} (h:Sep (Cb n W0 ps iv bv xs L) w):Gf w (.agg #[iv,bv]) (xs,L.map (·.2)) :=
 ⟨iv,bv,rfl,aN.iy (h.row 0 rfl) rfl,Vu (h.row 1 rfl) (λy hy=>(h.jQ 2 rfl y hy).1)⟩
theorem apY {n:Nat} {W0 w:World} {ps:List Pc} {iv bv:Value} {L:List (Value×List Int)} {t:F.Trie} (h2:L.map (·.2)=t.2) (h:Sep (Cb n W0 ps iv bv t.1 L) w):Gf w (.agg #[iv,bv]) t:=by
 obtain⟨a,b⟩:=t;have h4:=aqi h;rw [h2] at h4;exact h4
theorem abr (v:Value) (l:List F.bI) (w:World) (hv:jO w v l) (hok:F.uy l=true) :
  Calls prog 105 #[v] w λe w'=>(∃ v',e = .returned (.tuple #[v', ah 0])/\Gf w' v' (F.iC l))/\ak w w' :=
 (ajo v l w hv hok).mono λ_ w' ⟨iv,bv,L,h1,h2,h3⟩=>by
  exact⟨⟨_,h1,apY h2 h3⟩,h3.bel (n:=w.heap.size) (W0:=w) (by simp)⟩
section
open Go.Shelf
def Hy (r:List Int):List Int:=r.take 260
def lY (M:F.Trie):F.Trie:=(M.1.take 4360,(M.2.take 30).map Hy)
theorem apv:(prog.info? 25).map (·.size)=some 2:=by kernel_rfl
theorem RX (na fa:Value) (M:F.Trie) (w0 w:World) (hia:aN w0 fa M.1) (hra:iF w0 na M.2) (hb0:ak w0 w) :
  Calls prog 111 #[.agg #[fa,na]] w λe w'=>ak w w'/\∃ fv nv vs,e = .returned (.agg #[fv,nv])/\aN w0 fv (lY M).1/\Ba w0 vs (lY M).2/\w'.ownsRow w.heap.size 22 1 nv vs.length vs:=by
 have zY:=bx hra;have HB0:=bx hb0;obtain⟨aa,ca,rfl⟩:=hra.slice;obtain⟨fo,fc,rfl⟩:=hia.slice;obtain⟨hf1,hf2⟩:=Nl hia;have AZ:=bx (Nh hia 4360);obtain⟨nf,hnf⟩:∃ nf,(M.1.take 4360).length=nf:=⟨_,rfl⟩
 have Lm:=bx (show nf=min 4360 M.1.length by rw [<- hnf,dw]);rw [hnf] at AZ;have amM:=bx hnf;obtain⟨m,hm⟩:∃ m,m=min M.2.length 30:=⟨_,rfl⟩
 have HM:=bx hm;have hm1:m<=M.2.length:=by omega
 have hm2:m<=30:=by omega
 obtain⟨w3,hw3⟩:∃ w3,w3=((w.alloc (.cells #[.slice fo M.1.length fc, .slice aa M.2.length ca] 25)).alloc (.cells #[aj, aj] 25)).alloc (.cells #[.slice fo nf fc, aj] 25):=⟨_,rfl⟩
 have aS:=bx (show ∃ vs,Ba w0 vs ((M.2.take 0).map Hy)/\Sep [Pc.row w.heap.size 22 1 (aj) 0 vs,Pc.blk (w.heap.size+1+1) 25 #[.slice fo nf fc, aj],Pc.blk (w.heap.size+1) 25 #[aj, aj],Pc.blk w.heap.size 25 #[.slice fo M.1.length fc, .slice aa M.2.length ca],Pc.old w.heap.size w] w3 by
  have h1:=(((Sep.start w).eu 25 #[.slice fo M.1.length fc, .slice aa M.2.length ca]).eu 25 #[aj, aj]).eu 25 #[.slice fo nf fc, aj];refine⟨[],⟨rfl,λi r h=>by simp at h⟩,?_⟩;rw [hw3];have h2:=h1.kV w.heap.size 1 22
  simpa using h2)
 have HW3:=bx hw3;clear hb0 hra hia hm hnf hw3
 go_in
 have hmn:(min (M.1.length:Int) 4360).toNat=nf:=by have:=Lm.o;omega
 go_upto_region 2 with(fail)
 rw [<- HW3.o];clear hmn;go_wp2_with fail
 go_loopw [4] (λi wr=>∃ k:Nat,k<=m/\i = ah k/\Box (∃ nv vs,Ba w0 vs ((M.2.take k).map Hy)/\Sep [Pc.row w.heap.size 22 1 nv k vs,Pc.blk (w.heap.size+1+1) 25 #[.slice fo nf fc,nv],Pc.blk (w.heap.size+1) 25 #[aj, aj],Pc.blk w.heap.size 25 #[.slice fo M.1.length fc, .slice aa M.2.length ca],Pc.old w.heap.size w] wr)) (λi _=>m-(intOf i).toNat)
 ·obtain⟨vs,h1,h2⟩:=aS.o;exact⟨0,by omega,rfl,⟨_,vs,h1,h2⟩⟩
 obtain⟨k,hk,rfl,hbox⟩:=hrel;obtain⟨nv,vs,hvs,hsep⟩:=hbox.o;have AV:=bx (HB0.o.trans ((hsep.bel (n:=w.heap.size) (W0:=w) (by simp)).mono HB0.o.size));have vT:=bx hvs;have BZ:=bx hsep;have dL:=bx (show ak w wr from hsep.bel (by simp));obtain⟨no,nc,rfl,hn1,hn2⟩:=gI (hsep.row 0 rfl);have qR:=bx (hsep.blk 1 rfl);have HG2:=bx (hsep.blk 2 rfl);have tY:=bx (hsep.blk 3 rfl);have g1:wr.cell? ⟨w.heap.size,1,none⟩=some (.slice aa M.2.length ca):=(tY.o.cell 1).trans rfl;have l1:=tY.o.lt;clear hvs hsep hbox
 by_cases hlt:k<m
 ·obtain⟨x,hx⟩:=bV M.2 k (by omega);obtain⟨pa,oa,ca',ha0,ha1,ha2,pK,kQ⟩:=zY.o.get (by intro e;rw [e] at hx;simp at hx);obtain⟨rfl,rfl⟩:=dQ ha0;obtain⟨xv,hxc,hxi⟩:=kQ k x hx;obtain⟨xo,xc,rfl⟩:=hxi.slice;obtain⟨hx1,hx2⟩:=Nl hxi;have Oh:=bx (Nh hxi 260);obtain⟨q,hq⟩:∃ q,(x.take 260).length=q:=⟨_,rfl⟩
  have HQ:=bx (show q=min 260 x.length by rw [<- hq,dw]);rw [hq] at Oh;have nH:=bx (QB M.2 k x hx);have iE:=bx (show ∀ W,ak wr W->ay W (w.heap.size+1+1) 1=some (.slice no k nc)/\ay W w.heap.size 1=some (.slice (some ⟨pa,oa,none⟩) M.2.length ca)/\ay W pa (oa+k)=some (.slice xo x.length xc) from λW h =>
   ⟨((qR.o.below h qR.o.lt).cell 1).trans rfl,((tY.o.below h tY.o.lt).cell 1).trans rfl,((bt AV.o h).cell (p:=⟨pa,oa+k,none⟩) pK).trans hxc⟩)
  have aX:=bx (show ak wr wr.drew from⟨rfl,rfl,rfl,bK _,λ_ _=>rfl⟩);have dP:=bx BZ.o.drew;have Py:w.heap.size<=wr.drew.heap.size:=dL.o.size;have ay9:k<30:=by omega
  have hkl:k<M.2.length:=by omega
  have hkc:k<ca:=by omega
  have l3:=qR.o.lt;unfold maxLen at ha2;clear ha0 kQ hx hxc hxi hq;go_wp2_with fail;have RF:(min (x.length:Int) 260).toNat=q:=by have:=HQ.o;omega
  have aiK:(min (x.length:Int) 260)<=(xc:Int):=by omega
  have ahs:(0:Int)<=min (x.length:Int) 260:=by omega
  refine jl 16 (λW=>ay W (w.heap.size+1+1) 1=some (.slice no k nc)/\ay W w.heap.size 1=some (.slice (some ⟨pa,oa,none⟩) M.2.length ca)/\ay W pa (oa+k)=some (.slice xo x.length xc)) (by kernel_rfl) ?_;have gK:=bx (iE.o _ aX.o);have yG:=bx (λo=>iE.o _ (aX.o.alloc aX.o.size o));generalize wr.drew=WR at *;refine jB [0,1,2,3,4,5,6,7,8,9,10,11,12,13,14] ?_
  iterate 15 (refine jA ?_ rfl gK.o ?_ ?_;rotate_left;·rintro w ⟨q1,q2,q3⟩;go_simp;try with_reducible rfl)
  refine jr ?_;refine kP 15 rfl λKK au=>?_
  go_simp;refine au.out _ _ (λ_=>yG.o _) ?_;clear au KK;refine kP 16 rfl λKK au=>?_
  refine KU rfl _ _ 23 rfl TA dP.o 0 rfl (by kernel_rfl) (by kernel_rfl) rfl (by omega) (by omega) Py ?_;rintro v' w9 mF ⟨g9,c9,rfl,h91,h92⟩;refine au.out _ _ (λh=>by cases h) ?_;clear au KK;have fA:=bx (mF.blk 1 rfl);have z0:=(fA.o.cell 1).trans (show _=some (Value.slice no k nc) from rfl);have z1:=fA.o.frozen 1;have z2:=fA.o.lt;have Z5:=bx (mF.set 1 rfl 1 (.slice (some ⟨g9,0,none⟩) (k+1) c9));clear mF;refine kP 17 rfl λKK au=>?_
  go_simp;refine au.out _ _ (λh=>by cases h) ?_;clear au KK;refine kP 18 rfl λKK au=>?_
  go_simp;refine au.out _ _ (λh=>by cases h) ?_;clear au KK;refine kD ?_ _;have HN:=bx (show ∃ nv vs,Ba w0 vs ((M.2.take (k+1)).map Hy)/\Sep [Pc.row w.heap.size 22 1 nv (k+1) vs,Pc.blk (w.heap.size+1+1) 25 #[.slice fo nf fc,nv],Pc.blk (w.heap.size+1) 25 #[aj, aj],Pc.blk w.heap.size 25 #[.slice fo M.1.length fc, .slice (some ⟨pa,oa,none⟩) M.2.length ca],Pc.old w.heap.size w] _ by
   refine⟨_,_,?_,Z5.o⟩;rw [nH.o,gX];exact vT.o.snoc Oh.o)
  go_wp2
  go_roundw
  ·exact⟨k+1,hlt,by go_num,HN⟩
  simp [intOf];omega
 have hkm:k=m:=by omega
 have Ho:=bx hkm;have hd:M.2.length<=k\/(k<M.2.length/\30<=k):=by have:=HM.o;omega
 have z0:wr.cell? ⟨w.heap.size+1+1,0,none⟩=some (.slice fo nf fc):=(qR.o.cell 0).trans rfl;have z1:wr.cell? ⟨w.heap.size+1+1,1,none⟩=some (.slice no k nc):=(qR.o.cell 1).trans rfl;have z2:=qR.o.lt;have y0:=(HG2.o.cell 0).trans (show _=some (Value.slice none 0 0) from rfl);have y1:=(HG2.o.cell 1).trans (show _=some (Value.slice none 0 0) from rfl);have f0:=HG2.o.frozen 0;have f1:=HG2.o.frozen 1;have y2:=HG2.o.lt;have gV:=bx ((BZ.o.set 2 rfl 0 (.slice fo nf fc)).set 2 rfl 1 (.slice no k nc));have Zt:=bx (show (M.2.take k).map Hy=(lY M).2 by
  unfold lY;simp only;rw [Ho.o,HM.o]
  rcases Nat.le_total M.2.length 30 with h | h
  ·rw [sH h,mQ,gq h]
  rw [Nat.min_eq_right h])
 have CU:=bx (show k=((M.2.take k).map Hy).length by rw [aV,dw];have:=HM.o;omega);clear hkm
 rcases hd with hd | ⟨hd,hd2⟩
 all_goals
  go_wp2_with fail;have Ak:=gV.o.bel (n:=w.heap.size) (W0:=w) (by simp);refine bodyPost_ret (v:=.agg #[.slice fo nf fc, .slice no k nc]) (results_cell_row results111 _ _ (w.heap.size+1) 25 _ (0,0) _ rfl (gV.o.blk 2 rfl) underlying25 rfl apv) rfl ⟨Ak,_,_,vs,rfl,AZ.o,?_,?_⟩
  ·rw [<- Zt.o];exact vT.o
  rw [vT.o.1,<- CU.o];exact gV.o.row 0 rfl
end
end Go.Proofs.YtdponihkpomheaaGreatDoor
