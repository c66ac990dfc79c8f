/- Texts of this claim. -/
import Derived.Laws.Strings3
import Derived.Test.YtdponihkpomheaaGreatDoorH3

set_option maxHeartbeats 8000000
set_option maxRecDepth 100000
namespace Go.Proofs.YtdponihkpomheaaGreatDoor
open Go.RowKit
open Tryz
section
open Go.Shelf
theorem ZA {n:Int} {l:List D.Rule} {k:Nat} {x:D.Rule} (h:l[k]?=some x) (hx:mP n x=false):uN n l=false:=by
 unfold uN;rw [abz n l k x h hx];simp
theorem akB (v:Value) (l:List D.Rule) (n:Int) (w:World) (hf:∀ x∈l,uS x) (hv:iD w v l) (hz:l.length<=16777216) :
  Calls prog 183 #[v, ah n] w λe w'=>e = .returned (.bool (uN n l))/\ak w w':=by
 have HR:=bx hv;have HF:=bx hf;obtain⟨ao,cap,rfl⟩:=hv.slice;clear hv hf
 go_in
 go_wp2_with fail
 go_loopw [5] (λi wr=>∃ k:Nat,k<=l.length/\i = ah k/\Box ((l.take k).all (mP n)=true)/\Box (ak w wr)) (λi _=>l.length-(intOf i).toNat)
 ·exact⟨0,by omega,rfl,⟨rfl⟩,⟨Below.refl _ _⟩⟩
 obtain⟨k,hk,rfl,ha,hbr⟩:=hrel
 by_cases hlt:k<l.length
 ·obtain⟨x,hx⟩:=bV l k hlt;obtain⟨bg,off,cap2,hg1,hg2,hg3,hg4,hg5⟩:=(HR.o.below hbr.o).get (by rintro rfl;simp at hlt);obtain⟨rfl,rfl⟩:=dQ hg1;obtain⟨vl,vr,hc0,hc1,hc2,hc3,hc4,hil,hir⟩:=hg5 k x hx;have hfx:=HF.o x (dB hx);have HL:=bx (λW (h:ak wr W)=>ad3 x.1.1 vl x.1.2 n W (hil.below h) hfx.1);have HRR:=bx (λW (h:ak wr W)=>ad3 x.2.1.1 vr x.2.1.2 n W (hir.below h) hfx.2);have HX:=bx hx;unfold maxLen at hg3;obtain⟨⟨vV,il⟩,⟨str,ir⟩,br⟩:=x;simp only at hc0 hc1 hc2 hc3 hc4 HL HRR;clear hx hg1 hg5 hil hir hfx
  cases hr1:sF n il with
  | false =>
   have pJ:=bx (ZA HX.o (show mP n ((vV,il),(str,ir),br)=false by unfold mP;rw [hr1];rfl));have HQ:=bx hr1;clear hr1;go_wp2_with (go_at_call 260;refine(HL.o _ aZ).mono ?_;rintro e w1 ⟨rfl,hb1⟩;rw [HQ.o])
   go_ret
   exact⟨aY (by rw [pJ.o]),bt hbr.o hb1⟩
  | true =>
   have HQ:=bx hr1
   cases hr2:sF n ir with
   | false =>
    have pJ:=bx (ZA HX.o (show mP n ((vV,il),(str,ir),br)=false by unfold mP;rw [hr1,hr2];rfl));have lZ:=bx hr2;clear hr1 hr2;go_wp2_with fail;refine(HL.o _ aZ).mono ?_;rintro e w1 ⟨rfl,hb1⟩;rw [HQ.o];have HB1:=bx hb1;have d0:=(hb1.cell (p:=⟨bg,off+k*5+2,none⟩) hg4).trans hc2;have d1:=(hb1.cell (p:=⟨bg,off+k*5+3,none⟩) hg4).trans hc3;clear hb1;go_wp2_with fail;refine(HRR.o _ HB1.o).mono ?_;rintro e w2 ⟨rfl,hb2⟩;rw [lZ.o];have HB2:=aJ HB1 hb2;clear hb2
    go_wp2
    go_ret
    exact⟨aY (by rw [pJ.o]),bt hbr.o HB2.o⟩
   | true =>
    have lZ:=bx hr2
    cases str with
    | true =>
     have pJ:=bx (ZA HX.o (show mP n ((vV,il),(true,ir),br)=false by unfold mP;rw [hr1,hr2];rfl));clear hr1 hr2;go_wp2_with fail;refine(HL.o _ aZ).mono ?_;rintro e w1 ⟨rfl,hb1⟩;rw [HQ.o];have HB1:=bx hb1;have d0:=(hb1.cell (p:=⟨bg,off+k*5+2,none⟩) hg4).trans hc2;have d1:=(hb1.cell (p:=⟨bg,off+k*5+3,none⟩) hg4).trans hc3;clear hb1;go_wp2_with fail;refine(HRR.o _ HB1.o).mono ?_;rintro e w2 ⟨rfl,hb2⟩;rw [lZ.o];have HB2:=aJ HB1 hb2;have d2:=(HB2.o.cell (p:=⟨bg,off+k*5+2,none⟩) hg4).trans hc2;clear hb2 d0 d1
     go_wp2
     go_ret
     exact⟨aY (by rw [pJ.o]),bt hbr.o HB2.o⟩
    | false =>
     have HT:=bx (afn n l k _ HX.o ha.o (show mP n ((vV,il),(false,ir),br)=true by unfold mP;rw [hr1,hr2];rfl));clear hr1 hr2;go_wp2_with fail;refine(HL.o _ aZ).mono ?_;rintro e w1 ⟨rfl,hb1⟩;rw [HQ.o];have HB1:=bx hb1;have d0:=(hb1.cell (p:=⟨bg,off+k*5+2,none⟩) hg4).trans hc2;have d1:=(hb1.cell (p:=⟨bg,off+k*5+3,none⟩) hg4).trans hc3;clear hb1;go_wp2_with fail;refine(HRR.o _ HB1.o).mono ?_;rintro e w2 ⟨rfl,hb2⟩;rw [lZ.o];have HB2:=aJ HB1 hb2;have d2:=(HB2.o.cell (p:=⟨bg,off+k*5+2,none⟩) hg4).trans hc2;clear hb2 d0 d1
     go_wp2
     go_roundw
     ·exact⟨k+1,hlt,by go_num,HT,⟨bt hbr.o HB2.o⟩⟩
     simp [intOf];omega
 obtain rfl:k=l.length:=by omega
 have HT:=bx (show uN n l=(decide (1<=n)&&decide (n<=32)&&decide (l.length<=40)) by
  unfold uN;have:=ha.o;rw [mQ] at this;rw [this,Bool.and_true])
 clear ha
 rcases (show n<1\/(1<=n/\32<n)\/(1<=n/\n<=32) by omega) with h | ⟨h,h'⟩ | ⟨h,h'⟩
 ·go_wp2
  go_ret
  exact⟨aY (by rw [HT.o];simp;omega),hbr.o⟩
 ·go_wp2
  go_ret
  exact⟨aY (by rw [HT.o];simp;omega),hbr.o⟩
 rcases gZ 40 l.length with h40 | h40
 ·go_wp2
  go_ret
  exact⟨aY (by rw [HT.o,bD h,bD h',Bool.true_and,Bool.true_and,decide_eq_decide];omega),hbr.o⟩
 go_wp2
 go_ret
 exact⟨aY (by rw [HT.o];simp [h,h',h40];omega),hbr.o⟩
end
section
open Go.Shelf
attribute [local go_sem] Oper.semAt_some
theorem aqe:Pushes prog 260 27 24:=.mk' (z:=aj) underlying260 (by kernel_rfl) rfl
theorem TA:Pushes prog 23 22 24:=.mk' (z:=aj) underlying23 (by kernel_rfl) rfl
def xG (L:List (List Nat)):List (List Value):=L.map λr=>r.map kH
theorem QU (L:List (List Nat)):(xG L).length=L.length:=by simp [xG]
theorem ad7 (L:List (List Nat)) (r:List Nat):xG (L++[r])=xG L++[r.map kH]:=by simp [xG]
theorem Uo {W:World} {base:Nat} {E e:TypeId} {v:Value} {vs:List Value} {L:List (List Nat)} (h:(Pc.rows base E e v vs (xG L)).ok W):iF W v (L.map zs):=by
 obtain⟨h0,h1,h2⟩:=h;have hl:vs.length=L.length:=by rw [QU] at h0;simpa using h0
 rcases h1.2 with⟨h3,h4⟩ | ⟨g,cap,cur,h3,h4,h5,h6,h7,h8,h9⟩
 ·refine .inl ⟨h3,?_⟩;rw [nR (show L.length=0 by omega)];rfl
 refine .inr ⟨g,0,none,cap,by rw [h3,aV,hl],by rw [aV];omega,h7,λhn=>⟨rfl,(fF.1 h5).1,λi r hr=>?_⟩⟩;rw [eX] at hr;obtain⟨r0,h10,rfl⟩:=rC.1 hr;obtain⟨x,hx,hxr,-⟩:=h2 i (r0.map kH) (by unfold xG;rw [eX,h10];rfl);refine⟨x,?_,Vt hxr (by simp)⟩;have:=h1.cells (g:=g) (by rw [h3];rfl) i x hx
 (try unfold ay at *);rw [show (⟨g,0+i,none⟩:Addr)=(⟨g,0,none⟩:Addr).add i by unfold Addr.add;by_cases h0:i=0 <;> simp [h0]]
 exact this
theorem arE {rs:List D.Side} {k:Nat} (h:k<rs.length):(D.wC rs).take (k+1)=(D.wC rs).take k++[D.firstAt rs k]:=take_snoc' _ _ _ (by unfold D.wC;rw [eX,yj h];rfl)
theorem XH {t:List D.Sets} {s:D.Sets} (h:D.place t s=t.length):s∉t:=λhm=>by have:=D.aiX hm;omega
theorem Za {t:List D.Sets} {s:D.Sets} (h:s∉t):D.add t s=t++[s]:=by unfold D.add;rw [aF h]
theorem aj6 {t:List D.Sets} {s:D.Sets} (h:s∈t):D.add t s=t:=by unfold D.add;rw [aG h]
theorem auf {sd:List D.Side} {n K j:Nat} {T:List D.Sets} {NX:List (List Nat)} {FX:List Nat} {S:D.Sets} (hb:D.build sd n K=⟨T,NX,FX⟩) (hk:NX.length=K) (hK:K+1<=300) (hS:T[K]?=some S) (hj:j+1<=n+1) (hl:300<(D.row sd n S T (j+1)).2.length):D.EI sd n=false:=by
 refine D.arS _ _ (k:=K+1) hK ?_;have e:D.build sd n (K+1)=(D.build sd n K).go sd n:=rfl;rw [e,hb,D.ZQ _ _ (b:=⟨T,NX,FX⟩) (S:=S) (by show T[NX.length]?=some S;rw [hk];exact hS)];exact fC hl (D.auI (rs:=sd) (n:=n) (S:=S) (t:=T) hj)
theorem akR {sd:List D.Side} {n K:Nat} {T t':List D.Sets} {NX:List (List Nat)} {FX r:List Nat} {S:D.Sets} (hb:D.build sd n K=⟨T,NX,FX⟩) (hk:NX.length=K) (hS:T[K]?=some S) (hr:D.row sd n S T (n+1)=(r,t')) :
  D.build sd n (K+1)=⟨t',NX++[r],FX++[D.pI sd S sd.length]⟩:=by
 have e:D.build sd n (K+1)=(D.build sd n K).go sd n:=rfl;rw [e,hb,D.ZQ _ _ (b:=⟨T,NX,FX⟩) (S:=S) (by show T[NX.length]?=some S;rw [hk];exact hS)];simp only;rw [hr]
def Uy (w:World) (rs:List D.Rule) (n K g:Nat) (IB:Value) (wr:World):Prop :=
 ∃ nv fv us sS,Sep [Pc.rows w.heap.size 27 2 IB us (xG (D.build (lefts rs) n K).todo),Pc.blk g 29 #[nv,fv],Pc.rows w.heap.size 22 3 nv sS (xG (D.build (lefts rs) n K).next),
  Pc.row w.heap.size 2 1 fv K ((D.build (lefts rs) n K).fits.map kH),Pc.blk w.heap.size 29 #[aj, aj],Pc.old w.heap.size w] wr
def JZ (w:World) (t:List D.Sets) (r:List Nat) (next:List (List Nat)) (fits:List Nat) (K g j:Nat) (nv fv:Value) (sS:List Value) (IB cv:Value) (wr:World):Prop :=
 ∃ us,Sep [Pc.row w.heap.size 3 1 cv j (r.map kH),Pc.rows w.heap.size 27 2 IB us (xG t),Pc.blk g 29 #[nv,fv],Pc.rows w.heap.size 22 3 nv sS (xG next),
  Pc.row w.heap.size 2 1 fv K (fits.map kH),Pc.blk w.heap.size 29 #[aj, aj],Pc.old w.heap.size w] wr
theorem auN (v:Value) (rs:List D.Rule) (n:Int) (w:World) (hf:∀ x∈rs,uS x) (hv:iD w v rs) (hz:rs.length<=16777216) :
  Calls prog 104 #[v, ah n] w (ac7 rs n w):=by
 have hb0:=dA w (.cells #[aj, aj] 29);have HP:=bx (akB v rs n _ hf (hv.below hb0) hz);have HB0:=bx hb0;have HR:=bx (aC.new w 29 #[aj, aj]);have bQ:=bx ((Sep.start w).eu 29 #[aj, aj]);have HV:=bx hv;obtain⟨ao,cap,rfl⟩:=hv.slice;obtain⟨hc1,hc2⟩:=hv.WE;clear hv hb0
 cases hr:uN n rs with
 | false =>
  have iU:=bx hr;have HC:=bx (show D8 rs n=90 by unfold D8;rw [hr];rfl);have HM:=bx (show Aj rs n=([],[]) by unfold Aj;rw [hr];rfl);clear hr
  go_in
  go_wp2_with fail;refine HP.o.mono ?_;rintro e w1 ⟨rfl,hb1⟩;rw [iU.o];have HB1:=aJ HB0 hb1;have HR1:=HR.ub hb1;have r0:=(HR1.o.cell 0).trans (show _=some (Value.slice none 0 0) from rfl);have r1:=(HR1.o.cell 1).trans (show _=some (Value.slice none 0 0) from rfl);have f0:=HR1.o.frozen 0;have f1:=HR1.o.frozen 1;have lr:=HR1.o.lt;clear hb1;go_wp2_with fail;exact bodyPost_ret (v:=.tuple #[.agg #[aj, aj], ah 90]) (Ei results104 _ _ w.heap.size 29 #[aj, aj] (0,0) _ rfl ((HR1.o.bJ 0 (aj)).bJ 1 (aj)) underlying29 rfl Rt) rfl
   ⟨(HB1.o.setCell aU _).setCell aU _,_,by rw [HC.o],by rw [HM.o];exact ahT _⟩
 | true =>
  have iU:=bx hr;obtain⟨hn1,hn2,Rj,hso⟩:=Zc hr;obtain⟨nn,rfl⟩:=oJ (show 0<=n by omega);have Jj:=bx hso;have lG:=bx (D.axz (lefts rs));have AZ:=bx (λ(k:Nat) (h:k<rs.length)=>show ((D.wC (lefts rs)).take (k+1)).map kH=((D.wC (lefts rs)).take k).map kH++[kH (D.firstAt (lefts rs) k)] by rw [arE (by rw [Bo];exact h),gX];rfl);clear hr hso
  go_in
  go_wp2_with fail;refine HP.o.mono ?_;rintro e w1 ⟨rfl,hb1⟩;rw [iU.o];have eG:=bx (((bQ.o.below hb1)).kV w.heap.size 1 2);clear hb1;go_wp2_with fail
  go_loopw [6,7] (λo i wr=>∃ k:Nat,k<=rs.length/\i = ah k/\Box (Sep [Pc.row w.heap.size 2 1 o k (((D.wC (lefts rs)).take k).map kH),Pc.blk w.heap.size 29 #[aj, aj],Pc.old w.heap.size w] wr)) (λ_ i _=>rs.length-(intOf i).toNat)
  ·exact⟨0,by omega,rfl,eG⟩
  obtain⟨k,hk,rfl,hsep⟩:=hrel;have dL:=bx (show ak w wr from hsep.o.bel (by simp))
  by_cases hlt:k<rs.length
  ·obtain⟨x,hx⟩:=bV rs k hlt;obtain⟨bg,off,cap2,hg1,hg2,hg3,hg4,hg5⟩:=(HV.o.below dL.o).get (by rintro rfl;simp at hlt);obtain⟨rfl,rfl⟩:=dQ hg1;obtain⟨vl,vr,hc0,hc1,hc2,hc3,hc4,hil,hir⟩:=hg5 k x hx;have hrx:=Jj.o x (dB hx);have nH:=bx (show ((D.wC (lefts rs)).take (k+1)).map kH=((D.wC (lefts rs)).take k).map kH++[Value.int .i64 ((N.clo x.1.2 0:Nat):Int)] by rw [AZ.o k hlt];unfold D.firstAt;rw [Nb hx];rfl);have iV:=bx (show RG x.1.2 = .tuple #[ah (N.clo x.1.2 0), ah 0] by unfold RG;rw [hrx];rfl);have HST:=bx (ak1 x.1.1 vl x.1.2 wr hil (by have:=FI hrx;omega));unfold maxLen at hg3;obtain⟨⟨vV,il⟩,⟨str,ir⟩,br⟩:=x;simp only at hc0 hc1 hc2 hc3 hc4 nH iV HST;clear hx hg1 hg5 hil hir hrx;go_wp2_with fail;refine HST.o.mono ?_;rintro e w3 ⟨rfl,hb3⟩;rw [iV.o];have aS:=bx (hsep.o.below hb3);have hlb:w.heap.size<=w3.heap.size:=bP dL.o.size hb3.size;clear hb3;go_wp2_with (at_builtin;refine vM rfl _ _ 27 rfl WG aS.o 0 rfl rfl rfl rfl (by omega) (by omega) hlb ?_;rintro v' w4 hS4 -)
   rw [<- nH.o] at hS4;have dJ:=bx hS4;clear hS4
   go_wp2
   go_roundw
   ·exact⟨k+1,hlt,by go_num,dJ⟩
   simp [intOf];omega
  obtain rfl:k=rs.length:=by omega
  have yG:=bx (show (D.wC (lefts rs)).take rs.length=D.wC (lefts rs) by rw [<- Bo rs,<- lG.o,mQ]);have Ua:=hsep.o;rw [yG.o] at Ua;obtain⟨fa,fc,rfl,aaz,U9⟩:=gI (Ua.row 0 rfl);have uH:=bx ((Sep.axv (E:=27) (xs:=(D.wC (lefts rs)).map kH) (by rw [aV,lG.o,Bo];exact Ua) dL.o.size).eu 29 #[aj, aj]);clear hsep Ua
  go_upto_region 11 with(fail)
  obtain⟨g,hg⟩:∃ g,g=wr.heap.size+1:=⟨_,rfl⟩
  obtain⟨W2,hW2⟩:∃ W2,W2=(wr.alloc (.cells #[.slice fa rs.length fc] 27)).alloc (.cells #[aj, aj] 29):=⟨_,rfl⟩
  rw [<- hW2,<- hg];have oD:=bx (show Uy w rs nn 0 g (.slice (some ⟨wr.heap.size,0,none⟩) 1 1) W2 by
   have h1:=uH.o;rw [<- hW2,show (wr.alloc (.cells #[.slice fa rs.length fc] 27)).heap.size=g by rw [hg];simp] at h1;have h2:=((h1.kV w.heap.size 1 2).au9 w.heap.size 22 3)
   exact⟨_,_,_,_,((h2.front 1 rfl).front 1 rfl |>.front 2 rfl).front 3 rfl⟩)
  have YF:=bx (show (D.build (lefts rs) nn 0).next.length=0/\0<=(D.build (lefts rs) nn 0).todo.length/\(D.build (lefts rs) nn 0).todo.length<=300 from⟨rfl,nK _,(show (1:Nat)<=300 from by decide)⟩);have HGW:=bx (show w.heap.size<=g by have:=dL.o.size;omega);clear uH yG lG AZ eG bQ HP HB0 HR hk hlt aaz U9 hW2 hg;go_wp2_with fail
  go_loopw [10,12] (λIB i wo=>∃ K:Nat,K<=300/\i = ah K/\Box (Uy w rs nn K g IB wo)/\Box ((D.build (lefts rs) nn K).next.length=K/\K<=(D.build (lefts rs) nn K).todo.length/\(D.build (lefts rs) nn K).todo.length<=300)) (λ_ i _=>301-(intOf i).toNat)
  ·exact⟨0,by omega,rfl,oD,YF⟩
  obtain⟨K,hK,rfl,hco,hkk⟩:=hrel;obtain⟨nv,fv,us,sS,hso⟩:=hco.o;obtain⟨T,hT⟩:∃ T,(D.build (lefts rs) nn K).todo=T:=⟨_,rfl⟩
  obtain⟨NX,VN⟩:∃ NX,(D.build (lefts rs) nn K).next=NX:=⟨_,rfl⟩
  obtain⟨FX,UL⟩:∃ FX,(D.build (lefts rs) nn K).fits=FX:=⟨_,rfl⟩
  have aX:=bx (show D.build (lefts rs) nn K=⟨T,NX,FX⟩ by rw [<- hT,<- VN,<- UL]);obtain⟨hk1,hk2,hk3⟩:=hkk.o;have VJ:=D.apC (lefts rs) nn K;rw [hT] at hk2 hk3 VJ hso;rw [VN] at hk1 hso;rw [UL] at hso;have HGT:=bx VJ;have XT:=bx (show us.length=T.length by have:=(hso.at' 0 rfl).1;rw [QU] at this;simpa using this);obtain⟨aa,ac,hav,axZ,ay4⟩:=gI (hso.at' 0 rfl).2.1;rw [XT.o] at hav;subst hav;have Fe:=bx hso;clear hco hkk VJ hso hT VN UL
  by_cases hlt:K<T.length
  ·obtain⟨S,hS⟩:=bV T K hlt;have HS:=bx hS;have HGS:=bx (HGT.o S (dB hS));have atS:=bx (show JZ w T [] NX FX K g 0 nv fv sS (.slice aa T.length ac) (aj) wr from⟨us,Fe.o.kV _ _ _⟩);clear hS;go_wp2_with fail
   go_loopw [10,13,14] (λIB cv c wi=>∃ j:Nat,j<=nn+1/\c = ah j/\Box (JZ w (D.row (lefts rs) nn S T j).2 (D.row (lefts rs) nn S T j).1 NX FX K g j nv fv sS IB cv wi)/\Box ((D.row (lefts rs) nn S T j).2.length<=300)) (λ_ _ c _=>nn+1-(intOf c).toNat)
   ·exact⟨0,by omega,rfl,atS,⟨hk3⟩⟩
   obtain⟨j,hj,rfl,hci,hle⟩:=hrel;obtain⟨us,hsi⟩:=hci.o;obtain⟨⟨r,t'⟩,hrow⟩:∃ q,D.row (lefts rs) nn S T j=q:=⟨_,rfl⟩
   have zT:=bx hrow;have hpre:=D.Oi (lefts rs) nn S T j;have hrl:=D.abH (lefts rs) nn S T j;rw [hrow] at hsi hle hpre hrl;simp only at hsi hle hpre hrl;have XT:=bx (show us.length=t'.length by have:=(hsi.at' 1 rfl).1;rw [QU] at this;simpa using this);have axB:=bx (show ∀ x∈t',D.Good (lefts rs) x by
    have:=D.ZI (rs:=lefts rs) (n:=nn) (S:=S) (t:=T) HGT.o (λc=>D.good_step (lefts rs) S c) j;rw [hrow] at this;exact this)
   have HSI:=bx hsi;have tV:=bx (show ak w wr from hsi.bel (by simp));obtain⟨ca,cc,rfl,azb,ayJ⟩:=gI (hsi.row 0 rfl);have zY:=bx (Uo (hsi.at' 1 rfl));have hS':=D.aaW hpre HS.o;have hKt:K<t'.length:=(dO hS').1;have hle':=hle.o
   by_cases hjn:j<=nn
   ·obtain⟨ab,Gw,Ko,hav,ha2,pK,kQ,Oc⟩:=zY.o.get (by intro e;have:=congrArg List.length e;simp at this;subst this;simp at hKt);rw [aV] at hav ha2;subst hav;obtain⟨xv,hcx,hxi⟩:=Oc K (zs S) (by rw [eX,hS'];rfl);obtain⟨cc',hcc,hjc⟩:∃ cc:Int,D.cls nn j=cc/\((j=nn/\cc=-1)\/(j<nn/\cc=(j:Int))):=by
     refine⟨_,rfl,?_⟩;unfold D.cls
     rcases gZ j nn with h | h
     ·exact .inr ⟨h,by rw [aF (by omega)]⟩
     exact .inl ⟨by omega,by rw [aG (by omega)]⟩
    obtain⟨s,hs⟩:∃ s,D.wI (lefts rs) S cc'=s:=⟨_,rfl⟩
    have HST:=bx (alM (.slice ao rs.length cap) xv rs S cc' wr (HV.o.below tV.o) Rj Jj.o HGS.o hxi);rw [hs] at HST;have HSL:=bx (show s.length=rs.length by rw [<- hs,D.abA,Bo]);have jC:=bx (show D.row (lefts rs) nn S T (j+1)=(r++[D.place t' s],D.add t' s) by rw [D.Ov,zT.o,hcc,hs]);unfold maxLen at pK;have hKc:K<Ko:=by omega
    clear hsi hci hpre hS' Oc hxi hrow hs hcc;have aci:Calls prog 185 #[.slice ao rs.length cap,xv, ah cc'] wr λe w'=>Box (ak wr w')/\∃ la lc,e = .returned (.slice la rs.length lc)/\Box (Sep [Pc.row w.heap.size 2 1 (.slice la rs.length lc) rs.length (s.map kH),Pc.row w.heap.size 3 1 (.slice ca j cc) j (r.map kH),Pc.rows w.heap.size 27 2 (.slice (some ⟨ab,Gw,none⟩) t'.length Ko) us (xG t'),Pc.blk g 29 #[nv,fv],Pc.rows w.heap.size 22 3 nv sS (xG NX),
      Pc.row w.heap.size 2 1 fv K (FX.map kH),Pc.blk w.heap.size 29 #[aj, aj],Pc.old w.heap.size w] w'):=HST.o.mono (by
     rintro e w3 ⟨hb3,lv,rfl,hlr⟩;obtain⟨la,lc,rfl,-,-⟩:=gI hlr;exact⟨⟨hb3⟩,la,lc,rfl,⟨HSI.o.got hb3 hlr tV.o.size⟩⟩)
    have lU:=bx aci;clear aci HST;have an0:(((j:Int)==(nn:Int))=true/\cc'=-1)\/(((j:Int)==(nn:Int))=false/\cc'=(j:Int)):=by
     rcases hjc with⟨h,h'⟩ | ⟨h,h'⟩
     ·exact .inl ⟨by rw [lN];omega,h'⟩
     exact .inr ⟨fG.2 (by omega),h'⟩
    clear hjc
    rcases an0 with⟨al6,rfl⟩ | ⟨al6,rfl⟩
    all_goals
     go_wp2_with fail;refine lU.o.mono ?_;rintro e w3 ⟨hb3,la,lc,rfl,hs3⟩;have lF:=bx (avD (.slice (some ⟨ab,Gw,none⟩) t'.length Ko) (.slice la rs.length lc) t' s w3 (Uo (hs3.o.at' 2 rfl)) (by omega) (λx hx=>by rw [(axB.o x hx).1,Bo];exact Rj) (by rw [HSL.o];exact Rj) (Vt (hs3.o.row 0 rfl) HSL.o.symm));obtain⟨p,hp⟩:∃ p,D.place t' s=p:=⟨_,rfl⟩
     have jq:=bx hp;have ajt:=D.aor t' s;rw [hp] at lF ajt;rw [hp] at jC;clear hp
     rcases (show (p=300/\t'.length=300)\/(p<300/\p=t'.length)\/(p<300/\p<t'.length) by omega) with⟨hp1,hp2⟩ | ⟨hp1,hp2⟩ | ⟨hp1,hp2⟩
     ·have q1:((p:Int)==300)=true:=by rw [lN];omega
      have Ky:=bx hp1;have HP2:=bx hp2;have gU:=bx (show K+1<=300 by omega);clear hp1 hp2 ajt;go_wp2_with fail;refine aT lF.o λw4 hb4=>?_
      have dJ:=bx (hs3.o.below hb4);have Lm:=bx (auf aX.o hk1 gU.o HS.o (show j+1<=nn+1 by omega) (by rw [jC.o];simp only;rw [Za (XH (by rw [jq.o,Ky.o,HP2.o])),bC,HP2.o];exact Nat.lt_succ_self 300));have HC:=bx (show D8 rs nn=100 by unfold D8;rw [iU.o,mG,Lm.o];rfl);have HM:=bx (show Aj rs nn=([],[]) by unfold Aj;rw [iU.o,mG,Lm.o];rfl);have HR1:=bx (dJ.o.blk 6 rfl);have HB1:=bx (show ak w w4 from dJ.o.bel (by simp));have r0:=(HR1.o.cell 0).trans (show _=some (Value.slice none 0 0) from rfl);have r1:=(HR1.o.cell 1).trans (show _=some (Value.slice none 0 0) from rfl);have f0:=HR1.o.frozen 0;have f1:=HR1.o.frozen 1;have lr:=HR1.o.lt;clear hb4;go_wp2_with fail;exact bodyPost_ret (v:=.tuple #[.agg #[aj, aj], ah 100]) (Ei results104 _ _ w.heap.size 29 #[aj, aj] (0,0) _ rfl ((HR1.o.bJ 0 (aj)).bJ 1 (aj)) underlying29 rfl Rt) rfl
       ⟨(HB1.o.setCell aU _).setCell aU _,_,by rw [HC.o],by rw [HM.o];exact ahT _⟩
     ·go_wp2_with fail;refine aT lF.o λw4 hb4=>?_
      have dJ:=bx (hs3.o.below hb4);subst hp2;have q1:((t'.length:Int)==300)=false:=fG.2 (by omega);have aat:w.heap.size<=w4.heap.size:=by have:=hb3.o.size;have:=hb4.size;have:=tV.o.size;omega
      have OZ:us.length<=1000000000:=by rw [XT.o];omega
      have Hu:=bx (show xG (D.add t' s)=xG t'++[s.map kH] by rw [Za (XH jq.o),ad7]);have qB:=bx (show (D.add t' s).length<=300 by rw [Za (XH jq.o),bC];simp;omega);have OY:=bx (show j<=1000000000 by omega);clear hb4;go_wp2_with (first
       | (at_builtin;refine ac1 rfl _ _ 260 rfl aqe dJ.o 1 rfl rfl rfl rfl (by rw [aV,HSL.o]) OZ (by omega) aat ?_;rintro v' w5 hS5 ⟨g5,c5,rfl,h51,h52⟩;have aoj:=(hS5.bel (n:=w.heap.size) (W0:=w) (by simp)).size)
       | (at_builtin;refine vM rfl _ _ 22 rfl yO hS5 0 rfl rfl rfl rfl OY.o (by omega) aoj ?_;rintro v' w6 hS6 -))
      have BH:=bx (show JZ w (D.row (lefts rs) nn S T (j+1)).2 (D.row (lefts rs) nn S T (j+1)).1 NX FX K g (j+1) nv fv sS (.slice (some ⟨g5,0,none⟩) (us.length+1) c5) v' w6 by
       rw [jC.o];unfold JZ;simp only;rw [Hu.o,gX];exact⟨_,hS6⟩)
      clear hS5 hS6
      go_wp2
      go_roundw
      ·exact⟨j+1,by omega,by go_num,BH,⟨by rw [jC.o];exact qB.o⟩⟩
      simp [intOf];omega
     go_wp2_with fail;refine aT lF.o λw4 hb4=>?_
     have dJ:=bx (hs3.o.below hb4).tail;have q1:((p:Int)==300)=false:=fG.2 (by omega);have q2:((p:Int)==(t'.length:Int))=false:=fG.2 (by omega);have aat:w.heap.size<=w4.heap.size:=by have:=hb3.o.size;have:=hb4.size;have:=tV.o.size;omega
     have hmem:s∈t':=by
      rcases Classical.em (s∈t') with h | h
      ·exact h
      have:=D.YL h;rw [jq.o] at this;omega
     have Hu:=bx (aj6 hmem);have OY:=bx (show j<=1000000000 by omega);clear hb4 hmem;go_wp2_with (at_builtin;refine vM rfl _ _ 22 rfl yO dJ.o 0 rfl rfl rfl rfl OY.o (by omega) aat ?_;rintro v' w6 hS6 -)
     have BH:=bx (show JZ w (D.row (lefts rs) nn S T (j+1)).2 (D.row (lefts rs) nn S T (j+1)).1 NX FX K g (j+1) nv fv sS (.slice (some ⟨ab,Gw,none⟩) t'.length Ko) v' w6 by
      rw [jC.o];unfold JZ;simp only;rw [Hu.o,gX];exact⟨_,hS6⟩)
     clear hS6
     go_wp2
     go_roundw
     ·exact⟨j+1,by omega,by go_num,BH,⟨by rw [jC.o];simp only;rw [Hu.o];exact hle'⟩⟩
     simp [intOf];omega
   obtain⟨na,nc,rfl,anX,alc⟩:=gI (hsi.at' 3 rfl).2.1;obtain⟨Gu,FQ,rfl,aaz,U9⟩:=gI (hsi.row 4 rfl);have anz:=bx (show sS.length=NX.length by have:=(hsi.at' 3 rfl).1;rw [QU] at this;simpa using this);have hu2:sS.length<=1000000000:=by rw [anz.o,hk1];omega
   have hbs:w.heap.size<=wr.heap.size:=tV.o.size;have HG0:=bx (hsi.blk 2 rfl);have cg0:wr.cell? ⟨g,0,none⟩=some (.slice na sS.length nc):=(HG0.o.cell 0).trans rfl;have lg:=HG0.o.lt;have HLR:=bx (show j=(r.map kH).length by rw [aV,hrl]);have hj':j=nn+1:=by omega
   have HJ:=bx hj';have aiq:=bx hsi;clear hsi hci hpre hS' hrl hrow hj';go_wp2_with (at_builtin;refine ac1 rfl _ _ 23 rfl TA aiq.o 2 rfl rfl rfl rfl HLR.o hu2 (by omega) hbs ?_;rintro v' w5 hS5 ⟨g5,c5,rfl,h51,h52⟩;have AU:=bx (hS5.blk 1 rfl);have e0:=(AU.o.cell 0).trans (show _=some (Value.slice na sS.length nc) from rfl);have f0:=AU.o.frozen 0;have l5:=AU.o.lt;have dV:=bx (hS5.set 1 rfl 0 (.slice (some ⟨g5,0,none⟩) (sS.length+1) c5)))
   simp only [List.set] at dV;generalize w5.setCell ⟨g,0,none⟩ (.slice (some ⟨g5,0,none⟩) (sS.length+1) c5)=w6 at dV ⊢;clear e0 f0 l5 AU hS5 aiq cg0 lg HG0 hu2 hbs;have aeZ:w.heap.size<=w6.heap.size:=(dV.o.bel (n:=w.heap.size) (W0:=w) (by simp)).size;have atJ:=bx (show t'[K]?=some S from D.aaW (by have:=D.Oi (lefts rs) nn S T j;rw [zT.o] at this;exact this) HS.o);obtain⟨WR,QF⟩:∃ WR,WR=w6.drew:=⟨_,rfl⟩
   have vG:=bx (show Sep _ WR by rw [QF];exact dV.o.drew);have atc:w.heap.size<=WR.heap.size:=by rw [QF];exact aeZ
   have dL:=bx (show ak w WR from vG.o.bel (by simp));have ag2:=Uo (vG.o.at' 0 rfl);obtain⟨ab,Gw,Ko,hav,ha2,pK,kQ,Oc⟩:=ag2.get (by intro e;have:=congrArg List.length e;simp at this;subst this;simp at hKt);rw [aV] at hav ha2;subst hav;obtain⟨xv,hcx,hxi⟩:=Oc K (zs S) (by rw [eX,atJ.o];rfl);unfold maxLen at pK;have MQ:=bx (aq9 (.slice ao rs.length cap) xv rs S WR (HV.o.below dL.o) Rj Jj.o HGS.o hxi);have HG:=bx (vG.o.blk 1 rfl);have fQ:=bx (show ∀ W',ak WR W'->ay W' g 1=some (.slice Gu K FQ)/\ay W' ab (Gw+K)=some xv from λW' h=>⟨((HG.o.below h HG.o.lt).cell 1).trans rfl,(h.cell (p:=⟨ab,Gw+K,none⟩) kQ).trans hcx⟩);have hF0:=fQ.o WR aZ;have lgR:=HG.o.lt;clear hcx Oc hxi ag2 aeZ dV;refine jl 9 (λW=>ay W g 1=some (.slice Gu K FQ)/\ay W ab (Gw+K)=some xv) (by kernel_rfl) ?_;rw [<- QF];clear QF;have gK:=bx hF0;clear hF0;refine jB [0,1,2,3,4,5,6] ?_
   iterate 7 (refine jA ?_ rfl gK.o ?_ ?_;rotate_left;·rintro w ⟨q1,q2⟩;go_simp;try with_reducible rfl)
   refine jr ?_;refine kP 7 rfl λKK au=>?_
   go_simp;go_wp2_with (go_at_call 187;refine MQ.o.mono ?_;rintro e w7 ⟨rfl,hb7⟩)
   have bW:=bx (show ak WR w7 from hb7);have cO:=bx (vG.o.below hb7);have anW:w.heap.size<=w7.heap.size:=bP atc hb7.size;clear hb7;refine au.out _ _ (λ_=>fQ.o _ bW.o) ?_;clear au KK;refine kP 8 rfl λKK au=>?_
   go_simp;refine au.out _ _ (λ_=>fQ.o _ (bW.o.alloc bW.o.size _)) ?_;clear au KK;refine kP 9 rfl λKK au=>?_
   refine KU rfl _ _ 27 rfl WG cO.o 3 rfl (by kernel_rfl) (by kernel_rfl) rfl (by omega) (by omega) anW ?_;rintro v' w8 fZ ⟨g8,c8,rfl,h81,h82⟩;refine au.out _ _ (λh=>by cases h) ?_;clear au KK;have OM:=bx (fZ.blk 1 rfl);have e0:=(OM.o.cell 1).trans (show _=some (Value.slice Gu K FQ) from rfl);have f0:=OM.o.frozen 1;have l8:=OM.o.lt;have gV:=bx (fZ.set 1 rfl 1 (.slice (some ⟨g8,0,none⟩) (K+1) c8));clear fZ;refine kP 10 rfl λKK au=>?_
   go_simp;refine au.out _ _ (λh=>by cases h) ?_;clear au KK;refine kP 11 rfl λKK au=>?_
   go_simp;refine au.out _ _ (λh=>by cases h) ?_;clear au KK;refine kD ?_ _;have HBN:=bx (show D.build (lefts rs) nn (K+1)=⟨t',NX++[r],FX++[D.pI (lefts rs) S (lefts rs).length]⟩ from akR aX.o hk1 HS.o (by have:=zT.o;rw [HJ.o] at this;exact this));have alB:=bx (show Uy w rs nn (K+1) g (.slice (some ⟨ab,Gw,none⟩) t'.length Ko) (w8.setCell ⟨g,1,none⟩ (.slice (some ⟨g8,0,none⟩) (K+1) c8)) by
    unfold Uy;rw [HBN.o];simp only;rw [ad7,gX,Bo];exact⟨_,_,_,_,gV.o⟩)
   have arB:=bx (show (D.build (lefts rs) nn (K+1)).next.length=K+1/\K+1<=(D.build (lefts rs) nn (K+1)).todo.length/\(D.build (lefts rs) nn (K+1)).todo.length<=300 by
    rw [HBN.o];simp only;rw [bC,hk1];exact⟨rfl,hKt,hle'⟩)
   go_wp2
   go_roundw
   ·exact⟨K+1,by omega,by go_num,alB,arB⟩
   simp [intOf];omega
  have LG:=bx (show T.length<=NX.length by rw [hk1];omega);have Jk:=bx (show D.build (lefts rs) nn 300=⟨T,NX,FX⟩ by
   rw [<- aX.o];exact D.Wp _ _ hK (by rw [aX.o];exact LG.o))
  have aej:=bx (show D.EI (lefts rs) nn=true from D.ad8 _ _ hK (by rw [aX.o];exact LG.o) (by rw [aX.o];exact hk3));have HC:=bx (show D8 rs nn=0 by unfold D8;rw [iU.o,mG,aej.o];rfl);have HM:=bx (show Aj rs nn=Tj ⟨T,NX,FX⟩ by unfold Aj Xi;rw [iU.o,mG,aej.o,Jk.o];rfl);have HG:=bx (Fe.o.blk 1 rfl);have jC:=bx (Fe.o.blk 4 rfl);have Eh:=bx (show w.heap.size≠g from λe=>Fe.o.tail.head |> λ_=>(Fe.o.tail.2.1 (Pc.blk w.heap.size 29 #[aj, aj]) (by simp) g rfl) e.symm);obtain⟨na,nc,rfl,anX,alc⟩:=gI (Fe.o.at' 2 rfl).2.1;obtain⟨Gu,FQ,rfl,aaz,U9⟩:=gI (Fe.o.row 3 rfl);have c0:=(HG.o.cell 0).trans (show _=some (Value.slice na sS.length nc) from rfl);have c1:=(HG.o.cell 1).trans (show _=some (Value.slice Gu K FQ) from rfl);have lg:=HG.o.lt;have q0:=(jC.o.cell 0).trans (show _=some (Value.slice none 0 0) from rfl);have q1:=(jC.o.cell 1).trans (show _=some (Value.slice none 0 0) from rfl);have f0:=jC.o.frozen 0;have f1:=jC.o.frozen 1;have lr:=jC.o.lt;have gV:=bx ((Fe.o.set 4 rfl 0 (.slice na sS.length nc)).set 4 rfl 1 (.slice Gu K FQ));have fA:=bx (show ak w wr from Fe.o.bel (by simp));have hlk:T.length=K:=by omega
  have aqC:=bx (show K=FX.length by have:=D.ae8 (lefts rs) nn K;rw [aX.o] at this;have:=this.1;simp only at this;omega);go_wp2_with fail;exact bodyPost_ret (v:=.tuple #[.agg #[.slice na sS.length nc, .slice Gu K FQ], ah 0]) (Ei results104 _ _ w.heap.size 29 #[.slice na sS.length nc, .slice Gu K FQ] (0,0) _ rfl (gV.o.blk 4 rfl) underlying29 rfl Rt) rfl
   ⟨(fA.o.setCell aU _).setCell aU _,_,by rw [HC.o],by rw [HM.o];exact alA (Uo (gV.o.at' 2 rfl)) (Vt (gV.o.row 3 rfl) aqC.o)⟩
def Dk (M:D.gJ):Prop:=M.1.length<=1000/\M.2.length<=1000/\∀ r∈M.1,r.length<=1000
def toR (L:Nat) (t:Int):Bool:=decide (0<=t)&&decide (t<L)
def zx (n:Int) (M:D.gJ) (i:Nat):Bool:=decide (((M.1.getD i []).length:Int)=n+1)&&(M.1.getD i []).all (toR M.1.length)&&decide (0<=M.2.getD i 0)&&decide (M.2.getD i 0<1099511627776)
def pO (n:Int) (M:D.gJ):Bool:=decide (1<=n)&&decide (n<=32)&&decide (1<=M.1.length)&&decide (M.1.length<=300)&&decide (M.2.length=M.1.length)&&(List.range M.1.length).all (zx n M)
theorem awF (t:Int) (bm:Nat) (na:Option Addr) (L nc:Nat) (w:World) (hc:w.cell? ⟨bm,0,none⟩=some (.slice na L nc)) (_hlt:bm<w.heap.size) :
  Calls prog 272 #[ah t, aA bm] w λe w'=>e = .returned (.bool (!toR L t))/\w=w':=by
 unfold toR
 go_in
 rcases sZ t 0 with h | h
 ·go_wp2
  go_ret
  exact⟨aY (by simp;omega),rfl⟩
 rcases sZ t L with h2 | h2
 ·go_wp2
  go_ret
  exact⟨aY (by simp [h,h2]),rfl⟩
 go_wp2
 go_ret
 exact⟨aY (by simp <;> omega),rfl⟩
theorem amB (v:Value) (xs:List Int) (bm:Nat) (na:Option Addr) (L nc:Nat) (w:World) (hv:aN w v xs) (hz:xs.length<=16777216) (hc:w.cell? ⟨bm,0,none⟩=some (.slice na L nc)) (hlt:bm<w.heap.size) :
  Calls prog 279 #[v, .func (.func 272) #[] #[aA bm]] w λe w'=>(∃ i:Int,e = .returned (ah i)/\decide (0<=i)=!xs.all (toR L))/\w=w':=by
 have mO:=bx hv;obtain⟨ao,cap,rfl⟩:=hv.slice;have HO:=bx (λt=>awF t bm na L nc w hc hlt);clear hv hc
 go_in
 go_wp2
 go_loop [8] (λi=>∃ k:Nat,k<=xs.length/\i = ah k/\Box ((xs.take k).all (toR L)=true)) (λi=>xs.length-(intOf i).toNat)
 ·exact⟨0,by omega,rfl,⟨rfl⟩⟩
 obtain⟨k,hk,rfl,ha⟩:=hrel
 by_cases hlt':k<xs.length
 ·obtain⟨x,hx⟩:∃ x,xs[k]?=some x:=⟨_,dW hlt'⟩
  obtain⟨g,off,cap2,hg1,hg2,hg3,hg4,hg5⟩:=mO.o.get (by rintro rfl;simp at hlt');obtain⟨rfl,rfl⟩:=dQ hg1;have hcx:=hg5 k x hx;have HX:=bx hx;unfold maxLen at hg3;clear hx hg1 hg5
  cases hi:toR L x with
  | true =>
   have HT:=bx (show (xs.take (k+1)).all (toR L)=true by rw [jw,HX.o,List.all_append,ha.o];simp [hi]);have HI:=bx (show (!toR L x)=false by rw [hi];rfl);clear hi;go_wp2_with fail;refine aP (HO.o x) ?_;rw [HI.o];go_wp2_with fail
   go_round
   ·exact⟨k+1,hlt',by go_num,HT⟩
   simp [intOf];omega
  | false =>
   have HT:=bx (show xs.all (toR L)=false by
    rw [Bool.eq_false_iff];intro h;rw [jG] at h;rw [h x (dB HX.o)] at hi
    cases hi)
   have HI:=bx (show (!toR L x)=true by rw [hi];rfl);clear hi;go_wp2_with fail;refine aP (HO.o x) ?_;rw [HI.o]
   go_wp2
   go_ret
   exact⟨⟨k,rfl,by rw [HT.o];simp⟩,rfl⟩
 have HT:=bx (show xs.all (toR L)=true by have:=ha.o;rwa [gq (by omega)] at this)
 go_wp2
 go_ret
 exact⟨⟨-1,rfl,by rw [HT.o];rfl⟩,rfl⟩
theorem ao3 (v:Value) (xs:List Int) (bm:Nat) (na:Option Addr) (L nc:Nat) (w:World) (hv:aN w v xs) (hz:xs.length<=16777216) (hc:w.cell? ⟨bm,0,none⟩=some (.slice na L nc)) (hlt:bm<w.heap.size) :
  Calls prog 215 #[v, .func (.func 272) #[] #[aA bm]] w λe w'=>e = .returned (.bool (!xs.all (toR L)))/\w=w':=by
 have HI:=bx (amB v xs bm na L nc w hv hz hc hlt);clear hv hc
 go_in
 go_wp2_with fail;refine HI.o.mono ?_;rintro e w1 ⟨⟨i,rfl,hi⟩,rfl⟩;have HX:=bx hi;clear hi
 go_wp2
 go_ret
 exact⟨aY (by simpa using HX.o),rfl⟩
theorem RY {n:Int} {M:D.gJ} {k:Nat} (hk:k<M.1.length) (h:zx n M k=false):pO n M=false:=by
 unfold pO;rw [show (List.range M.1.length).all (zx n M)=false by
  rw [Bool.eq_false_iff];intro ha;rw [jG] at ha;rw [ha k (oM.2 hk)] at h
  cases h]
 simp
theorem Zn (v:Value) (M:D.gJ) (n:Int) (w:World) (hv:tZ w v M) (hM:Dk M) :
  Calls prog 207 #[v, ah n] w λe w'=>e = .returned (.bool (pO n M))/\ak w w':=by
 obtain⟨na,fa,rfl,hra,hia⟩:=hv;have zY:=bx hra;have SG:=bx hia;have HFM:=bx hM;obtain⟨aa,ca,rfl⟩:=hra.slice;obtain⟨fo,fc,rfl⟩:=hia.slice;obtain⟨w2,hw2⟩:∃ w2,w2=w.alloc (.cells #[.slice aa M.1.length ca, .slice fo M.2.length fc] 29):=⟨_,rfl⟩
 have HW2:=bx hw2;have hbw:ak w w2:=by rw [hw2];exact dA _ _
 have bM:=bx hbw;have kX:=bx (show aC w2 w.heap.size 29 #[.slice aa M.1.length ca, .slice fo M.2.length fc] by rw [hw2];exact aC.new w _ _);have c0:w2.cell? ⟨w.heap.size,0,none⟩=some (.slice aa M.1.length ca):=(kX.o.cell 0).trans rfl;have c1:w2.cell? ⟨w.heap.size,1,none⟩=some (.slice fo M.2.length fc):=(kX.o.cell 1).trans rfl;have l0:=kX.o.lt;clear hra hia hM hbw hw2
 by_cases hg:1<=n/\n<=32/\1<=M.1.length/\M.1.length<=300/\M.2.length=M.1.length
 ·obtain⟨g1,g2,g3,g4,g5⟩:=hg;have MP:=bx (show pO n M=(List.range M.1.length).all (zx n M) by
   unfold pO;rw [bD g1,bD g2,bD g3,bD g4,bD g5];rfl)
  have AU:=bx g5;have hf5:(M.2.length:Int)=(M.1.length:Int):=by omega
  rw [g5] at c1;clear g5
  go_in
  go_upto_region 1 with(fail)
  rw [<- HW2.o];go_wp2_with fail
  go_loop [39] (λi=>∃ k:Nat,k<=M.1.length/\i = ah k/\Box ((List.range k).all (zx n M)=true)) (λi=>M.1.length-(intOf i).toNat)
  ·exact⟨0,by omega,rfl,⟨rfl⟩⟩
  obtain⟨k,hk,rfl,ha⟩:=hrel
  by_cases hlt:k<M.1.length
  ·obtain⟨x,hx⟩:=bV M.1 k hlt;obtain⟨y,hy⟩:=bV M.2 k (by rw [AU.o];exact hlt);obtain⟨pa,oa,ca',ha0,ha1,ha2,pK,kQ⟩:=(zY.o.below bM.o).get (by intro e;rw [e] at hlt;simp at hlt);obtain⟨rfl,rfl⟩:=dQ ha0;obtain⟨pb,ob,cb',hb0,hb1,hb2,hb3,hb4⟩:=(SG.o.below bM.o).get (by intro e;rw [e] at hy;simp at hy);obtain⟨rfl,rfl⟩:=dQ hb0;obtain⟨xv,hxc,hxi⟩:=kQ k x hx;have hyc:=hb4 k y hy;have Nk:=bx (show zx n M k=(decide ((x.length:Int)=n+1)&&x.all (toR M.1.length)&&decide (0<=y)&&decide (y<1099511627776)) by
    unfold zx;rw [show M.1.getD k []=x by rw [List.getD,hx];rfl,show M.2.getD k 0=y by rw [List.getD,hy];rfl])
   have BH:=bx (ao3 xv x w.heap.size (some ⟨pa,oa,none⟩) M.1.length ca w2 hxi (by have:=HFM.o.2.2 x (dB hx);omega) c0 l0);obtain⟨xo,xc,rfl⟩:=hxi.slice;have yP:=bx hlt;have hxz:=HFM.o.2.2 x (dB hx);rw [AU.o] at hb1;unfold maxLen at ha2 hb2;clear ha0 kQ hb0 hb4 hx hy hxi
   by_cases hl1:(x.length:Int)=n+1
   ·have nM:=bx hl1;have q1:((x.length:Int)==n+1)=true:=by rw [lN];exact hl1
    clear hl1
    cases hal:x.all (toR M.1.length) with
    | true =>
     have qB:=bx (show (!x.all (toR M.1.length))=false by rw [hal];rfl)
     rcases sZ y 0 with hy0 | hy0
     ·have HF:=bx (RY yP.o (show zx n M k=false by rw [Nk.o,bD nM.o,hal];simp;omega));clear hal;go_wp2_with (go_at_call 215;refine aP BH.o ?_;rw [qB.o])
      all_goals first | (exact absurd nM.o (by assumption)) | (exfalso;omega) | skip
      go_ret
      exact⟨aY (by rw [HF.o]),bM.o⟩
     rcases sZ y 1099511627776 with hy1 | hy1
     ·have HT:=bx (show (List.range (k+1)).all (zx n M)=true by
       rw [List.range_succ,List.all_append,ha.o];simp only [List.all_cons,List.all_nil,Bool.and_true,Bool.true_and];rw [Nk.o,bD nM.o,hal,bD hy0,bD hy1];rfl)
      clear hal;go_wp2_with (go_at_call 215;refine aP BH.o ?_;rw [qB.o])
      all_goals first | (exact absurd nM.o (by assumption)) | (exfalso;omega) | skip
      go_round
      ·exact⟨k+1,hlt,by go_num,HT⟩
      simp [intOf];omega
     have HF:=bx (RY yP.o (show zx n M k=false by rw [Nk.o,bD nM.o,hal];simp;omega));clear hal;go_wp2_with (go_at_call 215;refine aP BH.o ?_;rw [qB.o])
     all_goals first | (exact absurd nM.o (by assumption)) | (exfalso;omega) | skip
     go_ret
     exact⟨aY (by rw [HF.o]),bM.o⟩
    | false =>
     have qB:=bx (show (!x.all (toR M.1.length))=true by rw [hal];rfl);have HF:=bx (RY yP.o (show zx n M k=false by rw [Nk.o,hal];simp));clear hal;go_wp2_with (go_at_call 215;refine aP BH.o ?_;rw [qB.o])
     all_goals first | (exact absurd nM.o (by assumption)) | (exfalso;omega) | skip
     go_ret
     exact⟨aY (by rw [HF.o]),bM.o⟩
   have HF:=bx (RY yP.o (show zx n M k=false by rw [Nk.o,dh hl1];rfl));have q1:((x.length:Int)==n+1)=false:=fG.2 hl1;have Eh:=bx hl1;clear hl1;go_wp2_with fail
   all_goals first | (exact absurd (by assumption) Eh.o) | skip
   go_ret
   exact⟨aY (by rw [HF.o]),bM.o⟩
  have HT:=bx (show pO n M=true by rw [MP.o,show M.1.length=k by omega];exact ha.o)
  go_wp2
  go_ret
  exact⟨aY (by rw [HT.o]),bM.o⟩
 have HF:=bx (show pO n M=false by
  unfold pO;rw [Bool.eq_false_iff];intro h;simp only [dD,fD] at h;exact hg ⟨h.1.1.1.1.1,h.1.1.1.1.2,h.1.1.1.2,h.1.1.2,h.1.2⟩)
 have hg':n<1\/(1<=n/\32<n)\/(1<=n/\n<=32/\M.1.length<1)\/(1<=n/\n<=32/\1<=M.1.length/\300<M.1.length)\/(1<=n/\n<=32/\1<=M.1.length/\M.1.length<=300/\((M.2.length:Int) != (M.1.length:Int))=true):=by
  simp only [Ji,ne_eq];omega
 clear hg
 rcases hg' with g1 | ⟨g1,g2⟩ | ⟨g1,g2,g3⟩ | ⟨g1,g2,g3,g4⟩ | ⟨g1,g2,g3,g4,g5⟩
 all_goals
  go_in
  go_upto_region 1 with(fail)
  rw [<- HW2.o];go_wp2_with fail
  all_goals first | (exfalso;omega) | (exfalso;simp_all;done) | skip
  go_ret
  exact⟨aY (by rw [HF.o]),bM.o⟩
theorem Sep.lit {ps:List Pc} {W:World} (h:Sep ps W) {base:Nat} {e:TypeId} {cs:Array Value} {n:Nat} (hb:base<=W.heap.size) (hn:n=cs.size) (hm:n<=1000000):Sep (Pc.row base e 1 (.slice (some ⟨W.heap.size,0,none⟩) n n) n cs.toList::ps) (W.alloc (.cells cs e)):=by
 subst hn;refine h.add (aZ.alloc aU _) ⟨by simp, .inr ⟨W.heap.size,cs.size,cs,rfl,hb,heap_alloc_new _ _,bK _,by unfold maxLen;omega,by simp,?_⟩⟩ (λk hk=>?_)
 ·rw [Nat.mul_one,<- Array.length_toList,mQ]
 simp [Pc.row,Value.ownBlock] at hk;omega
def stepM (n:Nat) (M:D.gJ) (at':Nat) (c:Int):Nat:=((M.1.getD at' []).getD (xA n c) 0).toNat
def stM (n:Nat) (M:D.gJ) (l:List Int) (i:Nat):Nat:=(l.take i).foldl (stepM n M) 0
def sW (n:Nat) (M:D.gJ) (l:List Int):List Nat:=(List.range (l.length+1)).map (stM n M l)
theorem aj7 {n:Nat} {M:D.gJ} {l:List Int} {i:Nat} {c:Int} (h:l[i]?=some c):stM n M l (i+1)=stepM n M (stM n M l i) c:=by
 unfold stM;rw [take_snoc' _ _ _ h,List.foldl_append];rfl
theorem VB {n:Nat} {M:D.gJ} (h:pO n M=true) {a:Nat} (ha:a<M.1.length) :
  ∃ r,M.1[a]?=some r/\r.length=n+1/\(∀ c,c<=n->∃ x:Int,r[c]?=some x/\0<=x/\x<M.1.length)/\∃ f:Int,M.2[a]?=some f/\0<=f/\f<1099511627776:=by
 unfold pO at h;simp only [dD,fD] at h;obtain⟨⟨⟨⟨⟨h1,h2⟩,h3⟩,h4⟩,h5⟩,h6⟩:=h;rw [jG] at h6;have h7:=h6 a (oM.2 ha);have hr:M.1[a]?=some M.1[a]:=dW ha;have hf:M.2[a]?=some (M.2[a]'(by omega)):=dW (by omega);unfold zx at h7;rw [show M.1.getD a []=M.1[a] by rw [List.getD,hr];rfl,show M.2.getD a 0=M.2[a]'(by omega) by rw [List.getD,hf];rfl] at h7;simp only [dD,fD] at h7;obtain⟨⟨⟨k1,k2⟩,k3⟩,k4⟩:=h7;refine⟨_,hr,by omega,λc hc=>?_,_,hf,k3,k4⟩;have hcl:c<M.1[a].length:=by omega
 rw [jG] at k2;have k5:=k2 _ (List.getElem_mem hcl);unfold toR at k5;simp only [dD,fD] at k5;exact⟨_,dW hcl,k5.1,k5.2⟩
theorem LD {n:Int} {M:D.gJ} (h:pO n M=true):1<=n/\n<=32/\1<=M.1.length/\M.1.length<=300/\M.2.length=M.1.length:=by
 unfold pO at h;simp only [dD,fD] at h;exact⟨h.1.1.1.1.1,h.1.1.1.1.2,h.1.1.1.2,h.1.1.2,h.1.2⟩
theorem axi {n:Nat} {M:D.gJ} (h:pO n M=true) {a:Nat} (ha:a<M.1.length) (c:Int):stepM n M a c<M.1.length:=by
 obtain⟨r,hr,hl,hc,-⟩:=VB h ha;obtain⟨x,hx,h0,h1⟩:=hc (xA n c) (UF n c);unfold stepM;rw [show M.1.getD a []=r by rw [List.getD,hr];rfl,show r.getD (xA n c) 0=x by rw [List.getD,hx];rfl];omega
theorem adp {n:Nat} {M:D.gJ} (h:pO n M=true) (l:List Int):∀ i,stM n M l i<M.1.length:=by
 intro i;unfold stM;have key:∀ (t:List Int) (a:Nat),a<M.1.length->t.foldl (stepM n M) a<M.1.length:=by
  intro t
  induction t with
  | nil=>intro a ha;exact ha
  | cons c t ih=>intro a ha;exact ih _ (axi h ha c)
 exact key _ 0 (by have:=(LD h).2.2.1;omega)
theorem amS {n:Nat} {M:D.gJ} {l:List Int} {i:Nat} (h:i<=l.length):(sW n M l)[i]?=some (stM n M l i):=by
 unfold sW;rw [eX,yj (by omega)];rfl
theorem axa (n:Nat) (M:D.gJ) (l:List Int):(sW n M l).length=l.length+1:=by unfold sW;simp
theorem akV {n:Nat} {M:D.gJ} {l:List Int} {i:Nat} (h:i<l.length):(sW n M l).take (i+2)=(sW n M l).take (i+1)++[stM n M l (i+1)]:=take_snoc' _ _ _ (amS (by omega))
def goCode (n:Int) (M:D.gJ):Int:=if pO n M=true then 0 else 100
def aqt (n:Int) (M:D.gJ) (l:List Int) (w:World) (e:Ending) (w':World):Prop :=
 ak w w'/\∃ v,e = .returned (.tuple #[v, ah (goCode n M)])/\w'.ownsRow w.heap.size 3 1 v (if pO n M=true then l.length+1 else 0) ((if pO n M=true then sW n.toNat M l else []).map kH)
theorem akT (A:Nat->Addr) (B:Nat) (v lv:Value) (M:D.gJ) (n:Int) (l:List Int) (w:World) (hv:tZ w v M) (hM:Dk M) (hl:aN w lv l) (hz:l.length<=16777216) (hD:Ed A B w) (hB:B<=w.heap.size) :
  Calls prog 210 #[v, ah n,lv] w (aqt n M l w):=by
 have iU:=bx (λW (h:ak w W)=>Zn v M n W (hv.below h) hM);have HD:=bx (λW (h:ak w W)=>hD.below (h.mono hB));have HL:=bx hl;have Eu:=bx hv;obtain⟨na,fa,rfl,hra,-⟩:=hv;obtain⟨aa,ca,rfl⟩:=hra.slice;obtain⟨lo,lc,rfl⟩:=hl.slice;have zY:=bx hra;obtain⟨w2,hw2⟩:∃ w2,w2=(w.alloc (.cells #[.slice aa M.1.length ca,fa] 29)).alloc (.cells #[ah 0] 3):=⟨_,rfl⟩
 have HW2:=bx hw2;have HS2:=bx (show Sep [Pc.row w.heap.size 3 1 (.slice (some ⟨w.heap.size+1,0,none⟩) 1 1) 1 [ah 0],Pc.blk w.heap.size 29 #[.slice aa M.1.length ca,fa],Pc.old w.heap.size w] w2 by
  have h1:=(Sep.start w).eu 29 #[.slice aa M.1.length ca,fa];have h2:=h1.lit (base:=w.heap.size) (e:=3) (cs:=#[ah 0]) (n:=1) (by simp) rfl (by omega);rw [hw2]
  simpa using h2)
 have hb2:ak w w2:=HS2.o.bel (by simp);have HB2:=bx hb2;have hba:=HS2.o.blk 1 rfl;have c0:w2.cell? ⟨w.heap.size,0,none⟩=some (.slice aa M.1.length ca):=(hba.cell 0).trans rfl;have c1:w2.cell? ⟨w.heap.size,1,none⟩=some fa:=(hba.cell 1).trans rfl;have l0:=hba.lt;clear hra hl hM hD hw2 hb2 hba
 cases hr:pO n M with
 | false =>
  have HR:=bx hr;have HC:=bx (show goCode n M=100 by unfold goCode;rw [hr];rfl);clear hr
  go_in
  go_wp2_with fail;refine uz 0 rfl ?_
  go_upto_region 3 with(fail)
  rw [<- HW2.o];go_wp2_with fail;refine(iU.o _ HB2.o).mono ?_;rintro e w3 ⟨rfl,hb3⟩;rw [HR.o];have HB3:=aJ HB2 hb3;have hD3:=HD.o w3 HB3.o;have hg:=hD3.var 10 (by decide);have HT:=bx (awj A B 10 (by decide) w3 hD3);unfold oZ at HT;clear hb3 hD3;go_wp2_with fail
  go_step3
  refine⟨rfl,?_⟩;go_wp2_with fail;refine aP HT.o ?_;go_wp2_with fail;rw [Exit.noGoto_ret];go_ret2;refine⟨HB3.o,_,by rw [HC.o];rfl,?_⟩;rw [HR.o];exact World.ownsRow_nil _ _ _ _
 | true =>
  have HR:=bx hr;obtain⟨h1,h2,h3,h4,h5⟩:=LD hr;obtain⟨nn,rfl⟩:=oJ (show 0<=n by omega);have HC:=bx (show goCode nn M=0 by unfold goCode;rw [hr];rfl);have iT:=bx (λ(c:Int) (W:World)=>apt c nn W (by omega) (by omega));have yP:=bx (λi=>adp hr l i);have zT:=bx (λ{a:Nat} (ha:a<M.1.length)=>VB hr ha);have tY:=bx (show (sW nn M l).take 1=[0] by unfold sW;rw [List.range_succ_eq_map];rfl);clear hr h5
  go_in
  go_wp2_with fail;refine uz 0 rfl ?_
  go_upto_region 3 with(fail)
  rw [<- HW2.o];go_wp2_with fail;refine(iU.o _ HB2.o).mono ?_;rintro e w3 ⟨rfl,hb3⟩;rw [HR.o];have aS:=bx (show Sep [Pc.row w.heap.size 3 1 (.slice (some ⟨w.heap.size+1,0,none⟩) 1 1) (0+1) (((sW nn M l).take (0+1)).map kH),Pc.blk w.heap.size 29 #[.slice aa M.1.length ca,fa],Pc.old w.heap.size w] w3 by
   rw [tY.o];exact HS2.o.below (hb3.mono HB2.o.size |> λ_=>hb3.mono aU |> λ_=>by
    exact⟨hb3.os,hb3.tape,hb3.output,hb3.size,λk hk=>hb3.block k hk⟩))
  clear hb3 c0 c1 l0;go_wp2_with fail
  go_loopw [8,9,20] (λat' o i wr=>∃ k:Nat,k<=l.length/\i = ah k/\at' = ah (stM nn M l k)/\Box (Sep [Pc.row w.heap.size 3 1 o (k+1) (((sW nn M l).take (k+1)).map kH),Pc.blk w.heap.size 29 #[.slice aa M.1.length ca,fa],Pc.old w.heap.size w] wr)) (λ_ _ i _=>l.length-(intOf i).toNat)
  ·exact⟨0,by omega,rfl,rfl,aS⟩
  obtain⟨k,hk,rfl,rfl,hsep⟩:=hrel;have dL:=bx (show ak w wr from hsep.o.bel (by simp))
  by_cases hlt:k<l.length
  ·obtain⟨c,hc⟩:=bV l k hlt;obtain⟨lb,ak7,aub,k1,k2,k3,k4,k5⟩:=(HL.o.below dL.o).get (by rintro rfl;simp at hlt);obtain⟨rfl,rfl⟩:=dQ k1;have hlc:=k5 k c hc;have hat:=yP.o k;have FZ:=bx (yP.o (k+1));obtain⟨r,hr1,hr2,hr3,-⟩:=zT.o hat
   obtain⟨x,hx1,hx2,hx3⟩:=hr3 (xA nn c) (UF nn c);have HST:=bx (show stM nn M l (k+1)=x.toNat by
    rw [aj7 hc];unfold stepM;rw [show M.1.getD (stM nn M l k) []=r by rw [List.getD,hr1];rfl,show r.getD (xA nn c) 0=x by rw [List.getD,hx1];rfl])
   have nH:=bx (akV (n:=nn) (M:=M) hlt);have hcl:=UF nn c;obtain⟨pa,oa,ca',ha0,ha1,ha2,pK,kQ⟩:=(zY.o.below dL.o).get (by intro e;rw [e] at hr1;simp at hr1);obtain⟨rfl,rfl⟩:=dQ ha0;obtain⟨xv,hxc,hxi⟩:=kQ _ r hr1;obtain⟨rb,roff,UM,r1,r2,r3,r4,r5⟩:=hxi.get (by rintro rfl;simp at hr2);rw [hr2] at r1 r2;subst r1;have hxx:=r5 _ x hx1;have hba:=hsep.o.blk 1 rfl;have ajH:=bx (λW=>iT.o c W);obtain⟨oo,oc,rfl,ho1,ho2⟩:=gI (hsep.o.row 0 rfl);have iE:=bx (show ∀ W,ak wr W->ay W w.heap.size 0=some (.slice (some ⟨pa,oa,none⟩) M.1.length ca)/\ay W pa (oa+stM nn M l k)=some (.slice (some ⟨rb,roff,none⟩) (nn+1) UM)/\ay W rb (roff+xA nn c)=some (ah x) from λW h =>
    ⟨((hba.below h hba.lt).cell 0).trans rfl,(h.cell (p:=⟨pa,oa+stM nn M l k,none⟩) pK).trans hxc,(h.cell (p:=⟨rb,roff+xA nn c,none⟩) r4).trans hxx⟩)
   have aX:=bx (show ak wr wr.drew from⟨rfl,rfl,rfl,bK _,λ_ _=>rfl⟩);have dP:=bx hsep.o.drew;have hbs:w.heap.size<=wr.drew.heap.size:=dL.o.size;unfold maxLen at k3 ha2 r3;generalize hso:stM nn M l k=so at *;generalize hco:xA nn c=co at *;have hs1:so<ca:=by omega
   have hc1:co<nn+1:=by omega
   have hc2:co<UM:=by omega
   have hc3:(co:Int)<(nn:Int)+1:=by omega
   clear k1 k5 ha0 kQ hxc hxi r5 hxx hba hr1 hr3 hx1 hc hsep hso hco;go_wp2_with fail;refine jl 9 (λW=>ay W w.heap.size 0=some (.slice (some ⟨pa,oa,none⟩) M.1.length ca)/\ay W pa (oa+so)=some (.slice (some ⟨rb,roff,none⟩) (nn+1) UM)/\ay W rb (roff+co)=some (ah x)) (by kernel_rfl) ?_;have gK:=bx (iE.o _ aX.o);generalize wr.drew=WR at *;refine jB [0,1,2,3,4,5,6] ?_
   iterate 7 (refine jA ?_ rfl gK.o ?_ ?_;rotate_left;·rintro w ⟨q1,q2,q3⟩;go_simp;try with_reducible rfl)
   refine jr ?_;refine kP 7 rfl λKK au=>?_
   go_simp;go_wp2_with (go_at_call 275;refine aP (ajH.o _) ?_)
   refine au.out _ _ (λ_=>gK.o) ?_;clear au KK;refine kS 8 ?_ rfl gK.o ?_ ?_;rotate_left
   ·rintro w ⟨q1,q2,q3⟩;go_simp;try with_reducible rfl
   obtain⟨y1,y2,y3⟩:=gK.o;refine kP 9 rfl λKK au=>?_
   go_simp;refine au.out _ _ (λh=>by cases h) ?_;clear au KK;refine kP 10 rfl λKK au=>?_
   go_simp;refine au.out _ _ (λh=>by cases h) ?_;clear au KK;refine kD ?_ _;clear y1 y2 y3;go_wp2_with (at_builtin;refine vM rfl _ _ 22 rfl yO dP.o 0 rfl rfl rfl rfl (by omega) (by omega) hbs ?_;rintro v' w4 hS4 -)
   have HX:=bx (show (ah x:Value)=kH (stM nn M l (k+1)) by unfold kH;rw [HST.o];exact Dy (by omega));rw [HX.o] at hS4;have dJ:=bx (show Sep [Pc.row w.heap.size 3 1 v' (k+1+1) (((sW nn M l).take (k+1+1)).map kH),Pc.blk w.heap.size 29 #[.slice (some ⟨pa,oa,none⟩) M.1.length ca,fa],Pc.old w.heap.size w] w4 by
    rw [nH.o,gX];exact hS4)
   clear hS4
   go_wp2
   go_roundw
   ·exact⟨k+1,hlt,by go_num,HX.o,dJ⟩
   simp [intOf];omega
  obtain rfl:k=l.length:=by omega
  have Ju:=bx (show (sW nn M l).take (l.length+1)=sW nn M l by rw [<- axa nn M l,mQ]);go_wp2_with fail;rw [yE];go_ret2;refine⟨dL.o,_,by rw [HC.o];rfl,?_⟩;have:=hsep.o.row 0 rfl;rw [Ju.o] at this;rw [HR.o];exact this
def Un (M:D.gJ) (a:Nat):Int:=M.2.getD a 0
theorem Nh {w:World} {ao:Option Addr} {cap:Nat} {xs:List Int} (h:aN w (.slice ao xs.length cap) xs) (n:Nat):aN w (.slice ao (xs.take n).length cap) (xs.take n):=by
 rcases h with⟨h1,rfl⟩ | ⟨b,off,sp,cap,h1,h2,h3,h4⟩
 ·injection h1 with h1 h2 h3;subst h1 h3;simp [aN]
 injection h1 with h1 h2' h3';subst h1 h3';refine .inr ⟨b,off,sp,_,rfl,by rw [dw];omega,h3,λhn=>?_⟩;have hn':xs≠[]:=by rintro rfl;simp at hn
 refine⟨(h4 hn').1,(h4 hn').2.1,λi x hx=>(h4 hn').2.2 i x ?_⟩;rw [wE] at hx
 split at hx
 ·exact hx
 cases hx
theorem Nl {w:World} {ao:Option Addr} {cap n:Nat} {xs:List Int} (h:aN w (.slice ao n cap) xs):xs.length<=cap/\cap<=9223372036854775807:=by
 rcases h with⟨h1,rfl⟩ | ⟨b,off,sp,cap,h1,h2,h3,h4⟩
 ·injection h1 with h1 h2 h3;subst h3;simp
 injection h1 with h1 h2' h3';subst h3';unfold maxLen at h3;omega
def FB (M:D.gJ):D.gJ:=((M.1.take 302).map λr=>r.take 34,M.2.take 302)
theorem aol (M:D.gJ):Dk (FB M):=by
 unfold FB Dk;refine⟨by simp only [aV,dw];omega,by simp only [dw];omega,λr hr=>?_⟩;obtain⟨r0,-,rfl⟩:=jM.1 hr;rw [dw];omega
theorem aoJ {W:World} {base n:Nat} {T:TypeId} {v:Value} {vs:List Value} {L:List (List Int)} (h:W.ownsRow base T 1 v n vs) (hn:n=L.length) (hV:∀ (i:Nat) (r:List Int),L[i]?=some r->∃ x,vs[i]?=some x/\aN W x r):iF W v L:=by
 subst hn
 rcases h.2 with⟨h1,h2⟩ | ⟨g,cap,cur,h1,h2,h3,h4,h5,h6,h7⟩
 ·rw [nR h2];exact .inl ⟨h1,rfl⟩
 refine .inr ⟨g,0,none,cap,h1,h4,h5,λhn=>⟨rfl,(fF.1 h3).1,λi r hr=>?_⟩⟩;obtain⟨x,hx,hi⟩:=hV i r hr;refine⟨x,?_,hi⟩;have h8:=h.cells (g:=g) (by rw [h1];rfl) i x hx
 (try unfold ay at *);rw [show (⟨g,0,none⟩:Addr).add i=⟨g,0+i,none⟩ by unfold Addr.add;split <;> simp_all] at h8
 exact h8
def Ba (W:World) (vs:List Value) (L:List (List Int)):Prop:=vs.length=L.length/\∀ (i:Nat) (r:List Int),L[i]?=some r->∃ x,vs[i]?=some x/\aN W x r
theorem Ba.snoc {W:World} {vs:List Value} {L:List (List Int)} (h:Ba W vs L) {x:Value} {r:List Int} (hx:aN W x r):Ba W (vs++[x]) (L++[r]):=by
 refine⟨by rw [bC,bC,h.1];rfl,λi q hq=>?_⟩
 rcases gZ i L.length with hl | hl
 ·rw [zU hl] at hq;obtain⟨y,hy,h2⟩:=h.2 i q hq;exact⟨y,by rw [zU (by rw [h.1];exact hl)];exact hy,h2⟩
 rw [yD hl] at hq;have hi0:i-L.length=0:=by have:=(dO hq).1;simp at this;omega
 rw [hi0] at hq;simp only [rQ,iQ] at hq;subst hq;exact⟨x,by rw [yD (by rw [h.1];exact hl),h.1,hi0];rfl,hx⟩
def Pv (r:List Int):List Int:=r.take 34
end
def bs (l:List UInt8):ByteArray:=⟨l.toArray⟩
theorem xZ (l:List UInt8):(bs l).data.toList=l:=rfl
theorem dN (l:List UInt8):(bs l).size=l.length:=by unfold bs;simp [ByteArray.size]
theorem Zw (s:ByteArray):s=bs s.data.toList:=by cases s with | mk d=>cases d;rfl
theorem aap (l:List UInt8) (a b:Nat):(bs l).extract a b=bs ((l.take b).drop a):=by
 rw [Zw ((bs l).extract a b)]
 congr 1
 rw [ByteArray.data_extract,Array.toList_extract,xZ,List.extract_eq_take_drop,List.take_drop]
 by_cases h:a<=b
 ·rw [show a+(b-a)=b by omega]
 rw [show a+(b-a)=a by omega,zF (by rw [dw];omega),zF (by rw [dw];omega)]
def gB (w:World) (v:Value) (xs:List Value):Prop :=
 (v = aj/\xs=[])\/∃ b off sp cap,v = .slice (some ⟨b,off,sp⟩) xs.length cap/\xs.length<=cap/\cap<=maxLen/\(xs≠[]->sp=none/\b<w.heap.size/\∀ i x,xs[i]?=some x->w.cell? ⟨b,off+i,none⟩=some x)
section
variable {w w':World} {v:Value} {xs:List Value}
theorem gB.below (h:gB w v xs) (hb:ak w w'):gB w' v xs:=by
 rcases h with h | ⟨b,off,sp,cap,h1,h2,h3,h4⟩
 ·exact .inl h
 exact .inr ⟨b,off,sp,cap,h1,h2,h3,λhn=>⟨(h4 hn).1,fC (h4 hn).2.1 hb.size,λi x hx=>(hb.cell (p:=⟨b,off+i,none⟩) (h4 hn).2.1).trans ((h4 hn).2.2 i x hx)⟩⟩
theorem gB.get (h:gB w v xs) (hn:xs≠[]) :
  ∃ b off cap,v = .slice (some ⟨b,off,none⟩) xs.length cap/\xs.length<=cap/\cap<=maxLen/\b<w.heap.size/\∀ i x,xs[i]?=some x->w.cell? ⟨b,off+i,none⟩=some x:=by
 rcases h with⟨_,h⟩ | ⟨b,off,sp,cap,h1,h2,h3,h4⟩
 ·exact absurd h hn
 obtain⟨rfl,h5,h6⟩:=h4 hn;exact⟨b,off,cap,h1,h2,h3,h5,h6⟩
theorem gB.slice (h:gB w v xs):∃ a cap,v = .slice a xs.length cap/\xs.length<=cap/\cap<=9223372036854775807:=by
 rcases h with⟨rfl,rfl⟩ | ⟨b,off,sp,cap,rfl,h1,h2,_⟩
 ·exact⟨_,_,rfl,bK _,by omega⟩
 exact⟨_,_,rfl,h1,by unfold maxLen at h2;omega⟩
theorem gB.iy {base n:Nat} {T:TypeId} (h:w.ownsRow base T 1 v n xs) (hn:n=xs.length):gB w v xs:=by
 subst hn;have hl:=h.lt
 rcases h.2 with⟨h1,h2⟩ | ⟨g,cap,cur,rfl,h2,h3,h4,h5,h6,h7⟩
 ·exact .inl ⟨h1,nR h2⟩
 refine .inr ⟨g,0,none,cap,rfl,h4,h5,λ_=>⟨rfl,(hl g rfl).2,λi x hx=>?_⟩⟩;have:=h.cells (g:=g) rfl i x hx
 (try unfold ay at *);rw [show (⟨g,0+i,none⟩:Addr)=(⟨g,0,none⟩:Addr).add i by unfold Addr.add;by_cases h0:i=0 <;> simp [h0]]
 exact this
theorem gB.Q9 {g:Nat} {T:TypeId} (h:aC w g T xs.toArray) (hz:xs.length<=1000000):gB w (.slice (some ⟨g,0,none⟩) xs.length xs.length) xs:=by
 refine .inr ⟨g,0,none,xs.length,rfl,bK _,by unfold maxLen;omega,λ_=>⟨rfl,h.lt,λi x hx=>?_⟩⟩;rw [Nat.zero_add];exact(h.cell i).trans (by rw [List.getElem?_toArray];exact hx)
theorem gB.take {a:Option Addr} {cap:Nat} (h:gB w (.slice a xs.length cap) xs) (n cap':Nat) (hc:(xs.take n).length<=cap') (hc':cap'<=cap):gB w (.slice a (xs.take n).length cap') (xs.take n):=by
 rcases h with⟨h1,rfl⟩ | ⟨b,off,sp,cap2,h1,h2,h3,h4⟩
 ·injection h1 with h1 h2 h3;subst h1 h3;obtain rfl:cap'=0:=by omega
  simp [gB]
 injection h1 with h1 h2' h3';subst h1 h3';refine .inr ⟨b,off,sp,cap',rfl,hc,bP hc' h3,λhn=>?_⟩;have hn':xs≠[]:=by rintro rfl;simp at hn
 refine⟨(h4 hn').1,(h4 hn').2.1,λi x hx=>(h4 hn').2.2 i x ?_⟩;rw [wE] at hx
 split at hx
 ·exact hx
 cases hx
theorem gB.drop {b off:Nat} {cap:Nat} (h:gB w (.slice (some ⟨b,off,none⟩) xs.length cap) xs) (n:Nat) (hn:n<=xs.length):gB w (.slice (some ⟨b,off+n,none⟩) (xs.length-n) (cap-n)) (xs.drop n):=by
 rcases h with⟨h1,rfl⟩ | ⟨b',off',sp,cap2,h1,h2,h3,h4⟩
 ·cases h1
 injection h1 with h1 h2' h3';subst h3';injection h1 with h1;injection h1 with h5 h6 h7;subst h5 h6 h7;refine .inr ⟨b,off+n,none,cap-n,by rw [gy],by rw [gy];omega,by omega,λhne=>?_⟩;have hne':xs≠[]:=by rintro rfl;simp at hne
 refine⟨rfl,(h4 hne').2.1,λi x hx=>?_⟩;rw [Nat.add_assoc];exact(h4 hne').2.2 (n+i) x (by rw [xY] at hx;exact hx)
end
def gW (l:List UInt8):Value:=.string (bs l)
def cZ (w:World) (v:Value) (xs:List (List UInt8)):Prop:=gB w v (xs.map gW)
theorem cZ.below {w w':World} {v:Value} {xs:List (List UInt8)} (h:cZ w v xs) (hb:ak w w'):cZ w' v xs:=gB.below h hb
theorem cZ.get {w:World} {v:Value} {xs:List (List UInt8)} (h:cZ w v xs) (hn:xs≠[]) :
  ∃ b off cap,v = .slice (some ⟨b,off,none⟩) xs.length cap/\xs.length<=cap/\cap<=maxLen/\b<w.heap.size/\∀ i x,xs[i]?=some x->w.cell? ⟨b,off+i,none⟩=some (.string (bs x)):=by
 obtain⟨b,off,cap,h1,h2,h3,h4,h5⟩:=gB.get h (by simpa using hn);rw [aV] at h1 h2;exact⟨b,off,cap,h1,h2,h3,h4,λi x hx=>h5 i (.string (bs x)) (by rw [eX,hx];rfl)⟩
theorem cZ.slice {w:World} {v:Value} {xs:List (List UInt8)} (h:cZ w v xs):∃ a cap,v = .slice a xs.length cap/\xs.length<=cap/\cap<=9223372036854775807:=by
 have:=gB.slice h
 rwa [aV] at this
theorem cZ.iy {w:World} {base n:Nat} {T:TypeId} {v:Value} {xs:List (List UInt8)} (h:w.ownsRow base T 1 v n (xs.map gW)) (hn:n=xs.length):cZ w v xs:=gB.iy h (by rw [aV];exact hn)
def nZ (k:Nat) (w:World) (v:Value) (xs:List (List Value)):Prop :=
 (v = aj/\xs=[])\/∃ b off sp cap,v = .slice (some ⟨b,off,sp⟩) xs.length cap/\xs.length<=cap/\cap<=maxLen/\(xs≠[]->sp=none/\b<w.heap.size/\∀ i c,xs[i]?=some c->∀ j u,c[j]?=some u->w.cell? ⟨b,off+i*k+j,none⟩=some u)
section
variable {k:Nat} {w w':World} {v:Value} {xs:List (List Value)}
theorem nZ.below (h:nZ k w v xs) (hb:ak w w'):nZ k w' v xs:=by
 rcases h with h | ⟨b,off,sp,cap,h1,h2,h3,h4⟩
 ·exact .inl h
 exact .inr ⟨b,off,sp,cap,h1,h2,h3,λhn=>⟨(h4 hn).1,fC (h4 hn).2.1 hb.size,λi c hc j u hu=>(hb.cell (p:=⟨b,off+i*k+j,none⟩) (h4 hn).2.1).trans ((h4 hn).2.2 i c hc j u hu)⟩⟩
theorem nZ.get (h:nZ k w v xs) (hn:xs≠[]) :
  ∃ b off cap,v = .slice (some ⟨b,off,none⟩) xs.length cap/\xs.length<=cap/\cap<=maxLen/\b<w.heap.size/\∀ i c,xs[i]?=some c->∀ j u,c[j]?=some u->w.cell? ⟨b,off+i*k+j,none⟩=some u:=by
 rcases h with⟨_,h⟩ | ⟨b,off,sp,cap,h1,h2,h3,h4⟩
 ·exact absurd h hn
 obtain⟨rfl,h5,h6⟩:=h4 hn;exact⟨b,off,cap,h1,h2,h3,h5,h6⟩
theorem nZ.slice (h:nZ k w v xs):∃ a cap,v = .slice a xs.length cap/\xs.length<=cap/\cap<=9223372036854775807:=by
 rcases h with⟨rfl,rfl⟩ | ⟨b,off,sp,cap,rfl,h1,h2,_⟩
 ·exact⟨_,_,rfl,bK _,by omega⟩
 exact⟨_,_,rfl,h1,by unfold maxLen at h2;omega⟩
theorem Vr:∀ {xs:List (List Value)},(∀ c∈xs,c.length=k)->∀ {i:Nat} {c:List Value},xs[i]?=some c->∀ {j:Nat} {u:Value},c[j]?=some u->xs.flatten[i*k+j]?=some u
 | [],_,i,c,h,_,_,_=>by simp at h
 | x::t,hk,0,c,h,j,u,hu=>by
  simp only [rQ,iQ] at h;subst h;rw [pY,Nat.zero_mul,Nat.zero_add,zU (dO hu).1];exact hu
 | x::t,hk,i+1,c,h,j,u,hu=>by
  rw [List.getElem?_cons_succ] at h;have hx:=hk x (jZ ..);rw [pY,BX,Nat.one_mul,yD (by rw [hx];omega),hx,show i*k+k+j-k=i*k+j by omega];exact Vr (λc hc=>hk c (mZ _ hc)) h hu
theorem nZ.iy {base n:Nat} {T:TypeId} (h:w.ownsRow base T k v n xs.flatten) (hn:n=xs.length) (hk:∀ c∈xs,c.length=k):nZ k w v xs:=by
 subst hn;have hl:=h.lt
 rcases h.2 with⟨h1,h2⟩ | ⟨g,cap,cur,rfl,h2,h3,h4,h5,h6,h7⟩
 ·exact .inl ⟨h1,nR h2⟩
 refine .inr ⟨g,0,none,cap,rfl,h4,h5,λ_=>⟨rfl,(hl g rfl).2,λi c hc j u hu=>?_⟩⟩;have:=h.cells (g:=g) rfl (i*k+j) u (Vr hk hc hu)
 (try unfold ay at *);rw [show (⟨g,0+i*k+j,none⟩:Addr)=(⟨g,0,none⟩:Addr).add (i*k+j) by unfold Addr.add;rw [Nat.zero_add];by_cases h0:i*k+j=0;rw [aG h0,h0];rw [aF h0];simp]
 exact this
end
theorem Bl (l:List UInt8):(bs l).toList=l:=by rw [MV];rfl
section
variable {P:Program} {T:TypeId}
theorem D5 (hT:P.underlying T=some .string) {l:List UInt8} (k:Nat) {d:UInt8} (hd:l[k]?=some d) (i:Int) (hi:i=k):∀ w,(Instr.index T (.string (bs l)) (ah i)).run P w = .ok (.int .u8 (U.aH d)) w :=
 WT hT (bs l) k hd i hi
theorem SX (hT:P.underlying T=some .string) (l:List UInt8) (a b:Nat) (i j:Int) (hi:i=a) (hj:j=b) (h:a<=b/\b<=l.length):∀ W,(Instr.slice T (.string (bs l)) (some (ah i)) (some (ah j)) none).run P W = .ok (.string (bs ((l.take b).drop a))) W:=by
 intro W;subst hi hj;rw [aen hT _ _ _ ⟨by omega,by omega,by rw [dN];omega⟩,mG,mG,aap]
theorem Gq (hT:P.underlying T=some .string) (l:List UInt8) (a:Nat) (i:Int) (hi:i=a) (h:a<=l.length):∀ W,(Instr.slice T (.string (bs l)) (some (ah i)) none none).run P W = .ok (.string (bs (l.drop a))) W:=by
 intro W;subst hi;rw [run_slice_string_from_if W _ _ _ _ hT,aG (by rw [dN];omega),mG,aap,dN,gq aU]
theorem Ef (hT:P.underlying T=some .string) (l:List UInt8) (b:Nat) (j:Int) (hj:j=b) (h:b<=l.length):∀ W,(Instr.slice T (.string (bs l)) none (some (ah j)) none).run P W = .ok (.string (bs (l.take b))) W:=by
 intro W;subst hj;rw [run_slice_string_to_if W _ _ _ _ hT,aG (by rw [dN];omega),mG,aap,List.drop_zero]
end
theorem xH:(bs []).toList.isEmpty=true:=by rw [Bl];rfl
theorem DC {l:List UInt8} (h:l≠[]):(bs l).toList.isEmpty=false:=by
 rw [Bl]
 cases l with
 | nil=>exact absurd rfl h
 | cons _ _=>rfl
theorem OA (c d:UInt8):(U.aH c==U.aH d)=(c==d):=by
 rw [ny,lN,lN];exact⟨U.Y6,λh=>by rw [h]⟩
end Go.Proofs.YtdponihkpomheaaGreatDoor
