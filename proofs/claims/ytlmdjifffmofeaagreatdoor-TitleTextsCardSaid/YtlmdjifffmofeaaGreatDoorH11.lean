/- Texts of this claim. -/
import Derived.Test.YtlmdjifffmofeaaGreatDoorH10

set_option maxRecDepth 100000
set_option maxHeartbeats 8000000
namespace Go.Proofs.YtlmdjifffmofeaaGreatDoor
section
open Go.RowKit
attribute [local go_sem] Oper.semAt_some
theorem F.ai6 {s:List UInt8} {a b:Int} {fs:List (List UInt8)} (h:F.zY s=some (some (a,b,fs))):fs≠[]:=by
 obtain⟨-,-,-,-,h2,-,hfs⟩:=F.Td h;rintro rfl;have h9:=congrArg List.length hfs;rw [List.length_tail] at h9;simp only [List.length_nil] at h9;omega
theorem F.aat {L:List (List UInt8)}:∀ {k:Nat} {rs:List F.Rec},F.qN L k=some rs->∀ r∈rs,r.2.2.2≠[]
 | 0,rs,h=>by cases h;intro r hr;exact absurd hr List.not_mem_nil
 | k+1,rs,h=>by
  unfold F.qN at h
  cases hq:F.qN L k with
  | none=>rw [hq] at h;cases h
  | some q =>
   rw [hq] at h;simp only at h;have ih:=F.aat hq
   cases hl:F.zY (L.getD k []) with
   | none=>rw [hl] at h;cases h
   | some y =>
    rw [hl] at h
    cases y with
    | none=>simp only [Option.some.injEq] at h;rw [<- h];exact ih
    | some y =>
     obtain⟨a,b,fs⟩:=y;simp only at h
     split at h
     ·cases h
     ·simp only [Option.some.injEq] at h;rw [<- h];intro r hr
      rcases List.mem_append.1 hr with h1 | h1
      ·exact ih r h1
      ·rw [List.mem_singleton.1 h1];exact F.ai6 hl
theorem F.alu {s:List UInt8} {rs:List F.Rec} (h:F.parse s=some rs):∀ r∈rs,r.2.2.2≠[]:=by
 unfold F.parse at h
 split at h
 ·exact F.aat h
 ·cases h
theorem F.abE {names:List (List UInt8)} {loose:Bool} {rs:List F.Rec} {k:Nat}:∀ {n:Nat} {r:List F.bJ},k<=n->F.vK names loose rs n=some r->∃ q,F.vK names loose rs k=some q
 | 0,r,hk,h=>by obtain rfl:k=0:=(by omega);exact⟨r,h⟩
 | n+1,r,hk,h=>by
  rcases Nat.lt_or_ge k (n+1) with h1 | h1
  ·unfold F.vK at h
   cases hq:F.vK names loose rs n with
   | none=>rw [hq] at h;cases h
   | some q=>exact F.abE (by omega) hq
  ·obtain rfl:k=n+1:=by omega
   exact⟨r,h⟩
theorem F.ams {names:List (List UInt8)} {loose:Bool} {rs:List F.Rec} {k:Nat} {x:F.Rec} {q r:List F.bJ} (hx:rs[k]?=some x) (hq:F.vK names loose rs k=some q) (hr:F.vK names loose rs (k+1)=some r) :
  (F.valueOf names (x.2.2.2.headD [])=none/\loose=true/\r=q)\/∃ v m,F.valueOf names (x.2.2.2.headD [])=some v/\F.Jf (q++[(x.2.1,x.2.2.1,(v:Int))])=some m/\r=q++[(x.2.1,x.2.2.1,(v:Int))]:=by
 have hgd:rs.getD k (0,0,0,[])=x:=by rw [List.getD_eq_getElem?_getD,hx];rfl
 unfold F.vK at hr;rw [hq,hgd] at hr;simp only at hr
 cases hv:F.valueOf names (x.2.2.2.headD []) with
 | none =>
  rw [hv] at hr;simp only at hr
  split at hr
  ·rename_i h
   cases hr;exact .inl ⟨rfl,h,rfl⟩
  ·cases hr
 | some v =>
  rw [hv] at hr;simp only at hr
  split at hr
  ·rename_i h
   cases hr;obtain⟨m,hm⟩:=Option.isSome_iff_exists.1 h;exact .inr ⟨v,m,rfl,hm,rfl⟩
  ·cases hr
theorem F.aaO {s:List UInt8} {rs:List F.Rec} (h:F.parse s=some rs):rs.length<=100000:=by
 unfold F.parse at h
 split at h
 ·rename_i hz
  have:∀ {L:List (List UInt8)} {k:Nat} {rs:List F.Rec},F.qN L k=some rs->rs.length<=k:=by
   intro L k
   induction k with
   | zero=>intro rs h;cases h;exact Nat.le_refl _
   | succ k ih =>
    intro rs h;unfold F.qN at h
    cases hq:F.qN L k with
    | none=>rw [hq] at h;cases h
    | some q =>
     rw [hq] at h;simp only at h;have:=ih hq
     split at h
     ·cases h
     ·cases h;omega
     ·split at h
      ·cases h
      ·cases h;simp;omega
  have h1:=this h;have h2:=F.Uu 10 s;omega
 ·cases h
theorem aj6 {w:World} {base n:Nat} {v:Value} {l:List F.bJ} (h:w.ownsRow base 179 3 v n (l.flatMap dH)):qo w v n (l.flatMap dH):=by
 rcases h.2 with⟨rfl,h0⟩ | ⟨g,cap,cur,rfl,h2,h3,h4,h5,h6,h7⟩
 ·subst h0;have:=h.1;rw [Nat.zero_mul] at this;exact .inl ⟨rfl,rfl,List.eq_nil_of_length_eq_zero this⟩
 ·refine .inr ⟨_,_,rfl,λj u hu=>?_⟩;rw [show (⟨g,0,none⟩:Addr).add j=⟨g,j,none⟩ by unfold Addr.add;by_cases h0:j=0 <;> simp [h0]];have hb:ak w g 179 cur:=h3;rw [hb.cell j];rw [<- h7,List.getElem?_take] at hu
  split at hu
  ·rw [<- Array.getElem?_toList];exact hu
  ·cases hu
theorem aak (l:List F.bJ) (x:F.bJ):(l++[x]).flatMap dH=[]++l.flatMap dH++dH x:=by rw [List.flatMap_append,List.flatMap_singleton,List.nil_append]
theorem ac1 (file:List UInt8) (nv:Value) (names:List (List UInt8)) (loose:Bool) (t:List F.bJ) (w:World) (hn:iY w nv names) (hnb:F.vM names=true) (hok:F.Bh file names loose=some t) :
  Calls Tryz.prog 65 #[.string (bs file),nv, .int .i64 0, .bool loose] w λe w'=>(∃ v',e = .returned (.tuple #[v', .int .i64 0, .int .i64 0])/\jh w' v' t)/\Below w.heap.size w w':=by
 unfold F.Bh at hok
 cases hp:F.parse file with
 | none=>rw [hp] at hok;cases hok
 | some rs =>
 rw [hp] at hok;simp only at hok
 cases hr:F.vK names loose rs rs.length with
 | none=>rw [hr] at hok;cases hok
 | some out =>
 rw [hr] at hok;simp only at hok
 cases hs:F.Jf out with
 | none=>rw [hs] at hok;cases hok
 | some m =>
 rw [hs] at hok;simp only at hok
 split at hok
 rotate_left
 ·cases hok
 rename_i hrb
 simp only [Option.some.injEq] at hok;obtain⟨N,hN⟩:∃ N,rs.length=N:=⟨_,rfl⟩
 have vJ:=bx (show N<=100000 by rw [<- hN];exact F.aaO hp);have au:=bx (F.alu hp);rw [hN] at hr;have nJ:=bx (OZ nv names w hn hnb);have zA:=bx (λW=>aaP file rs W hp);have HR:=bx hr;have kV:=bx hs;have HT:=bx hok;have xG:=bx hrb;have HN:=bx hN;have gU:=bx hn;have EU:=bx (show names.length<=32 by unfold F.vM at hnb;simp only [Bool.and_eq_true,decide_eq_true_eq] at hnb;exact hnb.2);clear hp hr hs hok hrb hN hn hnb
 go_enter Tryz.func65,Tryz.ntmps65
 go_wp2_with fail;refine nJ.o.mono ?_;rintro e w0 ⟨rfl,nd,rfl⟩;have HB0:=bx (jG w nd);generalize w.drewN nd=w0 at HB0 ⊢;go_wp2_with fail;refine(zA.o _).mono ?_;rintro e w1 ⟨⟨rv,rfl,IV⟩,hb1⟩;have EN:=bx IV;have HB1:=bx (bt HB0.o hb1);obtain⟨ra,rc,rfl,VO,alm⟩:=IV.slice;rw [HN.o] at EN VO ⊢;have aU:=bx ((Sep.start w1).fP w1.heap.size 3 179);clear IV hb1;go_wp2_with fail
 go_loopw [15,14] (λi o wr=>∃ (k:Nat) (L:List F.bJ) (oo:Option Addr) (oc:Nat),k<=N/\i = .int .i64 k/\o = .slice oo L.length oc/\L.length<=k/\Box (F.vK names loose rs k=some L)/\Box (Sep [Pc.row w1.heap.size 179 3 (.slice oo L.length oc) L.length (L.flatMap dH),Pc.old w1.heap.size w1] wr)) (λi _ _=>N-(intOf i).toNat)
 case atStart=>exact⟨0,[],none,0,by omega,rfl,rfl,by simp,⟨rfl⟩,aU⟩
 case round =>
  obtain⟨k,L,oo,oc,hk,rfl,rfl,hLk,hrt,hse⟩:=hrel;have aV:=bx (hse.o.bel (n:=w1.heap.size) (W0:=w1) (by simp));clear aU
  by_cases hlt:k<N
  ·obtain⟨x,hx⟩:∃ x,rs[k]?=some x:=⟨_,List.getElem?_eq_getElem (by have:=HN.o;omega)⟩
   obtain⟨g,off,cap2,hg1,hg2,hg3,hg4,hg5⟩:=(EN.o.below aV.o).get (by rintro rfl;simp at hx);rw [HN.o] at hg1 hg2;obtain⟨rfl,rfl⟩:ra=some ⟨g,off,none⟩/\rc=cap2:=by injection hg1 with h1 h2 h3;exact⟨h1,h3⟩
   obtain⟨c0,c1,c2,fv,c3,hfv⟩:=hg5 k x hx;obtain⟨r,hr⟩:=F.abE (k:=k+1) (by omega) HR.o;have dK:=bx hr;have hstep:=F.ams hx hrt.o hr;obtain⟨f0,ft,hfd⟩:∃ f0 ft,x.2.2.2=f0::ft:=by
    cases hq:x.2.2.2 with
    | nil=>exact absurd hq (au.o x (List.mem_of_getElem? hx))
    | cons a b=>exact⟨a,b,rfl⟩
   rw [hfd] at hfv hstep;rw [List.headD_cons] at hstep;obtain⟨fg,fo,fc,rfl,hf2,hf3,hf4,hf5⟩:=hfv.get (by simp);have cf:=hf5 0 f0 rfl;rw [Nat.add_zero] at cf;rw [List.length_cons] at hf2 c3;obtain⟨lf,hlf⟩:∃ lf,ft.length=lf:=⟨_,rfl⟩
   rw [hlf] at c3 hf2;have ahZ:=bx (Rf nv names f0 wr (gU.o.below (bt HB1.o aV.o)) (by have:=EU.o;omega));have afR:=bx hstep;unfold maxLen at hg3 hf3;clear hx hg1 hg5 hr hstep hfd hfv hf5 hlf;go_wp2_with fail;refine ahZ.o.mono ?_;rintro e w2 ⟨rfl,rfl⟩
   rcases afR.o with⟨hno,hlo,hrq⟩ | ⟨v,m',hyes,hsm,hrq⟩
   ·rw [hno];unfold Jz;have gW:=bx (show F.vK names loose rs (k+1)=some L by rw [dK.o,hrq]);obtain rfl:=hlo;clear hno hrq;go_wp2_with fail
    go_roundw
    case rel=>exact⟨k+1,L,oo,oc,hlt,by go_num,rfl,by omega,gW,hse⟩
    case measure=>simp [intOf];omega
   ·rw [hyes];unfold Jz;have gW:=bx (show F.vK names loose rs (k+1)=some (L++[(x.2.1,x.2.2.1,(v:Int))]) by rw [dK.o,hrq]);have bD:=bx (λvv W (h:jh W vv (L++[(x.2.1,x.2.2.1,(v:Int))]))=>ac9 vv _ m' W h hsm);clear hyes hrq hsm cf c3 c0;obtain⟨xn,xa,xb,xf⟩:=x;simp only at c1 c2 gW bD;go_wp2_with fail;have aC:=bx (show wr.drew.cell? ⟨g,off+k*4+1,none⟩=some (.int .i64 xa)/\wr.drew.cell? ⟨g,off+k*4+2,none⟩=some (.int .i64 xb) from⟨c1,c2⟩);refine dO 13 (λW=>W.cell? ⟨g,off+k*4+1,none⟩=some (.int .i64 xa)/\W.cell? ⟨g,off+k*4+2,none⟩=some (.int .i64 xb)) (by kernel_rfl) ?_;refine kS 0 ?_ rfl aC.o ?_ ?_;rotate_left
    ·rintro w ⟨q1,q2⟩;go_simp;try with_reducible rfl
    refine kS 1 ?_ rfl aC.o ?_ ?_;rotate_left
    ·rintro w ⟨q1,q2⟩;go_simp;try with_reducible rfl
    refine kS 2 ?_ rfl aC.o ?_ ?_;rotate_left
    ·rintro w ⟨q1,q2⟩;go_simp;try with_reducible rfl
    refine kS 3 ?_ rfl aC.o ?_ ?_;rotate_left
    ·rintro w ⟨q1,q2⟩;go_simp;try with_reducible rfl
    refine kS 4 ?_ rfl aC.o ?_ ?_;rotate_left
    ·rintro w ⟨q1,q2⟩;go_simp;try with_reducible rfl
    refine kS 5 ?_ rfl aC.o ?_ ?_;rotate_left
    ·rintro w ⟨q1,q2⟩;go_simp;try with_reducible rfl
    refine kS 6 ?_ rfl aC.o ?_ ?_;rotate_left
    ·rintro w ⟨q1,q2⟩;go_simp;try with_reducible rfl
    refine kS 7 ?_ rfl aC.o ?_ ?_;rotate_left
    ·rintro w ⟨q1,q2⟩;go_simp;try with_reducible rfl
    refine kS 8 ?_ rfl aC.o ?_ ?_;rotate_left
    ·rintro w ⟨q1,q2⟩;go_simp;try with_reducible rfl
    refine kS 9 ?_ rfl aC.o ?_ ?_;rotate_left
    ·rintro w ⟨q1,q2⟩;go_simp;try with_reducible rfl
    refine kS 10 ?_ rfl aC.o ?_ ?_;rotate_left
    ·rintro w ⟨q1,q2⟩;go_simp;try with_reducible rfl
    refine kS 11 ?_ rfl aC.o ?_ ?_;rotate_left
    ·rintro w ⟨q1,q2⟩;go_simp;try with_reducible rfl
    have cZ:=bx (hse.o.drew);have xZ:=bx (show g<wr.drew.heap.size from hg4);generalize wr.drew=WD at aC cZ xZ ⊢;have rQ:=bx (cZ.o.dh 179 #[.int .i64 0, .int .i64 0, .int .i64 0]);refine kP 12 rfl λKK aj=>?_
    go_simp;refine aj.out _ _ (λ_=>⟨(World.cell?_alloc_lt _ _ ⟨g,off+k*4+1,none⟩ xZ.o).trans aC.o.1,(World.cell?_alloc_lt _ _ ⟨g,off+k*4+2,none⟩ xZ.o).trans aC.o.2⟩) ?_;clear aj KK;refine kP 13 rfl λKK aj=>?_
    go_simp;have uY:=bx (cZ.o.dh 179 #[.int .i64 xa, .int .i64 xb, .int .i64 v]);refine aj.out _ _ (λh=>by cases h) ?_;clear aj KK;refine kD ?_ _;clear aC cZ rQ xZ;generalize WD.heap.size=Q at uY ⊢;generalize WD.alloc (.cells #[.int .i64 xa, .int .i64 xb, .int .i64 v] 179)=WX at uY ⊢;go_wp2_with fail;refine dO 12 (λW=>W.cell? ⟨Q,0,none⟩=some (.int .i64 xa)/\W.cell? ⟨Q,1,none⟩=some (.int .i64 xb)/\W.cell? ⟨Q,2,none⟩=some (.int .i64 v)) (by kernel_rfl) ?_;have dQ:=bx (uY.o.drew);generalize WX.drew=WY at dQ ⊢;have dR:=bx (dQ.o.blk 0 rfl);have Gs:=bx (show WY.cell? ⟨Q,0,none⟩=some (.int .i64 xa)/\WY.cell? ⟨Q,1,none⟩=some (.int .i64 xb)/\WY.cell? ⟨Q,2,none⟩=some (.int .i64 v) from⟨(dR.o.cell 0).trans rfl,(dR.o.cell 1).trans rfl,(dR.o.cell 2).trans rfl⟩);have dZ:=bx (show ∀ W,Below WY.heap.size WY W->W.cell? ⟨Q,0,none⟩=some (.int .i64 xa)/\W.cell? ⟨Q,1,none⟩=some (.int .i64 xb)/\W.cell? ⟨Q,2,none⟩=some (.int .i64 v) from λW h=>⟨(h.cell (p:=⟨Q,0,none⟩) dR.o.lt).trans Gs.o.1,(h.cell (p:=⟨Q,1,none⟩) dR.o.lt).trans Gs.o.2.1,(h.cell (p:=⟨Q,2,none⟩) dR.o.lt).trans Gs.o.2.2⟩);have oH:=bx (λW (h:Below WY.heap.size WY W)=>aj6 ((dQ.o.below h).row 1 rfl));have aU:=bx ((Sep.start WY).fP WY.heap.size 3 179);refine kS 0 ?_ rfl Gs.o ?_ ?_;rotate_left
    ·rintro w ⟨q1,q2,q3⟩;go_simp;try with_reducible rfl
    refine kS 2 ?_ rfl Gs.o ?_ ?_;rotate_left
    ·rintro w ⟨q1,q2,q3⟩;go_simp;try with_reducible rfl
    refine KW (rs:=[1,3]) (by kernel_rfl) (by simp) (pU.cons rfl (λKK aj=>?_) (pU.cons rfl (λKK aj=>?_) pU.nil))
    ·refine oW rfl _ _ 120 rfl oI (by decide) aU.o 0 rfl (by kernel_rfl) (by kernel_rfl) (m:=L.length) (cs:=L.flatMap dH) (oH.o _ (Below.refl _ _)) (wO L) zI (by have:=vJ.o;omega) (by omega) (Nat.le_refl _) ?_;rintro v4 w4 hS4;have dn:=bx hS4;have HB4:=bx (dn.o.bel (n:=WY.heap.size) (W0:=WY) (by simp));clear hS4;refine aj.out _ _ (λ_=>dZ.o _ HB4.o) ?_;clear aj KK;refine kP 3 rfl λKK aj=>?_
     go_simp;have aG:=bx (dn.o.dh 179 #[.int .i64 xa, .int .i64 xb, .int .i64 v]);have aP:=bx (aG.o.bel (n:=WY.heap.size) (W0:=WY) (by simp));refine aj.out _ _ (λ_=>dZ.o _ aP.o) ?_;clear aj KK;refine kP 4 rfl λKK aj=>?_
     refine oW rfl _ _ 120 rfl oI (by decide) aG.o 1 rfl (by kernel_rfl) (by kernel_rfl) (m:=1) (cs:=dH (xa,xb,v)) (Ii (aG.o.blk 0 rfl)) rfl (by intro u hu;simp only [dH,List.mem_cons,List.not_mem_nil,or_false] at hu;rcases hu with rfl | rfl | rfl <;> rfl) (by have:=vJ.o;omega) (by omega) aP.o.size ?_;rintro v7 w7 hS7;have bH:=bx hS7;have aH:=bx (bH.o.bel (n:=WY.heap.size) (W0:=WY) (by simp));clear hS7;refine aj.out _ _ (λ_=>dZ.o _ aH.o) ?_;clear aj KK;have LU:=bx (jh.dL (by rw [aak];exact bH.o.row 1 rfl) (by simp));refine kP 5 rfl λKK aj=>?_
     go_simp;go_wp2_with (go_at_call 112;refine(bD.o _ _ LU.o).mono ?_;rintro e w8 ⟨⟨v8,rfl,-⟩,hb8⟩)
     have aY:=bx (bt aH.o hb8);clear hb8;refine aj.out _ _ (λ_=>dZ.o _ aY.o) ?_;clear aj KK;refine kP 6 rfl λKK aj=>?_
     go_simp;refine aj.out _ _ (λ_=>dZ.o _ aY.o) ?_;clear aj KK;refine kS 7 ?_ rfl (dZ.o _ aY.o) ?_ ?_;rotate_left
     ·rintro w ⟨q1,q2,q3⟩;go_simp;try with_reducible rfl
     refine kS 8 ?_ rfl (dZ.o _ aY.o) ?_ ?_;rotate_left
     ·rintro w ⟨q1,q2,q3⟩;go_simp;try with_reducible rfl
     refine kS 9 ?_ rfl (dZ.o _ aY.o) ?_ ?_;rotate_left
     ·rintro w ⟨q1,q2,q3⟩;go_simp;try with_reducible rfl
     refine kP 10 rfl λKK aj=>?_
     go_simp;refine aj.out _ _ (λ_=>dZ.o _ aY.o) ?_;clear aj KK;refine kP 11 rfl λKK aj=>?_
     go_simp;refine aj.out _ _ (λ_=>dZ.o _ aY.o) ?_;clear aj KK;refine kP 12 rfl λKK aj=>?_
     go_simp;refine aj.out _ _ (λ_=>dZ.o _ aY.o) ?_;clear aj KK;refine kD ?_ _;have bK:=bx (dQ.o.below aY.o);obtain⟨z0,z1,z2⟩:=dZ.o _ aY.o;have Xo:=Nat.lt_of_lt_of_le dR.o.lt aY.o.size;have hwz:=Nat.le_trans (dQ.o.bel (n:=w1.heap.size) (W0:=w1) (by simp)).size aY.o.size;clear dR Gs dZ oH aU dn aG bH LU;go_wp2_with (at_builtin;refine xR (cs:=dH (xa,xb,v)) rfl _ _ 120 rfl oI (by decide) bK.o 1 rfl rfl rfl rfl (by intro u hu;simp only [dH,List.mem_cons,List.not_mem_nil,or_false] at hu;rcases hu with rfl | rfl | rfl <;> rfl) (by have:=vJ.o;omega) (by omega) hwz ?_;rintro v9 w9 jo ⟨go',gc',rfl,-,-⟩)
     have fE:=bx (show Sep [Pc.row w1.heap.size 179 3 (.slice (some ⟨go',0,none⟩) (L++[(xa,xb,(v:Int))]).length gc') (L++[(xa,xb,(v:Int))]).length ((L++[(xa,xb,(v:Int))]).flatMap dH),Pc.old w1.heap.size w1] w9 by
      rw [List.length_append,List.flatMap_append,List.flatMap_singleton];exact jo.tail)
     clear jo z0 z1 z2;go_wp2_with fail
     go_roundw
     case rel=>exact⟨k+1,L++[(xa,xb,(v:Int))],some ⟨go',0,none⟩,gc',hlt,by go_num,by rw [List.length_append];rfl,by rw [List.length_append];simp;omega,gW,fE⟩
     case measure=>simp [intOf];omega
    ·go_simp;have aK:=bx (aU.o.dh 179 #[.int .i64 xa, .int .i64 xb, .int .i64 v]);have HB3:=bx (aK.o.bel (n:=WY.heap.size) (W0:=WY) (by simp));refine aj.out _ _ (λ_=>dZ.o _ HB3.o) ?_;clear aj KK;refine kP 1 rfl λKK aj=>?_
     refine oW rfl _ _ 120 rfl oI (by decide) aK.o 1 rfl (by kernel_rfl) (by kernel_rfl) (m:=L.length) (cs:=L.flatMap dH) (oH.o _ HB3.o) (wO L) zI (by have:=vJ.o;omega) (by omega) HB3.o.size ?_;rintro v5 w5 hS5;have aG:=bx hS5;have aP:=bx (aG.o.bel (n:=WY.heap.size) (W0:=WY) (by simp));clear hS5;refine aj.out _ _ (λ_=>dZ.o _ aP.o) ?_;clear aj KK;have dn:=aK;refine kP 4 rfl λKK aj=>?_
     refine oW rfl _ _ 120 rfl oI (by decide) aG.o 1 rfl (by kernel_rfl) (by kernel_rfl) (m:=1) (cs:=dH (xa,xb,v)) (Ii (aG.o.blk 0 rfl)) rfl (by intro u hu;simp only [dH,List.mem_cons,List.not_mem_nil,or_false] at hu;rcases hu with rfl | rfl | rfl <;> rfl) (by have:=vJ.o;omega) (by omega) aP.o.size ?_;rintro v7 w7 hS7;have bH:=bx hS7;have aH:=bx (bH.o.bel (n:=WY.heap.size) (W0:=WY) (by simp));clear hS7;refine aj.out _ _ (λ_=>dZ.o _ aH.o) ?_;clear aj KK;have LU:=bx (jh.dL (by rw [aak];exact bH.o.row 1 rfl) (by simp));refine kP 5 rfl λKK aj=>?_
     go_simp;go_wp2_with (go_at_call 112;refine(bD.o _ _ LU.o).mono ?_;rintro e w8 ⟨⟨v8,rfl,-⟩,hb8⟩)
     have aY:=bx (bt aH.o hb8);clear hb8;refine aj.out _ _ (λ_=>dZ.o _ aY.o) ?_;clear aj KK;refine kP 6 rfl λKK aj=>?_
     go_simp;refine aj.out _ _ (λ_=>dZ.o _ aY.o) ?_;clear aj KK;refine kS 7 ?_ rfl (dZ.o _ aY.o) ?_ ?_;rotate_left
     ·rintro w ⟨q1,q2,q3⟩;go_simp;try with_reducible rfl
     refine kS 8 ?_ rfl (dZ.o _ aY.o) ?_ ?_;rotate_left
     ·rintro w ⟨q1,q2,q3⟩;go_simp;try with_reducible rfl
     refine kS 9 ?_ rfl (dZ.o _ aY.o) ?_ ?_;rotate_left
     ·rintro w ⟨q1,q2,q3⟩;go_simp;try with_reducible rfl
     refine kP 10 rfl λKK aj=>?_
     go_simp;refine aj.out _ _ (λ_=>dZ.o _ aY.o) ?_;clear aj KK;refine kP 11 rfl λKK aj=>?_
     go_simp;refine aj.out _ _ (λ_=>dZ.o _ aY.o) ?_;clear aj KK;refine kP 12 rfl λKK aj=>?_
     go_simp;refine aj.out _ _ (λ_=>dZ.o _ aY.o) ?_;clear aj KK;refine kD ?_ _;have bK:=bx (dQ.o.below aY.o);obtain⟨z0,z1,z2⟩:=dZ.o _ aY.o;have Xo:=Nat.lt_of_lt_of_le dR.o.lt aY.o.size;have hwz:=Nat.le_trans (dQ.o.bel (n:=w1.heap.size) (W0:=w1) (by simp)).size aY.o.size;clear dR Gs dZ oH aU dn aG bH LU;go_wp2_with (at_builtin;refine xR (cs:=dH (xa,xb,v)) rfl _ _ 120 rfl oI (by decide) bK.o 1 rfl rfl rfl rfl (by intro u hu;simp only [dH,List.mem_cons,List.not_mem_nil,or_false] at hu;rcases hu with rfl | rfl | rfl <;> rfl) (by have:=vJ.o;omega) (by omega) hwz ?_;rintro v9 w9 jo ⟨go',gc',rfl,-,-⟩)
     have fE:=bx (show Sep [Pc.row w1.heap.size 179 3 (.slice (some ⟨go',0,none⟩) (L++[(xa,xb,(v:Int))]).length gc') (L++[(xa,xb,(v:Int))]).length ((L++[(xa,xb,(v:Int))]).flatMap dH),Pc.old w1.heap.size w1] w9 by
      rw [List.length_append,List.flatMap_append,List.flatMap_singleton];exact jo.tail)
     clear jo z0 z1 z2;go_wp2_with fail
     go_roundw
     case rel=>exact⟨k+1,L++[(xa,xb,(v:Int))],some ⟨go',0,none⟩,gc',hlt,by go_num,by rw [List.length_append];rfl,by rw [List.length_append];simp;omega,gW,fE⟩
     case measure=>simp [intOf];omega
  ·obtain rfl:k=N:=by omega
   have qH:=bx (show L=out by have:=hrt.o.symm.trans HR.o;simpa using this);have HRO:=bx (jh.dL (hse.o.row 0 rfl) rfl);have aeB:=bx (ac9 _ _ m wr HRO.o (by rw [qH.o];exact kV.o));have dJ:=bx (bt HB1.o aV.o);go_wp2_with fail;refine aeB.o.mono ?_;rintro e w2 ⟨⟨v2,rfl,hv2⟩,hb2⟩;have eY:=bx hv2;have HB2:=bx (bt dJ.o hb2);have iD:=bx (ahH v2 m w2 hv2 xG.o);clear hv2 hb2;go_wp2_with fail;refine iD.o.mono ?_;rintro e w3 ⟨⟨v3,rfl,hv3⟩,hb3⟩;have nU:=bx hv3;have HB3:=bx (bt HB2.o hb3);clear hv3 hb3;go_wp2_with fail
   go_ret3
   exact⟨⟨_,rfl,HT.o▸nU.o⟩,HB3.o⟩
def lS (f:Nat->Int):Array Value:=((List.range 256).map λj=>Value.int .i64 (f j)).toArray
theorem aci (f:Nat->Int) (j:Nat) (h:j<256):(lS f)[j]?=some (.int .i64 (f j)):=by
 unfold lS;rw [List.getElem?_toArray,List.getElem?_map,List.getElem?_range h]
 rfl
theorem Uf {f g:Nat->Int} (h:∀ j,j<256->f j=g j):lS f=lS g:=by
 unfold lS
 congr 1
 exact List.map_congr_left λj hj=>by rw [h j (List.mem_range.1 hj)]
theorem afs (f:Nat->Int) (i:Nat) (v:Int):(lS f).setIfInBounds i (.int .i64 v)=lS λj=>if j=i then v else f j:=by
 unfold lS
 apply Array.ext'
 rw [Array.toList_setIfInBounds]
 apply List.ext_getElem?
 intro j;rw [List.getElem?_set,List.getElem?_map,List.getElem?_map,List.length_map,List.length_range]
 by_cases hj:j<256
 ·rw [List.getElem?_range hj]
  by_cases e:i=j
  ·subst e;simp [hj]
  ·rw [if_neg e];simp [Ne.symm e]
 ·rw [List.getElem?_eq_none (by simpa using hj)]
  by_cases e:i=j
  ·subst e;simp [hj]
  ·rw [if_neg e]
   rfl
theorem al9 (w:World):(Instr.makeSlice 23 (.int .i64 256) (.int .i64 256)).run Tryz.prog w = .ok (.slice (some ⟨w.heap.size,0,none⟩) 256 256) (w.alloc (.cells (lS λ_=>0) 3)):=by
 have hi:(Tryz.prog.info? 3).map (λi=>(i.zero,i.size,i.bytes))=some (some (.int .i64 0),1,8):=by kernel_rfl
 obtain⟨z,hz,hz2⟩:=Option.map_eq_some_iff.1 hi;simp only [Prod.mk.injEq] at hz2;have hz:=And.intro hz hz2;have:=run_makeSlice (P:=Tryz.prog) (w:=w) 23 3 z (.int .i64 0) Tryz.underlying23 hz.1 hz.2.1 .i64 .i64 256 256 (by omega) (by omega) (by rw [hz.2.2.1];simp) (by rw [hz.2.2.2];omega) (by omega);have e:madeCells (Value.int .i64 0).cells ((256:Int).toNat*z.size)=lS λ_=>0:=by
  rw [hz.2.2.1];unfold lS
  apply Array.ext'
  rw [show (256:Int).toNat*1=256 from rfl];have:=toList_madeCells_one (Value.int .i64 0) 256;rw [show (Value.int .i64 0).cells=#[Value.int .i64 0] from rfl] at *;rw [this]
  apply List.ext_getElem?
  intro j;rw [List.getElem?_map,List.getElem?_replicate]
  by_cases hj:j<256
  ·rw [List.getElem?_range hj,if_pos hj];rfl
  ·rw [List.getElem?_eq_none (by simpa using hj),if_neg hj];rfl
 rw [this,e]
 rfl
theorem aix {w:World} {g:Nat} {f:Nat->Int} (h:ak w g 3 (lS f)):ay w (.slice (some ⟨g,0,none⟩) 256 256) ((List.range 256).map f):=by
 refine .inr ⟨g,0,none,256,by rw [List.length_map,List.length_range],by rw [List.length_map,List.length_range];exact Nat.le_refl _,by unfold maxLen;omega,λ_=>⟨rfl,h.lt,λi x hx=>?_⟩⟩;have hi:i<256:=by
  have:=(List.getElem?_eq_some_iff.1 hx).1
  rwa [List.length_map,List.length_range] at this
 rw [List.getElem?_map,List.getElem?_range hi] at hx
 cases hx;rw [Nat.zero_add,h.cell i];exact aci f i hi
theorem F.ae5 (l:List F.bJ) (x:F.bJ) (y:Int):F.rF (l++[x]) y=if x.1<=y/\y<=x.2.1 then x.2.2 else F.rF l y:=by
 unfold F.rF;rw [List.reverse_append,List.reverse_singleton,List.singleton_append,List.find?_cons]
 by_cases h:x.1<=y/\y<=x.2.1
 ·rw [if_pos h,show (decide (x.1<=y)&&decide (y<=x.2.1))=true by rw [decide_eq_true h.1,decide_eq_true h.2];rfl]
 ·rw [if_neg h,show (decide (x.1<=y)&&decide (y<=x.2.1))=false by
   rw [Bool.and_eq_false_iff,decide_eq_false_iff_not,decide_eq_false_iff_not]
   by_cases h1:x.1<=y
   ·exact .inr λh2=>h ⟨h1,h2⟩
   ·exact .inl h1]
def Af (l:List F.bJ) (row i:Nat) (x:F.bJ) (lo r:Int) (j:Nat):Int :=
 if lo<=((row*256+j:Nat):Int)/\((row*256+j:Nat):Int)<r then x.2.2 else F.rF (l.take i) ((row*256+j:Nat):Int)
theorem afa (l:List F.bJ) (row i:Nat) (x:F.bJ) (lo:Int):lS (Af l row i x lo lo)=lS (λj=>F.rF (l.take i) ((row*256+j:Nat):Int)) :=
 Uf λj _=>by unfold Af;rw [if_neg (by omega)]
theorem ahS (l:List F.bJ) (row i:Nat) (x:F.bJ) (lo r:Int) (hlo:lo<=r) (h0:((row*256:Nat):Int)<=lo):(lS (Af l row i x lo r)).setIfInBounds (r-((row*256:Nat):Int)).toNat (.int .i64 x.2.2)=lS (Af l row i x lo (r+1)):=by
 rw [afs];refine Uf λj _=>?_
 unfold Af
 by_cases e:j=(r-((row*256:Nat):Int)).toNat
 ·rw [if_pos e,if_pos (by omega)]
 ·rw [if_neg e]
  by_cases h:lo<=((row*256+j:Nat):Int)/\((row*256+j:Nat):Int)<r
  ·rw [if_pos h,if_pos (by omega)]
  ·rw [if_neg h,if_neg (by omega)]
theorem agM {l:List F.bJ} {row i:Nat} {x:F.bJ} {lo mn r:Int} (hx:l[i]?=some x) (hlo:lo=max ((row*256:Nat):Int) x.1) (hmn:mn=min (((row*256:Nat):Int)+255) x.2.1) (h1:r<=max lo (mn+1)) (h2:mn<r):lS (Af l row i x lo r)=lS (λj=>F.rF (l.take (i+1)) ((row*256+j:Nat):Int)) :=
 Uf λj hj=>by
  rw [List.take_add_one,hx,Option.toList_some,F.ae5];unfold Af
  by_cases h:x.1<=((row*256+j:Nat):Int)/\((row*256+j:Nat):Int)<=x.2.1
  ·rw [if_pos h,if_pos (by omega)]
  ·rw [if_neg h,if_neg (by omega)]
theorem ail (v:Value) (l:List F.bJ) (row:Nat) (w:World) (hv:jh w v l) (hl:∀ x∈l,F.Ep x=true) (hr:row<4352) :
  Calls Tryz.prog 124 #[v, .int .i64 (row:Int)] w λe w'=>(∃ v',e = .returned v'/\ay w' v' (F.qL l row)/\∀ g,v'.ownBlock=some g->w.heap.size<=g/\g<w'.heap.size)/\Below w.heap.size w w':=by
 have HL:=bx hl;have HV:=bx hv;obtain⟨a,cap,rfl,hc1,hc2⟩:=hv.slice;obtain⟨N,hN⟩:∃ N,l.length=N:=⟨_,rfl⟩
 have HN:=bx hN;rw [hN] at HV hc1 ⊢;have hm:=al9 w;obtain⟨V,hV⟩:∃ V,V=w.alloc (.cells (lS λ_=>0) 3):=⟨_,rfl⟩
 rw [<- hV] at hm;have HB0:=bx (show Below w.heap.size w V by rw [hV];exact(Below.refl _ _).alloc (Nat.le_refl _) _);have WB:=bx (show ak V w.heap.size 3 (lS λj=>F.rF (l.take 0) ((row*256+j:Nat):Int)) by rw [hV];exact ak.new _ _ _);clear hv hN hl hV
 go_enter Tryz.func124,Tryz.ntmps124
 go_wp2_with fail
 go_loopw [7] (λi wr=>∃ k:Nat,k<=N/\i = .int .i64 k/\Box (ak wr w.heap.size 3 (lS λj=>F.rF (l.take k) ((row*256+j:Nat):Int)))/\Box (Below w.heap.size w wr)) (λi _=>N-(intOf i).toNat)
 case atStart=>exact⟨0,by omega,rfl,WB,HB0⟩
 case round =>
  obtain⟨k,hk,rfl,hbk,hb⟩:=hrel
  by_cases hlt:k<N
  ·obtain⟨x,hx⟩:∃ x,l[k]?=some x:=⟨_,List.getElem?_eq_getElem (by rw [HN.o];exact hlt)⟩
   have hrb:=HL.o x (List.mem_of_getElem? hx);unfold F.Ep at hrb;simp only [Bool.and_eq_true,decide_eq_true_eq] at hrb;obtain⟨⟨⟨⟨b1,b2⟩,b3⟩,b4⟩,b5⟩:=hrb;obtain⟨g,off,cap2,hg1,hg2,hg3,hg4,hg5⟩:=HV.o.get (by rintro rfl;simp at hx);rw [HN.o] at hg1;obtain⟨rfl,rfl⟩:a=some ⟨g,off,none⟩/\cap=cap2:=by injection hg1 with h1 h2 h3;exact⟨h1,h3⟩
   have HC:=bx (λW (h:Below w.heap.size w W)=>show W.cell? ⟨g,off+k*3,none⟩=some (.int .i64 x.1)/\W.cell? ⟨g,off+k*3+1,none⟩=some (.int .i64 x.2.1)/\W.cell? ⟨g,off+k*3+2,none⟩=some (.int .i64 x.2.2) from⟨(h.cell (p:=⟨g,off+k*3,none⟩) hg4).trans (hg5 k x hx).1,(h.cell (p:=⟨g,off+k*3+1,none⟩) hg4).trans (hg5 k x hx).2.1,(h.cell (p:=⟨g,off+k*3+2,none⟩) hg4).trans (hg5 k x hx).2.2⟩);obtain⟨x0,x1,x2⟩:=HC.o _ hb.o;unfold maxLen at hg3;have HX:=bx hx;clear hx hg1 hg2 hg5;go_wp2_with fail;obtain⟨lo,hlo⟩:∃ lo:Int,max ((row:Int)*256) x.1=lo:=⟨_,rfl⟩
   obtain⟨mn,hmn⟩:∃ mn:Int,min ((row:Int)*256+256-1) x.2.1=mn:=⟨_,rfl⟩
   rw [hlo];have qH:=bx hlo;have HMN:=bx hmn;have b0:(row:Int)*256<=lo:=by omega
   have bm:mn<=(row:Int)*256+255:=by omega
   have aU:=bx (show ak wr w.heap.size 3 (lS (Af l row k x lo lo)) by rw [afa];exact hbk.o)
   go_loopw [8] (λi wx=>∃ r:Int,lo<=r/\r<=max lo (mn+1)/\i = .int .i64 r/\Box (ak wx w.heap.size 3 (lS (Af l row k x lo r)))/\Box (Below w.heap.size w wx)) (λi _=>(mn+1-intOf i).toNat)
   case atStart=>exact⟨lo,by omega,by omega,rfl,aU,hb⟩
   case round =>
    obtain⟨r,hr1,hr2,rfl,hbx,hbb⟩:=hrel;obtain⟨y0,y1,y2⟩:=HC.o _ hbb.o;clear hlo
    by_cases hle:r<=mn
    ·have e1:decide (r<=min ((row:Int)*256+256-1) x.2.1)=true:=decide_eq_true (by rw [hmn];exact hle);have l1:r<=(row:Int)*256+256-1:=by omega
     have l2:r<=x.2.1:=by omega
     have l3:0<=r-(row:Int)*256:=by omega
     have l4:r-(row:Int)*256<256:=by omega
     have hck:=(hbx.o.cell (r-(row:Int)*256).toNat).trans (aci _ (r-(row:Int)*256).toNat (by omega));have hfk:=hbx.o.frozen (r-(row:Int)*256).toNat
     have hlk:=hbx.o.lt;have bZ:=bx (show ak (wr.setCell ⟨w.heap.size,(r-(row:Int)*256).toNat,none⟩ (.int .i64 x.2.2)) w.heap.size 3 (lS (Af l row k x lo (r+1))) by
      have h9:=hbx.o.bP (r-(row:Int)*256).toNat (.int .i64 x.2.2)
      have h8:=ahS l row k x lo r hr1 (by omega);rw [show ((row*256:Nat):Int)=(row:Int)*256 by omega] at h8;rw [h8] at h9;exact h9)
     have xu:=bx (hbb.o.setCell (p:=⟨w.heap.size,(r-(row:Int)*256).toNat,none⟩) (Nat.le_refl _) (.int .i64 x.2.2));have O6:=bx hle;clear hmn hle;go_wp2_with fail
     go_roundw
     case rel=>exact⟨r+1,by omega,by have:=O6.o;omega,by go_num,bZ,xu⟩
     case measure=>have:=O6.o;simp [intOf];omega
    ·have e1:decide (r<=min ((row:Int)*256+256-1) x.2.1)=false:=decide_eq_false (by rw [hmn];exact hle);have Aw:=bx (show ak wr w.heap.size 3 (lS λj=>F.rF (l.take (k+1)) ((row*256+j:Nat):Int)) by
      rw [<- agM (row:=row) (lo:=lo) (mn:=mn) HX.o (by rw [<- qH.o];simp) (by rw [<- HMN.o];congr 1;omega) hr2 (by omega)];exact hbx.o)
     clear hmn hle;go_wp2_with fail
     go_roundw
     case rel=>exact⟨k+1,hlt,by go_num,Aw,hbb⟩
     case measure=>simp [intOf];omega
  ·obtain rfl:k=N:=by omega
   have HO:=bx (show ay wr (.slice (some ⟨w.heap.size,0,none⟩) 256 256) (F.qL l row) by
    have h9:=aix hbk.o;rw [<- HN.o,List.take_length] at h9;exact h9)
   go_wp2_with fail;go_ret
   exact⟨⟨_,rfl,HO.o,λg hg=>by simp [Value.ownBlock] at hg;have:=hbk.o.lt;omega⟩,hb.o⟩
theorem Yv {W W':World} {v:Value} {xs:List Int} (h:ay W v xs) (hs:W.heap.size<=W'.heap.size) (hg:∀ g,v.ownBlock=some g->W'.heap[g]?=W.heap[g]?):ay W' v xs:=by
 rcases h with h | ⟨b,off,sp,cap,h1,h2,h3,h4⟩
 ·exact .inl h
 ·refine .inr ⟨b,off,sp,cap,h1,h2,h3,λhn=>?_⟩;obtain⟨k1,k2,k3⟩:=h4 hn;have hb:=hg b (by rw [h1];rfl);exact⟨k1,Nat.lt_of_lt_of_le k2 hs,λi x hx=>(World.cell?_of_block hb).trans (k3 i x hx)⟩
def oq:CU (Value×List Int) where
 at' W y:=ay W y.1 y.2/\∀ g,y.1.ownBlock=some g->g<W.heap.size
 val y:=y.1
 same:=λ{_ _ _} h hs hg=>⟨Yv h.1 hs hg,λg hg'=>Nat.lt_of_lt_of_le (h.2 g hg') hs⟩
 lt:=λ{_ _ _} h hg=>h.2 _ hg
theorem pG {w:World} {v:Value} {xs:List Int} (h:ay w v xs):qo w v xs.length (xs.map (Value.int .i64)):=by
 rcases h with⟨rfl,rfl⟩ | ⟨b,off,sp,cap,rfl,h2,h3,h4⟩
 ·exact .inl ⟨rfl,rfl,rfl⟩
 ·refine .inr ⟨_,_,rfl,λj u hu=>?_⟩;have hne:xs≠[]:=by rintro rfl;simp at hu
  obtain⟨rfl,k2,k3⟩:=h4 hne;rw [List.getElem?_map] at hu;obtain⟨z,hz,rfl⟩:=Option.map_eq_some_iff.1 hu;rw [show (⟨b,off,none⟩:Addr).add j=⟨b,off+j,none⟩ by unfold Addr.add;by_cases h0:j=0 <;> simp [h0]];exact k3 j z hz
abbrev yt (n:Nat) (W0:World) (ps:List Pc) (iv bv:Value) (xs:List Int) (L:List (Value×List Int)):List Pc :=
 Pc.row n 3 1 iv xs.length (xs.map (Value.int .i64))::Pc.row n 23 1 bv L.length (L.map (·.1))::Pc.iV oq L::Pc.old n W0::ps
theorem F.agQ {xs:List Int} {bs:List (List Int)} {b:List Int} {k:Nat} (hk:bs[k]?=some b) (h:∀ (j:Nat) (y:List Int),j<k->bs[j]?=some y->y≠b):F.tZ (xs,bs) b=(xs++[(k:Int)],bs):=by
 unfold F.tZ;have:bs.findIdx? (·==b)=some k:=by
  obtain⟨hkl,he⟩:=List.getElem?_eq_some_iff.1 hk;rw [List.findIdx?_eq_some_iff_getElem];refine⟨hkl,by simp [he],λj hj=>?_⟩;have:=h j bs[j] hj (List.getElem?_eq_getElem (by omega))
  simpa using this
 simp only [this]
theorem F.ang {xs:List Int} {bs:List (List Int)} {b:List Int} (h:∀ (j:Nat) (y:List Int),bs[j]?=some y->y≠b):F.tZ (xs,bs) b=(xs++[(bs.length:Int)],bs++[b]):=by
 unfold F.tZ;have:bs.findIdx? (·==b)=none:=by
  rw [List.findIdx?_eq_none_iff];intro y hy;obtain⟨i,hi,e⟩:=List.getElem_of_mem hy;have:=h i y (by rw [List.getElem?_eq_getElem hi,e])
  simpa using this
 simp only [this]
theorem Pz:(Tryz.prog.info? 26).map (·.size)=some 2:=by kernel_rfl
theorem amz (n:Nat) (W0:World) (ps:List Pc) (iv bv b:Value) (xs:List Int) (L:List (Value×List Int)) (bl:List Int) (w:World) (hS:Sep (Pc.iV oq [(b,bl)]::yt n W0 ps iv bv xs L) w) (h256:bl.length=256) (hx:xs.length<=10000) (hL:L.length<=10000) (hall:∀ y∈L,y.2.length=256) :
  Calls Tryz.prog 123 #[.agg #[iv,bv],b] w λe w'=>∃ VK Ur L',e = .returned (.agg #[VK,Ur])/\Sep (yt n W0 ps VK Ur (F.tZ (xs,L.map (·.2)) bl).1 L') w'/\L'.map (·.2)=(F.tZ (xs,L.map (·.2)) bl).2:=by
 obtain⟨ia,ic,rfl,hi1,hi2⟩:=dN (hS.row 1 rfl);obtain⟨ba,bc,rfl,hb1,hb2⟩:=dN (hS.row 2 rfl);have hb:=((hS.at' 0 (p:=Pc.iV oq [(b,bl)]) rfl) (b,bl) (by simp)).1;simp only at hb;obtain⟨sa,sc,rfl⟩:=hb.slice;rw [h256] at hS ⊢;obtain⟨V,hV⟩:∃ V,V=(w.alloc (.cells #[.slice ia xs.length ic, .slice ba L.length bc] 26)).alloc (.cells #[.slice none 0 0, .slice none 0 0] 26):=⟨_,rfl⟩
 have h1:=hS.dh 26 #[.slice ia xs.length ic, .slice ba L.length bc];have h2:=h1.dh 26 #[.slice none 0 0, .slice none 0 0];have hsz:(w.alloc (.cells #[.slice ia xs.length ic, .slice ba L.length bc] 26)).heap.size=w.heap.size+1:=by simp
 rw [hsz,<- hV] at h2;have tV:=bx h2;have HV:=bx hV;have OW:=bx h256;have fC:=bx hall;have HN:=bx (show n<=w.heap.size from(hS.at' 4 (p:=Pc.old n W0) rfl).1);clear hS hb hV h1 h2 hsz h256 hall
 go_enter Tryz.func123,Tryz.ntmps123
 go_upto_region 1 with(fail)
 rw [<- HV.o];obtain⟨Q,hQ⟩:∃ Q,w.heap.size=Q:=⟨_,rfl⟩
 rw [hQ] at tV HN ⊢;clear hQ HV;go_wp2_with fail
 go_loopw [5] (λi wr=>∃ k:Nat,k<=L.length/\i = .int .i64 k/\Box (∀ (j:Nat) (y:List Int),j<k->(L.map (·.2))[j]?=some y->y≠bl)/\Box (Below V.heap.size V wr)) (λi _=>L.length-(intOf i).toNat)
 case atStart=>exact⟨0,by omega,rfl,⟨λj y h=>by omega⟩,⟨Below.refl _ _⟩⟩
 case round =>
  obtain⟨k,hk,rfl,hno,hb⟩:=hrel;have mO:=bx (tV.o.below hb.o);have hq:=mO.o.blk 1 rfl;have hr:=mO.o.blk 0 rfl;have c0:wr.cell? ⟨Q,0,none⟩=some (.slice ia xs.length ic):=(hq.cell 0).trans rfl;have c1:wr.cell? ⟨Q,1,none⟩=some (.slice ba L.length bc):=(hq.cell 1).trans rfl;have f0:=hq.frozen 0;have f1:=hq.frozen 1;have ql:=hq.lt;have aJ:=bx ((mO.o.at' 2 (p:=Pc.iV oq [(.slice sa 256 sc,bl)]) rfl) (.slice sa 256 sc,bl) (by simp)).1;simp only at aJ;clear hq hr
  by_cases hlt:k<L.length
  ·obtain⟨y,hy⟩:∃ y,L[k]?=some y:=⟨_,List.getElem?_eq_getElem hlt⟩
   obtain⟨g,cap',cur,e1,s1,s2,s3,hbk,hcur⟩:=OX (mO.o.row 4 rfl) (by omega);obtain⟨rfl,rfl⟩:ba=some ⟨g,0,none⟩/\bc=cap':=by injection e1 with e1 e2 e3;exact⟨e1,e3⟩
   have hck:=(hbk.cell k).trans (hcur k y.1 (by rw [List.getElem?_map,hy];rfl));have hyl:=hbk.lt;have hyi:=(mO.o.at' 5 (p:=Pc.iV oq L) rfl) y (List.mem_of_getElem? hy);have h256:=fC.o y (List.mem_of_getElem? hy);have mV:=bx (Dq y.1 (.slice sa 256 sc) y.2 bl wr hyi.1 aJ.o (by omega) (by have:=OW.o;omega));have ZN:=bx (show (L.map (·.2))[k]?=some y.2 by rw [List.getElem?_map,hy];rfl);clear hy hbk hcur e1 hyi
   by_cases heq:y.2=bl
   ·have mF:=bx (F.agQ (xs:=xs) (by rw [ZN.o,heq]) hno.o);rw [decide_eq_true heq] at mV;clear heq;go_wp2_with fail;refine mV.o.mono ?_;rintro e w2 ⟨rfl,hb2⟩;have HS2:=bx (mO.o.below hb2);have hq2:=HS2.o.blk 1 rfl;have d0:w2.cell? ⟨Q,0,none⟩=some (.slice ia xs.length ic):=(hq2.cell 0).trans rfl;have d1:w2.cell? ⟨Q,1,none⟩=some (.slice (some ⟨g,0,none⟩) L.length bc):=(hq2.cell 1).trans rfl;have e0:=hq2.frozen 0;have el:=hq2.lt;have hbs:n<=w2.heap.size:=by have:=HN.o;omega
    clear c0 c1 f0 f1 ql hck hyl hb2 hq2;go_wp2_with (at_builtin;refine lI (u:=.int .i64 (k:Int)) rfl _ _ 23 rfl mQ HS2.o 3 rfl rfl rfl rfl (by omega) (by omega) hbs ?_;rintro v' w4 hS4 ⟨go',gc',rfl,-,-⟩;have dn:=bx hS4;have hq4:=dn.o.blk 1 rfl;have d0:w4.cell? ⟨Q,0,none⟩=some (.slice ia xs.length ic):=(hq4.cell 0).trans rfl;have d1:w4.cell? ⟨Q,1,none⟩=some (.slice (some ⟨g,0,none⟩) L.length bc):=(hq4.cell 1).trans rfl;have e0:=hq4.frozen 0;have e1:=hq4.frozen 1;have el:=hq4.lt;have hr4:=dn.o.blk 0 rfl;have r0:w4.cell? ⟨Q+1,0,none⟩=some (.slice none 0 0):=(hr4.cell 0).trans rfl;have r1:w4.cell? ⟨Q+1,1,none⟩=some (.slice none 0 0):=(hr4.cell 1).trans rfl;have F6:=hr4.frozen 0;have FD:=hr4.frozen 1;have rl:=hr4.lt;clear hS4 hq4 hr4)
    have h5:=dn.o.set 1 rfl 0 (.slice (some ⟨go',0,none⟩) (xs.length+1) gc');have h6:=(h5.set 0 rfl 0 (.slice (some ⟨go',0,none⟩) (xs.length+1) gc')).set 0 rfl 1 (.slice (some ⟨g,0,none⟩) L.length bc);refine bodyPost_ret (v:=.agg #[.slice (some ⟨go',0,none⟩) (xs.length+1) gc', .slice (some ⟨g,0,none⟩) L.length bc]) (results_cell_row Tryz.results123 _ _ (Q+1) 26 #[.slice (some ⟨go',0,none⟩) (xs.length+1) gc', .slice (some ⟨g,0,none⟩) L.length bc] (0,0) _ rfl (h6.blk 0 rfl) Tryz.underlying26 rfl Pz) rfl ⟨_,_,L,rfl,?_,by rw [mF.o]⟩;rw [mF.o];have h7:=h6.tail.tail.tail;simp only [yt,List.map_append,List.length_append];exact h7
   ·have bZ:=bx (show ∀ (j:Nat) (z:List Int),j<k+1->(L.map (·.2))[j]?=some z->z≠bl from λj z hj hz=>by
     rcases Nat.lt_or_ge j k with h1 | h1
     ·exact hno.o j z h1 hz
     ·obtain rfl:j=k:=by omega
      rw [ZN.o] at hz
      cases hz;exact heq)
    rw [decide_eq_false heq] at mV;clear heq;go_wp2_with fail;refine mV.o.mono ?_;rintro e w2 ⟨rfl,hb2⟩;have HB2:=bx (bt hb.o hb2);clear hb2;go_wp2_with fail
    go_roundw
    case rel=>exact⟨k+1,hlt,by go_num,bZ,HB2⟩
    case measure=>simp [intOf];omega
  ·obtain rfl:k=L.length:=by omega
   have mF:=bx (F.ang (xs:=xs) (bs:=L.map (·.2)) (b:=bl) (λj y hy=>hno.o j y (by have:=(List.getElem?_eq_some_iff.1 hy).1;simpa using this) hy));rw [List.length_map] at mF;have hbs:n<=wr.heap.size:=by have:=HN.o;omega
   go_wp2_with (at_builtin;refine lI (u:=.int .i64 (L.length:Int)) rfl _ _ 23 rfl mQ mO.o 3 rfl rfl rfl rfl (by omega) (by omega) hbs ?_;rintro v' w4 hS4 ⟨go',gc',rfl,-,-⟩;have dn:=bx hS4;have hq4:=dn.o.blk 1 rfl;have d0:w4.cell? ⟨Q,0,none⟩=some (.slice ia xs.length ic):=(hq4.cell 0).trans rfl;have d1:w4.cell? ⟨Q,1,none⟩=some (.slice ba L.length bc):=(hq4.cell 1).trans rfl;have e0:=hq4.frozen 0;have e1:=hq4.frozen 1;have el:=hq4.lt;have hr4:=dn.o.blk 0 rfl;have r0:w4.cell? ⟨Q+1,0,none⟩=some (.slice none 0 0):=(hr4.cell 0).trans rfl;have r1:w4.cell? ⟨Q+1,1,none⟩=some (.slice none 0 0):=(hr4.cell 1).trans rfl;have F6:=hr4.frozen 0;have FD:=hr4.frozen 1;have rl:=hr4.lt;clear hS4 hq4 hr4)
   refine dO 7 (λW=>W.cell? ⟨Q,1,none⟩=some (.slice ba L.length bc)) (by kernel_rfl) ?_;have aG:=bx ((dn.o.set 1 rfl 0 (.slice (some ⟨go',0,none⟩) (xs.length+1) gc')).drew.fP n 1 3);generalize (w4.setCell ⟨Q,0,none⟩ (.slice (some ⟨go',0,none⟩) (xs.length+1) gc')).drew=WD at aG ⊢;have aC:=bx (show WD.cell? ⟨Q,1,none⟩=some (.slice ba L.length bc) from((aG.o.blk 2 rfl).cell 1).trans rfl);have iG:=bx (pG (((aG.o.at' 3 (p:=Pc.iV oq [(.slice sa 256 sc,bl)]) rfl) (.slice sa 256 sc,bl) (by simp)).1));simp only at iG;rw [OW.o] at iG;clear dn;refine kS 0 ?_ rfl aC.o ?_ ?_;rotate_left
   ·intro w q1;go_simp;try with_reducible rfl
   refine kS 1 ?_ rfl aC.o ?_ ?_;rotate_left
   ·intro w q1;go_simp;try with_reducible rfl
   refine kS 2 ?_ rfl aC.o ?_ ?_;rotate_left
   ·intro w q1;go_simp;try with_reducible rfl
   refine kP 3 rfl λKK aj=>?_
   refine oW rfl _ _ 23 rfl lQ (by decide) aG.o 0 rfl (by kernel_rfl) (by kernel_rfl) (m:=256) (cs:=bl.map (Value.int .i64)) iG.o (by rw [List.length_map,OW.o]) (by intro u hu;obtain⟨z,-,rfl⟩:=List.mem_map.1 hu;rfl) (by omega) (by omega) (aG.o.at' 7 (p:=Pc.old n W0) rfl).1 ?_;rintro v6 w6 hS6;have dA:=bx hS6;clear hS6;obtain⟨na,nc,rfl,hn1,hn2⟩:=dN (dA.o.row 0 rfl);refine aj.out _ _ (λ_=>((dA.o.blk 2 rfl).cell 1).trans rfl) ?_;clear aj KK;refine kP 4 rfl λKK aj=>?_
   go_simp;refine aj.out _ _ (λ_=>(((dA.o.alloc _).blk 2 rfl).cell 1).trans rfl) ?_;clear aj KK;refine kP 5 rfl λKK aj=>?_
   refine BZ (u:=.slice na (0+256) nc) rfl _ _ 24 rfl Hr dA.o 5 rfl (by kernel_rfl) (by kernel_rfl) rfl (by omega) (by omega) (dA.o.at' 7 (p:=Pc.old n W0) rfl).1 ?_;rintro v7 w7 hS7 ⟨g7,c7,rfl,-,-⟩;have bH:=bx hS7;have hq7:=bH.o.blk 2 rfl;have d0:w7.cell? ⟨Q,0,none⟩=some (.slice (some ⟨go',0,none⟩) (xs.length+1) gc'):=(hq7.cell 0).trans rfl;have d1:w7.cell? ⟨Q,1,none⟩=some (.slice ba L.length bc):=(hq7.cell 1).trans rfl;have e0:=hq7.frozen 0;have e1:=hq7.frozen 1;have el:=hq7.lt;have Hq:=bH.o.blk 1 rfl;have r0:w7.cell? ⟨Q+1,0,none⟩=some (.slice none 0 0):=(Hq.cell 0).trans rfl;have r1:w7.cell? ⟨Q+1,1,none⟩=some (.slice none 0 0):=(Hq.cell 1).trans rfl;have F6:=Hq.frozen 0;have FD:=Hq.frozen 1;have rl:=Hq.lt;clear hS7 hq7 Hq;refine aj.out _ _ (λ_=>d1) ?_;clear aj KK;refine kP 6 rfl λKK aj=>?_
   go_simp;refine aj.out _ _ (λ_=>d1) ?_;clear aj KK;refine kP 7 rfl λKK aj=>?_
   go_simp;refine aj.out _ _ (λh=>by cases h) ?_;clear aj KK;refine kD ?_ _;go_wp2_with fail;have h5:=bH.o.set 2 rfl 1 (.slice (some ⟨g7,0,none⟩) (L.length+1) c7);have h6:=(h5.set 1 rfl 0 (.slice (some ⟨go',0,none⟩) (xs.length+1) gc')).set 1 rfl 1 (.slice (some ⟨g7,0,none⟩) (L.length+1) c7);refine bodyPost_ret (v:=.agg #[.slice (some ⟨go',0,none⟩) (xs.length+1) gc', .slice (some ⟨g7,0,none⟩) (L.length+1) c7]) (results_cell_row Tryz.results123 _ _ (Q+1) 26 #[.slice (some ⟨go',0,none⟩) (xs.length+1) gc', .slice (some ⟨g7,0,none⟩) (L.length+1) c7] (0,0) _ rfl (h6.blk 1 rfl) Tryz.underlying26 rfl Pz) rfl ⟨_,_,L++[(.slice na (0+256) nc,bl)],rfl,?_,by rw [mF.o,List.map_append];rfl⟩;rw [mF.o];have hrow:=h6.row 0 rfl;have h7:=h6.as 0 (p':=Pc.iV oq [(.slice na (0+256) nc,bl)]) rfl (λhr y hy=>by
    rw [List.mem_singleton.1 hy];exact⟨ay.dL hr (by rw [OW.o]),λg hg=>(hr.lt g hg).2⟩) (λk hk=>by
    obtain⟨y,hy,hk⟩:=hk;rw [List.mem_singleton.1 hy] at hk;exact hk)
   have h8:=(Sep.NZ (b:=oq) (y:=(.slice na (0+256) nc,bl)) (L:=L) h7 5 rfl).tail.tail.tail;simp only [yt,List.map_append,List.length_append];exact h8
theorem F.adP (l:List F.bJ) (row:Nat):(F.qL l row).length=256:=by unfold F.qL;rw [List.length_map,List.length_range]
theorem F.afC (t:F.Trie) (b:List Int):(F.tZ t b).1.length=t.1.length+1/\(F.tZ t b).2.length<=t.2.length+1/\∀ x∈(F.tZ t b).2,x∈t.2\/x=b:=by
 unfold F.tZ
 split
 ·exact⟨by simp,by simp,λx hx=>.inl hx⟩
 ·exact⟨by simp,by simp,λx hx=>by
   rcases List.mem_append.1 hx with h | h
   ·exact .inl h
   ·exact .inr (List.mem_singleton.1 h)⟩
theorem F.OQ (l:List F.bJ):∀ k,(F.nN l k).1.length=k/\(F.nN l k).2.length<=k/\∀ x∈(F.nN l k).2,x.length=256
 | 0=>⟨rfl,Nat.le_refl _,λx hx=>absurd hx List.not_mem_nil⟩
 | k+1=>by
  obtain⟨h1,h2,h3⟩:=F.OQ l k;obtain⟨k1,k2,k3⟩:=F.afC (F.nN l k) (F.qL l k);have e:F.nN l (k+1)=F.tZ (F.nN l k) (F.qL l k):=rfl;rw [e];exact⟨by omega,by omega,λx hx=>by
   rcases k3 x hx with h | h
   ·exact h3 x h
   ·rw [h];exact F.adP l k⟩
def uU (w:World) (v:Value) (t:F.Trie):Prop:=∃ iv bv,v = .agg #[iv,bv]/\ay w iv t.1/\iq w bv t.2
theorem uU.below {w w':World} {v:Value} {t:F.Trie} (h:uU w v t) (hb:Below w.heap.size w w'):uU w' v t:=by
 obtain⟨iv,bv,h1,h2,h3⟩:=h;exact⟨iv,bv,h1,h2.below hb,h3.below hb⟩
theorem Rj {w:World} {n:Nat} {T:TypeId} {bv:Value} {L:List (Value×List Int)} (h:w.ownsRow n T 1 bv L.length (L.map (·.1))) (hb:∀ y∈L,ay w y.1 y.2):iq w bv (L.map (·.2)):=by
 rcases h.2 with⟨h1,h2⟩ | ⟨g,cap,cur,rfl,h2,h3,h4,h5,h6,h7⟩
 ·refine .inl ⟨h1,?_⟩;rw [List.eq_nil_of_length_eq_zero h2]
  rfl
 ·refine .inr ⟨g,0,none,cap,by rw [List.length_map],by rw [List.length_map];exact h4,h5,λ_=>⟨rfl,(h.lt g rfl).2,λi r hr=>?_⟩⟩;rw [List.getElem?_map] at hr;obtain⟨y,hy,rfl⟩:=Option.map_eq_some_iff.1 hr;refine⟨y.1,?_,hb y (List.mem_of_getElem? hy)⟩;have:=h.cells (g:=g) rfl i y.1 (by rw [List.getElem?_map,hy];rfl);rw [show (⟨g,0+i,none⟩:Addr)=(⟨g,0,none⟩:Addr).add i by unfold Addr.add;by_cases h0:i=0 <;> simp [h0]];exact this
theorem X0 (v:Value) (l:List F.bJ) (w:World) (hv:jh w v l) (hok:F.tX l=true) :
  Calls Tryz.prog 68 #[v] w λe w'=>∃ iv bv L,e = .returned (.tuple #[.agg #[iv,bv], .int .i64 0])/\L.map (·.2)=(F.iR l).2/\Sep (yt w.heap.size w [] iv bv (F.iR l).1 L) w':=by
 have nC:=bx hok;have fC:=bx (show ∀ x∈l,F.Ep x=true by
  unfold F.tX at hok;rw [Bool.and_eq_true,List.all_eq_true] at hok;intro x hx;obtain⟨i,hi,rfl⟩:=List.getElem_of_mem hx;have h:=hok.1 i (List.mem_range.2 hi);rw [Bool.and_eq_true] at h;have h9:=h.1
  rwa [List.getD_eq_getElem?_getD,List.getElem?_eq_getElem hi,Option.getD_some] at h9)
 have HV:=bx hv;obtain⟨a,cap,rfl,hc1,hc2⟩:=hv.slice;have hb0:=aS w (.cells #[.slice none 0 0, .slice none 0 0] 26);have bI:=bx (acV _ l _ (hv.below hb0) hok);have aU:=bx ((Sep.start w).dh 26 #[.slice none 0 0, .slice none 0 0]);clear hv hok hb0
 go_enter Tryz.func68,Tryz.ntmps68
 go_wp2_with fail;refine bI.o.mono ?_;rintro e w1 ⟨rfl,hb1⟩;have bQ:=bx (aU.o.below hb1);have hr1:=bQ.o.blk 0 rfl;have r0:w1.cell? ⟨w.heap.size,0,none⟩=some (.slice none 0 0):=(hr1.cell 0).trans rfl;have r1:w1.cell? ⟨w.heap.size,1,none⟩=some (.slice none 0 0):=(hr1.cell 1).trans rfl;have rl:=hr1.lt;clear hb1 hr1;go_wp2_with fail;have HS2:=bx (show Sep (yt w.heap.size w [Pc.blk w1.heap.size 26 #[.slice none 0 0, .slice none 0 0],Pc.blk w.heap.size 26 #[.slice none 0 0, .slice none 0 0]] (.slice none 0 0) (.slice none 0 0) [] []) (w1.alloc (.cells #[.slice none 0 0, .slice none 0 0] 26)) from
  (((((bQ.o.dh 26 #[.slice none 0 0, .slice none 0 0]).perm (List.perm_append_comm (l₁:=[_,_]) (l₂:=[_]))).RY oq).fP w.heap.size 1 23).fP w.heap.size 1 3))
 obtain⟨T,hT⟩:∃ T,w1.heap.size=T:=⟨_,rfl⟩
 rw [hT] at HS2 ⊢;generalize w1.alloc (.cells #[.slice none 0 0, .slice none 0 0] 26)=V at HS2 ⊢;obtain⟨R,hR⟩:∃ R,w.heap.size=R:=⟨_,rfl⟩
 rw [hR] at HS2 ⊢;have HR:=bx hR;clear hT hR r0 r1 rl bQ aU bI
 go_loopw [5] (λi wr=>∃ (k:Nat) (iv bv:Value) (L:List (Value×List Int)),k<=4352/\i = .int .i64 k/\Box (L.map (·.2)=(F.nN l k).2)/\Box (Sep (yt R w [Pc.blk T 26 #[iv,bv],Pc.blk R 26 #[.slice none 0 0, .slice none 0 0]] iv bv (F.nN l k).1 L) wr)) (λi _=>4352-(intOf i).toNat)
 case atStart=>exact⟨0, .slice none 0 0, .slice none 0 0,[],by omega,rfl,⟨rfl⟩,HS2⟩
 case round =>
  obtain⟨k,iv,bv,L,hk,rfl,QL,hse⟩:=hrel;have aV:=bx (show Below w.heap.size w wr by rw [HR.o];exact hse.o.bel (n:=R) (W0:=w) (by simp));obtain⟨ia,ic,rfl,hi1,hi2⟩:=dN (hse.o.row 0 rfl);obtain⟨ba,bc,rfl,hb1,hb2⟩:=dN (hse.o.row 1 rfl);have hq:=hse.o.blk 4 rfl;have hr:=hse.o.blk 5 rfl;have c0:wr.cell? ⟨T,0,none⟩=some (.slice ia (F.nN l k).1.length ic):=(hq.cell 0).trans rfl;have c1:wr.cell? ⟨T,1,none⟩=some (.slice ba L.length bc):=(hq.cell 1).trans rfl;have f0:=hq.frozen 0;have f1:=hq.frozen 1;have ql:=hq.lt;have r0:wr.cell? ⟨R,0,none⟩=some (.slice none 0 0):=(hr.cell 0).trans rfl;have r1:wr.cell? ⟨R,1,none⟩=some (.slice none 0 0):=(hr.cell 1).trans rfl;have F6:=hr.frozen 0;have FD:=hr.frozen 1;have rl:=hr.lt;have HLEN:=bx (F.OQ l k);have kX:=bx (show L.length<=k by have h9:=congrArg List.length QL.o;rw [List.length_map] at h9;rw [h9];exact HLEN.o.2.1);obtain⟨xn,hxn⟩:∃ xn,(F.nN l k).1.length=xn:=⟨_,rfl⟩
  have MK:=bx hxn;rw [hxn] at c0;clear hxn hq hr hi1 hb1
  by_cases hlt:k<4352
  ·go_wp2_with fail;refine dO 5 (λW=>W.cell? ⟨T,0,none⟩=some (.slice ia xn ic)/\W.cell? ⟨T,1,none⟩=some (.slice ba L.length bc)) (by kernel_rfl) ?_;have cZ:=bx hse.o.drew;have aF:=bx (aV.o.trans ((eu wr 1).mono aV.o.size));have aC:=bx (show wr.drew.cell? ⟨T,0,none⟩=some (.slice ia xn ic)/\wr.drew.cell? ⟨T,1,none⟩=some (.slice ba L.length bc) from⟨c0,c1⟩);have Ry:Below w.heap.size w wr.drew:=aF.o;generalize wr.drew=WD at cZ aC Ry ⊢;have jf:=bx (ail _ l k WD (HV.o.below Ry) fC.o hlt);clear c0 c1 f0 f1 ql r0 r1 F6 FD rl Ry aF;refine kS 0 ?_ rfl aC.o ?_ ?_;rotate_left
   ·rintro w ⟨q1,q2⟩;go_simp;try with_reducible rfl
   refine kS 1 ?_ rfl aC.o ?_ ?_;rotate_left
   ·rintro w ⟨q1,q2⟩;go_simp;try with_reducible rfl
   refine kS 2 ?_ rfl aC.o ?_ ?_;rotate_left
   ·rintro w ⟨q1,q2⟩;go_simp;try with_reducible rfl
   refine kP 3 rfl λKK aj=>?_
   go_simp;go_wp2_with (go_at_call 124;refine jf.o.mono ?_;rintro e w6 ⟨⟨vb,rfl,hvb,hfr⟩,hb6⟩)
   have dA:=bx (cZ.o.Dl (b:=oq) (y:=(vb,F.qL l k)) hb6 ⟨hvb,λg hg=>(hfr g hg).2⟩ (λg hg=>(hfr g hg).1));clear hb6 hvb hfr;refine aj.out _ _ (λ_=>⟨((dA.o.blk 5 rfl).cell 0).trans (by rw [<- MK.o];rfl),((dA.o.blk 5 rfl).cell 1).trans rfl⟩) ?_;clear aj KK;have H6:=bx (amz R w _ _ _ vb (F.nN l k).1 L (F.qL l k) w6 dA.o (F.adP l k) (by rw [HLEN.o.1];omega) (by have:=kX.o;omega) (λy hy=>HLEN.o.2.2 y.2 (by rw [<- QL.o];exact List.mem_map_of_mem hy)));rw [MK.o] at H6;refine kP 4 rfl λKK aj=>?_
   go_simp;go_wp2_with (go_at_call 123;refine H6.o.mono ?_;rintro e w7 ⟨VK,Ur,L',rfl,hS7,hL7⟩)
   have e7:F.tZ ((F.nN l k).1,L.map (·.2)) (F.qL l k)=F.nN l (k+1):=by rw [QL.o];rfl
   rw [e7] at hS7 hL7;have bH:=bx hS7;have HL7:=bx hL7;obtain⟨ja,jc,rfl,hj1,hj2⟩:=dN (hS7.row 0 rfl);obtain⟨ca,cc,rfl,hc3,hc4⟩:=dN (hS7.row 1 rfl);have hq7:=hS7.blk 4 rfl;have c0:w7.cell? ⟨T,0,none⟩=some (.slice ia xn ic):=(hq7.cell 0).trans (by rw [<- MK.o];rfl);have c1:w7.cell? ⟨T,1,none⟩=some (.slice ba L.length bc):=(hq7.cell 1).trans rfl;have f0:=hq7.frozen 0;have f1:=hq7.frozen 1;have ql:=hq7.lt;clear hS7 hL7 e7 hq7;refine aj.out _ _ (λ_=>⟨c0,c1⟩) ?_;clear aj KK;refine kP 5 rfl λKK aj=>?_
   go_simp;refine aj.out _ _ (λh=>by cases h) ?_;clear aj KK;refine kD ?_ _;have dS:=bx ((bH.o.set 4 rfl 0 (.slice ja (F.nN l (k+1)).1.length jc)).set 4 rfl 1 (.slice ca L'.length cc));go_wp2_with fail
   go_roundw
   case rel=>exact⟨k+1,_,_,L',hlt,by go_num,HL7,dS⟩
   case measure=>simp [intOf];omega
  ·obtain rfl:k=4352:=by omega
   have gu:=bx hse.o;have mV:=bx (show F.nN l 4352=F.iR l from rfl);have GY:=bx (hse.o.iV 2 rfl);go_wp2_with fail;have h6:=(gu.o.set 5 rfl 0 (.slice ia xn ic)).set 5 rfl 1 (.slice ba L.length bc);refine bodyPost_ret (v:=.tuple #[.agg #[.slice ia xn ic, .slice ba L.length bc], .int .i64 0]) (BJ Tryz.results68 _ _ R 26 #[.slice ia xn ic, .slice ba L.length bc] (0,0) _ rfl (h6.blk 5 rfl) Tryz.underlying26 rfl Pz) rfl ⟨_,_,L,rfl,QL.o.trans (by rw [mV.o]),?_⟩;rw [HR.o];have h9:=(h6.drop 5).drop 4;rw [<- MK.o,mV.o] at h9;rw [<- MK.o,mV.o];exact h9
theorem amE {n:Nat} {W0 w:World} {ps:List Pc} {iv bv:Value} {xs:List Int} {L:List (Value×List Int)} (h:Sep (yt n W0 ps iv bv xs L) w):uU w (.agg #[iv,bv]) (xs,L.map (·.2)) :=
 ⟨iv,bv,rfl,ay.dL (h.row 0 rfl) rfl,Rj (h.row 1 rfl) (λy hy=>(h.iV 2 rfl y hy).1)⟩
theorem aeY {n:Nat} {W0 w:World} {ps:List Pc} {iv bv:Value} {L:List (Value×List Int)} {t:F.Trie} (h2:L.map (·.2)=t.2) (h:Sep (yt n W0 ps iv bv t.1 L) w):uU w (.agg #[iv,bv]) t:=by
 obtain⟨a,b⟩:=t;have h4:=amE h;rw [h2] at h4;exact h4
theorem alB (v:Value) (l:List F.bJ) (w:World) (hv:jh w v l) (hok:F.tX l=true) :
  Calls Tryz.prog 68 #[v] w λe w'=>(∃ v',e = .returned (.tuple #[v', .int .i64 0])/\uU w' v' (F.iR l))/\Below w.heap.size w w' :=
 (X0 v l w hv hok).mono λ_ w' ⟨iv,bv,L,h1,h2,h3⟩=>by
  exact⟨⟨_,h1,aeY h2 h3⟩,h3.bel (n:=w.heap.size) (W0:=w) (by simp)⟩
end
namespace F
open Go.Proofs.YtlmdjifffmofeaaGreatDoor
def FT (names:List (List UInt8)) (x:List UInt8):Option (List N.Item) :=
 if x=[] then some []
 else if ((x.any λc=>c==32||c==91)||x.getLast?==some 42||x==[94]||x==[46])=true then none
 else (valueOf names x).map λi=>[((2:Int) ^ i,0)]
def GK (c:UInt8):Bool:=c==43||c==47
def H8 (names:List (List UInt8)) (t:List UInt8):Option D.Rule :=
 match t.findIdx? GK with
 | none=>none
 | some i=>match FT names (trim (t.take i)),FT names (trim (t.drop (i+1))) with
  | some a,some b=>some ((false,a),(false,b),t.getD i 0==47)
  | _,_=>none
abbrev Map:=Int×List Int
def BL (l:List Map) (r:Int) (o:List Int):List Map :=
 l.takeWhile (λy=>decide (y.1<r))++(r,o)::match l.dropWhile (λy=>decide (y.1<r)) with
  | []=>[]
  | x::t=>if x.1=r then t else x::t
def xH (s:List UInt8):Option (List Int) :=
 if s=[] then some [] else match code s with
  | some r=>if U.right r=true then some [r] else none
  | none=>none
end F
end Go.Proofs.YtlmdjifffmofeaaGreatDoor
