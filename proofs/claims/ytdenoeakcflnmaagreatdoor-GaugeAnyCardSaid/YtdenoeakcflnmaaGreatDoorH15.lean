/- Texts of this claim. -/
import Derived.Test.YtdenoeakcflnmaaGreatDoorH14

set_option maxRecDepth 100000
set_option maxHeartbeats 8000000
namespace Go.Proofs.YtdenoeakcflnmaaGreatDoor
section
open Go.RowKit
attribute [local go_sem] Oper.semAt_some
theorem F.akZ {s:List UInt8} {a b:Int} {fs:List (List UInt8)} (h:F.Bq s=some (some (a,b,fs))):fs≠[]:=by
 obtain⟨-,-,-,-,h2,-,hfs⟩:=F.Yd h;rintro rfl;have h9:=congrArg List.length hfs;rw [List.length_tail] at h9;simp only [List.length_nil] at h9;omega
theorem F.XG {L:List (List UInt8)}:∀ {k:Nat} {rs:List F.Rec},F.qY L k=some rs->∀ r∈rs,r.2.2.2≠[]
 | 0,rs,h=>by cases h;intro r hr;exact absurd hr List.not_mem_nil
 | k+1,rs,h=>by
  unfold F.qY at h
  cases hq:F.qY L k with
  | none=>rw [hq] at h;cases h
  | some q =>
   rw [hq] at h;simp only at h;have ih:=F.XG hq
   cases hl:F.Bq (L.getD k []) with
   | none=>rw [hl] at h;cases h
   | some y =>
    rw [hl] at h
    cases y with
    | none=>simp only [Option.some.injEq] at h;rw [<- h];exact ih
    | some y =>
     obtain⟨a,b,fs⟩:=y;simp only at h
     split at h
     ·cases h
     ·simp only [Option.some.injEq] at h;rw [<- h];intro r hr
      rcases List.mem_append.1 hr with h1 | h1
      ·exact ih r h1
      ·rw [List.mem_singleton.1 h1];exact F.akZ hl
theorem F.agn {s:List UInt8} {rs:List F.Rec} (h:F.parse s=some rs):∀ r∈rs,r.2.2.2≠[]:=by
 unfold F.parse at h
 split at h
 ·exact F.XG h
 ·cases h
theorem F.abZ {names:List (List UInt8)} {loose:Bool} {rs:List F.Rec} {k:Nat}:∀ {n:Nat} {r:List F.aV},k<=n->F.tZ names loose rs n=some r->∃ q,F.tZ names loose rs k=some q
 | 0,r,hk,h=>by obtain rfl:k=0:=(by omega);exact⟨r,h⟩
 | n+1,r,hk,h=>by
  rcases Nat.lt_or_ge k (n+1) with h1 | h1
  ·unfold F.tZ at h
   cases hq:F.tZ names loose rs n with
   | none=>rw [hq] at h;cases h
   | some q=>exact F.abZ (by omega) hq
  ·obtain rfl:k=n+1:=by omega
   exact⟨r,h⟩
theorem F.amM {names:List (List UInt8)} {loose:Bool} {rs:List F.Rec} {k:Nat} {x:F.Rec} {q r:List F.aV} (hx:rs[k]?=some x) (hq:F.tZ names loose rs k=some q) (hr:F.tZ names loose rs (k+1)=some r) :
  (F.valueOf names (x.2.2.2.headD [])=none/\loose=true/\r=q)\/∃ v m,F.valueOf names (x.2.2.2.headD [])=some v/\F.Fb (q++[(x.2.1,x.2.2.1,(v:Int))])=some m/\r=q++[(x.2.1,x.2.2.1,(v:Int))]:=by
 have hgd:rs.getD k (0,0,0,[])=x:=by rw [List.getD_eq_getElem?_getD,hx];rfl
 unfold F.tZ at hr;rw [hq,hgd] at hr;simp only at hr
 cases hv:F.valueOf names (x.2.2.2.headD []) with
 | none =>
  rw [hv] at hr;simp only at hr
  split at hr
  ·rename_i h
   cases hr;exact .inl ⟨rfl,h,rfl⟩
  ·cases hr
 | some v =>
  rw [hv] at hr;simp only at hr
  split at hr
  ·rename_i h
   cases hr;obtain⟨m,hm⟩:=Option.isSome_iff_exists.1 h;exact .inr ⟨v,m,rfl,hm,rfl⟩
  ·cases hr
theorem F.ai3 {s:List UInt8} {rs:List F.Rec} (h:F.parse s=some rs):rs.length<=100000:=by
 unfold F.parse at h
 split at h
 ·rename_i hz
  have:∀ {L:List (List UInt8)} {k:Nat} {rs:List F.Rec},F.qY L k=some rs->rs.length<=k:=by
   intro L k
   induction k with
   | zero=>intro rs h;cases h;exact Nat.le_refl _
   | succ k ih =>
    intro rs h;unfold F.qY at h
    cases hq:F.qY L k with
    | none=>rw [hq] at h;cases h
    | some q =>
     rw [hq] at h;simp only at h;have:=ih hq
     split at h
     ·cases h
     ·cases h;omega
     ·split at h
      ·cases h
      ·cases h;simp;omega
  have h1:=this h;have h2:=F.Vh 10 s;omega
 ·cases h
theorem am3 {w:World} {base n:Nat} {v:Value} {l:List F.aV} (h:w.ownsRow base 175 3 v n (l.flatMap bP)):rV w v n (l.flatMap bP):=by
 rcases h.2 with⟨rfl,h0⟩ | ⟨g,cap,cur,rfl,h2,h3,h4,h5,h6,h7⟩
 ·subst h0;have:=h.1;rw [Nat.zero_mul] at this;exact .inl ⟨rfl,rfl,List.eq_nil_of_length_eq_zero this⟩
 ·refine .inr ⟨_,_,rfl,λj u hu=>?_⟩;rw [show (⟨g,0,none⟩:Addr).add j=⟨g,j,none⟩ by unfold Addr.add;by_cases h0:j=0 <;> simp [h0]];have hb:aj w g 175 cur:=h3;rw [hb.cell j];rw [<- h7,List.getElem?_take] at hu
  split at hu
  ·rw [<- Array.getElem?_toList];exact hu
  ·cases hu
theorem XB (l:List F.aV) (x:F.aV):(l++[x]).flatMap bP=[]++l.flatMap bP++bP x:=by rw [List.flatMap_append,List.flatMap_singleton,List.nil_append]
theorem acZ (file:List UInt8) (nv:Value) (names:List (List UInt8)) (loose:Bool) (t:List F.aV) (w:World) (hn:dI w nv names) (hnb:F.vF names=true) (hok:F.GR file names loose=some t) :
  Calls Tryz.prog 64 #[.string (bs file),nv, .int .i64 0, .bool loose] w λe w'=>(∃ v',e = .returned (.tuple #[v', .int .i64 0, .int .i64 0])/\iM w' v' t)/\Below w.heap.size w w':=by
 unfold F.GR at hok
 cases hp:F.parse file with
 | none=>rw [hp] at hok;cases hok
 | some rs =>
 rw [hp] at hok;simp only at hok
 cases hr:F.tZ names loose rs rs.length with
 | none=>rw [hr] at hok;cases hok
 | some out =>
 rw [hr] at hok;simp only at hok
 cases hs:F.Fb out with
 | none=>rw [hs] at hok;cases hok
 | some m =>
 rw [hs] at hok;simp only at hok
 split at hok
 rotate_left
 ·cases hok
 rename_i hrb
 simp only [Option.some.injEq] at hok;obtain⟨N,hN⟩:∃ N,rs.length=N:=⟨_,rfl⟩
 have FZ:=bx (show N<=100000 by rw [<- hN];exact F.ai3 hp);have au:=bx (F.agn hp);rw [hN] at hr;have yB:=bx (OQ nv names w hn hnb);have nJ:=bx (λW=>aft file rs W hp);have HR:=bx hr;have xI:=bx hs;have HT:=bx hok;have yJ:=bx hrb;have HN:=bx hN;have jJ:=bx hn;have xW:=bx (show names.length<=32 by unfold F.vF at hnb;simp only [Bool.and_eq_true,decide_eq_true_eq] at hnb;exact hnb.2);clear hp hr hs hok hrb hN hn hnb
 go_enter Tryz.func64,Tryz.ntmps64
 go_wp2_with fail;refine yB.o.mono ?_;rintro e w0 ⟨rfl,nd,rfl⟩;have HB0:=bx (jW w nd);generalize w.drewN nd=w0 at HB0 ⊢;go_wp2_with fail;refine(nJ.o _).mono ?_;rintro e w1 ⟨⟨rv,rfl,GV⟩,hb1⟩;have D9:=bx GV;have HB1:=bx (bt HB0.o hb1);obtain⟨ra,rc,rfl,amJ,aom⟩:=GV.slice;rw [HN.o] at D9 amJ ⊢;have aQ:=bx ((Sep.start w1).iW w1.heap.size 3 175);clear GV hb1;go_wp2_with fail
 go_loopw [15,14] (λi o wr=>∃ (k:Nat) (L:List F.aV) (oo:Option Addr) (oc:Nat),k<=N/\i = .int .i64 k/\o = .slice oo L.length oc/\L.length<=k/\Box (F.tZ names loose rs k=some L)/\Box (Sep [Pc.row w1.heap.size 175 3 (.slice oo L.length oc) L.length (L.flatMap bP),Pc.old w1.heap.size w1] wr)) (λi _ _=>N-(intOf i).toNat)
 case atStart=>exact⟨0,[],none,0,by omega,rfl,rfl,by simp,⟨rfl⟩,aQ⟩
 case round =>
  obtain⟨k,L,oo,oc,hk,rfl,rfl,hLk,hrt,hse⟩:=hrel;have aP:=bx (hse.o.bel (n:=w1.heap.size) (W0:=w1) (by simp));clear aQ
  by_cases hlt:k<N
  ·obtain⟨x,hx⟩:∃ x,rs[k]?=some x:=⟨_,List.getElem?_eq_getElem (by have:=HN.o;omega)⟩
   obtain⟨g,off,cap2,hg1,hg2,hg3,hg4,hg5⟩:=(D9.o.below aP.o).get (by rintro rfl;simp at hx);rw [HN.o] at hg1 hg2;obtain⟨rfl,rfl⟩:ra=some ⟨g,off,none⟩/\rc=cap2:=by injection hg1 with h1 h2 h3;exact⟨h1,h3⟩
   obtain⟨c0,c1,c2,fv,c3,hfv⟩:=hg5 k x hx;obtain⟨r,hr⟩:=F.abZ (k:=k+1) (by omega) HR.o;have fE:=bx hr;have hstep:=F.amM hx hrt.o hr;obtain⟨f0,ft,hfd⟩:∃ f0 ft,x.2.2.2=f0::ft:=by
    cases hq:x.2.2.2 with
    | nil=>exact absurd hq (au.o x (List.mem_of_getElem? hx))
    | cons a b=>exact⟨a,b,rfl⟩
   rw [hfd] at hfv hstep;rw [List.headD_cons] at hstep;obtain⟨fg,fo,fc,rfl,hf2,hf3,hf4,hf5⟩:=hfv.get (by simp);have cf:=hf5 0 f0 rfl;rw [Nat.add_zero] at cf;rw [List.length_cons] at hf2 c3;obtain⟨lf,hlf⟩:∃ lf,ft.length=lf:=⟨_,rfl⟩
   rw [hlf] at c3 hf2;have agj:=bx (PU nv names f0 wr (jJ.o.below (bt HB1.o aP.o)) (by have:=xW.o;omega));have am0:=bx hstep;unfold maxLen at hg3 hf3;clear hx hg1 hg5 hr hstep hfd hfv hf5 hlf;go_wp2_with fail;refine agj.o.mono ?_;rintro e w2 ⟨rfl,rfl⟩
   rcases am0.o with⟨hno,hlo,hrq⟩ | ⟨v,m',hyes,hsm,hrq⟩
   ·rw [hno];unfold Jp;have qH:=bx (show F.tZ names loose rs (k+1)=some L by rw [fE.o,hrq]);obtain rfl:=hlo;clear hno hrq;go_wp2_with fail
    go_roundw
    case rel=>exact⟨k+1,L,oo,oc,hlt,by go_num,rfl,by omega,qH,hse⟩
    case measure=>simp [intOf];omega
   ·rw [hyes];unfold Jp;have qH:=bx (show F.tZ names loose rs (k+1)=some (L++[(x.2.1,x.2.2.1,(v:Int))]) by rw [fE.o,hrq]);have wW:=bx (λvv W (h:iM W vv (L++[(x.2.1,x.2.2.1,(v:Int))]))=>acT vv _ m' W h hsm);clear hyes hrq hsm cf c3 c0;obtain⟨xn,xa,xb,xf⟩:=x;simp only at c1 c2 qH wW;go_wp2_with fail;have aA:=bx (show wr.drew.cell? ⟨g,off+k*4+1,none⟩=some (.int .i64 xa)/\wr.drew.cell? ⟨g,off+k*4+2,none⟩=some (.int .i64 xb) from⟨c1,c2⟩);refine fP 13 (λW=>W.cell? ⟨g,off+k*4+1,none⟩=some (.int .i64 xa)/\W.cell? ⟨g,off+k*4+2,none⟩=some (.int .i64 xb)) (by kernel_rfl) ?_;refine kS 0 ?_ rfl aA.o ?_ ?_;rotate_left
    ·rintro w ⟨q1,q2⟩;go_simp;try with_reducible rfl
    refine kS 1 ?_ rfl aA.o ?_ ?_;rotate_left
    ·rintro w ⟨q1,q2⟩;go_simp;try with_reducible rfl
    refine kS 2 ?_ rfl aA.o ?_ ?_;rotate_left
    ·rintro w ⟨q1,q2⟩;go_simp;try with_reducible rfl
    refine kS 3 ?_ rfl aA.o ?_ ?_;rotate_left
    ·rintro w ⟨q1,q2⟩;go_simp;try with_reducible rfl
    refine kS 4 ?_ rfl aA.o ?_ ?_;rotate_left
    ·rintro w ⟨q1,q2⟩;go_simp;try with_reducible rfl
    refine kS 5 ?_ rfl aA.o ?_ ?_;rotate_left
    ·rintro w ⟨q1,q2⟩;go_simp;try with_reducible rfl
    refine kS 6 ?_ rfl aA.o ?_ ?_;rotate_left
    ·rintro w ⟨q1,q2⟩;go_simp;try with_reducible rfl
    refine kS 7 ?_ rfl aA.o ?_ ?_;rotate_left
    ·rintro w ⟨q1,q2⟩;go_simp;try with_reducible rfl
    refine kS 8 ?_ rfl aA.o ?_ ?_;rotate_left
    ·rintro w ⟨q1,q2⟩;go_simp;try with_reducible rfl
    refine kS 9 ?_ rfl aA.o ?_ ?_;rotate_left
    ·rintro w ⟨q1,q2⟩;go_simp;try with_reducible rfl
    refine kS 10 ?_ rfl aA.o ?_ ?_;rotate_left
    ·rintro w ⟨q1,q2⟩;go_simp;try with_reducible rfl
    refine kS 11 ?_ rfl aA.o ?_ ?_;rotate_left
    ·rintro w ⟨q1,q2⟩;go_simp;try with_reducible rfl
    have dY:=bx (hse.o.drew);have pU:=bx (show g<wr.drew.heap.size from hg4);generalize wr.drew=WD at aA dY pU ⊢;have vJ:=bx (dY.o.bM 175 #[.int .i64 0, .int .i64 0, .int .i64 0]);refine kP 12 rfl λKK ah=>?_
    go_simp;refine ah.out _ _ (λ_=>⟨(World.cell?_alloc_lt _ _ ⟨g,off+k*4+1,none⟩ pU.o).trans aA.o.1,(World.cell?_alloc_lt _ _ ⟨g,off+k*4+2,none⟩ pU.o).trans aA.o.2⟩) ?_;clear ah KK;refine kP 13 rfl λKK ah=>?_
    go_simp;have H8:=bx (dY.o.bM 175 #[.int .i64 xa, .int .i64 xb, .int .i64 v]);refine ah.out _ _ (λh=>by cases h) ?_;clear ah KK;refine kD ?_ _;clear aA dY vJ pU;generalize WD.heap.size=Q at H8 ⊢;generalize WD.alloc (.cells #[.int .i64 xa, .int .i64 xb, .int .i64 v] 175)=WX at H8 ⊢;go_wp2_with fail;refine fP 12 (λW=>W.cell? ⟨Q,0,none⟩=some (.int .i64 xa)/\W.cell? ⟨Q,1,none⟩=some (.int .i64 xb)/\W.cell? ⟨Q,2,none⟩=some (.int .i64 v)) (by kernel_rfl) ?_;have jh:=bx (H8.o.drew);generalize WX.drew=WY at jh ⊢;have bf:=bx (jh.o.blk 0 rfl);have sZ:=bx (show WY.cell? ⟨Q,0,none⟩=some (.int .i64 xa)/\WY.cell? ⟨Q,1,none⟩=some (.int .i64 xb)/\WY.cell? ⟨Q,2,none⟩=some (.int .i64 v) from⟨(bf.o.cell 0).trans rfl,(bf.o.cell 1).trans rfl,(bf.o.cell 2).trans rfl⟩);have dP:=bx (show ∀ W,Below WY.heap.size WY W->W.cell? ⟨Q,0,none⟩=some (.int .i64 xa)/\W.cell? ⟨Q,1,none⟩=some (.int .i64 xb)/\W.cell? ⟨Q,2,none⟩=some (.int .i64 v) from λW h=>⟨(h.cell (p:=⟨Q,0,none⟩) bf.o.lt).trans sZ.o.1,(h.cell (p:=⟨Q,1,none⟩) bf.o.lt).trans sZ.o.2.1,(h.cell (p:=⟨Q,2,none⟩) bf.o.lt).trans sZ.o.2.2⟩);have rG:=bx (λW (h:Below WY.heap.size WY W)=>am3 ((jh.o.below h).row 1 rfl));have aQ:=bx ((Sep.start WY).iW WY.heap.size 3 175);refine kS 0 ?_ rfl sZ.o ?_ ?_;rotate_left
    ·rintro w ⟨q1,q2,q3⟩;go_simp;try with_reducible rfl
    refine kS 2 ?_ rfl sZ.o ?_ ?_;rotate_left
    ·rintro w ⟨q1,q2,q3⟩;go_simp;try with_reducible rfl
    refine OW (rs:=[1,3]) (by kernel_rfl) (by simp) (qO.cons rfl (λKK ah=>?_) (qO.cons rfl (λKK ah=>?_) qO.nil))
    ·refine qE rfl _ _ 117 rfl nV (by decide) aQ.o 0 rfl (by kernel_rfl) (by kernel_rfl) (m:=L.length) (cs:=L.flatMap bP) (rG.o _ (Below.refl _ _)) (uJ L) yu (by have:=FZ.o;omega) (by omega) (Nat.le_refl _) ?_;rintro v4 w4 hS4;have aY:=bx hS4;have HB4:=bx (aY.o.bel (n:=WY.heap.size) (W0:=WY) (by simp));clear hS4;refine ah.out _ _ (λ_=>dP.o _ HB4.o) ?_;clear ah KK;refine kP 3 rfl λKK ah=>?_
     go_simp;have bU:=bx (aY.o.bM 175 #[.int .i64 xa, .int .i64 xb, .int .i64 v]);have aK:=bx (bU.o.bel (n:=WY.heap.size) (W0:=WY) (by simp));refine ah.out _ _ (λ_=>dP.o _ aK.o) ?_;clear ah KK;refine kP 4 rfl λKK ah=>?_
     refine qE rfl _ _ 117 rfl nV (by decide) bU.o 1 rfl (by kernel_rfl) (by kernel_rfl) (m:=1) (cs:=bP (xa,xb,v)) (Fp (bU.o.blk 0 rfl)) rfl (by intro u hu;simp only [bP,List.mem_cons,List.not_mem_nil,or_false] at hu;rcases hu with rfl | rfl | rfl <;> rfl) (by have:=FZ.o;omega) (by omega) aK.o.size ?_;rintro v7 w7 hS7;have dX:=bx hS7;have bW:=bx (dX.o.bel (n:=WY.heap.size) (W0:=WY) (by simp));clear hS7;refine ah.out _ _ (λ_=>dP.o _ bW.o) ?_;clear ah KK;have JR:=bx (iM.gK (by rw [XB];exact dX.o.row 1 rfl) (by simp));refine kP 5 rfl λKK ah=>?_
     go_simp;go_wp2_with (go_at_call 111;refine(wW.o _ _ JR.o).mono ?_;rintro e w8 ⟨⟨v8,rfl,-⟩,hb8⟩)
     have eF:=bx (bt bW.o hb8);clear hb8;refine ah.out _ _ (λ_=>dP.o _ eF.o) ?_;clear ah KK;refine kP 6 rfl λKK ah=>?_
     go_simp;refine ah.out _ _ (λ_=>dP.o _ eF.o) ?_;clear ah KK;refine kS 7 ?_ rfl (dP.o _ eF.o) ?_ ?_;rotate_left
     ·rintro w ⟨q1,q2,q3⟩;go_simp;try with_reducible rfl
     refine kS 8 ?_ rfl (dP.o _ eF.o) ?_ ?_;rotate_left
     ·rintro w ⟨q1,q2,q3⟩;go_simp;try with_reducible rfl
     refine kS 9 ?_ rfl (dP.o _ eF.o) ?_ ?_;rotate_left
     ·rintro w ⟨q1,q2,q3⟩;go_simp;try with_reducible rfl
     refine kP 10 rfl λKK ah=>?_
     go_simp;refine ah.out _ _ (λ_=>dP.o _ eF.o) ?_;clear ah KK;refine kP 11 rfl λKK ah=>?_
     go_simp;refine ah.out _ _ (λ_=>dP.o _ eF.o) ?_;clear ah KK;refine kP 12 rfl λKK ah=>?_
     go_simp;refine ah.out _ _ (λ_=>dP.o _ eF.o) ?_;clear ah KK;refine kD ?_ _;have aU:=bx (jh.o.below eF.o);obtain⟨z0,z1,z2⟩:=dP.o _ eF.o;have RD:=Nat.lt_of_lt_of_le bf.o.lt eF.o.size;have hwz:=Nat.le_trans (jh.o.bel (n:=w1.heap.size) (W0:=w1) (by simp)).size eF.o.size;clear bf sZ dP rG aQ aY bU dX JR;go_wp2_with (at_builtin;refine AQ (cs:=bP (xa,xb,v)) rfl _ _ 117 rfl nV (by decide) aU.o 1 rfl rfl rfl rfl (by intro u hu;simp only [bP,List.mem_cons,List.not_mem_nil,or_false] at hu;rcases hu with rfl | rfl | rfl <;> rfl) (by have:=FZ.o;omega) (by omega) hwz ?_;rintro v9 w9 kY ⟨go',gc',rfl,-,-⟩)
     have jo:=bx (show Sep [Pc.row w1.heap.size 175 3 (.slice (some ⟨go',0,none⟩) (L++[(xa,xb,(v:Int))]).length gc') (L++[(xa,xb,(v:Int))]).length ((L++[(xa,xb,(v:Int))]).flatMap bP),Pc.old w1.heap.size w1] w9 by
      rw [List.length_append,List.flatMap_append,List.flatMap_singleton];exact kY.tail)
     clear kY z0 z1 z2;go_wp2_with fail
     go_roundw
     case rel=>exact⟨k+1,L++[(xa,xb,(v:Int))],some ⟨go',0,none⟩,gc',hlt,by go_num,by rw [List.length_append];rfl,by rw [List.length_append];simp;omega,qH,jo⟩
     case measure=>simp [intOf];omega
    ·go_simp;have aC:=bx (aQ.o.bM 175 #[.int .i64 xa, .int .i64 xb, .int .i64 v]);have HB3:=bx (aC.o.bel (n:=WY.heap.size) (W0:=WY) (by simp));refine ah.out _ _ (λ_=>dP.o _ HB3.o) ?_;clear ah KK;refine kP 1 rfl λKK ah=>?_
     refine qE rfl _ _ 117 rfl nV (by decide) aC.o 1 rfl (by kernel_rfl) (by kernel_rfl) (m:=L.length) (cs:=L.flatMap bP) (rG.o _ HB3.o) (uJ L) yu (by have:=FZ.o;omega) (by omega) HB3.o.size ?_;rintro v5 w5 hS5;have bU:=bx hS5;have aK:=bx (bU.o.bel (n:=WY.heap.size) (W0:=WY) (by simp));clear hS5;refine ah.out _ _ (λ_=>dP.o _ aK.o) ?_;clear ah KK;have aY:=aC;refine kP 4 rfl λKK ah=>?_
     refine qE rfl _ _ 117 rfl nV (by decide) bU.o 1 rfl (by kernel_rfl) (by kernel_rfl) (m:=1) (cs:=bP (xa,xb,v)) (Fp (bU.o.blk 0 rfl)) rfl (by intro u hu;simp only [bP,List.mem_cons,List.not_mem_nil,or_false] at hu;rcases hu with rfl | rfl | rfl <;> rfl) (by have:=FZ.o;omega) (by omega) aK.o.size ?_;rintro v7 w7 hS7;have dX:=bx hS7;have bW:=bx (dX.o.bel (n:=WY.heap.size) (W0:=WY) (by simp));clear hS7;refine ah.out _ _ (λ_=>dP.o _ bW.o) ?_;clear ah KK;have JR:=bx (iM.gK (by rw [XB];exact dX.o.row 1 rfl) (by simp));refine kP 5 rfl λKK ah=>?_
     go_simp;go_wp2_with (go_at_call 111;refine(wW.o _ _ JR.o).mono ?_;rintro e w8 ⟨⟨v8,rfl,-⟩,hb8⟩)
     have eF:=bx (bt bW.o hb8);clear hb8;refine ah.out _ _ (λ_=>dP.o _ eF.o) ?_;clear ah KK;refine kP 6 rfl λKK ah=>?_
     go_simp;refine ah.out _ _ (λ_=>dP.o _ eF.o) ?_;clear ah KK;refine kS 7 ?_ rfl (dP.o _ eF.o) ?_ ?_;rotate_left
     ·rintro w ⟨q1,q2,q3⟩;go_simp;try with_reducible rfl
     refine kS 8 ?_ rfl (dP.o _ eF.o) ?_ ?_;rotate_left
     ·rintro w ⟨q1,q2,q3⟩;go_simp;try with_reducible rfl
     refine kS 9 ?_ rfl (dP.o _ eF.o) ?_ ?_;rotate_left
     ·rintro w ⟨q1,q2,q3⟩;go_simp;try with_reducible rfl
     refine kP 10 rfl λKK ah=>?_
     go_simp;refine ah.out _ _ (λ_=>dP.o _ eF.o) ?_;clear ah KK;refine kP 11 rfl λKK ah=>?_
     go_simp;refine ah.out _ _ (λ_=>dP.o _ eF.o) ?_;clear ah KK;refine kP 12 rfl λKK ah=>?_
     go_simp;refine ah.out _ _ (λ_=>dP.o _ eF.o) ?_;clear ah KK;refine kD ?_ _;have aU:=bx (jh.o.below eF.o);obtain⟨z0,z1,z2⟩:=dP.o _ eF.o;have RD:=Nat.lt_of_lt_of_le bf.o.lt eF.o.size;have hwz:=Nat.le_trans (jh.o.bel (n:=w1.heap.size) (W0:=w1) (by simp)).size eF.o.size;clear bf sZ dP rG aQ aY bU dX JR;go_wp2_with (at_builtin;refine AQ (cs:=bP (xa,xb,v)) rfl _ _ 117 rfl nV (by decide) aU.o 1 rfl rfl rfl rfl (by intro u hu;simp only [bP,List.mem_cons,List.not_mem_nil,or_false] at hu;rcases hu with rfl | rfl | rfl <;> rfl) (by have:=FZ.o;omega) (by omega) hwz ?_;rintro v9 w9 kY ⟨go',gc',rfl,-,-⟩)
     have jo:=bx (show Sep [Pc.row w1.heap.size 175 3 (.slice (some ⟨go',0,none⟩) (L++[(xa,xb,(v:Int))]).length gc') (L++[(xa,xb,(v:Int))]).length ((L++[(xa,xb,(v:Int))]).flatMap bP),Pc.old w1.heap.size w1] w9 by
      rw [List.length_append,List.flatMap_append,List.flatMap_singleton];exact kY.tail)
     clear kY z0 z1 z2;go_wp2_with fail
     go_roundw
     case rel=>exact⟨k+1,L++[(xa,xb,(v:Int))],some ⟨go',0,none⟩,gc',hlt,by go_num,by rw [List.length_append];rfl,by rw [List.length_append];simp;omega,qH,jo⟩
     case measure=>simp [intOf];omega
  ·obtain rfl:k=N:=by omega
   have yj:=bx (show L=out by have:=hrt.o.symm.trans HR.o;simpa using this);have HRO:=bx (iM.gK (hse.o.row 0 rfl) rfl);have afU:=bx (acT _ _ m wr HRO.o (by rw [yj.o];exact xI.o));have oK:=bx (bt HB1.o aP.o);go_wp2_with fail;refine afU.o.mono ?_;rintro e w2 ⟨⟨v2,rfl,hv2⟩,hb2⟩;have iV:=bx hv2;have HB2:=bx (bt oK.o hb2);have Iq:=bx (ait v2 m w2 hv2 yJ.o);clear hv2 hb2;go_wp2_with fail;refine Iq.o.mono ?_;rintro e w3 ⟨⟨v3,rfl,hv3⟩,hb3⟩;have rX:=bx hv3;have HB3:=bx (bt HB2.o hb3);clear hv3 hb3;go_wp2_with fail
   go_ret3
   exact⟨⟨_,rfl,HT.o▸rX.o⟩,HB3.o⟩
def lI (f:Nat->Int):Array Value:=((List.range 256).map λj=>Value.int .i64 (f j)).toArray
theorem ZW (f:Nat->Int) (j:Nat) (h:j<256):(lI f)[j]?=some (.int .i64 (f j)):=by
 unfold lI;rw [List.getElem?_toArray,List.getElem?_map,List.getElem?_range h]
 rfl
theorem Ul {f g:Nat->Int} (h:∀ j,j<256->f j=g j):lI f=lI g:=by
 unfold lI
 congr 1
 exact List.map_congr_left λj hj=>by rw [h j (List.mem_range.1 hj)]
theorem aiF (f:Nat->Int) (i:Nat) (v:Int):(lI f).setIfInBounds i (.int .i64 v)=lI λj=>if j=i then v else f j:=by
 unfold lI
 apply Array.ext'
 rw [Array.toList_setIfInBounds]
 apply List.ext_getElem?
 intro j;rw [List.getElem?_set,List.getElem?_map,List.getElem?_map,List.length_map,List.length_range]
 by_cases hj:j<256
 ·rw [List.getElem?_range hj]
  by_cases e:i=j
  ·subst e;simp [hj]
  ·rw [if_neg e];simp [Ne.symm e]
 ·rw [List.getElem?_eq_none (by simpa using hj)]
  by_cases e:i=j
  ·subst e;simp [hj]
  ·rw [if_neg e]
   rfl
theorem aey (w:World):(Instr.makeSlice 22 (.int .i64 256) (.int .i64 256)).run Tryz.prog w = .ok (.slice (some ⟨w.heap.size,0,none⟩) 256 256) (w.alloc (.cells (lI λ_=>0) 3)):=by
 have hi:(Tryz.prog.info? 3).map (λi=>(i.zero,i.size,i.bytes))=some (some (.int .i64 0),1,8):=by kernel_rfl
 obtain⟨z,hz,hz2⟩:=Option.map_eq_some_iff.1 hi;simp only [Prod.mk.injEq] at hz2;have hz:=And.intro hz hz2;have:=run_makeSlice (P:=Tryz.prog) (w:=w) 22 3 z (.int .i64 0) Tryz.underlying22 hz.1 hz.2.1 .i64 .i64 256 256 (by omega) (by omega) (by rw [hz.2.2.1];simp) (by rw [hz.2.2.2];omega) (by omega);have e:madeCells (Value.int .i64 0).cells ((256:Int).toNat*z.size)=lI λ_=>0:=by
  rw [hz.2.2.1];unfold lI
  apply Array.ext'
  rw [show (256:Int).toNat*1=256 from rfl];have:=toList_madeCells_one (Value.int .i64 0) 256;rw [show (Value.int .i64 0).cells=#[Value.int .i64 0] from rfl] at *;rw [this]
  apply List.ext_getElem?
  intro j;rw [List.getElem?_map,List.getElem?_replicate]
  by_cases hj:j<256
  ·rw [List.getElem?_range hj,if_pos hj];rfl
  ·rw [List.getElem?_eq_none (by simpa using hj),if_neg hj];rfl
 rw [this,e]
 rfl
theorem ajH {w:World} {g:Nat} {f:Nat->Int} (h:aj w g 3 (lI f)):aB w (.slice (some ⟨g,0,none⟩) 256 256) ((List.range 256).map f):=by
 refine .inr ⟨g,0,none,256,by rw [List.length_map,List.length_range],by rw [List.length_map,List.length_range];exact Nat.le_refl _,by unfold maxLen;omega,λ_=>⟨rfl,h.lt,λi x hx=>?_⟩⟩;have hi:i<256:=by
  have:=(List.getElem?_eq_some_iff.1 hx).1
  rwa [List.length_map,List.length_range] at this
 rw [List.getElem?_map,List.getElem?_range hi] at hx
 cases hx;rw [Nat.zero_add,h.cell i];exact ZW f i hi
theorem F.alk (l:List F.aV) (x:F.aV) (y:Int):F.qC (l++[x]) y=if x.1<=y/\y<=x.2.1 then x.2.2 else F.qC l y:=by
 unfold F.qC;rw [List.reverse_append,List.reverse_singleton,List.singleton_append,List.find?_cons]
 by_cases h:x.1<=y/\y<=x.2.1
 ·rw [if_pos h,show (decide (x.1<=y)&&decide (y<=x.2.1))=true by rw [decide_eq_true h.1,decide_eq_true h.2];rfl]
 ·rw [if_neg h,show (decide (x.1<=y)&&decide (y<=x.2.1))=false by
   rw [Bool.and_eq_false_iff,decide_eq_false_iff_not,decide_eq_false_iff_not]
   by_cases h1:x.1<=y
   ·exact .inr λh2=>h ⟨h1,h2⟩
   ·exact .inl h1]
def yM (l:List F.aV) (row i:Nat) (x:F.aV) (lo r:Int) (j:Nat):Int :=
 if lo<=((row*256+j:Nat):Int)/\((row*256+j:Nat):Int)<r then x.2.2 else F.qC (l.take i) ((row*256+j:Nat):Int)
theorem am5 (l:List F.aV) (row i:Nat) (x:F.aV) (lo:Int):lI (yM l row i x lo lo)=lI (λj=>F.qC (l.take i) ((row*256+j:Nat):Int)) :=
 Ul λj _=>by unfold yM;rw [if_neg (by omega)]
theorem ag7 (l:List F.aV) (row i:Nat) (x:F.aV) (lo r:Int) (hlo:lo<=r) (h0:((row*256:Nat):Int)<=lo):(lI (yM l row i x lo r)).setIfInBounds (r-((row*256:Nat):Int)).toNat (.int .i64 x.2.2)=lI (yM l row i x lo (r+1)):=by
 rw [aiF];refine Ul λj _=>?_
 unfold yM
 by_cases e:j=(r-((row*256:Nat):Int)).toNat
 ·rw [if_pos e,if_pos (by omega)]
 ·rw [if_neg e]
  by_cases h:lo<=((row*256+j:Nat):Int)/\((row*256+j:Nat):Int)<r
  ·rw [if_pos h,if_pos (by omega)]
  ·rw [if_neg h,if_neg (by omega)]
theorem afn {l:List F.aV} {row i:Nat} {x:F.aV} {lo mn r:Int} (hx:l[i]?=some x) (hlo:lo=max ((row*256:Nat):Int) x.1) (hmn:mn=min (((row*256:Nat):Int)+255) x.2.1) (h1:r<=max lo (mn+1)) (h2:mn<r):lI (yM l row i x lo r)=lI (λj=>F.qC (l.take (i+1)) ((row*256+j:Nat):Int)) :=
 Ul λj hj=>by
  rw [List.take_add_one,hx,Option.toList_some,F.alk];unfold yM
  by_cases h:x.1<=((row*256+j:Nat):Int)/\((row*256+j:Nat):Int)<=x.2.1
  ·rw [if_pos h,if_pos (by omega)]
  ·rw [if_neg h,if_neg (by omega)]
theorem anr (v:Value) (l:List F.aV) (row:Nat) (w:World) (hv:iM w v l) (hl:∀ x∈l,F.BN x=true) (hr:row<4352) :
  Calls Tryz.prog 123 #[v, .int .i64 (row:Int)] w λe w'=>(∃ v',e = .returned v'/\aB w' v' (F.oL l row)/\∀ g,v'.ownBlock=some g->w.heap.size<=g/\g<w'.heap.size)/\Below w.heap.size w w':=by
 have HL:=bx hl;have HV:=bx hv;obtain⟨a,cap,rfl,hc1,hc2⟩:=hv.slice;obtain⟨N,hN⟩:∃ N,l.length=N:=⟨_,rfl⟩
 have HN:=bx hN;rw [hN] at HV hc1 ⊢;have hm:=aey w;obtain⟨V,hV⟩:∃ V,V=w.alloc (.cells (lI λ_=>0) 3):=⟨_,rfl⟩
 rw [<- hV] at hm;have HB0:=bx (show Below w.heap.size w V by rw [hV];exact(Below.refl _ _).alloc (Nat.le_refl _) _);have PN:=bx (show aj V w.heap.size 3 (lI λj=>F.qC (l.take 0) ((row*256+j:Nat):Int)) by rw [hV];exact aj.new _ _ _);clear hv hN hl hV
 go_enter Tryz.func123,Tryz.ntmps123
 go_wp2_with fail
 go_loopw [7] (λi wr=>∃ k:Nat,k<=N/\i = .int .i64 k/\Box (aj wr w.heap.size 3 (lI λj=>F.qC (l.take k) ((row*256+j:Nat):Int)))/\Box (Below w.heap.size w wr)) (λi _=>N-(intOf i).toNat)
 case atStart=>exact⟨0,by omega,rfl,PN,HB0⟩
 case round =>
  obtain⟨k,hk,rfl,hbk,hb⟩:=hrel
  by_cases hlt:k<N
  ·obtain⟨x,hx⟩:∃ x,l[k]?=some x:=⟨_,List.getElem?_eq_getElem (by rw [HN.o];exact hlt)⟩
   have hrb:=HL.o x (List.mem_of_getElem? hx);unfold F.BN at hrb;simp only [Bool.and_eq_true,decide_eq_true_eq] at hrb;obtain⟨⟨⟨⟨b1,b2⟩,b3⟩,b4⟩,b5⟩:=hrb;obtain⟨g,off,cap2,hg1,hg2,hg3,hg4,hg5⟩:=HV.o.get (by rintro rfl;simp at hx);rw [HN.o] at hg1;obtain⟨rfl,rfl⟩:a=some ⟨g,off,none⟩/\cap=cap2:=by injection hg1 with h1 h2 h3;exact⟨h1,h3⟩
   have HC:=bx (λW (h:Below w.heap.size w W)=>show W.cell? ⟨g,off+k*3,none⟩=some (.int .i64 x.1)/\W.cell? ⟨g,off+k*3+1,none⟩=some (.int .i64 x.2.1)/\W.cell? ⟨g,off+k*3+2,none⟩=some (.int .i64 x.2.2) from⟨(h.cell (p:=⟨g,off+k*3,none⟩) hg4).trans (hg5 k x hx).1,(h.cell (p:=⟨g,off+k*3+1,none⟩) hg4).trans (hg5 k x hx).2.1,(h.cell (p:=⟨g,off+k*3+2,none⟩) hg4).trans (hg5 k x hx).2.2⟩);obtain⟨x0,x1,x2⟩:=HC.o _ hb.o;unfold maxLen at hg3;have HX:=bx hx;clear hx hg1 hg2 hg5;go_wp2_with fail;obtain⟨lo,hlo⟩:∃ lo:Int,max ((row:Int)*256) x.1=lo:=⟨_,rfl⟩
   obtain⟨mn,hmn⟩:∃ mn:Int,min ((row:Int)*256+256-1) x.2.1=mn:=⟨_,rfl⟩
   rw [hlo];have yj:=bx hlo;have Xk:=bx hmn;have b0:(row:Int)*256<=lo:=by omega
   have bm:mn<=(row:Int)*256+255:=by omega
   have aQ:=bx (show aj wr w.heap.size 3 (lI (yM l row k x lo lo)) by rw [am5];exact hbk.o)
   go_loopw [8] (λi wx=>∃ r:Int,lo<=r/\r<=max lo (mn+1)/\i = .int .i64 r/\Box (aj wx w.heap.size 3 (lI (yM l row k x lo r)))/\Box (Below w.heap.size w wx)) (λi _=>(mn+1-intOf i).toNat)
   case atStart=>exact⟨lo,by omega,by omega,rfl,aQ,hb⟩
   case round =>
    obtain⟨r,hr1,hr2,rfl,hbx,hbb⟩:=hrel;obtain⟨y0,y1,y2⟩:=HC.o _ hbb.o;clear hlo
    by_cases hle:r<=mn
    ·have e1:decide (r<=min ((row:Int)*256+256-1) x.2.1)=true:=decide_eq_true (by rw [hmn];exact hle);have l1:r<=(row:Int)*256+256-1:=by omega
     have l2:r<=x.2.1:=by omega
     have l3:0<=r-(row:Int)*256:=by omega
     have l4:r-(row:Int)*256<256:=by omega
     have hck:=(hbx.o.cell (r-(row:Int)*256).toNat).trans (ZW _ (r-(row:Int)*256).toNat (by omega));have hfk:=hbx.o.frozen (r-(row:Int)*256).toNat
     have hlk:=hbx.o.lt;have qy:=bx (show aj (wr.setCell ⟨w.heap.size,(r-(row:Int)*256).toNat,none⟩ (.int .i64 x.2.2)) w.heap.size 3 (lI (yM l row k x lo (r+1))) by
      have h9:=hbx.o.dh (r-(row:Int)*256).toNat (.int .i64 x.2.2)
      have h8:=ag7 l row k x lo r hr1 (by omega);rw [show ((row*256:Nat):Int)=(row:Int)*256 by omega] at h8;rw [h8] at h9;exact h9)
     have zU:=bx (hbb.o.setCell (p:=⟨w.heap.size,(r-(row:Int)*256).toNat,none⟩) (Nat.le_refl _) (.int .i64 x.2.2));have GU:=bx hle;clear hmn hle;go_wp2_with fail
     go_roundw
     case rel=>exact⟨r+1,by omega,by have:=GU.o;omega,by go_num,qy,zU⟩
     case measure=>have:=GU.o;simp [intOf];omega
    ·have e1:decide (r<=min ((row:Int)*256+256-1) x.2.1)=false:=decide_eq_false (by rw [hmn];exact hle);have wP:=bx (show aj wr w.heap.size 3 (lI λj=>F.qC (l.take (k+1)) ((row*256+j:Nat):Int)) by
      rw [<- afn (row:=row) (lo:=lo) (mn:=mn) HX.o (by rw [<- yj.o];simp) (by rw [<- Xk.o];congr 1;omega) hr2 (by omega)];exact hbx.o)
     clear hmn hle;go_wp2_with fail
     go_roundw
     case rel=>exact⟨k+1,hlt,by go_num,wP,hbb⟩
     case measure=>simp [intOf];omega
  ·obtain rfl:k=N:=by omega
   have HO:=bx (show aB wr (.slice (some ⟨w.heap.size,0,none⟩) 256 256) (F.oL l row) by
    have h9:=ajH hbk.o;rw [<- HN.o,List.take_length] at h9;exact h9)
   go_wp2_with fail;go_ret
   exact⟨⟨_,rfl,HO.o,λg hg=>by simp [Value.ownBlock] at hg;have:=hbk.o.lt;omega⟩,hb.o⟩
theorem Vk {W W':World} {v:Value} {xs:List Int} (h:aB W v xs) (hs:W.heap.size<=W'.heap.size) (hg:∀ g,v.ownBlock=some g->W'.heap[g]?=W.heap[g]?):aB W' v xs:=by
 rcases h with h | ⟨b,off,sp,cap,h1,h2,h3,h4⟩
 ·exact .inl h
 ·refine .inr ⟨b,off,sp,cap,h1,h2,h3,λhn=>?_⟩;obtain⟨k1,k2,k3⟩:=h4 hn;have hb:=hg b (by rw [h1];rfl);exact⟨k1,Nat.lt_of_lt_of_le k2 hs,λi x hx=>(World.cell?_of_block hb).trans (k3 i x hx)⟩
def yg:BH (Value×List Int) where
 at' W y:=aB W y.1 y.2/\∀ g,y.1.ownBlock=some g->g<W.heap.size
 val y:=y.1
 same:=λ{_ _ _} h hs hg=>⟨Vk h.1 hs hg,λg hg'=>Nat.lt_of_lt_of_le (h.2 g hg') hs⟩
 lt:=λ{_ _ _} h hg=>h.2 _ hg
theorem ahC {w:World} {v:Value} {xs:List Int} (h:aB w v xs):rV w v xs.length (xs.map (Value.int .i64)):=by
 rcases h with⟨rfl,rfl⟩ | ⟨b,off,sp,cap,rfl,h2,h3,h4⟩
 ·exact .inl ⟨rfl,rfl,rfl⟩
 ·refine .inr ⟨_,_,rfl,λj u hu=>?_⟩;have hne:xs≠[]:=by rintro rfl;simp at hu
  obtain⟨rfl,k2,k3⟩:=h4 hne;rw [List.getElem?_map] at hu;obtain⟨z,hz,rfl⟩:=Option.map_eq_some_iff.1 hu;rw [show (⟨b,off,none⟩:Addr).add j=⟨b,off+j,none⟩ by unfold Addr.add;by_cases h0:j=0 <;> simp [h0]];exact k3 j z hz
abbrev zi (n:Nat) (W0:World) (ps:List Pc) (iv bv:Value) (xs:List Int) (L:List (Value×List Int)):List Pc :=
 Pc.row n 3 1 iv xs.length (xs.map (Value.int .i64))::Pc.row n 22 1 bv L.length (L.map (·.1))::Pc.lF yg L::Pc.old n W0::ps
theorem F.anD {xs:List Int} {bs:List (List Int)} {b:List Int} {k:Nat} (hk:bs[k]?=some b) (h:∀ (j:Nat) (y:List Int),j<k->bs[j]?=some y->y≠b):F.su (xs,bs) b=(xs++[(k:Int)],bs):=by
 unfold F.su;have:bs.findIdx? (·==b)=some k:=by
  obtain⟨hkl,he⟩:=List.getElem?_eq_some_iff.1 hk;rw [List.findIdx?_eq_some_iff_getElem];refine⟨hkl,by simp [he],λj hj=>?_⟩;have:=h j bs[j] hj (List.getElem?_eq_getElem (by omega))
  simpa using this
 simp only [this]
theorem F.ahH {xs:List Int} {bs:List (List Int)} {b:List Int} (h:∀ (j:Nat) (y:List Int),bs[j]?=some y->y≠b):F.su (xs,bs) b=(xs++[(bs.length:Int)],bs++[b]):=by
 unfold F.su;have:bs.findIdx? (·==b)=none:=by
  rw [List.findIdx?_eq_none_iff];intro y hy;obtain⟨i,hi,e⟩:=List.getElem_of_mem hy;have:=h i y (by rw [List.getElem?_eq_getElem hi,e])
  simpa using this
 simp only [this]
theorem Xl:(Tryz.prog.info? 25).map (·.size)=some 2:=by kernel_rfl
theorem akT (n:Nat) (W0:World) (ps:List Pc) (iv bv b:Value) (xs:List Int) (L:List (Value×List Int)) (bl:List Int) (w:World) (hS:Sep (Pc.lF yg [(b,bl)]::zi n W0 ps iv bv xs L) w) (h256:bl.length=256) (hx:xs.length<=10000) (hL:L.length<=10000) (hall:∀ y∈L,y.2.length=256) :
  Calls Tryz.prog 122 #[.agg #[iv,bv],b] w λe w'=>∃ iH iJ L',e = .returned (.agg #[iH,iJ])/\Sep (zi n W0 ps iH iJ (F.su (xs,L.map (·.2)) bl).1 L') w'/\L'.map (·.2)=(F.su (xs,L.map (·.2)) bl).2:=by
 obtain⟨ia,ic,rfl,hi1,hi2⟩:=iU (hS.row 1 rfl);obtain⟨ba,bc,rfl,hb1,hb2⟩:=iU (hS.row 2 rfl);have hb:=((hS.at' 0 (p:=Pc.lF yg [(b,bl)]) rfl) (b,bl) (by simp)).1;simp only at hb;obtain⟨sa,sc,rfl⟩:=hb.slice;rw [h256] at hS ⊢;obtain⟨V,hV⟩:∃ V,V=(w.alloc (.cells #[.slice ia xs.length ic, .slice ba L.length bc] 25)).alloc (.cells #[.slice none 0 0, .slice none 0 0] 25):=⟨_,rfl⟩
 have h1:=hS.bM 25 #[.slice ia xs.length ic, .slice ba L.length bc];have h2:=h1.bM 25 #[.slice none 0 0, .slice none 0 0];have hsz:(w.alloc (.cells #[.slice ia xs.length ic, .slice ba L.length bc] 25)).heap.size=w.heap.size+1:=by simp
 rw [hsz,<- hV] at h2;have EK:=bx h2;have HV:=bx hV;have Eh:=bx h256;have qX:=bx hall;have HN:=bx (show n<=w.heap.size from(hS.at' 4 (p:=Pc.old n W0) rfl).1);clear hS hb hV h1 h2 hsz h256 hall
 go_enter Tryz.func122,Tryz.ntmps122
 go_upto_region 1 with(fail)
 rw [<- HV.o];obtain⟨Q,hQ⟩:∃ Q,w.heap.size=Q:=⟨_,rfl⟩
 rw [hQ] at EK HN ⊢;clear hQ HV;go_wp2_with fail
 go_loopw [5] (λi wr=>∃ k:Nat,k<=L.length/\i = .int .i64 k/\Box (∀ (j:Nat) (y:List Int),j<k->(L.map (·.2))[j]?=some y->y≠bl)/\Box (Below V.heap.size V wr)) (λi _=>L.length-(intOf i).toNat)
 case atStart=>exact⟨0,by omega,rfl,⟨λj y h=>by omega⟩,⟨Below.refl _ _⟩⟩
 case round =>
  obtain⟨k,hk,rfl,hno,hb⟩:=hrel;have mQ:=bx (EK.o.below hb.o);have hq:=mQ.o.blk 1 rfl;have hr:=mQ.o.blk 0 rfl;have c0:wr.cell? ⟨Q,0,none⟩=some (.slice ia xs.length ic):=(hq.cell 0).trans rfl;have c1:wr.cell? ⟨Q,1,none⟩=some (.slice ba L.length bc):=(hq.cell 1).trans rfl;have f0:=hq.frozen 0;have f1:=hq.frozen 1;have ql:=hq.lt;have aJ:=bx ((mQ.o.at' 2 (p:=Pc.lF yg [(.slice sa 256 sc,bl)]) rfl) (.slice sa 256 sc,bl) (by simp)).1;simp only at aJ;clear hq hr
  by_cases hlt:k<L.length
  ·obtain⟨y,hy⟩:∃ y,L[k]?=some y:=⟨_,List.getElem?_eq_getElem hlt⟩
   obtain⟨g,cap',cur,e1,s1,s2,s3,hbk,hcur⟩:=OG (mQ.o.row 4 rfl) (by omega);obtain⟨rfl,rfl⟩:ba=some ⟨g,0,none⟩/\bc=cap':=by injection e1 with e1 e2 e3;exact⟨e1,e3⟩
   have hck:=(hbk.cell k).trans (hcur k y.1 (by rw [List.getElem?_map,hy];rfl));have hyl:=hbk.lt;have hyi:=(mQ.o.at' 5 (p:=Pc.lF yg L) rfl) y (List.mem_of_getElem? hy);have h256:=qX.o y (List.mem_of_getElem? hy);have uI:=bx (RV y.1 (.slice sa 256 sc) y.2 bl wr hyi.1 aJ.o (by omega) (by have:=Eh.o;omega));have HYK:=bx (show (L.map (·.2))[k]?=some y.2 by rw [List.getElem?_map,hy];rfl);clear hy hbk hcur e1 hyi
   by_cases heq:y.2=bl
   ·have iL:=bx (F.anD (xs:=xs) (by rw [HYK.o,heq]) hno.o);rw [decide_eq_true heq] at uI;clear heq;go_wp2_with fail;refine uI.o.mono ?_;rintro e w2 ⟨rfl,hb2⟩;have HS2:=bx (mQ.o.below hb2);have hq2:=HS2.o.blk 1 rfl;have d0:w2.cell? ⟨Q,0,none⟩=some (.slice ia xs.length ic):=(hq2.cell 0).trans rfl;have d1:w2.cell? ⟨Q,1,none⟩=some (.slice (some ⟨g,0,none⟩) L.length bc):=(hq2.cell 1).trans rfl;have e0:=hq2.frozen 0;have el:=hq2.lt;have hbs:n<=w2.heap.size:=by have:=HN.o;omega
    clear c0 c1 f0 f1 ql hck hyl hb2 hq2;go_wp2_with (at_builtin;refine ji (u:=.int .i64 (k:Int)) rfl _ _ 22 rfl iT HS2.o 3 rfl rfl rfl rfl (by omega) (by omega) hbs ?_;rintro v' w4 hS4 ⟨go',gc',rfl,-,-⟩;have aY:=bx hS4;have hq4:=aY.o.blk 1 rfl;have d0:w4.cell? ⟨Q,0,none⟩=some (.slice ia xs.length ic):=(hq4.cell 0).trans rfl;have d1:w4.cell? ⟨Q,1,none⟩=some (.slice (some ⟨g,0,none⟩) L.length bc):=(hq4.cell 1).trans rfl;have e0:=hq4.frozen 0;have e1:=hq4.frozen 1;have el:=hq4.lt;have hr4:=aY.o.blk 0 rfl;have r0:w4.cell? ⟨Q+1,0,none⟩=some (.slice none 0 0):=(hr4.cell 0).trans rfl;have r1:w4.cell? ⟨Q+1,1,none⟩=some (.slice none 0 0):=(hr4.cell 1).trans rfl;have JK:=hr4.frozen 0;have IC:=hr4.frozen 1;have rl:=hr4.lt;clear hS4 hq4 hr4)
    have h5:=aY.o.set 1 rfl 0 (.slice (some ⟨go',0,none⟩) (xs.length+1) gc');have h6:=(h5.set 0 rfl 0 (.slice (some ⟨go',0,none⟩) (xs.length+1) gc')).set 0 rfl 1 (.slice (some ⟨g,0,none⟩) L.length bc);refine bodyPost_ret (v:=.agg #[.slice (some ⟨go',0,none⟩) (xs.length+1) gc', .slice (some ⟨g,0,none⟩) L.length bc]) (results_cell_row Tryz.results122 _ _ (Q+1) 25 #[.slice (some ⟨go',0,none⟩) (xs.length+1) gc', .slice (some ⟨g,0,none⟩) L.length bc] (0,0) _ rfl (h6.blk 0 rfl) Tryz.underlying25 rfl Xl) rfl ⟨_,_,L,rfl,?_,by rw [iL.o]⟩;rw [iL.o];have h7:=h6.tail.tail.tail;simp only [zi,List.map_append,List.length_append];exact h7
   ·have qy:=bx (show ∀ (j:Nat) (z:List Int),j<k+1->(L.map (·.2))[j]?=some z->z≠bl from λj z hj hz=>by
     rcases Nat.lt_or_ge j k with h1 | h1
     ·exact hno.o j z h1 hz
     ·obtain rfl:j=k:=by omega
      rw [HYK.o] at hz
      cases hz;exact heq)
    rw [decide_eq_false heq] at uI;clear heq;go_wp2_with fail;refine uI.o.mono ?_;rintro e w2 ⟨rfl,hb2⟩;have HB2:=bx (bt hb.o hb2);clear hb2;go_wp2_with fail
    go_roundw
    case rel=>exact⟨k+1,hlt,by go_num,qy,HB2⟩
    case measure=>simp [intOf];omega
  ·obtain rfl:k=L.length:=by omega
   have iL:=bx (F.ahH (xs:=xs) (bs:=L.map (·.2)) (b:=bl) (λj y hy=>hno.o j y (by have:=(List.getElem?_eq_some_iff.1 hy).1;simpa using this) hy));rw [List.length_map] at iL;have hbs:n<=wr.heap.size:=by have:=HN.o;omega
   go_wp2_with (at_builtin;refine ji (u:=.int .i64 (L.length:Int)) rfl _ _ 22 rfl iT mQ.o 3 rfl rfl rfl rfl (by omega) (by omega) hbs ?_;rintro v' w4 hS4 ⟨go',gc',rfl,-,-⟩;have aY:=bx hS4;have hq4:=aY.o.blk 1 rfl;have d0:w4.cell? ⟨Q,0,none⟩=some (.slice ia xs.length ic):=(hq4.cell 0).trans rfl;have d1:w4.cell? ⟨Q,1,none⟩=some (.slice ba L.length bc):=(hq4.cell 1).trans rfl;have e0:=hq4.frozen 0;have e1:=hq4.frozen 1;have el:=hq4.lt;have hr4:=aY.o.blk 0 rfl;have r0:w4.cell? ⟨Q+1,0,none⟩=some (.slice none 0 0):=(hr4.cell 0).trans rfl;have r1:w4.cell? ⟨Q+1,1,none⟩=some (.slice none 0 0):=(hr4.cell 1).trans rfl;have JK:=hr4.frozen 0;have IC:=hr4.frozen 1;have rl:=hr4.lt;clear hS4 hq4 hr4)
   refine fP 7 (λW=>W.cell? ⟨Q,1,none⟩=some (.slice ba L.length bc)) (by kernel_rfl) ?_;have bU:=bx ((aY.o.set 1 rfl 0 (.slice (some ⟨go',0,none⟩) (xs.length+1) gc')).drew.iW n 1 3);generalize (w4.setCell ⟨Q,0,none⟩ (.slice (some ⟨go',0,none⟩) (xs.length+1) gc')).drew=WD at bU ⊢;have aA:=bx (show WD.cell? ⟨Q,1,none⟩=some (.slice ba L.length bc) from((bU.o.blk 2 rfl).cell 1).trans rfl);have AZ:=bx (ahC (((bU.o.at' 3 (p:=Pc.lF yg [(.slice sa 256 sc,bl)]) rfl) (.slice sa 256 sc,bl) (by simp)).1));simp only at AZ;rw [Eh.o] at AZ;clear aY;refine kS 0 ?_ rfl aA.o ?_ ?_;rotate_left
   ·intro w q1;go_simp;try with_reducible rfl
   refine kS 1 ?_ rfl aA.o ?_ ?_;rotate_left
   ·intro w q1;go_simp;try with_reducible rfl
   refine kS 2 ?_ rfl aA.o ?_ ?_;rotate_left
   ·intro w q1;go_simp;try with_reducible rfl
   refine kP 3 rfl λKK ah=>?_
   refine qE rfl _ _ 22 rfl NQ (by decide) bU.o 0 rfl (by kernel_rfl) (by kernel_rfl) (m:=256) (cs:=bl.map (Value.int .i64)) AZ.o (by rw [List.length_map,Eh.o]) (by intro u hu;obtain⟨z,-,rfl⟩:=List.mem_map.1 hu;rfl) (by omega) (by omega) (bU.o.at' 7 (p:=Pc.old n W0) rfl).1 ?_;rintro v6 w6 hS6;have aW:=bx hS6;clear hS6;obtain⟨na,nc,rfl,hn1,hn2⟩:=iU (aW.o.row 0 rfl);refine ah.out _ _ (λ_=>((aW.o.blk 2 rfl).cell 1).trans rfl) ?_;clear ah KK;refine kP 4 rfl λKK ah=>?_
   go_simp;refine ah.out _ _ (λ_=>(((aW.o.alloc _).blk 2 rfl).cell 1).trans rfl) ?_;clear ah KK;refine kP 5 rfl λKK ah=>?_
   refine uF (u:=.slice na (0+256) nc) rfl _ _ 23 rfl O9 aW.o 5 rfl (by kernel_rfl) (by kernel_rfl) rfl (by omega) (by omega) (aW.o.at' 7 (p:=Pc.old n W0) rfl).1 ?_;rintro v7 w7 hS7 ⟨g7,c7,rfl,-,-⟩;have dX:=bx hS7;have hq7:=dX.o.blk 2 rfl;have d0:w7.cell? ⟨Q,0,none⟩=some (.slice (some ⟨go',0,none⟩) (xs.length+1) gc'):=(hq7.cell 0).trans rfl;have d1:w7.cell? ⟨Q,1,none⟩=some (.slice ba L.length bc):=(hq7.cell 1).trans rfl;have e0:=hq7.frozen 0;have e1:=hq7.frozen 1;have el:=hq7.lt;have Fz:=dX.o.blk 1 rfl;have r0:w7.cell? ⟨Q+1,0,none⟩=some (.slice none 0 0):=(Fz.cell 0).trans rfl;have r1:w7.cell? ⟨Q+1,1,none⟩=some (.slice none 0 0):=(Fz.cell 1).trans rfl;have JK:=Fz.frozen 0;have IC:=Fz.frozen 1;have rl:=Fz.lt;clear hS7 hq7 Fz;refine ah.out _ _ (λ_=>d1) ?_;clear ah KK;refine kP 6 rfl λKK ah=>?_
   go_simp;refine ah.out _ _ (λ_=>d1) ?_;clear ah KK;refine kP 7 rfl λKK ah=>?_
   go_simp;refine ah.out _ _ (λh=>by cases h) ?_;clear ah KK;refine kD ?_ _;go_wp2_with fail;have h5:=dX.o.set 2 rfl 1 (.slice (some ⟨g7,0,none⟩) (L.length+1) c7);have h6:=(h5.set 1 rfl 0 (.slice (some ⟨go',0,none⟩) (xs.length+1) gc')).set 1 rfl 1 (.slice (some ⟨g7,0,none⟩) (L.length+1) c7);refine bodyPost_ret (v:=.agg #[.slice (some ⟨go',0,none⟩) (xs.length+1) gc', .slice (some ⟨g7,0,none⟩) (L.length+1) c7]) (results_cell_row Tryz.results122 _ _ (Q+1) 25 #[.slice (some ⟨go',0,none⟩) (xs.length+1) gc', .slice (some ⟨g7,0,none⟩) (L.length+1) c7] (0,0) _ rfl (h6.blk 1 rfl) Tryz.underlying25 rfl Xl) rfl ⟨_,_,L++[(.slice na (0+256) nc,bl)],rfl,?_,by rw [iL.o,List.map_append];rfl⟩;rw [iL.o];have hrow:=h6.row 0 rfl;have h7:=h6.as 0 (p':=Pc.lF yg [(.slice na (0+256) nc,bl)]) rfl (λhr y hy=>by
    rw [List.mem_singleton.1 hy];exact⟨aB.gK hr (by rw [Eh.o]),λg hg=>(hr.lt g hg).2⟩) (λk hk=>by
    obtain⟨y,hy,hk⟩:=hk;rw [List.mem_singleton.1 hy] at hk;exact hk)
   have h8:=(Sep.aau (b:=yg) (y:=(.slice na (0+256) nc,bl)) (L:=L) h7 5 rfl).tail.tail.tail;simp only [zi,List.map_append,List.length_append];exact h8
theorem F.acp (l:List F.aV) (row:Nat):(F.oL l row).length=256:=by unfold F.oL;rw [List.length_map,List.length_range]
theorem F.ad7 (t:F.Trie) (b:List Int):(F.su t b).1.length=t.1.length+1/\(F.su t b).2.length<=t.2.length+1/\∀ x∈(F.su t b).2,x∈t.2\/x=b:=by
 unfold F.su
 split
 ·exact⟨by simp,by simp,λx hx=>.inl hx⟩
 ·exact⟨by simp,by simp,λx hx=>by
   rcases List.mem_append.1 hx with h | h
   ·exact .inl h
   ·exact .inr (List.mem_singleton.1 h)⟩
theorem F.FU (l:List F.aV):∀ k,(F.nR l k).1.length=k/\(F.nR l k).2.length<=k/\∀ x∈(F.nR l k).2,x.length=256
 | 0=>⟨rfl,Nat.le_refl _,λx hx=>absurd hx List.not_mem_nil⟩
 | k+1=>by
  obtain⟨h1,h2,h3⟩:=F.FU l k;obtain⟨k1,k2,k3⟩:=F.ad7 (F.nR l k) (F.oL l k);have e:F.nR l (k+1)=F.su (F.nR l k) (F.oL l k):=rfl;rw [e];exact⟨by omega,by omega,λx hx=>by
   rcases k3 x hx with h | h
   ·exact h3 x h
   ·rw [h];exact F.acp l k⟩
def yN (w:World) (v:Value) (t:F.Trie):Prop:=∃ iv bv,v = .agg #[iv,bv]/\aB w iv t.1/\fJ w bv t.2
theorem yN.below {w w':World} {v:Value} {t:F.Trie} (h:yN w v t) (hb:Below w.heap.size w w'):yN w' v t:=by
 obtain⟨iv,bv,h1,h2,h3⟩:=h;exact⟨iv,bv,h1,h2.below hb,h3.below hb⟩
theorem af7 {w:World} {n:Nat} {T:TypeId} {bv:Value} {L:List (Value×List Int)} (h:w.ownsRow n T 1 bv L.length (L.map (·.1))) (hb:∀ y∈L,aB w y.1 y.2):fJ w bv (L.map (·.2)):=by
 rcases h.2 with⟨h1,h2⟩ | ⟨g,cap,cur,rfl,h2,h3,h4,h5,h6,h7⟩
 ·refine .inl ⟨h1,?_⟩;rw [List.eq_nil_of_length_eq_zero h2]
  rfl
 ·refine .inr ⟨g,0,none,cap,by rw [List.length_map],by rw [List.length_map];exact h4,h5,λ_=>⟨rfl,(h.lt g rfl).2,λi r hr=>?_⟩⟩;rw [List.getElem?_map] at hr;obtain⟨y,hy,rfl⟩:=Option.map_eq_some_iff.1 hr;refine⟨y.1,?_,hb y (List.mem_of_getElem? hy)⟩;have:=h.cells (g:=g) rfl i y.1 (by rw [List.getElem?_map,hy];rfl);rw [show (⟨g,0+i,none⟩:Addr)=(⟨g,0,none⟩:Addr).add i by unfold Addr.add;by_cases h0:i=0 <;> simp [h0]];exact this
theorem afc (v:Value) (l:List F.aV) (w:World) (hv:iM w v l) (hok:F.vP l=true) :
  Calls Tryz.prog 67 #[v] w λe w'=>∃ iv bv L,e = .returned (.tuple #[.agg #[iv,bv], .int .i64 0])/\L.map (·.2)=(F.jP l).2/\Sep (zi w.heap.size w [] iv bv (F.jP l).1 L) w':=by
 have mV:=bx hok;have qX:=bx (show ∀ x∈l,F.BN x=true by
  unfold F.vP at hok;rw [Bool.and_eq_true,List.all_eq_true] at hok;intro x hx;obtain⟨i,hi,rfl⟩:=List.getElem_of_mem hx;have h:=hok.1 i (List.mem_range.2 hi);rw [Bool.and_eq_true] at h;have h9:=h.1
  rwa [List.getD_eq_getElem?_getD,List.getElem?_eq_getElem hi,Option.getD_some] at h9)
 have HV:=bx hv;obtain⟨a,cap,rfl,hc1,hc2⟩:=hv.slice;have hb0:=aO w (.cells #[.slice none 0 0, .slice none 0 0] 25);have eH:=bx (ZE _ l _ (hv.below hb0) hok);have aQ:=bx ((Sep.start w).bM 25 #[.slice none 0 0, .slice none 0 0]);clear hv hok hb0
 go_enter Tryz.func67,Tryz.ntmps67
 go_wp2_with fail;refine eH.o.mono ?_;rintro e w1 ⟨rfl,hb1⟩;have bG:=bx (aQ.o.below hb1);have hr1:=bG.o.blk 0 rfl;have r0:w1.cell? ⟨w.heap.size,0,none⟩=some (.slice none 0 0):=(hr1.cell 0).trans rfl;have r1:w1.cell? ⟨w.heap.size,1,none⟩=some (.slice none 0 0):=(hr1.cell 1).trans rfl;have rl:=hr1.lt;clear hb1 hr1;go_wp2_with fail;have HS2:=bx (show Sep (zi w.heap.size w [Pc.blk w1.heap.size 25 #[.slice none 0 0, .slice none 0 0],Pc.blk w.heap.size 25 #[.slice none 0 0, .slice none 0 0]] (.slice none 0 0) (.slice none 0 0) [] []) (w1.alloc (.cells #[.slice none 0 0, .slice none 0 0] 25)) from
  (((((bG.o.bM 25 #[.slice none 0 0, .slice none 0 0]).perm (List.perm_append_comm (l₁:=[_,_]) (l₂:=[_]))).Y2 yg).iW w.heap.size 1 22).iW w.heap.size 1 3))
 obtain⟨T,hT⟩:∃ T,w1.heap.size=T:=⟨_,rfl⟩
 rw [hT] at HS2 ⊢;generalize w1.alloc (.cells #[.slice none 0 0, .slice none 0 0] 25)=V at HS2 ⊢;obtain⟨R,hR⟩:∃ R,w.heap.size=R:=⟨_,rfl⟩
 rw [hR] at HS2 ⊢;have HR:=bx hR;clear hT hR r0 r1 rl bG aQ eH
 go_loopw [5] (λi wr=>∃ (k:Nat) (iv bv:Value) (L:List (Value×List Int)),k<=4352/\i = .int .i64 k/\Box (L.map (·.2)=(F.nR l k).2)/\Box (Sep (zi R w [Pc.blk T 25 #[iv,bv],Pc.blk R 25 #[.slice none 0 0, .slice none 0 0]] iv bv (F.nR l k).1 L) wr)) (λi _=>4352-(intOf i).toNat)
 case atStart=>exact⟨0, .slice none 0 0, .slice none 0 0,[],by omega,rfl,⟨rfl⟩,HS2⟩
 case round =>
  obtain⟨k,iv,bv,L,hk,rfl,Na,hse⟩:=hrel;have aP:=bx (show Below w.heap.size w wr by rw [HR.o];exact hse.o.bel (n:=R) (W0:=w) (by simp));obtain⟨ia,ic,rfl,hi1,hi2⟩:=iU (hse.o.row 0 rfl);obtain⟨ba,bc,rfl,hb1,hb2⟩:=iU (hse.o.row 1 rfl);have hq:=hse.o.blk 4 rfl;have hr:=hse.o.blk 5 rfl;have c0:wr.cell? ⟨T,0,none⟩=some (.slice ia (F.nR l k).1.length ic):=(hq.cell 0).trans rfl;have c1:wr.cell? ⟨T,1,none⟩=some (.slice ba L.length bc):=(hq.cell 1).trans rfl;have f0:=hq.frozen 0;have f1:=hq.frozen 1;have ql:=hq.lt;have r0:wr.cell? ⟨R,0,none⟩=some (.slice none 0 0):=(hr.cell 0).trans rfl;have r1:wr.cell? ⟨R,1,none⟩=some (.slice none 0 0):=(hr.cell 1).trans rfl;have JK:=hr.frozen 0;have IC:=hr.frozen 1;have rl:=hr.lt;have HLEN:=bx (F.FU l k);have lN:=bx (show L.length<=k by have h9:=congrArg List.length Na.o;rw [List.length_map] at h9;rw [h9];exact HLEN.o.2.1);obtain⟨xn,hxn⟩:∃ xn,(F.nR l k).1.length=xn:=⟨_,rfl⟩
  have Jv:=bx hxn;rw [hxn] at c0;clear hxn hq hr hi1 hb1
  by_cases hlt:k<4352
  ·go_wp2_with fail;refine fP 5 (λW=>W.cell? ⟨T,0,none⟩=some (.slice ia xn ic)/\W.cell? ⟨T,1,none⟩=some (.slice ba L.length bc)) (by kernel_rfl) ?_;have dY:=bx hse.o.drew;have aF:=bx (aP.o.trans ((iD wr 1).mono aP.o.size));have aA:=bx (show wr.drew.cell? ⟨T,0,none⟩=some (.slice ia xn ic)/\wr.drew.cell? ⟨T,1,none⟩=some (.slice ba L.length bc) from⟨c0,c1⟩);have Qn:Below w.heap.size w wr.drew:=aF.o;generalize wr.drew=WD at dY aA Qn ⊢;have aG:=bx (anr _ l k WD (HV.o.below Qn) qX.o hlt);clear c0 c1 f0 f1 ql r0 r1 JK IC rl Qn aF;refine kS 0 ?_ rfl aA.o ?_ ?_;rotate_left
   ·rintro w ⟨q1,q2⟩;go_simp;try with_reducible rfl
   refine kS 1 ?_ rfl aA.o ?_ ?_;rotate_left
   ·rintro w ⟨q1,q2⟩;go_simp;try with_reducible rfl
   refine kS 2 ?_ rfl aA.o ?_ ?_;rotate_left
   ·rintro w ⟨q1,q2⟩;go_simp;try with_reducible rfl
   refine kP 3 rfl λKK ah=>?_
   go_simp;go_wp2_with (go_at_call 123;refine aG.o.mono ?_;rintro e w6 ⟨⟨vb,rfl,hvb,hfr⟩,hb6⟩)
   have aW:=bx (dY.o.Gl (b:=yg) (y:=(vb,F.oL l k)) hb6 ⟨hvb,λg hg=>(hfr g hg).2⟩ (λg hg=>(hfr g hg).1));clear hb6 hvb hfr;refine ah.out _ _ (λ_=>⟨((aW.o.blk 5 rfl).cell 0).trans (by rw [<- Jv.o];rfl),((aW.o.blk 5 rfl).cell 1).trans rfl⟩) ?_;clear ah KK;have HPU:=bx (akT R w _ _ _ vb (F.nR l k).1 L (F.oL l k) w6 aW.o (F.acp l k) (by rw [HLEN.o.1];omega) (by have:=lN.o;omega) (λy hy=>HLEN.o.2.2 y.2 (by rw [<- Na.o];exact List.mem_map_of_mem hy)));rw [Jv.o] at HPU;refine kP 4 rfl λKK ah=>?_
   go_simp;go_wp2_with (go_at_call 122;refine HPU.o.mono ?_;rintro e w7 ⟨iH,iJ,L',rfl,hS7,hL7⟩)
   have e7:F.su ((F.nR l k).1,L.map (·.2)) (F.oL l k)=F.nR l (k+1):=by rw [Na.o];rfl
   rw [e7] at hS7 hL7;have dX:=bx hS7;have HL7:=bx hL7;obtain⟨ja,jc,rfl,hj1,hj2⟩:=iU (hS7.row 0 rfl);obtain⟨ca,cc,rfl,hc3,hc4⟩:=iU (hS7.row 1 rfl);have hq7:=hS7.blk 4 rfl;have c0:w7.cell? ⟨T,0,none⟩=some (.slice ia xn ic):=(hq7.cell 0).trans (by rw [<- Jv.o];rfl);have c1:w7.cell? ⟨T,1,none⟩=some (.slice ba L.length bc):=(hq7.cell 1).trans rfl;have f0:=hq7.frozen 0;have f1:=hq7.frozen 1;have ql:=hq7.lt;clear hS7 hL7 e7 hq7;refine ah.out _ _ (λ_=>⟨c0,c1⟩) ?_;clear ah KK;refine kP 5 rfl λKK ah=>?_
   go_simp;refine ah.out _ _ (λh=>by cases h) ?_;clear ah KK;refine kD ?_ _;have kM:=bx ((dX.o.set 4 rfl 0 (.slice ja (F.nR l (k+1)).1.length jc)).set 4 rfl 1 (.slice ca L'.length cc));go_wp2_with fail
   go_roundw
   case rel=>exact⟨k+1,_,_,L',hlt,by go_num,HL7,kM⟩
   case measure=>simp [intOf];omega
  ·obtain rfl:k=4352:=by omega
   have Et:=bx hse.o;have uI:=bx (show F.nR l 4352=F.jP l from rfl);have H7:=bx (hse.o.lF 2 rfl);go_wp2_with fail;have h6:=(Et.o.set 5 rfl 0 (.slice ia xn ic)).set 5 rfl 1 (.slice ba L.length bc);refine bodyPost_ret (v:=.tuple #[.agg #[.slice ia xn ic, .slice ba L.length bc], .int .i64 0]) (zO Tryz.results67 _ _ R 25 #[.slice ia xn ic, .slice ba L.length bc] (0,0) _ rfl (h6.blk 5 rfl) Tryz.underlying25 rfl Xl) rfl ⟨_,_,L,rfl,Na.o.trans (by rw [uI.o]),?_⟩;rw [HR.o];have h9:=(h6.drop 5).drop 4;rw [<- Jv.o,uI.o] at h9;rw [<- Jv.o,uI.o];exact h9
theorem ak2 {n:Nat} {W0 w:World} {ps:List Pc} {iv bv:Value} {xs:List Int} {L:List (Value×List Int)} (h:Sep (zi n W0 ps iv bv xs L) w):yN w (.agg #[iv,bv]) (xs,L.map (·.2)) :=
 ⟨iv,bv,rfl,aB.gK (h.row 0 rfl) rfl,af7 (h.row 1 rfl) (λy hy=>(h.lF 2 rfl y hy).1)⟩
theorem aiI {n:Nat} {W0 w:World} {ps:List Pc} {iv bv:Value} {L:List (Value×List Int)} {t:F.Trie} (h2:L.map (·.2)=t.2) (h:Sep (zi n W0 ps iv bv t.1 L) w):yN w (.agg #[iv,bv]) t:=by
 obtain⟨a,b⟩:=t;have h4:=ak2 h;rw [h2] at h4;exact h4
theorem XD (v:Value) (l:List F.aV) (w:World) (hv:iM w v l) (hok:F.vP l=true) :
  Calls Tryz.prog 67 #[v] w λe w'=>(∃ v',e = .returned (.tuple #[v', .int .i64 0])/\yN w' v' (F.jP l))/\Below w.heap.size w w' :=
 (afc v l w hv hok).mono λ_ w' ⟨iv,bv,L,h1,h2,h3⟩=>by
  exact⟨⟨_,h1,aiI h2 h3⟩,h3.bel (n:=w.heap.size) (W0:=w) (by simp)⟩
end
end Go.Proofs.YtdenoeakcflnmaaGreatDoor
