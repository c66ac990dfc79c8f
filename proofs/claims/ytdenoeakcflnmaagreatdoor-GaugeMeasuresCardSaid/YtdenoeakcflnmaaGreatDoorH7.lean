/- Texts of this claim. -/
import Derived.Laws.AppendOwnNone
import Derived.Test.YtdenoeakcflnmaaGreatDoorH6

set_option maxHeartbeats 4000000
namespace Go.Proofs.YtdenoeakcflnmaaGreatDoor
section
open Go.RowKit
attribute [local go_sem] Oper.semAt_some
def uP {α:Type} (f:α->α) (P:List α) (k:Nat):List α:=(P.take k).map f++P.drop k
theorem anf {α:Type} (f:α->α) (P:List α):uP f P P.length=P.map f:=by unfold uP;rw [List.take_length,List.drop_length,List.append_nil]
theorem ak6 {α:Type} (f:α->α) (P:List α) (k:Nat):(uP f P k)[k]?=P[k]?:=by
 unfold uP
 rcases Nat.lt_or_ge k P.length with h | h
 ·rw [List.getElem?_append_right (by simp;omega),List.length_map,List.length_take,List.getElem?_drop]
  congr 1
  omega
 ·rw [List.getElem?_eq_none h,List.getElem?_eq_none (by simp;omega)]
theorem aeM {α:Type} (f:α->α) (P:List α) (k:Nat) {x:α} (h:P[k]?=some x):(uP f P k).set k (f x)=uP f P (k+1):=by
 have hk:=(List.getElem?_eq_some_iff.1 h).1;have hd:P.drop k=x::P.drop (k+1):=by
  rw [List.drop_eq_getElem_cons hk,(List.getElem?_eq_some_iff.1 h).2]
 unfold uP;have h0:k-((P.take k).map f).length=0:=by simp;omega
 rw [hd,List.take_add_one,h,List.set_append,if_neg (by simp;omega),h0];simp
theorem ahM (l:List UInt8) (a b:Int) (fs:List (List UInt8)) (w:World) (hz:l.length<=20000) (hok:F.Bq l=some (some (a,b,fs))) :
  Calls Tryz.prog 161 #[.string (bs l)] w λe w'=>(∃ fv,e = .returned (.tuple #[.agg #[.int .i64 0, .int .i64 a, .int .i64 b,fv], .bool true, .int .i64 0])/\dI w' fv fs/\∀ g,fv.ownBlock=some g->w.heap.size<=g/\g<w'.heap.size)/\Below w.heap.size w w':=by
 obtain⟨h,t,hs,hl⟩:=Rh 35 l;unfold F.Bq at hok;rw [hs,List.headD_cons] at hok;obtain⟨T,hT⟩:∃ T,F.trim h=T:=⟨_,rfl⟩
 have hTl:T.length<=20000:=by rw [<- hT];have:=F.Jk h;omega
 rw [hT] at hok;obtain⟨hne,CX,hab,hb,h2,h21,hfs⟩:=F.Yd hok;obtain⟨P,hP⟩:∃ P,F.split 59 T=P:=⟨_,rfl⟩
 rw [hP,List.length_map] at h2 h21;rw [hP] at CX hfs;have eY:=bx (show ∀ x∈P,x.length<=20000 from λx hx=>by have:=F.O1 59 T x (by rw [hP];exact hx);omega);obtain⟨m,hm⟩:∃ m,P.length=m:=⟨_,rfl⟩
 rw [hm] at h2 h21;obtain⟨w1,hw1⟩:∃ w1,w1=w.alloc (.cells #[.int .i64 0, .int .i64 0, .int .i64 0, .slice none 0 0] 172):=⟨_,rfl⟩
 have hb1:Below w.heap.size w w1:=by rw [hw1];exact(Below.refl _ _).alloc (Nat.le_refl _) _
 have HB1:=bx hb1;have dJ:=bx (show aj w1 w.heap.size 172 #[.int .i64 0, .int .i64 0, .int .i64 0, .slice none 0 0] by rw [hw1];exact aj.new _ _ _);have pJ:=bx (show Calls Tryz.prog 113 #[.string (bs l), .int .u8 35] w1 λe w'=>(∃ v,e = .returned v/\dI w' v (F.split 35 l))/\Below w1.heap.size w1 w' from LP l 35 w1 (by omega));rw [hs] at pJ;have fV:=bx (λW=>Gz h W (by omega));rw [hT] at fV;have Yt:=bx (λW=>(show Calls Tryz.prog 113 #[.string (bs T), .int .u8 59] W λe w'=>(∃ v,e = .returned v/\w'.ownsRow W.heap.size 9 1 v (F.split 59 T).length ((F.split 59 T).map jK))/\Below W.heap.size W w' from abe T 59 W (by omega)));rw [hP,hm] at Yt;have HW1:=bx hw1;have ou:=bx hne;have adB:=bx CX;have cu:=bx hfs;have HM:=bx hm;clear hb1 hw1 hok hs hT hP hne CX hfs hm
 go_enter Tryz.func161,Tryz.ntmps161
 go_upto_region 1 with(fail)
 rw [<- HW1.o];go_wp2_with fail;refine pJ.o.mono ?_;rintro e w2 ⟨⟨v,rfl,hv⟩,hb2⟩;obtain⟨g,off,cap,rfl,q2,q3,q4,q5⟩:=hv.get (by simp);have hc:=q5 0 h rfl;rw [Nat.add_zero] at hc;have mJ:=bx (dJ.o.below hb2 dJ.o.lt);have HB2:=bx (bt HB1.o hb2);unfold maxLen at q3;rw [List.length_cons] at q2 ⊢;clear hb2 hv q5;go_wp2_with fail;refine(fV.o _).mono ?_;rintro e w3 ⟨rfl,rfl⟩;have hemp:=Ap ou.o;clear hc q2 q3 q4;go_wp2_with fail;refine(Yt.o _).mono ?_;rintro e w3 ⟨⟨v,rfl,hown⟩,hb3⟩;obtain⟨g2,cap2,cur,rfl,r1,r2,r3,-,-⟩:=OG hown (by omega);have aQ:=bx (show Sep [Pc.row w2.heap.size 9 1 (.slice (some ⟨g2,0,none⟩) m cap2) m ((uP F.trim P 0).map jK),Pc.old w2.heap.size w2] w3 from(Sep.start w2).got hb3 hown (Nat.le_refl _));clear hown hb3 hemp;go_wp2_with fail
 go_loopw [7] (λi wr=>∃ k:Nat,k<=m/\i = .int .i64 k/\Box (Sep [Pc.row w2.heap.size 9 1 (.slice (some ⟨g2,0,none⟩) m cap2) m ((uP F.trim P k).map jK),Pc.old w2.heap.size w2] wr)) (λi _=>m-(intOf i).toNat)
 case atStart=>exact⟨0,by omega,rfl,aQ⟩
 case round =>
  obtain⟨k,hk,rfl,hse⟩:=hrel;have aP:=bx (hse.o.bel (n:=w2.heap.size) (W0:=w2) (by simp));clear aQ;obtain⟨g',cap',cur,e1,s1,s2,s3,hbk,hcur⟩:=OG (hse.o.row 0 rfl) (by omega);obtain⟨rfl,rfl⟩:g2=g'/\cap2=cap':=by injection e1 with e1 e2 e3;injection e1 with e1;injection e1 with e1;exact⟨e1,e3⟩
  by_cases hlt:k<m
  ·obtain⟨x,hx⟩:∃ x,P[k]?=some x:=⟨_,List.getElem?_eq_getElem (by have:=HM.o;omega)⟩
   have hck:=(hbk.cell k).trans (hcur k (.string (bs x)) (by rw [List.getElem?_map,ak6,hx];rfl));have hfk:=hbk.frozen k;have hlk:=hbk.lt;have IK:=bx (λW=>Gz x W (by have:=eY.o x (List.mem_of_getElem? hx);omega));have jJ:=bx (show Sep [Pc.row w2.heap.size 9 1 (.slice (some ⟨g2,0,none⟩) m cap2) m ((uP F.trim P (k+1)).map jK),Pc.old w2.heap.size w2] (wr.setCell ⟨g2,k,none⟩ (.string (bs (F.trim x)))) by
    have h8:=hse.o.setRow' 0 rfl (g:=g2) rfl k hlt (.string (bs (F.trim x)));have e8:((uP F.trim P k).map jK).set k (.string (bs (F.trim x)))=(uP F.trim P (k+1)).map jK:=by
     rw [<- aeM F.trim P k hx,List.map_set]
     rfl
    rw [e8] at h8;exact h8)
   clear hx hcur hbk e1;go_wp2_with fail;refine(IK.o _).mono ?_;rintro e w4 ⟨rfl,rfl⟩;go_wp2_with fail
   go_roundw
   case rel=>exact⟨k+1,hlt,by go_num,jJ⟩
   case measure=>simp [intOf];omega
  ·obtain rfl:k=m:=by omega
   have HQ:=bx (show uP F.trim P k=P.map F.trim by rw [<- HM.o];exact anf F.trim P);obtain⟨y,Q,Ez⟩:∃ y Q,P.map F.trim=y::Q:=by
    cases hq:P.map F.trim with
    | nil=>have:=congrArg List.length hq;rw [List.length_map,HM.o] at this;simp at this;omega
    | cons y Q=>exact⟨y,Q,rfl⟩
   have RD:Q.length+1=k:=by have:=congrArg List.length Ez;rw [List.length_map,HM.o,List.length_cons] at this;omega
   have hck:=(hbk.cell 0).trans (hcur 0 (.string (bs y)) (by rw [HQ.o,Ez];rfl));have hlk:=hbk.lt;have hyl:y.length<=20000:=by
    have hy:y∈P.map F.trim:=by rw [Ez];exact List.mem_cons_self ..
    obtain⟨z,hz1,rfl⟩:=List.mem_map.1 hy;have:=eY.o z hz1;have:=F.Jk z;omega
   have CX:=adB.o;rw [Ez,List.headD_cons] at CX;have mF:=bx (λW=>amH y a b W (by omega) CX);have zV:=bx (show fs=Q by rw [cu.o,Ez];rfl);have pF:=bx (show wr.ownsRow w2.heap.size 9 1 (.slice (some ⟨g2,0,none⟩) k cap2) k ((y::Q).map jK) by
    have:=hse.o.row 0 rfl
    rwa [HQ.o,Ez] at this)
   have hkb:=mJ.o.below aP.o mJ.o.lt;have k0:=(hkb.cell 0).trans (show _=some (Value.int .i64 0) from rfl);have k1:=(hkb.cell 1).trans (show _=some (Value.int .i64 0) from rfl);have k2:=(hkb.cell 2).trans (show _=some (Value.int .i64 0) from rfl);have k3:=(hkb.cell 3).trans (show _=some (Value.slice none 0 0) from rfl);have f0:=hkb.frozen 0;have f1:=hkb.frozen 1;have f2:=hkb.frozen 2;have f3:=hkb.frozen 3;have kl:=hkb.lt;have HKB:=bx hkb;have oK:=bx (bt HB2.o aP.o);clear hcur hbk e1 Ez CX hkb hlt;go_wp2_with fail;refine(mF.o _).mono ?_;rintro e w4 ⟨rfl,rfl⟩;go_wp2_with fail;have hT:Turns (λq=>q=w.heap.size) wr ((((wr.setCell ⟨w.heap.size,0,none⟩ (.int .i64 0)).setCell ⟨w.heap.size,1,none⟩ (.int .i64 a)).setCell ⟨w.heap.size,2,none⟩ (.int .i64 b)).setCell ⟨w.heap.size,3,none⟩ (.slice (some ⟨g2,1,none⟩) (k-1) (cap2-1))) :=
    (((Turns.setCell (own:=λq=>q=w.heap.size) wr (p:=⟨w.heap.size,0,none⟩) rfl _).trans (Turns.setCell (own:=λq=>q=w.heap.size) _ (p:=⟨w.heap.size,1,none⟩) rfl _)).trans (Turns.setCell (own:=λq=>q=w.heap.size) _ (p:=⟨w.heap.size,2,none⟩) rfl _)).trans (Turns.setCell (own:=λq=>q=w.heap.size) _ (p:=⟨w.heap.size,3,none⟩) rfl _)
   have hkl2:=mJ.o.lt;have hrow:=hT.row pF.o (λq hq=>by simp [Value.ownBlock] at hq;omega);have aaP:=ig.gK hrow (by rw [List.length_map,List.length_cons];omega);have hlen:((y::Q).map jK).length=k:=by rw [List.length_map,List.length_cons];omega
   rw [<- hlen] at aaP;have hdrop:=ig.drop aaP 1 (by omega);rw [hlen] at hdrop;have hstr:dI ((((wr.setCell ⟨w.heap.size,0,none⟩ (.int .i64 0)).setCell ⟨w.heap.size,1,none⟩ (.int .i64 a)).setCell ⟨w.heap.size,2,none⟩ (.int .i64 b)).setCell ⟨w.heap.size,3,none⟩ (.slice (some ⟨g2,1,none⟩) (k-1) (cap2-1))) (.slice (some ⟨g2,1,none⟩) (k-1) (cap2-1)) fs:=by
    rw [zV.o];exact hdrop
   exact bodyPost_ret (v:=.tuple #[.agg #[.int .i64 0, .int .i64 a, .int .i64 b, .slice (some ⟨g2,1,none⟩) (k-1) (cap2-1)], .bool true, .int .i64 0]) (NI Tryz.results161 _ _ w.heap.size 172 #[.int .i64 0, .int .i64 a, .int .i64 b, .slice (some ⟨g2,1,none⟩) (k-1) (cap2-1)] (0,0) _ rfl ((((HKB.o.dh 0 (.int .i64 0)).dh 1 (.int .i64 a)).dh 2 (.int .i64 b)).dh 3 (.slice (some ⟨g2,1,none⟩) (k-1) (cap2-1))) Tryz.underlying172 rfl recInfo) rfl
    ⟨⟨_,rfl,hstr,λq hq=>by have h9:=hrow.lt g2 rfl;have h8:=HB2.o.size;simp [Value.ownBlock] at hq;omega⟩,(((oK.o.setCell (Nat.le_refl _) _).setCell (Nat.le_refl _) _).setCell (Nat.le_refl _) _).setCell (Nat.le_refl _) _⟩
structure BH (α:Type) where
 at':World->α->Prop
 val:α->Value
 same:∀ {a:α} {W W':World},at' W a->W.heap.size<=W'.heap.size->(∀ g,(val a).ownBlock=some g->W'.heap[g]?=W.heap[g]?)->at' W' a
 lt:∀ {a:α} {W:World} {g:Nat},at' W a->(val a).ownBlock=some g->g<W.heap.size
def Pc.lF {α:Type} (b:BH α) (L:List α):Pc where
 fp k:=∃ y∈L,(b.val y).ownBlock=some k
 ok W:=∀ y∈L,b.at' W y
 keep:=λ{_ _ _} h ht ho y hy=>b.same (h y hy) ht.size (λg hg=>ht.block g (b.lt (h y hy) hg) (ho g ⟨y,hy,hg⟩))
 lt:=λ{_ _} h ⟨y,hy,hg⟩=>b.lt (h y hy) hg
theorem Sep.lF {α:Type} {b:BH α} {L:List α} {ps:List Pc} {W:World} (h:Sep ps W) (i:Nat) (hi:ps[i]?=some (Pc.lF b L)):∀ y∈L,b.at' W y:=h.at' i hi
theorem Sep.Y2 {α:Type} {ps:List Pc} {W:World} (h:Sep ps W) (b:BH α):Sep (Pc.lF b []::ps) W :=
 ⟨λ_ hy=>absurd hy List.not_mem_nil,λ_ _ _ ⟨_,hy,_⟩=>absurd hy List.not_mem_nil,h⟩
theorem Sep.Gl {α:Type} {b:BH α} {y:α} {ps:List Pc} {W W':World} (h:Sep ps W) (hb:Below W.heap.size W W') (hy:b.at' W' y) (hn:∀ g,(b.val y).ownBlock=some g->W.heap.size<=g):Sep (Pc.lF b [y]::ps) W' :=
 h.add hb (λz hz=>by rw [List.mem_singleton.1 hz];exact hy) (λk ⟨z,hz,hg⟩=>by rw [List.mem_singleton.1 hz] at hg;exact hn k hg)
theorem Sep.aau {α:Type} {b:BH α} {y:α} {L:List α} {ps:List Pc} {W:World} (h:Sep (Pc.lF b [y]::ps) W) (i:Nat) (hi:ps[i]?=some (Pc.lF b L)):Sep (ps.set i (Pc.lF b (L++[y]))) W :=
 h.join i hi (λz hz=>by
  rcases List.mem_append.1 hz with e | e
  ·exact h.tail.lF i hi z e
  ·exact h.head z e) (λk ⟨z,hz,hg⟩=>by
  rcases List.mem_append.1 hz with e | e
  ·exact .inr ⟨z,e,hg⟩
  ·exact .inl ⟨z,e,hg⟩)
theorem amT {W W':World} {v:Value} {xs:List Value} (h:ig W v xs) (hs:W.heap.size<=W'.heap.size) (hg:∀ g,v.ownBlock=some g->W'.heap[g]?=W.heap[g]?):ig W' v xs:=by
 rcases h with h | ⟨b,off,sp,cap,h1,h2,h3,h4⟩
 ·exact .inl h
 ·refine .inr ⟨b,off,sp,cap,h1,h2,h3,λhn=>?_⟩;obtain⟨k1,k2,k3⟩:=h4 hn;have hb:=hg b (by rw [h1];rfl);exact⟨k1,Nat.lt_of_lt_of_le k2 hs,λi x hx=>(World.cell?_of_block hb).trans (k3 i x hx)⟩
def recC (y:F.Rec×Value):List Value:=[.int .i64 y.1.1, .int .i64 y.1.2.1, .int .i64 y.1.2.2.1,y.2]
def Ht:BH (F.Rec×Value) where
 at' W y:=dI W y.2 y.1.2.2.2/\∀ g,y.2.ownBlock=some g->g<W.heap.size
 val y:=y.2
 same:=λ{_ _ _} h hs hg=>⟨amT h.1 hs hg,λg hg'=>Nat.lt_of_lt_of_le (h.2 g hg') hs⟩
 lt:=λ{_ _ _} h hg=>h.2 _ hg
def wY (w:World) (v:Value) (rs:List F.Rec):Prop:=∃ L:List (F.Rec×Value),L.map (·.1)=rs/\rF 4 w v (L.map recC)/\∀ y∈L,dI w y.2 y.1.2.2.2
theorem wY.below {w w':World} {v:Value} {rs:List F.Rec} (h:wY w v rs) (hb:Below w.heap.size w w'):wY w' v rs:=by
 obtain⟨L,h1,h2,h3⟩:=h;exact⟨L,h1,h2.below hb,λy hy=>(h3 y hy).below hb⟩
theorem wY.slice {w:World} {v:Value} {rs:List F.Rec} (h:wY w v rs):∃ a cap,v = .slice a rs.length cap/\rs.length<=cap/\cap<=9223372036854775807:=by
 obtain⟨L,h1,h2,h3⟩:=h;have:=h2.slice
 rwa [List.length_map,<- List.length_map (f:=(·.1)),h1] at this
theorem YB {α β:Type} (f:α->List β) (L:List α):L.flatMap f=(L.map f).flatten:=by induction L with | nil=>rfl | cons x t ih=>simp [List.flatMap_cons,ih]
theorem wY.gK {w:World} {base n:Nat} {T:TypeId} {v:Value} {L:List (F.Rec×Value)} (h:w.ownsRow base T 4 v n (L.flatMap recC)) (hn:n=L.length) (hL:∀ y∈L,dI w y.2 y.1.2.2.2):wY w v (L.map (·.1)):=by
 rw [YB] at h;exact⟨L,rfl,rF.gK h (by rw [List.length_map];exact hn) (λc hc=>by obtain⟨y,-,rfl⟩:=List.mem_map.1 hc;rfl),hL⟩
theorem wY.get {w:World} {v:Value} {rs:List F.Rec} (h:wY w v rs) (hn:rs≠[]) :
  ∃ b off cap,v = .slice (some ⟨b,off,none⟩) rs.length cap/\rs.length<=cap/\cap<=maxLen/\b<w.heap.size/\∀ i r,rs[i]?=some r->w.cell? ⟨b,off+i*4,none⟩=some (.int .i64 r.1)/\w.cell? ⟨b,off+i*4+1,none⟩=some (.int .i64 r.2.1)/\w.cell? ⟨b,off+i*4+2,none⟩=some (.int .i64 r.2.2.1)/\∃ f,w.cell? ⟨b,off+i*4+3,none⟩=some f/\dI w f r.2.2.2:=by
 obtain⟨L,rfl,h2,h3⟩:=h;obtain⟨b,off,cap,k1,k2,k3,k4,k5⟩:=h2.get (by intro e;apply hn;rw [List.map_eq_nil_iff] at e ⊢;exact e);rw [List.length_map] at k1 k2;rw [List.length_map] at ⊢;refine⟨b,off,cap,k1,k2,k3,k4,λi r hr=>?_⟩;rw [List.getElem?_map] at hr
 cases hy:L[i]? with
 | none=>rw [hy] at hr;cases hr
 | some y =>
  rw [hy] at hr
  cases hr;have hc:(L.map recC)[i]?=some (recC y):=by rw [List.getElem?_map,hy];rfl
  exact⟨k5 i _ hc 0 _ rfl,k5 i _ hc 1 _ rfl,k5 i _ hc 2 _ rfl,y.2,k5 i _ hc 3 _ rfl,h3 y (List.mem_of_getElem? hy)⟩
theorem alY:vH Tryz.prog 168 172 4 48:=.mk' (z:=.agg #[.int .i64 0, .int .i64 0, .int .i64 0, .slice none 0 0]) Tryz.underlying168 (by kernel_rfl) rfl
theorem Sep.frame {ps:List Pc} {w w':World} (h:Sep ps w):∀ {qs:List Pc},Sep (qs++[Pc.old w.heap.size w]) w'->Sep (qs++ps) w'
 | [],hq=>h.below (hq.bel (n:=w.heap.size) (W0:=w) (by simp))
 | q::qs,hq=>by
  obtain⟨h1,h2,h3⟩:=hq;refine⟨h1,λp hp k hk=>?_,Sep.frame h h3⟩
  rcases List.mem_append.1 hp with h4 | h4
  ·exact h2 p (List.mem_append_left _ h4) k hk
  ·intro h5;have h6:=h2 (Pc.old w.heap.size w) (by simp) k hk;exact h6 (h.lt h4 h5)
theorem Sep.aeo {qs:List Pc} {w0 w w':World} {n:Nat} (h:Sep (qs++[Pc.old w.heap.size w]) w') (hn:n<=w.heap.size) (hb:Below n w0 w):Sep (qs++[Pc.old n w0]) w' :=
 Sep.frame (ps:=[Pc.old n w0]) ⟨⟨hn,hb⟩,λ_ hp=>absurd hp List.not_mem_nil,trivial⟩ h
theorem afp (l:List UInt8) (rs:List F.Rec) (w:World) (hok:F.parse l=some rs) :
  Calls Tryz.prog 109 #[.string (bs l)] w λe w'=>∃ v L,e = .returned (.tuple #[v, .int .i64 0, .int .i64 0])/\L.map (·.1)=rs/\Sep [Pc.row w.heap.size 172 4 v L.length (L.flatMap recC),Pc.lF Ht L,Pc.old w.heap.size w] w':=by
 unfold F.parse at hok
 split at hok
 rotate_left
 ·cases hok
 rename_i hz
 obtain⟨S,hS⟩:∃ S,(bs l).size=S:=⟨_,rfl⟩
 have hSz:S<=20000:=by rw [<- hS,eU];exact hz
 have pJ:=bx (show Calls Tryz.prog 113 #[.string (bs l), .int .u8 10] w λe w'=>(∃ v,e = .returned v/\dI w' v (F.split 10 l))/\Below w.heap.size w w' from LP l 10 w (by omega));obtain⟨P,hP⟩:∃ P,F.split 10 l=P:=⟨_,rfl⟩
 have eY:=bx (show ∀ x∈P,x.length<=20000 from λx hx=>by have:=F.O1 10 l x (by rw [hP];exact hx);omega);rw [hP] at pJ hok;obtain⟨m,hm⟩:∃ m,P.length=m:=⟨_,rfl⟩
 have hmz:m<=20001:=by rw [<- hm,<- hP];have:=F.Vh 10 l;omega
 rw [hm] at hok;have mV:=bx hok;have HM:=bx hm;have hm0:P≠[]:=by rw [<- hP];exact F.Yi 10 l
 have yI:=bx hm0;clear hok hP hz hm hm0
 go_enter Tryz.func109,Tryz.ntmps109
 go_wp2_with fail;refine pJ.o.mono ?_;rintro e w1 ⟨⟨v,rfl,hv⟩,hb1⟩;have HV:=bx hv;have HB1:=bx hb1;obtain⟨g,off,cap,rfl,q2,q3,q4,-⟩:=hv.get yI.o;rw [HM.o] at q2 HV ⊢;have aQ:=bx (((Sep.start w1).Y2 Ht).iW w1.heap.size 4 172);unfold maxLen at q3;clear hv hb1;go_wp2_with fail
 go_loopw [7,5] (λi o wr=>∃ (k:Nat) (L:List (F.Rec×Value)) (oo:Option Addr) (oc:Nat),k<=m/\i = .int .i64 k/\o = .slice oo L.length oc/\L.length<=300/\Box (F.qY P k=some (L.map (·.1)))/\Box (Sep [Pc.row w1.heap.size 172 4 (.slice oo L.length oc) L.length (L.flatMap recC),Pc.lF Ht L,Pc.old w1.heap.size w1] wr)) (λi _ _=>m-(intOf i).toNat)
 case atStart=>exact⟨0,[],none,0,by omega,rfl,rfl,by simp,⟨rfl⟩,aQ⟩
 case round =>
  obtain⟨k,L,oo,oc,hk,rfl,rfl,hLl,hpt,hse⟩:=hrel;have aP:=bx (hse.o.bel (n:=w1.heap.size) (W0:=w1) (by simp));clear aQ
  by_cases hlt:k<m
  ·obtain⟨s,hs⟩:∃ s,P[k]?=some s:=⟨_,List.getElem?_eq_getElem (by have:=HM.o;omega)⟩
   obtain⟨g',off',cap',e1,-,-,-,h5⟩:=(HV.o.below aP.o).get yI.o;rw [HM.o] at e1;obtain⟨rfl,rfl,rfl⟩:g=g'/\off=off'/\cap=cap':=by injection e1 with e1 e2 e3;injection e1 with e1;injection e1 with e1 e4 e5;exact⟨e1,e4,e3⟩
   have hck:=h5 k s hs;have hsl:s.length<=20000:=eY.o s (List.mem_of_getElem? hs);have Lh:=bx (show P.getD k []=s by rw [List.getD_eq_getElem?_getD,hs];rfl);obtain⟨nx,hnx⟩:=F.ZN (k:=k+1) (by omega) mV.o;have hstep:=hnx;unfold F.qY at hstep;rw [hpt.o,Lh.o] at hstep;simp only at hstep;clear hs e1 h5
   cases hlm:F.Bq s with
   | none=>rw [hlm] at hstep;cases hstep
   | some r =>
    rw [hlm] at hstep
    cases r with
    | none =>
     simp only [Option.some.injEq] at hstep;have jH:=bx (ala s wr hsl hlm);have qH:=bx (show F.qY P (k+1)=some (L.map (·.1)) by rw [hnx,hstep]);clear hlm hnx hstep;go_wp2_with fail;refine jH.o.mono ?_;rintro e w2 ⟨rfl,hb2⟩;have HS2:=bx ((hse.o.below hb2).alloc (.cells #[.int .i64 0, .int .i64 0, .int .i64 0, .slice none 0 0] 172));clear hb2;go_wp2_with fail
     go_roundw
     case rel=>exact⟨k+1,L,oo,oc,hlt,by go_num,rfl,hLl,qH,HS2⟩
     case measure=>simp [intOf];omega
    | some r =>
     obtain⟨a,b,fs⟩:=r;simp only at hstep
     split at hstep
     ·cases hstep
     rename_i abT
     simp only [Option.some.injEq] at hstep;have Du:=bx (ahM s a b fs wr hsl hlm);have qH:=bx (show F.qY P (k+1)=some (L.map (·.1)++[(k+1,a,b,fs)]) by rw [hnx,hstep]);have aog:L.length<300:=by rw [List.length_map] at abT;omega
     have e300:((L.length:Int)==300)=false:=by rw [beq_eq_false_iff_ne];omega
     clear hlm hnx hstep abT;go_wp2_with fail;refine Du.o.mono ?_;rintro e w2 ⟨⟨fv,rfl,hst,hfr⟩,hb2⟩;obtain⟨fo,fc,rfl,fl1,fl2⟩:=hst.slice;have hS2:=hse.o.Gl (b:=Ht) (y:=((k+1,a,b,fs), .slice fo fs.length fc)) hb2 ⟨hst,λq hq=>(hfr q hq).2⟩ (λq hq=>(hfr q hq).1);have aC:=bx (hS2.alloc (.cells #[.int .i64 ((k:Int)+1), .int .i64 a, .int .i64 b, .slice fo fs.length fc] 172));have aU:=bx (show (w2.alloc (.cells #[.int .i64 ((k:Int)+1), .int .i64 a, .int .i64 b, .slice fo fs.length fc] 172)).heap.size=w2.heap.size+1 by simp);have hbs:=(aC.o.bel (n:=w1.heap.size) (W0:=w1) (by simp)).size;clear hst hfr hb2 hS2;go_wp2_with (at_builtin;refine AQ (cs:=recC ((k+1,a,b,fs), .slice fo fs.length fc)) rfl _ _ 168 rfl alY (by decide) aC.o 1 rfl rfl (by rw [aU.o];rfl) rfl (by intro u hu;simp only [recC,List.mem_cons,List.not_mem_nil,or_false] at hu;rcases hu with rfl | rfl | rfl | rfl <;> rfl) (by omega) (by omega) hbs ?_;rintro v' w6 hS6 ⟨go',gc',rfl,-,-⟩)
     have aW:=bx (show Sep [Pc.row w1.heap.size 172 4 (.slice (some ⟨go',0,none⟩) (L++[((k+1,a,b,fs),Value.slice fo fs.length fc)]).length gc') (L++[((k+1,a,b,fs),Value.slice fo fs.length fc)]).length ((L++[((k+1,a,b,fs),Value.slice fo fs.length fc)]).flatMap recC),Pc.lF Ht (L++[((k+1,a,b,fs),Value.slice fo fs.length fc)]),Pc.old w1.heap.size w1] w6 by
      have h8:=Sep.aau (ps:=[Pc.row w1.heap.size 172 4 (.slice (some ⟨go',0,none⟩) (L.length+1) gc') (L.length+1) (L.flatMap recC++recC ((k+1,a,b,fs), .slice fo fs.length fc)),Pc.lF Ht L,Pc.old w1.heap.size w1]) hS6 1 rfl;rw [List.length_append,List.flatMap_append,List.flatMap_singleton];exact h8)
     clear hS6;go_wp2_with fail
     go_roundw
     case rel=>exact⟨k+1,L++[((k+1,a,b,fs),Value.slice fo fs.length fc)],some ⟨go',0,none⟩,gc',hlt,by go_num,by rw [List.length_append];rfl,by rw [List.length_append];simp;omega,⟨by rw [qH.o,List.map_append];rfl⟩,aW⟩
     case measure=>simp [intOf];omega
  ·obtain rfl:k=m:=by omega
   have HL:=bx (show L.map (·.1)=rs by
    have h1:=hpt.o.symm.trans mV.o
    simpa only [Option.some.injEq] using h1)
   have Hg:=bx (Sep.aeo (qs:=[_,_]) hse.o HB1.o.size HB1.o);have GU:=bx HB1.o.size;go_wp2_with fail
   go_ret3
   exact⟨_,L,rfl,HL.o,Hg.o.as 0 (p':=Pc.row w.heap.size 172 4 (.slice oo L.length oc) L.length (L.flatMap recC)) rfl (λhr=>own_base hr GU.o) (λ_ hk=>hk)⟩
theorem aft (l:List UInt8) (rs:List F.Rec) (w:World) (hok:F.parse l=some rs) :
  Calls Tryz.prog 109 #[.string (bs l)] w λe w'=>(∃ v,e = .returned (.tuple #[v, .int .i64 0, .int .i64 0])/\wY w' v rs)/\Below w.heap.size w w' :=
 (afp l rs w hok).mono λ_ _ ⟨v,L,h1,h2,h3⟩ =>
  ⟨⟨v,h1,h2▸wY.gK (h3.row 0 rfl) rfl (λy hy=>(h3.lF 1 rfl y hy).1)⟩,h3.bel (n:=w.heap.size) (W0:=w) (by simp)⟩
theorem alG (c:UInt8) (w:World):Calls Tryz.prog 160 #[.int .u8 (U.ak c)] w λe w'=>e = .returned (.bool (F.letter c))/\w=w':=by
 have h0:=U.jm c;have h1:=U.jG c;unfold F.letter;generalize U.ak c=x at *;simp only
 go_enter Tryz.func160,Tryz.ntmps160
 go_wp2_with fail
 all_goals go_returns
 all_goals exact⟨aI (by first | rfl | (rw [Bool.eq_iff_iff];simp;done) | (rw [Bool.eq_iff_iff];simp;omega)),rfl⟩
def Jp (o:Option Nat):Value:=match o with
 | some i=>.tuple #[.int .i64 i, .bool true]
 | none=>.tuple #[.int .i64 0, .bool false]
theorem ajj {names:List (List UInt8)} {x:List UInt8} (h:∀ (i:Nat) (y:List UInt8),names[i]?=some y->y≠x):F.valueOf names x=none:=by
 unfold F.valueOf;rw [List.findIdx?_eq_none_iff];intro y hy;obtain⟨i,hi,e⟩:=List.getElem_of_mem hy;have:=h i y (by rw [List.getElem?_eq_getElem hi,e])
 simpa using this
theorem ajZ {names:List (List UInt8)} {x:List UInt8} {k:Nat} (hk:names[k]?=some x) (h:∀ (i:Nat) (y:List UInt8),i<k->names[i]?=some y->y≠x):F.valueOf names x=some k:=by
 unfold F.valueOf;have hkl:=(List.getElem?_eq_some_iff.1 hk).1;rw [List.findIdx?_eq_some_iff_getElem];refine⟨hkl,?_,λj hj=>?_⟩
 ·have:=(List.getElem?_eq_some_iff.1 hk).2;simp [this]
 ·have:=h j names[j] hj (List.getElem?_eq_getElem (by omega))
  simpa using this
theorem PU (v:Value) (names:List (List UInt8)) (x:List UInt8) (w:World) (hv:dI w v names) (hz:names.length<=100000) :
  Calls Tryz.prog 110 #[v, .string (bs x)] w λe w'=>e = .returned (Jp (F.valueOf names x))/\w=w':=by
 have HV:=bx hv;obtain⟨a,cap,rfl,hc1,hc2⟩:=hv.slice;clear hv
 go_enter Tryz.func110,Tryz.ntmps110
 go_wp2_with fail
 go_loop [6] (λi=>∃ k:Nat,k<=names.length/\i = .int .i64 k/\Box (∀ (j:Nat) (y:List UInt8),j<k->names[j]?=some y->y≠x)) (λi=>names.length-(intOf i).toNat)
 case atStart=>exact⟨0,by omega,rfl,⟨λj y h=>by omega⟩⟩
 case round =>
  obtain⟨k,hk,rfl,hno⟩:=hrel
  by_cases hlt:k<names.length
  ·obtain⟨y,hy⟩:∃ y,names[k]?=some y:=⟨_,List.getElem?_eq_getElem hlt⟩
   obtain⟨g,off,cap2,hg1,hg2,hg3,hg4,hg5⟩:=HV.o.get (by rintro rfl;simp at hlt);obtain⟨rfl,rfl⟩:a=some ⟨g,off,none⟩/\cap=cap2:=by injection hg1 with h1 h2 h3;exact⟨h1,h3⟩
   have hck:=hg5 k y hy;have HY:=bx hy;clear hy hg1 hg3 hg5
   by_cases hyx:y=x
   ·subst hyx;have HN:=bx (ajZ HY.o hno.o);have e1:((bs y).toList==(bs y).toList)=true:=by simp
    go_wp2_with fail;go_ret2
    exact⟨by rw [HN.o];rfl,rfl⟩
   ·have e1:((bs y).toList==(bs x).toList)=false:=by rw [yR,yR,beq_eq_false_iff_ne];exact hyx
    have e2:¬ (bs y).toList=(bs x).toList:=by rw [yR,yR];exact hyx
    have HN:=bx (show ∀ (j:Nat) (z:List UInt8),j<k+1->names[j]?=some z->z≠x from λj z hj hz=>by
     rcases Nat.lt_or_ge j k with h1 | h1
     ·exact hno.o j z h1 hz
     ·obtain rfl:j=k:=by omega
      rw [HY.o] at hz
      cases hz;exact hyx)
    clear hyx;go_wp2_with fail
    go_round
    case rel=>exact⟨k+1,hlt,by go_num,HN⟩
    case measure=>simp [intOf];omega
  ·have HN:=bx (ajj (names:=names) (x:=x) (λi y hi=>hno.o i y (by have:=(List.getElem?_eq_some_iff.1 hi).1;omega) hi));go_wp2_with fail;go_ret2
   exact⟨by rw [HN.o];rfl,rfl⟩
theorem dI.take {w:World} {a:Option Addr} {cap:Nat} {xs:List (List UInt8)} (h:dI w (.slice a xs.length cap) xs) (n cap':Nat) (hc:(xs.take n).length<=cap') (hc':cap'<=cap):dI w (.slice a (xs.take n).length cap') (xs.take n):=by
 have:=ig.take (xs:=xs.map jK) (by rw [List.length_map];exact h) n cap' (by rw [<- List.map_take,List.length_map];exact hc) hc';rw [<- List.map_take,List.length_map] at this;exact this
theorem OQ (v:Value) (names:List (List UInt8)) (w:World) (hv:dI w v names) (hok:F.vF names=true) :
  Calls Tryz.prog 108 #[v] w λe w'=>e = .returned (.bool true)/\∃ n,w'=w.drewN n:=by
 unfold F.vF at hok;simp only [Bool.and_eq_true,decide_eq_true_eq,List.all_eq_true] at hok;obtain⟨⟨hall,hn1⟩,hn2⟩:=hok;have qX:=bx hall;have HV:=bx hv;obtain⟨a,cap,rfl,hc1,hc2⟩:=hv.slice;clear hv hall
 go_enter Tryz.func108,Tryz.ntmps108
 go_wp2_with fail
 go_loopw [3] (λi wr=>∃ k:Nat,k<=names.length/\i = .int .i64 k/\∃ n,wr=w.drewN n) (λi _=>names.length-(intOf i).toNat)
 case atStart=>exact⟨0,by omega,rfl,0,rfl⟩
 case round =>
  obtain⟨k,hk,rfl,nd,rfl⟩:=hrel
  by_cases hlt:k<names.length
  ·have hko:=qX.o k (List.mem_range.2 hlt);obtain⟨x,hx⟩:∃ x,names[k]?=some x:=⟨_,List.getElem?_eq_getElem hlt⟩
   have hgd:names.getD k []=x:=by rw [List.getD_eq_getElem?_getD,hx];rfl
   unfold F.Za at hko;rw [hgd] at hko;simp only [Bool.and_eq_true,decide_eq_true_eq,List.all_eq_true,Option.isNone_iff_eq_none] at hko;obtain⟨⟨⟨k1,k2⟩,k3⟩,k4⟩:=hko;have afZ:=bx k1;have HVN:=bx k2;have HDR:=bx (λm=>jW w m);obtain⟨g,off,cap2,hg1,hg2,hg3,hg4,hg5⟩:=(HV.o.below (HDR.o nd)).get (by rintro rfl;simp at hlt);obtain⟨rfl,rfl⟩:a=some ⟨g,off,none⟩/\cap=cap2:=by injection hg1 with h1 h2 h3;exact⟨h1,h3⟩
   have hck:=hg5 k x hx;obtain⟨S,hS⟩:∃ S,(bs x).size=S:=⟨_,rfl⟩
   have H8:=bx (show S=x.length by rw [<- hS];exact eU x);have aoG:S<=40:=by rw [H8.o];exact k4
   have hemp:=Ap k3;have wO:=bx (λm=>PU (.slice (some ⟨g,off,none⟩) (names.take k).length cap) (names.take k) x (w.drewN m) ((HV.o.below (HDR.o m)).take k cap (by rw [List.length_take];omega) (Nat.le_refl _)) (by rw [List.length_take];omega));rw [show (names.take k).length=k by rw [List.length_take];omega,HVN.o] at wO;unfold Jp at wO;simp only at wO;have hcap:k<=cap:=by omega
   have aoB:=bx (show ∀ W,(Instr.slice 48 (.slice (some ⟨g,off,none⟩) names.length cap) none (some (.int .i64 (k:Int))) none).run Tryz.prog W = .ok (.slice (some ⟨g,off,none⟩) k cap) W by
    intro W;go_simp)
   clear hx hgd k1 k2 k3 k4 hg1 hg3 hg5;go_wp2_with fail
   go_loopw [4] (λj wr=>∃ i:Nat,i<=S/\j = .int .i64 i/\wr=w.drewN nd) (λj _=>S-(intOf j).toNat)
   case atStart=>exact⟨0,by omega,rfl,rfl⟩
   case round =>
    obtain⟨i,hi,rfl,rfl⟩:=hrel
    by_cases hil:i<S
    ·obtain⟨d,hd⟩:∃ d,x[i]?=some d:=⟨_,List.getElem?_eq_getElem (by rw [<- H8.o];exact hil)⟩
     have hix:=yC (P:=Tryz.prog) Tryz.underlying9 i hd i rfl;have HLD:=bx (afZ.o d (List.mem_of_getElem? hd));clear hd;go_wp2_with fail;refine(alG d _).mono ?_;rintro e w1 ⟨rfl,rfl⟩;rw [HLD.o];go_wp2_with fail
     go_roundw
     case rel=>exact⟨i+1,hil,by go_num,trivial⟩
     case measure=>simp [intOf];omega
    ·go_wp2_with fail;have aA:=bx (show (w.drewN nd).drew.cell? ⟨g,off+k,none⟩=some (.string (bs x)) from hck);refine fP 12 (λW=>W.cell? ⟨g,off+k,none⟩=some (.string (bs x))) (by kernel_rfl) ?_;refine kS 0 ?_ rfl aA.o ?_ ?_;rotate_left
     ·intro w q1;go_simp;try with_reducible rfl
     refine kS 1 ?_ rfl aA.o ?_ ?_;rotate_left
     ·intro w q1;go_simp;try with_reducible rfl
     refine kS 2 ?_ rfl aA.o ?_ ?_;rotate_left
     ·intro w q1;go_simp;try with_reducible rfl
     refine kS 3 ?_ rfl aA.o ?_ ?_;rotate_left
     ·intro w q1;go_simp;try with_reducible rfl
     refine kS 4 ?_ rfl aA.o ?_ ?_;rotate_left
     ·intro w q1;go_simp;try with_reducible rfl
     refine kS 5 ?_ rfl aA.o ?_ ?_;rotate_left
     ·intro w q1;go_simp;try with_reducible rfl
     refine kS 6 ?_ rfl aA.o ?_ ?_;rotate_left
     ·intro w q1;go_simp;try with_reducible rfl
     refine kP 7 rfl λKK ah=>?_
     go_simp;go_wp2_with (go_at_call 110;refine(wO.o (nd+1)).mono ?_;rintro e w4 ⟨rfl,rfl⟩)
     refine ah.out _ _ (λ_=>aA.o) ?_;clear ah KK;refine kS 8 ?_ rfl aA.o ?_ ?_;rotate_left
     ·intro w q1;go_simp;try with_reducible rfl
     refine kS 9 ?_ rfl aA.o ?_ ?_;rotate_left
     ·intro w q1;go_simp;try with_reducible rfl
     refine kS 10 ?_ rfl aA.o ?_ ?_;rotate_left
     ·intro w q1;go_simp;try with_reducible rfl
     refine kP 11 rfl λKK ah=>?_
     go_simp;refine ah.out _ _ (λ_=>aA.o) ?_;clear ah KK;refine kP 12 rfl λKK ah=>?_
     go_simp;refine ah.out _ _ (λh=>by cases h) ?_;clear ah KK;refine kD ?_ _;have aoL:(w.drewN (nd+1)).cell? ⟨g,off+k,none⟩=some (.string (bs x)):=hck;go_wp2_with fail
     go_roundw
     case rel=>exact⟨k+1,hlt,by go_num,nd+1,rfl⟩
     case measure=>simp [intOf];omega
  ·go_wp2_with fail;go_ret
   exact⟨aI (decide_eq_true (by omega)),nd,rfl⟩
end
namespace N
theorem KZ (p:Int->Bool):∀ (t:List Int) (j:Nat),(∀ x,x<j->∃ c,t[x]?=some c/\p c=true)↔j<=(t.takeWhile p).length
 | [],j=>by
  simp only [List.takeWhile_nil,List.length_nil]
  constructor
  ·intro h
   rcases Nat.eq_zero_or_pos j with h0 | h0
   ·omega
   ·obtain⟨c,hc,-⟩:=h 0 h0;simp at hc
  ·intro h x hx;omega
 | c::t,j=>by
  cases j with
  | zero=>exact⟨λ_=>Nat.zero_le _,λ_ x hx=>by omega⟩
  | succ j =>
   by_cases hc:p c=true
   ·rw [List.takeWhile_cons_of_pos hc,List.length_cons];have ih:=KZ p t j
    constructor
    ·intro h;have:=ih.1 λx hx=>by
      obtain⟨d,h1,h2⟩:=h (x+1) (by omega);exact⟨d,by simpa using h1,h2⟩
     omega
    ·intro h x hx
     cases x with
     | zero=>exact⟨c,rfl,hc⟩
     | succ x =>
      obtain⟨d,h1,h2⟩:=ih.2 (by omega) x (by omega);exact⟨d,by simpa using h1,h2⟩
   ·rw [List.takeWhile_cons_of_neg hc,List.length_nil]
    constructor
    ·intro h;obtain⟨d,h1,h2⟩:=h 0 (by omega);simp at h1;subst h1;exact absurd h2 hc
    ·intro h;omega
end N
section
open Go.RowKit
def rV (W:World) (v:Value) (m:Nat) (cs:List Value):Prop :=
 (v = .slice none 0 0/\m=0/\cs=[])\/∃ ad c,v = .slice (some ad) m c/\∀ j u,cs[j]?=some u->W.cell? (ad.add j)=some u
theorem P7 {P:Program} {w0:World} {ops:Array Oper} {rest:List Oper} {o:Oper} {a:Act} {Q:Exit->Act->World->Prop} (hgd:o.guard=none) (s x:Operand) (t:TypeId)
  (ho:o.op = .call { callee:=.builtin .append,args:=#[s,x],argTypes:=#[t,t] }) {base:Nat} {e:TypeId} {sz bytes:Nat} (hP:vH P t e sz bytes) (hsz:0<sz) {ps:List Pc} (hS:Sep ps w0) (k:Nat) {v xv:Value} {cs:List Value} {n m:Nat} {xs:List Value}
  (hk:ps[k]?=some (Pc.row base e sz v n xs)) (hs:a.eval s=v) (hx:a.eval x=xv) (hX:rV w0 xv m cs) (hc:cs.length=m*sz) (h1:∀ u∈cs,u.oneCell'=true) (hn:n+m<=1000000000) (hby:bytes<=10000) (hbase:base<=w0.heap.size)
  (h:∀ v' w',Sep (ps.set k (Pc.row base e sz v' (n+m) (xs++cs))) w'->wpList P ops Q rest (a.put o.dst v') w'):wpList P ops Q (o::rest) a w0:=by
 obtain⟨i,z,ht,hi,hz0,hz1,hz2,hz3⟩:=hP.o
 rcases hX with⟨rfl,rfl,rfl⟩ | ⟨ad,c,rfl,hcl⟩
 ·refine wpList_append_own_none hgd s x t ho base e i sz ht hi v n xs hs (hS.row k hk) hx ?_;have:=h v w0;rw [Nat.add_zero,List.append_nil,show ps.set k (Pc.row base e sz v n xs)=ps by
   obtain⟨h2,h3⟩:=List.getElem?_eq_some_iff.1 hk;rw [<- h3,List.set_getElem_self]] at this
  exact this hS
 ·have hb:(n+m)*bytes<=1000000000*10000:=Nat.mul_le_mul hn hby;refine wpList_append_own_at _ hgd s x t ho base e i z sz bytes ht hi hz0 hz1 hz2 hz3 hsz v n xs hs (hS.row k hk) ad m c cs hx hc hcl h1 (by unfold maxLen;omega) (by omega) hbase ?_;intro v' w' hown hgrow _ hat
  exact h v' w' (hS.grow k hk hgrow hown (by
   rcases hat with e1 | e1
   ·exact .inl e1
   ·exact .inr (λq hq=>by rw [e1] at hq;simp only [Option.some.injEq] at hq;omega)))
def Eg (A:Nat->Addr) (B:Nat) (w:World):Prop:=Env [6] 354 A B w
theorem Eg.below {A:Nat->Addr} {B:Nat} {w w':World} (h:Eg A B w) (hb:Below B w w'):Eg A B w':=Env.below h hb
theorem Eg.cell {A:Nat->Addr} {B:Nat} {w:World} (h:Eg A B w):w.cell? ⟨6,0,none⟩=some (.iface 354 (.pointer (some (A 6)))):=h.var _ (List.mem_singleton.2 rfl)
def IE (A:Nat->Addr):Value:=jZ A 6
theorem Tf (A:Nat->Addr) (B:Nat) (w:World) (hE:Eg A B w) :
  Calls Tryz.prog 141 #[IE A] w λe w'=>e = .returned (.int .i64 110)/\w=w':=by
 have hg:=hE.cell;have HI:=bx (MG hE 6 6 (by decide) (by decide));clear hE;unfold IE jZ
 go_enter Tryz.func141,Tryz.ntmps141
 go_wp2_with fail;refine HI.o.mono ?_;rintro e w1 ⟨rfl,rfl⟩;go_wp2_with fail;go_ret
 exact⟨rfl,rfl⟩
end
namespace F
open Go.Proofs.YtdenoeakcflnmaaGreatDoor
def Dw (names:List (List UInt8)) (x:List UInt8):Option (List N.Item) :=
 if x=[] then some []
 else if ((x.any λc=>c==32||c==91)||x.getLast?==some 42||x==[94]||x==[46])=true then none
 else (valueOf names x).map λi=>[((2:Int) ^ i,0)]
def Ic (c:UInt8):Bool:=c==43||c==47
def H9 (names:List (List UInt8)) (t:List UInt8):Option D.Rule :=
 match t.findIdx? Ic with
 | none=>none
 | some i=>match Dw names (trim (t.take i)),Dw names (trim (t.drop (i+1))) with
  | some a,some b=>some ((false,a),(false,b),t.getD i 0==47)
  | _,_=>none
end F
section
open Go.RowKit
def LX:Option (Int×Nat)->Value
 | none=>.tuple #[.int .i64 0, .int .i64 0, .bool false]
 | some (r,n)=>.tuple #[.int .i64 r, .int .i64 (n:Int), .bool true]
def iY (l:List UInt8):Value:=LX (U.dec l)
theorem isEmpty_nil {s:ByteArray} (h:s.data.toList=[]):s.toList.isEmpty=true:=by rw [ByteArray.toList_eq,h];rfl
theorem isEmpty_cons {s:ByteArray} {c:UInt8} {t:List UInt8} (h:s.data.toList=c::t):s.toList.isEmpty=false:=by rw [ByteArray.toList_eq,h];rfl
def ER (r:Int):Value:=if U.right r=true then .tuple #[.string ⟨(U.enc r).toArray⟩, .int .i64 0] else .tuple #[.string ⟨#[]⟩, .int .i64 10]
theorem afq {r:Int} (h:U.right r=false):ER r = .tuple #[.string ⟨#[]⟩, .int .i64 10]:=by unfold ER;rw [if_neg (by rw [h];decide)]
theorem aeg {r:Int} {l:List Int} (h:U.right r=true) (hl:l.map U.byte=U.enc r):Value.tuple #[.string (strOfNums l), .int .i64 0]=ER r:=by
 unfold ER;rw [if_pos h,<- hl];rfl
end
end Go.Proofs.YtdenoeakcflnmaaGreatDoor
