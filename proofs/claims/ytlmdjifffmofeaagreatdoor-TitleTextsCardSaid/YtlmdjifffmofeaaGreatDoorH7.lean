/- Texts of this claim. -/
import Derived.Shelf.Sort.Plain
import Derived.Ground.Names2Prog
import Derived.Shelf.Slices.CompactI
import Derived.Shelf.Slices.In.SortNone
import Derived.Shelf.Slices.Empties2
import Derived.Sort.OwnSortedInts
import Derived.Lib.SlicesCompact
import Derived.Lib.RowBridge
import Derived.Test.YtlmdjifffmofeaaGreatDoorH6

set_option maxHeartbeats 4000000
namespace Go.Proofs.YtlmdjifffmofeaaGreatDoor
section
open Go.RowKit
attribute [local go_sem] Oper.semAt_some
def wV {α:Type} (f:α->α) (P:List α) (k:Nat):List α:=(P.take k).map f++P.drop k
theorem aky {α:Type} (f:α->α) (P:List α):wV f P P.length=P.map f:=by unfold wV;rw [List.take_length,List.drop_length,List.append_nil]
theorem anx {α:Type} (f:α->α) (P:List α) (k:Nat):(wV f P k)[k]?=P[k]?:=by
 unfold wV
 rcases Nat.lt_or_ge k P.length with h | h
 ·rw [List.getElem?_append_right (by simp;omega),List.length_map,List.length_take,List.getElem?_drop]
  congr 1
  omega
 ·rw [List.getElem?_eq_none h,List.getElem?_eq_none (by simp;omega)]
theorem afl {α:Type} (f:α->α) (P:List α) (k:Nat) {x:α} (h:P[k]?=some x):(wV f P k).set k (f x)=wV f P (k+1):=by
 have hk:=(List.getElem?_eq_some_iff.1 h).1;have hd:P.drop k=x::P.drop (k+1):=by
  rw [List.drop_eq_getElem_cons hk,(List.getElem?_eq_some_iff.1 h).2]
 unfold wV;have h0:k-((P.take k).map f).length=0:=by simp;omega
 rw [hd,List.take_add_one,h,List.set_append,if_neg (by simp;omega),h0];simp
theorem ag9 (l:List UInt8) (a b:Int) (fs:List (List UInt8)) (w:World) (hz:l.length<=20000) (hok:F.zY l=some (some (a,b,fs))) :
  Calls Tryz.prog 153 #[.string (bs l)] w λe w'=>(∃ fv,e = .returned (.tuple #[.agg #[.int .i64 0, .int .i64 a, .int .i64 b,fv], .bool true, .int .i64 0])/\iY w' fv fs/\∀ g,fv.ownBlock=some g->w.heap.size<=g/\g<w'.heap.size)/\Below w.heap.size w w':=by
 obtain⟨h,t,hs,hl⟩:=Oq 35 l;unfold F.zY at hok;rw [hs,List.headD_cons] at hok;obtain⟨T,hT⟩:∃ T,F.trim h=T:=⟨_,rfl⟩
 have hTl:T.length<=20000:=by rw [<- hT];have:=F.Fh h;omega
 rw [hT] at hok;obtain⟨hne,ER,hab,hb,h2,h21,hfs⟩:=F.Td hok;obtain⟨P,hP⟩:∃ P,F.split 59 T=P:=⟨_,rfl⟩
 rw [hP,List.length_map] at h2 h21;rw [hP] at ER hfs;have nS:=bx (show ∀ x∈P,x.length<=20000 from λx hx=>by have:=F.Jb 59 T x (by rw [hP];exact hx);omega);obtain⟨m,hm⟩:∃ m,P.length=m:=⟨_,rfl⟩
 rw [hm] at h2 h21;obtain⟨w1,hw1⟩:∃ w1,w1=w.alloc (.cells #[.int .i64 0, .int .i64 0, .int .i64 0, .slice none 0 0] 171):=⟨_,rfl⟩
 have hb1:Below w.heap.size w w1:=by rw [hw1];exact(Below.refl _ _).alloc (Nat.le_refl _) _
 have HB1:=bx hb1;have dG:=bx (show ak w1 w.heap.size 171 #[.int .i64 0, .int .i64 0, .int .i64 0, .slice none 0 0] by rw [hw1];exact ak.new _ _ _);have jO:=bx (show Calls Tryz.prog 114 #[.string (bs l), .int .u8 35] w1 λe w'=>(∃ v,e = .returned v/\iY w' v (F.split 35 l))/\Below w1.heap.size w1 w' from LY l 35 w1 (by omega));rw [hs] at jO;have nY:=bx (λW=>Ja h W (by omega));rw [hT] at nY;have acF:=bx (λW=>(show Calls Tryz.prog 114 #[.string (bs T), .int .u8 59] W λe w'=>(∃ v,e = .returned v/\w'.ownsRow W.heap.size 9 1 v (F.split 59 T).length ((F.split 59 T).map pK))/\Below W.heap.size W w' from Zr T 59 W (by omega)));rw [hP,hm] at acF;have HW1:=bx hw1;have tq:=bx hne;have aj7:=bx ER;have sU:=bx hfs;have HM:=bx hm;clear hb1 hw1 hok hs hT hP hne ER hfs hm
 go_enter Tryz.func153,Tryz.ntmps153
 go_upto_region 1 with(fail)
 rw [<- HW1.o];go_wp2_with fail;refine jO.o.mono ?_;rintro e w2 ⟨⟨v,rfl,hv⟩,hb2⟩;obtain⟨g,off,cap,rfl,q2,q3,q4,q5⟩:=hv.get (by simp);have hc:=q5 0 h rfl;rw [Nat.add_zero] at hc;have lN:=bx (dG.o.below hb2 dG.o.lt);have HB2:=bx (bt HB1.o hb2);unfold maxLen at q3;rw [List.length_cons] at q2 ⊢;clear hb2 hv q5;go_wp2_with fail;refine(nY.o _).mono ?_;rintro e w3 ⟨rfl,rfl⟩;have hemp:=BA tq.o;clear hc q2 q3 q4;go_wp2_with fail;refine(acF.o _).mono ?_;rintro e w3 ⟨⟨v,rfl,hown⟩,hb3⟩;obtain⟨g2,cap2,cur,rfl,r1,r2,r3,-,-⟩:=OX hown (by omega);have aU:=bx (show Sep [Pc.row w2.heap.size 9 1 (.slice (some ⟨g2,0,none⟩) m cap2) m ((wV F.trim P 0).map pK),Pc.old w2.heap.size w2] w3 from(Sep.start w2).got hb3 hown (Nat.le_refl _));clear hown hb3 hemp;go_wp2_with fail
 go_loopw [7] (λi wr=>∃ k:Nat,k<=m/\i = .int .i64 k/\Box (Sep [Pc.row w2.heap.size 9 1 (.slice (some ⟨g2,0,none⟩) m cap2) m ((wV F.trim P k).map pK),Pc.old w2.heap.size w2] wr)) (λi _=>m-(intOf i).toNat)
 case atStart=>exact⟨0,by omega,rfl,aU⟩
 case round =>
  obtain⟨k,hk,rfl,hse⟩:=hrel;have aV:=bx (hse.o.bel (n:=w2.heap.size) (W0:=w2) (by simp));clear aU;obtain⟨g',cap',cur,e1,s1,s2,s3,hbk,hcur⟩:=OX (hse.o.row 0 rfl) (by omega);obtain⟨rfl,rfl⟩:g2=g'/\cap2=cap':=by injection e1 with e1 e2 e3;injection e1 with e1;injection e1 with e1;exact⟨e1,e3⟩
  by_cases hlt:k<m
  ·obtain⟨x,hx⟩:∃ x,P[k]?=some x:=⟨_,List.getElem?_eq_getElem (by have:=HM.o;omega)⟩
   have hck:=(hbk.cell k).trans (hcur k (.string (bs x)) (by rw [List.getElem?_map,anx,hx];rfl));have hfk:=hbk.frozen k;have hlk:=hbk.lt;have nG:=bx (λW=>Ja x W (by have:=nS.o x (List.mem_of_getElem? hx);omega));have gU:=bx (show Sep [Pc.row w2.heap.size 9 1 (.slice (some ⟨g2,0,none⟩) m cap2) m ((wV F.trim P (k+1)).map pK),Pc.old w2.heap.size w2] (wr.setCell ⟨g2,k,none⟩ (.string (bs (F.trim x)))) by
    have h8:=hse.o.setRow' 0 rfl (g:=g2) rfl k hlt (.string (bs (F.trim x)));have e8:((wV F.trim P k).map pK).set k (.string (bs (F.trim x)))=(wV F.trim P (k+1)).map pK:=by
     rw [<- afl F.trim P k hx,List.map_set]
     rfl
    rw [e8] at h8;exact h8)
   clear hx hcur hbk e1;go_wp2_with fail;refine(nG.o _).mono ?_;rintro e w4 ⟨rfl,rfl⟩;go_wp2_with fail
   go_roundw
   case rel=>exact⟨k+1,hlt,by go_num,gU⟩
   case measure=>simp [intOf];omega
  ·obtain rfl:k=m:=by omega
   have HQ:=bx (show wV F.trim P k=P.map F.trim by rw [<- HM.o];exact aky F.trim P);obtain⟨y,Q,Fv⟩:∃ y Q,P.map F.trim=y::Q:=by
    cases hq:P.map F.trim with
    | nil=>have:=congrArg List.length hq;rw [List.length_map,HM.o] at this;simp at this;omega
    | cons y Q=>exact⟨y,Q,rfl⟩
   have Xo:Q.length+1=k:=by have:=congrArg List.length Fv;rw [List.length_map,HM.o,List.length_cons] at this;omega
   have hck:=(hbk.cell 0).trans (hcur 0 (.string (bs y)) (by rw [HQ.o,Fv];rfl));have hlk:=hbk.lt;have hyl:y.length<=20000:=by
    have hy:y∈P.map F.trim:=by rw [Fv];exact List.mem_cons_self ..
    obtain⟨z,hz1,rfl⟩:=List.mem_map.1 hy;have:=nS.o z hz1;have:=F.Fh z;omega
   have ER:=aj7.o;rw [Fv,List.headD_cons] at ER;have zk:=bx (λW=>aiO y a b W (by omega) ER);have MJ:=bx (show fs=Q by rw [sU.o,Fv];rfl);have qB:=bx (show wr.ownsRow w2.heap.size 9 1 (.slice (some ⟨g2,0,none⟩) k cap2) k ((y::Q).map pK) by
    have:=hse.o.row 0 rfl
    rwa [HQ.o,Fv] at this)
   have hkb:=lN.o.below aV.o lN.o.lt;have k0:=(hkb.cell 0).trans (show _=some (Value.int .i64 0) from rfl);have k1:=(hkb.cell 1).trans (show _=some (Value.int .i64 0) from rfl);have k2:=(hkb.cell 2).trans (show _=some (Value.int .i64 0) from rfl);have k3:=(hkb.cell 3).trans (show _=some (Value.slice none 0 0) from rfl);have f0:=hkb.frozen 0;have f1:=hkb.frozen 1;have f2:=hkb.frozen 2;have f3:=hkb.frozen 3;have kl:=hkb.lt;have HKB:=bx hkb;have dJ:=bx (bt HB2.o aV.o);clear hcur hbk e1 Fv ER hkb hlt;go_wp2_with fail;refine(zk.o _).mono ?_;rintro e w4 ⟨rfl,rfl⟩;go_wp2_with fail;have hT:Turns (λq=>q=w.heap.size) wr ((((wr.setCell ⟨w.heap.size,0,none⟩ (.int .i64 0)).setCell ⟨w.heap.size,1,none⟩ (.int .i64 a)).setCell ⟨w.heap.size,2,none⟩ (.int .i64 b)).setCell ⟨w.heap.size,3,none⟩ (.slice (some ⟨g2,1,none⟩) (k-1) (cap2-1))) :=
    (((Turns.setCell (own:=λq=>q=w.heap.size) wr (p:=⟨w.heap.size,0,none⟩) rfl _).trans (Turns.setCell (own:=λq=>q=w.heap.size) _ (p:=⟨w.heap.size,1,none⟩) rfl _)).trans (Turns.setCell (own:=λq=>q=w.heap.size) _ (p:=⟨w.heap.size,2,none⟩) rfl _)).trans (Turns.setCell (own:=λq=>q=w.heap.size) _ (p:=⟨w.heap.size,3,none⟩) rfl _)
   have hkl2:=lN.o.lt;have hrow:=hT.row qB.o (λq hq=>by simp [Value.ownBlock] at hq;omega);have ady:=kG.dL hrow (by rw [List.length_map,List.length_cons];omega);have hlen:((y::Q).map pK).length=k:=by rw [List.length_map,List.length_cons];omega
   rw [<- hlen] at ady;have hdrop:=kG.drop ady 1 (by omega);rw [hlen] at hdrop;have hstr:iY ((((wr.setCell ⟨w.heap.size,0,none⟩ (.int .i64 0)).setCell ⟨w.heap.size,1,none⟩ (.int .i64 a)).setCell ⟨w.heap.size,2,none⟩ (.int .i64 b)).setCell ⟨w.heap.size,3,none⟩ (.slice (some ⟨g2,1,none⟩) (k-1) (cap2-1))) (.slice (some ⟨g2,1,none⟩) (k-1) (cap2-1)) fs:=by
    rw [MJ.o];exact hdrop
   exact bodyPost_ret (v:=.tuple #[.agg #[.int .i64 0, .int .i64 a, .int .i64 b, .slice (some ⟨g2,1,none⟩) (k-1) (cap2-1)], .bool true, .int .i64 0]) (GV Tryz.results153 _ _ w.heap.size 171 #[.int .i64 0, .int .i64 a, .int .i64 b, .slice (some ⟨g2,1,none⟩) (k-1) (cap2-1)] (0,0) _ rfl ((((HKB.o.bP 0 (.int .i64 0)).bP 1 (.int .i64 a)).bP 2 (.int .i64 b)).bP 3 (.slice (some ⟨g2,1,none⟩) (k-1) (cap2-1))) Tryz.underlying171 rfl recInfo) rfl
    ⟨⟨_,rfl,hstr,λq hq=>by have h9:=hrow.lt g2 rfl;have h8:=HB2.o.size;simp [Value.ownBlock] at hq;omega⟩,(((dJ.o.setCell (Nat.le_refl _) _).setCell (Nat.le_refl _) _).setCell (Nat.le_refl _) _).setCell (Nat.le_refl _) _⟩
end
section
open Go.RowKit
section
variable {P:Program} {ops:Array Oper} {Q:Exit->Act->World->Prop} {md:Region.Mode} {k:Nat} {F:World->Prop}
def Closed (md:Region.Mode) (ops:Array Oper) (l:Array Bool):Prop :=
 ∀ j oj,ops[j]?=some oj->l.getD j true=true->∀ e∈oj.after,Region.binds md e=true->l.getD e.on true=true
def NQ (md:Region.Mode) (ops:Array Oper) (l:Array Bool):Bool :=
 (List.range ops.size).all λj=>!l.getD j true||match ops[j]? with
  | some oj=>oj.after.all λe=>!Region.binds md e||l.getD e.on true
  | none=>true
theorem aev {l:Array Bool} (h:NQ md ops l=true):Closed md ops l:=by
 intro j oj hj hl e he hb;unfold NQ at h;rw [List.all_eq_true] at h;have h1:=h j (List.mem_range.2 (Array.getElem?_eq_some_iff.1 hj).1);rw [hl,hj] at h1;simp only [Bool.not_true,Bool.false_or] at h1;have h2:=Array.all_eq_true'.1 h1 e he;rw [hb] at h2
 simpa using h2
theorem ajE {l:Array Bool} {i:Nat} (h:Closed md ops l) (hr:i∈Region.ready md ops l):Closed md ops (l.setIfInBounds i true):=by
 obtain⟨hun,oi,hoi,hall⟩:=mem_ready.1 hr;have up:∀ j,l.getD j true=true->(l.setIfInBounds i true).getD j true=true:=by
  intro j hj
  by_cases e:i=j
  ·subst e;rw [Array.getD_eq_getD_getElem?,Array.getElem?_setIfInBounds];simp
   split <;> rfl
  ·rw [getD_set_ne true e];exact hj
 intro j oj hj hl e he hb
 by_cases hij:i=j
 ·subst hij;rw [hoi] at hj
  cases hj;exact up _ (by
   have h1:=hall e he hb
   rcases Nat.lt_or_ge e.on l.size with h' | h'
   ·simp [h'] at h1 ⊢;exact h1
   ·simp [Array.getElem?_eq_none h'])
 ·rw [getD_set_ne true hij] at hl;exact up _ (h j oj hj hl e he hb)
def F5 (md:Region.Mode) (ops:Array Oper) (i:Nat):Nat->Nat->Bool
 | 0,_=>false
 | f+1,k=>match ops[k]? with
  | some ok=>ok.after.any λe=>Region.binds md e&&(e.on==i||F5 md ops i f e.on)
  | none=>false
theorem VG {l:Array Bool} {i:Nat} (hc:Closed md ops l) (hi:l.getD i true=false):∀ (f k:Nat),F5 md ops i f k=true->l.getD k true=false
 | 0,_,h=>by simp [F5] at h
 | f+1,k,h=>by
  unfold F5 at h
  cases hk:ops[k]? with
  | none=>rw [hk] at h;cases h
  | some ok =>
   rw [hk] at h;obtain⟨e,he,hb⟩:=Array.any_eq_true'.1 h;simp only [Bool.and_eq_true,Bool.or_eq_true,beq_iff_eq] at hb
   cases hl:l.getD k true with
   | false=>rfl
   | true =>
    have h1:=hc k ok hk hl e he hb.1
    rcases hb.2 with e1 | e1
    ·rw [e1,hi] at h1;cases h1
    ·rw [VG hc hi f e.on e1] at h1;cases h1
def qV (P:Program) (md:Region.Mode) (ops:Array Oper) (Q:Exit->Act->World->Prop) (k:Nat) (F:World->Prop):Nat->Array Bool->Act->World->Prop
 | 0,listed,a,w=>Region.ready md ops listed=[]/\Q .normal a w
 | fuel+1,listed,a,w =>
  (Region.ready md ops listed=[]->Q .normal a w) /\
  ∀ i∈Region.ready md ops listed,wpOp P ops Q i (λa' w'=>((listed.setIfInBounds i true).getD k true=false->F w')/\qV P md ops Q k F fuel (listed.setIfInBounds i true) a' w') a w
theorem aam:∀ (fuel:Nat) (listed:Array Bool) (a:Act) (w:World),qV P md ops Q k F fuel listed a w->wpAny P md ops Q fuel listed a w
 | 0,_,_,_,h=>h
 | fuel+1,_,_,_,h=>⟨h.1,λi hi=>wpOp_mono (λa' w' h'=>aam fuel _ a' w' h'.2) (h.2 i hi)⟩
theorem alL {i f:Nat} {oi:Oper} {v:Value} (hi:ops[i]?=some oi) (hsel:∀ (j:Nat) (o:Oper) cs b,ops[j]?=some o->o.op≠.select cs b)
  (hQ:∀ c a w,Q (.panic c) (a.put oi.dst v) w->Q (.panic c) a w) (hik:i≠k) (hwt:F5 md ops i f k=true) :
  ∀ (fuel:Nat) (listed:Array Bool) (a:Act) (w:World),
   (∀ j oj,ops[j]?=some oj->j≠i->listed.getD j true=false->(∀ e∈oj.after,Region.binds md e=true->e.on≠i)->oi.apart ops oj=true) ->
   i∈Region.ready md ops listed->Closed md ops listed->YieldsIf P ops F oi v a->(listed.getD k true=false->F w) ->
   qV P md ops Q k F fuel (listed.setIfInBounds i true) (a.put oi.dst v) w->qV P md ops Q k F (fuel+1) listed a w:=by
 intro fuel
 induction fuel with
 | zero =>
  intro listed a w _ hr hc hy hS H;refine⟨λh=>(by rw [h] at hr;cases hr),λj hj=>?_⟩;have hF:F w:=hS (VG hc (mem_ready.1 hr).1 f k hwt)
  by_cases hji:j=i
  ·subst hji;exact YieldsIf.wpOp hi hy hF ⟨λ_=>hF,H⟩
  ·have:=ready_mono hj hji;rw [H.1] at this
   cases this
 | succ fuel ih =>
  intro listed a w hfree hr hc hy hS H;have hF:F w:=hS (VG hc (mem_ready.1 hr).1 f k hwt);refine⟨λh=>(by rw [h] at hr;cases hr),λj hj=>?_⟩
  by_cases hji:j=i
  ·subst hji;exact YieldsIf.wpOp hi hy hF ⟨λ_=>hF,H⟩
  ·have h1:=H.2 j (ready_mono hj hji);obtain⟨hjun,oj,hoj,hall⟩:=mem_ready.1 hj;have hnot:∀ e∈oj.after,Region.binds md e=true->e.on≠i:=λe he hb heq=>by
    have h1:=hall e he hb;have h0:=(mem_ready.1 hr).1;rw [heq] at h1
    rcases Nat.lt_or_ge i listed.size with h' | h'
    ·simp [h'] at h0 h1;rw [h0] at h1;cases h1
    ·simp [Array.getElem?_eq_none h'] at h1
   have h2:=wpOp_putIf hoj (hfree j oj hoj hji hjun hnot) (λcs b=>hsel i oi cs b hi) (λcs b=>hsel j oj cs b hoj) hQ hy h1;have hfree':∀ k ok,ops[k]?=some ok->k≠i->(listed.setIfInBounds j true).getD k true=false ->
     (∀ e∈ok.after,Region.binds md e=true->e.on≠i)->oi.apart ops ok=true:=λk ok hk hki hun hno=>by
    refine hfree k ok hk hki ?_ hno
    by_cases hjk:j=k
    ·subst hjk;exact hjun
    ·rw [getD_set_ne true hjk] at hun;exact hun
   refine wpOp_mono (λa' w' h3=>?_) h2;have hS':(listed.setIfInBounds j true).getD k true=false->F w':=λh=>h3.2.1 (by
    rw [Array.setIfInBounds_comm _ _ (Ne.symm hji),getD_set_ne true hik];exact h)
   refine⟨hS',ih (listed.setIfInBounds j true) a' w' hfree' (ready_mono hr (Ne.symm hji)) (ajE hc hj) h3.1 hS' ?_⟩;rw [Array.setIfInBounds_comm _ _ hji];exact h3.2.2
theorem kT {i:Nat} {oi:Oper} {v:Value} {fuel:Nat} {listed:Array Bool} {a:Act} {w:World} (hi:ops[i]?=some oi)
  (hs:(Region.noSelect ops&&Region.free md ops listed i&&(Region.ready md ops listed).contains i&&NQ md ops listed&&F5 md ops i ops.size k&&!(i==k))=true)
  (hQ:∀ c a w,Q (.panic c) (a.put oi.dst v) w->Q (.panic c) a w) (hy:YieldsIf P ops F oi v a) (hS:F w)
  (h:qV P md ops Q k F fuel (listed.setIfInBounds i true) (a.put oi.dst v) w):qV P md ops Q k F (fuel+1) listed a w:=by
 simp only [Bool.and_eq_true,Bool.not_eq_true',beq_eq_false_iff_ne] at hs;obtain⟨⟨⟨⟨⟨h1,h2⟩,h3⟩,h4⟩,h5⟩,h6⟩:=hs;exact alL hi (Region.noSelect_spec h1) hQ h6 h5 fuel listed a w (Region.free_spec hi h2) (by simpa using h3) (aev h4) hy (λ_=>hS) h
def pU (P:Program) (md:Region.Mode) (ops:Array Oper) (Q:Exit->Act->World->Prop) (k:Nat) (F:World->Prop) (fuel:Nat) (listed:Array Bool) (a:Act) (w:World) (rs:List Nat):Prop :=
 ∀ i∈rs,wpOp P ops Q i (λa' w'=>((listed.setIfInBounds i true).getD k true=false->F w')/\qV P md ops Q k F fuel (listed.setIfInBounds i true) a' w') a w
theorem pU.nil {fuel:Nat} {listed:Array Bool} {a:Act} {w:World}:pU P md ops Q k F fuel listed a w []:=λ_ h=>by cases h
theorem pU.cons {fuel:Nat} {listed:Array Bool} {a:Act} {w:World} {i:Nat} {o:Oper} {rs:List Nat} (ho:ops[i]?=some o)
  (h:∀ K':Act->World->Prop,Shut (∀ a w,((listed.setIfInBounds i true).getD k true=false->F w)->qV P md ops Q k F fuel (listed.setIfInBounds i true) a w->K' a w)->if Region.wanted o (yielded ops a.tmps)=true then Oper.wp P o a w K' Q else K' (a.put o.dst undef) w)
  (hs:pU P md ops Q k F fuel listed a w rs):pU P md ops Q k F fuel listed a w (i::rs):=λj hj=>by
 rcases List.mem_cons.1 hj with rfl | hj
 ·exact wpOp_step ho (λK' hK=>h K' (λa w hS hW=>hK a w ⟨hS,hW⟩))
 ·exact hs j hj
theorem KW {rs:List Nat} {fuel:Nat} {listed:Array Bool} {a:Act} {w:World} (hr:Region.ready md ops listed=rs) (hne:rs≠[])
  (h:pU P md ops Q k F fuel listed a w rs):qV P md ops Q k F (fuel+1) listed a w:=⟨λh0=>absurd (hr▸h0) hne,hr▸h⟩
theorem kO {i:Nat} {o:Oper} {fuel:Nat} {listed:Array Bool} {a:Act} {w:World} (hr:Region.ready md ops listed=[i]) (ho:ops[i]?=some o)
  (h:∀ K':Act->World->Prop,Shut (∀ a w,((listed.setIfInBounds i true).getD k true=false->F w)->qV P md ops Q k F fuel (listed.setIfInBounds i true) a w->K' a w)->if Region.wanted o (yielded ops a.tmps)=true then Oper.wp P o a w K' Q else K' (a.put o.dst undef) w) :
  qV P md ops Q k F (fuel+1) listed a w:=KW hr (by simp) (pU.cons ho h pU.nil)
theorem kS (i:Nat) {oi:Oper} (v:Value) {Q:Exit->Act->World->Prop} {fuel:Nat} {listed:Array Bool} {a:Act} {w:World} (hi:ops[i]?=some oi) (hS:F w)
  (hy:∀ w,F w->(execOp a.eval oi).run P w = .ok (.value v) w) (h:qV P md ops (NoPanic Q) k F fuel (listed.setIfInBounds i true) (a.put oi.dst v) w)
  (hs:(Region.noSelect ops&&Region.free md ops listed i&&(Region.ready md ops listed).contains i&&NQ md ops listed&&F5 md ops i ops.size k&&!(i==k))=true:=by kernel_rfl)
  (hw:Region.wanted oi (yielded ops a.tmps)=true:=by kernel_rfl):qV P md ops (NoPanic Q) k F (fuel+1) listed a w :=
 kT hi hs (λ_ _ _ h=>h) (Or.inl ⟨hw,hy⟩) hS h
theorem kP (i:Nat) {o:Oper} {fuel:Nat} {listed:Array Bool} {a:Act} {w:World} (ho:ops[i]?=some o)
  (h:∀ K':Act->World->Prop,Shut (∀ a w,((listed.setIfInBounds i true).getD k true=false->F w)->qV P md ops Q k F fuel (listed.setIfInBounds i true) a w->K' a w)->if Region.wanted o (yielded ops a.tmps)=true then Oper.wp P o a w K' Q else K' (a.put o.dst undef) w)
  (hr:Region.ready md ops listed=[i]:=by kernel_rfl):qV P md ops Q k F (fuel+1) listed a w:=kO hr ho h
theorem agw {listed:Array Bool} {a:Act} {w:World} (hr:Region.ready md ops listed=[]) (h:Q .normal a w) :
  ∀ fuel,qV P md ops Q k F fuel listed a w
 | 0=>⟨hr,h⟩
 | _+1=>⟨λ_=>h,by rw [hr];simp⟩
theorem kD {listed:Array Bool} {a:Act} {w:World} {Q:Exit->Act->World->Prop} (h:Q .normal a w) (fuel:Nat) (hr:Region.ready md ops listed=[]:=by kernel_rfl):qV P md ops (NoPanic Q) k F fuel listed a w:=agw hr (NoPanic.normal h) fuel
theorem dO {id:Nat} {a:Act} {w:World} (k:Nat) (F:World->Prop) (hm:P.follows .mixedOrders=true)
  (h:qV P .any ops (NoPanic Q) k F ops.size (Array.replicate ops.size false) a w.drew):(Code.region id ops true).wp P Q a w :=
 wp_region_noPanic (wp_region_any hm (aam _ _ _ _ h))
end
section
variable {P:Program} {w0:World} {o:Oper} {a:Act} {K:Act->World->Prop} {Q:Exit->Act->World->Prop} {E':Prop} {ops:Array Oper}
theorem BZ (hgd:o.guard=none) (s x:Operand) (t:TypeId)
  (ho:o.op = .call { callee:=.builtin .append,args:=#[s,x],argTypes:=#[t,t] }) {base:Nat} {e te:TypeId} {bytes:Nat} (hP:Pushes P t e bytes) {ps:List Pc} (hS:Sep ps w0) (k:Nat) {v u:Value} {n:Nat} {xs:List Value}
  (hk:ps[k]?=some (Pc.row base e 1 v n xs)) (hs:a.eval s=v) (hx:a.eval x = .slice (some ⟨w0.heap.size,0,none⟩) 1 1) (h1:u.oneCell'=true) (hn:n<=1000000000) (hby:bytes<=1000) (hbase:base<=w0.heap.size)
  (h:∀ v' w',Sep (ps.set k (Pc.row base e 1 v' (n+1) (xs++[u]))) w'->(∃ g c,v' = .slice (some ⟨g,0,none⟩) (n+1) c/\n+1<=c/\c<=9223372036854775807)->K (a.put o.dst v') w') :
  if Region.wanted o (yielded ops a.tmps)=true then Oper.wp P o a (w0.alloc (.cells #[u] te)) K Q else E':=by
 obtain⟨i,z,ht,hi,hz0,hz1,hz2,hz3⟩:=hP.o;have hb:(n+1)*bytes<=1000000001*1000:=Nat.mul_le_mul (by omega) hby;rw [if_pos (by simp [Region.wanted,hgd])];obtain⟨v',w',hr,hown,hgrow,-,hat⟩:=run_append_own_at (P:=P) (w0.alloc (.cells #[u] te)) base t o.type e i z 1 bytes ht hi hz0 hz1 hz2 hz3 (by decide) v n xs ((hS.row k hk).alloc _) ⟨w0.heap.size,0,none⟩ 1 1 [u] rfl (cell_one_new _ _ _) (by simpa using h1) (by unfold maxLen;omega) (by omega) (by simp;omega);unfold Oper.wp execOp;simp only [ho,resolve,invoke,builtin,Sem.run_bind,Sem.run_pure,Result.andThen_ok,List.map_toArray,List.map_cons,List.map_nil,hs,hx,hr];have hS':=(hS.alloc (.cells #[u] te)).grow k hk hgrow hown (by
  rcases hat with e1 | e1
  ·exact .inl e1
  ·exact .inr (λq hq=>by rw [e1] at hq;simp only [Option.some.injEq] at hq;omega))
 refine h v' w' hS' ?_
 rcases hown.2 with⟨_,h2⟩ | ⟨g,cap,cur,h2,_,_,h3,h4,_⟩
 ·omega
 ·exact⟨g,cap,h2,h3,by unfold maxLen at h4;omega⟩
end
structure wP (P:Program) (t e:TypeId) (s bytes:Nat):Prop where
 o:∃ (i:TypeInfo) (z:Value),P.underlying t=some (.slice e)/\P.info? e=some i/\i.zero=some z/\i.size=s/\i.bytes=bytes/\z.cells.size=s
theorem wP.mk' {P:Program} {t e:TypeId} {s bytes:Nat} {z:Value} (ht:P.underlying t=some (.slice e)) (h:(P.info? e).map (λi=>(i.zero,i.size,i.bytes))=some (some z,s,bytes)) (hz:z.cells.size=s):wP P t e s bytes:=by
 cases hi:P.info? e with
 | none=>rw [hi] at h;cases h
 | some i =>
  rw [hi] at h;simp only [Option.map_some,Option.some.injEq,Prod.mk.injEq] at h;exact⟨i,z,ht,hi,h.1,h.2.1,h.2.2,hz⟩
theorem ajb (w:World) (cs:List Value) (t:TypeId):∀ j u,cs[j]?=some u->(w.alloc (.cells cs.toArray t)).cell? ((⟨w.heap.size,0,none⟩:Addr).add j)=some u:=by
 intro j u hj;rw [show (⟨w.heap.size,0,none⟩:Addr).add j=⟨w.heap.size,j,none⟩ by unfold Addr.add;by_cases h0:j=0 <;> simp [h0]];rw [cell_of_row _ _ _ _ _ _ (heap_alloc_new w _)]
 simpa using hj
section
variable {P:Program} {w0:World} {o:Oper} {a:Act} {K:Act->World->Prop} {Q:Exit->Act->World->Prop} {E':Prop} {ops:Array Oper}
theorem abv {t:TypeId} {base:Nat} {e te:TypeId} {sz bytes:Nat} (hP:wP P t e sz bytes) (hsz:0<sz) {ps:List Pc} (hS:Sep ps w0) (k:Nat) {v:Value} {cs:List Value} {n:Nat} {xs:List Value}
  (hk:ps[k]?=some (Pc.row base e sz v n xs)) (hc:cs.length=sz) (h1:∀ u∈cs,u.oneCell'=true) (hn:n<=1000000000) (hby:bytes<=10000) (hbase:base<=w0.heap.size) (ty:TypeId) :
  ∃ v' w',(Builtin.append_ #[t,t] ty #[v, .slice (some ⟨w0.heap.size,0,none⟩) 1 1]).run P (w0.alloc (.cells cs.toArray te)) = .ok v' w'/\Sep (ps.set k (Pc.row base e sz v' (n+1) (xs++cs))) w'/\(∃ g c,v' = .slice (some ⟨g,0,none⟩) (n+1) c/\n+1<=c/\c<=9223372036854775807):=by
 obtain⟨i,z,ht,hi,hz0,hz1,hz2,hz3⟩:=hP.o;have hb:(n+1)*bytes<=1000000001*10000:=Nat.mul_le_mul (by omega) hby;obtain⟨v',w',hr,hown,hgrow,-,hat⟩:=run_append_own_at (P:=P) (w0.alloc (.cells cs.toArray te)) base t ty e i z sz bytes ht hi hz0 hz1 hz2 hz3 hsz v n xs ((hS.row k hk).alloc _) ⟨w0.heap.size,0,none⟩ 1 1 cs (by omega) (ajb _ _ _) h1 (by unfold maxLen;omega) (by omega) (by simp;omega);refine⟨v',w',hr,(hS.alloc (.cells cs.toArray te)).grow k hk hgrow hown (by
  rcases hat with e1 | e1
  ·exact .inl e1
  ·exact .inr (λq hq=>by rw [e1] at hq;simp only [Option.some.injEq] at hq;omega)),?_⟩
 rcases hown.2 with⟨_,h2⟩ | ⟨g,cap,cur,h2,_,_,h3,h4,_⟩
 ·omega
 ·exact⟨g,cap,h2,h3,by unfold maxLen at h4;omega⟩
theorem Po (hgd:o.guard=none) (s x:Operand) (t:TypeId)
  (ho:o.op = .call { callee:=.builtin .append,args:=#[s,x],argTypes:=#[t,t] }) {base:Nat} {e te:TypeId} {sz bytes:Nat} (hP:wP P t e sz bytes) (hsz:0<sz) {ps:List Pc} (hS:Sep ps w0) (k:Nat) {v:Value} {cs:List Value} {n:Nat} {xs:List Value}
  (hk:ps[k]?=some (Pc.row base e sz v n xs)) (hs:a.eval s=v) (hx:a.eval x = .slice (some ⟨w0.heap.size,0,none⟩) 1 1) (hc:cs.length=sz) (h1:∀ u∈cs,u.oneCell'=true) (hn:n<=1000000000) (hby:bytes<=10000) (hbase:base<=w0.heap.size)
  (h:∀ v' w',Sep (ps.set k (Pc.row base e sz v' (n+1) (xs++cs))) w'->(∃ g c,v' = .slice (some ⟨g,0,none⟩) (n+1) c/\n+1<=c/\c<=9223372036854775807)->K (a.put o.dst v') w') :
  if Region.wanted o (yielded ops a.tmps)=true then Oper.wp P o a (w0.alloc (.cells cs.toArray te)) K Q else E':=by
 rw [if_pos (by simp [Region.wanted,hgd])];obtain⟨v',w',hr,h2,h3⟩:=abv (P:=P) hP hsz hS k hk hc h1 hn hby hbase o.type (te:=te);unfold Oper.wp execOp;simp only [ho,resolve,invoke,builtin,Sem.run_bind,Sem.run_pure,Result.andThen_ok,List.map_toArray,List.map_cons,List.map_nil,hs,hx,hr];exact h v' w' h2 h3
theorem xR {rest:List Oper} (hgd:o.guard=none) (s x:Operand) (t:TypeId)
  (ho:o.op = .call { callee:=.builtin .append,args:=#[s,x],argTypes:=#[t,t] }) {base:Nat} {e te:TypeId} {sz bytes:Nat} (hP:wP P t e sz bytes) (hsz:0<sz) {ps:List Pc} (hS:Sep ps w0) (k:Nat) {v:Value} {cs:List Value} {n:Nat} {xs:List Value}
  (hk:ps[k]?=some (Pc.row base e sz v n xs)) (hs:a.eval s=v) (hx:a.eval x = .slice (some ⟨w0.heap.size,0,none⟩) 1 1) (hc:cs.length=sz) (h1:∀ u∈cs,u.oneCell'=true) (hn:n<=1000000000) (hby:bytes<=10000) (hbase:base<=w0.heap.size)
  (h:∀ v' w',Sep (ps.set k (Pc.row base e sz v' (n+1) (xs++cs))) w'->(∃ g c,v' = .slice (some ⟨g,0,none⟩) (n+1) c/\n+1<=c/\c<=9223372036854775807)->wpList P ops Q rest (a.put o.dst v') w') :
  wpList P ops Q (o::rest) a (w0.alloc (.cells cs.toArray te)):=by
 refine wpList_plain hgd λK hK=>?_
 obtain⟨v',w',hr,h2,h3⟩:=abv (P:=P) hP hsz hS k hk hc h1 hn hby hbase o.type (te:=te);unfold Oper.wp execOp;simp only [ho,resolve,invoke,builtin,Sem.run_bind,Sem.run_pure,Result.andThen_ok,List.map_toArray,List.map_cons,List.map_nil,hs,hx,hr];exact hK _ _ (h v' w' h2 h3)
end
theorem flat_get {α β:Type} (f:α->List β) (s:Nat):∀ (L:List α) (i j:Nat) (x:α),(∀ y∈L,(f y).length=s)->L[i]?=some x->j<s->(L.flatMap f)[i*s+j]?=(f x)[j]?
 | [],i,_,_,_,h,_=>by simp at h
 | y::L,0,j,x,hl,h,hj=>by
  simp only [List.getElem?_cons_zero,Option.some.injEq] at h;subst h;rw [List.flatMap_cons,Nat.zero_mul,Nat.zero_add,List.getElem?_append_left (by rw [hl y (List.mem_cons_self ..)];exact hj)]
 | y::L,i+1,j,x,hl,h,hj=>by
  rw [List.getElem?_cons_succ] at h;have hy:=hl y (List.mem_cons_self ..);rw [List.flatMap_cons,List.getElem?_append_right (by rw [hy,Nat.succ_mul];omega),hy,show (i+1)*s+j-s=i*s+j by rw [Nat.succ_mul];omega];exact flat_get f s L i j x (λz hz=>hl z (List.mem_cons_of_mem _ hz)) h hj
end
section
open Go.RowKit
attribute [local go_sem] Oper.semAt_some
structure CU (α:Type) where
 at':World->α->Prop
 val:α->Value
 same:∀ {a:α} {W W':World},at' W a->W.heap.size<=W'.heap.size->(∀ g,(val a).ownBlock=some g->W'.heap[g]?=W.heap[g]?)->at' W' a
 lt:∀ {a:α} {W:World} {g:Nat},at' W a->(val a).ownBlock=some g->g<W.heap.size
def Pc.iV {α:Type} (b:CU α) (L:List α):Pc where
 fp k:=∃ y∈L,(b.val y).ownBlock=some k
 ok W:=∀ y∈L,b.at' W y
 keep:=λ{_ _ _} h ht ho y hy=>b.same (h y hy) ht.size (λg hg=>ht.block g (b.lt (h y hy) hg) (ho g ⟨y,hy,hg⟩))
 lt:=λ{_ _} h ⟨y,hy,hg⟩=>b.lt (h y hy) hg
theorem Sep.iV {α:Type} {b:CU α} {L:List α} {ps:List Pc} {W:World} (h:Sep ps W) (i:Nat) (hi:ps[i]?=some (Pc.iV b L)):∀ y∈L,b.at' W y:=h.at' i hi
theorem Sep.RY {α:Type} {ps:List Pc} {W:World} (h:Sep ps W) (b:CU α):Sep (Pc.iV b []::ps) W :=
 ⟨λ_ hy=>absurd hy List.not_mem_nil,λ_ _ _ ⟨_,hy,_⟩=>absurd hy List.not_mem_nil,h⟩
theorem Sep.Dl {α:Type} {b:CU α} {y:α} {ps:List Pc} {W W':World} (h:Sep ps W) (hb:Below W.heap.size W W') (hy:b.at' W' y) (hn:∀ g,(b.val y).ownBlock=some g->W.heap.size<=g):Sep (Pc.iV b [y]::ps) W' :=
 h.add hb (λz hz=>by rw [List.mem_singleton.1 hz];exact hy) (λk ⟨z,hz,hg⟩=>by rw [List.mem_singleton.1 hz] at hg;exact hn k hg)
theorem Sep.NZ {α:Type} {b:CU α} {y:α} {L:List α} {ps:List Pc} {W:World} (h:Sep (Pc.iV b [y]::ps) W) (i:Nat) (hi:ps[i]?=some (Pc.iV b L)):Sep (ps.set i (Pc.iV b (L++[y]))) W :=
 h.join i hi (λz hz=>by
  rcases List.mem_append.1 hz with e | e
  ·exact h.tail.iV i hi z e
  ·exact h.head z e) (λk ⟨z,hz,hg⟩=>by
  rcases List.mem_append.1 hz with e | e
  ·exact .inr ⟨z,e,hg⟩
  ·exact .inl ⟨z,e,hg⟩)
theorem als {W W':World} {v:Value} {xs:List Value} (h:kG W v xs) (hs:W.heap.size<=W'.heap.size) (hg:∀ g,v.ownBlock=some g->W'.heap[g]?=W.heap[g]?):kG W' v xs:=by
 rcases h with h | ⟨b,off,sp,cap,h1,h2,h3,h4⟩
 ·exact .inl h
 ·refine .inr ⟨b,off,sp,cap,h1,h2,h3,λhn=>?_⟩;obtain⟨k1,k2,k3⟩:=h4 hn;have hb:=hg b (by rw [h1];rfl);exact⟨k1,Nat.lt_of_lt_of_le k2 hs,λi x hx=>(World.cell?_of_block hb).trans (k3 i x hx)⟩
def recC (y:F.Rec×Value):List Value:=[.int .i64 y.1.1, .int .i64 y.1.2.1, .int .i64 y.1.2.2.1,y.2]
def Gh:CU (F.Rec×Value) where
 at' W y:=iY W y.2 y.1.2.2.2/\∀ g,y.2.ownBlock=some g->g<W.heap.size
 val y:=y.2
 same:=λ{_ _ _} h hs hg=>⟨als h.1 hs hg,λg hg'=>Nat.lt_of_lt_of_le (h.2 g hg') hs⟩
 lt:=λ{_ _ _} h hg=>h.2 _ hg
def vN (w:World) (v:Value) (rs:List F.Rec):Prop:=∃ L:List (F.Rec×Value),L.map (·.1)=rs/\lY 4 w v (L.map recC)/\∀ y∈L,iY w y.2 y.1.2.2.2
theorem vN.below {w w':World} {v:Value} {rs:List F.Rec} (h:vN w v rs) (hb:Below w.heap.size w w'):vN w' v rs:=by
 obtain⟨L,h1,h2,h3⟩:=h;exact⟨L,h1,h2.below hb,λy hy=>(h3 y hy).below hb⟩
theorem vN.slice {w:World} {v:Value} {rs:List F.Rec} (h:vN w v rs):∃ a cap,v = .slice a rs.length cap/\rs.length<=cap/\cap<=9223372036854775807:=by
 obtain⟨L,h1,h2,h3⟩:=h;have:=h2.slice
 rwa [List.length_map,<- List.length_map (f:=(·.1)),h1] at this
theorem PE {α β:Type} (f:α->List β) (L:List α):L.flatMap f=(L.map f).flatten:=by induction L with | nil=>rfl | cons x t ih=>simp [List.flatMap_cons,ih]
theorem vN.dL {w:World} {base n:Nat} {T:TypeId} {v:Value} {L:List (F.Rec×Value)} (h:w.ownsRow base T 4 v n (L.flatMap recC)) (hn:n=L.length) (hL:∀ y∈L,iY w y.2 y.1.2.2.2):vN w v (L.map (·.1)):=by
 rw [PE] at h;exact⟨L,rfl,lY.dL h (by rw [List.length_map];exact hn) (λc hc=>by obtain⟨y,-,rfl⟩:=List.mem_map.1 hc;rfl),hL⟩
theorem vN.get {w:World} {v:Value} {rs:List F.Rec} (h:vN w v rs) (hn:rs≠[]) :
  ∃ b off cap,v = .slice (some ⟨b,off,none⟩) rs.length cap/\rs.length<=cap/\cap<=maxLen/\b<w.heap.size/\∀ i r,rs[i]?=some r->w.cell? ⟨b,off+i*4,none⟩=some (.int .i64 r.1)/\w.cell? ⟨b,off+i*4+1,none⟩=some (.int .i64 r.2.1)/\w.cell? ⟨b,off+i*4+2,none⟩=some (.int .i64 r.2.2.1)/\∃ f,w.cell? ⟨b,off+i*4+3,none⟩=some f/\iY w f r.2.2.2:=by
 obtain⟨L,rfl,h2,h3⟩:=h;obtain⟨b,off,cap,k1,k2,k3,k4,k5⟩:=h2.get (by intro e;apply hn;rw [List.map_eq_nil_iff] at e ⊢;exact e);rw [List.length_map] at k1 k2;rw [List.length_map] at ⊢;refine⟨b,off,cap,k1,k2,k3,k4,λi r hr=>?_⟩;rw [List.getElem?_map] at hr
 cases hy:L[i]? with
 | none=>rw [hy] at hr;cases hr
 | some y =>
  rw [hy] at hr
  cases hr;have hc:(L.map recC)[i]?=some (recC y):=by rw [List.getElem?_map,hy];rfl
  exact⟨k5 i _ hc 0 _ rfl,k5 i _ hc 1 _ rfl,k5 i _ hc 2 _ rfl,y.2,k5 i _ hc 3 _ rfl,h3 y (List.mem_of_getElem? hy)⟩
theorem aei:wP Tryz.prog 167 171 4 48:=.mk' (z:=.agg #[.int .i64 0, .int .i64 0, .int .i64 0, .slice none 0 0]) Tryz.underlying167 (by kernel_rfl) rfl
theorem Sep.frame {ps:List Pc} {w w':World} (h:Sep ps w):∀ {qs:List Pc},Sep (qs++[Pc.old w.heap.size w]) w'->Sep (qs++ps) w'
 | [],hq=>h.below (hq.bel (n:=w.heap.size) (W0:=w) (by simp))
 | q::qs,hq=>by
  obtain⟨h1,h2,h3⟩:=hq;refine⟨h1,λp hp k hk=>?_,Sep.frame h h3⟩
  rcases List.mem_append.1 hp with h4 | h4
  ·exact h2 p (List.mem_append_left _ h4) k hk
  ·intro h5;have h6:=h2 (Pc.old w.heap.size w) (by simp) k hk;exact h6 (h.lt h4 h5)
theorem Sep.ahR {qs:List Pc} {w0 w w':World} {n:Nat} (h:Sep (qs++[Pc.old w.heap.size w]) w') (hn:n<=w.heap.size) (hb:Below n w0 w):Sep (qs++[Pc.old n w0]) w' :=
 Sep.frame (ps:=[Pc.old n w0]) ⟨⟨hn,hb⟩,λ_ hp=>absurd hp List.not_mem_nil,trivial⟩ h
theorem adS (l:List UInt8) (rs:List F.Rec) (w:World) (hok:F.parse l=some rs) :
  Calls Tryz.prog 104 #[.string (bs l)] w λe w'=>∃ v L,e = .returned (.tuple #[v, .int .i64 0, .int .i64 0])/\L.map (·.1)=rs/\Sep [Pc.row w.heap.size 171 4 v L.length (L.flatMap recC),Pc.iV Gh L,Pc.old w.heap.size w] w':=by
 unfold F.parse at hok
 split at hok
 rotate_left
 ·cases hok
 rename_i hz
 obtain⟨S,hS⟩:∃ S,(bs l).size=S:=⟨_,rfl⟩
 have hSz:S<=20000:=by rw [<- hS,qp];exact hz
 have jO:=bx (show Calls Tryz.prog 114 #[.string (bs l), .int .u8 10] w λe w'=>(∃ v,e = .returned v/\iY w' v (F.split 10 l))/\Below w.heap.size w w' from LY l 10 w (by omega));obtain⟨P,hP⟩:∃ P,F.split 10 l=P:=⟨_,rfl⟩
 have nS:=bx (show ∀ x∈P,x.length<=20000 from λx hx=>by have:=F.Jb 10 l x (by rw [hP];exact hx);omega);rw [hP] at jO hok;obtain⟨m,hm⟩:∃ m,P.length=m:=⟨_,rfl⟩
 have hmz:m<=20001:=by rw [<- hm,<- hP];have:=F.Uu 10 l;omega
 rw [hm] at hok;have nC:=bx hok;have HM:=bx hm;have hm0:P≠[]:=by rw [<- hP];exact F.Zp 10 l
 have LJ:=bx hm0;clear hok hP hz hm hm0
 go_enter Tryz.func104,Tryz.ntmps104
 go_wp2_with fail;refine jO.o.mono ?_;rintro e w1 ⟨⟨v,rfl,hv⟩,hb1⟩;have HV:=bx hv;have HB1:=bx hb1;obtain⟨g,off,cap,rfl,q2,q3,q4,-⟩:=hv.get LJ.o;rw [HM.o] at q2 HV ⊢;have aU:=bx (((Sep.start w1).RY Gh).fP w1.heap.size 4 171);unfold maxLen at q3;clear hv hb1;go_wp2_with fail
 go_loopw [7,5] (λi o wr=>∃ (k:Nat) (L:List (F.Rec×Value)) (oo:Option Addr) (oc:Nat),k<=m/\i = .int .i64 k/\o = .slice oo L.length oc/\L.length<=300/\Box (F.qN P k=some (L.map (·.1)))/\Box (Sep [Pc.row w1.heap.size 171 4 (.slice oo L.length oc) L.length (L.flatMap recC),Pc.iV Gh L,Pc.old w1.heap.size w1] wr)) (λi _ _=>m-(intOf i).toNat)
 case atStart=>exact⟨0,[],none,0,by omega,rfl,rfl,by simp,⟨rfl⟩,aU⟩
 case round =>
  obtain⟨k,L,oo,oc,hk,rfl,rfl,hLl,hpt,hse⟩:=hrel;have aV:=bx (hse.o.bel (n:=w1.heap.size) (W0:=w1) (by simp));clear aU
  by_cases hlt:k<m
  ·obtain⟨s,hs⟩:∃ s,P[k]?=some s:=⟨_,List.getElem?_eq_getElem (by have:=HM.o;omega)⟩
   obtain⟨g',off',cap',e1,-,-,-,h5⟩:=(HV.o.below aV.o).get LJ.o;rw [HM.o] at e1;obtain⟨rfl,rfl,rfl⟩:g=g'/\off=off'/\cap=cap':=by injection e1 with e1 e2 e3;injection e1 with e1;injection e1 with e1 e4 e5;exact⟨e1,e4,e3⟩
   have hck:=h5 k s hs;have hsl:s.length<=20000:=nS.o s (List.mem_of_getElem? hs);have HGD:=bx (show P.getD k []=s by rw [List.getD_eq_getElem?_getD,hs];rfl);obtain⟨nx,hnx⟩:=F.abw (k:=k+1) (by omega) nC.o;have hstep:=hnx;unfold F.qN at hstep;rw [hpt.o,HGD.o] at hstep;simp only at hstep;clear hs e1 h5
   cases hlm:F.zY s with
   | none=>rw [hlm] at hstep;cases hstep
   | some r =>
    rw [hlm] at hstep
    cases r with
    | none =>
     simp only [Option.some.injEq] at hstep;have JE:=bx (an8 s wr hsl hlm);have gW:=bx (show F.qN P (k+1)=some (L.map (·.1)) by rw [hnx,hstep]);clear hlm hnx hstep;go_wp2_with fail;refine JE.o.mono ?_;rintro e w2 ⟨rfl,hb2⟩;have HS2:=bx ((hse.o.below hb2).alloc (.cells #[.int .i64 0, .int .i64 0, .int .i64 0, .slice none 0 0] 171));clear hb2;go_wp2_with fail
     go_roundw
     case rel=>exact⟨k+1,L,oo,oc,hlt,by go_num,rfl,hLl,gW,HS2⟩
     case measure=>simp [intOf];omega
    | some r =>
     obtain⟨a,b,fs⟩:=r;simp only at hstep
     split at hstep
     ·cases hstep
     rename_i abQ
     simp only [Option.some.injEq] at hstep;have HLS:=bx (ag9 s a b fs wr hsl hlm);have gW:=bx (show F.qN P (k+1)=some (L.map (·.1)++[(k+1,a,b,fs)]) by rw [hnx,hstep]);have aoB:L.length<300:=by rw [List.length_map] at abQ;omega
     have e300:((L.length:Int)==300)=false:=by rw [beq_eq_false_iff_ne];omega
     clear hlm hnx hstep abQ;go_wp2_with fail;refine HLS.o.mono ?_;rintro e w2 ⟨⟨fv,rfl,hst,hfr⟩,hb2⟩;obtain⟨fo,fc,rfl,fl1,fl2⟩:=hst.slice;have hS2:=hse.o.Dl (b:=Gh) (y:=((k+1,a,b,fs), .slice fo fs.length fc)) hb2 ⟨hst,λq hq=>(hfr q hq).2⟩ (λq hq=>(hfr q hq).1);have aK:=bx (hS2.alloc (.cells #[.int .i64 ((k:Int)+1), .int .i64 a, .int .i64 b, .slice fo fs.length fc] 171));have bK:=bx (show (w2.alloc (.cells #[.int .i64 ((k:Int)+1), .int .i64 a, .int .i64 b, .slice fo fs.length fc] 171)).heap.size=w2.heap.size+1 by simp);have hbs:=(aK.o.bel (n:=w1.heap.size) (W0:=w1) (by simp)).size;clear hst hfr hb2 hS2;go_wp2_with (at_builtin;refine xR (cs:=recC ((k+1,a,b,fs), .slice fo fs.length fc)) rfl _ _ 167 rfl aei (by decide) aK.o 1 rfl rfl (by rw [bK.o];rfl) rfl (by intro u hu;simp only [recC,List.mem_cons,List.not_mem_nil,or_false] at hu;rcases hu with rfl | rfl | rfl | rfl <;> rfl) (by omega) (by omega) hbs ?_;rintro v' w6 hS6 ⟨go',gc',rfl,-,-⟩)
     have dA:=bx (show Sep [Pc.row w1.heap.size 171 4 (.slice (some ⟨go',0,none⟩) (L++[((k+1,a,b,fs),Value.slice fo fs.length fc)]).length gc') (L++[((k+1,a,b,fs),Value.slice fo fs.length fc)]).length ((L++[((k+1,a,b,fs),Value.slice fo fs.length fc)]).flatMap recC),Pc.iV Gh (L++[((k+1,a,b,fs),Value.slice fo fs.length fc)]),Pc.old w1.heap.size w1] w6 by
      have h8:=Sep.NZ (ps:=[Pc.row w1.heap.size 171 4 (.slice (some ⟨go',0,none⟩) (L.length+1) gc') (L.length+1) (L.flatMap recC++recC ((k+1,a,b,fs), .slice fo fs.length fc)),Pc.iV Gh L,Pc.old w1.heap.size w1]) hS6 1 rfl;rw [List.length_append,List.flatMap_append,List.flatMap_singleton];exact h8)
     clear hS6;go_wp2_with fail
     go_roundw
     case rel=>exact⟨k+1,L++[((k+1,a,b,fs),Value.slice fo fs.length fc)],some ⟨go',0,none⟩,gc',hlt,by go_num,by rw [List.length_append];rfl,by rw [List.length_append];simp;omega,⟨by rw [gW.o,List.map_append];rfl⟩,dA⟩
     case measure=>simp [intOf];omega
  ·obtain rfl:k=m:=by omega
   have HL:=bx (show L.map (·.1)=rs by
    have h1:=hpt.o.symm.trans nC.o
    simpa only [Option.some.injEq] using h1)
   have pX:=bx (Sep.ahR (qs:=[_,_]) hse.o HB1.o.size HB1.o);have O6:=bx HB1.o.size;go_wp2_with fail
   go_ret3
   exact⟨_,L,rfl,HL.o,pX.o.as 0 (p':=Pc.row w.heap.size 171 4 (.slice oo L.length oc) L.length (L.flatMap recC)) rfl (λhr=>own_base hr O6.o) (λ_ hk=>hk)⟩
theorem aaP (l:List UInt8) (rs:List F.Rec) (w:World) (hok:F.parse l=some rs) :
  Calls Tryz.prog 104 #[.string (bs l)] w λe w'=>(∃ v,e = .returned (.tuple #[v, .int .i64 0, .int .i64 0])/\vN w' v rs)/\Below w.heap.size w w' :=
 (adS l rs w hok).mono λ_ _ ⟨v,L,h1,h2,h3⟩ =>
  ⟨⟨v,h1,h2▸vN.dL (h3.row 0 rfl) rfl (λy hy=>(h3.iV 1 rfl y hy).1)⟩,h3.bel (n:=w.heap.size) (W0:=w) (by simp)⟩
theorem amT (c:UInt8) (w:World):Calls Tryz.prog 155 #[.int .u8 (U.aA c)] w λe w'=>e = .returned (.bool (F.letter c))/\w=w':=by
 have h0:=U.oZ c;have h1:=U.qj c;unfold F.letter;generalize U.aA c=x at *;simp only
 go_enter Tryz.func155,Tryz.ntmps155
 go_wp2_with fail
 all_goals go_returns
 all_goals exact⟨aI (by first | rfl | (rw [Bool.eq_iff_iff];simp;done) | (rw [Bool.eq_iff_iff];simp;omega)),rfl⟩
def Jz (o:Option Nat):Value:=match o with
 | some i=>.tuple #[.int .i64 i, .bool true]
 | none=>.tuple #[.int .i64 0, .bool false]
theorem ajh {names:List (List UInt8)} {x:List UInt8} (h:∀ (i:Nat) (y:List UInt8),names[i]?=some y->y≠x):F.valueOf names x=none:=by
 unfold F.valueOf;rw [List.findIdx?_eq_none_iff];intro y hy;obtain⟨i,hi,e⟩:=List.getElem_of_mem hy;have:=h i y (by rw [List.getElem?_eq_getElem hi,e])
 simpa using this
theorem am5 {names:List (List UInt8)} {x:List UInt8} {k:Nat} (hk:names[k]?=some x) (h:∀ (i:Nat) (y:List UInt8),i<k->names[i]?=some y->y≠x):F.valueOf names x=some k:=by
 unfold F.valueOf;have hkl:=(List.getElem?_eq_some_iff.1 hk).1;rw [List.findIdx?_eq_some_iff_getElem];refine⟨hkl,?_,λj hj=>?_⟩
 ·have:=(List.getElem?_eq_some_iff.1 hk).2;simp [this]
 ·have:=h j names[j] hj (List.getElem?_eq_getElem (by omega))
  simpa using this
theorem Rf (v:Value) (names:List (List UInt8)) (x:List UInt8) (w:World) (hv:iY w v names) (hz:names.length<=100000) :
  Calls Tryz.prog 111 #[v, .string (bs x)] w λe w'=>e = .returned (Jz (F.valueOf names x))/\w=w':=by
 have HV:=bx hv;obtain⟨a,cap,rfl,hc1,hc2⟩:=hv.slice;clear hv
 go_enter Tryz.func111,Tryz.ntmps111
 go_wp2_with fail
 go_loop [6] (λi=>∃ k:Nat,k<=names.length/\i = .int .i64 k/\Box (∀ (j:Nat) (y:List UInt8),j<k->names[j]?=some y->y≠x)) (λi=>names.length-(intOf i).toNat)
 case atStart=>exact⟨0,by omega,rfl,⟨λj y h=>by omega⟩⟩
 case round =>
  obtain⟨k,hk,rfl,hno⟩:=hrel
  by_cases hlt:k<names.length
  ·obtain⟨y,hy⟩:∃ y,names[k]?=some y:=⟨_,List.getElem?_eq_getElem hlt⟩
   obtain⟨g,off,cap2,hg1,hg2,hg3,hg4,hg5⟩:=HV.o.get (by rintro rfl;simp at hlt);obtain⟨rfl,rfl⟩:a=some ⟨g,off,none⟩/\cap=cap2:=by injection hg1 with h1 h2 h3;exact⟨h1,h3⟩
   have hck:=hg5 k y hy;have HY:=bx hy;clear hy hg1 hg3 hg5
   by_cases hyx:y=x
   ·subst hyx;have HN:=bx (am5 HY.o hno.o);have e1:((bs y).toList==(bs y).toList)=true:=by simp
    go_wp2_with fail;go_ret2
    exact⟨by rw [HN.o];rfl,rfl⟩
   ·have e1:((bs y).toList==(bs x).toList)=false:=by rw [Ai,Ai,beq_eq_false_iff_ne];exact hyx
    have e2:¬ (bs y).toList=(bs x).toList:=by rw [Ai,Ai];exact hyx
    have HN:=bx (show ∀ (j:Nat) (z:List UInt8),j<k+1->names[j]?=some z->z≠x from λj z hj hz=>by
     rcases Nat.lt_or_ge j k with h1 | h1
     ·exact hno.o j z h1 hz
     ·obtain rfl:j=k:=by omega
      rw [HY.o] at hz
      cases hz;exact hyx)
    clear hyx;go_wp2_with fail
    go_round
    case rel=>exact⟨k+1,hlt,by go_num,HN⟩
    case measure=>simp [intOf];omega
  ·have HN:=bx (ajh (names:=names) (x:=x) (λi y hi=>hno.o i y (by have:=(List.getElem?_eq_some_iff.1 hi).1;omega) hi));go_wp2_with fail;go_ret2
   exact⟨by rw [HN.o];rfl,rfl⟩
theorem iY.take {w:World} {a:Option Addr} {cap:Nat} {xs:List (List UInt8)} (h:iY w (.slice a xs.length cap) xs) (n cap':Nat) (hc:(xs.take n).length<=cap') (hc':cap'<=cap):iY w (.slice a (xs.take n).length cap') (xs.take n):=by
 have:=kG.take (xs:=xs.map pK) (by rw [List.length_map];exact h) n cap' (by rw [<- List.map_take,List.length_map];exact hc) hc';rw [<- List.map_take,List.length_map] at this;exact this
theorem OZ (v:Value) (names:List (List UInt8)) (w:World) (hv:iY w v names) (hok:F.vM names=true) :
  Calls Tryz.prog 110 #[v] w λe w'=>e = .returned (.bool true)/\∃ n,w'=w.drewN n:=by
 unfold F.vM at hok;simp only [Bool.and_eq_true,decide_eq_true_eq,List.all_eq_true] at hok;obtain⟨⟨hall,hn1⟩,hn2⟩:=hok;have fC:=bx hall;have HV:=bx hv;obtain⟨a,cap,rfl,hc1,hc2⟩:=hv.slice;clear hv hall
 go_enter Tryz.func110,Tryz.ntmps110
 go_wp2_with fail
 go_loopw [3] (λi wr=>∃ k:Nat,k<=names.length/\i = .int .i64 k/\∃ n,wr=w.drewN n) (λi _=>names.length-(intOf i).toNat)
 case atStart=>exact⟨0,by omega,rfl,0,rfl⟩
 case round =>
  obtain⟨k,hk,rfl,nd,rfl⟩:=hrel
  by_cases hlt:k<names.length
  ·have hko:=fC.o k (List.mem_range.2 hlt);obtain⟨x,hx⟩:∃ x,names[k]?=some x:=⟨_,List.getElem?_eq_getElem hlt⟩
   have hgd:names.getD k []=x:=by rw [List.getD_eq_getElem?_getD,hx];rfl
   unfold F.Zl at hko;rw [hgd] at hko;simp only [Bool.and_eq_true,decide_eq_true_eq,List.all_eq_true,Option.isNone_iff_eq_none] at hko;obtain⟨⟨⟨k1,k2⟩,k3⟩,k4⟩:=hko;have aku:=bx k1;have HVN:=bx k2;have HDR:=bx (λm=>jG w m);obtain⟨g,off,cap2,hg1,hg2,hg3,hg4,hg5⟩:=(HV.o.below (HDR.o nd)).get (by rintro rfl;simp at hlt);obtain⟨rfl,rfl⟩:a=some ⟨g,off,none⟩/\cap=cap2:=by injection hg1 with h1 h2 h3;exact⟨h1,h3⟩
   have hck:=hg5 k x hx;obtain⟨S,hS⟩:∃ S,(bs x).size=S:=⟨_,rfl⟩
   have uY:=bx (show S=x.length by rw [<- hS];exact qp x);have aoj:S<=40:=by rw [uY.o];exact k4
   have hemp:=BA k3;have ug:=bx (λm=>Rf (.slice (some ⟨g,off,none⟩) (names.take k).length cap) (names.take k) x (w.drewN m) ((HV.o.below (HDR.o m)).take k cap (by rw [List.length_take];omega) (Nat.le_refl _)) (by rw [List.length_take];omega));rw [show (names.take k).length=k by rw [List.length_take];omega,HVN.o] at ug;unfold Jz at ug;simp only at ug;have hcap:k<=cap:=by omega
   have aow:=bx (show ∀ W,(Instr.slice 63 (.slice (some ⟨g,off,none⟩) names.length cap) none (some (.int .i64 (k:Int))) none).run Tryz.prog W = .ok (.slice (some ⟨g,off,none⟩) k cap) W by
    intro W;go_simp)
   clear hx hgd k1 k2 k3 k4 hg1 hg3 hg5;go_wp2_with fail
   go_loopw [4] (λj wr=>∃ i:Nat,i<=S/\j = .int .i64 i/\wr=w.drewN nd) (λj _=>S-(intOf j).toNat)
   case atStart=>exact⟨0,by omega,rfl,rfl⟩
   case round =>
    obtain⟨i,hi,rfl,rfl⟩:=hrel
    by_cases hil:i<S
    ·obtain⟨d,hd⟩:∃ d,x[i]?=some d:=⟨_,List.getElem?_eq_getElem (by rw [<- uY.o];exact hil)⟩
     have hix:=Ag (P:=Tryz.prog) Tryz.underlying9 i hd i rfl;have HLD:=bx (aku.o d (List.mem_of_getElem? hd));clear hd;go_wp2_with fail;refine(amT d _).mono ?_;rintro e w1 ⟨rfl,rfl⟩;rw [HLD.o];go_wp2_with fail
     go_roundw
     case rel=>exact⟨i+1,hil,by go_num,trivial⟩
     case measure=>simp [intOf];omega
    ·go_wp2_with fail;have aC:=bx (show (w.drewN nd).drew.cell? ⟨g,off+k,none⟩=some (.string (bs x)) from hck);refine dO 12 (λW=>W.cell? ⟨g,off+k,none⟩=some (.string (bs x))) (by kernel_rfl) ?_;refine kS 0 ?_ rfl aC.o ?_ ?_;rotate_left
     ·intro w q1;go_simp;try with_reducible rfl
     refine kS 1 ?_ rfl aC.o ?_ ?_;rotate_left
     ·intro w q1;go_simp;try with_reducible rfl
     refine kS 2 ?_ rfl aC.o ?_ ?_;rotate_left
     ·intro w q1;go_simp;try with_reducible rfl
     refine kS 3 ?_ rfl aC.o ?_ ?_;rotate_left
     ·intro w q1;go_simp;try with_reducible rfl
     refine kS 4 ?_ rfl aC.o ?_ ?_;rotate_left
     ·intro w q1;go_simp;try with_reducible rfl
     refine kS 5 ?_ rfl aC.o ?_ ?_;rotate_left
     ·intro w q1;go_simp;try with_reducible rfl
     refine kS 6 ?_ rfl aC.o ?_ ?_;rotate_left
     ·intro w q1;go_simp;try with_reducible rfl
     refine kP 7 rfl λKK aj=>?_
     go_simp;go_wp2_with (go_at_call 111;refine(ug.o (nd+1)).mono ?_;rintro e w4 ⟨rfl,rfl⟩)
     refine aj.out _ _ (λ_=>aC.o) ?_;clear aj KK;refine kS 8 ?_ rfl aC.o ?_ ?_;rotate_left
     ·intro w q1;go_simp;try with_reducible rfl
     refine kS 9 ?_ rfl aC.o ?_ ?_;rotate_left
     ·intro w q1;go_simp;try with_reducible rfl
     refine kS 10 ?_ rfl aC.o ?_ ?_;rotate_left
     ·intro w q1;go_simp;try with_reducible rfl
     refine kP 11 rfl λKK aj=>?_
     go_simp;refine aj.out _ _ (λ_=>aC.o) ?_;clear aj KK;refine kP 12 rfl λKK aj=>?_
     go_simp;refine aj.out _ _ (λh=>by cases h) ?_;clear aj KK;refine kD ?_ _;have ao7:(w.drewN (nd+1)).cell? ⟨g,off+k,none⟩=some (.string (bs x)):=hck;go_wp2_with fail
     go_roundw
     case rel=>exact⟨k+1,hlt,by go_num,nd+1,rfl⟩
     case measure=>simp [intOf];omega
  ·go_wp2_with fail;go_ret
   exact⟨aI (decide_eq_true (by omega)),nd,rfl⟩
end
section
open Go.Shelf Go.Proofs
def afd:Go.Shelf.Ren:=⟨fun | 189=>231 | 125=>235 | 257=>234 | 128=>244 | 129=>245 | 294=>236 | 295=>237 | 296=>238 | 297=>239 | 298=>240 | 299=>241 | 216=>126 | 300=>242 | 301=>243 | 328=>246 | 329=>247 | 330=>248 | 331=>249 | 332=>250 | 215=>167 | 343=>251 | n=>n,fun | 28=>23 | 3=>3 | 46=>227 | 0=>0 | 51=>337 | 53=>339 | 4=>4 | 183=>331 | 182=>330 | 131=>152 | 5=>5 | 9=>9 | 218=>340 | 222=>344 | 228=>346 | 229=>161 | n=>n,fun | n=>n⟩
theorem YW:Go.Proofs.Lays.n189 Tryz.prog afd:={
 mixed:=by kernel_rfl
 f125:=Tryz.func235.trans (congrArg some (by kernel_rfl))
 f128:=Tryz.func244.trans (congrArg some (by kernel_rfl))
 f129:=Tryz.func245.trans (congrArg some (by kernel_rfl))
 f189:=Tryz.func231.trans (congrArg some (by kernel_rfl))
 f215:=Tryz.func167.trans (congrArg some (by kernel_rfl))
 f216:=Tryz.func126.trans (congrArg some (by kernel_rfl))
 f257:=Tryz.func234.trans (congrArg some (by kernel_rfl))
 f294:=Tryz.func236.trans (congrArg some (by kernel_rfl))
 f295:=Tryz.func237.trans (congrArg some (by kernel_rfl))
 f296:=Tryz.func238.trans (congrArg some (by kernel_rfl))
 f297:=Tryz.func239.trans (congrArg some (by kernel_rfl))
 f298:=Tryz.func240.trans (congrArg some (by kernel_rfl))
 f299:=Tryz.func241.trans (congrArg some (by kernel_rfl))
 f300:=Tryz.func242.trans (congrArg some (by kernel_rfl))
 f301:=Tryz.func243.trans (congrArg some (by kernel_rfl))
 f328:=Tryz.func246.trans (congrArg some (by kernel_rfl))
 f329:=Tryz.func247.trans (congrArg some (by kernel_rfl))
 f330:=Tryz.func248.trans (congrArg some (by kernel_rfl))
 f331:=Tryz.func249.trans (congrArg some (by kernel_rfl))
 f332:=Tryz.func250.trans (congrArg some (by kernel_rfl))
 f343:=Tryz.func251.trans (congrArg some (by kernel_rfl))
 t0:=Tryz.underlying0
 a0:=Tryz.isAgg0
 z0:=Tryz.sizeOf0
 v0:=Tryz.zeroValue0
 t3:=Tryz.underlying3
 a3:=Tryz.isAgg3
 z3:=Tryz.sizeOf3
 v3:=Tryz.zeroValue3
 t4:=Tryz.underlying4
 a4:=Tryz.isAgg4
 z4:=Tryz.sizeOf4
 v4:=Tryz.zeroValue4
 t5:=Tryz.underlying5
 a5:=Tryz.isAgg5
 z5:=Tryz.sizeOf5
 v5:=Tryz.zeroValue5
 t9:=Tryz.underlying9
 a9:=Tryz.isAgg9
 z9:=Tryz.sizeOf9
 v9:=Tryz.zeroValue9
 t28:=Tryz.underlying23
 a28:=Tryz.isAgg23
 z28:=Tryz.sizeOf23
 v28:=Tryz.zeroValue23
 t46:=Tryz.underlying227
 a46:=Tryz.isAgg227
 z46:=Tryz.sizeOf227
 v46:=Tryz.zeroValue227
 t51:=Tryz.underlying337
 a51:=Tryz.isAgg337
 z51:=Tryz.sizeOf337
 v51:=Tryz.zeroValue337
 t53:=Tryz.underlying339
 a53:=Tryz.isAgg339
 z53:=Tryz.sizeOf339
 v53:=Tryz.zeroValue339
 t131:=Tryz.underlying152
 a131:=Tryz.isAgg152
 z131:=Tryz.sizeOf152
 v131:=Tryz.zeroValue152
 t182:=Tryz.underlying330
 a182:=Tryz.isAgg330
 z182:=Tryz.sizeOf330
 v182:=Tryz.zeroValue330
 t183:=Tryz.underlying331
 a183:=Tryz.isAgg331
 z183:=Tryz.sizeOf331
 v183:=Tryz.zeroValue331
 t218:=Tryz.underlying340
 a218:=Tryz.isAgg340
 z218:=Tryz.sizeOf340
 v218:=Tryz.zeroValue340
 t222:=Tryz.underlying344
 a222:=Tryz.isAgg344
 z222:=Tryz.sizeOf344
 v222:=Tryz.zeroValue344
 t228:=Tryz.underlying346
 a228:=Tryz.isAgg346
 z228:=Tryz.sizeOf346
 v228:=Tryz.zeroValue346
 t229:=Tryz.underlying161
 a229:=Tryz.isAgg161
 z229:=Tryz.sizeOf161
 v229:=Tryz.zeroValue161 }
open Go.Sort Go.RowKit in
theorem af5 (blk off cap:Nat) (zs:List Int) (w:World) (hH:Go.Sort.Holds (Value.int .i64) w blk off zs.toArray) (hblk:blk<w.heap.size) (hsz:zs.length<4611686018427387904) :
  Calls Tryz.prog 231 #[.slice (some ⟨blk,off,none⟩) zs.length cap] w λe w' =>
   e = .returned (.tuple #[])/\∃ n os,w'=grow (putRow (Value.int .i64) (Sort.ahead w n) blk off (zs.mergeSort λx y=>decide (x<=y)).toArray) os:=Any.slices_Sort_int YW blk off cap zs w hH hblk hsz
def anS:Go.Shelf.Ren:=⟨fun | 20=>232 | n=>n,fun | 22=>23 | 3=>3 | 4=>4 | 0=>0 | n=>n,fun | n=>n⟩
theorem XV:Go.Proofs.Lays2.n20 Tryz.prog anS:={
 mixed:=by kernel_rfl
 f20:=Tryz.func232.trans (congrArg some (by kernel_rfl))
 t0:=Tryz.underlying0
 a0:=Tryz.isAgg0
 z0:=Tryz.sizeOf0
 v0:=Tryz.zeroValue0
 t3:=Tryz.underlying3
 a3:=Tryz.isAgg3
 z3:=Tryz.sizeOf3
 v3:=Tryz.zeroValue3
 t4:=Tryz.underlying4
 a4:=Tryz.isAgg4
 z4:=Tryz.sizeOf4
 v4:=Tryz.zeroValue4
 t22:=Tryz.underlying23
 a22:=Tryz.isAgg23
 z22:=Tryz.sizeOf23
 v22:=Tryz.zeroValue23
 i3:=by kernel_rfl }
open Go.RowKit Go.Lib Go.Sort in
theorem agV (blk off cap:Nat) (zs:List Int) (w:World) (hH:Go.Sort.Holds (Value.int .i64) w blk off zs.toArray) (hsz:zs.length<=9223372036854775807) (hcap:zs.length<=cap) :
  Calls Tryz.prog 232 #[.slice (some ⟨blk,off,none⟩) zs.length cap] w λe w'=>e = .returned (.slice (some ⟨blk,off,none⟩) (Lib.compact zs).length cap)/\∃ q,w'=putRow (Value.int .i64) (Sort.ahead w q) blk off (Lib.compact zs++List.replicate (zs.length-(Lib.compact zs).length) 0).toArray:=Any.slices_Compact_int XV blk off cap zs w hH hsz hcap
open Go.RowKit Go.Lib Go.Sort in
theorem amD (a:Option Addr) (cap:Nat) (w:World) :
  Calls Tryz.prog 232 #[.slice a 0 cap] w λe w'=>e = .returned (.slice a 0 cap)/\w'=w:=Any.slices_Compact_int_empty XV a cap w
open Go.RowKit Go.Sort in
theorem aef (p:Option Addr) (cap:Nat) (w:World) :
  Calls Tryz.prog 231 #[.slice p 0 cap] w λe w'=>e = .returned (.tuple #[])/\w'=w:=Any.slices_Sort_int_none YW p cap w
end
section
open Go.RowKit Go.Sort
def qy (zs:List Int):List Int:=zs.mergeSort λx y=>decide (x<=y)
theorem acg (zs:List Int):(qy zs).length=zs.length:=List.length_mergeSort _
theorem agE {ps:List Pc} {W:World} (h:Sep ps W) (i:Nat) {base n:Nat} {e:TypeId} {v:Value} {zs:List Int} (hi:ps[i]?=some (Pc.row base e 1 v n (zs.map (Value.int .i64)))) (hn:n=zs.length) (hz:n<=1000000) :
  Calls Tryz.prog 231 #[v] W λe' W'=>e' = .returned (.tuple #[])/\Sep (ps.set i (Pc.row base e 1 v n ((qy zs).map (Value.int .i64)))) W':=by
 subst hn;have hrow:=h.row i hi
 rcases hrow.2 with⟨rfl,h2⟩ | ⟨g,cap,cur,rfl,hb,hg,h3,h4,h5,h6⟩
 ·have hz0:zs=[]:=List.eq_nil_of_length_eq_zero h2;subst hz0;refine(aef none 0 W).mono ?_;rintro e' W' ⟨rfl,rfl⟩;refine⟨rfl,?_⟩;have e1:ps.set i (Pc.row base e 1 (.slice none 0 0) ([]:List Int).length ((qy []).map (Value.int .i64)))=ps:=by
   obtain⟨k1,k2⟩:=List.getElem?_eq_some_iff.1 hi;rw [show (qy []).map (Value.int .i64)=([]:List Int).map (Value.int .i64) by simp [qy],<- k2,List.set_getElem_self]
  rw [e1];exact h
 ·rw [Nat.mul_one] at h6;refine(af5 g 0 cap zs W (holds_of_blockI hg h6) (Array.getElem?_eq_some_iff.1 hg).1 (by omega)).mono ?_;rintro e' W' ⟨rfl,n,os,rfl⟩;exact⟨rfl,h.grow i hi (grownBy_sortedI _) (ownsRow_sortedI (acg zs) hb hg h3 h4 h5) (.inl rfl)⟩
end
section
open Go.Sort
theorem Ti (d:Array Int) (hd:∀ i j,i<=j->j<d.size->d[i]!<=d[j]!):∀ m,m<=d.size ->
  (Lib.compactUpTo d m).Pairwise (·<·)/\(∀ x∈Lib.compactUpTo d m,∃ j,j<m/\x=d[j]!)/\∀ j,j<m->d[j]!∈Lib.compactUpTo d m
 | 0,_=>by
  refine⟨?_,?_,λj hj=>by omega⟩ <;> simp [Lib.compactUpTo]
 | m+1,hm=>by
  obtain⟨h1,h2,h3⟩:=Ti d hd m (by omega);rw [Lib.compactUpTo_succ]
  by_cases hk:Lib.keeps d m=true
  ·rw [if_pos hk];refine⟨List.pairwise_append.2 ⟨h1,List.pairwise_singleton _ _,λx hx y hy=>?_⟩,?_,?_⟩
   ·obtain rfl:=List.mem_singleton.1 hy;obtain⟨j,hj,rfl⟩:=h2 x hx;have hne:d[m]!≠d[m-1]!:=by
     unfold Lib.keeps at hk
     rcases of_decide_eq_true hk with h | h
     ·omega
     ·exact h
    have a:=hd j (m-1) (by omega) (by omega);have b:=hd (m-1) m (by omega) (by omega);omega
   ·intro x hx
    rcases List.mem_append.1 hx with h | h
    ·obtain⟨j,hj,e⟩:=h2 x h;exact⟨j,by omega,e⟩
    ·exact⟨m,by omega,List.mem_singleton.1 h⟩
   ·intro j hj
    rcases Nat.lt_or_ge j m with h | h
    ·exact List.mem_append.2 (.inl (h3 j h))
    ·obtain rfl:j=m:=by omega
     exact List.mem_append.2 (.inr (List.mem_singleton.2 rfl))
  ·rw [if_neg hk,List.append_nil];refine⟨h1,λx hx=>?_,λj hj=>?_⟩
   ·obtain⟨j,hj,e⟩:=h2 x hx;exact⟨j,by omega,e⟩
   ·rcases Nat.lt_or_ge j m with h | h
    ·exact h3 j h
    ·obtain rfl:j=m:=by omega
     have hn:¬ (j=0\/d[j]!≠d[j-1]!):=λh=>hk (by unfold Lib.keeps;exact decide_eq_true h)
     have h0:j≠0:=λh=>hn (.inl h)
     have he:d[j]! = d[j-1]!:=Classical.byContradiction λh=>hn (.inr h)
     rw [he];exact h3 (j-1) (by omega)
theorem X4 (zs:List Int):∀ i j,i<=j->j<(qy zs).toArray.size->(qy zs).toArray[i]!<=(qy zs).toArray[j]!:=by
 intro i j hij hj;have hp:(qy zs).Pairwise (λa b=>decide (a<=b)=true):=List.pairwise_mergeSort (λa b c h1 h2=>by simp at *;omega) (λa b=>by simp;omega) zs
 rcases Nat.eq_or_lt_of_le hij with e | h
 ·subst e;exact Int.le_refl _
 ·have hj':j<(qy zs).length:=by simpa using hj
  have:=List.pairwise_iff_getElem.1 hp i j (by omega) hj' h;simp only [decide_eq_true_eq] at this;have hi':i<(qy zs).toArray.size:=by rw [List.size_toArray];omega
  rw [getElem!_pos (qy zs).toArray i hi',getElem!_pos (qy zs).toArray j hj]
  simpa using this
def IL (zs:List Int):List Int:=Lib.compact (qy zs)
theorem ajB (zs:List Int):(IL zs).Pairwise (·<·):=(Ti (qy zs).toArray (X4 zs) (qy zs).length (by simp)).1
theorem abX (zs:List Int) (x:Int):x∈IL zs↔x∈zs:=by
 obtain⟨-,h2,h3⟩:=Ti (qy zs).toArray (X4 zs) (qy zs).length (by simp);have hm:x∈qy zs↔x∈zs:=List.mem_mergeSort;rw [<- hm]
 constructor
 ·intro h;obtain⟨j,hj,rfl⟩:=h2 x h;rw [getElem!_pos _ _ (by simpa using hj)];simp
 ·intro h;obtain⟨j,hj,e⟩:=List.getElem_of_mem h;have:=h3 j hj;rw [getElem!_pos _ _ (by simpa using hj)] at this;rw [List.getElem_toArray,e] at this;exact this
theorem ab6:∀ (l:List Int) (lo hi:Int),l.Pairwise (·<·)->(∀ x∈l,lo<=x/\x<=hi)->l.length<=(hi-lo+1).toNat
 | [],_,_,_,_=>Nat.zero_le _
 | x::l,lo,hi,hp,hb=>by
  have h1:=hb x (List.mem_cons_self ..);have h2:=List.pairwise_cons.1 hp;have:=ab6 l (x+1) hi h2.2 (λy hy=>⟨by have:=h2.1 y hy;omega,(hb y (List.mem_cons_of_mem _ hy)).2⟩);rw [List.length_cons];omega
namespace N
def rl (cs:List Int) (s:Int) (a:Nat):Nat:=((cs.drop a).takeWhile λc=>kU s c).length
def nx (cs:List Int) (x:Item) (a:Nat):List Nat :=
 if x.2=0 then (if rl cs x.1 a=0 then [] else [a+1])
 else if x.2=1 then (List.range (rl cs x.1 a+1)).map (a+·)
 else ((List.range (rl cs x.1 a+1)).filter λd=>d % 2==0).map (a+·)
theorem ML (cs:List Int) (s:Int) (a:Nat) (h:a<=cs.length):a+rl cs s a<=cs.length:=by
 have:=(List.takeWhile_sublist (l:=cs.drop a) (λc=>kU s c)).length_le;rw [List.length_drop] at this;unfold rl;omega
theorem alY (cs:List Int) (x:Item) (a b:Nat) (h:a<=cs.length) (hb:b∈nx cs x a):a<=b/\b<=cs.length:=by
 have h1:=ML cs x.1 a h;unfold nx at hb
 split at hb
 ·split at hb
  ·exact absurd hb List.not_mem_nil
  ·rename_i h0
   have:=List.mem_singleton.1 hb;omega
 ·split at hb
  ·obtain⟨d,hd,rfl⟩:=List.mem_map.1 hb;have:=List.mem_range.1 hd;omega
  ·obtain⟨d,hd,rfl⟩:=List.mem_map.1 hb;have:=List.mem_range.1 (List.mem_filter.1 hd).1;omega
theorem amf (cs:List Int) (x:Item) (a:Nat) (h:a<=cs.length):(nx cs x a).length<=cs.length+1:=by
 have h1:=ML cs x.1 a h;unfold nx
 split
 ·split
  ·exact Nat.zero_le _
  ·simp
 ·split
  ·simp only [List.length_map,List.length_range];omega
  ·have:=List.length_filter_le (λd=>d % 2==0) (List.range (rl cs x.1 a+1));rw [List.length_range] at this;simp only [List.length_map];omega
theorem XE {cs:List Int} {s:Int} {a k:Nat} (h:k<rl cs s a):∃ c,cs[a+k]?=some c/\kU s c=true:=by
 obtain⟨c,h1,h2⟩:=(N8 (λc=>kU s c) (cs.drop a) (rl cs s a)).2 (Nat.le_refl _) k h;exact⟨c,by rwa [List.getElem?_drop] at h1,h2⟩
theorem ahB {cs:List Int} {s:Int} {a:Nat} (h:a+rl cs s a<cs.length):∃ c,cs[a+rl cs s a]?=some c/\kU s c=false:=by
 obtain⟨c,hc⟩:∃ c,cs[a+rl cs s a]?=some c:=⟨_,List.getElem?_eq_getElem h⟩
 refine⟨c,hc,?_⟩;rw [Bool.eq_false_iff];intro hh;have:=(N8 (λc=>kU s c) (cs.drop a) (rl cs s a+1)).1 (λx hx=>by
  rcases Nat.lt_or_ge x (rl cs s a) with h1 | h1
  ·obtain⟨d,h2,h3⟩:=XE h1;exact⟨d,by rw [List.getElem?_drop];exact h2,h3⟩
  ·obtain rfl:x=rl cs s a:=by omega
   exact⟨c,by rw [List.getElem?_drop];exact hc,hh⟩)
 unfold rl at this;omega
end N
def jM (cs:List Int) (x:N.Item) (a:Int):List Int:=(N.nx cs x a.toNat).map λn:Nat=>(n:Int)
def mM (cs:List Int) (l:List N.Item) (a:Int) (k:Nat):List Int:=(l.take k).foldl (λout x=>IL (out.flatMap (jM cs x))) [a]
theorem Jw (cs:List Int) (l:List N.Item) (a:Int):mM cs l a 0=[a]:=by simp [mM]
theorem Og (cs:List Int) (l:List N.Item) (a:Int) (k:Nat) (x:N.Item) (h:l[k]?=some x):mM cs l a (k+1)=IL ((mM cs l a k).flatMap (jM cs x)):=by
 unfold mM;rw [List.take_add_one,h,List.foldl_append]
 rfl
theorem ahI (cs:List Int) (x:N.Item) (a:Int) (h0:0<=a) (h1:a<=cs.length):∀ b∈jM cs x a,0<=b/\b<=cs.length:=by
 intro b hb;obtain⟨n,hn,rfl⟩:=List.mem_map.1 hb;have:=N.alY cs x a.toNat n (by omega) hn;omega
theorem abk (cs:List Int) (x:N.Item) (a:Int) (h0:0<=a) (h1:a<=cs.length):(jM cs x a).length<=cs.length+1:=by
 unfold jM;rw [List.length_map];exact N.amf cs x a.toNat (by omega)
theorem afY (cs:List Int) (x:N.Item) (out:List Int) (h:∀ b∈out,0<=b/\b<=cs.length):∀ b∈out.flatMap (jM cs x),0<=b/\b<=cs.length:=by
 intro b hb;obtain⟨a,ha,hb⟩:=List.mem_flatMap.1 hb;exact ahI cs x a (h a ha).1 (h a ha).2 b hb
theorem RN (cs:List Int) (l:List N.Item) (a:Int) (h0:0<=a) (h1:a<=cs.length):∀ k,k<=l.length->∀ b∈mM cs l a k,0<=b/\b<=cs.length
 | 0,_=>by
  rw [Jw];intro b hb;rw [List.mem_singleton.1 hb];exact⟨h0,h1⟩
 | k+1,hk=>by
  rw [Og cs l a k _ (List.getElem?_eq_getElem (by omega))];intro b hb;exact afY cs _ _ (RN cs l a h0 h1 k (by omega)) b ((abX _ b).1 hb)
theorem aiu (cs:List Int) (l:List N.Item) (a:Int) (h0:0<=a) (h1:a<=cs.length) (k:Nat) (hk:k<=l.length):(mM cs l a k).length<=cs.length+1:=by
 cases k with
 | zero=>rw [Jw];simp
 | succ k =>
  have hm:=RN cs l a h0 h1 (k+1) hk;rw [Og cs l a k _ (List.getElem?_eq_getElem (by omega))] at hm ⊢;have:=ab6 _ 0 cs.length (ajB _) hm;omega
theorem UN (cs:List Int) (x:N.Item):∀ (out:List Int),(∀ b∈out,0<=b/\b<=cs.length)->(out.flatMap (jM cs x)).length<=out.length*(cs.length+1)
 | [],_=>by simp
 | a::t,h=>by
  have ih:=UN cs x t (λb hb=>h b (List.mem_cons_of_mem _ hb));have ha:=h a (List.mem_cons_self ..);have:=abk cs x a ha.1 ha.2;rw [List.flatMap_cons,List.length_append,List.length_cons,Nat.succ_mul];omega
end
end Go.Proofs.YtlmdjifffmofeaaGreatDoor
