/- Texts of this claim. -/
import Derived.Test.YtdponihkpomheaaGreatDoorH13

set_option maxRecDepth 100000
set_option maxHeartbeats 8000000
namespace Go.Proofs.YtdponihkpomheaaGreatDoor
open Go.RowKit
attribute [local go_sem] Oper.semAt_some
open Tryz
def F.P6 (x:F.Rec):Option (Bool×List Int) :=
 if x.2.1=x.2.2.1/\U.right x.2.1=true/\14<=x.2.2.2.length then
  match F.Au (x.2.2.2.getD 11 []),F.Au (x.2.2.2.getD 12 []),F.Au (x.2.2.2.getD 13 []) with
  | some [],some (s::t),some []=>some (true,s::t)
  | some _,some [],some (s::t)=>some (false,s::t)
  | _,_,_=>none
 else none
def F.vX (rs:List F.Rec):Nat->Option (List Int×List F.Map×List F.Map)
 | 0=>some ([],[],[])
 | k+1=>match F.vX rs k with
  | none=>none
  | some (met,lo,ti)=>match F.P6 (rs.getD k (0,0,0,[])) with
   | none=>none
   | some (b,o)=>if met.contains (rs.getD k (0,0,0,[])).2.1=true then none else some (met++[(rs.getD k (0,0,0,[])).2.1],if b=true then F.Ec lo (rs.getD k (0,0,0,[])).2.1 o else lo,if b=true then ti else F.Ec ti (rs.getD k (0,0,0,[])).2.1 o)
theorem F.agw {rs:List F.Rec} {k:Nat}:∀ {n:Nat} {r:List Int×List F.Map×List F.Map},k<=n->F.vX rs n=some r->∃ q,F.vX rs k=some q
 | 0,r,hk,h=>by obtain rfl:k=0:=(by omega);exact⟨r,h⟩
 | n+1,r,hk,h=>by
  rcases gZ k (n+1) with h1 | h1
  ·unfold F.vX at h
   cases hq:F.vX rs n with
   | none=>rw [hq] at h;cases h
   | some q=>exact F.agw (by omega) hq
  obtain rfl:k=n+1:=by omega
  exact⟨r,h⟩
theorem F.ala {rs:List F.Rec} {k:Nat} {x:F.Rec} {met:List Int} {lo ti:List F.Map} {r:List Int×List F.Map×List F.Map} (hx:rs[k]?=some x) (hq:F.vX rs k=some (met,lo,ti)) (hr:F.vX rs (k+1)=some r) :
  ∃ b o,F.P6 x=some (b,o)/\met.contains x.2.1=false/\r=(met++[x.2.1],if b=true then F.Ec lo x.2.1 o else lo,if b=true then ti else F.Ec ti x.2.1 o):=by
 have hgd:rs.getD k (0,0,0,[])=x:=by rw [fO,hx];rfl
 unfold F.vX at hr;rw [hq,hgd] at hr;simp only at hr
 cases hb:F.P6 x with
 | none=>rw [hb] at hr;cases hr
 | some y =>
  obtain⟨b,o⟩:=y;rw [hb] at hr;simp only at hr
  split at hr
  ·cases hr
  rename_i h
  cases hr;exact⟨b,o,rfl,by simpa using h,rfl⟩
theorem F.arL {x:F.Rec} {b:Bool} {o:List Int} (h:F.P6 x=some (b,o)):x.2.1=x.2.2.1/\U.right x.2.1=true/\14<=x.2.2.2.length/\o≠[] /\
  ((b=true/\F.Au (x.2.2.2.getD 11 [])=some []/\F.Au (x.2.2.2.getD 12 [])=some o/\F.Au (x.2.2.2.getD 13 [])=some [])\/(b=false/\(∃ q,F.Au (x.2.2.2.getD 11 [])=some q)/\F.Au (x.2.2.2.getD 12 [])=some []/\F.Au (x.2.2.2.getD 13 [])=some o)):=by
 unfold F.P6 at h
 split at h
 ·rename_i hc
  refine⟨hc.1,hc.2.1,hc.2.2,?_⟩
  split at h
  ·rename_i h1 h2 h3
   cases h;exact⟨by simp, .inl ⟨rfl,h1,h2,h3⟩⟩
  ·rename_i h1 h2 h3
   cases h;exact⟨by simp, .inr ⟨rfl,⟨_,h1⟩,h2,h3⟩⟩
  cases h
 cases h
def AQ {α:Type} (key:α->Int) (l:List α) (x:α):List α :=
 l.takeWhile (λy=>decide (key y<key x))++x::match l.dropWhile (λy=>decide (key y<key x)) with
  | []=>[]
  | z::q=>if key z=key x then q else z::q
theorem aeQ {α β:Type} {ka:α->Int} {kb:β->Int} (f:α->β) (hf:∀ x,kb (f x)=ka x) (l:List α) (x:α):(AQ ka l x).map f=AQ kb (l.map f) (f x):=by
 unfold AQ;rw [gX,iR,List.takeWhile_map,List.dropWhile_map];have e:(λy=>decide (kb y<kb (f x)))∘f=λy=>decide (ka y<ka x):=by
  funext y
  simp [hf]
 rw [e]
 congr 2
 cases l.dropWhile (λy=>decide (ka y<ka x)) with
 | nil=>rfl
 | cons z q =>
  simp only [iR,hf]
  split <;> rfl
theorem atQ {α:Type} {key:α->Int} {l:List α} {x y:α} (h:y∈AQ key l x):y∈l\/y=x:=by
 unfold AQ at h
 rcases lM.1 h with h | h
 ·exact .inl (List.takeWhile_subset _ h)
 rcases fB.1 h with h | h
 ·exact .inr h
 split at h
 ·cases h
 rename_i z q hq
 refine .inl ((List.dropWhile_subset (λy=>decide (key y<key x)):_ ⊆ l) ?_);rw [hq]
 split at h
 ·exact mZ _ h
 exact h
theorem aif {α:Type} (key:α->Int) (l:List α) (x:α):(AQ key l x).length<=l.length+1:=by
 unfold AQ;have:=congrArg List.length (List.takeWhile_append_dropWhile (p:=λy=>decide (key y<key x)) (l:=l));rw [bC] at this;rw [bC,dY]
 split
 ·simp;omega
 rename_i z q hq
 rw [hq,dY] at this
 split <;> simp <;> omega
theorem aoM (l:List (Int×Value)) (r:Int) (t:Value):AQ (λy:Int×Value=>y.1) l (r,t)=uD l r t:=by
 unfold AQ uD;simp only
 cases l.dropWhile (λy=>decide (y.1<r)) <;> rfl
theorem asn (l:List F.Map) (r:Int) (o:List Int):AQ (λy:F.Map=>y.1) l (r,o)=F.Ec l r o:=by
 unfold AQ F.Ec;simp only
 cases l.dropWhile (λy=>decide (y.1<r)) <;> rfl
abbrev lJ:=F.Map×Value
def pr (y:lJ):Int×Value:=(y.1.1,y.2)
def vk (l:List lJ) (r:Int) (o:List Int) (t:Value):List lJ:=AQ (λy:lJ=>y.1.1) l ((r,o),t)
theorem agQ (l:List lJ) (r:Int) (o:List Int) (t:Value):(vk l r o t).map pr=uD (l.map pr) r t:=by
 exact aeQ (ka:=λy:lJ=>y.1.1) (kb:=λy:Int×Value=>y.1) pr (λ_=>rfl) l ((r,o),t) |>.trans (aoM _ _ _)
theorem agc (l:List lJ) (r:Int) (o:List Int) (t:Value):(vk l r o t).map (·.1)=F.Ec (l.map (·.1)) r o:=by
 exact aeQ (ka:=λy:lJ=>y.1.1) (kb:=λy:F.Map=>y.1) (λy:lJ=>y.1) (λ_=>rfl) l ((r,o),t) |>.trans (asn _ _ _)
def Iw:Array Value:=#[aj, aj, aj, aj, aj, aj]
abbrev KG (n:Nat) (W0:World) (C R:Nat) (lv tv mv rv:Value) (met:List Int) (LO TI:List lJ) (B:List (Value×List Int)) (RL:List (F.Rec×Value)):List Pc :=
 [Pc.blk C 36 #[lv,tv, aj, aj, aj, aj],Pc.row n 3 1 mv met.length (met.map (Value.int .i64)),
  Pc.row n 272 2 lv (LO.map pr).length ((LO.map pr).flatMap fK),Pc.row n 272 2 tv (TI.map pr).length ((TI.map pr).flatMap fK),Pc.jQ qO B,
  Pc.row n 242 4 rv RL.length (RL.flatMap recC),Pc.jQ I5 RL,Pc.blk R 36 Iw,Pc.old n W0]
theorem TM:(prog.info? 36).map (·.size)=some 6:=by kernel_rfl
def sU (L:List lJ) (B:List (Value×List Int)):Prop:=∀ y∈L,(y.2,y.1.2)∈B/\isSlice y.2
theorem sU.more {L:List lJ} {B:List (Value×List Int)} {z:Value×List Int} (h:sU L B):sU L (B++[z]):=λy hy=>⟨List.mem_append_left _ (h y hy).1,(h y hy).2⟩
theorem sU.put {L:List lJ} {B:List (Value×List Int)} {r:Int} {o:List Int} {t:Value} (h:sU L B) (ht:isSlice t):sU (vk L r o t) (B++[(t,o)]):=λy hy=>by
 rcases atQ hy with h1 | rfl
 ·exact h.more y h1
 exact⟨List.mem_append_right _ (fU.2 rfl),ht⟩
theorem sU.prs {L:List lJ} {B:List (Value×List Int)} (h:sU L B):∀ y∈L.map pr,isSlice y.2:=λy hy=>by
 obtain⟨z,hz,rfl⟩:=jM.1 hy;exact(h z hz).2
theorem Ve {w:World} {n:Nat} {T:TypeId} {v:Value} {L:List (Int×Value)} (h:w.ownsRow n T 2 v L.length (L.flatMap fK)):nZ 2 w v (L.map fK):=by
 rw [QV] at h;exact nZ.iy h (by rw [aV]) (λc hc=>by obtain⟨y,-,rfl⟩:=jM.1 hc;rfl)
theorem F.axm {s:List UInt8} {a b:Int} {fs:List (List UInt8)} (h:F.Dl s=some (some (a,b,fs))) (hz:s.length<=20000):∀ f∈fs,f.length<=20000:=by
 obtain⟨-,-,-,-,-,-,hfs⟩:=F.VU h;intro f hf;rw [hfs] at hf;obtain⟨q,hq,rfl⟩:=jM.1 (List.mem_of_mem_tail hf);have h1:=F.JD q;have h2:=F.J7 59 _ q hq;have h3:=F.JD ((F.split 35 s).headD []);obtain⟨h,t,hs,hl⟩:=Qx 35 s;rw [hs,List.headD_cons] at h2 h3;omega
theorem F.amy {s:List UInt8} {rs:List F.Rec} (h:F.parse s=some rs):∀ r∈rs,∀ f∈r.2.2.2,f.length<=20000:=by
 unfold F.parse at h
 split at h
 rotate_left
 ·cases h
 rename_i hz
 have key:∀ {L:List (List UInt8)},(∀ x∈L,x.length<=20000)->∀ {k:Nat} {rs:List F.Rec},F.sN L k=some rs->∀ r∈rs,∀ f∈r.2.2.2,f.length<=20000:=by
  intro L hL k
  induction k with
  | zero=>intro rs h r hr;cases h;exact absurd hr iH
  | succ k ih =>
   intro rs h;unfold F.sN at h
   cases hq:F.sN L k with
   | none=>rw [hq] at h;cases h
   | some q =>
    rw [hq] at h;simp only at h;have ih:=ih hq;have hlk:(L.getD k []).length<=20000:=by
     rw [fO]
     cases hk:L[k]? with
     | none=>simp
     | some x=>exact hL x (dB hk)
    cases hl:F.Dl (L.getD k []) with
    | none=>rw [hl] at h;cases h
    | some y =>
     rw [hl] at h
     cases y with
     | none=>simp only [iQ] at h;rw [<- h];exact ih
     | some y =>
      obtain⟨a,b,fs⟩:=y;simp only at h
      split at h
      ·cases h
      simp only [iQ] at h;rw [<- h];intro r hr
      rcases lM.1 hr with h1 | h1
      ·exact ih r h1
      rw [fU.1 h1];exact F.axm hl hlk
 exact key (λx hx=>by have:=F.J7 10 s x hx;omega) h
theorem amb (s:List UInt8) (rs:List F.Rec) (met:List Int) (lo ti:List F.Map) (w:World) (hp:F.parse s=some rs) (hok:F.vX rs rs.length=some (met,lo,ti)) :
  Calls prog 107 #[.string (bs s), .agg #[aj, aj, aj, aj, aj, aj]] w λe w'=>∃ lv tv LO TI B,e = .returned (.tuple #[.agg #[lv,tv, aj, aj, aj, aj], ah 0, ah 0])/\LO.map (·.1)=lo/\TI.map (·.1)=ti/\sU LO B/\sU TI B/\Sep [Pc.row w.heap.size 272 2 lv (LO.map pr).length ((LO.map pr).flatMap fK),Pc.row w.heap.size 272 2 tv (TI.map pr).length ((TI.map pr).flatMap fK),Pc.jQ qO B,Pc.old w.heap.size w] w':=by
 obtain⟨N,hN⟩:∃ N,rs.length=N:=⟨_,rfl⟩
 have yS:=bx (show N<=100000 by rw [<- hN];exact F.adt hp);rw [hN] at hok;have HN:=bx hN;have nX:=bx hok;have Hg:=bx hp;obtain⟨V,hV⟩:∃ V,V=(w.alloc (.cells Iw 36)).alloc (.cells Iw 36):=⟨_,rfl⟩
 have h2:=((Sep.start w).eu 36 Iw).eu 36 Iw;rw [show (w.alloc (.cells Iw 36)).heap.size=w.heap.size+1 by simp,<- hV] at h2;have xJ:=bx h2;have xM:=bx (afE s rs V hp);have HV:=bx hV;clear hp hok hN hV h2;unfold Iw at HV
 go_in
 go_upto_region 1 with(fail)
 rw [<- HV.o];obtain⟨n,hn⟩:∃ n,w.heap.size=n:=⟨_,rfl⟩
 rw [hn] at xJ ⊢;have ku:=bx hn;clear hn HV;go_wp2_with fail;refine xM.o.mono ?_;rintro e w1 ⟨rv,RL,rfl,hRL,hS1⟩;have DY:=bx hRL;have NP:=bx (show RL.length=N by rw [<- HN.o,<- hRL,aV]);have eG:=bx (show Sep (KG n w n (n+1) (aj) (aj) (aj) rv [] [] [] [] RL) w1 from by
  have h1:=xJ.o.frame (qs:=[_,_]) hS1;have hle:n<=V.heap.size:=(xJ.o.at' 2 (p:=Pc.old n w) rfl).1;have h3:=h1.as 0 (p':=Pc.row n 242 4 rv RL.length (RL.flatMap recC)) rfl (λhr=>own_base hr hle) (λ_ hk=>hk);have h4:=(((h3.aaK qO).kV n 2 272).kV n 2 272).kV n 1 3;exact h4.front 7 rfl)
 obtain⟨ra,rc,rfl,YW,apo⟩:=gI (eG.o.row 5 rfl);rw [NP.o] at YW;rw [NP.o];clear hS1 hRL xJ;go_wp2_with fail
 go_loopw [11,10] (λi m wr=>∃ (k:Nat) (lv tv:Value) (met:List Int) (LO TI:List lJ) (B:List (Value×List Int)),k<=N/\i = ah k/\Box (F.vX rs k=some (met,LO.map (·.1),TI.map (·.1))/\sU LO B/\sU TI B/\LO.length<=k/\TI.length<=k/\met.length=k)/\Box (Sep (KG n w n (n+1) lv tv m (.slice ra RL.length rc) met LO TI B RL) wr)) (λi _ _=>N-(intOf i).toNat)
 ·exact⟨0,_,_,[],[],[],[],by omega,rfl,⟨rfl,λy hy=>absurd hy iH,λy hy=>absurd hy iH,bK _,bK _,rfl⟩,eG⟩
 obtain⟨k,lv,tv,met,LO,TI,B,hk,rfl,hsp,hse⟩:=hrel;have dL:=bx (show Below w.heap.size w wr by rw [ku.o];exact hse.o.bel (n:=n) (W0:=w) (by simp));obtain⟨la,lc,rfl,ayQ,ax1⟩:=gI (hse.o.row 2 rfl);obtain⟨ta,tc,rfl,aye,ay2⟩:=gI (hse.o.row 3 rfl);obtain⟨ma,mc,rfl,axM,axS⟩:=gI (hse.o.row 1 rfl)
 by_cases hlt:k<N
 ·obtain⟨x,hx⟩:=bV rs k (by rw [HN.o];exact hlt);have hrec:zN wr (.slice ra RL.length rc) rs:=by
   have h9:=zN.iy (hse.o.row 5 rfl) rfl (λy hy=>(hse.o.jQ 6 rfl y hy).1)
   rwa [DY.o] at h9
  obtain⟨g,off,cap2,hg1,hg2,hg3,hg4,hg5⟩:=hrec.get (by rintro rfl;simp at hx);rw [HN.o,NP.o] at hg1;obtain⟨rfl,rfl⟩:=dQ hg1;obtain⟨c0,c1,c2,fv,c3,hfv⟩:=hg5 k x hx;obtain⟨⟨m2,l2,t2⟩,hr⟩:=F.agw (k:=k+1) (by omega) nX.o;obtain⟨b,o,hrb,hno,hrq⟩:=F.ala hx hsp.o.1 hr;obtain⟨hab,BL,Wi,hone,hsh⟩:=F.arL hrb;obtain⟨ln,xa,xb,fs⟩:=x;simp only at hab BL Wi hsh hno hrq c0 c1 c2 c3 hfv;subst hab;obtain⟨fg,fo,fc,rfl,hf2,hf3,hf4,hf5⟩:=hfv.get (by rintro rfl;simp at Wi);obtain⟨fl,hfl⟩:∃ fl,fs.length=fl:=⟨_,rfl⟩
  rw [hfl] at hf2 Wi c3;have hfd:∀ i,i<fl->fs[i]?=some (fs.getD i []):=λi hi=>by rw [fO,dW (by omega)];rfl
  have lG:=bx (λi (hi:i<fl)=>F.amy Hg.o _ (dB hx) (fs.getD i []) (dB (hfd i hi)));have aI:=bx (λW (h:ak wr W)=>show ay W fg (fo+11)=some (.string (bs (fs.getD 11 [])))/\ay W fg (fo+12)=some (.string (bs (fs.getD 12 [])))/\ay W fg (fo+13)=some (.string (bs (fs.getD 13 []))) from
   ⟨(h.cell (p:=⟨fg,fo+11,none⟩) hf4).trans (hf5 11 _ (hfd 11 (by omega))),(h.cell (p:=⟨fg,fo+12,none⟩) hf4).trans (hf5 12 _ (hfd 12 (by omega))),(h.cell (p:=⟨fg,fo+13,none⟩) hf4).trans (hf5 13 _ (hfd 13 (by omega)))⟩)
  have D7:=bx (λW (h:ak wr W)=>show fg<W.heap.size from fC hf4 h.size);have jX:=bx (λW=>BL▸afC xa W);have HSH:=bx hsh;have Pg:=bx (show F.vX rs (k+1)=some (met++[xa],if b=true then F.Ec (LO.map (·.1)) xa o else LO.map (·.1),if b=true then TI.map (·.1) else F.Ec (TI.map (·.1)) xa o) by rw [hr,hrq]);have pJ:=bx hno;have wu:=bx hone;have HS2:=bx (hse.o.eu 242 #[ah ln, ah xa, ah xa, .slice (some ⟨fg,fo,none⟩) fl fc]);have HB2:=bx (dA wr (.cells #[ah ln, ah xa, ah xa, .slice (some ⟨fg,fo,none⟩) fl fc] 242));have e14:decide ((fl:Int)<14)=false:=dh (by omega);unfold maxLen at hg3 hf3;clear hx hg1 hg2 hg5 hr hrb hrq hsh hno hone BL hfv hf5 hfd hfl hrec;go_wp2_with fail;obtain⟨X,hX⟩:∃ X,wr.heap.size=X:=⟨_,rfl⟩
  rw [hX] at HS2 ⊢;clear hX;generalize (wr.alloc (.cells #[ah ln, ah xa, ah xa, .slice (some ⟨fg,fo,none⟩) fl fc] 242))=w2 at HS2 HB2 ⊢;refine aP (jX.o _) ?_;have hx:=HS2.o.blk 0 rfl;have x1:w2.cell? ⟨X,1,none⟩=some (ah xa):=(hx.cell 1).trans rfl;have x3:w2.cell? ⟨X,3,none⟩=some (.slice (some ⟨fg,fo,none⟩) fl fc):=(hx.cell 3).trans rfl;have xl:=hx.lt;clear hx
  rcases HSH.o with⟨rfl,hq11,hq12,O1⟩ | ⟨rfl,⟨q,hq11⟩,hq12,O1⟩
  ·have Xf:=bx hq11;have aac:=bx hq12;have U2:=bx O1;clear hq11 hq12 O1;obtain⟨f11,f12,f13⟩:=aI.o _ HB2.o;have BQ:=D7.o _ HB2.o;have HO3:=bx (L8 (fs.getD 11 []) [] w2 Xf.o (lG.o 11 (by omega)));go_wp2_with fail;refine HO3.o.mono ?_;rintro e w3 ⟨⟨v3,rfl,hv3,hfr3⟩,hb3⟩;have HB3:=aJ HB2 hb3;obtain⟨a3,k3,rfl⟩:=hv3.slice;have aS:=bx (HS2.o.below hb3);clear hv3 hfr3 hb3 f11 f12 f13 BQ x1 x3 xl;have hx:=aS.o.blk 0 rfl;have x1:w3.cell? ⟨X,1,none⟩=some (ah xa):=(hx.cell 1).trans rfl;have x3:w3.cell? ⟨X,3,none⟩=some (.slice (some ⟨fg,fo,none⟩) fl fc):=(hx.cell 3).trans rfl;have xl:=hx.lt;clear hx;obtain⟨f11,f12,f13⟩:=aI.o _ HB3.o;have BQ:=D7.o _ HB3.o;have WB:=bx (L8 (fs.getD 12 []) o w3 aac.o (lG.o 12 (by omega)));go_wp2_with fail;refine WB.o.mono ?_;rintro e w4 ⟨⟨v4,rfl,hv4,O4⟩,hb4⟩;have HB4:=aJ HB3 hb4;obtain⟨a4,k4,rfl⟩:=hv4.slice;have dJ:=bx (Sep.SN (b:=qO) (y:=(.slice a4 o.length k4,o)) (L:=B) (aS.o.F9 (b:=qO) (y:=(.slice a4 o.length k4,o)) hb4 ⟨hv4,λg hg=>(O4 g hg).2⟩ (λg hg=>(O4 g hg).1)) 5 rfl);clear hv4 O4 hb4 f11 f12 f13 BQ x1 x3 xl;have hx:=dJ.o.blk 0 rfl;have x1:w4.cell? ⟨X,1,none⟩=some (ah xa):=(hx.cell 1).trans rfl;have x3:w4.cell? ⟨X,3,none⟩=some (.slice (some ⟨fg,fo,none⟩) fl fc):=(hx.cell 3).trans rfl;have xl:=hx.lt;clear hx;obtain⟨f11,f12,f13⟩:=aI.o _ HB4.o;have BQ:=D7.o _ HB4.o;have Y7:=bx (L8 (fs.getD 13 []) [] w4 U2.o (lG.o 13 (by omega)));go_wp2_with fail;refine Y7.o.mono ?_;rintro e w5 ⟨⟨v5,rfl,hv5,Ol⟩,hb5⟩;have bU:=aJ HB4 hb5;obtain⟨a5,k5,rfl⟩:=hv5.slice;have bG:=bx (dJ.o.below hb5);clear hv5 Ol hb5 f11 f12 f13 BQ x1 x3 xl;have hx:=bG.o.blk 0 rfl;have x1:w5.cell? ⟨X,1,none⟩=some (ah xa):=(hx.cell 1).trans rfl;have x3:w5.cell? ⟨X,3,none⟩=some (.slice (some ⟨fg,fo,none⟩) fl fc):=(hx.cell 3).trans rfl;have xl:=hx.lt;clear hx;have OB:=bx (ab4 (.slice ma met.length mc) met xa w5 (aN.iy (bG.o.row 2 rfl) rfl) (by have:=hsp.o.2.2.2.2.2;have:=yS.o;omega));rw [pJ.o] at OB;obtain⟨no,hno⟩:∃ no,o.length=no:=⟨_,rfl⟩
   have aaE:=bx hno;have apd:0<no:=by rw [<- hno];exact List.length_pos_iff.2 wu.o
   rw [hno];have e0:((no:Int)==0)=false:=by rw [fG];omega
   have e1:decide ((0:Int)<(no:Int))=true:=bD (by omega);clear hno;go_wp2_with fail;refine aP OB.o ?_;have hc:=bG.o.blk 1 rfl;have d0:w5.cell? ⟨n,0,none⟩=some (.slice la (LO.map pr).length lc):=(hc.cell 0).trans rfl;have d1:w5.cell? ⟨n,1,none⟩=some (.slice ta (TI.map pr).length tc):=(hc.cell 1).trans rfl;have FC:=hc.frozen 0;have EN:=hc.frozen 1;have dl:=hc.lt;clear hc;have hbs:n<=w5.heap.size:=(bG.o.at' 9 (p:=Pc.old n w) rfl).1;have hmk:met.length<=1000000000:=by have:=hsp.o.2.2.2.2.2;have:=yS.o;omega
   clear x1 x3 xl d0 d1 FC EN dl;have hx:=bG.o.blk 0 rfl;have x1:w5.cell? ⟨X,1,none⟩=some (ah xa):=(hx.cell 1).trans rfl;have x3:w5.cell? ⟨X,3,none⟩=some (.slice (some ⟨fg,fo,none⟩) fl fc):=(hx.cell 3).trans rfl;have xl:=hx.lt;clear hx;go_wp2_with (at_builtin;refine vM (u:=ah xa) rfl _ _ 22 rfl yO bG.o 2 rfl rfl rfl rfl hmk (by omega) hbs ?_;rintro v' w7 hS7 ⟨gm,ZV,rfl,-,-⟩;have cO:=bx hS7;have hx:=cO.o.blk 0 rfl;have x1:w7.cell? ⟨X,1,none⟩=some (ah xa):=(hx.cell 1).trans rfl;have xl:=hx.lt;have hc:=cO.o.blk 1 rfl;have d0:w7.cell? ⟨n,0,none⟩=some (.slice la (LO.map pr).length lc):=(hc.cell 0).trans rfl;have d1:w7.cell? ⟨n,1,none⟩=some (.slice ta (TI.map pr).length tc):=(hc.cell 1).trans rfl;have FC:=hc.frozen 0;have EN:=hc.frozen 1;have dl:=hc.lt;clear hS7 hx hc)
   have hpu:=ac9 (.slice la (LO.map pr).length lc) (LO.map pr) xa (.slice a4 no k4) w7 (Ve (cO.o.row 3 rfl)) hsp.o.2.1.prs ⟨_,_,_,rfl⟩ (by rw [aV];have h1:=hsp.o.2.2.2.1;have h2:=hsp.o.2.2.2.2.1;have h3:=yS.o;omega);rw [<- agQ LO xa o,aV] at hpu;have KN:=bx hpu;clear hpu;refine KN.o.mono ?_;rintro e w8 ⟨⟨v8,rfl,hown⟩,hb8⟩;have Qa:n<=w7.heap.size:=(cO.o.at' 9 (p:=Pc.old n w) rfl).1;have fZ:=(cO.o.got hb8 hown Qa).join 3 rfl (Sep.head (cO.o.got hb8 hown Qa)) (λ_ hk=>.inl hk);obtain⟨sa,sc,rfl,hs1,hs2⟩:=gI hown;obtain⟨sn,hsn⟩:∃ sn,((vk LO xa o (.slice a4 no k4)).map pr).length=sn:=⟨_,rfl⟩
   have nC:=bx hsn;rw [hsn] at fZ ⊢;have fM:=bx fZ;clear fZ hown hb8 hs1 hs2 hsn x1 xl d0 d1 FC EN dl;have hc:=fM.o.blk 1 rfl;have d0:w8.cell? ⟨n,0,none⟩=some (.slice la (LO.map pr).length lc):=(hc.cell 0).trans rfl;have d1:w8.cell? ⟨n,1,none⟩=some (.slice ta (TI.map pr).length tc):=(hc.cell 1).trans rfl;have FC:=hc.frozen 0;have EN:=hc.frozen 1;have dl:=hc.lt;clear hc;have gV:=bx (show Sep (KG n w n (n+1) (.slice sa sn sc) (.slice ta (TI.map pr).length tc) (.slice (some ⟨gm,0,none⟩) (met.length+1) ZV) (.slice (some ⟨g,off,none⟩) RL.length rc) (met++[xa]) (vk LO xa o (.slice a4 no k4)) TI (B++[(.slice a4 no k4,o)]) RL) (w8.setCell ⟨n,0,none⟩ (.slice sa sn sc)) by
    have h9:=(fM.o.set 1 rfl 0 (.slice sa sn sc)).tail;rw [aaE.o] at h9;rw [<- nC.o] at h9 ⊢;simp only [KG,gX,bC];exact h9)
   have HI:=bx (show F.vX rs (k+1)=some (met++[xa],(vk LO xa o (.slice a4 no k4)).map (·.1),TI.map (·.1))/\sU (vk LO xa o (.slice a4 no k4)) (B++[(.slice a4 no k4,o)])/\sU TI (B++[(.slice a4 no k4,o)])/\(vk LO xa o (.slice a4 no k4)).length<=k+1/\TI.length<=k+1/\(met++[xa]).length=k+1 from⟨by rw [Pg.o];simp only [if_true];rw [agc],sU.put hsp.o.2.1 ⟨_,_,_,rfl⟩,hsp.o.2.2.1.more,by have:=aif (λy:lJ=>y.1.1) LO ((xa,o), .slice a4 no k4);have:=hsp.o.2.2.2.1;show (vk LO xa o (.slice a4 no k4)).length<=k+1;unfold vk;omega,by have:=hsp.o.2.2.2.2.1;omega,by rw [bC,hsp.o.2.2.2.2.2];rfl⟩)
   go_wp2
   go_roundw
   ·exact⟨k+1,_,_,_,_,_,_,hlt,by go_num,HI,gV⟩
   simp [intOf];omega
  have Xf:=bx hq11;have aac:=bx hq12;have U2:=bx O1;clear hq11 hq12 O1;obtain⟨f11,f12,f13⟩:=aI.o _ HB2.o;have BQ:=D7.o _ HB2.o;have HO3:=bx (L8 (fs.getD 11 []) q w2 Xf.o (lG.o 11 (by omega)));go_wp2_with fail;refine HO3.o.mono ?_;rintro e w3 ⟨⟨v3,rfl,hv3,hfr3⟩,hb3⟩;have HB3:=aJ HB2 hb3;obtain⟨a3,k3,rfl⟩:=hv3.slice;have aS:=bx (HS2.o.below hb3);clear hv3 hfr3 hb3 f11 f12 f13 BQ x1 x3 xl;have hx:=aS.o.blk 0 rfl;have x1:w3.cell? ⟨X,1,none⟩=some (ah xa):=(hx.cell 1).trans rfl;have x3:w3.cell? ⟨X,3,none⟩=some (.slice (some ⟨fg,fo,none⟩) fl fc):=(hx.cell 3).trans rfl;have xl:=hx.lt;clear hx;obtain⟨f11,f12,f13⟩:=aI.o _ HB3.o;have BQ:=D7.o _ HB3.o;have WB:=bx (L8 (fs.getD 12 []) [] w3 aac.o (lG.o 12 (by omega)));go_wp2_with fail;refine WB.o.mono ?_;rintro e w4 ⟨⟨v4,rfl,hv4,O4⟩,hb4⟩;have HB4:=aJ HB3 hb4;obtain⟨a4,k4,rfl⟩:=hv4.slice;have dJ:=bx (aS.o.below hb4);clear hv4 O4 hb4 f11 f12 f13 BQ x1 x3 xl;have hx:=dJ.o.blk 0 rfl;have x1:w4.cell? ⟨X,1,none⟩=some (ah xa):=(hx.cell 1).trans rfl;have x3:w4.cell? ⟨X,3,none⟩=some (.slice (some ⟨fg,fo,none⟩) fl fc):=(hx.cell 3).trans rfl;have xl:=hx.lt;clear hx;obtain⟨f11,f12,f13⟩:=aI.o _ HB4.o;have BQ:=D7.o _ HB4.o;have Y7:=bx (L8 (fs.getD 13 []) o w4 U2.o (lG.o 13 (by omega)));go_wp2_with fail;refine Y7.o.mono ?_;rintro e w5 ⟨⟨v5,rfl,hv5,Ol⟩,hb5⟩;have bU:=aJ HB4 hb5;obtain⟨a5,k5,rfl⟩:=hv5.slice;have bG:=bx (Sep.SN (b:=qO) (y:=(.slice a5 o.length k5,o)) (L:=B) (dJ.o.F9 (b:=qO) (y:=(.slice a5 o.length k5,o)) hb5 ⟨hv5,λg hg=>(Ol g hg).2⟩ (λg hg=>(Ol g hg).1)) 5 rfl);clear hv5 Ol hb5 f11 f12 f13 BQ x1 x3 xl;have hx:=bG.o.blk 0 rfl;have x1:w5.cell? ⟨X,1,none⟩=some (ah xa):=(hx.cell 1).trans rfl;have x3:w5.cell? ⟨X,3,none⟩=some (.slice (some ⟨fg,fo,none⟩) fl fc):=(hx.cell 3).trans rfl;have xl:=hx.lt;clear hx;have OB:=bx (ab4 (.slice ma met.length mc) met xa w5 (aN.iy (bG.o.row 2 rfl) rfl) (by have:=hsp.o.2.2.2.2.2;have:=yS.o;omega));rw [pJ.o] at OB;obtain⟨no,hno⟩:∃ no,o.length=no:=⟨_,rfl⟩
  have aaE:=bx hno;have apd:0<no:=by rw [<- hno];exact List.length_pos_iff.2 wu.o
  rw [hno];have e0:((no:Int)==0)=false:=by rw [fG];omega
  have e1:decide ((0:Int)<(no:Int))=true:=bD (by omega);clear hno;go_wp2_with fail;refine aP OB.o ?_;have hc:=bG.o.blk 1 rfl;have d0:w5.cell? ⟨n,0,none⟩=some (.slice la (LO.map pr).length lc):=(hc.cell 0).trans rfl;have d1:w5.cell? ⟨n,1,none⟩=some (.slice ta (TI.map pr).length tc):=(hc.cell 1).trans rfl;have FC:=hc.frozen 0;have EN:=hc.frozen 1;have dl:=hc.lt;clear hc;have hbs:n<=w5.heap.size:=(bG.o.at' 9 (p:=Pc.old n w) rfl).1;have hmk:met.length<=1000000000:=by have:=hsp.o.2.2.2.2.2;have:=yS.o;omega
  clear x1 x3 xl d0 d1 FC EN dl;have hx:=bG.o.blk 0 rfl;have x1:w5.cell? ⟨X,1,none⟩=some (ah xa):=(hx.cell 1).trans rfl;have x3:w5.cell? ⟨X,3,none⟩=some (.slice (some ⟨fg,fo,none⟩) fl fc):=(hx.cell 3).trans rfl;have xl:=hx.lt;clear hx;go_wp2_with (at_builtin;refine vM (u:=ah xa) rfl _ _ 22 rfl yO bG.o 2 rfl rfl rfl rfl hmk (by omega) hbs ?_;rintro v' w7 hS7 ⟨gm,ZV,rfl,-,-⟩;have cO:=bx hS7;have hx:=cO.o.blk 0 rfl;have x1:w7.cell? ⟨X,1,none⟩=some (ah xa):=(hx.cell 1).trans rfl;have xl:=hx.lt;have hc:=cO.o.blk 1 rfl;have d0:w7.cell? ⟨n,0,none⟩=some (.slice la (LO.map pr).length lc):=(hc.cell 0).trans rfl;have d1:w7.cell? ⟨n,1,none⟩=some (.slice ta (TI.map pr).length tc):=(hc.cell 1).trans rfl;have FC:=hc.frozen 0;have EN:=hc.frozen 1;have dl:=hc.lt;clear hS7 hx hc)
  have hpu:=ac9 (.slice ta (TI.map pr).length tc) (TI.map pr) xa (.slice a5 no k5) w7 (Ve (cO.o.row 4 rfl)) hsp.o.2.2.1.prs ⟨_,_,_,rfl⟩ (by rw [aV];have h1:=hsp.o.2.2.2.1;have h2:=hsp.o.2.2.2.2.1;have h3:=yS.o;omega);rw [<- agQ TI xa o,aV] at hpu;have KN:=bx hpu;clear hpu;refine KN.o.mono ?_;rintro e w8 ⟨⟨v8,rfl,hown⟩,hb8⟩;have Qa:n<=w7.heap.size:=(cO.o.at' 9 (p:=Pc.old n w) rfl).1;have fZ:=(cO.o.got hb8 hown Qa).join 4 rfl (Sep.head (cO.o.got hb8 hown Qa)) (λ_ hk=>.inl hk);obtain⟨sa,sc,rfl,hs1,hs2⟩:=gI hown;obtain⟨sn,hsn⟩:∃ sn,((vk TI xa o (.slice a5 no k5)).map pr).length=sn:=⟨_,rfl⟩
  have nC:=bx hsn;rw [hsn] at fZ ⊢;have fM:=bx fZ;clear fZ hown hb8 hs1 hs2 hsn x1 xl d0 d1 FC EN dl;have hc:=fM.o.blk 1 rfl;have d0:w8.cell? ⟨n,0,none⟩=some (.slice la (LO.map pr).length lc):=(hc.cell 0).trans rfl;have d1:w8.cell? ⟨n,1,none⟩=some (.slice ta (TI.map pr).length tc):=(hc.cell 1).trans rfl;have FC:=hc.frozen 0;have EN:=hc.frozen 1;have dl:=hc.lt;clear hc;have gV:=bx (show Sep (KG n w n (n+1) (.slice la (LO.map pr).length lc) (.slice sa sn sc) (.slice (some ⟨gm,0,none⟩) (met.length+1) ZV) (.slice (some ⟨g,off,none⟩) RL.length rc) (met++[xa]) LO (vk TI xa o (.slice a5 no k5)) (B++[(.slice a5 no k5,o)]) RL) (w8.setCell ⟨n,1,none⟩ (.slice sa sn sc)) by
   have h9:=(fM.o.set 1 rfl 1 (.slice sa sn sc)).tail;rw [aaE.o] at h9;rw [<- nC.o] at h9 ⊢;simp only [KG,gX,bC];exact h9)
  have HI:=bx (show F.vX rs (k+1)=some (met++[xa],LO.map (·.1),(vk TI xa o (.slice a5 no k5)).map (·.1))/\sU LO (B++[(.slice a5 no k5,o)])/\sU (vk TI xa o (.slice a5 no k5)) (B++[(.slice a5 no k5,o)])/\LO.length<=k+1/\(vk TI xa o (.slice a5 no k5)).length<=k+1/\(met++[xa]).length=k+1 from⟨by rw [Pg.o];simp only [Bool.false_eq_true,if_false];rw [agc],hsp.o.2.1.more,sU.put hsp.o.2.2.1 ⟨_,_,_,rfl⟩,by have:=hsp.o.2.2.2.1;omega,by have:=aif (λy:lJ=>y.1.1) TI ((xa,o), .slice a5 no k5);have:=hsp.o.2.2.2.2.1;show (vk TI xa o (.slice a5 no k5)).length<=k+1;unfold vk;omega,by rw [bC,hsp.o.2.2.2.2.2];rfl⟩)
  go_wp2
  go_roundw
  ·exact⟨k+1,_,_,_,_,_,_,hlt,by go_num,HI,gV⟩
  simp [intOf];omega
 obtain rfl:k=N:=by omega
 have hq:=hsp.o.1.symm.trans nX.o;simp only [iQ,Prod.mk.injEq] at hq;obtain⟨-,hlo,hti⟩:=hq;have um:=bx hlo;have wU:=bx hti;clear hlo hti;have hc:=hse.o.blk 0 rfl;have hr:=hse.o.blk 7 rfl;have DX:=bx (show aC wr (n+1) 36 #[aj, aj, aj, aj, aj, aj] from hr);have d0:wr.cell? ⟨n,0,none⟩=some (.slice la LO.length lc):=by have h7:=(hc.cell 0).trans (show _=some (Value.slice la (LO.map pr).length lc) from rfl);rwa [aV] at h7
 have d1:wr.cell? ⟨n,1,none⟩=some (.slice ta TI.length tc):=by have h7:=(hc.cell 1).trans (show _=some (Value.slice ta (TI.map pr).length tc) from rfl);rwa [aV] at h7
 have d2:wr.cell? ⟨n,2,none⟩=some (aj):=(hc.cell 2).trans rfl;have d3:wr.cell? ⟨n,3,none⟩=some (aj):=(hc.cell 3).trans rfl;have d4:wr.cell? ⟨n,4,none⟩=some (aj):=(hc.cell 4).trans rfl;have d5:wr.cell? ⟨n,5,none⟩=some (aj):=(hc.cell 5).trans rfl;have r0:wr.cell? ⟨n+1,0,none⟩=some (aj):=(hr.cell 0).trans rfl;have f0:=hr.frozen 0;have r1:wr.cell? ⟨n+1,1,none⟩=some (aj):=(hr.cell 1).trans rfl;have f1:=hr.frozen 1;have r2:wr.cell? ⟨n+1,2,none⟩=some (aj):=(hr.cell 2).trans rfl;have f2:=hr.frozen 2;have r3:wr.cell? ⟨n+1,3,none⟩=some (aj):=(hr.cell 3).trans rfl;have f3:=hr.frozen 3;have r4:wr.cell? ⟨n+1,4,none⟩=some (aj):=(hr.cell 4).trans rfl;have f4:=hr.frozen 4;have r5:wr.cell? ⟨n+1,5,none⟩=some (aj):=(hr.cell 5).trans rfl;have f5:=hr.frozen 5;have dl:=hc.lt;have rl:=hr.lt;clear hc hr;go_wp2_with fail;have hT:Turns (λq=>q=n+1) wr ((((((wr.setCell ⟨n+1,0,none⟩ (.slice la LO.length lc)).setCell ⟨n+1,1,none⟩ (.slice ta TI.length tc)).setCell ⟨n+1,2,none⟩ (aj)).setCell ⟨n+1,3,none⟩ (aj)).setCell ⟨n+1,4,none⟩ (aj)).setCell ⟨n+1,5,none⟩ (aj)):=((((((Turns.setCell (own:=λq=>q=n+1) _ (p:=⟨n+1,0,none⟩) rfl _).trans (Turns.setCell (own:=λq=>q=n+1) _ (p:=⟨n+1,1,none⟩) rfl _)).trans (Turns.setCell (own:=λq=>q=n+1) _ (p:=⟨n+1,2,none⟩) rfl _)).trans (Turns.setCell (own:=λq=>q=n+1) _ (p:=⟨n+1,3,none⟩) rfl _)).trans (Turns.setCell (own:=λq=>q=n+1) _ (p:=⟨n+1,4,none⟩) rfl _)).trans (Turns.setCell (own:=λq=>q=n+1) _ (p:=⟨n+1,5,none⟩) rfl _))
 have hf:=hse.o.front 7 rfl;have hk:Sep _ ((((((wr.setCell ⟨n+1,0,none⟩ (.slice la LO.length lc)).setCell ⟨n+1,1,none⟩ (.slice ta TI.length tc)).setCell ⟨n+1,2,none⟩ (aj)).setCell ⟨n+1,3,none⟩ (aj)).setCell ⟨n+1,4,none⟩ (aj)).setCell ⟨n+1,5,none⟩ (aj)):=hf.tail.keep hT (λp hp q hq e=>hf.apart hp (k:=n+1) rfl (e▸hq));refine bodyPost_ret (v:=.tuple #[.agg #[.slice la LO.length lc, .slice ta TI.length tc, aj, aj, aj, aj], ah 0, ah 0]) (JE results107 _ _ (n+1) 36 #[.slice la LO.length lc, .slice ta TI.length tc, aj, aj, aj, aj] (0,0) _ rfl ((((((DX.o.bJ 0 (.slice la LO.length lc)).bJ 1 (.slice ta TI.length tc)).bJ 2 (aj)).bJ 3 (aj)).bJ 4 (aj)).bJ 5 (aj)) underlying36 rfl TM) rfl ⟨_,_,rfl,LO,um.o,TI,wU.o,B,hsp.o.2.1,hsp.o.2.2.1,?_⟩;rw [ku.o];have h9:=(((hk.drop 6).drop 5).drop 1).tail;simp only [aV] at h9;exact h9
def rF (w:World) (v:Value) (l:List F.Map):Prop:=∃ L:List lJ,L.map (·.1)=l/\nZ 2 w v ((L.map pr).map fK)/\∀ y∈L,aN w y.2 y.1.2
theorem rF.below {w w':World} {v:Value} {l:List F.Map} (h:rF w v l) (hb:ak w w'):rF w' v l:=by
 obtain⟨L,h1,h2,h3⟩:=h;exact⟨L,h1,h2.below hb,λy hy=>(h3 y hy).below hb⟩
def o8 (w:World) (v:Value) (c:T.Cs):Prop:=∃ lv tv ci cb gi gb,v = .agg #[lv,tv,ci,cb,gi,gb]/\rF w lv c.lo/\rF w tv c.ti/\aN w ci c.ca.1/\iF w cb c.ca.2/\aN w gi c.ig.1/\iF w gb c.ig.2
theorem o8.below {w w':World} {v:Value} {c:T.Cs} (h:o8 w v c) (hb:ak w w'):o8 w' v c:=by
 obtain⟨lv,tv,ci,cb,gi,gb,h0,h1,h2,h3,h4,h5,h6⟩:=h;exact⟨lv,tv,ci,cb,gi,gb,h0,h1.below hb,h2.below hb,h3.below hb,h4.below hb,h5.below hb,h6.below hb⟩
theorem arb {P:Program} {fn:Func} {p u u2 u3:Tmp} {ty:TypeId} (h:fn.results=#[.cell p ty, .tmp u, .tmp u2, .tmp u3]) (tmps:Array Value) (w:World) (g:Nat) (t:TypeId) (cs:Array Value) (fr:Nat×Nat) (d:TypeDesc)
  (hp:tmps.getD p undef = aA g) (hg:w.heap[g]?=some (.cells cs t fr)) (hu:P.underlying ty=some d) (hd:(match d with | .struct _ | .array _ _=>true | _=>false)=true) (hi:(P.info? ty).map (·.size)=some cs.size) :
  (results fn tmps).run P w = .ok (.tuple #[.agg cs,tmps.getD u undef,tmps.getD u2 undef,tmps.getD u3 undef]) w:=by
 have hp':tmps[p]?.getD undef = aA g:=by simpa using hp
 simp [results,h,hp',asAddr,run_loadVar_row w g t ty cs fr d hg hu hd hi,Result.andThen]
theorem F.parse_nil:F.parse []=some []:=by kernel_rfl
theorem Sep.lone {ps:List Pc} {W W':World} {g:Nat} {t:TypeId} {cs:Array Value} (h:Sep ps W) (i:Nat) (hi:ps[i]?=some (Pc.blk g t cs)) (ht:Turns (λq=>q=g) W W'):Sep (ps.eraseIdx i) W':=by
 have hf:=h.front i hi;exact hf.tail.keep ht (λp hp q hq e=>hf.apart hp (k:=g) rfl (e▸hq))
theorem apx (la ta:Option Addr) (ln lc tn tc:Nat) (w:World) :
  Calls prog 108 #[.string (bs []), .agg #[.slice la ln lc, .slice ta tn tc, aj, aj, aj, aj]] w λe w'=>e = .returned (.tuple #[.agg #[.slice la ln lc, .slice ta tn tc, aj, aj, aj, aj], ah 0, ah 0])/\ak w w':=by
 obtain⟨V,hV⟩:∃ V,V=(w.alloc (.cells #[.slice la ln lc, .slice ta tn tc, aj, aj, aj, aj] 36)).alloc (.cells #[aj, aj, aj, aj, aj, aj] 36):=⟨_,rfl⟩
 have h2:=((Sep.start w).eu 36 #[.slice la ln lc, .slice ta tn tc, aj, aj, aj, aj]).eu 36 #[aj, aj, aj, aj, aj, aj];rw [show (w.alloc (.cells #[.slice la ln lc, .slice ta tn tc, aj, aj, aj, aj] 36)).heap.size=w.heap.size+1 by simp,<- hV] at h2;have xJ:=bx h2;have xM:=bx (aby [] [] V F.parse_nil);have HV:=bx hV;clear hV h2
 go_in
 go_upto_region 1 with(fail)
 rw [<- HV.o];obtain⟨n,hn⟩:∃ n,w.heap.size=n:=⟨_,rfl⟩
 rw [hn] at xJ ⊢;have ku:=bx hn;clear hn HV;go_wp2_with fail;refine xM.o.mono ?_;rintro e w1 ⟨⟨v,rfl,hv⟩,hb1⟩;have eG:=bx (xJ.o.below hb1);obtain⟨va,vc,rfl,-,-⟩:=hv.slice;clear hb1 hv;rw [iG];have hcx:=eG.o.blk 1 rfl;have c0:w1.cell? ⟨n,0,none⟩=some (.slice la ln lc):=(hcx.cell 0).trans rfl;have c1:w1.cell? ⟨n,1,none⟩=some (.slice ta tn tc):=(hcx.cell 1).trans rfl;have c2:w1.cell? ⟨n,2,none⟩=some (aj):=(hcx.cell 2).trans rfl;have c3:w1.cell? ⟨n,3,none⟩=some (aj):=(hcx.cell 3).trans rfl;have c4:w1.cell? ⟨n,4,none⟩=some (aj):=(hcx.cell 4).trans rfl;have c5:w1.cell? ⟨n,5,none⟩=some (aj):=(hcx.cell 5).trans rfl;have cl:=hcx.lt;clear hcx;have hrx:=eG.o.blk 0 rfl;have r0:w1.cell? ⟨n+1,0,none⟩=some (aj):=(hrx.cell 0).trans rfl;have r1:w1.cell? ⟨n+1,1,none⟩=some (aj):=(hrx.cell 1).trans rfl;have r2:w1.cell? ⟨n+1,2,none⟩=some (aj):=(hrx.cell 2).trans rfl;have r3:w1.cell? ⟨n+1,3,none⟩=some (aj):=(hrx.cell 3).trans rfl;have r4:w1.cell? ⟨n+1,4,none⟩=some (aj):=(hrx.cell 4).trans rfl;have r5:w1.cell? ⟨n+1,5,none⟩=some (aj):=(hrx.cell 5).trans rfl;have IK:=hrx.frozen 0;have Ig:=hrx.frozen 1;have rf2:=hrx.frozen 2;have rf3:=hrx.frozen 3;have rf4:=hrx.frozen 4;have rf5:=hrx.frozen 5;have rl:=hrx.lt;clear hrx;have DX:=bx (show aC w1 (n+1) 36 #[aj, aj, aj, aj, aj, aj] from eG.o.blk 0 rfl);go_wp2_with fail;refine wp_loop_rounds 1 ?_;rw [rounds_succ];go_wp2_with fail;have hT:Turns (λq=>q=n+1) w1 ((((((w1.setCell ⟨n+1,0,none⟩ (.slice la ln lc)).setCell ⟨n+1,1,none⟩ (.slice ta tn tc)).setCell ⟨n+1,2,none⟩ (aj)).setCell ⟨n+1,3,none⟩ (aj)).setCell ⟨n+1,4,none⟩ (aj)).setCell ⟨n+1,5,none⟩ (aj)):=((((((Turns.setCell (own:=λq=>q=n+1) _ (p:=⟨n+1,0,none⟩) rfl _).trans (Turns.setCell (own:=λq=>q=n+1) _ (p:=⟨n+1,1,none⟩) rfl _)).trans (Turns.setCell (own:=λq=>q=n+1) _ (p:=⟨n+1,2,none⟩) rfl _)).trans (Turns.setCell (own:=λq=>q=n+1) _ (p:=⟨n+1,3,none⟩) rfl _)).trans (Turns.setCell (own:=λq=>q=n+1) _ (p:=⟨n+1,4,none⟩) rfl _)).trans (Turns.setCell (own:=λq=>q=n+1) _ (p:=⟨n+1,5,none⟩) rfl _))
 have hk:=(eG.o.lone 0 rfl hT).tail;exact bodyPost_ret (v:=.tuple #[.agg #[.slice la ln lc, .slice ta tn tc, aj, aj, aj, aj], ah 0, ah 0]) (JE results108 _ _ (n+1) 36 #[.slice la ln lc, .slice ta tn tc, aj, aj, aj, aj] (0,0) _ rfl ((((((DX.o.bJ 0 (.slice la ln lc)).bJ 1 (.slice ta tn tc)).bJ 2 (aj)).bJ 3 (aj)).bJ 4 (aj)).bJ 5 (aj)) underlying36 rfl TM) rfl ⟨rfl,by unfold ak;rw [ku.o];exact hk.bel (n:=n) (W0:=w) (by simp)⟩
def F.sG (b:List Int):Bool:=decide (b.length=256)&&b.all λv=>decide (0<=v)&&decide (v<=31)
theorem F.UR (t:F.Trie):F.nT t=(decide (t.1.length=4352)&&t.1.all (λn=>decide (0<=n)&&decide (n<t.2.length))&&t.2.all F.sG):=rfl
theorem amJ {α:Type} {p:α->Bool} {l:List α} {k:Nat} {x:α} (hx:l[k]?=some x) (h:p x=false):l.all p=false:=by
 rw [Bool.eq_false_iff,ne_eq,jG];intro h1;have:=h1 x (dB hx);rw [h] at this
 cases this
theorem upto_succ {α:Type} {p:α->Prop} {l:List α} {k:Nat} {x:α} (h:∀ (j:Nat) (y:α),j<k->l[j]?=some y->p y) (hx:l[k]?=some x) (hp:p x):∀ (j:Nat) (y:α),j<k+1->l[j]?=some y->p y:=λj y hj hy=>by
 rcases gZ j k with h1 | h1
 ·exact h j y h1 hy
 obtain rfl:j=k:=by omega
 rw [hx] at hy
 cases hy;exact hp
def T.EF (l:List F.Map) (i:Nat):Bool:=U.right (l.getD i (0,[])).1&&(decide (i=0)||decide ((l.getD (i-1) (0,[])).1<(l.getD i (0,[])).1))&&T.toB (l.getD i (0,[])).2
theorem T.ahe:∀ (l:List F.Map) (last:Int),T.Gg last l=true↔∀ (i:Nat) (x:F.Map),l[i]?=some x->U.right x.1=true/\T.toB x.2=true/\(i=0->last<x.1)/\∀ (j:Nat) (y:F.Map),i=j+1->l[j]?=some y->y.1<x.1
 | [],_=>by unfold T.Gg;simp
 | x::t,last=>by
  unfold T.Gg;simp only [dD,fD,T.ahe t x.1]
  constructor
  ·rintro⟨⟨⟨h1,h2⟩,h3⟩,h4⟩ i y hy
   cases i with
   | zero =>
    simp only [rQ,iQ] at hy;subst hy;exact⟨h1,h3,λ_=>h2,λj _ h=>by omega⟩
   | succ i =>
    rw [List.getElem?_cons_succ] at hy;obtain⟨k1,k2,k3,k4⟩:=h4 i y hy;refine⟨k1,k2,λh=>by omega,λj z hj hz=>?_⟩;obtain rfl:j=i:=by omega
    cases j with
    | zero =>
     simp only [rQ,iQ] at hz;subst hz;exact k3 rfl
    | succ j=>exact k4 j z rfl (by simpa using hz)
  intro h;obtain⟨k1,k2,k3,-⟩:=h 0 x rfl;refine⟨⟨⟨k1,k3 rfl⟩,k2⟩,λi y hy=>?_⟩;obtain⟨q1,q2,q3,q4⟩:=h (i+1) y (by simpa using hy);refine⟨q1,q2,λe=>q4 0 x (by omega) rfl,λj z hj hz=>q4 (j+1) z (by omega) (by simpa using hz)⟩
theorem T.acp (l:List F.Map):T.Gg (-1) l=(List.range l.length).all (T.EF l):=by
 rw [ny,T.ahe,jG];have hg:∀ (i:Nat) (x:F.Map),l[i]?=some x->l.getD i (0,[])=x:=λi x h=>by rw [fO,h];rfl
 constructor
 ·intro h i hi;have hi:=oM.1 hi;obtain⟨k1,k2,k3,k4⟩:=h i l[i] (dW hi);unfold T.EF;rw [hg i _ (dW hi),k1,k2,Bool.true_and,Bool.and_true,Bool.or_eq_true,fD,fD]
  cases i with
  | zero=>exact .inl rfl
  | succ i =>
   refine .inr ?_;rw [show i+1-1=i by omega,hg i _ (dW (by omega))];exact k4 i _ rfl (dW (by omega))
 intro h i x hx;have hi:=(dO hx).1;have:=h i (oM.2 hi);unfold T.EF at this;rw [hg i x hx] at this;simp only [dD,Bool.or_eq_true,fD] at this;obtain⟨⟨k1,k2⟩,k3⟩:=this;refine⟨k1,k3,λ_=>?_,λj y hj hy=>?_⟩
 ·unfold U.right at k1;simp only [dD,fD,Bool.or_eq_true] at k1;omega
 subst hj
 rcases k2 with k2 | k2
 ·omega
 rw [show j+1-1=j by omega,hg j y hy] at k2;exact k2
theorem rF.get {w:World} {v:Value} {l:List F.Map} (h:rF w v l) (hn:l≠[]) :
  ∃ b off cap,v = .slice (some ⟨b,off,none⟩) l.length cap/\l.length<=cap/\cap<=maxLen/\b<w.heap.size/\∀ i x,l[i]?=some x->w.cell? ⟨b,off+i*2,none⟩=some (ah x.1)/\∃ u,w.cell? ⟨b,off+i*2+1,none⟩=some u/\aN w u x.2:=by
 obtain⟨L,rfl,h1,h2⟩:=h;obtain⟨b,off,cap,k1,k2,k3,k4,k5⟩:=h1.get (by intro e;apply hn;simpa using e);rw [aV,aV] at k1 k2;rw [aV];refine⟨b,off,cap,k1,k2,k3,k4,λi x hx=>?_⟩;rw [eX] at hx;obtain⟨y,hy,rfl⟩:=rC.1 hx;have hm:((L.map pr).map fK)[i]?=some (fK (pr y)):=by rw [eX,eX,hy];rfl
 exact⟨k5 i _ hm 0 _ rfl,y.2,k5 i _ hm 1 _ rfl,h2 y (dB hy)⟩
theorem rF.slice {w:World} {v:Value} {l:List F.Map} (h:rF w v l):∃ a cap,v = .slice a l.length cap/\l.length<=cap/\cap<=9223372036854775807:=by
 obtain⟨L,rfl,h1,h2⟩:=h;obtain⟨a,cap,k1,k2,k3⟩:=h1.slice;rw [aV,aV] at k1 k2;exact⟨a,cap,by rw [aV];exact k1,by rw [aV];exact k2,k3⟩
section
open Go.Shelf
def LW (x:F.Map):F.Map:=(x.1,x.2.take 5)
def C9 (l:List F.Map):List F.Map:=(l.take 40).map LW
def MJ (W:World) (L:List lJ):Prop:=∀ y∈L,aN W y.2 y.1.2
theorem akl (L:List lJ) (y:lJ):(((L++[y]).map pr).map fK).flatten=((L.map pr).map fK).flatten++fK (pr y):=by
 rw [gX,gX,rH];simp
theorem arl {W:World} {base n:Nat} {v:Value} {L:List lJ} (h:W.ownsRow base 272 2 v n ((L.map pr).map fK).flatten) (hn:n=L.length) (hV:MJ W L):rF W v (L.map (·.1)) :=
 ⟨L,rfl,nZ.iy h (by rw [hn,aV,aV]) (λc hc=>by obtain⟨y,-,rfl⟩:=jM.1 hc;rfl),hV⟩
theorem ahC (v:Value) (l:List F.Map) (w0 w:World) (hv:rF w0 v l) (hb0:ak w0 w) :
  Calls prog 113 #[v] w λe w'=>ak w w'/\∃ v',e = .returned v'/\∃ L:List lJ,L.map (·.1)=C9 l/\MJ w0 L/\w'.ownsRow w.heap.size 272 2 v' L.length ((L.map pr).map fK).flatten:=by
 have HR:=bx hv;have HB0:=bx hb0;obtain⟨ao,cap,rfl,hcc,hcm⟩:=hv.slice;obtain⟨m,hm⟩:∃ m,m=min l.length 40:=⟨_,rfl⟩
 have HM:=bx hm;have hm1:m<=l.length:=by omega
 have hm2:m<=40:=by omega
 have bQ:=bx (show ∃ L:List lJ,L.length=0/\L.map (·.1)=(l.take 0).map LW/\MJ w0 L/\Sep [Pc.row w.heap.size 272 2 (aj) 0 ((L.map pr).map fK).flatten,Pc.old w.heap.size w] w from
  ⟨[],rfl,rfl,λy hy=>absurd hy iH,(Sep.start w).kV _ _ _⟩)
 clear hv hm hb0
 go_in
 go_wp2_with fail
 go_loopw [3,4] (λo i wr=>∃ k:Nat,k<=m/\i = ah k/\Box (∃ L:List lJ,L.length=k/\L.map (·.1)=(l.take k).map LW/\MJ w0 L/\Sep [Pc.row w.heap.size 272 2 o k ((L.map pr).map fK).flatten,Pc.old w.heap.size w] wr)) (λ_ i _=>m-(intOf i).toNat)
 ·exact⟨0,by omega,rfl,bQ⟩
 obtain⟨k,hk,rfl,hbox⟩:=hrel;obtain⟨L,hL1,hL2,hL3,hsep⟩:=hbox.o;have dL:=bx (show ak w wr from hsep.bel (by simp));have AV:=bx (bt HB0.o dL.o);have nM:=bx hL1;have HL2:=bx hL2;have zI:=bx hL3;have BZ:=bx hsep;obtain⟨oo,oc,rfl,ho1,ho2⟩:=gI (hsep.row 0 rfl);clear hbox hL1 hL2 hL3 hsep
 by_cases hlt:k<m
 ·obtain⟨x,hx⟩:=bV l k (by omega);obtain⟨bg,off,cap2,hg1,hg2,hg3,hg4,hg5⟩:=HR.o.get (by rintro rfl;simp at hm1;omega);obtain⟨rfl,rfl⟩:=dQ hg1;obtain⟨hc0,u,hc1,hu⟩:=hg5 k x hx;obtain⟨uo,uc,rfl⟩:=hu.slice;obtain⟨hu1,hu2⟩:=Nl hu;have HUT:=bx (Nh hu 5);obtain⟨q,hq⟩:∃ q,(x.2.take 5).length=q:=⟨_,rfl⟩
  have HQ:=bx (show q=min 5 x.2.length by rw [<- hq,dw]);rw [hq] at HUT;have nH:=bx (QB l k x hx);have aga:k<40:=by omega
  have hkl:k<l.length:=by omega
  have hkc:k<cap:=by omega
  unfold maxLen at hg3;have iE:=bx (show ∀ W,ak wr W->ay W bg (off+k*2)=some (ah x.1)/\ay W bg (off+k*2+1)=some (.slice uo x.2.length uc) from λW h =>
   ⟨((bt AV.o h).cell (p:=⟨bg,off+k*2,none⟩) hg4).trans hc0,((bt AV.o h).cell (p:=⟨bg,off+k*2+1,none⟩) hg4).trans hc1⟩)
  have aX:=bx (show ak wr wr.drew from⟨rfl,rfl,rfl,bK _,λ_ _=>rfl⟩);have dP:=bx BZ.o.drew;have Py:w.heap.size<=wr.drew.heap.size:=dL.o.size;clear hg1 hg5 hc0 hc1 hx hg2 hu hq;go_wp2_with fail;have RF:(min (x.2.length:Int) 5).toNat=q:=by have:=HQ.o;omega
  have aiK:(min (x.2.length:Int) 5)<=(uc:Int):=by omega
  have ahs:(0:Int)<=min (x.2.length:Int) 5:=by omega
  refine jl 21 (λW=>ay W bg (off+k*2)=some (ah x.1)/\ay W bg (off+k*2+1)=some (.slice uo x.2.length uc)) (by kernel_rfl) ?_;have gK:=bx (iE.o _ aX.o);have yG:=bx (λo=>iE.o _ (aX.o.alloc aX.o.size o));generalize wr.drew=WR at *;refine jB [0,1,2,3,4,5,6,7,8,9,10,11,12,13,14,15,16,17,18,19] ?_
  iterate 20 (refine jA ?_ rfl gK.o ?_ ?_;rotate_left;·rintro w ⟨q1,q2⟩;go_simp;try with_reducible rfl)
  refine jr ?_;refine kP 20 rfl λKK au=>?_
  go_simp;refine au.out _ _ (λ_=>yG.o _) ?_;clear au KK;refine kP 21 rfl λKK au=>?_
  refine aaZ (cs:=fK (x.1, .slice uo q uc)) rfl _ _ 34 rfl Gj (by decide) dP.o 0 rfl (by kernel_rfl) (by kernel_rfl) rfl (by intro u hu;simp only [fK,fB,iH,or_false] at hu;rcases hu with rfl | rfl <;> rfl) (by omega) (by omega) Py ?_;rintro v' w9 mF -;refine au.out _ _ (λh=>by cases h) ?_;clear au KK;refine kP 22 rfl λKK au=>?_
  go_simp;refine au.out _ _ (λh=>by cases h) ?_;clear au KK;refine kD ?_ _;have HN:=bx (show ∃ L:List lJ,L.length=k+1/\L.map (·.1)=(l.take (k+1)).map LW/\MJ w0 L/\Sep [Pc.row w.heap.size 272 2 v' (k+1) ((L.map pr).map fK).flatten,Pc.old w.heap.size w] w9 by
   refine⟨L++[(LW x, .slice uo q uc)],?_,?_,?_,?_⟩
   ·rw [bC,nM.o];rfl
   ·rw [gX,HL2.o,nH.o,gX];rfl
   ·intro y hy
    rcases lM.1 hy with h | h
    ·exact zI.o y h
    rw [fU.1 h];exact HUT.o
   rw [akl];exact mF)
  clear mF
  go_wp2
  go_roundw
  ·exact⟨k+1,hlt,by go_num,HN⟩
  simp [intOf];omega
 have hkm:k=m:=by omega
 have Ho:=bx hkm;have hd:l.length<=k\/(k<l.length/\40<=k):=by have:=HM.o;omega
 clear hkm
 rcases hd with hd | ⟨hd,hd2⟩
 all_goals
  go_wp2
  go_ret
  have heq:(l.take k).map LW=C9 l:=by
   unfold C9;rw [Ho.o,HM.o]
   rcases Nat.le_total l.length 40 with h | h
   ·rw [sH h,gq h,mQ]
   rw [Nat.min_eq_right h]
  exact⟨dL.o,_,rfl,L,by rw [HL2.o,heq],zI.o,by rw [nM.o];exact BZ.o.row 0 rfl⟩
theorem GZ {W W':World} {base s n:Nat} {e:TypeId} {v:Value} {xs:List Value} (h:W.ownsRow base e s v n xs) (ht:Turns (λq=>q<base) W W'):W'.ownsRow base e s v n xs:=ht.row h (λk hk ho=>absurd (h.lt k hk).1 (by omega))
def kJ (c:T.Cs):T.Cs:=⟨C9 c.lo,C9 c.ti,lY c.ca,lY c.ig⟩
theorem abb {W w:World} {base n:Nat} {v:Value} {L:List lJ} {l:List F.Map} (h:W.ownsRow base 272 2 v n ((L.map pr).map fK).flatten) (hn:n=L.length) (hV:MJ w L) (hb:ak w W) (hl:L.map (·.1)=l):rF W v l :=
 hl▸arl h hn (λy hy=>(hV y hy).below hb)
theorem Oq {W w:World} {base n:Nat} {T:TypeId} {v:Value} {vs:List Value} {L:List (List Int)} (h:W.ownsRow base T 1 v n vs) (hn:n=vs.length) (hV:Ba w vs L) (hb:ak w W):iF W v L :=
 aoJ h (by rw [hn,hV.1]) (λi r hr=>by
  obtain⟨x,hx,hi⟩:=hV.2 i r hr;exact⟨x,hx,hi.below hb⟩)
theorem anG (v:Value) (c:T.Cs) (w0 w:World) (hv:o8 w0 v c) (hb0:ak w0 w) :
  Calls prog 52 #[v] w λe w'=>ak w w'/\∃ v',e = .returned v'/\∀ W',Turns (λq=>q<w.heap.size) w' W'->ak w0 W'->o8 W' v' (kJ c):=by
 obtain⟨lv,tv,ci,cb,gi,gb,rfl,h1,h2,h3,h4,h5,h6⟩:=hv;obtain⟨V,hV⟩:∃ V,V=(w.alloc (.cells #[lv,tv,ci,cb,gi,gb] 36)).alloc (.cells #[aj, aj, aj, aj, aj, aj] 36):=⟨_,rfl⟩
 have bQ:=bx (show Sep [Pc.blk (w.heap.size+1) 36 #[aj, aj, aj, aj, aj, aj],Pc.blk w.heap.size 36 #[lv,tv,ci,cb,gi,gb],Pc.old w.heap.size w] V by
  rw [hV];have h:=((Sep.start w).eu 36 #[lv,tv,ci,cb,gi,gb]).eu 36 #[aj, aj, aj, aj, aj, aj]
  simpa using h)
 have HB0:=bx hb0;have fV:=bx (show ak w V from bQ.o.bel (by simp));have gU:=bx (bQ.o.blk 1 rfl);have pU:=bx (λW (h:ak w W)=>ahC lv c.lo w0 W h1 (bt HB0.o h));have HC2:=bx (λW (h:ak w W)=>ahC tv c.ti w0 W h2 (bt HB0.o h));have iw:=bx (λW (h:ak w W)=>RX cb ci c.ca w0 W h3 h4 (bt HB0.o h));have Iq:=bx (λW (h:ak w W)=>RX gb gi c.ig w0 W h5 h6 (bt HB0.o h));have iE:=bx (show ∀ W,ak V W->ay W w.heap.size 0=some lv/\ay W w.heap.size 1=some tv/\ay W w.heap.size 2=some ci/\ay W w.heap.size 3=some cb/\ay W w.heap.size 4=some gi/\ay W w.heap.size 5=some gb from λW h=>⟨((gU.o.below h gU.o.lt).cell 0).trans rfl,((gU.o.below h gU.o.lt).cell 1).trans rfl,((gU.o.below h gU.o.lt).cell 2).trans rfl,((gU.o.below h gU.o.lt).cell 3).trans rfl,((gU.o.below h gU.o.lt).cell 4).trans rfl,((gU.o.below h gU.o.lt).cell 5).trans rfl⟩);have aX:=bx (show ak V V.drew from⟨rfl,rfl,rfl,bK _,λ_ _=>rfl⟩);have dP:=bx bQ.o.drew;have HV:=bx hV;have vT:=bx (show V.heap.size=w.heap.size+1+1 by rw [hV];simp);clear h1 h2 h3 h4 h5 h6 hV hb0
 go_in
 go_upto_region 1 with(fail)
 rw [<- HV.o];refine jl 13 (λW=>ay W w.heap.size 0=some lv/\ay W w.heap.size 1=some tv/\ay W w.heap.size 2=some ci/\ay W w.heap.size 3=some cb/\ay W w.heap.size 4=some gi/\ay W w.heap.size 5=some gb) (by kernel_rfl) ?_;have gK:=bx (iE.o _ aX.o);have bM:=bx (bt fV.o aX.o);have lD:=bx (show w.heap.size<=V.drew.heap.size from bM.o.size);generalize V.drew=WR at *;refine jB [0,1,3,4,6,7,9,10] ?_
 iterate 8 (refine jA ?_ rfl gK.o ?_ ?_;rotate_left;·rintro w ⟨q1,q2,q3,q4,q5,q6⟩;go_simp;try with_reducible rfl)
 refine jr ?_;refine kP 2 rfl λKK au=>?_
 go_simp;go_wp2_with (go_at_call 113;refine(pU.o _ bM.o).mono ?_;rintro e w1 ⟨hb1,v1,rfl,L1,hL1,hV1,ho1⟩)
 have HB1:=bx (show ak V w1 from bt aX.o hb1);have jo:=aJ bM hb1;have eG:=bx (dP.o.got (base:=w.heap.size) hb1 ho1 lD.o);have lU:=bx (show w.heap.size<=w1.heap.size from jo.o.size);obtain⟨oa1,oc1,rfl,-,-⟩:=gI ho1;have nM:=bx hL1;have mV:=bx hV1;clear hb1 hV1 ho1 bM lD hL1;have bM:=jo;have lD:=lU;clear jo lU;refine au.out _ _ (λ_=>iE.o _ HB1.o) ?_;clear au KK;refine kP 5 rfl λKK au=>?_
 go_simp;go_wp2_with (go_at_call 113;refine(HC2.o _ bM.o).mono ?_;rintro e w2 ⟨hb2,v2,rfl,L2,hL2,hV2,ho2⟩)
 have HB2:=bx (show ak V w2 from bt HB1.o hb2);have jo:=aJ bM hb2;have HS2:=bx (eG.o.got (base:=w.heap.size) hb2 ho2 lD.o);have lU:=bx (show w.heap.size<=w2.heap.size from jo.o.size);obtain⟨EP,BA,rfl,-,-⟩:=gI ho2;have HL2:=bx hL2;have iV:=bx hV2;clear hb2 hV2 ho2 bM lD hL2;have bM:=jo;have lD:=lU;clear jo lU;refine au.out _ _ (λ_=>iE.o _ HB2.o) ?_;clear au KK;refine kP 8 rfl λKK au=>?_
 go_simp;go_wp2_with (go_at_call 111;refine(iw.o _ bM.o).mono ?_;rintro e w3 ⟨hb3,f3,v3,L3,rfl,hi3,DR,ho3⟩)
 have HB3:=bx (show ak V w3 from bt HB2.o hb3);have jo:=aJ bM hb3;have aS:=bx (HS2.o.got (base:=w.heap.size) hb3 ho3 lD.o);have lU:=bx (show w.heap.size<=w3.heap.size from jo.o.size);obtain⟨P8,NZ,rfl,-,-⟩:=gI ho3;obtain⟨fa3,OI,rfl⟩:=hi3.slice;have HI3:=bx hi3;have sV:=bx DR;clear hb3 DR ho3 bM lD hi3;have bM:=jo;have lD:=lU;clear jo lU;refine au.out _ _ (λ_=>iE.o _ HB3.o) ?_;clear au KK;refine kP 11 rfl λKK au=>?_
 go_simp;go_wp2_with (go_at_call 111;refine(Iq.o _ bM.o).mono ?_;rintro e w4 ⟨hb4,f4,v4,L4,rfl,hi4,Jh,Zb⟩)
 have HB4:=bx (show ak V w4 from bt HB3.o hb4);have jo:=aJ bM hb4;have dJ:=bx (aS.o.got (base:=w.heap.size) hb4 Zb lD.o);have lU:=bx (show w.heap.size<=w4.heap.size from jo.o.size);obtain⟨oa4,oc4,rfl,-,-⟩:=gI Zb;obtain⟨fa4,fc4,rfl⟩:=hi4.slice;have HI4:=bx hi4;have FM:=bx Jh;clear hb4 Jh Zb bM lD hi4;have bM:=jo;have lD:=lU;clear jo lU;refine au.out _ _ (λ_=>iE.o _ HB4.o) ?_;clear au KK;refine kP 12 rfl λKK au=>?_
 go_simp;refine au.out _ _ (λ_=>iE.o _ HB4.o) ?_;clear au KK;have HG:=bx (dJ.o.blk 4 rfl);have y0:=(HG.o.cell 0).trans (show _=some (Value.slice none 0 0) from rfl);have e0:=HG.o.frozen 0;have y1:=(HG.o.cell 1).trans (show _=some (Value.slice none 0 0) from rfl);have e1:=HG.o.frozen 1;have y2:=(HG.o.cell 2).trans (show _=some (Value.slice none 0 0) from rfl);have e2:=HG.o.frozen 2;have y3:=(HG.o.cell 3).trans (show _=some (Value.slice none 0 0) from rfl);have e3:=HG.o.frozen 3;have y4:=(HG.o.cell 4).trans (show _=some (Value.slice none 0 0) from rfl);have e4:=HG.o.frozen 4;have y5:=(HG.o.cell 5).trans (show _=some (Value.slice none 0 0) from rfl);have e5:=HG.o.frozen 5;have yl:=HG.o.lt;have bG:=bx ((((((dJ.o.set 4 rfl 0 (.slice oa1 L1.length oc1)).set 4 rfl 1 (.slice EP L2.length BA)).set 4 rfl 2 (.slice fa3 (lY c.ca).1.length OI)).set 4 rfl 3 (.slice P8 L3.length NZ)).set 4 rfl 4 (.slice fa4 (lY c.ig).1.length fc4)).set 4 rfl 5 (.slice oa4 L4.length oc4));refine kP 13 rfl λKK au=>?_
 go_simp;refine au.out _ _ (λh=>by cases h) ?_;clear au KK;refine kD ?_ _;go_wp2_with fail;have Ak:=bG.o.bel (n:=w.heap.size) (W0:=w) (by simp);refine bodyPost_ret (v:=.agg #[.slice oa1 L1.length oc1, .slice EP L2.length BA, .slice fa3 (lY c.ca).1.length OI, .slice P8 L3.length NZ, .slice fa4 (lY c.ig).1.length fc4, .slice oa4 L4.length oc4]) (results_cell_row results52 _ _ (w.heap.size+1) 36 _ (0,0) _ rfl (bG.o.blk 4 rfl) underlying36 rfl TM) rfl ⟨Ak,_,rfl,λW' ht hbw=>⟨_,_,_,_,_,_,rfl,?_,?_,?_,?_,?_,?_⟩⟩
 ·exact abb (GZ (bG.o.row 3 rfl) ht) rfl mV.o hbw nM.o
 ·exact abb (GZ (bG.o.row 2 rfl) ht) rfl iV.o hbw HL2.o
 ·exact HI3.o.below hbw
 ·exact Oq (GZ (bG.o.row 1 rfl) ht) rfl sV.o hbw
 ·exact HI4.o.below hbw
 exact Oq (GZ (bG.o.row 0 rfl) ht) rfl FM.o hbw
def eH (t:Tab):Tab:=⟨t.n,lY t.p,(Ic t.r).take 12,FB t.m⟩
theorem arQ {W w:World} {base n:Nat} {v:Value} {L:List (D.Rule×Value×Value)} {l:List D.Rule} (h:W.ownsRow base 254 5 v n (L.flatMap Ag)) (hn:n=L.length) (hV:JV w L) (hb:ak w W) (hl:L.map (·.1)=l):iD W v l :=
 hl▸afs h hn (λy hy=>⟨(hV y hy).1.below hb,(hV y hy).2.below hb⟩)
theorem ajh (v:Value) (t:Tab) (w0 w:World) (hv:TabAt w0 v t) (hb0:ak w0 w) :
  Calls prog 50 #[v] w λe w'=>ak w w'/\∃ v',e = .returned v'/\∀ W',Turns (λq=>q<w.heap.size) w' W'->ak w0 W'->TabAt W' v' (eH t):=by
 obtain⟨pi,pb,rv,nv,fv,rfl,h1,h2,h3,h4,h5⟩:=hv;obtain⟨V,hV⟩:∃ V,V=(w.alloc (.cells #[ah t.n,pi,pb,rv,nv,fv] 31)).alloc (.cells #[ah 0, aj, aj, aj, aj, aj] 31):=⟨_,rfl⟩
 have bQ:=bx (show Sep [Pc.blk (w.heap.size+1) 31 #[ah 0, aj, aj, aj, aj, aj],Pc.blk w.heap.size 31 #[ah t.n,pi,pb,rv,nv,fv],Pc.old w.heap.size w] V by
  rw [hV];have h:=((Sep.start w).eu 31 #[ah t.n,pi,pb,rv,nv,fv]).eu 31 #[ah 0, aj, aj, aj, aj, aj]
  simpa using h)
 have HB0:=bx hb0;have fV:=bx (show ak w V from bQ.o.bel (by simp));have gU:=bx (bQ.o.blk 1 rfl);have pU:=bx (λW (h:ak w W)=>av8 rv t.r w0 W h3 (bt HB0.o h));have HC2:=bx (λW (h:ak w W)=>RX pb pi t.p w0 W h1 h2 (bt HB0.o h));have iw:=bx (λW (h:ak w W)=>auC (.agg #[nv,fv]) t.m w0 W ⟨nv,fv,rfl,h4,h5⟩ (bt HB0.o h));have iE:=bx (show ∀ W,ak V W->ay W w.heap.size 0=some (ah t.n)/\ay W w.heap.size 1=some (pi)/\ay W w.heap.size 2=some (pb)/\ay W w.heap.size 3=some (rv)/\ay W w.heap.size 4=some (nv)/\ay W w.heap.size 5=some (fv)/\w.heap.size<W.heap.size from λW h=>⟨((gU.o.below h gU.o.lt).cell 0).trans rfl,((gU.o.below h gU.o.lt).cell 1).trans rfl,((gU.o.below h gU.o.lt).cell 2).trans rfl,((gU.o.below h gU.o.lt).cell 3).trans rfl,((gU.o.below h gU.o.lt).cell 4).trans rfl,((gU.o.below h gU.o.lt).cell 5).trans rfl,(gU.o.below h gU.o.lt).lt⟩);have HV:=bx hV;have vT:=bx (show V.heap.size=w.heap.size+1+1 by rw [hV];simp);clear h1 h2 h3 h4 h5 hV hb0
 go_in
 go_upto_region 1 with(fail)
 rw [<- HV.o];obtain⟨c0,c1,c2,c3,c4,c5,cl⟩:=iE.o V aZ;go_wp2_with fail;refine(pU.o _ fV.o).mono ?_;rintro e w1 ⟨hb1,v1,rfl,L1,hL1,hV1,ho1⟩;clear c0 c1 c2 c3 c4 c5 cl;obtain⟨ro,rc,rfl,hr1,hr2⟩:=gI ho1;have HB1:=bx hb1;have RN:=aJ fV hb1;have eG:=bx (bQ.o.got (base:=w.heap.size) hb1 ho1 fV.o.size);have nM:=bx hL1;have mV:=bx hV1;clear hb1 hL1 hV1 ho1;obtain⟨m1,hm1⟩:∃ m,L1.length=m:=⟨_,rfl⟩
 rw [hm1] at eG hr1 ⊢;have pF:=bx hm1;have HZ1:=bx (show L1.length=(Ic t.r).length by rw [<- nM.o,aV]);clear hm1;have aX:=bx (show ak V w1.drew from HB1.o.trans (show Below V.heap.size w1 w1.drew from⟨rfl,rfl,rfl,bK _,λ_ _=>rfl⟩));have dP:=bx eG.o.drew
 go_upto_region 2 with(fail)
 obtain⟨m2,hm2⟩:∃ m,(min (m1:Int) 12).toNat=m:=⟨_,rfl⟩
 have aiK:(min (m1:Int) 12)<=(rc:Int):=by omega
 have ahs:(0:Int)<=min (m1:Int) 12:=by omega
 have E8:=bx (show m2=min m1 12 by omega);refine jl 14 (λW=>ay W w.heap.size 0=some (ah t.n)/\ay W w.heap.size 1=some (pi)/\ay W w.heap.size 2=some (pb)/\ay W w.heap.size 3=some (rv)/\ay W w.heap.size 4=some (nv)/\ay W w.heap.size 5=some (fv)) (by kernel_rfl) ?_;have kR:=bx (show ∀ W,ak V W->ay W w.heap.size 0=some (ah t.n)/\ay W w.heap.size 1=some (pi)/\ay W w.heap.size 2=some (pb)/\ay W w.heap.size 3=some (rv)/\ay W w.heap.size 4=some (nv)/\ay W w.heap.size 5=some (fv) from λW h=>by
  obtain⟨q0,q1,q2,q3,q4,q5,-⟩:=iE.o W h;exact⟨q0,q1,q2,q3,q4,q5⟩)
 have gK:=bx (kR.o _ aX.o);have bM:=bx (bt fV.o aX.o);have lD:=bx (show w.heap.size<=w1.drew.heap.size from bM.o.size);generalize w1.drew=WR at *;refine jB [0,1,2,3,5,6,7,8,9,10,11] ?_
 iterate 11 (refine jA ?_ rfl gK.o ?_ ?_;rotate_left;·rintro w ⟨q1,q2,q3,q4,q5,q6⟩;go_simp;try with_reducible rfl)
 refine jr ?_;refine kP 4 rfl λKK au=>?_
 go_simp;go_wp2_with (go_at_call 111;refine(HC2.o _ bM.o).mono ?_;rintro e w2 ⟨hb2,f2,v2,L2,rfl,hi2,hV2,ho2⟩)
 have HB2:=bx (show ak V w2 from bt aX.o hb2);have jo:=aJ bM hb2;have HS2:=bx (dP.o.got (base:=w.heap.size) hb2 ho2 lD.o);have lU:=bx (show w.heap.size<=w2.heap.size from jo.o.size);obtain⟨EP,BA,rfl,-,-⟩:=gI ho2;obtain⟨fa2,Jm,rfl⟩:=hi2.slice;have HI2:=bx hi2;have iV:=bx hV2;clear hb2 hV2 ho2 bM lD hi2;have bM:=jo;have lD:=lU;clear jo lU;refine au.out _ _ (λ_=>kR.o _ HB2.o) ?_;clear au KK;refine kP 12 rfl λKK au=>?_
 go_simp;go_wp2_with (go_at_call 112;refine(iw.o _ bM.o).mono ?_;rintro e w3 ⟨hb3,v3,f3,L3,rfl,DR,ho3,hi3⟩)
 have HB3:=bx (show ak V w3 from bt HB2.o hb3);have jo:=aJ bM hb3;have aS:=bx (HS2.o.got (base:=w.heap.size) hb3 ho3 lD.o);have lU:=bx (show w.heap.size<=w3.heap.size from jo.o.size);obtain⟨P8,NZ,rfl,-,-⟩:=gI ho3;obtain⟨fa3,OI,rfl⟩:=hi3.slice;have HI3:=bx hi3;have sV:=bx DR;clear hb3 DR ho3 bM lD hi3;have bM:=jo;have lD:=lU;clear jo lU;refine au.out _ _ (λ_=>kR.o _ HB3.o) ?_;clear au KK;refine kP 13 rfl λKK au=>?_
 go_simp;refine au.out _ _ (λ_=>kR.o _ HB3.o) ?_;clear au KK;have HG:=bx (aS.o.blk 3 rfl);have y0:=(HG.o.cell 0).trans (show _=some (Value.int .i64 0) from rfl);have e0:=HG.o.frozen 0;have y1:=(HG.o.cell 1).trans (show _=some (Value.slice none 0 0) from rfl);have e1:=HG.o.frozen 1;have y2:=(HG.o.cell 2).trans (show _=some (Value.slice none 0 0) from rfl);have e2:=HG.o.frozen 2;have y3:=(HG.o.cell 3).trans (show _=some (Value.slice none 0 0) from rfl);have e3:=HG.o.frozen 3;have y4:=(HG.o.cell 4).trans (show _=some (Value.slice none 0 0) from rfl);have e4:=HG.o.frozen 4;have y5:=(HG.o.cell 5).trans (show _=some (Value.slice none 0 0) from rfl);have e5:=HG.o.frozen 5;have yl:=HG.o.lt;have bG:=bx ((((((aS.o.set 3 rfl 0 (ah t.n)).set 3 rfl 1 (.slice fa2 (lY t.p).1.length Jm)).set 3 rfl 2 (.slice EP L2.length BA)).set 3 rfl 3 (.slice ro m2 rc)).set 3 rfl 4 (.slice P8 L3.length NZ)).set 3 rfl 5 (.slice fa3 (FB t.m).2.length OI));refine kP 14 rfl λKK au=>?_
 go_simp;refine au.out _ _ (λh=>by cases h) ?_;clear au KK;refine kD ?_ _;go_wp2_with fail;have Ak:=bG.o.bel (n:=w.heap.size) (W0:=w) (by simp);refine bodyPost_ret (v:=.agg #[ah t.n, .slice fa2 (lY t.p).1.length Jm, .slice EP L2.length BA, .slice ro m2 rc, .slice P8 L3.length NZ, .slice fa3 (FB t.m).2.length OI]) (results_cell_row results50 _ _ (w.heap.size+1) 31 _ (0,0) _ rfl (bG.o.blk 3 rfl) underlying31 rfl aee) rfl ⟨Ak,_,rfl,λW' ht hbw=>⟨_,_,_,_,_,rfl,?_,?_,?_,?_,?_⟩⟩
 ·exact HI2.o.below hbw
 ·exact Oq (GZ (bG.o.row 1 rfl) ht) rfl iV.o hbw
 ·have hr:=arQ (GZ (bG.o.row 2 rfl) ht) pF.o.symm mV.o hbw nM.o;rw [<- pF.o,HZ1.o] at hr;have hk:=hr.take 12 (cap':=rc) (by rw [dw];have:=HZ1.o;have:=pF.o;omega) aU;rw [show ((Ic t.r).take 12).length=m2 by rw [dw,E8.o,<- pF.o,HZ1.o];omega] at hk;exact hk
 ·exact Oq (GZ (bG.o.row 0 rfl) ht) rfl sV.o hbw
 exact HI3.o.below hbw
end
structure T.Small (c:T.Cs):Prop where
 lo:c.lo.length<=100000
 loA:∀ x∈c.lo,x.2.length<=100000
 ti:c.ti.length<=100000
 tiA:∀ x∈c.ti,x.2.length<=100000
 c1:c.ca.1.length<=100000
 c2:c.ca.2.length<=100000
 g1:c.ig.1.length<=100000
 g2:c.ig.2.length<=100000
 c3:∀ r∈c.ca.2,r.length<=16777216
 g3:∀ r∈c.ig.2,r.length<=16777216
theorem ae3 (m:Nat) (c:T.Cs):T.lI m c=(T.uP m c.lo&&T.uP m c.ti&&F.nT c.ca&&F.nT c.ig):=rfl
end Go.Proofs.YtdponihkpomheaaGreatDoor
