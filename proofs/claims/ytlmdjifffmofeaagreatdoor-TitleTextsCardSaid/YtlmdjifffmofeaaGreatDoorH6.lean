/- Texts of this claim. -/
import Derived.Deep.AppendLies
import Derived.Deep.RegionLaw
import Derived.Great.BuildSlice
import Derived.Deep.MidRow
import Derived.Laws.ResultCell
import Derived.Test.YtlmdjifffmofeaaGreatDoorH5

set_option maxHeartbeats 4000000
set_option maxRecDepth 100000
namespace Go.Proofs.YtlmdjifffmofeaaGreatDoor
section
open Go.RowKit
theorem akd (l:List N.Item):(2:Int)*((2 ^ (2*l.length):Nat):Int)-1=(N.most l:Int):=by
 unfold N.most;have h:2 ^ (2*l.length+1)=2*2 ^ (2*l.length):=by rw [Nat.pow_succ];omega
 have:0<2 ^ (2*l.length):=Nat.two_pow_pos _;rw [h];omega
theorem Ql (st:Bool) (v:Value) (l:List N.Item) (w:World) (hv:bM w v l) (hz:l.length<=16777216) :
  Calls Tryz.prog 193 #[.agg #[.bool st,v]] w λe w'=>e = .returned (.int .i64 (IW l))/\Below w.heap.size w w':=by
 have hb0:=aS w (.cells #[.bool st,v] 144);have HP:=bx (LW st v l _ (hv.below hb0) hz);have HB0:=bx hb0;have dR:=bx (ak.new w 144 #[.bool st,v]);unfold IW;obtain⟨ao,cap,rfl⟩:=hv.slice;clear hb0 hv
 cases hr:iO l with
 | true =>
  have dK:=bx hr;have hl:=AP hr;obtain⟨q,hq⟩:∃ q,2 ^ (2*l.length)=q:=⟨_,rfl⟩
  have hq1:q<=1099511627776:=by rw [<- hq];exact Nat.pow_le_pow_right (n:=2) (by omega) (show 2*l.length<=40 by omega)
  have HQ:=bx hq;have HM:=bx (akd l);clear hr hq
  go_enter Tryz.func193,Tryz.ntmps193
  go_wp2_with fail;refine HP.o.mono ?_;rintro e w1 ⟨rfl,hb1⟩;rw [dK.o];have dX:=dR.o.below hb1 dR.o.lt;have c1:w1.cell? ⟨w.heap.size,1,none⟩=some (.slice ao l.length cap):=(dX.cell 1).trans rfl;have HB1:=bx hb1;clear hb1 dX;go_wp2_with fail;have HN:=bx (show (2*(l.length:Int))=((2*l.length:Nat):Int) by omega);rw [HN.o];refine(Rt (2*l.length) _ (by omega)).mono ?_;rintro e w2 ⟨rfl,rfl⟩;rw [HQ.o];go_wp2_with fail;go_ret
  exact⟨BF (by rw [<- HM.o,HQ.o]),bt HB0.o HB1.o⟩
 | false =>
  have dK:=bx hr;clear hr
  go_enter Tryz.func193,Tryz.ntmps193
  go_wp2_with fail;refine HP.o.mono ?_;rintro e w1 ⟨rfl,hb1⟩;rw [dK.o];have HB1:=bx hb1;clear hb1;go_wp2_with fail;go_ret
  exact⟨rfl,bt HB0.o HB1.o⟩
theorem afL (st:Bool) (v:Value) (l:List N.Item) (w:World) (hv:bM w v l) (hz:l.length<=16777216) :
  Calls Tryz.prog 118 #[.agg #[.bool st,v]] w λe w'=>e = .returned (Oc l)/\Below w.heap.size w w':=by
 have hb0:=aS w (.cells #[.bool st,v] 144);have HP:=bx (LW st v l _ (hv.below hb0) hz);have HB0:=bx hb0;have HV:=bx hv;have dR:=bx (ak.new w 144 #[.bool st,v]);unfold Oc
 cases hr:iO l with
 | true =>
  have dK:=bx hr;have hl:=AP hr;clear hr hb0 hv
  go_enter Tryz.func118,Tryz.ntmps118
  go_wp2_with fail;refine HP.o.mono ?_;rintro e w1 ⟨rfl,hb1⟩;rw [dK.o];have dX:=dR.o.below hb1 dR.o.lt;have c0:w1.cell? ⟨w.heap.size,0,none⟩=some (.bool st):=(dX.cell 0).trans rfl;have c1:w1.cell? ⟨w.heap.size,1,none⟩=some v:=(dX.cell 1).trans rfl;have HB1:=bx (bt HB0.o hb1);have HA:=bx (Rq st v l (by omega) _ 0 0 w1 (Nat.le_refl _) (by omega) (Nat.two_pow_pos _) (HV.o.below HB1.o));have HZ:=bx (Nat.zero_or (N.clo l 0));clear hb1 dX;go_wp2_with fail;refine HA.o.mono ?_;rintro e w2 ⟨rfl,hb2⟩;rw [HZ.o];have HB2:=bx (bt HB1.o hb2);clear hb2;go_wp2_with fail;go_ret2
  exact⟨rfl,HB2.o⟩
 | false =>
  have dK:=bx hr;clear hr hb0 hv
  go_enter Tryz.func118,Tryz.ntmps118
  go_wp2_with fail;refine HP.o.mono ?_;rintro e w1 ⟨rfl,hb1⟩;rw [dK.o];have HB1:=bx (bt HB0.o hb1);clear hb1;go_wp2_with fail;go_ret2
  exact⟨rfl,HB1.o⟩
theorem XD {l:List N.Item} {x:Int} (hr:iO l=true) (h:uh l x=false):x<0\/(0<=x/\(N.most l:Int)<x):=by
 unfold uh at h;rw [hr] at h;simp at h;omega
theorem adN {l:List N.Item} {x:Int} (h:uh l x=true):iO l=true/\0<=x/\x<=N.most l:=by
 unfold uh at h;simp only [Bool.and_eq_true,decide_eq_true_eq] at h;exact⟨h.1.1,h.1.2,h.2⟩
theorem ad1 (st:Bool) (v:Value) (l:List N.Item) (x c:Int) (w:World) (hv:bM w v l) (hz:l.length<=16777216) :
  Calls Tryz.prog 163 #[.agg #[.bool st,v], .int .i64 x, .int .i64 c] w λe w'=>e = .returned (KF l st x c)/\Below w.heap.size w w':=by
 have hb0:=aS w (.cells #[.bool st,v] 144);have HP:=bx (LW st v l _ (hv.below hb0) hz);have HB0:=bx hb0;have HV:=bx hv;have dR:=bx (ak.new w 144 #[.bool st,v]);unfold KF
 cases hr:iO l with
 | false =>
  have dK:=bx hr;rw [show uh l x=false by unfold uh;rw [hr];rfl];clear hr hb0 hv
  go_enter Tryz.func163,Tryz.ntmps163
  go_wp2_with fail;refine HP.o.mono ?_;rintro e w1 ⟨rfl,hb1⟩;rw [dK.o];have HB1:=bx (bt HB0.o hb1);clear hb1;go_wp2_with fail;go_ret2
  exact⟨rfl,HB1.o⟩
 | true =>
  have dK:=bx hr;have hl:=AP hr;have hm:=abZ l hl;have uQ:=bx (show IW l=(N.most l:Int) by unfold IW;rw [hr];rfl)
  cases hok:uh l x with
  | true =>
   obtain⟨-,h0,h1⟩:=adN hok;obtain⟨S,rfl⟩:=Int.eq_ofNat_of_zero_le h0;have h1':¬ ((N.most l:Int)<(S:Int)):=by omega
   clear hr hb0 hv hok
   go_enter Tryz.func163,Tryz.ntmps163
   go_wp2_with fail;refine HP.o.mono ?_;rintro e w1 ⟨rfl,hb1⟩;rw [dK.o];have dX:=dR.o.below hb1 dR.o.lt;have c0:w1.cell? ⟨w.heap.size,0,none⟩=some (.bool st):=(dX.cell 0).trans rfl;have c1:w1.cell? ⟨w.heap.size,1,none⟩=some v:=(dX.cell 1).trans rfl;have HB1:=bx (bt HB0.o hb1);have dX:=bx dX;clear hb1;go_wp2_with fail;refine(Ql st v l _ (HV.o.below HB1.o) hz).mono ?_;rintro e w2 ⟨rfl,hb2⟩;rw [uQ.o];have Iu:=dX.o.below hb2 dX.o.lt;have d0:w2.cell? ⟨w.heap.size,0,none⟩=some (.bool st):=(Iu.cell 0).trans rfl;have d1:w2.cell? ⟨w.heap.size,1,none⟩=some v:=(Iu.cell 1).trans rfl;have HB2:=bx (bt HB1.o hb2);clear hb2 Iu c0 c1;go_wp2_with fail;refine(ag8 st v l dK.o S (by omega) c _ (HV.o.below HB2.o)).mono ?_;rintro e w3 ⟨rfl,hb3⟩;have HB3:=bx (bt HB2.o hb3);clear hb3;go_wp2_with fail;go_ret2
   exact⟨by simp,HB3.o⟩
  | false =>
   have h:=XD hr hok;clear hr hb0 hv hok
   go_enter Tryz.func163,Tryz.ntmps163
   go_wp2_with fail;refine HP.o.mono ?_;rintro e w1 ⟨rfl,hb1⟩;rw [dK.o];have dX:=dR.o.below hb1 dR.o.lt;have c0:w1.cell? ⟨w.heap.size,0,none⟩=some (.bool st):=(dX.cell 0).trans rfl;have c1:w1.cell? ⟨w.heap.size,1,none⟩=some v:=(dX.cell 1).trans rfl;have HB1:=bx (bt HB0.o hb1);clear hb1 dX
   rcases h with h | ⟨h,h'⟩
   ·go_wp2_with fail;go_ret2
    exact⟨rfl,HB1.o⟩
   ·go_wp2_with fail;refine(Ql st v l _ (HV.o.below HB1.o) hz).mono ?_;rintro e w2 ⟨rfl,hb2⟩;rw [uQ.o];have HB2:=bx (bt HB1.o hb2);clear hb2;go_wp2_with fail;go_ret2
    exact⟨rfl,HB2.o⟩
theorem alJ (st:Bool) (v:Value) (l:List N.Item) (x:Int) (w:World) (hv:bM w v l) (hz:l.length<=16777216) :
  Calls Tryz.prog 165 #[.agg #[.bool st,v], .int .i64 x] w λe w'=>e = .returned (.bool (O3 l x))/\Below w.heap.size w w':=by
 have hb0:=aS w (.cells #[.bool st,v] 144);have HP:=bx (LW st v l _ (hv.below hb0) hz);have HB0:=bx hb0;have HV:=bx hv;have dR:=bx (ak.new w 144 #[.bool st,v]);unfold O3
 cases hr:iO l with
 | false =>
  have dK:=bx hr;have nC:=bx (show uh l x=false by unfold uh;rw [hr];rfl);clear hr hb0 hv
  go_enter Tryz.func165,Tryz.ntmps165
  go_wp2_with fail;refine HP.o.mono ?_;rintro e w1 ⟨rfl,hb1⟩;rw [dK.o];have HB1:=bx (bt HB0.o hb1);clear hb1;go_wp2_with fail;go_ret
  exact⟨by rw [nC.o];rfl,HB1.o⟩
 | true =>
  have dK:=bx hr;have hl:=AP hr;have hm:=abZ l hl;have uQ:=bx (show IW l=(N.most l:Int) by unfold IW;rw [hr];rfl)
  cases hok:uh l x with
  | true =>
   obtain⟨-,h0,h1⟩:=adN hok;obtain⟨S,rfl⟩:=Int.eq_ofNat_of_zero_le h0;obtain⟨ao,cap,rfl⟩:=hv.slice;have HN:=bx (show (2*(l.length:Int))=((2*l.length:Nat):Int) by omega);clear hr hb0 hv hok
   go_enter Tryz.func165,Tryz.ntmps165
   go_wp2_with fail;refine HP.o.mono ?_;rintro e w1 ⟨rfl,hb1⟩;rw [dK.o];have dX:=dR.o.below hb1 dR.o.lt;have c0:w1.cell? ⟨w.heap.size,0,none⟩=some (.bool st):=(dX.cell 0).trans rfl;have c1:w1.cell? ⟨w.heap.size,1,none⟩=some (.slice ao l.length cap):=(dX.cell 1).trans rfl;have HB1:=bx (bt HB0.o hb1);have dX:=bx dX;clear hb1;go_wp2_with fail;refine(Ql st (.slice ao l.length cap) l _ (HV.o.below HB1.o) hz).mono ?_;rintro e w2 ⟨rfl,hb2⟩;rw [uQ.o];have Iu:=dX.o.below hb2 dX.o.lt;have d1:w2.cell? ⟨w.heap.size,1,none⟩=some (.slice ao l.length cap):=(Iu.cell 1).trans rfl;have HB2:=bx (bt HB1.o hb2);clear hb2 Iu c0 c1;go_wp2_with fail;rw [HN.o];refine(EK S (2*l.length) _ (by omega) (by omega)).mono ?_;rintro e w3 ⟨rfl,rfl⟩;go_wp2_with fail;go_ret
   exact⟨by simp [N.VA],HB2.o⟩
  | false =>
   have h:=XD hr hok;clear hr hb0 hv hok
   go_enter Tryz.func165,Tryz.ntmps165
   go_wp2_with fail;refine HP.o.mono ?_;rintro e w1 ⟨rfl,hb1⟩;rw [dK.o];have dX:=dR.o.below hb1 dR.o.lt;have c0:w1.cell? ⟨w.heap.size,0,none⟩=some (.bool st):=(dX.cell 0).trans rfl;have c1:w1.cell? ⟨w.heap.size,1,none⟩=some v:=(dX.cell 1).trans rfl;have HB1:=bx (bt HB0.o hb1);clear hb1 dX
   rcases h with h | ⟨h,h'⟩
   ·go_wp2_with fail;go_ret
    exact⟨rfl,HB1.o⟩
   ·go_wp2_with fail;refine(Ql st v l _ (HV.o.below HB1.o) hz).mono ?_;rintro e w2 ⟨rfl,hb2⟩;rw [uQ.o];have HB2:=bx (bt HB1.o hb2);clear hb2;go_wp2_with fail;go_ret
    exact⟨rfl,HB2.o⟩
theorem eu (w:World) (n:Nat):Below w.heap.size w (w.drewN n):=below_drewN (Below.refl _ _) n
section
variable {A:Nat->Addr} {B:Nat} {W0 w w':World}
end
theorem aem {l:List N.Item} {st:Bool} {x c:Int} (h:uh l x=true):KF l st x c = .tuple #[.int .i64 (N.step l st x.toNat c), .int .i64 0]:=by unfold KF;rw [h];rfl
theorem adR {l:List N.Item} {S:Nat} (hr:iO l=true) (h:S<2 ^ (2*l.length+1)):uh l (S:Int)=true:=by
 unfold uh N.most;rw [hr];simp only [Bool.true_and,Bool.and_eq_true,decide_eq_true_eq];omega
end
section
open Go.RowKit Go.Shelf
attribute [local go_sem] Oper.semAt_some
def lefts (rs:List D.Rule):List D.Side:=rs.map (·.1)
theorem yh (rs:List D.Rule):(lefts rs).length=rs.length:=by simp [lefts]
theorem Kq {rs:List D.Rule} {i:Nat} {x:D.Rule} (h:rs[i]?=some x):D.Bj (lefts rs) i=x.1:=D.aiV (by unfold lefts;rw [List.getElem?_map,h];rfl)
theorem take_snoc' {α:Type} (xs:List α) (k:Nat) (x:α) (h:xs[k]?=some x):xs.take (k+1)=xs.take k++[x]:=by rw [List.take_add_one,h];rfl
theorem afu {w:World} {base n:Nat} {T:TypeId} {v:Value} {xs:List Nat} (h:w.ownsRow base T 1 v n (xs.map gB)) (hn:n=xs.length):ay w v (xs.map λx:Nat=>(x:Int)) :=
 ay.dL (n:=n) (by rw [List.map_map];exact h) (by rw [List.length_map];exact hn)
end
section
open Go.RowKit
def iq (w:World) (v:Value) (rows:List (List Int)):Prop :=
 (v = .slice none 0 0/\rows=[])\/∃ b off sp cap,v = .slice (some ⟨b,off,sp⟩) rows.length cap/\rows.length<=cap/\cap<=maxLen/\(rows≠[]->sp=none/\b<w.heap.size/\∀ i r,rows[i]?=some r->∃ x,w.cell? ⟨b,off+i,none⟩=some x/\ay w x r)
theorem iq.nil {w:World}:iq w (.slice none 0 0) []:=.inl ⟨rfl,rfl⟩
theorem iq.below {w w':World} {v:Value} {rows:List (List Int)} (h:iq w v rows) (hb:Below w.heap.size w w'):iq w' v rows:=by
 rcases h with h | ⟨b,off,sp,cap,h1,h2,h3,h4⟩
 ·exact .inl h
 ·refine .inr ⟨b,off,sp,cap,h1,h2,h3,λhn=>⟨(h4 hn).1,Nat.lt_of_lt_of_le (h4 hn).2.1 hb.size,λi r hr=>?_⟩⟩;obtain⟨x,hx,hi⟩:=(h4 hn).2.2 i r hr;exact⟨x,(hb.cell (p:=⟨b,off+i,none⟩) (h4 hn).2.1).trans hx,hi.below hb⟩
theorem iq.get {w:World} {v:Value} {rows:List (List Int)} (h:iq w v rows) (hn:rows≠[]) :
  ∃ b off cap,v = .slice (some ⟨b,off,none⟩) rows.length cap/\rows.length<=cap/\cap<=maxLen/\b<w.heap.size/\∀ i r,rows[i]?=some r->∃ x,w.cell? ⟨b,off+i,none⟩=some x/\ay w x r:=by
 rcases h with⟨_,h⟩ | ⟨b,off,sp,cap,h1,h2,h3,h4⟩
 ·exact absurd h hn
 ·obtain⟨rfl,h5,h6⟩:=h4 hn;exact⟨b,off,cap,h1,h2,h3,h5,h6⟩
theorem iq.slice {w:World} {v:Value} {rows:List (List Int)} (h:iq w v rows):∃ a cap,v = .slice a rows.length cap:=by
 rcases h with⟨rfl,rfl⟩ | ⟨b,off,sp,cap,rfl,_⟩
 ·exact⟨_,_,rfl⟩
 ·exact⟨_,_,rfl⟩
abbrev D.dF:=List (List Int)×List Int
def nT (w:World) (v:Value) (M:D.dF):Prop:=∃ nv fv,v = .agg #[nv,fv]/\iq w nv M.1/\ay w fv M.2
theorem nT.below {w w':World} {v:Value} {M:D.dF} (h:nT w v M) (hb:Below w.heap.size w w'):nT w' v M:=by
 obtain⟨nv,fv,h1,h2,h3⟩:=h;exact⟨nv,fv,h1,h2.below hb,h3.below hb⟩
section
variable {w0 w w':World} {b m n k:Nat} {rv:Value} {t:List D.Sets} {next:List (List Nat)} {fits:List Nat} {nv fv tv:Value} {vs:List Value}
end
theorem jG (w:World) (n:Nat):Below w.heap.size w (w.drewN n):=⟨rfl,rfl,rfl,Nat.le_refl _,λ_ _=>rfl⟩
theorem Z8 {xs ys:List Int} {k:Nat} {x:Int} (h:xs.take k=ys.take k) (hx:xs[k]?=some x) (hy:ys[k]?=some x):xs.take (k+1)=ys.take (k+1):=by
 rw [List.take_add_one,List.take_add_one,h,hx,hy]
theorem Zd {xs ys:List Int} {k:Nat} {x y:Int} (hx:xs[k]?=some x) (hy:ys[k]?=some y) (h:x≠y):decide (xs=ys)=false:=by
 rw [decide_eq_false_iff_not];rintro rfl;rw [hx] at hy;exact h (by simpa using hy)
theorem aa9 {xs ys:List Int} (h:xs.length≠ys.length):decide (xs=ys)=false:=by
 rw [decide_eq_false_iff_not];rintro rfl;exact h rfl
theorem Dq (a b:Value) (xs ys:List Int) (w:World) (ha:ay w a xs) (hb:ay w b ys) (hz:xs.length<=16777216) (_Tj:ys.length<=16777216) :
  Calls Tryz.prog 18 #[a,b] w λe w'=>e = .returned (.bool (decide (xs=ys)))/\Below w.heap.size w w':=by
 by_cases hlen:xs.length=ys.length
 ·have Ws:=bx ha;have VF:=bx hb;obtain⟨ao,ca,rfl⟩:=ha.slice;obtain⟨bo,cb,hv⟩:=hb.slice;rw [<- hlen] at hv;subst hv;have HLEN:=bx hlen;clear ha hb hlen _Tj
  go_enter Tryz.func18,Tryz.ntmps18
  go_wp2
  go_loopw [5] (λi wr=>∃ k n:Nat,k<=xs.length/\i = .int .i64 k/\wr=w.drewN n/\Box (xs.take k=ys.take k)) (λi _=>xs.length-(intOf i).toNat)
  case atStart=>exact⟨0,0,by omega,rfl,rfl,⟨rfl⟩⟩
  case round =>
   obtain⟨k,n,hk,rfl,rfl,hE⟩:=hrel
   by_cases hlt:k<xs.length
   ·obtain⟨x,hx⟩:∃ x,xs[k]?=some x:=⟨_,List.getElem?_eq_getElem hlt⟩
    obtain⟨y,hy⟩:∃ y,ys[k]?=some y:=⟨_,List.getElem?_eq_getElem (by rw [<- HLEN.o];exact hlt)⟩
    obtain⟨ba,oa,ca',ha0,ha1,ha2,qE,jA⟩:=Ws.o.get (by rintro rfl;simp at hlt);obtain⟨rfl,rfl⟩:ao=some ⟨ba,oa,none⟩/\ca=ca':=by injection ha0 with h1 h2 h3;exact⟨h1,h3⟩
    obtain⟨bb,ob,cb',hb0,hb1,hb2,hb3,hb4⟩:=VF.o.get (by rintro rfl;simp at hy);obtain⟨rfl,rfl⟩:bo=some ⟨bb,ob,none⟩/\cb=cb':=by injection hb0 with h1 h2 h3;exact⟨h1,h3⟩
    have c1:=jA k x hx;have c2:=hb4 k y hy;have HX:=bx hx;have HY:=bx hy;rw [<- HLEN.o] at hb1;unfold maxLen at ha2 hb2;clear ha0 jA hb0 hb4 hx hy
    by_cases hxy:x=y
    ·subst hxy
     go_wp2
     go_region
     go_wp2
     go_roundw
     case rel=>exact⟨k+1,n+1,hlt,by go_num,rfl,⟨Z8 hE.o HX.o HY.o⟩⟩
     case measure=>simp [intOf];omega
    ·have HF:=bx (Zd HX.o HY.o hxy);have hq:(x==y)=false:=beq_eq_false_iff_ne.2 hxy
     go_wp2
     go_region
     go_wp2
     all_goals go_ret
     all_goals exact⟨aI (by rw [HF.o]),jG w (n+1)⟩
   ·obtain rfl:k=xs.length:=by omega
    have HT:=bx (show decide (xs=ys)=true by rw [decide_eq_true_iff];have:=hE.o;rwa [List.take_length,HLEN.o,List.take_length] at this)
    go_wp2
    go_ret
    exact⟨aI (by rw [HT.o]),jG w n⟩
 ·have HF:=bx (aa9 hlen);obtain⟨ao,ca,rfl⟩:=ha.slice;obtain⟨bo,cb,rfl⟩:=hb.slice;have hq:((xs.length:Int)==(ys.length:Int))=false:=beq_eq_false_iff_ne.2 (by omega);clear ha hb
  go_enter Tryz.func18,Tryz.ntmps18
  go_wp2
  all_goals go_ret
  all_goals exact⟨aI (by rw [HF.o]),jG w 0⟩
theorem amC (a b:Value) (xs ys:List Int) (w:World) (ha:ay w a xs) (hb:ay w b ys) (hz:xs.length<=16777216) (_Tj:ys.length<=16777216) :
  Calls Tryz.prog 164 #[a,b] w λe w'=>e = .returned (.bool (decide (xs=ys)))/\Below w.heap.size w w':=by
 by_cases hlen:xs.length=ys.length
 ·have Ws:=bx ha;have VF:=bx hb;obtain⟨ao,ca,rfl⟩:=ha.slice;obtain⟨bo,cb,hv⟩:=hb.slice;rw [<- hlen] at hv;subst hv;have HLEN:=bx hlen;clear ha hb hlen _Tj
  go_enter Tryz.func164,Tryz.ntmps164
  go_wp2
  go_loopw [5] (λi wr=>∃ k n:Nat,k<=xs.length/\i = .int .i64 k/\wr=w.drewN n/\Box (xs.take k=ys.take k)) (λi _=>xs.length-(intOf i).toNat)
  case atStart=>exact⟨0,0,by omega,rfl,rfl,⟨rfl⟩⟩
  case round =>
   obtain⟨k,n,hk,rfl,rfl,hE⟩:=hrel
   by_cases hlt:k<xs.length
   ·obtain⟨x,hx⟩:∃ x,xs[k]?=some x:=⟨_,List.getElem?_eq_getElem hlt⟩
    obtain⟨y,hy⟩:∃ y,ys[k]?=some y:=⟨_,List.getElem?_eq_getElem (by rw [<- HLEN.o];exact hlt)⟩
    obtain⟨ba,oa,ca',ha0,ha1,ha2,qE,jA⟩:=Ws.o.get (by rintro rfl;simp at hlt);obtain⟨rfl,rfl⟩:ao=some ⟨ba,oa,none⟩/\ca=ca':=by injection ha0 with h1 h2 h3;exact⟨h1,h3⟩
    obtain⟨bb,ob,cb',hb0,hb1,hb2,hb3,hb4⟩:=VF.o.get (by rintro rfl;simp at hy);obtain⟨rfl,rfl⟩:bo=some ⟨bb,ob,none⟩/\cb=cb':=by injection hb0 with h1 h2 h3;exact⟨h1,h3⟩
    have c1:=jA k x hx;have c2:=hb4 k y hy;have HX:=bx hx;have HY:=bx hy;rw [<- HLEN.o] at hb1;unfold maxLen at ha2 hb2;clear ha0 jA hb0 hb4 hx hy
    by_cases hxy:x=y
    ·subst hxy
     go_wp2
     go_region
     go_wp2
     go_roundw
     case rel=>exact⟨k+1,n+1,hlt,by go_num,rfl,⟨Z8 hE.o HX.o HY.o⟩⟩
     case measure=>simp [intOf];omega
    ·have HF:=bx (Zd HX.o HY.o hxy);have hq:(x==y)=false:=beq_eq_false_iff_ne.2 hxy
     go_wp2
     go_region
     go_wp2
     all_goals go_ret
     all_goals exact⟨aI (by rw [HF.o]),jG w (n+1)⟩
   ·obtain rfl:k=xs.length:=by omega
    have HT:=bx (show decide (xs=ys)=true by rw [decide_eq_true_iff];have:=hE.o;rwa [List.take_length,HLEN.o,List.take_length] at this)
    go_wp2
    go_ret
    exact⟨aI (by rw [HT.o]),jG w n⟩
 ·have HF:=bx (aa9 hlen);obtain⟨ao,ca,rfl⟩:=ha.slice;obtain⟨bo,cb,rfl⟩:=hb.slice;have hq:((xs.length:Int)==(ys.length:Int))=false:=beq_eq_false_iff_ne.2 (by omega);clear ha hb
  go_enter Tryz.func164,Tryz.ntmps164
  go_wp2
  all_goals go_ret
  all_goals exact⟨aI (by rw [HF.o]),jG w 0⟩
end
section
open Go.RowKit Go.Shelf
attribute [local go_sem] Oper.semAt_some
theorem ajW (n:Nat) (w:World) (hn:n<=40) :
  Calls Tryz.prog 166 #[.int .i64 n] w λe w'=>e = .returned (.int .i64 ((2 ^ n:Nat):Int))/\w=w':=by
 go_enter Tryz.func166,Tryz.ntmps166
 go_wp2
 go_loop [4,3] (λi o=>∃ (k:Nat) (x:Int),k<=n/\i = .int .i64 k/\o = .int .i64 x/\0<=x/\x<=1099511627776/\Box (x=2 ^ k)) (λi _=>n-(intOf i).toNat)
 case atStart=>exact⟨0,1,by omega,rfl,rfl,by omega,by omega,⟨rfl⟩⟩
 case round =>
  obtain⟨k,x,hk,rfl,rfl,hx0,hx1,hx⟩:=hrel
  by_cases hlt:k<n
  ·have h2:=QD (k+1) (by omega);have HX:=bx (show 2*x=2 ^ (k+1) by rw [hx.o,Int.pow_succ];omega);have HY:=bx (show 2*x<=1099511627776 by rw [HX.o];exact h2);clear h2
   go_wp2
   go_round
   case rel=>exact⟨k+1,2*x,hlt,by go_num,rfl,by omega,HY.o,HX⟩
   case measure=>simp [intOf];omega
  ·obtain rfl:k=n:=by omega
   go_wp2
   go_ret
   exact⟨by rw [hx.o];simp,rfl⟩
def zs (S:List Nat):List Int:=S.map λx:Nat=>(x:Int)
theorem Aa (S:List Nat):(zs S).length=S.length:=by simp [zs]
theorem Un {S:List Nat} {i x:Nat} (h:S[i]?=some x):(zs S)[i]?=some (x:Int):=by unfold zs;rw [List.getElem?_map,h];rfl
theorem aio {S T:List Nat} (h:zs S=zs T):S=T:=by
 unfold zs at h;exact List.map_inj_right (λa b h=>by omega) |>.1 h
theorem aaH (rs:List D.Side) (S:D.Sets) (k:Nat) (h:k<=40):D.nO rs S k<=1099511627776:=by
 have:=D.Xl rs S k;have h2:2 ^ k<=2 ^ 40:=Nat.pow_le_pow_right (by omega) h;omega
theorem aey (rv sv:Value) (rs:List D.Rule) (S:D.Sets) (w:World) (hR:dP w rv rs) (hl:rs.length<=40) (hr:∀ x∈rs,iO x.1.2=true) (hS:D.Good (lefts rs) S) (hv:ay w sv (zs S)) :
  Calls Tryz.prog 121 #[rv,sv] w λe w'=>e = .returned (.int .i64 (D.nO (lefts rs) S rs.length))/\Below w.heap.size w w':=by
 have HR:=bx hR;have bI:=bx hr;have HS:=bx hS;have HV:=bx hv;have hsl:S.length=rs.length:=by rw [hS.1,yh]
 obtain⟨ao,cap,rfl⟩:=hR.slice;obtain⟨so,scap,rfl⟩:=hv.slice;rw [Aa,hsl] at HV ⊢;clear hR hr hS hv
 go_enter Tryz.func121,Tryz.ntmps121
 go_wp2_with fail
 go_loopw [5,6] (λo i wr=>∃ k:Nat,k<=rs.length/\i = .int .i64 k/\o = .int .i64 (D.nO (lefts rs) S k)/\Box (Below w.heap.size w wr)) (λ_ i _=>rs.length-(intOf i).toNat)
 case atStart=>exact⟨0,by omega,rfl,rfl,⟨Below.refl _ _⟩⟩
 case round =>
  obtain⟨k,hk,rfl,rfl,hbr⟩:=hrel
  by_cases hlt:k<rs.length
  ·obtain⟨x,hx⟩:∃ x,rs[k]?=some x:=⟨_,List.getElem?_eq_getElem hlt⟩
   obtain⟨bg,off,cap2,hg1,hg2,hg3,hg4,hg5⟩:=(HR.o.below hbr.o).get (by rintro rfl;simp at hlt);obtain⟨rfl,rfl⟩:ao=some ⟨bg,off,none⟩/\cap=cap2:=by injection hg1 with h1 h2 h3;exact⟨h1,h3⟩
   obtain⟨vl,vr,hc0,hc1,hc2,hc3,hc4,hil,hir⟩:=hg5 k x hx;have hrx:=bI.o x (List.mem_of_getElem? hx);have hgood:=HS.o.2 k (by rw [yh];exact hlt);rw [Kq hx] at hgood;have EY:S[k]?=some (S.getD k 0):=by
    have:k<S.length:=by omega
    rw [List.getD,List.getElem?_eq_getElem this];rfl
   obtain⟨sg,Wu,WH,FU,Vp,ks3,ks4,KL⟩:=(HV.o.below hbr.o).get (by intro e;have:=congrArg List.length e;rw [Aa] at this;simp at this;subst this;simp at EY);rw [Aa,hsl] at FU Vp;obtain⟨rfl,rfl⟩:so=some ⟨sg,Wu,none⟩/\scap=WH:=by injection FU with h1 h2 h3;exact⟨h1,h3⟩
   have cs:=KL k _ (Un EY);have J5:=bx (show O3 x.1.2 (S.getD k 0:Nat)=D.OJ (lefts rs) S k by unfold O3 D.OJ;rw [adR hrx hgood,Int.toNat_natCast,Kq hx];rfl);have JV:=bx (λW (h:Below wr.heap.size wr W)=>alJ x.1.1 vl x.1.2 (S.getD k 0:Nat) W (hil.below h) (by have:=AP hrx;omega));obtain⟨al,cl,rfl⟩:=hil.slice;obtain⟨ar,cr,rfl⟩:=hir.slice;generalize S.getD k 0=sk at *;unfold maxLen at hg3 ks3;obtain⟨⟨kY,il⟩,⟨str,ir⟩,br⟩:=x;simp only at hc0 hc1 hc2 hc3 hc4 J5 JV;clear hx hg1 hg5 hil hir hrx hgood EY FU KL;have ada:k<40:=by omega
   have hd1:=aaH (lefts rs) S k (by omega);have hd2:=aaH (lefts rs) S (k+1) (by omega)
   cases hd:D.OJ (lefts rs) S k with
   | true =>
    have HD:=bx hd;have Uw:=bx (show D.nO (lefts rs) S k+2 ^ k=D.nO (lefts rs) S (k+1) by rw [D.agc];unfold D.nO;rw [if_pos hd];cases k <;> rfl);clear hd;go_wp2_with fail
    go_region_with ((go_at_call 165;refine(JV.o _ ?_).mono ?_;exact below_drewN (Below.refl _ _) _;rintro e w3 ⟨rfl,hb3⟩;rw [J5.o,HD.o];have HB3:=bx (show Below wr.heap.size wr w3 from Below.mono ⟨hb3.os,hb3.tape,hb3.output,hb3.size,hb3.block⟩ (Nat.le_refl _));clear hb3))
    all_goals
     have JZ:=bx (show Below w.heap.size w w3 from bt hbr.o HB3.o);go_wp2_with (go_at_call 166;refine(ajW k _ (by omega)).mono ?_;rintro e w4 ⟨rfl,rfl⟩)
     have aiW:=bx (show (D.nO (lefts rs) S k:Int)+2 ^ k=(D.nO (lefts rs) S (k+1):Int) by rw [<- Uw.o];simp)
     go_roundw
     case rel=>exact⟨k+1,hlt,by go_num,by rw [aiW.o];exact fF (IntWalk.wrap64_in _ (by omega)),JZ⟩
     case measure=>simp [intOf];omega
   | false =>
    have HD:=bx hd;have Uw:=bx (show D.nO (lefts rs) S (k+1)=D.nO (lefts rs) S k by rw [D.nO,if_neg (by rw [hd];decide)]);clear hd;go_wp2_with fail
    go_region_with ((go_at_call 165;refine(JV.o _ ?_).mono ?_;exact below_drewN (Below.refl _ _) _;rintro e w3 ⟨rfl,hb3⟩;rw [J5.o,HD.o];have HB3:=bx (show Below wr.heap.size wr w3 from Below.mono ⟨hb3.os,hb3.tape,hb3.output,hb3.size,hb3.block⟩ (Nat.le_refl _));clear hb3))
    all_goals
     have JZ:=bx (show Below w.heap.size w w3 from bt hbr.o HB3.o);go_wp2_with fail
     go_roundw
     case rel=>exact⟨k+1,hlt,by go_num,by rw [Uw.o],JZ⟩
     case measure=>simp [intOf];omega
  ·obtain rfl:k=rs.length:=by omega
   go_wp2_with fail;go_ret
   exact⟨rfl,hbr.o⟩
theorem PX:Pushes Tryz.prog 42 2 8:=.mk' (z:=.int .i64 0) Tryz.underlying42 (by kernel_rfl) rfl
theorem mQ:Pushes Tryz.prog 23 3 8:=.mk' (z:=.int .i64 0) Tryz.underlying23 (by kernel_rfl) rfl
theorem Jj {w:World} {base n:Nat} {T:TypeId} {v:Value} {S:List Nat} (h:w.ownsRow base T 1 v n (S.map gB)) (hn:n=S.length):ay w v (zs S):=afu h hn
theorem ahA {rs:List D.Side} {S:D.Sets} {c:Int} {k:Nat} (h:k<rs.length):(D.sK rs S c).take (k+1)=(D.sK rs S c).take k++[D.Ju rs S c k]:=take_snoc' _ _ _ (D.amv rs S c k h)
theorem ank (rv sv:Value) (rs:List D.Rule) (S:D.Sets) (c:Int) (w:World) (hR:dP w rv rs) (hl:rs.length<=40) (hr:∀ x∈rs,iO x.1.2=true) (hS:D.Good (lefts rs) S) (hv:ay w sv (zs S)) :
  Calls Tryz.prog 119 #[rv,sv, .int .i64 c] w λe w'=>Below w.heap.size w w'/\∃ v,e = .returned v/\w'.ownsRow w.heap.size 2 1 v rs.length ((D.sK (lefts rs) S c).map gB):=by
 have HR:=bx hR;have bI:=bx hr;have HS:=bx hS;have HV:=bx hv;have hsl:S.length=rs.length:=by rw [hS.1,yh]
 obtain⟨ao,cap,rfl⟩:=hR.slice;obtain⟨so,scap,rfl⟩:=hv.slice;rw [Aa,hsl] at HV ⊢;obtain⟨T,hT⟩:∃ T,D.sK (lefts rs) S c=T:=⟨_,rfl⟩
 have HT:=bx (λ(k:Nat) (h:k<rs.length)=>show (T.take (k+1)).map gB=(T.take k).map gB++[gB (D.Ju (lefts rs) S c k)] by rw [<- hT,ahA (by rw [yh];exact h),List.map_append];rfl);have lq:=bx (show T.length=rs.length by rw [<- hT,D.Zx,yh]);rw [hT];clear hR hr hS hv hT;have agZ:=bx ((Sep.start w).fP w.heap.size 1 2)
 go_enter Tryz.func119,Tryz.ntmps119
 go_wp2_with fail
 go_loopw [7,8] (λo i wr=>∃ k:Nat,k<=rs.length/\i = .int .i64 k/\Box (Sep [Pc.row w.heap.size 2 1 o k ((T.take k).map gB),Pc.old w.heap.size w] wr)) (λ_ i _=>rs.length-(intOf i).toNat)
 case atStart=>exact⟨0,by omega,rfl,agZ⟩
 case round =>
  obtain⟨k,hk,rfl,hsep⟩:=hrel;have aV:=bx (show Below w.heap.size w wr from hsep.o.bel (by simp))
  by_cases hlt:k<rs.length
  ·obtain⟨x,hx⟩:∃ x,rs[k]?=some x:=⟨_,List.getElem?_eq_getElem hlt⟩
   obtain⟨bg,off,cap2,hg1,hg2,hg3,hg4,hg5⟩:=(HR.o.below aV.o).get (by rintro rfl;simp at hlt);obtain⟨rfl,rfl⟩:ao=some ⟨bg,off,none⟩/\cap=cap2:=by injection hg1 with h1 h2 h3;exact⟨h1,h3⟩
   obtain⟨vl,vr,hc0,hc1,hc2,hc3,hc4,hil,hir⟩:=hg5 k x hx;have hrx:=bI.o x (List.mem_of_getElem? hx);have hgood:=HS.o.2 k (by rw [yh];exact hlt);rw [Kq hx] at hgood;have EY:S[k]?=some (S.getD k 0):=by
    have:k<S.length:=by omega
    rw [List.getD,List.getElem?_eq_getElem this];rfl
   obtain⟨sg,Wu,WH,FU,Vp,ks3,ks4,KL⟩:=(HV.o.below aV.o).get (by intro e;have:=congrArg List.length e;rw [Aa] at this;simp at this;subst this;simp at EY);rw [Aa,hsl] at FU Vp;obtain⟨rfl,rfl⟩:so=some ⟨sg,Wu,none⟩/\scap=WH:=by injection FU with h1 h2 h3;exact⟨h1,h3⟩
   have cs:=KL k _ (Un EY);have gI:=bx (show (T.take (k+1)).map gB=(T.take k).map gB++[Value.int .i64 ((N.step x.1.2 x.1.1 (S.getD k 0) c:Nat):Int)] by
    rw [HT.o k hlt];unfold D.Ju;rw [Kq hx];rfl)
   have eY:=bx (show KF x.1.2 x.1.1 (S.getD k 0:Nat) c = .tuple #[.int .i64 (N.step x.1.2 x.1.1 (S.getD k 0) c), .int .i64 0] by rw [aem (adR hrx hgood),Int.toNat_natCast]);have HST:=bx (λW (h:Below wr.heap.size wr W)=>ad1 x.1.1 vl x.1.2 (S.getD k 0:Nat) c W (hil.below h) (by have:=AP hrx;omega));obtain⟨al,cl,rfl⟩:=hil.slice;obtain⟨ar,cr,rfl⟩:=hir.slice;generalize S.getD k 0=sk at *;unfold maxLen at hg3 ks3;obtain⟨⟨kY,il⟩,⟨str,ir⟩,br⟩:=x;simp only at hc0 hc1 hc2 hc3 hc4 gI eY HST;clear hx hg1 hg5 hil hir hrx hgood EY FU KL;go_wp2_with fail
   go_region_with ((go_at_call 163;refine(HST.o _ ?_).mono ?_;exact below_drewN (Below.refl _ _) _;rintro e w3 ⟨rfl,hb3⟩;rw [eY.o];have HB3:=bx (show Below wr.heap.size wr w3 from Below.mono ⟨hb3.os,hb3.tape,hb3.output,hb3.size,hb3.block⟩ (Nat.le_refl _));clear hb3))
   all_goals
    have aK:=bx (hsep.o.below HB3.o);have hlb:w.heap.size<=w3.heap.size:=Nat.le_trans aV.o.size HB3.o.size;go_wp2_with (at_builtin;refine lI rfl _ _ 42 rfl PX aK.o 0 rfl rfl rfl rfl (by omega) (by omega) hlb ?_;rintro v' w4 hS4 -)
    rw [<- gI.o] at hS4;have dn:=bx hS4;clear hS4;go_wp2_with fail
    go_roundw
    case rel=>exact⟨k+1,hlt,by go_num,dn⟩
    case measure=>simp [intOf];omega
  ·obtain rfl:k=rs.length:=by omega
   have HF:=bx (show T.take rs.length=T by rw [<- lq.o,List.take_length]);go_wp2_with fail;go_ret
   refine⟨aV.o,_,rfl,?_⟩;have:=hsep.o.row 0 rfl
   rwa [HF.o] at this
theorem aeU {t:List D.Sets} {s:D.Sets} {k:Nat} (h:s∉t.take k) (hk:t[k]?=some s):D.place t s=k:=by
 unfold D.place;have hlt:=(List.getElem?_eq_some_iff.1 hk).1;have h1:List.idxOf s t<=k:=by
  rcases Nat.lt_or_ge k (List.idxOf s t) with h3 | h3
  ·exfalso
   unfold List.idxOf at h3;have h4:=List.not_of_lt_findIdx h3;rw [(List.getElem?_eq_some_iff.1 hk).2] at h4;simp at h4
  ·exact h3
 rcases Nat.lt_or_ge (List.idxOf s t) k with h2 | h2
 ·exfalso
  apply h
  have hm:s∈t:=List.mem_of_getElem? hk;have:=List.getElem_idxOf (List.idxOf_lt_length_of_mem hm);rw [<- this];rw [List.mem_take_iff_getElem];exact⟨List.idxOf s t,by have:=List.idxOf_lt_length_of_mem hm;omega,rfl⟩
 ·omega
theorem aiD (av sv:Value) (t:List D.Sets) (s:D.Sets) (w:World) (hA:iq w av (t.map zs)) (hz:t.length<=16777216) (Yd:∀ x∈t,x.length<=40) (hs:s.length<=40) (hv:ay w sv (zs s)) :
  Calls Tryz.prog 120 #[av,sv] w λe w'=>e = .returned (.int .i64 (D.place t s))/\Below w.heap.size w w':=by
 have HA:=bx hA;have HV:=bx hv;have HZ:=bx Yd;obtain⟨ao,cap,rfl⟩:=hA.slice;obtain⟨so,scap,rfl⟩:=hv.slice;rw [List.length_map] at HA ⊢;clear hA hv Yd
 go_enter Tryz.func120,Tryz.ntmps120
 go_wp2_with fail
 go_loopw [5] (λi wr=>∃ k:Nat,k<=t.length/\i = .int .i64 k/\Box (s∉t.take k)/\Box (Below w.heap.size w wr)) (λi _=>t.length-(intOf i).toNat)
 case atStart=>exact⟨0,by omega,rfl,⟨by simp⟩,⟨Below.refl _ _⟩⟩
 case round =>
  obtain⟨k,hk,rfl,hn,hbr⟩:=hrel
  by_cases hlt:k<t.length
  ·obtain⟨x,hx⟩:∃ x,t[k]?=some x:=⟨_,List.getElem?_eq_getElem hlt⟩
   obtain⟨bg,off,cap2,hg1,hg2,hg3,hg4,hg5⟩:=(HA.o.below hbr.o).get (by intro e;have:=congrArg List.length e;simp at this;subst this;simp at hlt);rw [List.length_map] at hg1 hg2;obtain⟨rfl,rfl⟩:ao=some ⟨bg,off,none⟩/\cap=cap2:=by injection hg1 with h1 h2 h3;exact⟨h1,h3⟩
   obtain⟨xv,hc,hxi⟩:=hg5 k (zs x) (by rw [List.getElem?_map,hx];rfl);have pX:=bx (amC xv _ (zs x) (zs s) wr hxi (HV.o.below hbr.o) (by have:=HZ.o x (List.mem_of_getElem? hx);rw [Aa];omega) (by rw [Aa];omega));have HX:=bx hx;unfold maxLen at hg3;clear hx hg1 hg5 hxi
   by_cases hxs:x=s
   ·subst hxs;have HD:=bx (show decide (zs x=zs x)=true by simp);have HP:=bx (aeU hn.o HX.o);go_wp2_with (go_at_call 164;refine pX.o.mono ?_;rintro e w1 ⟨rfl,hb1⟩;rw [HD.o])
    go_ret
    exact⟨BF (by rw [HP.o]),bt hbr.o hb1⟩
   ·have HD:=bx (show decide (zs x=zs s)=false by rw [decide_eq_false_iff_not];exact λe=>hxs (aio e));have HN:=bx (show s∉t.take (k+1) by rw [take_snoc' _ _ _ HX.o,List.mem_append];rintro(h | h);exact hn.o h;exact hxs (List.mem_singleton.1 h).symm);go_wp2_with (go_at_call 164;refine pX.o.mono ?_;rintro e w1 ⟨rfl,hb1⟩;rw [HD.o])
    go_roundw
    case rel=>exact⟨k+1,hlt,by go_num,HN,⟨bt hbr.o hb1⟩⟩
    case measure=>simp [intOf];omega
  ·obtain rfl:k=t.length:=by omega
   have HP:=bx (show D.place t s=t.length from D.Vt (by have:=hn.o;rwa [List.take_length] at this));go_wp2_with fail;go_ret
   exact⟨BF (by rw [HP.o]),hbr.o⟩
end
section
open Go.RowKit
attribute [local go_sem] Oper.semAt_some
theorem UQ:Pushes Tryz.prog 63 9 16:=.mk' (z:=.string ⟨#[]⟩) Tryz.underlying63 (by kernel_rfl) rfl
theorem Zr (l:List UInt8) (c:UInt8) (w:World) (hz:l.length<=100000) :
  Calls Tryz.prog 114 #[.string (bs l), .int .u8 (U.aA c)] w λe w'=>(∃ v,e = .returned v/\w'.ownsRow w.heap.size 9 1 v (F.split c l).length ((F.split c l).map pK))/\Below w.heap.size w w':=by
 have bK:=bx (qp l);obtain⟨S,hS⟩:∃ S,(bs l).size=S:=⟨_,rfl⟩
 have HSL:=bx (show S=l.length by rw [<- hS];exact qp l);have hSz:S<=100000:=by rw [HSL.o];exact hz
 have aU:=bx ((Sep.start w).fP w.heap.size 1 9)
 go_enter Tryz.func114,Tryz.ntmps114
 go_wp2_with fail
 go_loopw [7,6,5] (λi fr o wr=>∃ (k f:Nat) (out:List (List UInt8)) (oo:Option Addr) (oc:Nat),i = .int .i64 k/\fr = .int .i64 f/\o = .slice oo out.length oc/\f<=k/\k<=S+1/\out.length<=k/\Box (F.tJ c l out f k)/\Box (Sep [Pc.row w.heap.size 9 1 (.slice oo out.length oc) out.length (out.map pK),Pc.old w.heap.size w] wr)) (λi _ _ _=>S+1-(intOf i).toNat)
 case atStart=>exact⟨0,0,[],none,0,rfl,rfl,rfl,Nat.le_refl _,by omega,Nat.le_refl _,⟨F.tJ.start c l⟩,aU⟩
 case round =>
  obtain⟨k,f,out,oo,oc,rfl,rfl,rfl,hfk,hk,hol,hsp,hse⟩:=hrel;have aV:=bx (hse.o.bel (n:=w.heap.size) (W0:=w) (by simp));have hbs:=aV.o.size;clear aU
  rcases Nat.lt_trichotomy k S with h | h | h
  ·obtain⟨d,hd⟩:∃ d,l[k]?=some d:=⟨_,List.getElem?_eq_getElem (by have:=HSL.o;omega)⟩
   have hix:=Ag (P:=Tryz.prog) Tryz.underlying9 k hd k rfl;have HD:=bx hd;have e0:((k:Int)==(S:Int))=false:=by rw [beq_eq_false_iff_ne];omega
   by_cases hc:d=c
   ·have e1:(U.aA d==U.aA c)=true:=by rw [hc];simp
    have hcut:=Qd (P:=Tryz.prog) (T:=9) Tryz.underlying9 l f k f k rfl rfl ⟨hfk,by have:=HSL.o;omega⟩;have HC:=bx hc;clear hd hc;go_wp2_with (at_builtin;refine lI rfl _ _ 63 rfl UQ hse.o 0 rfl rfl rfl rfl (by omega) (by omega) hbs ?_;rintro v' w4 hS4 ⟨go',gc',rfl,-,-⟩)
    have dn:=bx (show Sep [Pc.row w.heap.size 9 1 (.slice (some ⟨go',0,none⟩) (out++[(l.take k).drop f]).length gc') (out++[(l.take k).drop f]).length ((out++[(l.take k).drop f]).map pK),Pc.old w.heap.size w] w4 by
     rw [List.length_append,List.map_append];exact hS4)
    clear hS4;go_wp2_with fail
    go_roundw
    case rel=>exact⟨k+1,k+1,out++[(l.take k).drop f],some ⟨go',0,none⟩,gc',by go_num,by go_num,by simp,Nat.le_refl _,by omega,by simp;omega,⟨hsp.o.cut (by have:=HSL.o;omega) (by rw [HD.o,HC.o])⟩,dn⟩
    case measure=>simp [intOf];omega
   ·have e1:(U.aA d==U.aA c)=false:=by rw [beq_eq_false_iff_ne];exact λe=>hc (U.Tm e)
    have HC:=bx hc;clear hd hc;go_wp2_with fail
    go_roundw
    case rel=>exact⟨k+1,f,out,oo,oc,by go_num,rfl,rfl,by omega,by omega,by omega,⟨hsp.o.stay (by have:=HSL.o;omega) HD.o HC.o⟩,hse⟩
    case measure=>simp [intOf];omega
  ·have e0:((k:Int)==(S:Int))=true:=by rw [beq_iff_eq];omega
   have hcut:=Qd (P:=Tryz.prog) (T:=9) Tryz.underlying9 l f k f k rfl rfl ⟨hfk,by have:=HSL.o;omega⟩;have ou:=bx (show k=l.length by rw [h];exact HSL.o);have UJ:=bx h;have hks:k<=S:=by omega
   clear h;go_wp2_with (at_builtin;refine lI rfl _ _ 63 rfl UQ hse.o 0 rfl rfl rfl rfl (by omega) (by omega) hbs ?_;rintro v' w4 hS4 ⟨go',gc',rfl,-,-⟩)
   have dn:=bx (show Sep [Pc.row w.heap.size 9 1 (.slice (some ⟨go',0,none⟩) (out++[(l.take k).drop f]).length gc') (out++[(l.take k).drop f]).length ((out++[(l.take k).drop f]).map pK),Pc.old w.heap.size w] w4 by
    rw [List.length_append,List.map_append];exact hS4)
   clear hS4;go_wp2_with fail
   go_roundw
   case rel =>
    refine⟨k+1,k+1,out++[(l.take k).drop f],some ⟨go',0,none⟩,gc',by go_num,by go_num,by simp,Nat.le_refl _,by omega,by simp;omega,⟨?_⟩,dn⟩;have:=hsp.o;rw [ou.o] at this ⊢;exact this.last
   case measure=>simp [intOf];omega
  ·have HO:=bx (show wr.ownsRow w.heap.size 9 1 (.slice oo out.length oc) (F.split c l).length ((F.split c l).map pK) by
    have h1:=hsp.o;rw [show k=l.length+1 by have:=HSL.o;omega] at h1;rw [h1.done];exact hse.o.row 0 rfl)
   go_wp2_with fail;go_ret
   exact⟨⟨_,rfl,HO.o⟩,aV.o⟩
theorem LY (l:List UInt8) (c:UInt8) (w:World) (hz:l.length<=100000) :
  Calls Tryz.prog 114 #[.string (bs l), .int .u8 (U.aA c)] w λe w'=>(∃ v,e = .returned v/\iY w' v (F.split c l))/\Below w.heap.size w w' :=
 (Zr l c w hz).mono λ_ _ ⟨⟨v,h1,h2⟩,h3⟩=>⟨⟨v,h1,iY.dL h2 rfl⟩,h3⟩
theorem Iq (c:UInt8) (w:World):Calls Tryz.prog 159 #[.int .u8 (U.aA c)] w λe w'=>e = .returned (.bool (F.blank c))/\w=w':=by
 have e:F.blank c=(U.aA c==32||U.aA c==9||U.aA c==13):=by
  unfold F.blank;rw [<- MQ,<- MQ,<- MQ]
  rfl
 rw [e];clear e;generalize U.aA c=x
 go_enter Tryz.func159,Tryz.ntmps159
 go_wp2_with fail
 all_goals go_returns
 all_goals exact⟨aI (by simp [*]),rfl⟩
theorem amZ (c:UInt8) (w:World):Calls Tryz.prog 187 #[.int .u8 (U.aA c)] w λe w'=>e = .returned (.int .i64 (F.digit c))/\w=w':=by
 have h0:=U.oZ c;have h1:=U.qj c;unfold F.digit;generalize U.aA c=x at *;simp only
 go_enter Tryz.func187,Tryz.ntmps187
 go_wp2_with fail
 all_goals go_returns
 all_goals exact⟨congrArg Ending.returned (fF (by repeat' (first | omega | split))),rfl⟩
end
namespace F
open Go.Proofs.YtlmdjifffmofeaaGreatDoor
def Fq (l:List UInt8) (i:Nat):Bool:=(l.drop i).take 2==[46,46]
def ends (l:List UInt8):Option (Int×Int) :=
 match (List.range (l.length-1)).find? (Fq l) with
 | some i=>match code (l.take i),code (l.drop (i+2)) with
  | some a,some b=>some (a,b)
  | _,_=>none
 | none=>(code l).map λn=>(n,n)
abbrev Rec:=Nat×Int×Int×List (List UInt8)
def KG (t:List UInt8):Option (Option (Int×Int×List (List UInt8))) :=
 if t=[] then some none
 else match ends (((split 59 t).map trim).headD []) with
  | none=>none
  | some (a,b)=>if b<a\/1114111<b\/((split 59 t).map trim).length<2\/21<((split 59 t).map trim).length then none else some (some (a,b,((split 59 t).map trim).tail))
def zY (s:List UInt8):Option (Option (Int×Int×List (List UInt8))):=KG (trim ((split 35 s).headD []))
theorem aeF {t:List UInt8} (h:KG t=some none):t=[]:=by
 unfold KG at h
 split at h
 ·assumption
 ·split at h
  ·cases h
  ·split at h <;> cases h
theorem Td {t:List UInt8} {a b:Int} {fs:List (List UInt8)} (h:KG t=some (some (a,b,fs))):t≠[]/\ends (((split 59 t).map trim).headD [])=some (a,b)/\a<=b/\b<=1114111/\2<=((split 59 t).map trim).length/\((split 59 t).map trim).length<=21/\fs=((split 59 t).map trim).tail:=by
 unfold KG at h
 split at h
 ·cases h
 ·rename_i hne
  split at h
  ·cases h
  ·rename_i x y he
   split at h
   ·cases h
   ·rename_i hc
    cases h;exact⟨hne,he,by omega,by omega,by omega,by omega,rfl⟩
def qN (L:List (List UInt8)):Nat->Option (List Rec)
 | 0=>some []
 | k+1=>match qN L k with
  | none=>none
  | some out=>match zY (L.getD k []) with
   | none=>none
   | some none=>some out
   | some (some r)=>if out.length=300 then none else some (out++[(k+1,r)])
def parse (s:List UInt8):Option (List Rec):=if s.length<=20000 then qN (split 10 s) (split 10 s).length else none
theorem abw {L:List (List UInt8)} {k:Nat}:∀ {n:Nat} {r:List Rec},k<=n->qN L n=some r->∃ q,qN L k=some q
 | 0,r,hk,h=>by
  obtain rfl:k=0:=by omega
  exact⟨_,rfl⟩
 | n+1,r,hk,h=>by
  rcases Nat.lt_or_ge n k with h1 | h1
  ·obtain rfl:k=n+1:=by omega
   exact⟨r,h⟩
  ·unfold qN at h
   cases hp:qN L n with
   | none=>rw [hp] at h;cases h
   | some q=>exact abw h1 hp
def valueOf (names:List (List UInt8)) (x:List UInt8):Option Nat:=names.findIdx? (·==x)
def letter (c:UInt8):Bool :=
 let x:Int:=U.aA c
 decide (97<=x)&&decide (x<=122)||decide (65<=x)&&decide (x<=90)||decide (48<=x)&&decide (x<=57)||decide (x=95)
def Zl (names:List (List UInt8)) (i:Nat):Bool :=
 let x:=names.getD i []
 x.all letter&&(valueOf (names.take i) x).isNone&&decide (x≠[])&&decide (x.length<=40)
def vM (names:List (List UInt8)):Bool:=(List.range names.length).all (Zl names)&&decide (1<=names.length)&&decide (names.length<=32)
abbrev bJ:=Int×Int×Int
def Ep (x:bJ):Bool:=decide (0<=x.1)&&decide (x.1<=x.2.1)&&decide (x.2.1<=1114111)&&decide (0<=x.2.2)&&decide (x.2.2<=31)
def tX (l:List bJ):Bool:=(List.range l.length).all (λi=>Ep (l.getD i (0,0,0))&&(decide (i=0)||decide ((l.getD (i-1) (0,0,0)).2.1<(l.getD i (0,0,0)).1)))&&decide (l.length<=600)
def XJ (x y:bJ):Bool:=decide (x.1<=y.2.1)&&decide (y.1<=x.2.1)
def FC (l:List bJ) (x:bJ):List bJ:=l.takeWhile (λy=>decide (y.1<x.1))++x::l.dropWhile (λy=>decide (y.1<x.1))
def vI (l:List bJ):Nat->Option (List bJ)
 | 0=>some []
 | i+1=>match vI l i with
  | none=>none
  | some out=>if (List.range i).any (λk=>XJ (l.getD i (0,0,0)) (l.getD k (0,0,0)))=true then none else some (FC out (l.getD i (0,0,0)))
def Jf (l:List bJ):Option (List bJ):=if l.all Ep=true/\l.length<=600 then vI l l.length else none
def wH (l:List bJ) (x:bJ):List bJ:=match l.getLast? with
 | none=>l++[x]
 | some y=>if y.2.1+1=x.1/\y.2.2=x.2.2 then l.dropLast++[(y.1,x.2.1,y.2.2)] else l++[x]
def Ac (l:List bJ):Nat->List bJ
 | 0=>[]
 | i+1=>wH (Ac l i) (l.getD i (0,0,0))
def vK (names:List (List UInt8)) (loose:Bool) (rs:List Rec):Nat->Option (List bJ)
 | 0=>some []
 | k+1=>match vK names loose rs k with
  | none=>none
  | some out=>match valueOf names ((rs.getD k (0,0,0,[])).2.2.2.headD []) with
   | none=>if loose=true then some out else none
   | some v=>if (Jf (out++[((rs.getD k (0,0,0,[])).2.1,(rs.getD k (0,0,0,[])).2.2.1,(v:Int))])).isSome=true then some (out++[((rs.getD k (0,0,0,[])).2.1,(rs.getD k (0,0,0,[])).2.2.1,(v:Int))]) else none
def Bh (file:List UInt8) (names:List (List UInt8)) (loose:Bool):Option (List bJ) :=
 match parse file with
 | none=>none
 | some rs=>match vK names loose rs rs.length with
  | none=>none
  | some out=>match Jf out with
   | none=>none
   | some m=>if tX m=true then some (Ac m m.length) else none
abbrev Trie:=List Int×List (List Int)
def rF (l:List bJ) (r:Int):Int:=match l.reverse.find? (λx=>decide (x.1<=r)&&decide (r<=x.2.1)) with
 | some x=>x.2.2
 | none=>0
def qL (l:List bJ) (row:Nat):List Int:=(List.range 256).map λj=>rF l ((row*256+j:Nat):Int)
def tZ (t:Trie) (b:List Int):Trie:=match t.2.findIdx? (·==b) with
 | some i=>(t.1++[(i:Int)],t.2)
 | none=>(t.1++[(t.2.length:Int)],t.2++[b])
def nN (l:List bJ):Nat->Trie
 | 0=>([],[])
 | k+1=>tZ (nN l k) (qL l k)
def iR (l:List bJ):Trie:=nN l 4352
def jK (t:Trie):Bool:=decide (t.1.length=4352)&&t.1.all (λn=>decide (0<=n)&&decide (n<t.2.length))&&t.2.all (λb=>decide (b.length=256)&&b.all λv=>decide (0<=v)&&decide (v<=31))
def says (t:Trie) (r:Int):Int:=(t.2.getD (t.1.getD (r.toNat / 256) 0).toNat []).getD (r.toNat % 256) 0
structure Built (l:List bJ) (k:Nat) (t:Trie):Prop where
 len:t.1.length=k
 at':∀ i,i<k->∃ n:Nat,t.1[i]?=some (n:Int)/\t.2[n]?=some (qL l i)
 all:∀ b∈t.2,∃ i,i<k/\b=qL l i
 few:t.2.length<=k
theorem built (l:List bJ):∀ k,Built l k (nN l k)
 | 0=>⟨rfl,λi h=>by omega,λb h=>absurd h List.not_mem_nil,Nat.le_refl _⟩
 | k+1=>by
  have ih:=built l k;show Built l (k+1) (tZ (nN l k) (qL l k))
  generalize nN l k=t at ih;unfold tZ
  split
  ·rename_i i h
   obtain⟨hi,hb,-⟩:=List.findIdx?_eq_some_iff_getElem.1 h;have hb2:t.2[i]?=some (qL l k):=by rw [List.getElem?_eq_getElem hi];simpa using hb
   refine⟨by simp [ih.len],λj hj=>?_,λb hb=>?_,by have:=ih.few;simp;omega⟩
   ·rcases Nat.lt_or_ge j k with h1 | h1
    ·obtain⟨n,e1,e2⟩:=ih.at' j h1;exact⟨n,by simp only;rw [List.getElem?_append_left (by rw [ih.len];exact h1)];exact e1,e2⟩
    ·obtain rfl:j=k:=by omega
     exact⟨i,by simp only;rw [List.getElem?_append_right (by rw [ih.len];omega),ih.len];simp,hb2⟩
   ·obtain⟨j,e1,e2⟩:=ih.all b hb;exact⟨j,by omega,e2⟩
  ·refine⟨by simp [ih.len],λj hj=>?_,λb hb=>?_,by have:=ih.few;simp;omega⟩
   ·rcases Nat.lt_or_ge j k with h1 | h1
    ·obtain⟨n,e1,e2⟩:=ih.at' j h1;have hn:=(List.getElem?_eq_some_iff.1 e2).1;exact⟨n,by simp only;rw [List.getElem?_append_left (by rw [ih.len];exact h1)];exact e1,by simp only;rw [List.getElem?_append_left hn];exact e2⟩
    ·obtain rfl:j=k:=by omega
     exact⟨t.2.length,by simp only;rw [List.getElem?_append_right (by rw [ih.len];omega),ih.len];simp,by simp⟩
   ·rcases List.mem_append.1 hb with h1 | h1
    ·obtain⟨j,e1,e2⟩:=ih.all b h1;exact⟨j,by omega,e2⟩
    ·exact⟨k,by omega,by simpa using h1⟩
theorem RP (l:List bJ) (r:Nat) (hr:r / 256<4352):says (iR l) (r:Int)=rF l (r:Int):=by
 obtain⟨n,h1,h2⟩:=(built l 4352).at' (r / 256) hr;have e1:(iR l).1.getD (r / 256) 0=(n:Int):=by rw [List.getD_eq_getElem?_getD];unfold iR;rw [h1];rfl
 have e2:(iR l).2.getD n []=qL l (r / 256):=by rw [List.getD_eq_getElem?_getD];unfold iR;rw [h2];rfl
 unfold says;rw [Int.toNat_natCast,e1,Int.toNat_natCast,e2,List.getD_eq_getElem?_getD];unfold qL;rw [List.getElem?_map,List.getElem?_range (Nat.mod_lt _ (by omega))];have e3:r / 256*256+r % 256=r:=by omega
 rw [Option.map_some,e3]
 rfl
theorem anO {l:List bJ} (h:∀ x∈l,0<=x.2.2/\x.2.2<=31) (r:Int):0<=rF l r/\rF l r<=31:=by
 unfold rF
 split
 ·rename_i x hx
  exact h x (by simpa using List.mem_of_find?_eq_some hx)
 ·omega
theorem WT {l:List bJ} (h:∀ x∈l,0<=x.2.2/\x.2.2<=31):jK (iR l)=true:=by
 have hb:=built l 4352;unfold jK;simp only [Bool.and_eq_true,decide_eq_true_eq,List.all_eq_true];refine⟨⟨hb.len,λn hn=>?_⟩,λb hbm=>?_⟩
 ·obtain⟨i,hi,e⟩:=List.getElem_of_mem hn;have hi2:i<4352:=by have:=hb.len;unfold iR at hi;omega
  obtain⟨m,h1,h2⟩:=hb.at' i hi2;have:(iR l).1[i]?=some n:=by rw [List.getElem?_eq_getElem hi,e]
  unfold iR at this;rw [this] at h1
  cases h1;have:=(List.getElem?_eq_some_iff.1 h2).1;unfold iR;omega
 ·obtain⟨i,-,rfl⟩:=hb.all b hbm;refine⟨by unfold qL;simp,λv hv=>?_⟩;unfold qL at hv;obtain⟨j,-,rfl⟩:=List.mem_map.1 hv;exact anO h _
end F
section
open Go.RowKit
attribute [local go_sem] Oper.semAt_some
def I5 (v:Value):Nat:=match v with | .string s=>s.size | _=>0
theorem acU {m:List UInt8} {x:UInt8} (h:m.getLast?=some x) (hb:F.blank x=true):F.tH m.length m=F.tH m.dropLast.length m.dropLast:=by
 obtain⟨n,hn⟩:∃ n,m.length=n+1:=by
  cases m with
  | nil=>simp at h
  | cons a t=>exact⟨t.length,rfl⟩
 rw [List.length_dropLast,hn,show n+1-1=n by omega]
 conv=>lhs;unfold F.tH
 rw [h];simp only;rw [if_pos hb]
theorem X5 {m:List UInt8} {x:UInt8} (h:m.getLast?=some x) (hb:F.blank x=false):F.tH m.length m=m:=by
 obtain⟨n,hn⟩:∃ n,m.length=n+1:=by
  cases m with
  | nil=>simp at h
  | cons a t=>exact⟨t.length,rfl⟩
 rw [hn];unfold F.tH;rw [h];simp only;rw [if_neg (by rw [hb];exact Bool.false_ne_true)]
theorem List.adh {a b:List UInt8} {n:Nat} (h:n=a.length):(a++b).take n=a:=by subst h;simp
theorem Ja (l:List UInt8) (w:World) (hz:l.length<=100000) :
  Calls Tryz.prog 115 #[.string (bs l)] w λe w'=>e = .returned (.string (bs (F.trim l)))/\w=w':=by
 go_enter Tryz.func115,Tryz.ntmps115
 go_wp2_with fail
 go_loop [0] (λv=>∃ m:List UInt8,v = .string (bs m)/\m.length<=100000/\Box (F.zu m=F.zu l)) (λv=>I5 v)
 case atStart=>exact⟨l,rfl,hz,⟨rfl⟩⟩
 case round =>
  obtain⟨m,rfl,hm,htr⟩:=hrel
  cases m with
  | nil =>
   have nY:=bx (show F.tH ([]:List UInt8).length []=F.trim l by unfold F.trim;rw [<- htr.o];rfl);have hemp:=G8;go_wp2_with fail;clear hemp
   go_loop [0] (λv=>∃ q:List UInt8,v = .string (bs q)/\q.length<=100000/\Box (F.tH q.length q=F.trim l)) (λv=>I5 v)
   case atStart=>exact⟨_,rfl,hm,nY⟩
   case round =>
    obtain⟨q,rfl,hq,BP⟩:=hrel
    rcases List.eq_nil_or_concat q with rfl | ⟨r,x,rfl⟩
    ·have HT:=bx (show F.trim l=[] by rw [<- BP.o];rfl);have hemp:=G8;go_wp2_with fail;go_ret
     exact⟨by rw [HT.o];rfl,rfl⟩
    ·rw [List.concat_eq_append] at hq BP ⊢;have hlast:(r++[x]).getLast?=some x:=by simp
     have hne:=BA (l:=r++[x]) (by simp);have hsz:(bs (r++[x])).size=r.length+1:=by rw [qp];simp
     have hix:=Ag (P:=Tryz.prog) (l:=r++[x]) Tryz.underlying9 r.length (d:=x) (by simp) (r.length:Int) rfl;have hup:=NK (P:=Tryz.prog) (T:=9) Tryz.underlying9 (r++[x]) r.length (r.length:Int) rfl (by simp);have hrl:r.length<=99999:=by simp at hq;omega
     rw [List.adh rfl] at hup
     rcases Bool.eq_false_or_eq_true (F.blank x) with hb | hb
     ·have HT:=bx (show F.tH r.length r=F.trim l by
       have h:=acU hlast hb;rw [List.dropLast_concat] at h;rw [<- h];exact BP.o)
      have HB:=bx hb;clear hb hq;go_wp2_with fail;refine(Iq _ _).mono ?_;rintro e w1 ⟨rfl,rfl⟩;rw [HB.o];go_wp2_with fail
      go_round
      case rel=>exact⟨r,rfl,by omega,HT⟩
      case measure=>simp [I5,qp]
     ·have HT:=bx (show F.trim l=r++[x] by rw [<- BP.o];exact X5 hlast hb);have HB:=bx hb;clear hb hq;go_wp2_with fail;refine(Iq _ _).mono ?_;rintro e w1 ⟨rfl,rfl⟩;rw [HB.o];go_wp2_with fail;go_ret
      exact⟨by rw [HT.o];rfl,rfl⟩
  | cons x t =>
   have hne:=BA (l:=x::t) (by simp);have hix:=Ag (P:=Tryz.prog) (l:=x::t) Tryz.underlying9 0 (d:=x) rfl 0 rfl;have hsz:(bs (x::t)).size=t.length+1:=qp _;have e:F.zu (x::t)=if F.blank x=true then F.zu t else x::t:=rfl
   rcases Bool.eq_false_or_eq_true (F.blank x) with hb | hb
   ·have HT:=bx (show F.zu t=F.zu l by rw [<- htr.o,e,if_pos hb]);have hfr:=Ue (P:=Tryz.prog) (T:=9) Tryz.underlying9 (x::t) 1 1 rfl (by simp);have HB:=bx hb;clear hb e;go_wp2_with fail;refine(Iq _ _).mono ?_;rintro e w1 ⟨rfl,rfl⟩;rw [HB.o];go_wp2_with fail
    go_round
    case rel=>exact⟨t,rfl,by simp at hm;omega,HT⟩
    case measure=>simp [I5,qp]
   ·have nY:=bx (show F.tH (x::t).length (x::t)=F.trim l by unfold F.trim;rw [<- htr.o,e,if_neg (by rw [hb];exact Bool.false_ne_true)]);have HB:=bx hb;clear hb e;go_wp2_with fail;refine(Iq _ _).mono ?_;rintro e w1 ⟨rfl,rfl⟩;rw [HB.o];go_wp2_with fail;clear hne hix hsz
    go_loop [0] (λv=>∃ q:List UInt8,v = .string (bs q)/\q.length<=100000/\Box (F.tH q.length q=F.trim l)) (λv=>I5 v)
    case atStart=>exact⟨_,rfl,hm,nY⟩
    case round =>
     obtain⟨q,rfl,hq,BP⟩:=hrel
     rcases List.eq_nil_or_concat q with rfl | ⟨r,x,rfl⟩
     ·have HT:=bx (show F.trim l=[] by rw [<- BP.o];rfl);have hemp:=G8;go_wp2_with fail;go_ret
      exact⟨by rw [HT.o];rfl,rfl⟩
     ·rw [List.concat_eq_append] at hq BP ⊢;have hlast:(r++[x]).getLast?=some x:=by simp
      have hne:=BA (l:=r++[x]) (by simp);have hsz:(bs (r++[x])).size=r.length+1:=by rw [qp];simp
      have hix:=Ag (P:=Tryz.prog) (l:=r++[x]) Tryz.underlying9 r.length (d:=x) (by simp) (r.length:Int) rfl;have hup:=NK (P:=Tryz.prog) (T:=9) Tryz.underlying9 (r++[x]) r.length (r.length:Int) rfl (by simp);have hrl:r.length<=99999:=by simp at hq;omega
      rw [List.adh rfl] at hup
      rcases Bool.eq_false_or_eq_true (F.blank x) with hb | hb
      ·have HT:=bx (show F.tH r.length r=F.trim l by
        have h:=acU hlast hb;rw [List.dropLast_concat] at h;rw [<- h];exact BP.o)
       have HB:=bx hb;clear hb hq;go_wp2_with fail;refine(Iq _ _).mono ?_;rintro e w1 ⟨rfl,rfl⟩;rw [HB.o];go_wp2_with fail
       go_round
       case rel=>exact⟨r,rfl,by omega,HT⟩
       case measure=>simp [I5,qp]
      ·have HT:=bx (show F.trim l=r++[x] by rw [<- BP.o];exact X5 hlast hb);have HB:=bx hb;clear hb hq;go_wp2_with fail;refine(Iq _ _).mono ?_;rintro e w1 ⟨rfl,rfl⟩;rw [HB.o];go_wp2_with fail;go_ret
       exact⟨by rw [HT.o];rfl,rfl⟩
def capD:Nat->Int
 | 0=>0
 | k+1=>16*capD k+15
theorem aiT (k:Nat) (h:k<=6):0<=capD k/\capD k<=16777215:=by
 rcases (show k=0\/k=1\/k=2\/k=3\/k=4\/k=5\/k=6 by omega) with rfl | rfl | rfl | rfl | rfl | rfl | rfl <;> decide
def PO (o:Option Int):Value:=match o with
 | some n=>.tuple #[.int .i64 n, .bool true]
 | none=>.tuple #[.int .i64 0, .bool false]
theorem Pm (l:List UInt8) (w:World) (hz:l.length<=100000) :
  Calls Tryz.prog 154 #[.string (bs l)] w λe w'=>e = .returned (PO (F.code l))/\w=w':=by
 obtain⟨S,hS⟩:∃ S,(bs l).size=S:=⟨_,rfl⟩
 have HSL:=bx (show S=l.length by rw [<- hS];exact qp l);have hSz:S<=100000:=by rw [HSL.o];exact hz
 by_cases h46:4<=S/\S<=6
 rotate_left
 ·have HC:=bx (show F.code l=none by unfold F.code;rw [<- HSL.o,if_neg h46]);have aff:S<4\/(4<=S/\6<S):=by omega
  clear h46
  rcases aff with h | ⟨h,h'⟩
  all_goals
   go_enter Tryz.func154,Tryz.ntmps154
   go_wp2_with fail;go_ret2
   exact⟨by rw [HC.o];rfl,rfl⟩
 ·have HC:=bx (show F.code l=F.yZ 0 l by unfold F.code;rw [<- HSL.o,if_pos h46]);obtain⟨h4,h6⟩:=h46
  go_enter Tryz.func154,Tryz.ntmps154
  go_wp2_with fail
  go_loop [5,4] (λi n=>∃ (k:Nat) (x:Int),k<=S/\i = .int .i64 k/\n = .int .i64 x/\0<=x/\x<=16777215/\Box (x<=capD k)/\Box (F.yZ x (l.drop k)=F.yZ 0 l)) (λi _=>S-(intOf i).toNat)
  case atStart=>exact⟨0,0,by omega,rfl,rfl,by omega,by omega,⟨Int.le_refl _⟩,⟨rfl⟩⟩
  case round =>
   obtain⟨k,x,hk,rfl,rfl,hx0,hx1,hcap,hgo⟩:=hrel
   by_cases hlt:k<S
   ·have hkl:k<l.length:=by rw [<- HSL.o];exact hlt
    obtain⟨d,hd⟩:∃ d,l[k]?=some d:=⟨_,List.getElem?_eq_getElem hkl⟩
    have hix:=Ag (P:=Tryz.prog) Tryz.underlying9 k hd k rfl;have hdr:l.drop k=d::l.drop (k+1):=by
     rw [List.drop_eq_getElem_cons hkl];rw [List.getElem?_eq_getElem hkl] at hd;rw [Option.some.inj hd]
    have e:F.yZ x (d::l.drop (k+1))=if F.digit d<0 then none else F.yZ (16*x+F.digit d) (l.drop (k+1)):=rfl
    have HG:=bx (show (if F.digit d<0 then none else F.yZ (16*x+F.digit d) (l.drop (k+1)))=F.yZ 0 l by rw [<- e,<- hdr];exact hgo.o);obtain⟨d0,d1⟩:=F.ahF d;have HD:=bx (amZ d);generalize F.digit d=y at HG HD d0 d1;clear hd hdr e hkl
    rcases Int.lt_or_le y 0 with hy | hy
    ·have HN:=bx (show F.code l=none by rw [HC.o,<- HG.o,if_pos hy]);go_wp2_with fail;refine(HD.o _).mono ?_;rintro e w1 ⟨rfl,rfl⟩;go_wp2_with fail;go_ret2
     exact⟨by rw [HN.o];rfl,rfl⟩
    ·have HN:=bx (show F.yZ (16*x+y) (l.drop (k+1))=F.yZ 0 l by rw [<- HG.o,if_neg (by omega)]);have HCP:=bx (show 16*x+y<=capD (k+1) by have:=hcap.o;show 16*x+y<=16*capD k+15;omega);have hc2:16*x+y<=16777215:=Int.le_trans HCP.o (aiT (k+1) (by omega)).2;go_wp2_with fail;refine(HD.o _).mono ?_;rintro e w1 ⟨rfl,rfl⟩;go_wp2_with fail
     go_round
     case rel=>exact⟨k+1,16*x+y,by omega,by go_num,by go_num,by omega,hc2,HCP,HN⟩
     case measure=>simp [intOf];omega
   ·have HN:=bx (show F.code l=some x by
     rw [HC.o,<- hgo.o,List.drop_eq_nil_of_le (by rw [<- HSL.o];omega)]
     rfl)
    go_wp2_with fail;go_ret2
    exact⟨by rw [HN.o];rfl,rfl⟩
theorem abC {q:Nat->Bool} {n:Nat} (h:∀ i,i<n->q i=false):(List.range n).find? q=none:=by
 rw [List.find?_eq_none];intro i hi;rw [h i (List.mem_range.1 hi)];exact Bool.false_ne_true
theorem ZQ (q:Nat->Bool):∀ n k,k<n->q k=true->(∀ i,i<k->q i=false)->(List.range n).find? q=some k
 | 0,_,h,_,_=>by omega
 | n+1,k,h,hk,hi=>by
  rw [List.range_succ,List.find?_append]
  rcases Nat.lt_or_ge k n with h1 | h1
  ·rw [ZQ q n k h1 hk hi];rfl
  ·obtain rfl:k=n:=by omega
   rw [abC hi,Option.none_or,List.find?_cons_of_pos hk]
theorem aiO (l:List UInt8) (a b:Int) (w:World) (hz:l.length<=100000) (hok:F.ends l=some (a,b)) :
  Calls Tryz.prog 186 #[.string (bs l)] w λe w'=>e = .returned (.tuple #[.int .i64 a, .int .i64 b, .bool true])/\w=w':=by
 obtain⟨S,hS⟩:∃ S,(bs l).size=S:=⟨_,rfl⟩
 have HSL:=bx (show S=l.length by rw [<- hS];exact qp l);have hSz:S<=100000:=by rw [HSL.o];exact hz
 have nC:=bx hok;clear hok
 go_enter Tryz.func186,Tryz.ntmps186
 go_wp2_with fail
 go_loop [5] (λi=>∃ k:Nat,k<=S/\i = .int .i64 k/\Box (∀ j,j<k->F.Fq l j=false)) (λi=>S-(intOf i).toNat)
 case atStart=>exact⟨0,by omega,rfl,⟨λj h=>by omega⟩⟩
 case round =>
  obtain⟨k,hk,rfl,hno⟩:=hrel
  by_cases hlt:k+2<=S
  ·have hcut:=Qd (P:=Tryz.prog) (T:=9) Tryz.underlying9 l k (k+2) (k:Int) ((k:Int)+2) rfl (by omega) ⟨by omega,by have:=HSL.o;omega⟩;obtain⟨X,hX⟩:∃ X,(l.take (k+2)).drop k=X:=⟨_,rfl⟩
   have fO:=bx (show F.Fq l k=(X==[46,46]) by
    unfold F.Fq;rw [<- hX,List.take_drop,Nat.add_comm k 2,Nat.add_comm])
   rw [hX] at hcut;clear hX
   rcases Bool.eq_false_or_eq_true (X==[46,46]) with hd | hd
   ·have hx:X=[46,46]:=by simpa using hd
    have HF:=bx (show (List.range (l.length-1)).find? (F.Fq l)=some k from ZQ _ _ k (by have:=HSL.o;omega) (by rw [fO.o,hd]) hno.o);have hcmp:((bs X).toList==[46,46])=true:=by rw [Ai,hx];rfl
    clear hx;have hup:=NK (P:=Tryz.prog) (T:=9) Tryz.underlying9 l k (k:Int) rfl (by have:=HSL.o;omega);have hfr:=Ue (P:=Tryz.prog) (T:=9) Tryz.underlying9 l (k+2) ((k:Int)+2) (by omega) (by have:=HSL.o;omega);have bU:=bx (λW=>Pm (l.take k) W (by rw [List.length_take];have:=HSL.o;omega));have iG:=bx (λW=>Pm (l.drop (k+2)) W (by rw [List.length_drop];have:=HSL.o;omega));have HAB:=bx (show F.code (l.take k)=some a/\F.code (l.drop (k+2))=some b by
     have h:=nC.o;unfold F.ends at h;rw [HF.o] at h;simp only at h
     split at h
     ·rename_i h1 h2
      cases h;exact⟨h1,h2⟩
     ·cases h)
    rw [HAB.o.1] at bU;rw [HAB.o.2] at iG;unfold PO at bU iG;simp only at bU iG;clear hd;go_wp2_with fail;refine(bU.o _).mono ?_;rintro e w1 ⟨rfl,rfl⟩;go_wp2_with fail;refine(iG.o _).mono ?_;rintro e w1 ⟨rfl,rfl⟩;go_wp2_with fail
    go_ret3
    exact⟨rfl,rfl⟩
   ·have HN:=bx (show ∀ j,j<k+1->F.Fq l j=false from λj hj=>by
     rcases Nat.lt_or_ge j k with h1 | h1
     ·exact hno.o j h1
     ·obtain rfl:j=k:=by omega
      rw [fO.o,hd])
    have hcmp:((bs X).toList==[46,46])=false:=by rw [Ai];exact hd
    clear hd;go_wp2_with fail
    go_round
    case rel=>exact⟨k+1,by omega,by go_num,HN⟩
    case measure=>simp [intOf];omega
  ·have HF:=bx (show (List.range (l.length-1)).find? (F.Fq l)=none from abC (λi hi=>hno.o i (by have:=HSL.o;omega)));have bU:=bx (λW=>Pm l W hz);have HAB:=bx (show F.code l=some a/\a=b by
    have h:=nC.o;unfold F.ends at h;rw [HF.o] at h;simp only at h
    cases hc:F.code l with
    | none=>rw [hc] at h;cases h
    | some x=>rw [hc] at h;cases h;exact⟨rfl,rfl⟩)
   rw [HAB.o.1] at bU;unfold PO at bU;simp only at bU;go_wp2_with fail;refine(bU.o _).mono ?_;rintro e w1 ⟨rfl,rfl⟩;go_wp2_with fail
   go_ret3
   exact⟨by rw [<- HAB.o.2];rfl,rfl⟩
theorem OX {w:World} {base n:Nat} {e:TypeId} {v:Value} {xs:List Value} (h:w.ownsRow base e 1 v n xs) (hn:0<n):∃ (g cap:Nat) (cur:Array Value),v = .slice (some ⟨g,0,none⟩) n cap/\base<=g/\n<=cap/\cap<=9223372036854775807/\ak w g e cur/\∀ (i:Nat) (x:Value),xs[i]?=some x->cur[i]?=some x:=by
 rcases h.2 with⟨-,h0⟩ | ⟨g,cap,cur,rfl,h2,h3,h4,h5,h6,h7⟩
 ·omega
 ·refine⟨g,cap,cur,rfl,h2,h4,by unfold maxLen at h5;omega,h3,λi x hx=>?_⟩;rw [<- h7,List.getElem?_take] at hx
  split at hx
  ·rw [<- Array.getElem?_toList];exact hx
  ·cases hx
theorem anB {w:World} {base n:Nat} {e:TypeId} {v:Value} {xs:List Value} (h:w.ownsRow base e 1 v n xs) {g:Nat} (hg:v.ownBlock=some g) (i:Nat) (hi:i<n) (u:Value):(w.setCell ⟨g,i,none⟩ u).ownsRow base e 1 v n (xs.set i u):=by
 refine⟨by rw [List.length_set];exact h.1,?_⟩
 rcases h.2 with⟨-,h0⟩ | ⟨g',cap,cur,rfl,h2,h3,h4,h5,h6,h7⟩
 ·omega
 ·simp [Value.ownBlock] at hg;subst hg;refine .inr ⟨g',cap,cur.setIfInBounds i u,rfl,h2,ak.bP (w:=w) (t:=e) h3 i u,h4,h5,by simpa using h6,?_⟩;rw [Array.toList_setIfInBounds,<- h7]
  apply List.ext_getElem?
  intro j;rw [List.getElem?_take,List.getElem?_set,List.getElem?_set,List.getElem?_take,List.length_take]
  by_cases hj:j<n*1
  ·simp only [hj,if_true]
   by_cases e1:i=j
   ·subst e1;simp only [if_true];have:i<min (n*1) cur.toList.length↔i<cur.toList.length:=by omega
    simp only [this]
   ·simp [e1]
  ·simp only [hj,if_false]
   by_cases e1:i=j
   ·omega
   ·simp [e1]
theorem Sep.setRow' {W:World} {ps:List Pc} (h:Sep ps W) (k:Nat) {base n:Nat} {e:TypeId} {v:Value} {xs:List Value} (hk:ps[k]?=some (Pc.row base e 1 v n xs)) {g:Nat} (hg:v.ownBlock=some g) (i:Nat) (hi:i<n) (u:Value) :
  Sep (ps.set k (Pc.row base e 1 v n (xs.set i u))) (W.setCell ⟨g,i,none⟩ u) :=
 h.upd (own:=λq=>q=g) k hk (Turns.setCell (own:=λq=>q=g) W (p:=⟨g,i,none⟩) rfl u) (λq hq _=>by subst hq;exact hg) (anB (h.row k hk) hg i hi u) (λq hq=>.inl hq)
theorem Oq (c:UInt8) (l:List UInt8):∃ h t,F.split c l=h::t/\h.length<=l.length:=by
 cases hs:F.split c l with
 | nil=>exact absurd hs (F.Zp c l)
 | cons h t=>exact⟨h,t,rfl,F.Jb c l h (by rw [hs];exact List.mem_cons_self ..)⟩
theorem GV {P:Program} {fn:Func} {p u u2:Tmp} {ty:TypeId} (h:fn.results=#[.cell p ty, .tmp u, .tmp u2]) (tmps:Array Value) (w:World) (g:Nat) (t:TypeId) (cs:Array Value) (fr:Nat×Nat) (d:TypeDesc)
  (hp:tmps.getD p undef = .pointer (some ⟨g,0,none⟩)) (hg:w.heap[g]?=some (.cells cs t fr)) (hu:P.underlying ty=some d) (hd:(match d with | .struct _ | .array _ _=>true | _=>false)=true) (hi:(P.info? ty).map (·.size)=some cs.size) :
  (results fn tmps).run P w = .ok (.tuple #[.agg cs,tmps.getD u undef,tmps.getD u2 undef]) w:=by
 have hp':tmps[p]?.getD undef = .pointer (some ⟨g,0,none⟩):=by simpa using hp
 simp [results,h,hp',asAddr,run_loadVar_row w g t ty cs fr d hg hu hd hi,Result.andThen]
theorem recInfo:(Tryz.prog.info? 171).map (·.size)=some 4:=by kernel_rfl
theorem an8 (l:List UInt8) (w:World) (hz:l.length<=20000) (hok:F.zY l=some none) :
  Calls Tryz.prog 153 #[.string (bs l)] w λe w'=>e = .returned (.tuple #[.agg #[.int .i64 0, .int .i64 0, .int .i64 0, .slice none 0 0], .bool false, .int .i64 0])/\Below w.heap.size w w':=by
 obtain⟨h,t,hs,hl⟩:=Oq 35 l;have HT:=bx (show F.trim h=[] by
  unfold F.zY at hok;rw [hs] at hok;exact F.aeF hok)
 obtain⟨w1,hw1⟩:∃ w1,w1=w.alloc (.cells #[.int .i64 0, .int .i64 0, .int .i64 0, .slice none 0 0] 171):=⟨_,rfl⟩
 have hb1:Below w.heap.size w w1:=by rw [hw1];exact(Below.refl _ _).alloc (Nat.le_refl _) _
 have HB1:=bx hb1;have dG:=bx (show ak w1 w.heap.size 171 #[.int .i64 0, .int .i64 0, .int .i64 0, .slice none 0 0] by rw [hw1];exact ak.new _ _ _);have jO:=bx (show Calls Tryz.prog 114 #[.string (bs l), .int .u8 35] w1 λe w'=>(∃ v,e = .returned v/\iY w' v (F.split 35 l))/\Below w1.heap.size w1 w' from LY l 35 w1 (by omega));rw [hs] at jO;have nY:=bx (λW=>Ja h W (by omega));rw [HT.o] at nY;have HW1:=bx hw1;clear hb1 hw1 hok hs
 go_enter Tryz.func153,Tryz.ntmps153
 go_upto_region 1 with(fail)
 rw [<- HW1.o];go_wp2_with fail;refine jO.o.mono ?_;rintro e w2 ⟨⟨v,rfl,hv⟩,hb2⟩;obtain⟨g,off,cap,rfl,h2,h3,h4,h5⟩:=hv.get (by simp);have hc:=h5 0 h rfl;rw [Nat.add_zero] at hc;have hk2:=dG.o.below hb2 dG.o.lt;have lN:=bx hk2;have HB2:=bx (bt HB1.o hb2);unfold maxLen at h3;rw [List.length_cons] at h2 ⊢;clear hb2 hv h5 hk2;go_wp2_with fail;refine(nY.o _).mono ?_;rintro e w3 ⟨rfl,rfl⟩;have hemp:=G8;have k0:=(lN.o.cell 0).trans (show _=some (Value.int .i64 0) from rfl);have k1:=(lN.o.cell 1).trans (show _=some (Value.int .i64 0) from rfl);have k2:=(lN.o.cell 2).trans (show _=some (Value.int .i64 0) from rfl);have k3:=(lN.o.cell 3).trans (show _=some (Value.slice none 0 0) from rfl);have f0:=lN.o.frozen 0;have f1:=lN.o.frozen 1;have f2:=lN.o.frozen 2;have f3:=lN.o.frozen 3;have kl:=lN.o.lt;go_wp2_with fail;exact bodyPost_ret (v:=.tuple #[.agg #[.int .i64 0, .int .i64 0, .int .i64 0, .slice none 0 0], .bool false, .int .i64 0]) (GV Tryz.results153 _ _ w.heap.size 171 #[.int .i64 0, .int .i64 0, .int .i64 0, .slice none 0 0] (0,0) _ rfl ((((lN.o.bP 0 (.int .i64 0)).bP 1 (.int .i64 0)).bP 2 (.int .i64 0)).bP 3 (.slice none 0 0)) Tryz.underlying171 rfl recInfo) rfl
  ⟨rfl,(((HB2.o.setCell (Nat.le_refl _) _).setCell (Nat.le_refl _) _).setCell (Nat.le_refl _) _).setCell (Nat.le_refl _) _⟩
end
end Go.Proofs.YtlmdjifffmofeaaGreatDoor
