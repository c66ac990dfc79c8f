/- Texts of this claim. -/
import Derived.Deep.AppendLies
import Derived.Deep.RegionLaw
import Derived.WideKeyArr
import Derived.Great.BuildSlice
import Derived.Deep.MidRow
import Derived.Carry
import Derived.Maps.OwnIn
import Derived.Test.YtdenoeakcflnmaaGreatDoorH3

set_option maxHeartbeats 4000000
set_option maxRecDepth 100000
namespace Go.Proofs.YtdenoeakcflnmaaGreatDoor
section
open Go.RowKit
theorem akr (l:List N.Item):(2:Int)*((2 ^ (2*l.length):Nat):Int)-1=(N.most l:Int):=by
 unfold N.most;have h:2 ^ (2*l.length+1)=2*2 ^ (2*l.length):=by rw [Nat.pow_succ];omega
 have:0<2 ^ (2*l.length):=Nat.two_pow_pos _;rw [h];omega
theorem Ou (st:Bool) (v:Value) (l:List N.Item) (w:World) (hv:bQ w v l) (hz:l.length<=16777216) :
  Calls Tryz.prog 203 #[.agg #[.bool st,v]] w λe w'=>e = .returned (.int .i64 (GK l))/\Below w.heap.size w w':=by
 have hb0:=aO w (.cells #[.bool st,v] 182);have HP:=bx (FI st v l _ (hv.below hb0) hz);have HB0:=bx hb0;have bf:=bx (aj.new w 182 #[.bool st,v]);unfold GK;obtain⟨ao,cap,rfl⟩:=hv.slice;clear hb0 hv
 cases hr:fQ l with
 | true =>
  have fE:=bx hr;have hl:=xC hr;obtain⟨q,hq⟩:∃ q,2 ^ (2*l.length)=q:=⟨_,rfl⟩
  have hq1:q<=1099511627776:=by rw [<- hq];exact Nat.pow_le_pow_right (n:=2) (by omega) (show 2*l.length<=40 by omega)
  have HQ:=bx hq;have HM:=bx (akr l);clear hr hq
  go_enter Tryz.func203,Tryz.ntmps203
  go_wp2_with fail;refine HP.o.mono ?_;rintro e w1 ⟨rfl,hb1⟩;rw [fE.o];have dS:=bf.o.below hb1 bf.o.lt;have c1:w1.cell? ⟨w.heap.size,1,none⟩=some (.slice ao l.length cap):=(dS.cell 1).trans rfl;have HB1:=bx hb1;clear hb1 dS;go_wp2_with fail;have HN:=bx (show (2*(l.length:Int))=((2*l.length:Nat):Int) by omega);rw [HN.o];refine(Qe (2*l.length) _ (by omega)).mono ?_;rintro e w2 ⟨rfl,rfl⟩;rw [HQ.o];go_wp2_with fail;go_ret
  exact⟨iF (by rw [<- HM.o,HQ.o]),bt HB0.o HB1.o⟩
 | false =>
  have fE:=bx hr;clear hr
  go_enter Tryz.func203,Tryz.ntmps203
  go_wp2_with fail;refine HP.o.mono ?_;rintro e w1 ⟨rfl,hb1⟩;rw [fE.o];have HB1:=bx hb1;clear hb1;go_wp2_with fail;go_ret
  exact⟨rfl,bt HB0.o HB1.o⟩
theorem amI (st:Bool) (v:Value) (l:List N.Item) (w:World) (hv:bQ w v l) (hz:l.length<=16777216) :
  Calls Tryz.prog 117 #[.agg #[.bool st,v]] w λe w'=>e = .returned (NM l)/\Below w.heap.size w w':=by
 have hb0:=aO w (.cells #[.bool st,v] 182);have HP:=bx (FI st v l _ (hv.below hb0) hz);have HB0:=bx hb0;have HV:=bx hv;have bf:=bx (aj.new w 182 #[.bool st,v]);unfold NM
 cases hr:fQ l with
 | true =>
  have fE:=bx hr;have hl:=xC hr;clear hr hb0 hv
  go_enter Tryz.func117,Tryz.ntmps117
  go_wp2_with fail;refine HP.o.mono ?_;rintro e w1 ⟨rfl,hb1⟩;rw [fE.o];have dS:=bf.o.below hb1 bf.o.lt;have c0:w1.cell? ⟨w.heap.size,0,none⟩=some (.bool st):=(dS.cell 0).trans rfl;have c1:w1.cell? ⟨w.heap.size,1,none⟩=some v:=(dS.cell 1).trans rfl;have HB1:=bx (bt HB0.o hb1);have HA:=bx (TR st v l (by omega) _ 0 0 w1 (Nat.le_refl _) (by omega) (Nat.two_pow_pos _) (HV.o.below HB1.o));have HZ:=bx (Nat.zero_or (N.clo l 0));clear hb1 dS;go_wp2_with fail;refine HA.o.mono ?_;rintro e w2 ⟨rfl,hb2⟩;rw [HZ.o];have HB2:=bx (bt HB1.o hb2);clear hb2;go_wp2_with fail;go_ret2
  exact⟨rfl,HB2.o⟩
 | false =>
  have fE:=bx hr;clear hr hb0 hv
  go_enter Tryz.func117,Tryz.ntmps117
  go_wp2_with fail;refine HP.o.mono ?_;rintro e w1 ⟨rfl,hb1⟩;rw [fE.o];have HB1:=bx (bt HB0.o hb1);clear hb1;go_wp2_with fail;go_ret2
  exact⟨rfl,HB1.o⟩
theorem Yv {l:List N.Item} {x:Int} (hr:fQ l=true) (h:rO l x=false):x<0\/(0<=x/\(N.most l:Int)<x):=by
 unfold rO at h;rw [hr] at h;simp at h;omega
theorem YZ {l:List N.Item} {x:Int} (h:rO l x=true):fQ l=true/\0<=x/\x<=N.most l:=by
 unfold rO at h;simp only [Bool.and_eq_true,decide_eq_true_eq] at h;exact⟨h.1.1,h.1.2,h.2⟩
theorem agx (st:Bool) (v:Value) (l:List N.Item) (x c:Int) (w:World) (hv:bQ w v l) (hz:l.length<=16777216) :
  Calls Tryz.prog 169 #[.agg #[.bool st,v], .int .i64 x, .int .i64 c] w λe w'=>e = .returned (Js l st x c)/\Below w.heap.size w w':=by
 have hb0:=aO w (.cells #[.bool st,v] 182);have HP:=bx (FI st v l _ (hv.below hb0) hz);have HB0:=bx hb0;have HV:=bx hv;have bf:=bx (aj.new w 182 #[.bool st,v]);unfold Js
 cases hr:fQ l with
 | false =>
  have fE:=bx hr;rw [show rO l x=false by unfold rO;rw [hr];rfl];clear hr hb0 hv
  go_enter Tryz.func169,Tryz.ntmps169
  go_wp2_with fail;refine HP.o.mono ?_;rintro e w1 ⟨rfl,hb1⟩;rw [fE.o];have HB1:=bx (bt HB0.o hb1);clear hb1;go_wp2_with fail;go_ret2
  exact⟨rfl,HB1.o⟩
 | true =>
  have fE:=bx hr;have hl:=xC hr;have hm:=Yy l hl;have pK:=bx (show GK l=(N.most l:Int) by unfold GK;rw [hr];rfl)
  cases hok:rO l x with
  | true =>
   obtain⟨-,h0,h1⟩:=YZ hok;obtain⟨S,rfl⟩:=Int.eq_ofNat_of_zero_le h0;have h1':¬ ((N.most l:Int)<(S:Int)):=by omega
   clear hr hb0 hv hok
   go_enter Tryz.func169,Tryz.ntmps169
   go_wp2_with fail;refine HP.o.mono ?_;rintro e w1 ⟨rfl,hb1⟩;rw [fE.o];have dS:=bf.o.below hb1 bf.o.lt;have c0:w1.cell? ⟨w.heap.size,0,none⟩=some (.bool st):=(dS.cell 0).trans rfl;have c1:w1.cell? ⟨w.heap.size,1,none⟩=some v:=(dS.cell 1).trans rfl;have HB1:=bx (bt HB0.o hb1);have dS:=bx dS;clear hb1;go_wp2_with fail;refine(Ou st v l _ (HV.o.below HB1.o) hz).mono ?_;rintro e w2 ⟨rfl,hb2⟩;rw [pK.o];have Hf:=dS.o.below hb2 dS.o.lt;have d0:w2.cell? ⟨w.heap.size,0,none⟩=some (.bool st):=(Hf.cell 0).trans rfl;have d1:w2.cell? ⟨w.heap.size,1,none⟩=some v:=(Hf.cell 1).trans rfl;have HB2:=bx (bt HB1.o hb2);clear hb2 Hf c0 c1;go_wp2_with fail;refine(alS st v l fE.o S (by omega) c _ (HV.o.below HB2.o)).mono ?_;rintro e w3 ⟨rfl,hb3⟩;have HB3:=bx (bt HB2.o hb3);clear hb3;go_wp2_with fail;go_ret2
   exact⟨by simp,HB3.o⟩
  | false =>
   have h:=Yv hr hok;clear hr hb0 hv hok
   go_enter Tryz.func169,Tryz.ntmps169
   go_wp2_with fail;refine HP.o.mono ?_;rintro e w1 ⟨rfl,hb1⟩;rw [fE.o];have dS:=bf.o.below hb1 bf.o.lt;have c0:w1.cell? ⟨w.heap.size,0,none⟩=some (.bool st):=(dS.cell 0).trans rfl;have c1:w1.cell? ⟨w.heap.size,1,none⟩=some v:=(dS.cell 1).trans rfl;have HB1:=bx (bt HB0.o hb1);clear hb1 dS
   rcases h with h | ⟨h,h'⟩
   ·go_wp2_with fail;go_ret2
    exact⟨rfl,HB1.o⟩
   ·go_wp2_with fail;refine(Ou st v l _ (HV.o.below HB1.o) hz).mono ?_;rintro e w2 ⟨rfl,hb2⟩;rw [pK.o];have HB2:=bx (bt HB1.o hb2);clear hb2;go_wp2_with fail;go_ret2
    exact⟨rfl,HB2.o⟩
theorem alP (st:Bool) (v:Value) (l:List N.Item) (x:Int) (w:World) (hv:bQ w v l) (hz:l.length<=16777216) :
  Calls Tryz.prog 171 #[.agg #[.bool st,v], .int .i64 x] w λe w'=>e = .returned (.bool (Oq l x))/\Below w.heap.size w w':=by
 have hb0:=aO w (.cells #[.bool st,v] 182);have HP:=bx (FI st v l _ (hv.below hb0) hz);have HB0:=bx hb0;have HV:=bx hv;have bf:=bx (aj.new w 182 #[.bool st,v]);unfold Oq
 cases hr:fQ l with
 | false =>
  have fE:=bx hr;have mV:=bx (show rO l x=false by unfold rO;rw [hr];rfl);clear hr hb0 hv
  go_enter Tryz.func171,Tryz.ntmps171
  go_wp2_with fail;refine HP.o.mono ?_;rintro e w1 ⟨rfl,hb1⟩;rw [fE.o];have HB1:=bx (bt HB0.o hb1);clear hb1;go_wp2_with fail;go_ret
  exact⟨by rw [mV.o];rfl,HB1.o⟩
 | true =>
  have fE:=bx hr;have hl:=xC hr;have hm:=Yy l hl;have pK:=bx (show GK l=(N.most l:Int) by unfold GK;rw [hr];rfl)
  cases hok:rO l x with
  | true =>
   obtain⟨-,h0,h1⟩:=YZ hok;obtain⟨S,rfl⟩:=Int.eq_ofNat_of_zero_le h0;obtain⟨ao,cap,rfl⟩:=hv.slice;have HN:=bx (show (2*(l.length:Int))=((2*l.length:Nat):Int) by omega);clear hr hb0 hv hok
   go_enter Tryz.func171,Tryz.ntmps171
   go_wp2_with fail;refine HP.o.mono ?_;rintro e w1 ⟨rfl,hb1⟩;rw [fE.o];have dS:=bf.o.below hb1 bf.o.lt;have c0:w1.cell? ⟨w.heap.size,0,none⟩=some (.bool st):=(dS.cell 0).trans rfl;have c1:w1.cell? ⟨w.heap.size,1,none⟩=some (.slice ao l.length cap):=(dS.cell 1).trans rfl;have HB1:=bx (bt HB0.o hb1);have dS:=bx dS;clear hb1;go_wp2_with fail;refine(Ou st (.slice ao l.length cap) l _ (HV.o.below HB1.o) hz).mono ?_;rintro e w2 ⟨rfl,hb2⟩;rw [pK.o];have Hf:=dS.o.below hb2 dS.o.lt;have d1:w2.cell? ⟨w.heap.size,1,none⟩=some (.slice ao l.length cap):=(Hf.cell 1).trans rfl;have HB2:=bx (bt HB1.o hb2);clear hb2 Hf c0 c1;go_wp2_with fail;rw [HN.o];refine(Ak S (2*l.length) _ (by omega) (by omega)).mono ?_;rintro e w3 ⟨rfl,rfl⟩;go_wp2_with fail;go_ret
   exact⟨by simp [N.TM],HB2.o⟩
  | false =>
   have h:=Yv hr hok;clear hr hb0 hv hok
   go_enter Tryz.func171,Tryz.ntmps171
   go_wp2_with fail;refine HP.o.mono ?_;rintro e w1 ⟨rfl,hb1⟩;rw [fE.o];have dS:=bf.o.below hb1 bf.o.lt;have c0:w1.cell? ⟨w.heap.size,0,none⟩=some (.bool st):=(dS.cell 0).trans rfl;have c1:w1.cell? ⟨w.heap.size,1,none⟩=some v:=(dS.cell 1).trans rfl;have HB1:=bx (bt HB0.o hb1);clear hb1 dS
   rcases h with h | ⟨h,h'⟩
   ·go_wp2_with fail;go_ret
    exact⟨rfl,HB1.o⟩
   ·go_wp2_with fail;refine(Ou st v l _ (HV.o.below HB1.o) hz).mono ?_;rintro e w2 ⟨rfl,hb2⟩;rw [pK.o];have HB2:=bx (bt HB1.o hb2);clear hb2;go_wp2_with fail;go_ret
    exact⟨rfl,HB2.o⟩
theorem iD (w:World) (n:Nat):Below w.heap.size w (w.drewN n):=below_drewN (Below.refl _ _) n
section
variable {A:Nat->Addr} {B:Nat} {W0 w w':World}
end
theorem adD {l:List N.Item} {st:Bool} {x c:Int} (h:rO l x=true):Js l st x c = .tuple #[.int .i64 (N.step l st x.toNat c), .int .i64 0]:=by unfold Js;rw [h];rfl
theorem abf {l:List N.Item} {S:Nat} (hr:fQ l=true) (h:S<2 ^ (2*l.length+1)):rO l (S:Int)=true:=by
 unfold rO N.most;rw [hr];simp only [Bool.true_and,Bool.and_eq_true,decide_eq_true_eq];omega
end
section
open Go.RowKit Go.Shelf
attribute [local go_sem] Oper.semAt_some
def lefts (rs:List D.Rule):List D.Side:=rs.map (·.1)
theorem vk (rs:List D.Rule):(lefts rs).length=rs.length:=by simp [lefts]
theorem J5 {rs:List D.Rule} {i:Nat} {x:D.Rule} (h:rs[i]?=some x):D.Aa (lefts rs) i=x.1:=D.aht (by unfold lefts;rw [List.getElem?_map,h];rfl)
theorem take_snoc' {α:Type} (xs:List α) (k:Nat) (x:α) (h:xs[k]?=some x):xs.take (k+1)=xs.take k++[x]:=by rw [List.take_add_one,h];rfl
theorem agd {w:World} {base n:Nat} {T:TypeId} {v:Value} {xs:List Nat} (h:w.ownsRow base T 1 v n (xs.map eu)) (hn:n=xs.length):aB w v (xs.map λx:Nat=>(x:Int)) :=
 aB.gK (n:=n) (by rw [List.map_map];exact h) (by rw [List.length_map];exact hn)
end
section
open Go.RowKit
def fJ (w:World) (v:Value) (rows:List (List Int)):Prop :=
 (v = .slice none 0 0/\rows=[])\/∃ b off sp cap,v = .slice (some ⟨b,off,sp⟩) rows.length cap/\rows.length<=cap/\cap<=maxLen/\(rows≠[]->sp=none/\b<w.heap.size/\∀ i r,rows[i]?=some r->∃ x,w.cell? ⟨b,off+i,none⟩=some x/\aB w x r)
theorem fJ.nil {w:World}:fJ w (.slice none 0 0) []:=.inl ⟨rfl,rfl⟩
theorem fJ.below {w w':World} {v:Value} {rows:List (List Int)} (h:fJ w v rows) (hb:Below w.heap.size w w'):fJ w' v rows:=by
 rcases h with h | ⟨b,off,sp,cap,h1,h2,h3,h4⟩
 ·exact .inl h
 ·refine .inr ⟨b,off,sp,cap,h1,h2,h3,λhn=>⟨(h4 hn).1,Nat.lt_of_lt_of_le (h4 hn).2.1 hb.size,λi r hr=>?_⟩⟩;obtain⟨x,hx,hi⟩:=(h4 hn).2.2 i r hr;exact⟨x,(hb.cell (p:=⟨b,off+i,none⟩) (h4 hn).2.1).trans hx,hi.below hb⟩
theorem fJ.get {w:World} {v:Value} {rows:List (List Int)} (h:fJ w v rows) (hn:rows≠[]) :
  ∃ b off cap,v = .slice (some ⟨b,off,none⟩) rows.length cap/\rows.length<=cap/\cap<=maxLen/\b<w.heap.size/\∀ i r,rows[i]?=some r->∃ x,w.cell? ⟨b,off+i,none⟩=some x/\aB w x r:=by
 rcases h with⟨_,h⟩ | ⟨b,off,sp,cap,h1,h2,h3,h4⟩
 ·exact absurd h hn
 ·obtain⟨rfl,h5,h6⟩:=h4 hn;exact⟨b,off,cap,h1,h2,h3,h5,h6⟩
theorem fJ.slice {w:World} {v:Value} {rows:List (List Int)} (h:fJ w v rows):∃ a cap,v = .slice a rows.length cap:=by
 rcases h with⟨rfl,rfl⟩ | ⟨b,off,sp,cap,rfl,_⟩
 ·exact⟨_,_,rfl⟩
 ·exact⟨_,_,rfl⟩
abbrev D.bH:=List (List Int)×List Int
def kQ (w:World) (v:Value) (M:D.bH):Prop:=∃ nv fv,v = .agg #[nv,fv]/\fJ w nv M.1/\aB w fv M.2
theorem kQ.below {w w':World} {v:Value} {M:D.bH} (h:kQ w v M) (hb:Below w.heap.size w w'):kQ w' v M:=by
 obtain⟨nv,fv,h1,h2,h3⟩:=h;exact⟨nv,fv,h1,h2.below hb,h3.below hb⟩
section
variable {w0 w w':World} {b m n k:Nat} {rv:Value} {t:List D.Sets} {next:List (List Nat)} {fits:List Nat} {nv fv tv:Value} {vs:List Value}
end
end
section
open Go.RowKit Go.Shelf
attribute [local go_sem] Oper.semAt_some
def ajf (rs:List D.Rule):Prop:=∀ x∈rs,fQ x.1.2=true
def QW:List Nat:=[11,8]
def Ed (A:Nat->Addr) (B:Nat) (w:World):Prop:=Env QW 354 A B w
theorem Ed.below {A:Nat->Addr} {B:Nat} {w w':World} (h:Ed A B w) (hb:Below B w w'):Ed A B w':=Env.below h hb
def afD (g:Nat):Int:=if g=11 then 90 else 100
theorem aip (A:Nat->Addr) (B:Nat) (g:Nat) (hg:g∈QW) (w:World) (hE:Ed A B w) :
  Calls Tryz.prog 179 #[jZ A g] w λe w'=>e = .returned (.int .i64 (afD g))/\w=w':=by
 have h0:=hE.var 11 (by decide);have h1:=hE.var 8 (by decide);have HI:=bx (λk (hk:k∈QW)=>MG hE g k hg hk);clear hE;unfold jZ
 rcases List.mem_cons.1 hg with rfl | hg
 ·go_enter Tryz.func179,Tryz.ntmps179
  go_wp2_with fail;refine(HI.o 11 (by decide)).mono ?_;rintro e w1 ⟨rfl,rfl⟩;go_wp2_with fail;go_ret
  exact⟨rfl,rfl⟩
 ·obtain rfl:g=8:=by simpa using hg
  go_enter Tryz.func179,Tryz.ntmps179
  go_wp2_with fail;refine(HI.o 11 (by decide)).mono ?_;rintro e w1 ⟨rfl,rfl⟩;go_wp2_with fail;refine(HI.o 8 (by decide)).mono ?_;rintro e w1 ⟨rfl,rfl⟩;go_wp2_with fail;go_ret
  exact⟨rfl,rfl⟩
theorem zO {P:Program} {fn:Func} {p u:Tmp} {ty:TypeId} (h:fn.results=#[.cell p ty, .tmp u]) (tmps:Array Value) (w:World) (g:Nat) (t:TypeId) (cs:Array Value) (fr:Nat×Nat) (d:TypeDesc)
  (hp:tmps.getD p undef = .pointer (some ⟨g,0,none⟩)) (hg:w.heap[g]?=some (.cells cs t fr)) (hu:P.underlying ty=some d) (hd:(match d with | .struct _ | .array _ _=>true | _=>false)=true) (hi:(P.info? ty).map (·.size)=some cs.size) :
  (results fn tmps).run P w = .ok (.tuple #[.agg cs,tmps.getD u undef]) w:=by
 rw [results_cell_tmp h,hp];simp [asAddr,run_loadVar_row w g t ty cs fr d hg hu hd hi,Result.andThen]
theorem OX:(Tryz.prog.info? 29).map (·.size)=some 2:=by kernel_rfl
def Nj (b:D.um):D.bH:=(b.next.map λr=>r.map λx:Nat=>(x:Int),b.fits.map λx:Nat=>(x:Int))
def Qb (sd:List D.Side) (n:Nat):D.bH:=Nj (D.build sd n 300)
theorem ajn {w:World} {nv fv:Value} {b:D.um} (h1:fJ w nv (b.next.map λr=>r.map λx:Nat=>(x:Int))) (h2:aB w fv (b.fits.map λx:Nat=>(x:Int))):kQ w (.agg #[nv,fv]) (Nj b):=⟨nv,fv,rfl,h1,h2⟩
def yK (rs:List D.Rule) (n:Int):Int:=if pX n rs=true then (if D.zZ (lefts rs) n.toNat=true then 0 else 100) else 90
def vG (rs:List D.Rule) (n:Int):D.bH:=if (pX n rs&&D.zZ (lefts rs) n.toNat)=true then Qb (lefts rs) n.toNat else ([],[])
def Yj (rs:List D.Rule) (n:Int) (w:World) (e:Ending) (w':World):Prop:=Below w.heap.size w w'/\∃ mv,e = .returned (.tuple #[mv, .int .i64 (yK rs n)])/\kQ w' mv (vG rs n)
theorem aai (w:World):kQ w (.agg #[.slice none 0 0, .slice none 0 0]) ([],[]):=⟨_,_,rfl,fJ.nil,aB.nil⟩
theorem ED {n:Int} {rs:List D.Rule} (h:pX n rs=true):1<=n/\n<=32/\rs.length<=40/\ajf rs:=by
 unfold pX at h;simp only [Bool.and_eq_true,decide_eq_true_eq] at h;exact⟨h.1.1.1,h.1.1.2,h.1.2,λx hx=>al1 (afv (List.all_eq_true.1 h.2 x hx))⟩
end
section
open Go.RowKit
theorem jW (w:World) (n:Nat):Below w.heap.size w (w.drewN n):=⟨rfl,rfl,rfl,Nat.le_refl _,λ_ _=>rfl⟩
theorem XV {xs ys:List Int} {k:Nat} {x:Int} (h:xs.take k=ys.take k) (hx:xs[k]?=some x) (hy:ys[k]?=some x):xs.take (k+1)=ys.take (k+1):=by
 rw [List.take_add_one,List.take_add_one,h,hx,hy]
theorem aal {xs ys:List Int} {k:Nat} {x y:Int} (hx:xs[k]?=some x) (hy:ys[k]?=some y) (h:x≠y):decide (xs=ys)=false:=by
 rw [decide_eq_false_iff_not];rintro rfl;rw [hx] at hy;exact h (by simpa using hy)
theorem abI {xs ys:List Int} (h:xs.length≠ys.length):decide (xs=ys)=false:=by
 rw [decide_eq_false_iff_not];rintro rfl;exact h rfl
theorem RV (a b:Value) (xs ys:List Int) (w:World) (ha:aB w a xs) (hb:aB w b ys) (hz:xs.length<=16777216) (_hz':ys.length<=16777216) :
  Calls Tryz.prog 29 #[a,b] w λe w'=>e = .returned (.bool (decide (xs=ys)))/\Below w.heap.size w w':=by
 by_cases hlen:xs.length=ys.length
 ·have Xc:=bx ha;have Ru:=bx hb;obtain⟨ao,ca,rfl⟩:=ha.slice;obtain⟨bo,cb,hv⟩:=hb.slice;rw [<- hlen] at hv;subst hv;have HLEN:=bx hlen;clear ha hb hlen _hz'
  go_enter Tryz.func29,Tryz.ntmps29
  go_wp2
  go_loopw [5] (λi wr=>∃ k n:Nat,k<=xs.length/\i = .int .i64 k/\wr=w.drewN n/\Box (xs.take k=ys.take k)) (λi _=>xs.length-(intOf i).toNat)
  case atStart=>exact⟨0,0,by omega,rfl,rfl,⟨rfl⟩⟩
  case round =>
   obtain⟨k,n,hk,rfl,rfl,hE⟩:=hrel
   by_cases hlt:k<xs.length
   ·obtain⟨x,hx⟩:∃ x,xs[k]?=some x:=⟨_,List.getElem?_eq_getElem hlt⟩
    obtain⟨y,hy⟩:∃ y,ys[k]?=some y:=⟨_,List.getElem?_eq_getElem (by rw [<- HLEN.o];exact hlt)⟩
    obtain⟨ba,oa,ca',ha0,ha1,ha2,qw,jk⟩:=Xc.o.get (by rintro rfl;simp at hlt);obtain⟨rfl,rfl⟩:ao=some ⟨ba,oa,none⟩/\ca=ca':=by injection ha0 with h1 h2 h3;exact⟨h1,h3⟩
    obtain⟨bb,ob,cb',hb0,hb1,hb2,hb3,hb4⟩:=Ru.o.get (by rintro rfl;simp at hy);obtain⟨rfl,rfl⟩:bo=some ⟨bb,ob,none⟩/\cb=cb':=by injection hb0 with h1 h2 h3;exact⟨h1,h3⟩
    have c1:=jk k x hx;have c2:=hb4 k y hy;have HX:=bx hx;have HY:=bx hy;rw [<- HLEN.o] at hb1;unfold maxLen at ha2 hb2;clear ha0 jk hb0 hb4 hx hy
    by_cases hxy:x=y
    ·subst hxy
     go_wp2
     go_region
     go_wp2
     go_roundw
     case rel=>exact⟨k+1,n+1,hlt,by go_num,rfl,⟨XV hE.o HX.o HY.o⟩⟩
     case measure=>simp [intOf];omega
    ·have HF:=bx (aal HX.o HY.o hxy);have hq:(x==y)=false:=beq_eq_false_iff_ne.2 hxy
     go_wp2
     go_region
     go_wp2
     all_goals go_ret
     all_goals exact⟨aI (by rw [HF.o]),jW w (n+1)⟩
   ·obtain rfl:k=xs.length:=by omega
    have HT:=bx (show decide (xs=ys)=true by rw [decide_eq_true_iff];have:=hE.o;rwa [List.take_length,HLEN.o,List.take_length] at this)
    go_wp2
    go_ret
    exact⟨aI (by rw [HT.o]),jW w n⟩
 ·have HF:=bx (abI hlen);obtain⟨ao,ca,rfl⟩:=ha.slice;obtain⟨bo,cb,rfl⟩:=hb.slice;have hq:((xs.length:Int)==(ys.length:Int))=false:=beq_eq_false_iff_ne.2 (by omega);clear ha hb
  go_enter Tryz.func29,Tryz.ntmps29
  go_wp2
  all_goals go_ret
  all_goals exact⟨aI (by rw [HF.o]),jW w 0⟩
theorem afa (a b:Value) (xs ys:List Int) (w:World) (ha:aB w a xs) (hb:aB w b ys) (hz:xs.length<=16777216) (_hz':ys.length<=16777216) :
  Calls Tryz.prog 170 #[a,b] w λe w'=>e = .returned (.bool (decide (xs=ys)))/\Below w.heap.size w w':=by
 by_cases hlen:xs.length=ys.length
 ·have Xc:=bx ha;have Ru:=bx hb;obtain⟨ao,ca,rfl⟩:=ha.slice;obtain⟨bo,cb,hv⟩:=hb.slice;rw [<- hlen] at hv;subst hv;have HLEN:=bx hlen;clear ha hb hlen _hz'
  go_enter Tryz.func170,Tryz.ntmps170
  go_wp2
  go_loopw [5] (λi wr=>∃ k n:Nat,k<=xs.length/\i = .int .i64 k/\wr=w.drewN n/\Box (xs.take k=ys.take k)) (λi _=>xs.length-(intOf i).toNat)
  case atStart=>exact⟨0,0,by omega,rfl,rfl,⟨rfl⟩⟩
  case round =>
   obtain⟨k,n,hk,rfl,rfl,hE⟩:=hrel
   by_cases hlt:k<xs.length
   ·obtain⟨x,hx⟩:∃ x,xs[k]?=some x:=⟨_,List.getElem?_eq_getElem hlt⟩
    obtain⟨y,hy⟩:∃ y,ys[k]?=some y:=⟨_,List.getElem?_eq_getElem (by rw [<- HLEN.o];exact hlt)⟩
    obtain⟨ba,oa,ca',ha0,ha1,ha2,qw,jk⟩:=Xc.o.get (by rintro rfl;simp at hlt);obtain⟨rfl,rfl⟩:ao=some ⟨ba,oa,none⟩/\ca=ca':=by injection ha0 with h1 h2 h3;exact⟨h1,h3⟩
    obtain⟨bb,ob,cb',hb0,hb1,hb2,hb3,hb4⟩:=Ru.o.get (by rintro rfl;simp at hy);obtain⟨rfl,rfl⟩:bo=some ⟨bb,ob,none⟩/\cb=cb':=by injection hb0 with h1 h2 h3;exact⟨h1,h3⟩
    have c1:=jk k x hx;have c2:=hb4 k y hy;have HX:=bx hx;have HY:=bx hy;rw [<- HLEN.o] at hb1;unfold maxLen at ha2 hb2;clear ha0 jk hb0 hb4 hx hy
    by_cases hxy:x=y
    ·subst hxy
     go_wp2
     go_region
     go_wp2
     go_roundw
     case rel=>exact⟨k+1,n+1,hlt,by go_num,rfl,⟨XV hE.o HX.o HY.o⟩⟩
     case measure=>simp [intOf];omega
    ·have HF:=bx (aal HX.o HY.o hxy);have hq:(x==y)=false:=beq_eq_false_iff_ne.2 hxy
     go_wp2
     go_region
     go_wp2
     all_goals go_ret
     all_goals exact⟨aI (by rw [HF.o]),jW w (n+1)⟩
   ·obtain rfl:k=xs.length:=by omega
    have HT:=bx (show decide (xs=ys)=true by rw [decide_eq_true_iff];have:=hE.o;rwa [List.take_length,HLEN.o,List.take_length] at this)
    go_wp2
    go_ret
    exact⟨aI (by rw [HT.o]),jW w n⟩
 ·have HF:=bx (abI hlen);obtain⟨ao,ca,rfl⟩:=ha.slice;obtain⟨bo,cb,rfl⟩:=hb.slice;have hq:((xs.length:Int)==(ys.length:Int))=false:=beq_eq_false_iff_ne.2 (by omega);clear ha hb
  go_enter Tryz.func170,Tryz.ntmps170
  go_wp2
  all_goals go_ret
  all_goals exact⟨aI (by rw [HF.o]),jW w 0⟩
end
section
open Go.RowKit Go.Shelf
attribute [local go_sem] Oper.semAt_some
def jU (n:Nat) (c:Int):Nat:=if 0<=c/\c<n then c.toNat else n
theorem Dj (n:Nat) (c:Int):jU n c<=n:=by unfold jU;split <;> omega
theorem agQ (b:Nat) (hb:b<9223372036854775808):bits .xor .i64 0 (b:Int)=(b:Int):=by
 show IntKind.i64.wrap ((BitVec.ofInt 64 (0:Int) ^^^ BitVec.ofInt 64 (b:Int)).toNat:Int)=_
 rw [BitVec.toNat_xor,Lp b hb,show (BitVec.ofInt 64 0).toNat=0 from rfl,Nat.zero_xor,IntKind.wrap_i64];omega
theorem anj (n:Nat) (c:Int) (h:n<=32):N.iC ((2 ^ n-1:Nat):Int) c=decide (0<=c/\c<n):=by
 unfold N.iC;have h1:2 ^ n<=2 ^ 32:=Nat.pow_le_pow_right (by omega) h;have h2:0<2 ^ n:=Nat.two_pow_pos n;rw [Bool.eq_iff_iff];simp only [Bool.and_eq_true,decide_eq_true_eq,Int.toNat_natCast,Nat.testBit_two_pow_sub_one]
 constructor
 ·rintro⟨⟨⟨⟨-,-⟩,h3⟩,-⟩,h4⟩;exact⟨h3,by omega⟩
 ·rintro⟨h3,h4⟩;exact⟨⟨⟨⟨by omega,by omega⟩,h3⟩,by omega⟩,by omega⟩
theorem ahW (n:Nat) (w:World) (h1:1<=n) (h2:n<=32) :
  Calls Tryz.prog 209 #[.int .i64 0, .int .i64 n] w λe w'=>e = .returned (.int .i64 ((2 ^ n-1:Nat):Int))/\w=w':=by
 have hb:2 ^ n<=2 ^ 32:=Nat.pow_le_pow_right (by omega) h2;have hp:0<2 ^ n:=Nat.two_pow_pos n;have HS:=bx (show rJ (n:Int) 0=true by rw [show (0:Int)=((0:Nat):Int) from rfl,SC n 0 h1 h2];exact decide_eq_true hp);have HW:=bx (show wrap64 ((2:Int) ^ n)=(2:Int) ^ n by rw [Y0];generalize 2 ^ n=z at hb hp ⊢;exact IntWalk.wrap64_in _ (by omega));have HW2:=bx (show wrap64 ((2:Int) ^ n-1)=((2 ^ n-1:Nat):Int) by rw [Y0];generalize 2 ^ n=z at hb hp ⊢;rw [show ((z:Int)-1)=((z-1:Nat):Int) by omega];exact IntWalk.wrap64_in _ (by omega));have HX:=bx (agQ (2 ^ n-1) (by omega));clear hb hp
 go_enter Tryz.func209,Tryz.ntmps209
 go_wp2_with (go_at_call 221;refine(aaB _ _ _).mono ?_;rintro e w1 ⟨rfl,rfl⟩;rw [HS.o])
 go_ret
 refine⟨iF ?_,rfl⟩;rw [HW.o,HW2.o,HX.o]
theorem amx (c:Int) (n:Nat) (w:World) (h1:1<=n) (h2:n<=32) :
  Calls Tryz.prog 178 #[.int .i64 c, .int .i64 n] w λe w'=>e = .returned (.int .i64 (jU n c))/\w=w':=by
 have HN:=bx (ahW n w h1 h2);have hh:=anj n c h2
 by_cases hc:0<=c/\c<n
 ·have HH:=bx (hh.trans (decide_eq_true hc));have HC:=bx (show c=(jU n c:Int) by unfold jU;rw [if_pos hc];omega);clear hh hc
  go_enter Tryz.func178,Tryz.ntmps178
  go_wp2_with fail;refine HN.o.mono ?_;rintro e w1 ⟨rfl,rfl⟩;go_wp2_with (go_at_call 210;refine(Xo _ _ _).mono ?_;rintro e w1 ⟨rfl,rfl⟩;rw [HH.o])
  go_ret
  exact⟨iF HC.o,rfl⟩
 ·have HH:=bx (hh.trans (decide_eq_false hc));have HC:=bx (show (n:Int)=(jU n c:Int) by unfold jU;rw [if_neg hc]);clear hh hc
  go_enter Tryz.func178,Tryz.ntmps178
  go_wp2_with fail;refine HN.o.mono ?_;rintro e w1 ⟨rfl,rfl⟩;go_wp2_with (go_at_call 210;refine(Xo _ _ _).mono ?_;rintro e w1 ⟨rfl,rfl⟩;rw [HH.o])
  go_ret
  exact⟨iF HC.o,rfl⟩
theorem aiQ (n:Nat) (w:World) (hn:n<=40) :
  Calls Tryz.prog 172 #[.int .i64 n] w λe w'=>e = .returned (.int .i64 ((2 ^ n:Nat):Int))/\w=w':=by
 go_enter Tryz.func172,Tryz.ntmps172
 go_wp2
 go_loop [4,3] (λi o=>∃ (k:Nat) (x:Int),k<=n/\i = .int .i64 k/\o = .int .i64 x/\0<=x/\x<=1099511627776/\Box (x=2 ^ k)) (λi _=>n-(intOf i).toNat)
 case atStart=>exact⟨0,1,by omega,rfl,rfl,by omega,by omega,⟨rfl⟩⟩
 case round =>
  obtain⟨k,x,hk,rfl,rfl,hx0,hx1,hx⟩:=hrel
  by_cases hlt:k<n
  ·have h2:=KW (k+1) (by omega);have HX:=bx (show 2*x=2 ^ (k+1) by rw [hx.o,Int.pow_succ];omega);have HY:=bx (show 2*x<=1099511627776 by rw [HX.o];exact h2);clear h2
   go_wp2
   go_round
   case rel=>exact⟨k+1,2*x,hlt,by go_num,rfl,by omega,HY.o,HX⟩
   case measure=>simp [intOf];omega
  ·obtain rfl:k=n:=by omega
   go_wp2
   go_ret
   exact⟨by rw [hx.o];simp,rfl⟩
def zs (S:List Nat):List Int:=S.map λx:Nat=>(x:Int)
theorem vU (S:List Nat):(zs S).length=S.length:=by simp [zs]
theorem Og {S:List Nat} {i x:Nat} (h:S[i]?=some x):(zs S)[i]?=some (x:Int):=by unfold zs;rw [List.getElem?_map,h];rfl
theorem agi {S T:List Nat} (h:zs S=zs T):S=T:=by
 unfold zs at h;exact List.map_inj_right (λa b h=>by omega) |>.1 h
theorem Yb (rs:List D.Side) (S:D.Sets) (k:Nat) (h:k<=40):D.nO rs S k<=1099511627776:=by
 have:=D.Uz rs S k;have h2:2 ^ k<=2 ^ 40:=Nat.pow_le_pow_right (by omega) h;omega
theorem ahd (rv sv:Value) (rs:List D.Rule) (S:D.Sets) (w:World) (hR:fA w rv rs) (hl:rs.length<=40) (hr:∀ x∈rs,fQ x.1.2=true) (hS:D.Good (lefts rs) S) (hv:aB w sv (zs S)) :
  Calls Tryz.prog 120 #[rv,sv] w λe w'=>e = .returned (.int .i64 (D.nO (lefts rs) S rs.length))/\Below w.heap.size w w':=by
 have HR:=bx hR;have eH:=bx hr;have HS:=bx hS;have HV:=bx hv;have hsl:S.length=rs.length:=by rw [hS.1,vk]
 obtain⟨ao,cap,rfl⟩:=hR.slice;obtain⟨so,scap,rfl⟩:=hv.slice;rw [vU,hsl] at HV ⊢;clear hR hr hS hv
 go_enter Tryz.func120,Tryz.ntmps120
 go_wp2_with fail
 go_loopw [5,6] (λo i wr=>∃ k:Nat,k<=rs.length/\i = .int .i64 k/\o = .int .i64 (D.nO (lefts rs) S k)/\Box (Below w.heap.size w wr)) (λ_ i _=>rs.length-(intOf i).toNat)
 case atStart=>exact⟨0,by omega,rfl,rfl,⟨Below.refl _ _⟩⟩
 case round =>
  obtain⟨k,hk,rfl,rfl,hbr⟩:=hrel
  by_cases hlt:k<rs.length
  ·obtain⟨x,hx⟩:∃ x,rs[k]?=some x:=⟨_,List.getElem?_eq_getElem hlt⟩
   obtain⟨bg,off,cap2,hg1,hg2,hg3,hg4,hg5⟩:=(HR.o.below hbr.o).get (by rintro rfl;simp at hlt);obtain⟨rfl,rfl⟩:ao=some ⟨bg,off,none⟩/\cap=cap2:=by injection hg1 with h1 h2 h3;exact⟨h1,h3⟩
   obtain⟨vl,vr,hc0,hc1,hc2,hc3,hc4,hil,hir⟩:=hg5 k x hx;have hrx:=eH.o x (List.mem_of_getElem? hx);have hgood:=HS.o.2 k (by rw [vk];exact hlt);rw [J5 hx] at hgood;have EM:S[k]?=some (S.getD k 0):=by
    have:k<S.length:=by omega
    rw [List.getD,List.getElem?_eq_getElem this];rfl
   obtain⟨sg,VR,Si,Dl,TD,ks3,ks4,Jf⟩:=(HV.o.below hbr.o).get (by intro e;have:=congrArg List.length e;rw [vU] at this;simp at this;subst this;simp at EM);rw [vU,hsl] at Dl TD;obtain⟨rfl,rfl⟩:so=some ⟨sg,VR,none⟩/\scap=Si:=by injection Dl with h1 h2 h3;exact⟨h1,h3⟩
   have cs:=Jf k _ (Og EM);have TQ:=bx (show Oq x.1.2 (S.getD k 0:Nat)=D.NK (lefts rs) S k by unfold Oq D.NK;rw [abf hrx hgood,Int.toNat_natCast,J5 hx];rfl);have JY:=bx (λW (h:Below wr.heap.size wr W)=>alP x.1.1 vl x.1.2 (S.getD k 0:Nat) W (hil.below h) (by have:=xC hrx;omega));obtain⟨al,cl,rfl⟩:=hil.slice;obtain⟨ar,cr,rfl⟩:=hir.slice;generalize S.getD k 0=sk at *;unfold maxLen at hg3 ks3;obtain⟨⟨rE,il⟩,⟨str,ir⟩,br⟩:=x;simp only at hc0 hc1 hc2 hc3 hc4 TQ JY;clear hx hg1 hg5 hil hir hrx hgood EM Dl Jf;have agJ:k<40:=by omega
   have hd1:=Yb (lefts rs) S k (by omega);have hd2:=Yb (lefts rs) S (k+1) (by omega)
   cases hd:D.NK (lefts rs) S k with
   | true =>
    have HD:=bx hd;have Qi:=bx (show D.nO (lefts rs) S k+2 ^ k=D.nO (lefts rs) S (k+1) by rw [D.adW];unfold D.nO;rw [if_pos hd];cases k <;> rfl);clear hd;go_wp2_with fail
    go_region_with ((go_at_call 171;refine(JY.o _ ?_).mono ?_;exact below_drewN (Below.refl _ _) _;rintro e w3 ⟨rfl,hb3⟩;rw [TQ.o,HD.o];have HB3:=bx (show Below wr.heap.size wr w3 from Below.mono ⟨hb3.os,hb3.tape,hb3.output,hb3.size,hb3.block⟩ (Nat.le_refl _));clear hb3))
    all_goals
     have Ua:=bx (show Below w.heap.size w w3 from bt hbr.o HB3.o);go_wp2_with (go_at_call 172;refine(aiQ k _ (by omega)).mono ?_;rintro e w4 ⟨rfl,rfl⟩)
     have aef:=bx (show (D.nO (lefts rs) S k:Int)+2 ^ k=(D.nO (lefts rs) S (k+1):Int) by rw [<- Qi.o];simp)
     go_roundw
     case rel=>exact⟨k+1,hlt,by go_num,by rw [aef.o];exact kG (IntWalk.wrap64_in _ (by omega)),Ua⟩
     case measure=>simp [intOf];omega
   | false =>
    have HD:=bx hd;have Qi:=bx (show D.nO (lefts rs) S (k+1)=D.nO (lefts rs) S k by rw [D.nO,if_neg (by rw [hd];decide)]);clear hd;go_wp2_with fail
    go_region_with ((go_at_call 171;refine(JY.o _ ?_).mono ?_;exact below_drewN (Below.refl _ _) _;rintro e w3 ⟨rfl,hb3⟩;rw [TQ.o,HD.o];have HB3:=bx (show Below wr.heap.size wr w3 from Below.mono ⟨hb3.os,hb3.tape,hb3.output,hb3.size,hb3.block⟩ (Nat.le_refl _));clear hb3))
    all_goals
     have Ua:=bx (show Below w.heap.size w w3 from bt hbr.o HB3.o);go_wp2_with fail
     go_roundw
     case rel=>exact⟨k+1,hlt,by go_num,by rw [Qi.o],Ua⟩
     case measure=>simp [intOf];omega
  ·obtain rfl:k=rs.length:=by omega
   go_wp2_with fail;go_ret
   exact⟨rfl,hbr.o⟩
theorem Le:Pushes Tryz.prog 27 2 8:=.mk' (z:=.int .i64 0) Tryz.underlying27 (by kernel_rfl) rfl
theorem iT:Pushes Tryz.prog 22 3 8:=.mk' (z:=.int .i64 0) Tryz.underlying22 (by kernel_rfl) rfl
theorem Ey {w:World} {base n:Nat} {T:TypeId} {v:Value} {S:List Nat} (h:w.ownsRow base T 1 v n (S.map eu)) (hn:n=S.length):aB w v (zs S):=agd h hn
theorem aiD {rs:List D.Side} {S:D.Sets} {c:Int} {k:Nat} (h:k<rs.length):(D.qV rs S c).take (k+1)=(D.qV rs S c).take k++[D.MC rs S c k]:=take_snoc' _ _ _ (D.akq rs S c k h)
theorem amO (rv sv:Value) (rs:List D.Rule) (S:D.Sets) (c:Int) (w:World) (hR:fA w rv rs) (hl:rs.length<=40) (hr:∀ x∈rs,fQ x.1.2=true) (hS:D.Good (lefts rs) S) (hv:aB w sv (zs S)) :
  Calls Tryz.prog 118 #[rv,sv, .int .i64 c] w λe w'=>Below w.heap.size w w'/\∃ v,e = .returned v/\w'.ownsRow w.heap.size 2 1 v rs.length ((D.qV (lefts rs) S c).map eu):=by
 have HR:=bx hR;have eH:=bx hr;have HS:=bx hS;have HV:=bx hv;have hsl:S.length=rs.length:=by rw [hS.1,vk]
 obtain⟨ao,cap,rfl⟩:=hR.slice;obtain⟨so,scap,rfl⟩:=hv.slice;rw [vU,hsl] at HV ⊢;obtain⟨T,hT⟩:∃ T,D.qV (lefts rs) S c=T:=⟨_,rfl⟩
 have HT:=bx (λ(k:Nat) (h:k<rs.length)=>show (T.take (k+1)).map eu=(T.take k).map eu++[eu (D.MC (lefts rs) S c k)] by rw [<- hT,aiD (by rw [vk];exact h),List.map_append];rfl);have xu:=bx (show T.length=rs.length by rw [<- hT,D.acD,vk]);rw [hT];clear hR hr hS hv hT;have aj9:=bx ((Sep.start w).iW w.heap.size 1 2)
 go_enter Tryz.func118,Tryz.ntmps118
 go_wp2_with fail
 go_loopw [7,8] (λo i wr=>∃ k:Nat,k<=rs.length/\i = .int .i64 k/\Box (Sep [Pc.row w.heap.size 2 1 o k ((T.take k).map eu),Pc.old w.heap.size w] wr)) (λ_ i _=>rs.length-(intOf i).toNat)
 case atStart=>exact⟨0,by omega,rfl,aj9⟩
 case round =>
  obtain⟨k,hk,rfl,hsep⟩:=hrel;have aP:=bx (show Below w.heap.size w wr from hsep.o.bel (by simp))
  by_cases hlt:k<rs.length
  ·obtain⟨x,hx⟩:∃ x,rs[k]?=some x:=⟨_,List.getElem?_eq_getElem hlt⟩
   obtain⟨bg,off,cap2,hg1,hg2,hg3,hg4,hg5⟩:=(HR.o.below aP.o).get (by rintro rfl;simp at hlt);obtain⟨rfl,rfl⟩:ao=some ⟨bg,off,none⟩/\cap=cap2:=by injection hg1 with h1 h2 h3;exact⟨h1,h3⟩
   obtain⟨vl,vr,hc0,hc1,hc2,hc3,hc4,hil,hir⟩:=hg5 k x hx;have hrx:=eH.o x (List.mem_of_getElem? hx);have hgood:=HS.o.2 k (by rw [vk];exact hlt);rw [J5 hx] at hgood;have EM:S[k]?=some (S.getD k 0):=by
    have:k<S.length:=by omega
    rw [List.getD,List.getElem?_eq_getElem this];rfl
   obtain⟨sg,VR,Si,Dl,TD,ks3,ks4,Jf⟩:=(HV.o.below aP.o).get (by intro e;have:=congrArg List.length e;rw [vU] at this;simp at this;subst this;simp at EM);rw [vU,hsl] at Dl TD;obtain⟨rfl,rfl⟩:so=some ⟨sg,VR,none⟩/\scap=Si:=by injection Dl with h1 h2 h3;exact⟨h1,h3⟩
   have cs:=Jf k _ (Og EM);have dF:=bx (show (T.take (k+1)).map eu=(T.take k).map eu++[Value.int .i64 ((N.step x.1.2 x.1.1 (S.getD k 0) c:Nat):Int)] by
    rw [HT.o k hlt];unfold D.MC;rw [J5 hx];rfl)
   have iV:=bx (show Js x.1.2 x.1.1 (S.getD k 0:Nat) c = .tuple #[.int .i64 (N.step x.1.2 x.1.1 (S.getD k 0) c), .int .i64 0] by rw [adD (abf hrx hgood),Int.toNat_natCast]);have HST:=bx (λW (h:Below wr.heap.size wr W)=>agx x.1.1 vl x.1.2 (S.getD k 0:Nat) c W (hil.below h) (by have:=xC hrx;omega));obtain⟨al,cl,rfl⟩:=hil.slice;obtain⟨ar,cr,rfl⟩:=hir.slice;generalize S.getD k 0=sk at *;unfold maxLen at hg3 ks3;obtain⟨⟨rE,il⟩,⟨str,ir⟩,br⟩:=x;simp only at hc0 hc1 hc2 hc3 hc4 dF iV HST;clear hx hg1 hg5 hil hir hrx hgood EM Dl Jf;go_wp2_with fail
   go_region_with ((go_at_call 169;refine(HST.o _ ?_).mono ?_;exact below_drewN (Below.refl _ _) _;rintro e w3 ⟨rfl,hb3⟩;rw [iV.o];have HB3:=bx (show Below wr.heap.size wr w3 from Below.mono ⟨hb3.os,hb3.tape,hb3.output,hb3.size,hb3.block⟩ (Nat.le_refl _));clear hb3))
   all_goals
    have aC:=bx (hsep.o.below HB3.o);have hlb:w.heap.size<=w3.heap.size:=Nat.le_trans aP.o.size HB3.o.size;go_wp2_with (at_builtin;refine ji rfl _ _ 27 rfl Le aC.o 0 rfl rfl rfl rfl (by omega) (by omega) hlb ?_;rintro v' w4 hS4 -)
    rw [<- dF.o] at hS4;have aY:=bx hS4;clear hS4;go_wp2_with fail
    go_roundw
    case rel=>exact⟨k+1,hlt,by go_num,aY⟩
    case measure=>simp [intOf];omega
  ·obtain rfl:k=rs.length:=by omega
   have HF:=bx (show T.take rs.length=T by rw [<- xu.o,List.take_length]);go_wp2_with fail;go_ret
   refine⟨aP.o,_,rfl,?_⟩;have:=hsep.o.row 0 rfl
   rwa [HF.o] at this
theorem agB {t:List D.Sets} {s:D.Sets} {k:Nat} (h:s∉t.take k) (hk:t[k]?=some s):D.place t s=k:=by
 unfold D.place;have hlt:=(List.getElem?_eq_some_iff.1 hk).1;have h1:List.idxOf s t<=k:=by
  rcases Nat.lt_or_ge k (List.idxOf s t) with h3 | h3
  ·exfalso
   unfold List.idxOf at h3;have h4:=List.not_of_lt_findIdx h3;rw [(List.getElem?_eq_some_iff.1 hk).2] at h4;simp at h4
  ·exact h3
 rcases Nat.lt_or_ge (List.idxOf s t) k with h2 | h2
 ·exfalso
  apply h
  have hm:s∈t:=List.mem_of_getElem? hk;have:=List.getElem_idxOf (List.idxOf_lt_length_of_mem hm);rw [<- this];rw [List.mem_take_iff_getElem];exact⟨List.idxOf s t,by have:=List.idxOf_lt_length_of_mem hm;omega,rfl⟩
 ·omega
theorem aky (av sv:Value) (t:List D.Sets) (s:D.Sets) (w:World) (hA:fJ w av (t.map zs)) (hz:t.length<=16777216) (hzt:∀ x∈t,x.length<=40) (hs:s.length<=40) (hv:aB w sv (zs s)) :
  Calls Tryz.prog 119 #[av,sv] w λe w'=>e = .returned (.int .i64 (D.place t s))/\Below w.heap.size w w':=by
 have HA:=bx hA;have HV:=bx hv;have HZ:=bx hzt;obtain⟨ao,cap,rfl⟩:=hA.slice;obtain⟨so,scap,rfl⟩:=hv.slice;rw [List.length_map] at HA ⊢;clear hA hv hzt
 go_enter Tryz.func119,Tryz.ntmps119
 go_wp2_with fail
 go_loopw [5] (λi wr=>∃ k:Nat,k<=t.length/\i = .int .i64 k/\Box (s∉t.take k)/\Box (Below w.heap.size w wr)) (λi _=>t.length-(intOf i).toNat)
 case atStart=>exact⟨0,by omega,rfl,⟨by simp⟩,⟨Below.refl _ _⟩⟩
 case round =>
  obtain⟨k,hk,rfl,hn,hbr⟩:=hrel
  by_cases hlt:k<t.length
  ·obtain⟨x,hx⟩:∃ x,t[k]?=some x:=⟨_,List.getElem?_eq_getElem hlt⟩
   obtain⟨bg,off,cap2,hg1,hg2,hg3,hg4,hg5⟩:=(HA.o.below hbr.o).get (by intro e;have:=congrArg List.length e;simp at this;subst this;simp at hlt);rw [List.length_map] at hg1 hg2;obtain⟨rfl,rfl⟩:ao=some ⟨bg,off,none⟩/\cap=cap2:=by injection hg1 with h1 h2 h3;exact⟨h1,h3⟩
   obtain⟨xv,hc,hxi⟩:=hg5 k (zs x) (by rw [List.getElem?_map,hx];rfl);have Hg:=bx (afa xv _ (zs x) (zs s) wr hxi (HV.o.below hbr.o) (by have:=HZ.o x (List.mem_of_getElem? hx);rw [vU];omega) (by rw [vU];omega));have HX:=bx hx;unfold maxLen at hg3;clear hx hg1 hg5 hxi
   by_cases hxs:x=s
   ·subst hxs;have HD:=bx (show decide (zs x=zs x)=true by simp);have HP:=bx (agB hn.o HX.o);go_wp2_with (go_at_call 170;refine Hg.o.mono ?_;rintro e w1 ⟨rfl,hb1⟩;rw [HD.o])
    go_ret
    exact⟨iF (by rw [HP.o]),bt hbr.o hb1⟩
   ·have HD:=bx (show decide (zs x=zs s)=false by rw [decide_eq_false_iff_not];exact λe=>hxs (agi e));have HN:=bx (show s∉t.take (k+1) by rw [take_snoc' _ _ _ HX.o,List.mem_append];rintro(h | h);exact hn.o h;exact hxs (List.mem_singleton.1 h).symm);go_wp2_with (go_at_call 170;refine Hg.o.mono ?_;rintro e w1 ⟨rfl,hb1⟩;rw [HD.o])
    go_roundw
    case rel=>exact⟨k+1,hlt,by go_num,HN,⟨bt hbr.o hb1⟩⟩
    case measure=>simp [intOf];omega
  ·obtain rfl:k=t.length:=by omega
   have HP:=bx (show D.place t s=t.length from D.VF (by have:=hn.o;rwa [List.take_length] at this));go_wp2_with fail;go_ret
   exact⟨iF (by rw [HP.o]),hbr.o⟩
end
section
open Go.RowKit Go.Shelf
theorem UA {n:Int} {l:List D.Rule} {k:Nat} {x:D.Rule} (h:l[k]?=some x) (hx:kX n x=false):pX n l=false:=by
 unfold pX;rw [aa6 n l k x h hx];simp
theorem Wv (v:Value) (l:List D.Rule) (n:Int) (w:World) (hf:∀ x∈l,nX x) (hv:fA w v l) (hz:l.length<=16777216) :
  Calls Tryz.prog 116 #[v, .int .i64 n] w λe w'=>e = .returned (.bool (pX n l))/\Below w.heap.size w w':=by
 have HR:=bx hv;have HF:=bx hf;obtain⟨ao,cap,rfl⟩:=hv.slice;clear hv hf
 go_enter Tryz.func116,Tryz.ntmps116
 go_wp2_with fail
 go_loopw [5] (λi wr=>∃ k:Nat,k<=l.length/\i = .int .i64 k/\Box ((l.take k).all (kX n)=true)/\Box (Below w.heap.size w wr)) (λi _=>l.length-(intOf i).toNat)
 case atStart=>exact⟨0,by omega,rfl,⟨rfl⟩,⟨Below.refl _ _⟩⟩
 case round =>
  obtain⟨k,hk,rfl,ha,hbr⟩:=hrel
  by_cases hlt:k<l.length
  ·obtain⟨x,hx⟩:∃ x,l[k]?=some x:=⟨_,List.getElem?_eq_getElem hlt⟩
   obtain⟨bg,off,cap2,hg1,hg2,hg3,hg4,hg5⟩:=(HR.o.below hbr.o).get (by rintro rfl;simp at hlt);obtain⟨rfl,rfl⟩:ao=some ⟨bg,off,none⟩/\cap=cap2:=by injection hg1 with h1 h2 h3;exact⟨h1,h3⟩
   obtain⟨vl,vr,hc0,hc1,hc2,hc3,hc4,hil,hir⟩:=hg5 k x hx;have hfx:=HF.o x (List.mem_of_getElem? hx);have HL:=bx (λW (h:Below wr.heap.size wr W)=>aa3 x.1.1 vl x.1.2 n W (hil.below h) hfx.1);have HRR:=bx (λW (h:Below wr.heap.size wr W)=>aa3 x.2.1.1 vr x.2.1.2 n W (hir.below h) hfx.2);have HX:=bx hx;unfold maxLen at hg3;obtain⟨⟨rE,il⟩,⟨str,ir⟩,br⟩:=x;simp only at hc0 hc1 hc2 hc3 hc4 HL HRR;clear hx hg1 hg5 hil hir hfx
   cases hr1:pq n il with
   | false =>
    have iP:=bx (UA HX.o (show kX n ((rE,il),(str,ir),br)=false by unfold kX;rw [hr1];rfl));have HQ:=bx hr1;clear hr1;go_wp2_with (go_at_call 167;refine(HL.o _ (Below.refl _ _)).mono ?_;rintro e w1 ⟨rfl,hb1⟩;rw [HQ.o])
    go_ret
    exact⟨aI (by rw [iP.o]),bt hbr.o hb1⟩
   | true =>
    have HQ:=bx hr1
    cases hr2:pq n ir with
    | false =>
     have iP:=bx (UA HX.o (show kX n ((rE,il),(str,ir),br)=false by unfold kX;rw [hr1,hr2];rfl));have iK:=bx hr2;clear hr1 hr2;go_wp2_with fail;refine(HL.o _ (Below.refl _ _)).mono ?_;rintro e w1 ⟨rfl,hb1⟩;rw [HQ.o];have HB1:=bx hb1;have d0:=(hb1.cell (p:=⟨bg,off+k*5+2,none⟩) hg4).trans hc2;have d1:=(hb1.cell (p:=⟨bg,off+k*5+3,none⟩) hg4).trans hc3;clear hb1;go_wp2_with fail;refine(HRR.o _ HB1.o).mono ?_;rintro e w2 ⟨rfl,hb2⟩;rw [iK.o];have HB2:=bx (bt HB1.o hb2);clear hb2;go_wp2_with fail;go_ret
     exact⟨aI (by rw [iP.o]),bt hbr.o HB2.o⟩
    | true =>
     have iK:=bx hr2
     cases str with
     | true =>
      have iP:=bx (UA HX.o (show kX n ((rE,il),(true,ir),br)=false by unfold kX;rw [hr1,hr2];rfl));clear hr1 hr2;go_wp2_with fail;refine(HL.o _ (Below.refl _ _)).mono ?_;rintro e w1 ⟨rfl,hb1⟩;rw [HQ.o];have HB1:=bx hb1;have d0:=(hb1.cell (p:=⟨bg,off+k*5+2,none⟩) hg4).trans hc2;have d1:=(hb1.cell (p:=⟨bg,off+k*5+3,none⟩) hg4).trans hc3;clear hb1;go_wp2_with fail;refine(HRR.o _ HB1.o).mono ?_;rintro e w2 ⟨rfl,hb2⟩;rw [iK.o];have HB2:=bx (bt HB1.o hb2);have d2:=(HB2.o.cell (p:=⟨bg,off+k*5+2,none⟩) hg4).trans hc2;clear hb2 d0 d1;go_wp2_with fail;go_ret
      exact⟨aI (by rw [iP.o]),bt hbr.o HB2.o⟩
     | false =>
      have HT:=bx (YE n l k _ HX.o ha.o (show kX n ((rE,il),(false,ir),br)=true by unfold kX;rw [hr1,hr2];rfl));clear hr1 hr2;go_wp2_with fail;refine(HL.o _ (Below.refl _ _)).mono ?_;rintro e w1 ⟨rfl,hb1⟩;rw [HQ.o];have HB1:=bx hb1;have d0:=(hb1.cell (p:=⟨bg,off+k*5+2,none⟩) hg4).trans hc2;have d1:=(hb1.cell (p:=⟨bg,off+k*5+3,none⟩) hg4).trans hc3;clear hb1;go_wp2_with fail;refine(HRR.o _ HB1.o).mono ?_;rintro e w2 ⟨rfl,hb2⟩;rw [iK.o];have HB2:=bx (bt HB1.o hb2);have d2:=(HB2.o.cell (p:=⟨bg,off+k*5+2,none⟩) hg4).trans hc2;clear hb2 d0 d1;go_wp2_with fail
      go_roundw
      case rel=>exact⟨k+1,hlt,by go_num,HT,⟨bt hbr.o HB2.o⟩⟩
      case measure=>simp [intOf];omega
  ·obtain rfl:k=l.length:=by omega
   have HT:=bx (show pX n l=(decide (1<=n)&&decide (n<=32)&&decide (l.length<=40)) by
    unfold pX;have:=ha.o;rw [List.take_length] at this;rw [this,Bool.and_true])
   clear ha
   rcases (show n<1\/(1<=n/\32<n)\/(1<=n/\n<=32) by omega) with h | ⟨h,h'⟩ | ⟨h,h'⟩
   ·go_wp2_with fail;go_ret
    exact⟨aI (by rw [HT.o];simp;omega),hbr.o⟩
   ·go_wp2_with fail;go_ret
    exact⟨aI (by rw [HT.o];simp;omega),hbr.o⟩
   ·rcases Nat.lt_or_ge 40 l.length with h40 | h40
    ·go_wp2_with fail;go_ret
     exact⟨aI (by rw [HT.o,decide_eq_true h,decide_eq_true h',Bool.true_and,Bool.true_and,decide_eq_decide];omega),hbr.o⟩
    ·go_wp2_with fail;go_ret
     exact⟨aI (by rw [HT.o];simp [h,h',h40];omega),hbr.o⟩
end
end Go.Proofs.YtdenoeakcflnmaaGreatDoor
