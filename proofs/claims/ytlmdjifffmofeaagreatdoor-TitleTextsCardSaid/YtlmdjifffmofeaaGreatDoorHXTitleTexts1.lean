/- Texts of this claim. -/
import Derived.Test.YtlmdjifffmofeaaGreatDoorH3
import Derived.Test.YtlmdjifffmofeaaGreatDoorH4

set_option maxHeartbeats 2000000
set_option maxRecDepth 100000
namespace Go.Proofs.YtlmdjifffmofeaaGreatDoor
section
open Go.RowKit
theorem bM.take {w:World} {ao:Option Addr} {cap:Nat} {l:List N.Item} (h:bM w (.slice ao l.length cap) l) (n:Nat):bM w (.slice ao (l.take n).length cap) (l.take n):=by
 rcases h with⟨h1,rfl⟩ | ⟨b,off,sp,cap,h1,h2,h3,h4⟩
 ·injection h1 with h1 h2 h3;subst h1 h3;simp [bM]
 ·injection h1 with h1 h2' h3';subst h1 h3';refine .inr ⟨b,off,sp,_,rfl,by rw [List.length_take];omega,h3,λhn=>?_⟩;have hn':l≠[]:=by rintro rfl;simp at hn
  refine⟨(h4 hn').1,(h4 hn').2.1,λi x hx=>(h4 hn').2.2 i x ?_⟩;rw [List.getElem?_take] at hx
  split at hx
  ·exact hx
  ·cases hx
theorem bM.FM {w:World} {ao:Option Addr} {cap n:Nat} {l:List N.Item} (h:bM w (.slice ao n cap) l):l.length<=cap/\cap<=9223372036854775807:=by
 rcases h with⟨h1,rfl⟩ | ⟨b,off,sp,cap,h1,h2,h3,h4⟩
 ·injection h1 with h1 h2 h3;subst h3;simp
 ·injection h1 with h1 h2' h3';subst h3';unfold maxLen at h3;omega
theorem Eb (st:Bool) (v:Value) (l:List N.Item) (w:World) (hv:bM w v l) :
  Calls Tryz.prog 82 #[.agg #[.bool st,v]] w λe w'=>(∃ v',e = .returned (.agg #[.bool st,v'])/\∀ W,bM W v l->bM W v' (l.take 12))/\Below w.heap.size w w':=by
 obtain⟨ao,cap,rfl⟩:=hv.slice;obtain⟨hc1,hc2⟩:=hv.FM;have HT:=bx (λ(W:World) (h:bM W (.slice ao l.length cap) l)=>h.take 12);have HB:=bx (show ∀ o1 o2,Below w.heap.size w ((w.alloc o1).alloc o2).drew from λo1 o2=>below_drewN (((Below.refl _ _).alloc (Nat.le_refl _) o1).alloc (by simp) o2) 1);clear hv
 rcases Nat.lt_or_ge 12 l.length with hlt | hle
 ·have hm:min (l.length:Int) 12=12:=by omega
  go_enter Tryz.func82,Tryz.ntmps82
  go_wp2
  go_region
  go_wp2
  all_goals first
   | (exfalso;omega;done)
   | (refine bodyPost_ret (v:=.agg #[.bool st, .slice ao 12 cap]) (by simp [results,Tryz.results82,go_sem]) rfl ⟨⟨_,rfl,λW h=>?_⟩,HB.o _ _⟩;have:=HT.o W h;rw [show (l.take 12).length=12 by rw [List.length_take];omega] at this;exact this)
 ·have hm:min (l.length:Int) 12=l.length:=by omega
  go_enter Tryz.func82,Tryz.ntmps82
  go_wp2
  go_region
  go_wp2
  all_goals first
   | (exfalso;omega;done)
   | (refine bodyPost_ret (v:=.agg #[.bool st, .slice ao l.length cap]) (by simp [results,Tryz.results82,go_sem]) rfl ⟨⟨_,rfl,λW h=>?_⟩,HB.o _ _⟩;have:=HT.o W h;rw [List.take_of_length_le hle] at this ⊢;exact this)
end
namespace N
def JH (l:List Item) (cs:List Int) (i j:Nat):Prop:=∃ c,cs[j]?=some c/\kU (setAt l i) c=true
def L9 (l:List Item) (cs:List Int) (i a k:Nat):Prop:=∀ j,a<=j->j<k->JH l cs i j
def full (l:List Item) (cs:List Int) (i a b:Nat):Prop:=a<=b/\L9 l cs i a b/\(iM l i=0->b=a+1)/\(iM l i=2->(b-a) % 2=0)
def Ends (l:List Item) (cs:List Int):Nat->Nat->Nat->Prop
 | 0,f,a=>a=f
 | i+1,f,a=>∃ b,Ends l cs i f b/\full l cs i b a
theorem Ends.le {l:List Item} {cs:List Int}:∀ {i f a:Nat},Ends l cs i f a->f<=a
 | 0,_,_,h=>by unfold Ends at h;omega
 | i+1,f,a,h=>by obtain⟨b,h1,h2⟩:=h;exact Nat.le_trans h1.le h2.1
end N
namespace N
def Jv (l:List Item) (cs:List Int) (i a:Nat):Nat:=((cs.drop a).takeWhile λc=>kU (setAt l i) c).length
theorem Ih (l:List Item) (cs:List Int) (i a b:Nat) (h:a<=b):L9 l cs i a b↔b<=a+Jv l cs i a:=by
 have hw:=N8 (λc=>kU (setAt l i) c) (cs.drop a) (b-a);unfold Jv
 constructor
 ·intro ho;have:=hw.1 λx hx=>by
   obtain⟨c,h1,h2⟩:=ho (a+x) (by omega) (by omega);exact⟨c,by rw [List.getElem?_drop];exact h1,h2⟩
  omega
 ·intro hb j h1 h2;obtain⟨c,h3,h4⟩:=hw.2 (by omega) (j-a) (by omega);rw [List.getElem?_drop,show a+(j-a)=j by omega] at h3;exact⟨c,h3,h4⟩
def nexts (l:List Item) (cs:List Int) (i a:Nat):List Nat :=
 if iM l i=0 then (if Jv l cs i a=0 then [] else [a+1])
 else if iM l i=1 then (List.range (Jv l cs i a+1)).map (a+·)
 else ((List.range (Jv l cs i a+1)).filter λd=>d % 2==0).map (a+·)
theorem abz {l:List Item} {cs:List Int} (hh:∀ i,iM l i=0\/iM l i=1\/iM l i=2) (i a b:Nat):b∈nexts l cs i a↔full l cs i a b:=by
 unfold nexts full
 rcases hh i with e | e | e
 ·rw [if_pos e]
  constructor
  ·intro h
   split at h
   ·exact absurd h List.not_mem_nil
   ·rename_i h0
    simp only [List.mem_singleton] at h;subst h;exact⟨by omega,(Ih l cs i a (a+1) (by omega)).2 (by omega),λ_=>rfl,λh=>by rw [e] at h;cases h⟩
  ·rintro⟨h1,h2,h3,-⟩;have hb:=h3 e;subst hb;have:=(Ih l cs i a (a+1) (by omega)).1 h2;rw [if_neg (by omega)];exact List.mem_singleton.2 rfl
 ·rw [if_neg (by rw [e];decide),if_pos e];simp only [List.mem_map,List.mem_range]
  constructor
  ·rintro⟨d,h1,rfl⟩;exact⟨by omega,(Ih l cs i a (a+d) (by omega)).2 (by omega),(λh=>by rw [e] at h;cases h),λh=>by rw [e] at h;cases h⟩
  ·rintro⟨h1,h2,-⟩;have:=(Ih l cs i a b h1).1 h2;exact⟨b-a,by omega,by omega⟩
 ·rw [if_neg (by rw [e];decide),if_neg (by rw [e];decide)];simp only [List.mem_map,List.mem_filter,List.mem_range,beq_iff_eq]
  constructor
  ·rintro⟨d,⟨h1,h2⟩,rfl⟩;exact⟨by omega,(Ih l cs i a (a+d) (by omega)).2 (by omega),(λh=>by rw [e] at h;cases h),λ_=>by omega⟩
  ·rintro⟨h1,h2,-,h4⟩;have:=(Ih l cs i a b h1).1 h2;have:=h4 e;exact⟨b-a,⟨by omega,by omega⟩,by omega⟩
end N
section
open Go.RowKit
theorem QM (c:Int) (h0:0<=c) (h1:c<256) (w:World) :
  Calls Tryz.prog 136 #[.int .u8 c] w λe w'=>e = .returned (.tuple #[.int .i64 (U.bF c), .int .u8 (U.eX c), .int .u8 (U.eU c)])/\w=w':=by
 go_enter Tryz.func136,Tryz.ntmps136
 go_wp2
 all_goals (try simp only [beq_iff_eq,beq_eq_false_iff_ne,ne_eq] at *)
 all_goals go_ret3
 all_goals exact⟨aaJ (fF (by unfold U.bF;repeat' (first | omega | split))) (fF (by unfold U.eX U.bF;repeat' (first | omega | split))) (fF (by unfold U.eU U.bF;repeat' (first | omega | split))),rfl⟩
theorem Fz {o:Option (Int×Nat)} {a b c:Value} (h:Xd o = .tuple #[a,b,c]):Ending.returned (.tuple #[a,b,c]) = .returned (Xd o):=by rw [h]
theorem Vm (s:ByteArray) (w:World) (h:s.data.toList=[]\/∃ c t,s.data.toList=c::t/\(U.bF (U.aA c)<0\/(t.length:Int)<U.bF (U.aA c))) :
  Calls Tryz.prog 87 #[.string s] w λe w'=>e = .returned (.tuple #[.int .i64 0, .int .i64 0, .bool false])/\w=w':=by
 rcases h with h | ⟨c,t,h,hc⟩
 ·have hz:=isEmpty_nil h;clear h
  go_enter Tryz.func87,Tryz.ntmps87
  go_wp2
  go_ret3
  exact⟨rfl,rfl⟩
 ·have hz:=isEmpty_cons h;have hi:=uH Tryz.underlying9 s 0 (d:=c) (by rw [h];rfl) 0 rfl;have hc0:=U.oZ c;have hc1:=U.qj c;have hsz:(s.size:Int)=t.length+1:=by rw [size_eq,h];simp
  have hc2:U.bF (U.aA c)<0\/(s.size:Int)<=U.bF (U.aA c):=by omega
  clear h hc hsz;generalize U.aA c=x at *
  rcases hc2 with hc | hc
  ·go_enter Tryz.func87,Tryz.ntmps87
   go_wp2_with (first | (go_at_call 136;refine(QM _ (by omega) (by omega) _).mono ?_;rintro e w' ⟨rfl,rfl⟩))
   all_goals go_ret3
   all_goals exact⟨rfl,rfl⟩
  ·have hge:0<=U.bF x\/U.bF x<0:=by omega
   rcases hge with hge | hge
   all_goals
    go_enter Tryz.func87,Tryz.ntmps87
    go_wp2_with (first | (go_at_call 136;refine(QM _ (by omega) (by omega) _).mono ?_;rintro e w' ⟨rfl,rfl⟩))
    all_goals go_ret3
    all_goals exact⟨rfl,rfl⟩
theorem Xw (s:ByteArray) (w:World) (hs:s.size<=maxLen) :
  Calls Tryz.prog 87 #[.string s] w λe w'=>e = .returned (oK s.data.toList)/\w=w':=by
 unfold maxLen at hs
 cases hl:s.data.toList with
 | nil=>exact Vm s w (.inl hl)
 | cons c t =>
 by_cases h1:U.bF (U.aA c)<0
 ·refine(Vm s w (.inr ⟨c,t,hl, .inl h1⟩)).mono λe w' h=>?_
  rw [oK,U.H7 h1];exact h
 by_cases h2:(t.length:Int)<U.bF (U.aA c)
 ·refine(Vm s w (.inr ⟨c,t,hl, .inr h2⟩)).mono λe w' h=>?_
  rw [oK,U.Vj h2];exact h
 have hz:=isEmpty_cons hl;have hi:=uH Tryz.underlying9 s 0 (d:=c) (by rw [hl];rfl) 0 rfl;have hc0:=U.oZ c;have hc1:=U.qj c;have hsz:(s.size:Int)=t.length+1:=by rw [size_eq,hl];simp
 have hrow:=QM (U.aA c) hc0 hc1
 rcases U.D6 (U.aA c) with e | e | e | e | e
 ·omega
 ·have hx:=U.PG _ e;have HD:=bx (U.JF (t:=t) e);rw [e] at hrow;have oz:=bx hrow;have hz3:0<s.size:=by omega
  have hne:¬ (s=ByteArray.empty):=by rintro rfl;simp at hz3
  clear hrow hl hsz e h1 h2;generalize U.aA c=x at *
  go_enter Tryz.func87,Tryz.ntmps87
  go_wp2_with (first | (go_at_call 136;refine(oz.o _).mono ?_;rintro e w' ⟨rfl,rfl⟩))
  go_rounds 1
  all_goals go_ret3
  all_goals exact⟨Fz (by rw [HD.o];rfl),rfl⟩
 ·rcases t with _ | ⟨d1,t⟩
  ·simp at h2;omega
  have i1:=uH Tryz.underlying9 s 1 (d:=d1) (by rw [hl];rfl) 1 rfl;have hx:=U.Oi _ e;have HD:=bx (U.GN (d1:=d1) (t:=t) e);rw [e] at hrow;have oz:=bx hrow;have hz3:1<s.size:=by simp at hsz;omega
  have b1:=U.qj d1;have a1:=U.oZ d1;clear hrow hl hsz e h1 h2;generalize U.aA c=x at *;generalize U.aA d1=y1 at *
  go_enter Tryz.func87,Tryz.ntmps87
  go_wp2_with (first | (go_at_call 136;refine(oz.o _).mono ?_;rintro e w' ⟨rfl,rfl⟩))
  go_rounds 2
  all_goals go_ret3
  all_goals first
   | exact⟨Fz (by rw [HD.o,if_neg (by omega)];rfl),rfl⟩
   | exact⟨Fz (by rw [HD.o,if_pos (by omega)];rfl),rfl⟩
 ·rcases t with _ | ⟨d1,_ | ⟨d2,t⟩⟩
  ·simp at h2;omega
  ·simp at h2;omega
  have i1:=uH Tryz.underlying9 s 1 (d:=d1) (by rw [hl];rfl) 1 rfl;have i2:=uH Tryz.underlying9 s 2 (d:=d2) (by rw [hl];rfl) 2 rfl;have hx:=U.PZ _ e;have HD:=bx (U.IB (d1:=d1) (d2:=d2) (t:=t) e);rw [e] at hrow;have oz:=bx hrow;have hz3:2<s.size:=by simp at hsz;omega
  have b1:=U.qj d1;have a1:=U.oZ d1;have b2:=U.qj d2;have a2:=U.oZ d2;clear hrow hl hsz e h1 h2;generalize U.aA c=x at *;generalize U.aA d1=y1 at *;generalize U.aA d2=y2 at *
  go_enter Tryz.func87,Tryz.ntmps87
  go_wp2_with (first | (go_at_call 136;refine(oz.o _).mono ?_;rintro e w' ⟨rfl,rfl⟩))
  go_rounds 3
  all_goals go_ret3
  all_goals first
   | exact⟨Fz (by rw [HD.o,if_neg (by omega)];rfl),rfl⟩
   | exact⟨Fz (by rw [HD.o,if_pos (by omega)];rfl),rfl⟩
 ·rcases t with _ | ⟨d1,_ | ⟨d2,_ | ⟨d3,t⟩⟩⟩
  ·simp at h2;omega
  ·simp at h2;omega
  ·simp at h2;omega
  have i1:=uH Tryz.underlying9 s 1 (d:=d1) (by rw [hl];rfl) 1 rfl;have i2:=uH Tryz.underlying9 s 2 (d:=d2) (by rw [hl];rfl) 2 rfl;have i3:=uH Tryz.underlying9 s 3 (d:=d3) (by rw [hl];rfl) 3 rfl;have hx:=U.QG _ e;have HD:=bx (U.J6 (d1:=d1) (d2:=d2) (d3:=d3) (t:=t) e);rw [e] at hrow;have oz:=bx hrow;have hz3:3<s.size:=by simp at hsz;omega
  have b1:=U.qj d1;have a1:=U.oZ d1;have b2:=U.qj d2;have a2:=U.oZ d2;have b3:=U.qj d3;have a3:=U.oZ d3;clear hrow hl hsz e h1 h2;generalize U.aA c=x at *;generalize U.aA d1=y1 at *;generalize U.aA d2=y2 at *;generalize U.aA d3=y3 at *
  go_enter Tryz.func87,Tryz.ntmps87
  go_wp2_with (first | (go_at_call 136;refine(oz.o _).mono ?_;rintro e w' ⟨rfl,rfl⟩))
  go_rounds 4
  all_goals go_ret3
  all_goals first
   | exact⟨Fz (by rw [HD.o,if_neg (by omega)];rfl),rfl⟩
   | exact⟨Fz (by rw [HD.o,if_pos (by omega)];rfl),rfl⟩
theorem aaU (r:Int) (w:World) :
  Calls Tryz.prog 90 #[.int .i64 r] w λe w'=>e = .returned (Ap r)/\Below w.heap.size w w':=by
 by_cases hr:U.right r=true
 case neg =>
  have hr':U.right r=false:=by simpa using hr
  have hc:=wC r;rw [hr'] at hc;have HC:=bx hc;have HD:=bx (Ov hr');clear hc hr hr'
  go_enter Tryz.func90,Tryz.ntmps90
  go_wp2_with (first | (go_at_call 75;refine(HC.o _).mono ?_;rintro e w' ⟨rfl,rfl⟩))
  go_ret2
  exact⟨by rw [HD.o];rfl,Below.refl _ _⟩
 have hb:=(U.CB r).1 hr;obtain⟨g0,g1,_⟩:=hb;have hc:=wC r;rw [hr] at hc;have HC:=bx hc;have HE:=bx (λ(l:List Int)=>aav (l:=l) hr);clear hc hr;have c1:=λ(w:World) (a:Int)=>Dx (P:=Tryz.prog) (src:=98) (dst:=9) Tryz.underlying98 Tryz.underlying5 Tryz.underlying9 [a] w 1 1 rfl 5
 have c2:=λ(w:World) (a b:Int)=>Dx (P:=Tryz.prog) (src:=98) (dst:=9) Tryz.underlying98 Tryz.underlying5 Tryz.underlying9 [a,b] w 2 2 rfl 5
 have c3:=λ(w:World) (a b c:Int)=>Dx (P:=Tryz.prog) (src:=98) (dst:=9) Tryz.underlying98 Tryz.underlying5 Tryz.underlying9 [a,b,c] w 3 3 rfl 5
 have c4:=λ(w:World) (a b c d:Int)=>Dx (P:=Tryz.prog) (src:=98) (dst:=9) Tryz.underlying98 Tryz.underlying5 Tryz.underlying9 [a,b,c,d] w 4 4 rfl 5
 simp only [List.map_cons,List.map_nil] at c1 c2 c3 c4
 by_cases k1:r<128
 ·go_enter Tryz.func90,Tryz.ntmps90
  go_wp2_with (first | (go_at_call 75;refine(HC.o _).mono ?_;rintro e w' ⟨rfl,rfl⟩))
  go_ret2
  exact⟨rJ (HE.o [r] (by unfold U.enc;rw [if_pos (by omega)];rfl)),(Below.refl _ _).alloc (Nat.le_refl _) _⟩
 by_cases k2:r<2048
 ·go_enter Tryz.func90,Tryz.ntmps90
  go_wp2_with (first | (go_at_call 75;refine(HC.o _).mono ?_;rintro e w' ⟨rfl,rfl⟩))
  go_ret2
  exact⟨rJ (HE.o [192+r / 64,128+r % 64] (by unfold U.enc;rw [if_neg (by omega),if_pos (by omega)];rfl)),(Below.refl _ _).alloc (Nat.le_refl _) _⟩
 by_cases k3:r<65536
 ·go_enter Tryz.func90,Tryz.ntmps90
  go_wp2_with (first | (go_at_call 75;refine(HC.o _).mono ?_;rintro e w' ⟨rfl,rfl⟩))
  go_ret2
  exact⟨rJ (HE.o [224+r / 4096,128+r / 64 % 64,128+r % 64] (by unfold U.enc;rw [if_neg (by omega),if_neg (by omega),if_pos (by omega)];rfl)),(Below.refl _ _).alloc (Nat.le_refl _) _⟩
 ·go_enter Tryz.func90,Tryz.ntmps90
  go_wp2_with (first | (go_at_call 75;refine(HC.o _).mono ?_;rintro e w' ⟨rfl,rfl⟩))
  go_ret2
  exact⟨rJ (HE.o [240+r / 262144,128+r / 4096 % 64,128+r / 64 % 64,128+r % 64] (by unfold U.enc;rw [if_neg (by omega),if_neg (by omega),if_neg (by omega)];rfl)),(Below.refl _ _).alloc (Nat.le_refl _) _⟩
end
namespace M
open U
def cuts (pl:List Place):List Nat:=0::pl.map λx=>x.1+x.2.1
end M
namespace M
open U
theorem aj2 (s:List UInt8):∀ a,∀ x∈rest s a,fwd (rest s a) x.1=some x:=by
 refine JR (s:=s) (λa h x hx=>?_) (λa h ih x hx=>?_)
 ·rw [rest_end s a h] at hx;exact absurd hx List.not_mem_nil
 ·have hu:=I8 h;rw [Cc s a h] at hx ⊢;unfold fwd
  rcases List.mem_cons.1 hx with rfl | hx
  ·rw [List.find?_cons_of_pos];simp
  ·have:=MC s _ x hx;rw [List.find?_cons_of_neg]
   ·exact ih x hx
   ·simp;omega
theorem air (s:List UInt8):∀ a,∀ x∈rest s a,bwd (rest s a) ((x.1+x.2.1:Nat):Int)=some x:=by
 refine JR (s:=s) (λa h x hx=>?_) (λa h ih x hx=>?_)
 ·rw [rest_end s a h] at hx;exact absurd hx List.not_mem_nil
 ·rw [Cc s a h] at hx ⊢;unfold bwd
  rcases List.mem_cons.1 hx with rfl | hx
  ·rw [List.find?_cons_of_pos];simp
  ·have:=MC s _ x hx;rw [List.find?_cons_of_neg]
   ·exact ih x hx
   ·simp;omega
theorem ahJ (s:List UInt8):∀ a,∀ (i:Nat) (x:Place),(rest s a)[i]?=some x->(U6 a (rest s a))[i]?=some x.1/\(U6 a (rest s a))[i+1]?=some (x.1+x.2.1):=by
 refine JR (s:=s) (λa h i x hx=>?_) (λa h ih i x hx=>?_)
 ·rw [rest_end s a h] at hx;cases hx
 ·rw [Cc s a h] at hx ⊢
  cases i with
  | zero=>cases hx;exact⟨rfl,rfl⟩
  | succ i=>exact ih i x hx
theorem af6 {s:List UInt8} {i:Nat} (h:i<(places s).length):∃ x,(places s)[i]?=some x/\(cuts (places s))[i]?=some x.1/\(cuts (places s))[i+1]?=some (x.1+x.2.1)/\fwd (places s) x.1=some x/\bwd (places s) ((x.1+x.2.1:Nat):Int)=some x/\1<=x.2.1/\x.2.1<=4/\x.1+x.2.1<=s.length/\unit (s.drop x.1)=(x.2.1,x.2.2):=by
 obtain⟨x,hx⟩:∃ x,(places s)[i]?=some x:=⟨_,List.getElem?_eq_getElem h⟩
 have hm:=List.mem_of_getElem? hx;refine⟨x,hx,?_⟩;rw [<- F9] at hx hm ⊢;have h1:=ahJ s 0 i x hx;have h2:=MC s 0 x hm;exact⟨h1.1,h1.2,aj2 s 0 x hm,air s 0 x hm,h2.2.2.2.2.1,h2.2.2.2.2.2,h2.2.2.2.1,h2.2.2.1.symm⟩
theorem adG (pl:List Place):(cuts pl).length=pl.length+1:=by simp [cuts]
end M
section
open Go.RowKit Go.ChangeShapes Go.WideShapes Go.Deep
section
variable {H:Type} {enc:TypeId×Value->H} {W:World}
theorem bM.open {v:Value} {fuel:Nat} {x:DataW H×List MemPlace} (hf:DataW.trod enc Tryz.prog W 0 (λ_=>true) true fuel 142 [v]=some x):∃ l,bM W v l:=by
 rcases open_slice_pairs Tryz.underlying142 Tryz.underlying282 (by kernel_rfl) rfl rfl (by kernel_rfl) (by kernel_rfl) hf with⟨h1,_⟩ | ⟨a,len,cap,m,n,V0,V1,D0,D1,P0,P1,h1,_,h2,h3,h4,_,h5⟩
 ·simp only [List.cons.injEq,and_true] at h1;exact⟨[], .inl ⟨h1,rfl⟩⟩
 ·simp only [List.cons.injEq,and_true] at h1;subst h1;simp only [if_true] at h4;subst h4;have key:∀ i,i<m->∃ y:N.Item,W.cell? (a.add (i*2))=some (.int .i64 y.1)/\W.cell? (a.add (i*2+1))=some (.int .i64 y.2):=by
   intro i hi;obtain⟨c0,c1,t0,t1⟩:=h5 i hi;obtain⟨k0,e0,_⟩:=DataW.trod_int Tryz.underlying2 t0;obtain⟨k1,e1,_⟩:=DataW.trod_int Tryz.underlying3 t1;simp only [List.cons.injEq,and_true] at e0 e1;exact⟨(k0,k1),by rw [c0,e0],by rw [c1,e1]⟩
  let g:Nat->N.Item:=λi=>if h:i<m then (key i h).choose else (0,0)
  have hg:∀ i,i<m->W.cell? (a.add (i*2))=some (.int .i64 (g i).1)/\W.cell? (a.add (i*2+1))=some (.int .i64 (g i).2):=by
   intro i hi;have:g i=(key i hi).choose:=by simp [g,hi]
   rw [this];exact(key i hi).choose_spec
  obtain⟨b,off,sp⟩:=a;have hlen:((List.range len).map g).length=len:=by simp
  refine⟨(List.range len).map g, .inr ⟨b,off,sp,m,by rw [hlen],by rw [hlen];exact h2,h3,λhn=>?_⟩⟩;have h0:0<len:=by
   rcases Nat.eq_zero_or_pos len with h | h
   ·subst h;exact absurd rfl hn
   ·exact h
  have hc0:=(hg 0 (by omega)).1;have hsp:sp=none:=World.cell?_spot (a:=(⟨b,off,sp⟩:Addr).add (0*2)) hc0;subst hsp;refine⟨rfl,World.block_lt_of_cell? _ _ hc0,λi y hy=>?_⟩;rw [List.getElem?_map] at hy;obtain⟨j,hj,rfl⟩:=Option.map_eq_some_iff.1 hy;obtain⟨hi,rfl⟩:=List.getElem?_eq_some_iff.1 hj;simp only [List.length_range] at hi;simp only [List.getElem_range];have:=hg i (by omega);rw [addr_add b off,addr_add b off] at this;exact this
end
end
end Go.Proofs.YtlmdjifffmofeaaGreatDoor
