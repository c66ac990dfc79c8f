/- Texts of this claim. -/
import Derived.Test.YtdenoeakcflnmaaGreatDoorH10

set_option maxHeartbeats 8000000
set_option maxRecDepth 100000
namespace Go.Proofs.YtdenoeakcflnmaaGreatDoor
section
open Go.RowKit
def iy (w:World) (v:Value) (xs:List Bool):Prop :=
 (v = .slice none 0 0/\xs=[])\/∃ b off sp cap,v = .slice (some ⟨b,off,sp⟩) xs.length cap/\xs.length<=cap/\cap<=maxLen/\(xs≠[]->sp=none/\b<w.heap.size/\∀ i x,xs[i]?=some x->w.cell? ⟨b,off+i,none⟩=some (.bool x))
theorem iy.below {w w':World} {v:Value} {xs:List Bool} (h:iy w v xs) (hb:Below w.heap.size w w'):iy w' v xs:=by
 rcases h with h | ⟨b,off,sp,cap,h1,h2,h3,h4⟩
 ·exact .inl h
 ·exact .inr ⟨b,off,sp,cap,h1,h2,h3,λhn=>⟨(h4 hn).1,Nat.lt_of_lt_of_le (h4 hn).2.1 hb.size,λi x hx=>(hb.cell (p:=⟨b,off+i,none⟩) (h4 hn).2.1).trans ((h4 hn).2.2 i x hx)⟩⟩
theorem iy.get {w:World} {v:Value} {xs:List Bool} (h:iy w v xs) (hn:xs≠[]) :
  ∃ b off cap,v = .slice (some ⟨b,off,none⟩) xs.length cap/\xs.length<=cap/\cap<=maxLen/\b<w.heap.size/\∀ i x,xs[i]?=some x->w.cell? ⟨b,off+i,none⟩=some (.bool x):=by
 rcases h with⟨_,h⟩ | ⟨b,off,sp,cap,h1,h2,h3,h4⟩
 ·exact absurd h hn
 ·obtain⟨rfl,h5,h6⟩:=h4 hn;exact⟨b,off,cap,h1,h2,h3,h5,h6⟩
theorem iy.slice {w:World} {v:Value} {xs:List Bool} (h:iy w v xs):∃ a cap,v = .slice a xs.length cap:=by
 rcases h with⟨rfl,rfl⟩ | ⟨b,off,sp,cap,rfl,_⟩
 ·exact⟨_,_,rfl⟩
 ·exact⟨_,_,rfl⟩
end
section
open Go.RowKit Go.Shelf
attribute [local go_sem] Oper.semAt_some
def wM (n:Nat) (M:D.bH) (l:List Int):List Int:=(fC n M l).map (mG M)
def WI (n:Int) (M:D.bH) (l:List Int) (w:World) (e:Ending) (w':World):Prop :=
 Below w.heap.size w w'/\∃ v,e = .returned (.tuple #[v, .int .i64 (goCode n M)])/\aB w' v (if fO n M=true then wM n.toNat M l else [])
theorem QF {w:World} {base n:Nat} {T:TypeId} {v:Value} {xs:List Int} (h:w.ownsRow base T 1 v n (xs.map (Value.int .i64))) (hn:n=xs.length):aB w v xs:=aB.gK h hn
theorem ku {a b c:World} (h:Below a.heap.size a b) (k:Below b.heap.size b c):Below a.heap.size a c:=bt h k
end
section
open Go.RowKit
section
variable {w w':World} {v:Value} {xs:List Value}
theorem ig.nil:ig w (.slice none 0 0) []:=.inl ⟨rfl,rfl⟩
end
section
variable {k:Nat} {w w':World} {v:Value} {xs:List (List Value)}
end
end
namespace N
def wR (l:List Item) (cs:List Int) (i j:Nat):Prop:=∃ c,cs[j]?=some c/\iC (setAt l i) c=true
def xM (l:List Item) (cs:List Int) (i a k:Nat):Prop:=∀ j,a<=j->j<k->wR l cs i j
def full (l:List Item) (cs:List Int) (i a b:Nat):Prop:=a<=b/\xM l cs i a b/\(dn l i=0->b=a+1)/\(dn l i=2->(b-a) % 2=0)
def Ends (l:List Item) (cs:List Int):Nat->Nat->Nat->Prop
 | 0,f,a=>a=f
 | i+1,f,a=>∃ b,Ends l cs i f b/\full l cs i b a
theorem Ends.le {l:List Item} {cs:List Int}:∀ {i f a:Nat},Ends l cs i f a->f<=a
 | 0,_,_,h=>by unfold Ends at h;omega
 | i+1,f,a,h=>by obtain⟨b,h1,h2⟩:=h;exact Nat.le_trans h1.le h2.1
end N
namespace N
def wZ (l:List Item) (cs:List Int) (i a:Nat):Nat:=((cs.drop a).takeWhile λc=>iC (setAt l i) c).length
theorem uM (l:List Item) (cs:List Int) (i a b:Nat) (h:a<=b):xM l cs i a b↔b<=a+wZ l cs i a:=by
 have hw:=KZ (λc=>iC (setAt l i) c) (cs.drop a) (b-a);unfold wZ
 constructor
 ·intro ho;have:=hw.1 λx hx=>by
   obtain⟨c,h1,h2⟩:=ho (a+x) (by omega) (by omega);exact⟨c,by rw [List.getElem?_drop];exact h1,h2⟩
  omega
 ·intro hb j h1 h2;obtain⟨c,h3,h4⟩:=hw.2 (by omega) (j-a) (by omega);rw [List.getElem?_drop,show a+(j-a)=j by omega] at h3;exact⟨c,h3,h4⟩
def nexts (l:List Item) (cs:List Int) (i a:Nat):List Nat :=
 if dn l i=0 then (if wZ l cs i a=0 then [] else [a+1])
 else if dn l i=1 then (List.range (wZ l cs i a+1)).map (a+·)
 else ((List.range (wZ l cs i a+1)).filter λd=>d % 2==0).map (a+·)
theorem Ig {l:List Item} {cs:List Int} (hh:∀ i,dn l i=0\/dn l i=1\/dn l i=2) (i a b:Nat):b∈nexts l cs i a↔full l cs i a b:=by
 unfold nexts full
 rcases hh i with e | e | e
 ·rw [if_pos e]
  constructor
  ·intro h
   split at h
   ·exact absurd h List.not_mem_nil
   ·rename_i h0
    simp only [List.mem_singleton] at h;subst h;exact⟨by omega,(uM l cs i a (a+1) (by omega)).2 (by omega),λ_=>rfl,λh=>by rw [e] at h;cases h⟩
  ·rintro⟨h1,h2,h3,-⟩;have hb:=h3 e;subst hb;have:=(uM l cs i a (a+1) (by omega)).1 h2;rw [if_neg (by omega)];exact List.mem_singleton.2 rfl
 ·rw [if_neg (by rw [e];decide),if_pos e];simp only [List.mem_map,List.mem_range]
  constructor
  ·rintro⟨d,h1,rfl⟩;exact⟨by omega,(uM l cs i a (a+d) (by omega)).2 (by omega),(λh=>by rw [e] at h;cases h),λh=>by rw [e] at h;cases h⟩
  ·rintro⟨h1,h2,-⟩;have:=(uM l cs i a b h1).1 h2;exact⟨b-a,by omega,by omega⟩
 ·rw [if_neg (by rw [e];decide),if_neg (by rw [e];decide)];simp only [List.mem_map,List.mem_filter,List.mem_range,beq_iff_eq]
  constructor
  ·rintro⟨d,⟨h1,h2⟩,rfl⟩;exact⟨by omega,(uM l cs i a (a+d) (by omega)).2 (by omega),(λh=>by rw [e] at h;cases h),λ_=>by omega⟩
  ·rintro⟨h1,h2,-,h4⟩;have:=(uM l cs i a b h1).1 h2;have:=h4 e;exact⟨b-a,⟨by omega,by omega⟩,by omega⟩
end N
section
open Go.RowKit
theorem zX (c:Int) (h0:0<=c) (h1:c<256) (w:World) :
  Calls Tryz.prog 133 #[.int .u8 c] w λe w'=>e = .returned (.tuple #[.int .i64 (U.aN c), .int .u8 (U.cO c), .int .u8 (U.bZ c)])/\w=w':=by
 go_enter Tryz.func133,Tryz.ntmps133
 go_wp2
 all_goals (try simp only [beq_iff_eq,beq_eq_false_iff_ne,ne_eq] at *)
 all_goals go_ret3
 all_goals exact⟨SV (kG (by unfold U.aN;repeat' (first | omega | split))) (kG (by unfold U.cO U.aN;repeat' (first | omega | split))) (kG (by unfold U.bZ U.aN;repeat' (first | omega | split))),rfl⟩
theorem sJ {o:Option (Int×Nat)} {a b c:Value} (h:LX o = .tuple #[a,b,c]):Ending.returned (.tuple #[a,b,c]) = .returned (LX o):=by rw [h]
theorem DL (s:ByteArray) (w:World) (h:s.data.toList=[]\/∃ c t,s.data.toList=c::t/\(U.aN (U.ak c)<0\/(t.length:Int)<U.aN (U.ak c))) :
  Calls Tryz.prog 132 #[.string s] w λe w'=>e = .returned (.tuple #[.int .i64 0, .int .i64 0, .bool false])/\w=w':=by
 rcases h with h | ⟨c,t,h,hc⟩
 ·have hz:=isEmpty_nil h;clear h
  go_enter Tryz.func132,Tryz.ntmps132
  go_wp2
  go_ret3
  exact⟨rfl,rfl⟩
 ·have hz:=isEmpty_cons h;have hi:=kE Tryz.underlying9 s 0 (d:=c) (by rw [h];rfl) 0 rfl;have hc0:=U.jm c;have hc1:=U.jG c;have hsz:(s.size:Int)=t.length+1:=by rw [size_eq,h];simp
  have hc2:U.aN (U.ak c)<0\/(s.size:Int)<=U.aN (U.ak c):=by omega
  clear h hc hsz;generalize U.ak c=x at *
  rcases hc2 with hc | hc
  ·go_enter Tryz.func132,Tryz.ntmps132
   go_wp2_with (first | (go_at_call 133;refine(zX _ (by omega) (by omega) _).mono ?_;rintro e w' ⟨rfl,rfl⟩))
   all_goals go_ret3
   all_goals exact⟨rfl,rfl⟩
  ·have hge:0<=U.aN x\/U.aN x<0:=by omega
   rcases hge with hge | hge
   all_goals
    go_enter Tryz.func132,Tryz.ntmps132
    go_wp2_with (first | (go_at_call 133;refine(zX _ (by omega) (by omega) _).mono ?_;rintro e w' ⟨rfl,rfl⟩))
    all_goals go_ret3
    all_goals exact⟨rfl,rfl⟩
theorem EI (s:ByteArray) (w:World) (hs:s.size<=maxLen) :
  Calls Tryz.prog 132 #[.string s] w λe w'=>e = .returned (iY s.data.toList)/\w=w':=by
 unfold maxLen at hs
 cases hl:s.data.toList with
 | nil=>exact DL s w (.inl hl)
 | cons c t =>
 by_cases h1:U.aN (U.ak c)<0
 ·refine(DL s w (.inr ⟨c,t,hl, .inl h1⟩)).mono λe w' h=>?_
  rw [iY,U.EJ h1];exact h
 by_cases h2:(t.length:Int)<U.aN (U.ak c)
 ·refine(DL s w (.inr ⟨c,t,hl, .inr h2⟩)).mono λe w' h=>?_
  rw [iY,U.OT h2];exact h
 have hz:=isEmpty_cons hl;have hi:=kE Tryz.underlying9 s 0 (d:=c) (by rw [hl];rfl) 0 rfl;have hc0:=U.jm c;have hc1:=U.jG c;have hsz:(s.size:Int)=t.length+1:=by rw [size_eq,hl];simp
 have hrow:=zX (U.ak c) hc0 hc1
 rcases U.wQ (U.ak c) with e | e | e | e | e
 ·omega
 ·have hx:=U.KT _ e;have HD:=bx (U.Gw (t:=t) e);rw [e] at hrow;have fG:=bx hrow;have hz3:0<s.size:=by omega
  have hne:¬ (s=ByteArray.empty):=by rintro rfl;simp at hz3
  clear hrow hl hsz e h1 h2;generalize U.ak c=x at *
  go_enter Tryz.func132,Tryz.ntmps132
  go_wp2_with (first | (go_at_call 133;refine(fG.o _).mono ?_;rintro e w' ⟨rfl,rfl⟩))
  go_rounds 1
  all_goals go_ret3
  all_goals exact⟨sJ (by rw [HD.o];rfl),rfl⟩
 ·rcases t with _ | ⟨d1,t⟩
  ·simp at h2;omega
  have i1:=kE Tryz.underlying9 s 1 (d:=d1) (by rw [hl];rfl) 1 rfl;have hx:=U.Jb _ e;have HD:=bx (U.Bg (d1:=d1) (t:=t) e);rw [e] at hrow;have fG:=bx hrow;have hz3:1<s.size:=by simp at hsz;omega
  have b1:=U.jG d1;have a1:=U.jm d1;clear hrow hl hsz e h1 h2;generalize U.ak c=x at *;generalize U.ak d1=y1 at *
  go_enter Tryz.func132,Tryz.ntmps132
  go_wp2_with (first | (go_at_call 133;refine(fG.o _).mono ?_;rintro e w' ⟨rfl,rfl⟩))
  go_rounds 2
  all_goals go_ret3
  all_goals first
   | exact⟨sJ (by rw [HD.o,if_neg (by omega)];rfl),rfl⟩
   | exact⟨sJ (by rw [HD.o,if_pos (by omega)];rfl),rfl⟩
 ·rcases t with _ | ⟨d1,_ | ⟨d2,t⟩⟩
  ·simp at h2;omega
  ·simp at h2;omega
  have i1:=kE Tryz.underlying9 s 1 (d:=d1) (by rw [hl];rfl) 1 rfl;have i2:=kE Tryz.underlying9 s 2 (d:=d2) (by rw [hl];rfl) 2 rfl;have hx:=U.Ky _ e;have HD:=bx (U.Ba (d1:=d1) (d2:=d2) (t:=t) e);rw [e] at hrow;have fG:=bx hrow;have hz3:2<s.size:=by simp at hsz;omega
  have b1:=U.jG d1;have a1:=U.jm d1;have b2:=U.jG d2;have a2:=U.jm d2;clear hrow hl hsz e h1 h2;generalize U.ak c=x at *;generalize U.ak d1=y1 at *;generalize U.ak d2=y2 at *
  go_enter Tryz.func132,Tryz.ntmps132
  go_wp2_with (first | (go_at_call 133;refine(fG.o _).mono ?_;rintro e w' ⟨rfl,rfl⟩))
  go_rounds 3
  all_goals go_ret3
  all_goals first
   | exact⟨sJ (by rw [HD.o,if_neg (by omega)];rfl),rfl⟩
   | exact⟨sJ (by rw [HD.o,if_pos (by omega)];rfl),rfl⟩
 ·rcases t with _ | ⟨d1,_ | ⟨d2,_ | ⟨d3,t⟩⟩⟩
  ·simp at h2;omega
  ·simp at h2;omega
  ·simp at h2;omega
  have i1:=kE Tryz.underlying9 s 1 (d:=d1) (by rw [hl];rfl) 1 rfl;have i2:=kE Tryz.underlying9 s 2 (d:=d2) (by rw [hl];rfl) 2 rfl;have i3:=kE Tryz.underlying9 s 3 (d:=d3) (by rw [hl];rfl) 3 rfl;have hx:=U.Lc _ e;have HD:=bx (U.Ee (d1:=d1) (d2:=d2) (d3:=d3) (t:=t) e);rw [e] at hrow;have fG:=bx hrow;have hz3:3<s.size:=by simp at hsz;omega
  have b1:=U.jG d1;have a1:=U.jm d1;have b2:=U.jG d2;have a2:=U.jm d2;have b3:=U.jG d3;have a3:=U.jm d3;clear hrow hl hsz e h1 h2;generalize U.ak c=x at *;generalize U.ak d1=y1 at *;generalize U.ak d2=y2 at *;generalize U.ak d3=y3 at *
  go_enter Tryz.func132,Tryz.ntmps132
  go_wp2_with (first | (go_at_call 133;refine(fG.o _).mono ?_;rintro e w' ⟨rfl,rfl⟩))
  go_rounds 4
  all_goals go_ret3
  all_goals first
   | exact⟨sJ (by rw [HD.o,if_neg (by omega)];rfl),rfl⟩
   | exact⟨sJ (by rw [HD.o,if_pos (by omega)];rfl),rfl⟩
end
namespace M
open U
def cuts (pl:List Place):List Nat:=0::pl.map λx=>x.1+x.2.1
end M
namespace M
open U
theorem Qj (a:Nat) (pl:List Place):(cuts pl).map (·+a)=a::(pl.map (shift a)).map λx=>x.1+x.2.1:=by
 unfold cuts;rw [List.map_cons,List.map_map,List.map_map,Nat.zero_add]
 congr 1
 apply List.map_congr_left
 intro x _;show x.1+x.2.1+a=x.1+a+x.2.1
 omega
theorem Wi {s:List UInt8} (hs:s≠[]):cuts (places s)=0::(cuts (places (s.drop (unit s).1))).map (·+(unit s).1):=by
 rw [Qj]
 conv=>lhs;rw [places_cons hs]
 unfold cuts;rw [List.map_cons];simp only [Nat.zero_add]
end M
namespace M
open U
theorem Qa (s:List UInt8):∀ a,∀ x∈rest s a,fwd (rest s a) x.1=some x:=by
 refine Ci (s:=s) (λa h x hx=>?_) (λa h ih x hx=>?_)
 ·rw [rest_end s a h] at hx;exact absurd hx List.not_mem_nil
 ·have hu:=Bf h;rw [uy s a h] at hx ⊢;unfold fwd
  rcases List.mem_cons.1 hx with rfl | hx
  ·rw [List.find?_cons_of_pos];simp
  ·have:=BX s _ x hx;rw [List.find?_cons_of_neg]
   ·exact ih x hx
   ·simp;omega
theorem WA (s:List UInt8):∀ a,∀ x∈rest s a,bwd (rest s a) ((x.1+x.2.1:Nat):Int)=some x:=by
 refine Ci (s:=s) (λa h x hx=>?_) (λa h ih x hx=>?_)
 ·rw [rest_end s a h] at hx;exact absurd hx List.not_mem_nil
 ·rw [uy s a h] at hx ⊢;unfold bwd
  rcases List.mem_cons.1 hx with rfl | hx
  ·rw [List.find?_cons_of_pos];simp
  ·have:=BX s _ x hx;rw [List.find?_cons_of_neg]
   ·exact ih x hx
   ·simp;omega
theorem V6 (s:List UInt8):∀ a,∀ (i:Nat) (x:Place),(rest s a)[i]?=some x->(Kw a (rest s a))[i]?=some x.1/\(Kw a (rest s a))[i+1]?=some (x.1+x.2.1):=by
 refine Ci (s:=s) (λa h i x hx=>?_) (λa h ih i x hx=>?_)
 ·rw [rest_end s a h] at hx;cases hx
 ·rw [uy s a h] at hx ⊢
  cases i with
  | zero=>cases hx;exact⟨rfl,rfl⟩
  | succ i=>exact ih i x hx
theorem WW {s:List UInt8} {i:Nat} (h:i<(places s).length):∃ x,(places s)[i]?=some x/\(cuts (places s))[i]?=some x.1/\(cuts (places s))[i+1]?=some (x.1+x.2.1)/\fwd (places s) x.1=some x/\bwd (places s) ((x.1+x.2.1:Nat):Int)=some x/\1<=x.2.1/\x.2.1<=4/\x.1+x.2.1<=s.length/\unit (s.drop x.1)=(x.2.1,x.2.2):=by
 obtain⟨x,hx⟩:∃ x,(places s)[i]?=some x:=⟨_,List.getElem?_eq_getElem h⟩
 have hm:=List.mem_of_getElem? hx;refine⟨x,hx,?_⟩;rw [<- zC] at hx hm ⊢;have h1:=V6 s 0 i x hx;have h2:=BX s 0 x hm;exact⟨h1.1,h1.2,Qa s 0 x hm,WA s 0 x hm,h2.2.2.2.2.1,h2.2.2.2.2.2,h2.2.2.2.1,h2.2.2.1.symm⟩
theorem KG (pl:List Place):(cuts pl).length=pl.length+1:=by simp [cuts]
end M
section
open Go.RowKit Go.Shelf
attribute [local go_sem] Oper.semAt_some
theorem Jj (v:Value) (M:D.bH) (n:Int) (w:World) (hv:kQ w v M) (hM:oN M) :
  Calls Tryz.prog 192 #[v, .int .i64 n] w λe w'=>e = .returned (.bool (fO n M))/\Below w.heap.size w w':=by
 obtain⟨na,fa,rfl,hra,hia⟩:=hv;have oD:=bx hra;have uU:=bx hia;have EZ:=bx hM;obtain⟨aa,ca,rfl⟩:=hra.slice;obtain⟨fo,fc,rfl⟩:=hia.slice;obtain⟨w2,hw2⟩:∃ w2,w2=w.alloc (.cells #[.slice aa M.1.length ca, .slice fo M.2.length fc] 29):=⟨_,rfl⟩
 have HW2:=bx hw2;have hbw:Below w.heap.size w w2:=by rw [hw2];exact aO _ _
 have aJ:=bx hbw;have dB:=bx (show aj w2 w.heap.size 29 #[.slice aa M.1.length ca, .slice fo M.2.length fc] by rw [hw2];exact aj.new w _ _);have c0:w2.cell? ⟨w.heap.size,0,none⟩=some (.slice aa M.1.length ca):=(dB.o.cell 0).trans rfl;have c1:w2.cell? ⟨w.heap.size,1,none⟩=some (.slice fo M.2.length fc):=(dB.o.cell 1).trans rfl;have l0:=dB.o.lt;clear hra hia hM hbw hw2
 by_cases hg:1<=n/\n<=32/\1<=M.1.length/\M.1.length<=300/\M.2.length=M.1.length
 ·obtain⟨g1,g2,g3,g4,g5⟩:=hg;obtain⟨nn,rfl⟩:=Int.eq_ofNat_of_zero_le (show 0<=n by omega);have uw:=bx (show fO nn M=(List.range M.1.length).all (je nn M) by
   unfold fO;rw [decide_eq_true g1,decide_eq_true g2,decide_eq_true g3,decide_eq_true g4,decide_eq_true g5];rfl)
  have kH:=bx g5;rw [g5] at c1;clear g5
  go_enter Tryz.func192,Tryz.ntmps192
  go_upto_region 1 with(fail)
  rw [<- HW2.o];go_wp2_with fail;clear c0 c1 l0
  go_loopw [5] (λi wr=>∃ k:Nat,k<=M.1.length/\i = .int .i64 k/\Box ((List.range k).all (je nn M)=true)/\Box (Below w2.heap.size w2 wr)) (λi _=>M.1.length-(intOf i).toNat)
  case atStart=>exact⟨0,by omega,rfl,⟨rfl⟩,⟨Below.refl _ _⟩⟩
  case round =>
   obtain⟨k,hk,rfl,ha,hbr⟩:=hrel;have hba:=dB.o.below hbr.o dB.o.lt;have aP:=bx (bt aJ.o hbr.o);have c0:wr.cell? ⟨w.heap.size,0,none⟩=some (.slice aa M.1.length ca):=(hba.cell 0).trans rfl;have c1:wr.cell? ⟨w.heap.size,1,none⟩=some (.slice fo M.1.length fc):=(hba.cell 1).trans (by rw [<- kH.o];rfl);have l0:=hba.lt
   by_cases hlt:k<M.1.length
   ·obtain⟨x,hx⟩:∃ x,M.1[k]?=some x:=⟨_,List.getElem?_eq_getElem hlt⟩
    obtain⟨y,hy⟩:∃ y,M.2[k]?=some y:=⟨_,List.getElem?_eq_getElem (by rw [kH.o];exact hlt)⟩
    obtain⟨pa,oa,ca',ha0,ha1,ha2,qw,jk⟩:=(oD.o.below aP.o).get (by intro e;rw [e] at hlt;simp at hlt);obtain⟨rfl,rfl⟩:aa=some ⟨pa,oa,none⟩/\ca=ca':=by injection ha0 with h1 h2 h3;exact⟨h1,h3⟩
    obtain⟨pb,ob,cb',hb0,hb1,hb2,hb3,hb4⟩:=(uU.o.below aP.o).get (by intro e;rw [e] at hy;simp at hy);obtain⟨rfl,rfl⟩:fo=some ⟨pb,ob,none⟩/\fc=cb':=by injection hb0 with h1 h2 h3;exact⟨h1,h3⟩
    obtain⟨xv,hxc,hxi⟩:=jk k x hx;have O6:=hb4 k y hy;have rW:=bx (show je nn M k=(decide ((x.length:Int)=(nn:Int)+1)&&x.all (toR M.1.length)&&decide (0<=y)&&decide (y<1099511627776)) by
     unfold je;rw [show M.1.getD k []=x by rw [List.getD,hx];rfl,show M.2.getD k 0=y by rw [List.getD,hy];rfl])
    have VU:=bx hxi;obtain⟨xo,xc,rfl⟩:=hxi.slice;have jM:=bx hlt;have HAB:=bx (show pa<wr.heap.size from qw);have TI:=bx hxc;have aG:=bx hba;have hxz:=EZ.o.2.2 x (List.mem_of_getElem? hx);rw [kH.o] at hb1;unfold maxLen at ha2 hb2;have hkc:k<ca:=by omega
    have hkd:k<fc:=by omega
    clear ha0 jk hb0 hb4 hx hy hxi hba
    by_cases hl1:(x.length:Int)=(nn:Int)+1
    ·have iQ:=bx hl1;have q1:((x.length:Int)==(nn:Int)+1)=true:=by rw [beq_iff_eq];exact hl1
     have xW:=bx (show x.length=nn+1 by omega);clear hl1
     rcases Int.lt_or_le y 0 with hy0 | hy0
     ·have HF:=bx (vg jM.o (show je nn M k=false by rw [rW.o,decide_eq_false (show ¬ 0<=y by omega)];simp));go_wp2_with fail
      all_goals first | (exact absurd iQ.o (by assumption)) | (exfalso;omega) | skip
      go_ret
      exact⟨aI (by rw [HF.o]),aP.o⟩
     ·rcases Int.lt_or_le y 1099511627776 with hy1 | hy1
      ·have KN:=bx (show je nn M k=x.all (toR M.1.length) by rw [rW.o,decide_eq_true iQ.o,decide_eq_true hy0,decide_eq_true hy1];simp);go_wp2_with fail
       all_goals first | (exact absurd iQ.o (by assumption)) | (exfalso;omega) | skip
       clear hxc O6 c0 c1 l0 hy0 hy1
       go_loopw [6] (λc wi=>∃ j:Nat,j<=nn+1/\c = .int .i64 j/\Box ((x.take j).all (toR M.1.length)=true)/\Box (Below wr.heap.size wr wi)) (λc _=>nn+1-(intOf c).toNat)
       case atStart=>exact⟨0,by omega,rfl,⟨rfl⟩,⟨Below.refl _ _⟩⟩
       case round =>
        obtain⟨j,hj,rfl,haj,hbi⟩:=hrel;have hbl:=aG.o.below hbi.o aG.o.lt
        by_cases hjn:j<nn+1
        ·obtain⟨t,ht⟩:∃ t,x[j]?=some t:=⟨_,List.getElem?_eq_getElem (by rw [xW.o];exact hjn)⟩
         obtain⟨rb,roff,sN,r1,r2,r3,r4,r5⟩:=(VU.o.below hbi.o).get (by intro e;rw [e] at ht;simp at ht);obtain⟨rfl,rfl⟩:xo=some ⟨rb,roff,none⟩/\xc=sN:=by injection r1 with h1 h2 h3;exact⟨h1,h3⟩
         have htc:=r5 j t ht;have hxr:=(hbi.o.cell (p:=⟨pa,oa+k,none⟩) HAB.o).trans TI.o;have c0:=(hbl.cell 0).trans (show _=some (Value.slice (some ⟨pa,oa,none⟩) M.1.length ca) from rfl);have l0:=hbl.lt;have hjx:j<x.length:=by rw [xW.o];exact hjn
         have hjc:j<xc:=by omega
         have HT:=bx ht;have Eo:=bx (λm=>hbi.o.trans ((jW wr m).mono hbi.o.size));unfold maxLen at r3;clear r1 r5 ht hbl
         cases htr:toR M.1.length t with
         | true =>
          have jg:=bx (show (x.take (j+1)).all (toR M.1.length)=true by rw [List.take_add_one,HT.o,List.all_append,haj.o];simp [htr]);have ht0:0<=t/\t<M.1.length:=by unfold toR at htr;simpa using htr
          obtain⟨ht0,ht1⟩:=ht0;have d0:decide (t<0)=false:=decide_eq_false (by omega);have d1:decide ((M.1.length:Int)<=t)=false:=decide_eq_false (by omega);clear htr;go_wp2_with fail
          go_quiet (fail)
          go_wp2_with fail
          go_roundw
          case rel=>exact⟨j+1,hjn,by go_num,jg,⟨Eo.o _⟩⟩
          case measure=>simp [intOf];omega
         | false =>
          have zT:=bx (vg jM.o (show je nn M k=false by
           rw [KN.o,Bool.eq_false_iff];intro h;rw [List.all_eq_true] at h;rw [h t (List.mem_of_getElem? HT.o)] at htr
           cases htr))
          have fV:=bx (show ¬ (0<=t/\t<M.1.length) by unfold toR at htr;simpa using htr);clear htr
          rcases Int.lt_or_le t 0 with ht0 | ht0
          ·have d0:decide (t<0)=true:=decide_eq_true ht0;go_wp2_with fail
           go_quiet (fail)
           go_wp2_with fail;go_ret
           exact⟨aI (by rw [zT.o]),aP.o.trans ((Eo.o _).mono aP.o.size)⟩
          ·have d0:decide (t<0)=false:=decide_eq_false (by omega);have ht1:(M.1.length:Int)<=t:=by have:=fV.o;omega
           have d1:decide ((M.1.length:Int)<=t)=true:=decide_eq_true ht1;go_wp2_with fail
           go_quiet (fail)
           go_wp2_with fail;go_ret
           exact⟨aI (by rw [zT.o]),aP.o.trans ((Eo.o _).mono aP.o.size)⟩
        ·have IK:=bx (show (List.range (k+1)).all (je nn M)=true by
          have h:=haj.o;rw [List.take_of_length_le (by rw [xW.o];omega)] at h;rw [List.range_succ,List.all_append,ha.o];simp only [List.all_cons,List.all_nil,Bool.and_true,Bool.true_and];rw [KN.o,h])
         have jh:=bx (bt hbr.o hbi.o);go_wp2_with fail
         go_roundw
         case rel=>exact⟨k+1,jM.o,by go_num,IK,jh⟩
         case measure=>simp [intOf];omega
      ·have HF:=bx (vg jM.o (show je nn M k=false by rw [rW.o,decide_eq_false (show ¬ y<1099511627776 by omega)];simp));go_wp2_with fail
       all_goals first | (exact absurd iQ.o (by assumption)) | (exfalso;omega) | skip
       go_ret
       exact⟨aI (by rw [HF.o]),aP.o⟩
    ·have HF:=bx (vg jM.o (show je nn M k=false by rw [rW.o,decide_eq_false hl1];rfl));have q1:((x.length:Int)==(nn:Int)+1)=false:=beq_eq_false_iff_ne.2 hl1;have ou:=bx hl1;clear hl1;go_wp2_with fail
     all_goals first | (exact absurd (by assumption) ou.o) | skip
     go_ret
     exact⟨aI (by rw [HF.o]),aP.o⟩
   ·have HT:=bx (show fO nn M=true by rw [uw.o,show M.1.length=k by omega];exact ha.o);go_wp2_with fail;go_ret
    exact⟨aI (by rw [HT.o]),aP.o⟩
 ·have HF:=bx (show fO n M=false by
   unfold fO;rw [Bool.eq_false_iff];intro h;simp only [Bool.and_eq_true,decide_eq_true_eq] at h;exact hg ⟨h.1.1.1.1.1,h.1.1.1.1.2,h.1.1.1.2,h.1.1.2,h.1.2⟩)
  have hg':n<1\/(1<=n/\32<n)\/(1<=n/\n<=32/\M.1.length<1)\/(1<=n/\n<=32/\1<=M.1.length/\300<M.1.length)\/(1<=n/\n<=32/\1<=M.1.length/\M.1.length<=300/\((M.2.length:Int) != (M.1.length:Int))=true):=by
   simp only [bne_iff_ne,ne_eq];omega
  clear hg
  rcases hg' with g1 | ⟨g1,g2⟩ | ⟨g1,g2,g3⟩ | ⟨g1,g2,g3,g4⟩ | ⟨g1,g2,g3,g4,g5⟩
  all_goals
   go_enter Tryz.func192,Tryz.ntmps192
   go_upto_region 1 with(fail)
   rw [<- HW2.o];go_wp2_with fail
   all_goals first | (exfalso;omega) | (exfalso;simp_all;done) | skip
   go_ret
   exact⟨aI (by rw [HF.o]),aJ.o⟩
theorem Vz (v lv:Value) (M:D.bH) (n:Int) (l:List Int) (w:World) (hv:kQ w v M) (hM:oN M) (hl:aB w lv l) (hz:l.length<=16777216) :
  Calls Tryz.prog 193 #[v, .int .i64 n,lv] w (Wh n M l w):=by
 have fE:=bx (λW (h:Below w.heap.size w W)=>Jj v M n W (hv.below h) hM);have HL:=bx hl;obtain⟨na,fa,rfl,hra,-⟩:=hv;obtain⟨aa,ca,rfl⟩:=hra.slice;obtain⟨lo,lc,rfl⟩:=hl.slice;have oD:=bx hra;obtain⟨w2,hw2⟩:∃ w2,w2=w.alloc (.cells #[.slice aa M.1.length ca,fa] 29):=⟨_,rfl⟩
 have HW2:=bx hw2;have HS2:=bx (show Sep [Pc.blk w.heap.size 29 #[.slice aa M.1.length ca,fa],Pc.old w.heap.size w] w2 by rw [hw2];exact(Sep.start w).bM _ _);have hb2:Below w.heap.size w w2:=HS2.o.bel (by simp);have HB2:=bx hb2;have hba:=HS2.o.blk 0 rfl;have c0:w2.cell? ⟨w.heap.size,0,none⟩=some (.slice aa M.1.length ca):=(hba.cell 0).trans rfl;have c1:w2.cell? ⟨w.heap.size,1,none⟩=some fa:=(hba.cell 1).trans rfl;have l0:=hba.lt;clear hra hl hM hw2 hb2 hba
 cases hr:fO n M with
 | false =>
  have HR:=bx hr;have HC:=bx (show goCode n M=100 by unfold goCode;rw [hr];rfl);clear hr
  go_enter Tryz.func193,Tryz.ntmps193
  go_upto_region 1 with(fail)
  rw [<- HW2.o];go_wp2_with fail;refine(fE.o _ HB2.o).mono ?_;rintro e w3 ⟨rfl,hb3⟩;rw [HR.o];have HB3:=bx (bt HB2.o hb3);clear hb3;go_wp2_with fail;go_ret2
  refine⟨HB3.o,_,by rw [HC.o];rfl,?_⟩;rw [HR.o];exact World.ownsRow_nil _ _ _ _
 | true =>
  have HR:=bx hr;obtain⟨h1,h2,h3,h4,h5⟩:=wF hr;obtain⟨nn,rfl⟩:=Int.eq_ofNat_of_zero_le (show 0<=n by omega);have HC:=bx (show goCode nn M=0 by unfold goCode;rw [hr];rfl);have jM:=bx (λi=>Gx hr l i);have pF:=bx (λ{a:Nat} (ha:a<M.1.length)=>Dq hr ha);have lG:=bx (show (fC nn M l).take 1=[0] by unfold fC;rw [List.range_succ_eq_map];rfl);clear hr h5
  go_enter Tryz.func193,Tryz.ntmps193
  go_upto_region 1 with(fail)
  rw [<- HW2.o];go_wp2_with fail;refine(fE.o _ HB2.o).mono ?_;rintro e w3 ⟨rfl,hb3⟩;rw [HR.o];have aC:=bx (show Sep [Pc.row w.heap.size 3 1 (.slice (some ⟨w3.heap.size,0,none⟩) 1 1) (0+1) (((fC nn M l).take (0+1)).map eu),Pc.blk w.heap.size 29 #[.slice aa M.1.length ca,fa],Pc.old w.heap.size w] (w3.alloc (.cells #[.int .i64 0] 3)) by
   rw [lG.o];exact(HS2.o.below hb3).lit (base:=w.heap.size) (e:=3) (cs:=#[.int .i64 0]) (n:=1) (Nat.le_trans HB2.o.size hb3.size) rfl (by omega))
  clear hb3 c0 c1 l0;go_wp2_with fail
  go_loopw [8,9,10] (λo at' i wr=>∃ k:Nat,k<=l.length/\i = .int .i64 k/\at' = .int .i64 (stM nn M l k)/\Box (Sep [Pc.row w.heap.size 3 1 o (k+1) (((fC nn M l).take (k+1)).map eu),Pc.blk w.heap.size 29 #[.slice aa M.1.length ca,fa],Pc.old w.heap.size w] wr)) (λ_ _ i _=>l.length-(intOf i).toNat)
  case atStart=>exact⟨0,by omega,rfl,rfl,aC⟩
  case round =>
   obtain⟨k,hk,rfl,rfl,hsep⟩:=hrel;have aP:=bx (show Below w.heap.size w wr from hsep.o.bel (by simp))
   by_cases hlt:k<l.length
   ·obtain⟨c,hc⟩:∃ c,l[k]?=some c:=⟨_,List.getElem?_eq_getElem hlt⟩
    obtain⟨lb,iE,kV,k1,k2,k3,k4,k5⟩:=(HL.o.below aP.o).get (by rintro rfl;simp at hlt);obtain⟨rfl,rfl⟩:lo=some ⟨lb,iE,none⟩/\lc=kV:=by injection k1 with h1 h2 h3;exact⟨h1,h3⟩
    have hlc:=k5 k c hc;have hat:=jM.o k;have O7:=bx (jM.o (k+1));obtain⟨r,hr1,hr2,hr3,-⟩:=pF.o hat
    obtain⟨x,hx1,hx2,hx3⟩:=hr3 (jU nn c) (Dj nn c);have HST:=bx (show stM nn M l (k+1)=x.toNat by
     rw [WB hc];unfold stepM;rw [show M.1.getD (stM nn M l k) []=r by rw [List.getD,hr1];rfl,show r.getD (jU nn c) 0=x by rw [List.getD,hx1];rfl])
    have dF:=bx (VH (n:=nn) (M:=M) hlt);have hcl:=Dj nn c;obtain⟨pa,oa,ca',ha0,ha1,ha2,qw,jk⟩:=(oD.o.below aP.o).get (by intro e;rw [e] at hr1;simp at hr1);obtain⟨rfl,rfl⟩:aa=some ⟨pa,oa,none⟩/\ca=ca':=by injection ha0 with h1 h2 h3;exact⟨h1,h3⟩
    obtain⟨xv,hxc,hxi⟩:=jk _ r hr1;obtain⟨rb,roff,sN,r1,r2,r3,r4,r5⟩:=hxi.get (by rintro rfl;simp at hr2);rw [hr2] at r1 r2;subst r1;have hxx:=r5 _ x hx1;have hba:=hsep.o.blk 1 rfl;obtain⟨oo,oc,rfl,ho1,ho2⟩:=iU (hsep.o.row 0 rfl);have c0:wr.cell? ⟨w.heap.size,0,none⟩=some (.slice (some ⟨pa,oa,none⟩) M.1.length ca):=(hba.cell 0).trans rfl;have l0:=hba.lt;have hbs:w.heap.size<=wr.heap.size:=aP.o.size;have HX:=bx (show (Value.int .i64 x)=eu (stM nn M l (k+1)) by unfold eu;rw [HST.o];exact kG (by omega));unfold maxLen at k3 ha2 r3;have hcA:c<0\/(nn:Int)<=c->jU nn c=nn:=λh=>by unfold jU;rw [if_neg (by omega)]
    have hcB:0<=c->c<nn->c=(jU nn c:Int):=λh h'=>by unfold jU;rw [if_pos ⟨h,h'⟩];omega
    generalize hso:stM nn M l k=so at *;generalize hco:jU nn c=co at *;have hs1:so<ca:=by omega
    have hc1:co<nn+1:=by omega
    have hc2:co<sN:=by omega
    clear k1 k5 ha0 jk hxi r5 hba hr1 hr3 hx1 hc hso hco
    rcases Int.lt_or_le c 0 with hc0 | hc0
    ·obtain rfl:=(hcA (.inl hc0)).symm;clear hcA hcB;go_wp2_with (at_builtin;refine ji rfl _ _ 22 rfl iT hsep.o 0 rfl rfl rfl rfl (by omega) (by omega) hbs ?_;rintro v' w4 hS4 -)
     rw [HX.o] at hS4;have aY:=bx (show Sep [Pc.row w.heap.size 3 1 v' (k+1+1) (((fC nn M l).take (k+1+1)).map eu),Pc.blk w.heap.size 29 #[.slice (some ⟨pa,oa,none⟩) M.1.length ca,fa],Pc.old w.heap.size w] w4 by
      rw [dF.o,List.map_append];exact hS4)
     clear hS4;go_wp2_with fail
     go_roundw
     case rel=>exact⟨k+1,hlt,by go_num,HX.o,aY⟩
     case measure=>simp [intOf];omega
    ·rcases Int.lt_or_le c nn with hcn | hcn
     ·have hce:=hcB hc0 hcn;clear hcA hcB;subst hce;go_wp2_with (at_builtin;refine ji rfl _ _ 22 rfl iT hsep.o 0 rfl rfl rfl rfl (by omega) (by omega) hbs ?_;rintro v' w4 hS4 -)
      rw [HX.o] at hS4;have aY:=bx (show Sep [Pc.row w.heap.size 3 1 v' (k+1+1) (((fC nn M l).take (k+1+1)).map eu),Pc.blk w.heap.size 29 #[.slice (some ⟨pa,oa,none⟩) M.1.length ca,fa],Pc.old w.heap.size w] w4 by
       rw [dF.o,List.map_append];exact hS4)
      clear hS4;go_wp2_with fail
      go_roundw
      case rel=>exact⟨k+1,hlt,by go_num,HX.o,aY⟩
      case measure=>simp [intOf];omega
     ·obtain rfl:=(hcA (.inr hcn)).symm;clear hcA hcB;go_wp2_with (at_builtin;refine ji rfl _ _ 22 rfl iT hsep.o 0 rfl rfl rfl rfl (by omega) (by omega) hbs ?_;rintro v' w4 hS4 -)
      rw [HX.o] at hS4;have aY:=bx (show Sep [Pc.row w.heap.size 3 1 v' (k+1+1) (((fC nn M l).take (k+1+1)).map eu),Pc.blk w.heap.size 29 #[.slice (some ⟨pa,oa,none⟩) M.1.length ca,fa],Pc.old w.heap.size w] w4 by
       rw [dF.o,List.map_append];exact hS4)
      clear hS4;go_wp2_with fail
      go_roundw
      case rel=>exact⟨k+1,hlt,by go_num,HX.o,aY⟩
      case measure=>simp [intOf];omega
   ·obtain rfl:k=l.length:=by omega
    have uQ:=bx (show (fC nn M l).take (l.length+1)=fC nn M l by rw [<- JV nn M l,List.take_length]);go_wp2_with fail;go_ret2
    refine⟨aP.o,_,by rw [HC.o];rfl,?_⟩;have:=hsep.o.row 0 rfl;rw [uQ.o] at this;rw [HR.o];exact this
theorem RZ (v lv:Value) (M:D.bH) (n:Int) (l:List Int) (w:World) (hv:kQ w v M) (hM:oN M) (hl:aB w lv l) (hz:l.length<=16777216) :
  Calls Tryz.prog 154 #[v, .int .i64 n,lv] w (WI n M l w):=by
 have pK:=bx hv;obtain⟨na,fa,rfl,hra,hia⟩:=hv;have uU:=bx hia;obtain⟨aa,ca,rfl⟩:=hra.slice;obtain⟨fo,fc,rfl⟩:=hia.slice;obtain⟨w2,hw2⟩:∃ w2,w2=w.alloc (.cells #[.slice aa M.1.length ca, .slice fo M.2.length fc] 29):=⟨_,rfl⟩
 have HW2:=bx hw2;have HS2:=bx (show Sep [Pc.blk w.heap.size 29 #[.slice aa M.1.length ca, .slice fo M.2.length fc],Pc.old w.heap.size w] w2 by rw [hw2];exact(Sep.start w).bM _ _);have hb2:Below w.heap.size w w2:=HS2.o.bel (by simp);have HB2:=bx hb2;have jC:=bx (Vz _ lv M n l w2 (pK.o.below hb2) hM (hl.below hb2) hz);have hba:=HS2.o.blk 0 rfl;have c0:w2.cell? ⟨w.heap.size,0,none⟩=some (.slice aa M.1.length ca):=(hba.cell 0).trans rfl;have c1:w2.cell? ⟨w.heap.size,1,none⟩=some (.slice fo M.2.length fc):=(hba.cell 1).trans rfl;have l0:=hba.lt;clear hra hia hl hM hw2 hb2 hba
 cases hr:fO n M with
 | false =>
  have HR:=bx hr;have HC:=bx (show goCode n M=100 by unfold goCode;rw [hr];rfl);clear hr
  go_enter Tryz.func154,Tryz.ntmps154
  go_upto_region 1 with(fail)
  rw [<- HW2.o];go_wp2_with fail;refine jC.o.mono ?_;rintro e w3 ⟨hb3,rv,rfl,hown⟩;rw [HC.o];rw [HR.o] at hown;obtain⟨go,gc,rfl,-,-⟩:=iU hown;have HB3:=bx (bt HB2.o hb3);clear hb3 hown;simp only [Bool.false_eq_true,if_false];go_wp2_with fail
  go_loopw [10,11] (λo i wr=>o = .slice none 0 0/\i = .int .i64 0/\Box (Below w.heap.size w wr)) (λ_ _ _=>0)
  case atStart=>exact⟨rfl,rfl,HB3⟩
  case round =>
   obtain⟨rfl,rfl,hbr⟩:=hrel;go_wp2_with fail;go_ret2
   refine⟨hbr.o,_,by rw [HC.o];rfl,?_⟩;rw [HR.o];exact aB.nil
 | true =>
  have HR:=bx hr;obtain⟨h1,h2,h3,h4,h5⟩:=wF hr;obtain⟨nn,rfl⟩:=Int.eq_ofNat_of_zero_le (show 0<=n by omega);have HC:=bx (show goCode nn M=0 by unfold goCode;rw [hr];rfl);have jM:=bx (λi=>Gx hr l i);have pF:=bx (λ{a:Nat} (ha:a<M.1.length)=>Dq hr ha);have kH:=bx h5;obtain⟨G,hG⟩:∃ G,fC nn M l=G:=⟨_,rfl⟩
  have pU:=bx (show G.length=l.length+1 by rw [<- hG,JV]);have xB:=bx (show ∀ i,i<l.length+1->∃ a,G[i]?=some a/\a<M.1.length from λi hi=>⟨_,by rw [<- hG];exact Vw (by omega),jM.o i⟩);have Mc:=bx hG;clear hr h5 hG
  go_enter Tryz.func154,Tryz.ntmps154
  go_upto_region 1 with(fail)
  rw [<- HW2.o];go_wp2_with fail;refine jC.o.mono ?_;rintro e w3 ⟨hb3,rv,rfl,hown⟩;rw [HC.o];rw [HR.o,if_pos rfl,if_pos rfl,Int.toNat_natCast,Mc.o] at hown;have HGI:=bx (Ey hown pU.o.symm);obtain⟨go,gc,rfl,-,-⟩:=iU hown;have aC:=bx (show Sep [Pc.row w.heap.size 2 1 (.slice none 0 0) 0 (((G.take 0).map (mG M)).map (Value.int .i64)),Pc.row w.heap.size 3 1 (.slice go (l.length+1) gc) (l.length+1) (G.map eu),Pc.blk w.heap.size 29 #[.slice aa M.1.length ca, .slice fo M.2.length fc],Pc.old w.heap.size w] w3 from
   (HS2.o.got hb3 hown HB2.o.size).iW _ _ _)
  clear hb3 c0 c1 l0 hown;go_wp2_with fail
  go_loopw [10,11] (λo i wr=>∃ k:Nat,k<=l.length+1/\i = .int .i64 k/\Box (Sep [Pc.row w.heap.size 2 1 o k (((G.take k).map (mG M)).map (Value.int .i64)),Pc.row w.heap.size 3 1 (.slice go (l.length+1) gc) (l.length+1) (G.map eu),Pc.blk w.heap.size 29 #[.slice aa M.1.length ca, .slice fo M.2.length fc],Pc.old w.heap.size w] wr)) (λ_ i _=>l.length+1-(intOf i).toNat)
  case atStart=>exact⟨0,by omega,rfl,aC⟩
  case round =>
   obtain⟨k,hk,rfl,hsep⟩:=hrel;have aP:=bx (show Below w.heap.size w wr from hsep.o.bel (by simp))
   by_cases hlt:k<l.length+1
   ·obtain⟨a,ha,hal⟩:=xB.o k hlt;obtain⟨lb,iE,kV,k1,k2,k3,k4,k5⟩:=(Ey (hsep.o.row 1 rfl) pU.o.symm).get (by intro e;have:=congrArg List.length e;rw [vU,pU.o] at this;simp at this);rw [vU,pU.o] at k1 k2;obtain⟨rfl,rfl⟩:go=some ⟨lb,iE,none⟩/\gc=kV:=by injection k1 with h1 h2 h3;exact⟨h1,h3⟩
    have hac:=k5 k _ (Og ha);obtain⟨-,-,-,-,f,hf,-⟩:=pF.o hal;obtain⟨pb,ob,cb',hb0,hb1,hb2,hb3,hb4⟩:=(uU.o.below aP.o).get (by intro e;rw [e] at hf;simp at hf);obtain⟨rfl,rfl⟩:fo=some ⟨pb,ob,none⟩/\fc=cb':=by injection hb0 with h1 h2 h3;exact⟨h1,h3⟩
    have hfc:=hb4 a f hf;have dF:=bx (show ((G.take (k+1)).map (mG M)).map (Value.int .i64)=((G.take k).map (mG M)).map (Value.int .i64)++[Value.int .i64 f] by
     rw [take_snoc' _ _ _ ha,List.map_append,List.map_append];simp only [List.map_cons,List.map_nil];unfold mG;rw [show M.2.getD a 0=f by rw [List.getD,hf];rfl])
    have hba:=hsep.o.blk 2 rfl;have l0:=hba.lt;have lC:=bx (show ∀ W,Below wr.heap.size wr W->W.cell? ⟨w.heap.size,1,none⟩=some (.slice (some ⟨pb,ob,none⟩) M.2.length fc)/\W.cell? ⟨lb,iE+k,none⟩=some (.int .i64 (a:Int))/\W.cell? ⟨pb,ob+a,none⟩=some (.int .i64 f) from λW h =>
     ⟨((hba.below h hba.lt).cell 1).trans rfl,(h.cell (p:=⟨lb,iE+k,none⟩) k4).trans hac,(h.cell (p:=⟨pb,ob+a,none⟩) hb3).trans hfc⟩)
    have aF:=bx (show Below wr.heap.size wr wr.drew from⟨rfl,rfl,rfl,Nat.le_refl _,λ_ _=>rfl⟩);have dY:=bx hsep.o.drew;have hbs:w.heap.size<=wr.drew.heap.size:=aP.o.size;have hal2:a<M.2.length:=by rw [kH.o];exact hal
    have hkk:k<=1000000000:=by omega
    unfold maxLen at k3 hb2;have hkc:k<gc:=by omega
    have agM:a<fc:=by omega
    obtain⟨oo,oc,rfl,ho1,ho2⟩:=iU (hsep.o.row 0 rfl);clear k1 k5 hb0 hb4 ha hf hba hal hac hfc hsep;go_wp2_with fail;refine fP 10 (λW=>W.cell? ⟨w.heap.size,1,none⟩=some (.slice (some ⟨pb,ob,none⟩) M.2.length fc)/\W.cell? ⟨lb,iE+k,none⟩=some (.int .i64 (a:Int))/\W.cell? ⟨pb,ob+a,none⟩=some (.int .i64 f)) (by kernel_rfl) ?_;have aA:=bx (lC.o _ aF.o);have tX:=bx (λo=>lC.o _ (aF.o.alloc aF.o.size o));generalize wr.drew=WR at *;refine kS 0 ?_ rfl aA.o ?_ ?_;rotate_left
    ·rintro w ⟨q1,q2,q3⟩;go_simp;try with_reducible rfl
    refine kS 1 ?_ rfl aA.o ?_ ?_;rotate_left
    ·rintro w ⟨q1,q2,q3⟩;go_simp;try with_reducible rfl
    refine kS 2 ?_ rfl aA.o ?_ ?_;rotate_left
    ·rintro w ⟨q1,q2,q3⟩;go_simp;try with_reducible rfl
    refine kS 3 ?_ rfl aA.o ?_ ?_;rotate_left
    ·rintro w ⟨q1,q2,q3⟩;go_simp;try with_reducible rfl
    refine kS 4 ?_ rfl aA.o ?_ ?_;rotate_left
    ·rintro w ⟨q1,q2,q3⟩;go_simp;try with_reducible rfl
    refine kS 5 ?_ rfl aA.o ?_ ?_;rotate_left
    ·rintro w ⟨q1,q2,q3⟩;go_simp;try with_reducible rfl
    refine kS 6 ?_ rfl aA.o ?_ ?_;rotate_left
    ·rintro w ⟨q1,q2,q3⟩;go_simp;try with_reducible rfl
    refine kS 7 ?_ rfl aA.o ?_ ?_;rotate_left
    ·rintro w ⟨q1,q2,q3⟩;go_simp;try with_reducible rfl
    refine kS 8 ?_ rfl aA.o ?_ ?_;rotate_left
    ·rintro w ⟨q1,q2,q3⟩;go_simp;try with_reducible rfl
    refine kP 9 rfl λKK ah=>?_
    go_simp;refine ah.out _ _ (λ_=>tX.o _) ?_;clear ah KK;refine kP 10 rfl λKK ah=>?_
    refine uF rfl _ _ 27 rfl Le dY.o 0 rfl (by kernel_rfl) (by kernel_rfl) rfl hkk (by omega) hbs ?_;rintro v' w4 hS4 -;refine ah.out _ _ (λh=>by cases h) ?_;clear ah KK;refine kP 11 rfl λKK ah=>?_
    go_simp;refine ah.out _ _ (λh=>by cases h) ?_;clear ah KK;refine kD ?_ _;rw [<- dF.o] at hS4;have aY:=bx hS4;clear hS4;go_wp2_with fail
    go_roundw
    case rel=>exact⟨k+1,hlt,by go_num,aY⟩
    case measure=>simp [intOf];omega
   ·obtain rfl:k=l.length+1:=by omega
    have uQ:=bx (show G.take (l.length+1)=G by rw [<- pU.o,List.take_length]);go_wp2_with fail;go_ret2
    refine⟨aP.o,_,by rw [HC.o];rfl,?_⟩;have:=QF (hsep.o.row 0 rfl) (by rw [List.length_map,uQ.o,pU.o]);rw [uQ.o] at this;rw [HR.o,if_pos rfl];unfold wM;rw [Int.toNat_natCast,Mc.o];exact this
def oh (l:List UInt8):Value:=.tuple #[.int .i64 ((M.unit l).1:Int), .bool (M.unit l).2]
end
section
open Go.RowKit
theorem xw {l:List UInt8} {n:Nat} (h:U.dec l=none) (hn:M.lQ l=n):oh l = .tuple #[.int .i64 n, .bool false]:=by
 unfold oh;rw [M.LH h,hn]
theorem Sv {l:List UInt8} {r:Int} {n:Nat} (h:U.dec l=some (r,n)):oh l = .tuple #[.int .i64 n, .bool true]:=by
 unfold oh M.unit;rw [h]
theorem Qz {l:List UInt8} (h:U.dec l=none):iY l = .tuple #[.int .i64 0, .int .i64 0, .bool false]:=by unfold iY;rw [h];rfl
theorem RP {l:List UInt8} {r:Int} {n:Nat} (h:U.dec l=some (r,n)):iY l = .tuple #[.int .i64 r, .int .i64 n, .bool true]:=by unfold iY;rw [h];rfl
theorem Ti {c d:UInt8} (h:¬ (U.cO (U.ak c)<=U.ak d/\U.ak d<=U.bZ (U.ak c))) (p:Bool):(p&&M.rng c d)=false:=by
 have:=M.G7 c d
 cases hr:M.rng c d with
 | false=>simp
 | true=>exact absurd (this.1 hr) h
theorem Rk {c d:UInt8} (h:U.cO (U.ak c)<=U.ak d/\U.ak d<=U.bZ (U.ak c)) (hk:2<=U.aN (U.ak c)):(decide (2<=U.aN (U.ak c))&&M.rng c d)=true:=by
 rw [(M.G7 c d).2 h,decide_eq_true hk];rfl
theorem Wl {e:UInt8} (h:¬ (128<=U.ak e/\U.ak e<=191)) (p:Bool):(p&&U.gW e)=false:=by
 cases hr:U.gW e with
 | false=>simp
 | true=>exact absurd (U.tail_range hr) h
theorem Uc {e:UInt8} (h:128<=U.ak e/\U.ak e<=191):U.gW e=true:=(U.lU e).2 h
theorem Lm (s:ByteArray) (w:World) (hs:s.size<=16777216) :
  Calls Tryz.prog 81 #[.string s] w λe w'=>e = .returned (oh s.data.toList)/\w=w':=by
 have HD:=bx (EI s w (Nat.le_trans hs (by decide)))
 cases hl:s.data.toList with
 | nil =>
  have hz:=isEmpty_nil hl;have HV:=bx (show oh [] = .tuple #[.int .i64 0, .bool false] from rfl);clear hl HD
  go_enter Tryz.func81,Tryz.ntmps81
  go_wp2_with fail;go_ret2
  exact⟨by rw [HV.o];rfl,rfl⟩
 | cons c t =>
  have hz:=isEmpty_cons hl;rw [hl] at HD;have i0:=kE Tryz.underlying9 s 0 (d:=c) (by rw [hl];rfl) 0 rfl;have hc0:=U.jm c;have hc1:=U.jG c;have fG:=bx (zX (U.ak c) hc0 hc1);have hsz:(s.size:Int)=t.length+1:=by rw [size_eq,hl];simp
  cases hd:U.dec (c::t) with
  | some rn =>
   obtain⟨r,n⟩:=rn;have kR:=bx (RP hd);have HV:=bx (Sv hd);clear hl hd i0 fG
   go_enter Tryz.func81,Tryz.ntmps81
   go_wp2_with fail;refine HD.o.mono ?_;rintro e w1 ⟨rfl,rfl⟩;rw [kR.o];go_wp2_with fail;go_ret2
   exact⟨by rw [HV.o];rfl,rfl⟩
  | none =>
   have kR:=bx (Qz hd)
   rcases t with _ | ⟨d,t⟩
   ·have HV:=bx (xw (n:=1) hd rfl);have hsz1:s.size=1:=by simp at hsz;omega
    clear hl hd hsz;generalize U.ak c=x at *;generalize U.aN x=k at *;generalize U.cO x=lo at *;generalize U.bZ x=hi at *
    go_enter Tryz.func81,Tryz.ntmps81
    go_wp2_with fail;refine HD.o.mono ?_;rintro e w1 ⟨rfl,rfl⟩;rw [kR.o];go_wp2_with fail;refine(fG.o _).mono ?_;rintro e w1 ⟨rfl,rfl⟩;go_wp2_with fail
    all_goals go_ret2
    all_goals exact⟨by rw [HV.o];rfl,rfl⟩
   ·have i1:=kE Tryz.underlying9 s 1 (d:=d) (by rw [hl];rfl) 1 rfl;have hd0:=U.jm d;have hd1:=U.jG d;have hz2:2<=s.size:=by simp at hsz;omega
    by_cases hk:1<=U.aN (U.ak c)/\U.cO (U.ak c)<=U.ak d/\U.ak d<=U.bZ (U.ak c)
    ·have hlo:=U.Ec (U.ak c) (by omega);have hhi:=U.D8 (U.ak c) (by omega);have hk2:2<=U.aN (U.ak c):=by
      rcases U.wQ (U.ak c) with e | e | e | e | e
      ·omega
      ·omega
      ·rw [U.Bg e,if_pos (by omega)] at hd;cases hd
      ·omega
      ·omega
     have hr:=Rk hk.2 hk2
     rcases t with _ | ⟨e,t⟩
     ·have HV:=bx (xw (n:=2) hd (M.Pz hr));have hsz1:s.size=2:=by simp at hsz;omega
      clear hl hd hsz hr hlo hhi;generalize U.ak c=x at *;generalize U.ak d=y at *;generalize U.aN x=k at *;generalize U.cO x=lo at *;generalize U.bZ x=hi at *;obtain⟨hk,hk3,hk4⟩:=hk
      go_enter Tryz.func81,Tryz.ntmps81
      go_wp2_with fail;refine HD.o.mono ?_;rintro e w1 ⟨rfl,rfl⟩;rw [kR.o];go_wp2_with fail;refine(fG.o _).mono ?_;rintro e w1 ⟨rfl,rfl⟩;go_wp2_with fail
      go_rounds 1
      all_goals go_ret2
      all_goals exact⟨by rw [HV.o];rfl,rfl⟩
     ·have i2:=kE Tryz.underlying9 s 2 (d:=e) (by rw [hl];rfl) 2 rfl;have he0:=U.jm e;have he1:=U.jG e;have hz3:3<=s.size:=by simp at hsz;omega
      by_cases ht:128<=U.ak e/\U.ak e<=191
      ·have hk3:U.aN (U.ak c)=3:=by
        rcases U.wQ (U.ak c) with e' | e' | e' | e' | e'
        ·omega
        ·omega
        ·omega
        ·rw [U.Ba e',if_pos (by omega)] at hd;cases hd
        ·exact e'
       have hb:=M.WC t hr (by rw [decide_eq_true hk3,Uc ht];rfl);have HV:=bx (xw (n:=3) hd hb)
       rcases t with _ | ⟨g,t⟩
       ·have hsz1:s.size=3:=by simp at hsz;omega
        clear hl hd hsz hr hlo hhi hb;generalize U.ak c=x at *;generalize U.ak d=y at *;generalize U.ak e=z at *;rw [hk3] at fG;generalize U.aN x=k at *;generalize U.cO x=lo at *;generalize U.bZ x=hi at *;obtain⟨hk,hk5,hk4⟩:=hk;obtain⟨ht1,ht2⟩:=ht
        go_enter Tryz.func81,Tryz.ntmps81
        go_wp2_with fail;refine HD.o.mono ?_;rintro e w1 ⟨rfl,rfl⟩;rw [kR.o];go_wp2_with fail;refine(fG.o _).mono ?_;rintro e w1 ⟨rfl,rfl⟩;go_wp2_with fail
        go_rounds 2
        all_goals go_ret2
        all_goals exact⟨by rw [HV.o];rfl,rfl⟩
       ·have i3:=kE Tryz.underlying9 s 3 (d:=g) (by rw [hl];rfl) 3 rfl;have hg0:=U.jm g;have hg1:=U.jG g;have hz4:4<=s.size:=by simp at hsz;omega
        have IY:¬ (128<=U.ak g/\U.ak g<=191):=λh=>by
         rw [U.Ee hk3,if_pos (by omega)] at hd;cases hd
        clear hl hd hsz hr hlo hhi hb;generalize U.ak c=x at *;generalize U.ak d=y at *;generalize U.ak e=z at *;generalize U.ak g=v at *;rw [hk3] at fG;generalize U.aN x=k at *;generalize U.cO x=lo at *;generalize U.bZ x=hi at *;obtain⟨hk,hk5,hk4⟩:=hk;obtain⟨ht1,ht2⟩:=ht
        rcases (show v<128\/(128<=v/\191<v) by omega) with hv | ⟨hv,hv2⟩
        ·clear IY
         go_enter Tryz.func81,Tryz.ntmps81
         go_wp2_with fail;refine HD.o.mono ?_;rintro e w1 ⟨rfl,rfl⟩;rw [kR.o];go_wp2_with fail;refine(fG.o _).mono ?_;rintro e w1 ⟨rfl,rfl⟩;go_wp2_with fail
         go_rounds 2
         all_goals go_ret2
         all_goals exact⟨by rw [HV.o];rfl,rfl⟩
        ·clear IY
         go_enter Tryz.func81,Tryz.ntmps81
         go_wp2_with fail;refine HD.o.mono ?_;rintro e w1 ⟨rfl,rfl⟩;rw [kR.o];go_wp2_with fail;refine(fG.o _).mono ?_;rintro e w1 ⟨rfl,rfl⟩;go_wp2_with fail
         go_rounds 2
         all_goals go_ret2
         all_goals exact⟨by rw [HV.o];rfl,rfl⟩
      ·have HV:=bx (xw (n:=2) hd (M.QU t hr (Wl ht _)));clear hl hd hsz hr hlo hhi;generalize U.ak c=x at *;generalize U.ak d=y at *;generalize U.ak e=z at *;generalize U.aN x=k at *;generalize U.cO x=lo at *;generalize U.bZ x=hi at *;obtain⟨hk,hk3,hk4⟩:=hk
       rcases (show z<128\/(128<=z/\191<z) by omega) with hv | ⟨hv,hv2⟩
       ·clear ht
        go_enter Tryz.func81,Tryz.ntmps81
        go_wp2_with fail;refine HD.o.mono ?_;rintro e w1 ⟨rfl,rfl⟩;rw [kR.o];go_wp2_with fail;refine(fG.o _).mono ?_;rintro e w1 ⟨rfl,rfl⟩;go_wp2_with fail
        go_rounds 1
        all_goals go_ret2
        all_goals exact⟨by rw [HV.o];rfl,rfl⟩
       ·clear ht
        go_enter Tryz.func81,Tryz.ntmps81
        go_wp2_with fail;refine HD.o.mono ?_;rintro e w1 ⟨rfl,rfl⟩;rw [kR.o];go_wp2_with fail;refine(fG.o _).mono ?_;rintro e w1 ⟨rfl,rfl⟩;go_wp2_with fail
        go_rounds 1
        all_goals go_ret2
        all_goals exact⟨by rw [HV.o];rfl,rfl⟩
    ·have HV:=bx (xw (n:=1) hd (by
      by_cases hk1:1<=U.aN (U.ak c)
      ·exact M.KY _ (Ti (λh=>hk ⟨hk1,h⟩) _)
      ·exact M.KY _ (by rw [decide_eq_false (by omega)];rfl)))
     clear hl hd hsz;generalize U.ak c=x at *;generalize U.ak d=y at *;generalize U.aN x=k at *;generalize U.cO x=lo at *;generalize U.bZ x=hi at *
     rcases (show k<1\/(1<=k/\y<lo)\/(1<=k/\lo<=y/\hi<y) by omega) with hq | ⟨hq1,hq2⟩ | ⟨hq1,hq2,hq3⟩
     ·clear hk
      go_enter Tryz.func81,Tryz.ntmps81
      go_wp2_with fail;refine HD.o.mono ?_;rintro e w1 ⟨rfl,rfl⟩;rw [kR.o];go_wp2_with fail;refine(fG.o _).mono ?_;rintro e w1 ⟨rfl,rfl⟩;go_wp2_with fail
      all_goals go_ret2
      all_goals exact⟨by rw [HV.o];rfl,rfl⟩
     ·clear hk
      go_enter Tryz.func81,Tryz.ntmps81
      go_wp2_with fail;refine HD.o.mono ?_;rintro e w1 ⟨rfl,rfl⟩;rw [kR.o];go_wp2_with fail;refine(fG.o _).mono ?_;rintro e w1 ⟨rfl,rfl⟩;go_wp2_with fail
      all_goals go_ret2
      all_goals exact⟨by rw [HV.o];rfl,rfl⟩
     ·clear hk
      go_enter Tryz.func81,Tryz.ntmps81
      go_wp2_with fail;refine HD.o.mono ?_;rintro e w1 ⟨rfl,rfl⟩;rw [kR.o];go_wp2_with fail;refine(fG.o _).mono ?_;rintro e w1 ⟨rfl,rfl⟩;go_wp2_with fail
      all_goals go_ret2
      all_goals exact⟨by rw [HV.o];rfl,rfl⟩
end
section
open Go.RowKit Go.Shelf
attribute [local go_sem] Oper.semAt_some
def lT (l:List UInt8):List Int:=(M.cuts (M.places l)).map λn:Nat=>(n:Int)
def xO (pl:List M.Place):List Value:=(M.cuts pl).map λn:Nat=>Value.int .i64 (n:Int)
theorem Rl (pre:List M.Place) (x:M.Place):xO (pre++[x])=xO pre++[.int .i64 ((x.1:Int)+(x.2.1:Int))]:=by
 unfold xO M.cuts;simp
end
section
open Go.RowKit
theorem L8 (s:ByteArray) (a:Nat):(s.extract a s.size).data.toList=s.data.toList.drop a:=by
 rw [Lib.extract_data,List.take_of_length_le (by rw [List.length_drop,<- size_eq];omega)]
theorem LY {P:Program} {T:TypeId} (hT:P.underlying T=some .string) (s:ByteArray) (lo:Int) (h:0<=lo/\lo<=s.size) :
  ∀ W,(Instr.slice T (.string s) (some (.int .i64 lo)) none none).run P W = .ok (.string (s.extract lo.toNat s.size)) W:=by
 intro W;rw [run_slice_string_from_if W _ _ _ _ hT,if_pos (by omega)]
theorem Iu (s:ByteArray) (w:World) (hs:s.size<=100000) :
  Calls Tryz.prog 80 #[.string s] w λe w'=>(∃ v,e = .returned v/\aB w' v (lT s.data.toList))/\Below w.heap.size w w':=by
 have aU:=bx (size_eq s);obtain⟨i0,hi,hz0,hz1,hz2⟩:=info_parts KD
 go_enter Tryz.func80,Tryz.ntmps80
 go_wp2_with fail
 go_loopw [3,4] (λo i wr=>∃ (a:Nat) (pre:List M.Place),a<=s.size/\i = .int .i64 a/\Box (pre++M.rest s.data.toList a=M.places s.data.toList)/\Box (wr.ownsRow w.heap.size 3 1 o (pre.length+1) (xO pre))/\Box (Below w.heap.size w wr))
  (λ_ i _=>s.size-(intOf i).toNat)
 case atStart =>
  refine⟨0,[],by omega,rfl,⟨by rw [M.zC];rfl⟩,⟨?_⟩,⟨Lu _ _⟩⟩;exact World.ownsRow_lit (base:=w.heap.size) (e:=3) (size:=1) w #[.int .i64 0] 1 (Nat.le_refl _) (by unfold maxLen;omega) rfl
 case round =>
  obtain⟨a,pre,ha,rfl,hp,ho,hb⟩:=hrel
  by_cases hlt:a<s.size
  ·have hlt':a<s.data.toList.length:=by rw [<- aU.o];exact hlt
   obtain⟨m,ok,hu⟩:∃ m ok,M.unit (s.data.toList.drop a)=(m,ok):=⟨_,_,rfl⟩
   have oU:=M.Bf hlt';have hrc:=M.uy s.data.toList a hlt';rw [hu] at oU hrc;simp only at oU hrc;obtain⟨X,hX⟩:∃ X,s.extract a s.size=X:=⟨_,rfl⟩
   have nN:=L8 s a;rw [hX] at nN;have vw:X.size<=16777216:=by rw [size_eq,nN,List.length_drop,<- aU.o];omega
   have HU:=bx (show oh X.data.toList = .tuple #[.int .i64 m, .bool ok] by rw [nN];unfold oh;rw [hu]);have HP:=bx (show pre++(a,m,ok)::M.rest s.data.toList (a+m)=M.places s.data.toList by rw [<- hrc];exact hp.o);have hpl:pre.length<s.size:=by
    have h1:=congrArg List.length HP.o;have h2:=sS s.data.toList;simp only [List.length_append,List.length_cons] at h1;rw [<- aU.o] at h2;omega
   have ham:a+m<=s.size:=by rw [aU.o];exact oU.2.2
   have hm1:=oU.1;have hm4:=oU.2.1;have hsl:=LY (P:=Tryz.prog) (T:=9) Tryz.underlying9 s a ⟨by omega,by omega⟩;rw [Int.toNat_natCast,hX] at hsl;have jS:=bx (Lm X wr vw);have jJ:=bx (Rl pre (a,m,ok));clear hlt' hu oU hrc hX nN vw hp;obtain⟨og,oc,rfl⟩:=ownsRow_succ ho.o;go_wp2_with fail;refine jS.o.mono ?_;rintro e w3 ⟨rfl,rfl⟩;rw [HU.o];go_wp2_with (at_builtin;refine wpList_append_own _ rfl _ _ 22 rfl w.heap.size 3 i0 (.int .i64 0) 1 8 Tryz.underlying22 hi hz0 hz1 hz2 rfl (by decide) _ _ _ rfl (ho.o.alloc _) ⟨wr.heap.size,0,none⟩ 1 1 [.int .i64 ((a:Int)+(m:Int))] rfl rfl (cell_one_new _ _ _) (by simp [Value.oneCell']) (by unfold maxLen;omega) (by omega) (by have:=hb.o.size;simp;omega) ?_;intro v' w4 hown' hgrow _;obtain⟨g',cap',rfl⟩:=ownsRow_succ hown')
   have HOW:=bx (show w4.ownsRow w.heap.size 3 1 (.slice (some ⟨g',0,none⟩) (pre.length+1+1) cap') ((pre++[(a,m,ok)]).length+1) (xO (pre++[(a,m,ok)])) by rw [jJ.o,List.length_append];exact hown');have HB4:=bx (show Below w.heap.size w w4 from(hb.o.alloc hb.o.size _).grown hgrow (by have:=hb.o.size;simp;omega) (λq hq=>(ho.o.lt q hq).1));clear hown' hgrow;go_wp2_with fail
   go_roundw
   case rel=>exact⟨a+m,pre++[(a,m,ok)],ham,by go_num,⟨by rw [List.append_assoc];exact HP.o⟩,HOW,HB4⟩
   case measure=>simp [intOf];omega
  ·have wP:=bx (show pre=M.places s.data.toList by
    have:=hp.o;rw [M.rest_end _ _ (by rw [<- aU.o];omega),List.append_nil] at this;exact this)
   obtain⟨og,oc,rfl⟩:=ownsRow_succ ho.o;go_wp2_with fail;go_ret
   refine⟨⟨_,rfl,?_⟩,hb.o⟩;have:=ho.o;rw [wP.o] at this;refine aB.gK (n:=(M.places s.data.toList).length+1) (T:=3) (base:=w.heap.size) ?_ (by unfold lT;rw [List.length_map,M.KG]);unfold lT;rw [List.map_map];have h2:pre.length=(M.places s.data.toList).length:=by rw [wP.o]
   rw [<- h2];rw [<- h2] at this;exact this
section
variable {P:Program} {md:Region.Mode} {ops:Array Oper} {Q:Exit->Act->World->Prop} {k:Nat} {F:World->Prop}
theorem anb {i:Nat} {oi:Oper} {v:Value} (hi:ops[i]?=some oi) (hsel:∀ (j:Nat) (o:Oper) cs b,ops[j]?=some o->o.op≠.select cs b)
  (hQ:∀ c a w,Q (.panic c) (a.put oi.dst v) w->Q (.panic c) a w) (hF:∀ w,F w) :
  ∀ (fuel:Nat) (listed:Array Bool) (a:Act) (w:World),
   (∀ j oj,ops[j]?=some oj->j≠i->listed.getD j true=false->(∀ e∈oj.after,Region.binds md e=true->e.on≠i)->oi.apart ops oj=true) ->
   i∈Region.ready md ops listed->YieldsIf P ops F oi v a ->
   jV P md ops Q k F fuel (listed.setIfInBounds i true) (a.put oi.dst v) w->jV P md ops Q k F (fuel+1) listed a w:=by
 intro fuel
 induction fuel with
 | zero =>
  intro listed a w _ hr hy H;refine⟨λh=>(by rw [h] at hr;cases hr),λj hj=>?_⟩
  by_cases hji:j=i
  ·subst hji;exact YieldsIf.wpOp hi hy (hF w) ⟨λ_=>hF w,H⟩
  ·have:=ready_mono hj hji;rw [H.1] at this
   cases this
 | succ fuel ih =>
  intro listed a w hfree hr hy H;refine⟨λh=>(by rw [h] at hr;cases hr),λj hj=>?_⟩
  by_cases hji:j=i
  ·subst hji;exact YieldsIf.wpOp hi hy (hF w) ⟨λ_=>hF w,H⟩
  ·have h1:=H.2 j (ready_mono hj hji);obtain⟨hjun,oj,hoj,hall⟩:=mem_ready.1 hj;have hnot:∀ e∈oj.after,Region.binds md e=true->e.on≠i:=λe he hb heq=>by
    have h1:=hall e he hb;have h0:=(mem_ready.1 hr).1;rw [heq] at h1
    rcases Nat.lt_or_ge i listed.size with h' | h'
    ·simp [h'] at h0 h1;rw [h0] at h1;cases h1
    ·simp [Array.getElem?_eq_none h'] at h1
   have h2:=wpOp_putIf hoj (hfree j oj hoj hji hjun hnot) (λcs b=>hsel i oi cs b hi) (λcs b=>hsel j oj cs b hoj) hQ hy h1;have hfree':∀ k ok,ops[k]?=some ok->k≠i->(listed.setIfInBounds j true).getD k true=false ->
     (∀ e∈ok.after,Region.binds md e=true->e.on≠i)->oi.apart ops ok=true:=λk ok hk hki hun hno=>by
    refine hfree k ok hk hki ?_ hno
    by_cases hjk:j=k
    ·subst hjk;exact hjun
    ·rw [getD_set_ne true hjk] at hun;exact hun
   refine wpOp_mono (λa' w' h3=>?_) h2;refine⟨λ_=>hF _,ih (listed.setIfInBounds j true) a' w' hfree' (ready_mono hr (Ne.symm hji)) h3.1 ?_⟩;rw [Array.setIfInBounds_comm _ _ hji];exact h3.2.2
theorem kU (i:Nat) {oi:Oper} (v:Value) {Q:Exit->Act->World->Prop} {fuel:Nat} {listed:Array Bool} {a:Act} {w:World} (hi:ops[i]?=some oi)
  (hy:∀ w,(execOp a.eval oi).run P w = .ok (.value v) w) (h:jV P md ops (NoPanic Q) k (λ_=>True) fuel (listed.setIfInBounds i true) (a.put oi.dst v) w)
  (hs:(Region.noSelect ops&&Region.free md ops listed i&&(Region.ready md ops listed).contains i)=true:=by kernel_rfl)
  (hw:Region.wanted oi (yielded ops a.tmps)=true:=by kernel_rfl):jV P md ops (NoPanic Q) k (λ_=>True) (fuel+1) listed a w:=by
 simp only [Bool.and_eq_true] at hs;obtain⟨⟨h1,h2⟩,h3⟩:=hs;exact anb hi (Region.noSelect_spec h1) (λ_ _ _ h=>h) (λ_=>trivial) fuel listed a w (Region.free_spec hi h2) (by simpa using h3) (Or.inl ⟨hw,λw _=>hy w⟩) h
theorem aa4:∀ (fuel:Nat) (listed:Array Bool) (a:Act) (w:World),listed.getD k true=true->jV P md ops Q k (λ_=>True) fuel listed a w->jV P md ops Q k F fuel listed a w
 | 0,_,_,_,_,h=>h
 | fuel+1,listed,a,w,hl,h=>⟨h.1,λi hi=>wpOp_mono (λa' w' h'=>by
   have hl':(listed.setIfInBounds i true).getD k true=true:=by
    by_cases e:i=k
    ·subst e;rw [Array.getD_eq_getD_getElem?,Array.getElem?_setIfInBounds];simp
     split <;> rfl
    ·rw [getD_set_ne true e];exact hl
   exact⟨λh9=>(by rw [hl'] at h9;cases h9),aa4 fuel _ a' w' hl' h'.2⟩) (h.2 i hi)⟩
theorem kW {fuel:Nat} {listed:Array Bool} {a:Act} {w:World} (h:jV P md ops Q k (λ_=>True) fuel listed a w) (hl:listed.getD k true=true:=by kernel_rfl):jV P md ops Q k F fuel listed a w:=aa4 fuel listed a w hl h
theorem kN {fuel:Nat} {listed:Array Bool} (l:Array Bool) {a:Act} {w:World} (h:jV P md ops Q k F fuel l a w) (hl:listed=l:=by kernel_rfl):jV P md ops Q k F fuel listed a w:=hl▸h
end
end
end Go.Proofs.YtdenoeakcflnmaaGreatDoor
