/- Texts of this claim. -/
import Derived.Laws.Strings3
import Derived.Laws.ResultCell
import Derived.Test.YtdenoeakcflnmaaGreatDoorH4

set_option maxHeartbeats 4000000
namespace Go.Proofs.YtdenoeakcflnmaaGreatDoor
section
open Go.RowKit
def bs (l:List UInt8):ByteArray:=⟨l.toArray⟩
theorem qP (l:List UInt8):(bs l).data.toList=l:=rfl
theorem eU (l:List UInt8):(bs l).size=l.length:=by unfold bs;simp [ByteArray.size]
theorem aat (s:ByteArray):s=bs s.data.toList:=by cases s with | mk d=>cases d;rfl
theorem PO (l:List UInt8) (a b:Nat):(bs l).extract a b=bs ((l.take b).drop a):=by
 rw [aat ((bs l).extract a b)]
 congr 1
 rw [ByteArray.data_extract,Array.toList_extract,qP,List.extract_eq_take_drop,List.take_drop]
 by_cases h:a<=b
 ·rw [show a+(b-a)=b by omega]
 ·rw [show a+(b-a)=a by omega,List.drop_eq_nil_of_le (by rw [List.length_take];omega),List.drop_eq_nil_of_le (by rw [List.length_take];omega)]
def ig (w:World) (v:Value) (xs:List Value):Prop :=
 (v = .slice none 0 0/\xs=[])\/∃ b off sp cap,v = .slice (some ⟨b,off,sp⟩) xs.length cap/\xs.length<=cap/\cap<=maxLen/\(xs≠[]->sp=none/\b<w.heap.size/\∀ i x,xs[i]?=some x->w.cell? ⟨b,off+i,none⟩=some x)
section
variable {w w':World} {v:Value} {xs:List Value}
theorem ig.below (h:ig w v xs) (hb:Below w.heap.size w w'):ig w' v xs:=by
 rcases h with h | ⟨b,off,sp,cap,h1,h2,h3,h4⟩
 ·exact .inl h
 ·exact .inr ⟨b,off,sp,cap,h1,h2,h3,λhn=>⟨(h4 hn).1,Nat.lt_of_lt_of_le (h4 hn).2.1 hb.size,λi x hx=>(hb.cell (p:=⟨b,off+i,none⟩) (h4 hn).2.1).trans ((h4 hn).2.2 i x hx)⟩⟩
theorem ig.get (h:ig w v xs) (hn:xs≠[]) :
  ∃ b off cap,v = .slice (some ⟨b,off,none⟩) xs.length cap/\xs.length<=cap/\cap<=maxLen/\b<w.heap.size/\∀ i x,xs[i]?=some x->w.cell? ⟨b,off+i,none⟩=some x:=by
 rcases h with⟨_,h⟩ | ⟨b,off,sp,cap,h1,h2,h3,h4⟩
 ·exact absurd h hn
 ·obtain⟨rfl,h5,h6⟩:=h4 hn;exact⟨b,off,cap,h1,h2,h3,h5,h6⟩
theorem ig.slice (h:ig w v xs):∃ a cap,v = .slice a xs.length cap/\xs.length<=cap/\cap<=9223372036854775807:=by
 rcases h with⟨rfl,rfl⟩ | ⟨b,off,sp,cap,rfl,h1,h2,_⟩
 ·exact⟨_,_,rfl,Nat.le_refl _,by omega⟩
 ·exact⟨_,_,rfl,h1,by unfold maxLen at h2;omega⟩
theorem ig.gK {base n:Nat} {T:TypeId} (h:w.ownsRow base T 1 v n xs) (hn:n=xs.length):ig w v xs:=by
 subst hn;have hl:=h.lt
 rcases h.2 with⟨h1,h2⟩ | ⟨g,cap,cur,rfl,h2,h3,h4,h5,h6,h7⟩
 ·exact .inl ⟨h1,List.eq_nil_of_length_eq_zero h2⟩
 ·refine .inr ⟨g,0,none,cap,rfl,h4,h5,λ_=>⟨rfl,(hl g rfl).2,λi x hx=>?_⟩⟩;have:=h.cells (g:=g) rfl i x hx;rw [show (⟨g,0+i,none⟩:Addr)=(⟨g,0,none⟩:Addr).add i by unfold Addr.add;by_cases h0:i=0 <;> simp [h0]];exact this
theorem ig.Uu {g:Nat} {T:TypeId} (h:aj w g T xs.toArray) (hz:xs.length<=1000000):ig w (.slice (some ⟨g,0,none⟩) xs.length xs.length) xs:=by
 refine .inr ⟨g,0,none,xs.length,rfl,Nat.le_refl _,by unfold maxLen;omega,λ_=>⟨rfl,h.lt,λi x hx=>?_⟩⟩;rw [Nat.zero_add];exact(h.cell i).trans (by rw [List.getElem?_toArray];exact hx)
theorem ig.take {a:Option Addr} {cap:Nat} (h:ig w (.slice a xs.length cap) xs) (n cap':Nat) (hc:(xs.take n).length<=cap') (hc':cap'<=cap):ig w (.slice a (xs.take n).length cap') (xs.take n):=by
 rcases h with⟨h1,rfl⟩ | ⟨b,off,sp,cap2,h1,h2,h3,h4⟩
 ·injection h1 with h1 h2 h3;subst h1 h3;obtain rfl:cap'=0:=by omega
  simp [ig]
 ·injection h1 with h1 h2' h3';subst h1 h3';refine .inr ⟨b,off,sp,cap',rfl,hc,Nat.le_trans hc' h3,λhn=>?_⟩;have hn':xs≠[]:=by rintro rfl;simp at hn
  refine⟨(h4 hn').1,(h4 hn').2.1,λi x hx=>(h4 hn').2.2 i x ?_⟩;rw [List.getElem?_take] at hx
  split at hx
  ·exact hx
  ·cases hx
theorem ig.drop {b off:Nat} {cap:Nat} (h:ig w (.slice (some ⟨b,off,none⟩) xs.length cap) xs) (n:Nat) (hn:n<=xs.length):ig w (.slice (some ⟨b,off+n,none⟩) (xs.length-n) (cap-n)) (xs.drop n):=by
 rcases h with⟨h1,rfl⟩ | ⟨b',off',sp,cap2,h1,h2,h3,h4⟩
 ·cases h1
 ·injection h1 with h1 h2' h3';subst h3';injection h1 with h1;injection h1 with h5 h6 h7;subst h5 h6 h7;refine .inr ⟨b,off+n,none,cap-n,by rw [List.length_drop],by rw [List.length_drop];omega,by omega,λhne=>?_⟩;have hne':xs≠[]:=by rintro rfl;simp at hne
  refine⟨rfl,(h4 hne').2.1,λi x hx=>?_⟩;rw [Nat.add_assoc];exact(h4 hne').2.2 (n+i) x (by rw [List.getElem?_drop] at hx;exact hx)
end
def jK (l:List UInt8):Value:=.string (bs l)
def dI (w:World) (v:Value) (xs:List (List UInt8)):Prop:=ig w v (xs.map jK)
theorem dI.below {w w':World} {v:Value} {xs:List (List UInt8)} (h:dI w v xs) (hb:Below w.heap.size w w'):dI w' v xs:=ig.below h hb
theorem dI.get {w:World} {v:Value} {xs:List (List UInt8)} (h:dI w v xs) (hn:xs≠[]) :
  ∃ b off cap,v = .slice (some ⟨b,off,none⟩) xs.length cap/\xs.length<=cap/\cap<=maxLen/\b<w.heap.size/\∀ i x,xs[i]?=some x->w.cell? ⟨b,off+i,none⟩=some (.string (bs x)):=by
 obtain⟨b,off,cap,h1,h2,h3,h4,h5⟩:=ig.get h (by simpa using hn);rw [List.length_map] at h1 h2;exact⟨b,off,cap,h1,h2,h3,h4,λi x hx=>h5 i (.string (bs x)) (by rw [List.getElem?_map,hx];rfl)⟩
theorem dI.slice {w:World} {v:Value} {xs:List (List UInt8)} (h:dI w v xs):∃ a cap,v = .slice a xs.length cap/\xs.length<=cap/\cap<=9223372036854775807:=by
 have:=ig.slice h
 rwa [List.length_map] at this
theorem dI.gK {w:World} {base n:Nat} {T:TypeId} {v:Value} {xs:List (List UInt8)} (h:w.ownsRow base T 1 v n (xs.map jK)) (hn:n=xs.length):dI w v xs:=ig.gK h (by rw [List.length_map];exact hn)
def rF (k:Nat) (w:World) (v:Value) (xs:List (List Value)):Prop :=
 (v = .slice none 0 0/\xs=[])\/∃ b off sp cap,v = .slice (some ⟨b,off,sp⟩) xs.length cap/\xs.length<=cap/\cap<=maxLen/\(xs≠[]->sp=none/\b<w.heap.size/\∀ i c,xs[i]?=some c->∀ j u,c[j]?=some u->w.cell? ⟨b,off+i*k+j,none⟩=some u)
section
variable {k:Nat} {w w':World} {v:Value} {xs:List (List Value)}
theorem rF.below (h:rF k w v xs) (hb:Below w.heap.size w w'):rF k w' v xs:=by
 rcases h with h | ⟨b,off,sp,cap,h1,h2,h3,h4⟩
 ·exact .inl h
 ·exact .inr ⟨b,off,sp,cap,h1,h2,h3,λhn=>⟨(h4 hn).1,Nat.lt_of_lt_of_le (h4 hn).2.1 hb.size,λi c hc j u hu=>(hb.cell (p:=⟨b,off+i*k+j,none⟩) (h4 hn).2.1).trans ((h4 hn).2.2 i c hc j u hu)⟩⟩
theorem rF.get (h:rF k w v xs) (hn:xs≠[]) :
  ∃ b off cap,v = .slice (some ⟨b,off,none⟩) xs.length cap/\xs.length<=cap/\cap<=maxLen/\b<w.heap.size/\∀ i c,xs[i]?=some c->∀ j u,c[j]?=some u->w.cell? ⟨b,off+i*k+j,none⟩=some u:=by
 rcases h with⟨_,h⟩ | ⟨b,off,sp,cap,h1,h2,h3,h4⟩
 ·exact absurd h hn
 ·obtain⟨rfl,h5,h6⟩:=h4 hn;exact⟨b,off,cap,h1,h2,h3,h5,h6⟩
theorem rF.slice (h:rF k w v xs):∃ a cap,v = .slice a xs.length cap/\xs.length<=cap/\cap<=9223372036854775807:=by
 rcases h with⟨rfl,rfl⟩ | ⟨b,off,sp,cap,rfl,h1,h2,_⟩
 ·exact⟨_,_,rfl,Nat.le_refl _,by omega⟩
 ·exact⟨_,_,rfl,h1,by unfold maxLen at h2;omega⟩
theorem aaM:∀ {xs:List (List Value)},(∀ c∈xs,c.length=k)->∀ {i:Nat} {c:List Value},xs[i]?=some c->∀ {j:Nat} {u:Value},c[j]?=some u->xs.flatten[i*k+j]?=some u
 | [],_,i,c,h,_,_,_=>by simp at h
 | x::t,hk,0,c,h,j,u,hu=>by
  simp only [List.getElem?_cons_zero,Option.some.injEq] at h;subst h;rw [List.flatten_cons,Nat.zero_mul,Nat.zero_add,List.getElem?_append_left (List.getElem?_eq_some_iff.1 hu).1];exact hu
 | x::t,hk,i+1,c,h,j,u,hu=>by
  rw [List.getElem?_cons_succ] at h;have hx:=hk x (List.mem_cons_self ..);rw [List.flatten_cons,Nat.add_mul,Nat.one_mul,List.getElem?_append_right (by rw [hx];omega),hx,show i*k+k+j-k=i*k+j by omega];exact aaM (λc hc=>hk c (List.mem_cons_of_mem _ hc)) h hu
theorem rF.gK {base n:Nat} {T:TypeId} (h:w.ownsRow base T k v n xs.flatten) (hn:n=xs.length) (hk:∀ c∈xs,c.length=k):rF k w v xs:=by
 subst hn;have hl:=h.lt
 rcases h.2 with⟨h1,h2⟩ | ⟨g,cap,cur,rfl,h2,h3,h4,h5,h6,h7⟩
 ·exact .inl ⟨h1,List.eq_nil_of_length_eq_zero h2⟩
 ·refine .inr ⟨g,0,none,cap,rfl,h4,h5,λ_=>⟨rfl,(hl g rfl).2,λi c hc j u hu=>?_⟩⟩;have:=h.cells (g:=g) rfl (i*k+j) u (aaM hk hc hu);rw [show (⟨g,0+i*k+j,none⟩:Addr)=(⟨g,0,none⟩:Addr).add (i*k+j) by unfold Addr.add;rw [Nat.zero_add];by_cases h0:i*k+j=0;rw [if_pos h0,h0];rw [if_neg h0];simp];exact this
end
theorem yR (l:List UInt8):(bs l).toList=l:=by rw [ByteArray.toList_eq];rfl
section
variable {P:Program} {T:TypeId}
theorem yC (hT:P.underlying T=some .string) {l:List UInt8} (k:Nat) {d:UInt8} (hd:l[k]?=some d) (i:Int) (hi:i=k):∀ w,(Instr.index T (.string (bs l)) (.int .i64 i)).run P w = .ok (.int .u8 (U.ak d)) w :=
 kE hT (bs l) k hd i hi
theorem FK (hT:P.underlying T=some .string) (l:List UInt8) (a b:Nat) (i j:Int) (hi:i=a) (hj:j=b) (h:a<=b/\b<=l.length):∀ W,(Instr.slice T (.string (bs l)) (some (.int .i64 i)) (some (.int .i64 j)) none).run P W = .ok (.string (bs ((l.take b).drop a))) W:=by
 intro W;subst hi hj;rw [Oy hT _ _ _ ⟨by omega,by omega,by rw [eU];omega⟩,Int.toNat_natCast,Int.toNat_natCast,PO]
theorem Md (hT:P.underlying T=some .string) (l:List UInt8) (a:Nat) (i:Int) (hi:i=a) (h:a<=l.length):∀ W,(Instr.slice T (.string (bs l)) (some (.int .i64 i)) none none).run P W = .ok (.string (bs (l.drop a))) W:=by
 intro W;subst hi;rw [run_slice_string_from_if W _ _ _ _ hT,if_pos (by rw [eU];omega),Int.toNat_natCast,PO,eU,List.take_of_length_le (Nat.le_refl _)]
theorem DN (hT:P.underlying T=some .string) (l:List UInt8) (b:Nat) (j:Int) (hj:j=b) (h:b<=l.length):∀ W,(Instr.slice T (.string (bs l)) none (some (.int .i64 j)) none).run P W = .ok (.string (bs (l.take b))) W:=by
 intro W;subst hj;rw [run_slice_string_to_if W _ _ _ _ hT,if_pos (by rw [eU];omega),Int.toNat_natCast,PO,List.drop_zero]
end
theorem Je:(bs []).toList.isEmpty=true:=by rw [yR];rfl
theorem Ap {l:List UInt8} (h:l≠[]):(bs l).toList.isEmpty=false:=by
 rw [yR]
 cases l with
 | nil=>exact absurd rfl h
 | cons _ _=>rfl
theorem IB (c d:UInt8):(U.ak c==U.ak d)=(c==d):=by
 rw [Bool.eq_iff_iff,beq_iff_eq,beq_iff_eq];exact⟨U.Tt,λh=>by rw [h]⟩
end
namespace F
open Go.Proofs.YtdenoeakcflnmaaGreatDoor
def split (c:UInt8):List UInt8->List (List UInt8)
 | []=>[[]]
 | x::t=>if x=c then []::split c t else match split c t with
  | []=>[[x]]
  | h::r=>(x::h)::r
theorem Yi (c:UInt8):∀ l,split c l≠[]
 | []=>by simp [split]
 | x::t=>by
  unfold split
  split
  ·simp
  ·split <;> simp
theorem aav {c:UInt8}:∀ {m:List UInt8},(∀ x∈m,x≠c)->split c m=[m]
 | [],_=>rfl
 | x::t,h=>by
  unfold split;rw [if_neg (h x (List.mem_cons_self ..)),aav (λy hy=>h y (List.mem_cons_of_mem _ hy))]
theorem ZJ {c:UInt8}:∀ {m:List UInt8} (t:List UInt8),(∀ x∈m,x≠c)->split c (m++c::t)=m::split c t
 | [],t,_=>by
  show (if c=c then []::split c t else match split c t with
   | []=>[[c]]
   | h::r=>(c::h)::r)=_
  rw [if_pos rfl]
 | x::m,t,h=>by
  show (if x=c then []::split c (m++c::t) else match split c (m++c::t) with
   | []=>[[x]]
   | h::r=>(x::h)::r)=_
  rw [if_neg (h x (List.mem_cons_self ..)),ZJ t (λy hy=>h y (List.mem_cons_of_mem _ hy))]
def rM (c:UInt8) (l:List UInt8) (out:List (List UInt8)) (f k:Nat):Prop :=
 f<=k/\((k<=l.length/\split c l=out++split c (l.drop f)/\∀ j x,f<=j->j<k->l[j]?=some x->x≠c)\/(k=l.length+1/\split c l=out))
theorem rM.start (c:UInt8) (l:List UInt8):rM c l [] 0 0:=⟨Nat.le_refl _, .inl ⟨Nat.zero_le _,rfl,λj x _ h=>by omega⟩⟩
theorem abH {l:List UInt8} {f k:Nat} {x:UInt8} (h:x∈(l.take k).drop f):∃ j,f<=j/\j<k/\l[j]?=some x:=by
 obtain⟨i,hi,e⟩:=List.getElem_of_mem h;have h2:((l.take k).drop f)[i]?=some x:=by rw [List.getElem?_eq_getElem hi,e]
 rw [List.getElem?_drop,List.getElem?_take] at h2
 split at h2
 ·exact⟨f+i,by omega,by omega,h2⟩
 ·cases h2
theorem ZB {l:List UInt8} {f k:Nat} (hf:f<=k) (hk:k<=l.length):l.drop f=(l.take k).drop f++l.drop k:=by
 conv=>lhs;rw [<- List.take_append_drop k l]
 rw [List.drop_append_of_le_length (by rw [List.length_take];omega)]
theorem rM.cut {c:UInt8} {l:List UInt8} {out:List (List UInt8)} {f k:Nat} (h:rM c l out f k) (hk:k<l.length) (hc:l[k]?=some c):rM c l (out++[(l.take k).drop f]) (k+1) (k+1):=by
 obtain⟨hf,⟨h1,h2,h3⟩ | ⟨h1,-⟩⟩:=h
 ·refine⟨Nat.le_refl _, .inl ⟨hk,?_,λj x a b=>by omega⟩⟩;have hd:l.drop k=c::l.drop (k+1):=by
   rw [List.drop_eq_getElem_cons hk];rw [List.getElem?_eq_getElem hk] at hc;rw [Option.some.inj hc]
  rw [h2,ZB hf h1,hd,ZJ _ (λx hx=>by obtain⟨j,a,b,e⟩:=abH hx;exact h3 j x a b e),List.append_assoc]
  rfl
 ·omega
theorem rM.stay {c d:UInt8} {l:List UInt8} {out:List (List UInt8)} {f k:Nat} (h:rM c l out f k) (hk:k<l.length) (hd:l[k]?=some d) (hc:d≠c):rM c l out f (k+1):=by
 obtain⟨hf,⟨h1,h2,h3⟩ | ⟨h1,-⟩⟩:=h
 ·refine⟨by omega, .inl ⟨hk,h2,λj x a b e=>?_⟩⟩
  rcases Nat.lt_or_ge j k with h4 | h4
  ·exact h3 j x a h4 e
  ·obtain rfl:j=k:=by omega
   rw [hd] at e
   cases e;exact hc
 ·omega
theorem rM.last {c:UInt8} {l:List UInt8} {out:List (List UInt8)} {f:Nat} (h:rM c l out f l.length):rM c l (out++[(l.take l.length).drop f]) (l.length+1) (l.length+1):=by
 obtain⟨hf,⟨h1,h2,h3⟩ | ⟨h1,-⟩⟩:=h
 ·refine⟨Nat.le_refl _, .inr ⟨rfl,?_⟩⟩;rw [h2,ZB hf h1,List.drop_length,List.append_nil,aav (λx hx=>by obtain⟨j,a,b,e⟩:=abH hx;exact h3 j x a b e)]
 ·omega
theorem rM.done {c:UInt8} {l:List UInt8} {out:List (List UInt8)} {f:Nat} (h:rM c l out f (l.length+1)):split c l=out:=by
 obtain⟨hf,⟨h1,-⟩ | ⟨-,h2⟩⟩:=h
 ·omega
 ·exact h2
theorem Vh (c:UInt8):∀ l,(split c l).length<=l.length+1
 | []=>by simp [split]
 | x::t=>by
  have ih:=Vh c t;unfold split
  split
  ·simp;omega
  ·split
   ·simp
   ·rename_i h r e
    rw [e] at ih;simp at ih ⊢;omega
theorem O1 (c:UInt8):∀ l,∀ p∈split c l,p.length<=l.length
 | [],p,hp=>by simp [split] at hp;subst hp;simp
 | x::t,p,hp=>by
  have ih:=O1 c t;unfold split at hp
  split at hp
  ·rcases List.mem_cons.1 hp with h | h
   ·subst h;simp
   ·have:=ih p h;simp;omega
  ·split at hp
   ·simp at hp;subst hp;simp
   ·rename_i h r e
    rw [e] at ih
    rcases List.mem_cons.1 hp with h' | h'
    ·subst h';have:=ih h (List.mem_cons_self ..);simp;omega
    ·have:=ih p (List.mem_cons_of_mem _ h');simp;omega
def blank (c:UInt8):Bool:=c==32||c==9||c==13
def xE:List UInt8->List UInt8
 | []=>[]
 | x::t=>if blank x=true then xE t else x::t
def sH:Nat->List UInt8->List UInt8
 | 0,l=>l
 | n+1,l=>match l.getLast? with
  | none=>l
  | some x=>if blank x=true then sH n l.dropLast else l
def trim (l:List UInt8):List UInt8:=sH (xE l).length (xE l)
theorem Yl:∀ l,(xE l).length<=l.length
 | []=>Nat.le_refl _
 | x::t=>by
  unfold xE
  split
  ·have:=Yl t;simp;omega
  ·exact Nat.le_refl _
theorem YF:∀ n l,(sH n l).length<=l.length
 | 0,l=>Nat.le_refl _
 | n+1,l=>by
  unfold sH
  split
  ·exact Nat.le_refl _
  ·split
   ·have:=YF n l.dropLast;rw [List.length_dropLast] at this;omega
   ·exact Nat.le_refl _
theorem Jk (l:List UInt8):(trim l).length<=l.length:=Nat.le_trans (YF _ _) (Yl l)
def digit (c:UInt8):Int :=
 let x:Int:=U.ak c
 if 48<=x/\x<=57 then x-48 else if 97<=x/\x<=102 then x-97+10 else if 65<=x/\x<=70 then x-65+10 else -1
theorem ak8 (c:UInt8):-1<=digit c/\digit c<=15:=by
 unfold digit;simp only
 split
 ·omega
 ·split
  ·omega
  ·split <;> omega
def xQ:Int->List UInt8->Option Int
 | n,[]=>some n
 | n,x::t=>if digit x<0 then none else xQ (16*n+digit x) t
def code (l:List UInt8):Option Int:=if 4<=l.length/\l.length<=6 then xQ 0 l else none
end F
section
open Go.RowKit
attribute [local go_sem] Oper.semAt_some
theorem Gu:Pushes Tryz.prog 48 9 16:=.mk' (z:=.string ⟨#[]⟩) Tryz.underlying48 (by kernel_rfl) rfl
theorem abe (l:List UInt8) (c:UInt8) (w:World) (hz:l.length<=100000) :
  Calls Tryz.prog 113 #[.string (bs l), .int .u8 (U.ak c)] w λe w'=>(∃ v,e = .returned v/\w'.ownsRow w.heap.size 9 1 v (F.split c l).length ((F.split c l).map jK))/\Below w.heap.size w w':=by
 have aU:=bx (eU l);obtain⟨S,hS⟩:∃ S,(bs l).size=S:=⟨_,rfl⟩
 have HSL:=bx (show S=l.length by rw [<- hS];exact eU l);have hSz:S<=100000:=by rw [HSL.o];exact hz
 have aQ:=bx ((Sep.start w).iW w.heap.size 1 9)
 go_enter Tryz.func113,Tryz.ntmps113
 go_wp2_with fail
 go_loopw [7,6,5] (λi fr o wr=>∃ (k f:Nat) (out:List (List UInt8)) (oo:Option Addr) (oc:Nat),i = .int .i64 k/\fr = .int .i64 f/\o = .slice oo out.length oc/\f<=k/\k<=S+1/\out.length<=k/\Box (F.rM c l out f k)/\Box (Sep [Pc.row w.heap.size 9 1 (.slice oo out.length oc) out.length (out.map jK),Pc.old w.heap.size w] wr)) (λi _ _ _=>S+1-(intOf i).toNat)
 case atStart=>exact⟨0,0,[],none,0,rfl,rfl,rfl,Nat.le_refl _,by omega,Nat.le_refl _,⟨F.rM.start c l⟩,aQ⟩
 case round =>
  obtain⟨k,f,out,oo,oc,rfl,rfl,rfl,hfk,hk,hol,hsp,hse⟩:=hrel;have aP:=bx (hse.o.bel (n:=w.heap.size) (W0:=w) (by simp));have hbs:=aP.o.size;clear aQ
  rcases Nat.lt_trichotomy k S with h | h | h
  ·obtain⟨d,hd⟩:∃ d,l[k]?=some d:=⟨_,List.getElem?_eq_getElem (by have:=HSL.o;omega)⟩
   have hix:=yC (P:=Tryz.prog) Tryz.underlying9 k hd k rfl;have HD:=bx hd;have e0:((k:Int)==(S:Int))=false:=by rw [beq_eq_false_iff_ne];omega
   by_cases hc:d=c
   ·have e1:(U.ak d==U.ak c)=true:=by rw [hc];simp
    have hcut:=FK (P:=Tryz.prog) (T:=9) Tryz.underlying9 l f k f k rfl rfl ⟨hfk,by have:=HSL.o;omega⟩;have HC:=bx hc;clear hd hc;go_wp2_with (at_builtin;refine ji rfl _ _ 48 rfl Gu hse.o 0 rfl rfl rfl rfl (by omega) (by omega) hbs ?_;rintro v' w4 hS4 ⟨go',gc',rfl,-,-⟩)
    have aY:=bx (show Sep [Pc.row w.heap.size 9 1 (.slice (some ⟨go',0,none⟩) (out++[(l.take k).drop f]).length gc') (out++[(l.take k).drop f]).length ((out++[(l.take k).drop f]).map jK),Pc.old w.heap.size w] w4 by
     rw [List.length_append,List.map_append];exact hS4)
    clear hS4;go_wp2_with fail
    go_roundw
    case rel=>exact⟨k+1,k+1,out++[(l.take k).drop f],some ⟨go',0,none⟩,gc',by go_num,by go_num,by simp,Nat.le_refl _,by omega,by simp;omega,⟨hsp.o.cut (by have:=HSL.o;omega) (by rw [HD.o,HC.o])⟩,aY⟩
    case measure=>simp [intOf];omega
   ·have e1:(U.ak d==U.ak c)=false:=by rw [beq_eq_false_iff_ne];exact λe=>hc (U.Tt e)
    have HC:=bx hc;clear hd hc;go_wp2_with fail
    go_roundw
    case rel=>exact⟨k+1,f,out,oo,oc,by go_num,rfl,rfl,by omega,by omega,by omega,⟨hsp.o.stay (by have:=HSL.o;omega) HD.o HC.o⟩,hse⟩
    case measure=>simp [intOf];omega
  ·have e0:((k:Int)==(S:Int))=true:=by rw [beq_iff_eq];omega
   have hcut:=FK (P:=Tryz.prog) (T:=9) Tryz.underlying9 l f k f k rfl rfl ⟨hfk,by have:=HSL.o;omega⟩;have AY:=bx (show k=l.length by rw [h];exact HSL.o);have Hr:=bx h;have hks:k<=S:=by omega
   clear h;go_wp2_with (at_builtin;refine ji rfl _ _ 48 rfl Gu hse.o 0 rfl rfl rfl rfl (by omega) (by omega) hbs ?_;rintro v' w4 hS4 ⟨go',gc',rfl,-,-⟩)
   have aY:=bx (show Sep [Pc.row w.heap.size 9 1 (.slice (some ⟨go',0,none⟩) (out++[(l.take k).drop f]).length gc') (out++[(l.take k).drop f]).length ((out++[(l.take k).drop f]).map jK),Pc.old w.heap.size w] w4 by
    rw [List.length_append,List.map_append];exact hS4)
   clear hS4;go_wp2_with fail
   go_roundw
   case rel =>
    refine⟨k+1,k+1,out++[(l.take k).drop f],some ⟨go',0,none⟩,gc',by go_num,by go_num,by simp,Nat.le_refl _,by omega,by simp;omega,⟨?_⟩,aY⟩;have:=hsp.o;rw [AY.o] at this ⊢;exact this.last
   case measure=>simp [intOf];omega
  ·have HO:=bx (show wr.ownsRow w.heap.size 9 1 (.slice oo out.length oc) (F.split c l).length ((F.split c l).map jK) by
    have h1:=hsp.o;rw [show k=l.length+1 by have:=HSL.o;omega] at h1;rw [h1.done];exact hse.o.row 0 rfl)
   go_wp2_with fail;go_ret
   exact⟨⟨_,rfl,HO.o⟩,aP.o⟩
theorem LP (l:List UInt8) (c:UInt8) (w:World) (hz:l.length<=100000) :
  Calls Tryz.prog 113 #[.string (bs l), .int .u8 (U.ak c)] w λe w'=>(∃ v,e = .returned v/\dI w' v (F.split c l))/\Below w.heap.size w w' :=
 (abe l c w hz).mono λ_ _ ⟨⟨v,h1,h2⟩,h3⟩=>⟨⟨v,h1,dI.gK h2 rfl⟩,h3⟩
theorem G5 (c:UInt8) (w:World):Calls Tryz.prog 165 #[.int .u8 (U.ak c)] w λe w'=>e = .returned (.bool (F.blank c))/\w=w':=by
 have e:F.blank c=(U.ak c==32||U.ak c==9||U.ak c==13):=by
  unfold F.blank;rw [<- IB,<- IB,<- IB]
  rfl
 rw [e];clear e;generalize U.ak c=x
 go_enter Tryz.func165,Tryz.ntmps165
 go_wp2_with fail
 all_goals go_returns
 all_goals exact⟨aI (by simp [*]),rfl⟩
theorem aeF (c:UInt8) (w:World):Calls Tryz.prog 229 #[.int .u8 (U.ak c)] w λe w'=>e = .returned (.int .i64 (F.digit c))/\w=w':=by
 have h0:=U.jm c;have h1:=U.jG c;unfold F.digit;generalize U.ak c=x at *;simp only
 go_enter Tryz.func229,Tryz.ntmps229
 go_wp2_with fail
 all_goals go_returns
 all_goals exact⟨congrArg Ending.returned (kG (by repeat' (first | omega | split))),rfl⟩
end
namespace F
open Go.Proofs.YtdenoeakcflnmaaGreatDoor
def EP (l:List UInt8) (i:Nat):Bool:=(l.drop i).take 2==[46,46]
def ends (l:List UInt8):Option (Int×Int) :=
 match (List.range (l.length-1)).find? (EP l) with
 | some i=>match code (l.take i),code (l.drop (i+2)) with
  | some a,some b=>some (a,b)
  | _,_=>none
 | none=>(code l).map λn=>(n,n)
abbrev Rec:=Nat×Int×Int×List (List UInt8)
def Ls (t:List UInt8):Option (Option (Int×Int×List (List UInt8))) :=
 if t=[] then some none
 else match ends (((split 59 t).map trim).headD []) with
  | none=>none
  | some (a,b)=>if b<a\/1114111<b\/((split 59 t).map trim).length<2\/21<((split 59 t).map trim).length then none else some (some (a,b,((split 59 t).map trim).tail))
def Bq (s:List UInt8):Option (Option (Int×Int×List (List UInt8))):=Ls (trim ((split 35 s).headD []))
theorem agW {t:List UInt8} (h:Ls t=some none):t=[]:=by
 unfold Ls at h
 split at h
 ·assumption
 ·split at h
  ·cases h
  ·split at h <;> cases h
theorem Yd {t:List UInt8} {a b:Int} {fs:List (List UInt8)} (h:Ls t=some (some (a,b,fs))):t≠[]/\ends (((split 59 t).map trim).headD [])=some (a,b)/\a<=b/\b<=1114111/\2<=((split 59 t).map trim).length/\((split 59 t).map trim).length<=21/\fs=((split 59 t).map trim).tail:=by
 unfold Ls at h
 split at h
 ·cases h
 ·rename_i hne
  split at h
  ·cases h
  ·rename_i x y he
   split at h
   ·cases h
   ·rename_i hc
    cases h;exact⟨hne,he,by omega,by omega,by omega,by omega,rfl⟩
def qY (L:List (List UInt8)):Nat->Option (List Rec)
 | 0=>some []
 | k+1=>match qY L k with
  | none=>none
  | some out=>match Bq (L.getD k []) with
   | none=>none
   | some none=>some out
   | some (some r)=>if out.length=300 then none else some (out++[(k+1,r)])
def parse (s:List UInt8):Option (List Rec):=if s.length<=20000 then qY (split 10 s) (split 10 s).length else none
theorem ZN {L:List (List UInt8)} {k:Nat}:∀ {n:Nat} {r:List Rec},k<=n->qY L n=some r->∃ q,qY L k=some q
 | 0,r,hk,h=>by
  obtain rfl:k=0:=by omega
  exact⟨_,rfl⟩
 | n+1,r,hk,h=>by
  rcases Nat.lt_or_ge n k with h1 | h1
  ·obtain rfl:k=n+1:=by omega
   exact⟨r,h⟩
  ·unfold qY at h
   cases hp:qY L n with
   | none=>rw [hp] at h;cases h
   | some q=>exact ZN h1 hp
def valueOf (names:List (List UInt8)) (x:List UInt8):Option Nat:=names.findIdx? (·==x)
def letter (c:UInt8):Bool :=
 let x:Int:=U.ak c
 decide (97<=x)&&decide (x<=122)||decide (65<=x)&&decide (x<=90)||decide (48<=x)&&decide (x<=57)||decide (x=95)
def Za (names:List (List UInt8)) (i:Nat):Bool :=
 let x:=names.getD i []
 x.all letter&&(valueOf (names.take i) x).isNone&&decide (x≠[])&&decide (x.length<=40)
def vF (names:List (List UInt8)):Bool:=(List.range names.length).all (Za names)&&decide (1<=names.length)&&decide (names.length<=32)
abbrev aV:=Int×Int×Int
def BN (x:aV):Bool:=decide (0<=x.1)&&decide (x.1<=x.2.1)&&decide (x.2.1<=1114111)&&decide (0<=x.2.2)&&decide (x.2.2<=31)
def vP (l:List aV):Bool:=(List.range l.length).all (λi=>BN (l.getD i (0,0,0))&&(decide (i=0)||decide ((l.getD (i-1) (0,0,0)).2.1<(l.getD i (0,0,0)).1)))&&decide (l.length<=600)
def lap (x y:aV):Bool:=decide (x.1<=y.2.1)&&decide (y.1<=x.2.1)
def DV (l:List aV) (x:aV):List aV:=l.takeWhile (λy=>decide (y.1<x.1))++x::l.dropWhile (λy=>decide (y.1<x.1))
def tK (l:List aV):Nat->Option (List aV)
 | 0=>some []
 | i+1=>match tK l i with
  | none=>none
  | some out=>if (List.range i).any (λk=>lap (l.getD i (0,0,0)) (l.getD k (0,0,0)))=true then none else some (DV out (l.getD i (0,0,0)))
def Fb (l:List aV):Option (List aV):=if l.all BN=true/\l.length<=600 then tK l l.length else none
def uG (l:List aV) (x:aV):List aV:=match l.getLast? with
 | none=>l++[x]
 | some y=>if y.2.1+1=x.1/\y.2.2=x.2.2 then l.dropLast++[(y.1,x.2.1,y.2.2)] else l++[x]
def yS (l:List aV):Nat->List aV
 | 0=>[]
 | i+1=>uG (yS l i) (l.getD i (0,0,0))
def tZ (names:List (List UInt8)) (loose:Bool) (rs:List Rec):Nat->Option (List aV)
 | 0=>some []
 | k+1=>match tZ names loose rs k with
  | none=>none
  | some out=>match valueOf names ((rs.getD k (0,0,0,[])).2.2.2.headD []) with
   | none=>if loose=true then some out else none
   | some v=>if (Fb (out++[((rs.getD k (0,0,0,[])).2.1,(rs.getD k (0,0,0,[])).2.2.1,(v:Int))])).isSome=true then some (out++[((rs.getD k (0,0,0,[])).2.1,(rs.getD k (0,0,0,[])).2.2.1,(v:Int))]) else none
def GR (file:List UInt8) (names:List (List UInt8)) (loose:Bool):Option (List aV) :=
 match parse file with
 | none=>none
 | some rs=>match tZ names loose rs rs.length with
  | none=>none
  | some out=>match Fb out with
   | none=>none
   | some m=>if vP m=true then some (yS m m.length) else none
abbrev Trie:=List Int×List (List Int)
def qC (l:List aV) (r:Int):Int:=match l.reverse.find? (λx=>decide (x.1<=r)&&decide (r<=x.2.1)) with
 | some x=>x.2.2
 | none=>0
def oL (l:List aV) (row:Nat):List Int:=(List.range 256).map λj=>qC l ((row*256+j:Nat):Int)
def su (t:Trie) (b:List Int):Trie:=match t.2.findIdx? (·==b) with
 | some i=>(t.1++[(i:Int)],t.2)
 | none=>(t.1++[(t.2.length:Int)],t.2++[b])
def nR (l:List aV):Nat->Trie
 | 0=>([],[])
 | k+1=>su (nR l k) (oL l k)
def jP (l:List aV):Trie:=nR l 4352
def iw (t:Trie):Bool:=decide (t.1.length=4352)&&t.1.all (λn=>decide (0<=n)&&decide (n<t.2.length))&&t.2.all (λb=>decide (b.length=256)&&b.all λv=>decide (0<=v)&&decide (v<=31))
def says (t:Trie) (r:Int):Int:=(t.2.getD (t.1.getD (r.toNat / 256) 0).toNat []).getD (r.toNat % 256) 0
structure Built (l:List aV) (k:Nat) (t:Trie):Prop where
 len:t.1.length=k
 at':∀ i,i<k->∃ n:Nat,t.1[i]?=some (n:Int)/\t.2[n]?=some (oL l i)
 all:∀ b∈t.2,∃ i,i<k/\b=oL l i
 few:t.2.length<=k
theorem built (l:List aV):∀ k,Built l k (nR l k)
 | 0=>⟨rfl,λi h=>by omega,λb h=>absurd h List.not_mem_nil,Nat.le_refl _⟩
 | k+1=>by
  have ih:=built l k;show Built l (k+1) (su (nR l k) (oL l k))
  generalize nR l k=t at ih;unfold su
  split
  ·rename_i i h
   obtain⟨hi,hb,-⟩:=List.findIdx?_eq_some_iff_getElem.1 h;have hb2:t.2[i]?=some (oL l k):=by rw [List.getElem?_eq_getElem hi];simpa using hb
   refine⟨by simp [ih.len],λj hj=>?_,λb hb=>?_,by have:=ih.few;simp;omega⟩
   ·rcases Nat.lt_or_ge j k with h1 | h1
    ·obtain⟨n,e1,e2⟩:=ih.at' j h1;exact⟨n,by simp only;rw [List.getElem?_append_left (by rw [ih.len];exact h1)];exact e1,e2⟩
    ·obtain rfl:j=k:=by omega
     exact⟨i,by simp only;rw [List.getElem?_append_right (by rw [ih.len];omega),ih.len];simp,hb2⟩
   ·obtain⟨j,e1,e2⟩:=ih.all b hb;exact⟨j,by omega,e2⟩
  ·refine⟨by simp [ih.len],λj hj=>?_,λb hb=>?_,by have:=ih.few;simp;omega⟩
   ·rcases Nat.lt_or_ge j k with h1 | h1
    ·obtain⟨n,e1,e2⟩:=ih.at' j h1;have hn:=(List.getElem?_eq_some_iff.1 e2).1;exact⟨n,by simp only;rw [List.getElem?_append_left (by rw [ih.len];exact h1)];exact e1,by simp only;rw [List.getElem?_append_left hn];exact e2⟩
    ·obtain rfl:j=k:=by omega
     exact⟨t.2.length,by simp only;rw [List.getElem?_append_right (by rw [ih.len];omega),ih.len];simp,by simp⟩
   ·rcases List.mem_append.1 hb with h1 | h1
    ·obtain⟨j,e1,e2⟩:=ih.all b h1;exact⟨j,by omega,e2⟩
    ·exact⟨k,by omega,by simpa using h1⟩
theorem ah2 (l:List aV) (r:Nat) (hr:r / 256<4352):says (jP l) (r:Int)=qC l (r:Int):=by
 obtain⟨n,h1,h2⟩:=(built l 4352).at' (r / 256) hr;have e1:(jP l).1.getD (r / 256) 0=(n:Int):=by rw [List.getD_eq_getElem?_getD];unfold jP;rw [h1];rfl
 have e2:(jP l).2.getD n []=oL l (r / 256):=by rw [List.getD_eq_getElem?_getD];unfold jP;rw [h2];rfl
 unfold says;rw [Int.toNat_natCast,e1,Int.toNat_natCast,e2,List.getD_eq_getElem?_getD];unfold oL;rw [List.getElem?_map,List.getElem?_range (Nat.mod_lt _ (by omega))];have e3:r / 256*256+r % 256=r:=by omega
 rw [Option.map_some,e3]
 rfl
theorem agy {l:List aV} (h:∀ x∈l,0<=x.2.2/\x.2.2<=31) (r:Int):0<=qC l r/\qC l r<=31:=by
 unfold qC
 split
 ·rename_i x hx
  exact h x (by simpa using List.mem_of_find?_eq_some hx)
 ·omega
theorem acw {l:List aV} (h:∀ x∈l,0<=x.2.2/\x.2.2<=31):iw (jP l)=true:=by
 have hb:=built l 4352;unfold iw;simp only [Bool.and_eq_true,decide_eq_true_eq,List.all_eq_true];refine⟨⟨hb.len,λn hn=>?_⟩,λb hbm=>?_⟩
 ·obtain⟨i,hi,e⟩:=List.getElem_of_mem hn;have hi2:i<4352:=by have:=hb.len;unfold jP at hi;omega
  obtain⟨m,h1,h2⟩:=hb.at' i hi2;have:(jP l).1[i]?=some n:=by rw [List.getElem?_eq_getElem hi,e]
  unfold jP at this;rw [this] at h1
  cases h1;have:=(List.getElem?_eq_some_iff.1 h2).1;unfold jP;omega
 ·obtain⟨i,-,rfl⟩:=hb.all b hbm;refine⟨by unfold oL;simp,λv hv=>?_⟩;unfold oL at hv;obtain⟨j,-,rfl⟩:=List.mem_map.1 hv;exact agy h _
end F
section
open Go.RowKit
attribute [local go_sem] Oper.semAt_some
def Gf (v:Value):Nat:=match v with | .string s=>s.size | _=>0
theorem abA {m:List UInt8} {x:UInt8} (h:m.getLast?=some x) (hb:F.blank x=true):F.sH m.length m=F.sH m.dropLast.length m.dropLast:=by
 obtain⟨n,hn⟩:∃ n,m.length=n+1:=by
  cases m with
  | nil=>simp at h
  | cons a t=>exact⟨t.length,rfl⟩
 rw [List.length_dropLast,hn,show n+1-1=n by omega]
 conv=>lhs;unfold F.sH
 rw [h];simp only;rw [if_pos hb]
theorem ac3 {m:List UInt8} {x:UInt8} (h:m.getLast?=some x) (hb:F.blank x=false):F.sH m.length m=m:=by
 obtain⟨n,hn⟩:∃ n,m.length=n+1:=by
  cases m with
  | nil=>simp at h
  | cons a t=>exact⟨t.length,rfl⟩
 rw [hn];unfold F.sH;rw [h];simp only;rw [if_neg (by rw [hb];exact Bool.false_ne_true)]
theorem List.acY {a b:List UInt8} {n:Nat} (h:n=a.length):(a++b).take n=a:=by subst h;simp
theorem Gz (l:List UInt8) (w:World) (hz:l.length<=100000) :
  Calls Tryz.prog 114 #[.string (bs l)] w λe w'=>e = .returned (.string (bs (F.trim l)))/\w=w':=by
 go_enter Tryz.func114,Tryz.ntmps114
 go_wp2_with fail
 go_loop [0] (λv=>∃ m:List UInt8,v = .string (bs m)/\m.length<=100000/\Box (F.xE m=F.xE l)) (λv=>Gf v)
 case atStart=>exact⟨l,rfl,hz,⟨rfl⟩⟩
 case round =>
  obtain⟨m,rfl,hm,htr⟩:=hrel
  cases m with
  | nil =>
   have fV:=bx (show F.sH ([]:List UInt8).length []=F.trim l by unfold F.trim;rw [<- htr.o];rfl);have hemp:=Je;go_wp2_with fail;clear hemp
   go_loop [0] (λv=>∃ q:List UInt8,v = .string (bs q)/\q.length<=100000/\Box (F.sH q.length q=F.trim l)) (λv=>Gf v)
   case atStart=>exact⟨_,rfl,hm,fV⟩
   case round =>
    obtain⟨q,rfl,hq,zH⟩:=hrel
    rcases List.eq_nil_or_concat q with rfl | ⟨r,x,rfl⟩
    ·have HT:=bx (show F.trim l=[] by rw [<- zH.o];rfl);have hemp:=Je;go_wp2_with fail;go_ret
     exact⟨by rw [HT.o];rfl,rfl⟩
    ·rw [List.concat_eq_append] at hq zH ⊢;have hlast:(r++[x]).getLast?=some x:=by simp
     have hne:=Ap (l:=r++[x]) (by simp);have hsz:(bs (r++[x])).size=r.length+1:=by rw [eU];simp
     have hix:=yC (P:=Tryz.prog) (l:=r++[x]) Tryz.underlying9 r.length (d:=x) (by simp) (r.length:Int) rfl;have hup:=DN (P:=Tryz.prog) (T:=9) Tryz.underlying9 (r++[x]) r.length (r.length:Int) rfl (by simp);have hrl:r.length<=99999:=by simp at hq;omega
     rw [List.acY rfl] at hup
     rcases Bool.eq_false_or_eq_true (F.blank x) with hb | hb
     ·have HT:=bx (show F.sH r.length r=F.trim l by
       have h:=abA hlast hb;rw [List.dropLast_concat] at h;rw [<- h];exact zH.o)
      have HB:=bx hb;clear hb hq;go_wp2_with fail;refine(G5 _ _).mono ?_;rintro e w1 ⟨rfl,rfl⟩;rw [HB.o];go_wp2_with fail
      go_round
      case rel=>exact⟨r,rfl,by omega,HT⟩
      case measure=>simp [Gf,eU]
     ·have HT:=bx (show F.trim l=r++[x] by rw [<- zH.o];exact ac3 hlast hb);have HB:=bx hb;clear hb hq;go_wp2_with fail;refine(G5 _ _).mono ?_;rintro e w1 ⟨rfl,rfl⟩;rw [HB.o];go_wp2_with fail;go_ret
      exact⟨by rw [HT.o];rfl,rfl⟩
  | cons x t =>
   have hne:=Ap (l:=x::t) (by simp);have hix:=yC (P:=Tryz.prog) (l:=x::t) Tryz.underlying9 0 (d:=x) rfl 0 rfl;have hsz:(bs (x::t)).size=t.length+1:=eU _;have e:F.xE (x::t)=if F.blank x=true then F.xE t else x::t:=rfl
   rcases Bool.eq_false_or_eq_true (F.blank x) with hb | hb
   ·have HT:=bx (show F.xE t=F.xE l by rw [<- htr.o,e,if_pos hb]);have hfr:=Md (P:=Tryz.prog) (T:=9) Tryz.underlying9 (x::t) 1 1 rfl (by simp);have HB:=bx hb;clear hb e;go_wp2_with fail;refine(G5 _ _).mono ?_;rintro e w1 ⟨rfl,rfl⟩;rw [HB.o];go_wp2_with fail
    go_round
    case rel=>exact⟨t,rfl,by simp at hm;omega,HT⟩
    case measure=>simp [Gf,eU]
   ·have fV:=bx (show F.sH (x::t).length (x::t)=F.trim l by unfold F.trim;rw [<- htr.o,e,if_neg (by rw [hb];exact Bool.false_ne_true)]);have HB:=bx hb;clear hb e;go_wp2_with fail;refine(G5 _ _).mono ?_;rintro e w1 ⟨rfl,rfl⟩;rw [HB.o];go_wp2_with fail;clear hne hix hsz
    go_loop [0] (λv=>∃ q:List UInt8,v = .string (bs q)/\q.length<=100000/\Box (F.sH q.length q=F.trim l)) (λv=>Gf v)
    case atStart=>exact⟨_,rfl,hm,fV⟩
    case round =>
     obtain⟨q,rfl,hq,zH⟩:=hrel
     rcases List.eq_nil_or_concat q with rfl | ⟨r,x,rfl⟩
     ·have HT:=bx (show F.trim l=[] by rw [<- zH.o];rfl);have hemp:=Je;go_wp2_with fail;go_ret
      exact⟨by rw [HT.o];rfl,rfl⟩
     ·rw [List.concat_eq_append] at hq zH ⊢;have hlast:(r++[x]).getLast?=some x:=by simp
      have hne:=Ap (l:=r++[x]) (by simp);have hsz:(bs (r++[x])).size=r.length+1:=by rw [eU];simp
      have hix:=yC (P:=Tryz.prog) (l:=r++[x]) Tryz.underlying9 r.length (d:=x) (by simp) (r.length:Int) rfl;have hup:=DN (P:=Tryz.prog) (T:=9) Tryz.underlying9 (r++[x]) r.length (r.length:Int) rfl (by simp);have hrl:r.length<=99999:=by simp at hq;omega
      rw [List.acY rfl] at hup
      rcases Bool.eq_false_or_eq_true (F.blank x) with hb | hb
      ·have HT:=bx (show F.sH r.length r=F.trim l by
        have h:=abA hlast hb;rw [List.dropLast_concat] at h;rw [<- h];exact zH.o)
       have HB:=bx hb;clear hb hq;go_wp2_with fail;refine(G5 _ _).mono ?_;rintro e w1 ⟨rfl,rfl⟩;rw [HB.o];go_wp2_with fail
       go_round
       case rel=>exact⟨r,rfl,by omega,HT⟩
       case measure=>simp [Gf,eU]
      ·have HT:=bx (show F.trim l=r++[x] by rw [<- zH.o];exact ac3 hlast hb);have HB:=bx hb;clear hb hq;go_wp2_with fail;refine(G5 _ _).mono ?_;rintro e w1 ⟨rfl,rfl⟩;rw [HB.o];go_wp2_with fail;go_ret
       exact⟨by rw [HT.o];rfl,rfl⟩
def capD:Nat->Int
 | 0=>0
 | k+1=>16*capD k+15
theorem adQ (k:Nat) (h:k<=6):0<=capD k/\capD k<=16777215:=by
 rcases (show k=0\/k=1\/k=2\/k=3\/k=4\/k=5\/k=6 by omega) with rfl | rfl | rfl | rfl | rfl | rfl | rfl <;> decide
def Qy (o:Option Int):Value:=match o with
 | some n=>.tuple #[.int .i64 n, .bool true]
 | none=>.tuple #[.int .i64 0, .bool false]
theorem UW (l:List UInt8) (w:World) (hz:l.length<=100000) :
  Calls Tryz.prog 216 #[.string (bs l)] w λe w'=>e = .returned (Qy (F.code l))/\w=w':=by
 obtain⟨S,hS⟩:∃ S,(bs l).size=S:=⟨_,rfl⟩
 have HSL:=bx (show S=l.length by rw [<- hS];exact eU l);have hSz:S<=100000:=by rw [HSL.o];exact hz
 by_cases h46:4<=S/\S<=6
 rotate_left
 ·have HC:=bx (show F.code l=none by unfold F.code;rw [<- HSL.o,if_neg h46]);have adv:S<4\/(4<=S/\6<S):=by omega
  clear h46
  rcases adv with h | ⟨h,h'⟩
  all_goals
   go_enter Tryz.func216,Tryz.ntmps216
   go_wp2_with fail;go_ret2
   exact⟨by rw [HC.o];rfl,rfl⟩
 ·have HC:=bx (show F.code l=F.xQ 0 l by unfold F.code;rw [<- HSL.o,if_pos h46]);obtain⟨h4,h6⟩:=h46
  go_enter Tryz.func216,Tryz.ntmps216
  go_wp2_with fail
  go_loop [5,4] (λi n=>∃ (k:Nat) (x:Int),k<=S/\i = .int .i64 k/\n = .int .i64 x/\0<=x/\x<=16777215/\Box (x<=capD k)/\Box (F.xQ x (l.drop k)=F.xQ 0 l)) (λi _=>S-(intOf i).toNat)
  case atStart=>exact⟨0,0,by omega,rfl,rfl,by omega,by omega,⟨Int.le_refl _⟩,⟨rfl⟩⟩
  case round =>
   obtain⟨k,x,hk,rfl,rfl,hx0,hx1,hcap,hgo⟩:=hrel
   by_cases hlt:k<S
   ·have hkl:k<l.length:=by rw [<- HSL.o];exact hlt
    obtain⟨d,hd⟩:∃ d,l[k]?=some d:=⟨_,List.getElem?_eq_getElem hkl⟩
    have hix:=yC (P:=Tryz.prog) Tryz.underlying9 k hd k rfl;have hdr:l.drop k=d::l.drop (k+1):=by
     rw [List.drop_eq_getElem_cons hkl];rw [List.getElem?_eq_getElem hkl] at hd;rw [Option.some.inj hd]
    have e:F.xQ x (d::l.drop (k+1))=if F.digit d<0 then none else F.xQ (16*x+F.digit d) (l.drop (k+1)):=rfl
    have HG:=bx (show (if F.digit d<0 then none else F.xQ (16*x+F.digit d) (l.drop (k+1)))=F.xQ 0 l by rw [<- e,<- hdr];exact hgo.o);obtain⟨d0,d1⟩:=F.ak8 d;have HD:=bx (aeF d);generalize F.digit d=y at HG HD d0 d1;clear hd hdr e hkl
    rcases Int.lt_or_le y 0 with hy | hy
    ·have HN:=bx (show F.code l=none by rw [HC.o,<- HG.o,if_pos hy]);go_wp2_with fail;refine(HD.o _).mono ?_;rintro e w1 ⟨rfl,rfl⟩;go_wp2_with fail;go_ret2
     exact⟨by rw [HN.o];rfl,rfl⟩
    ·have HN:=bx (show F.xQ (16*x+y) (l.drop (k+1))=F.xQ 0 l by rw [<- HG.o,if_neg (by omega)]);have vY:=bx (show 16*x+y<=capD (k+1) by have:=hcap.o;show 16*x+y<=16*capD k+15;omega);have hc2:16*x+y<=16777215:=Int.le_trans vY.o (adQ (k+1) (by omega)).2;go_wp2_with fail;refine(HD.o _).mono ?_;rintro e w1 ⟨rfl,rfl⟩;go_wp2_with fail
     go_round
     case rel=>exact⟨k+1,16*x+y,by omega,by go_num,by go_num,by omega,hc2,vY,HN⟩
     case measure=>simp [intOf];omega
   ·have HN:=bx (show F.code l=some x by
     rw [HC.o,<- hgo.o,List.drop_eq_nil_of_le (by rw [<- HSL.o];omega)]
     rfl)
    go_wp2_with fail;go_ret2
    exact⟨by rw [HN.o];rfl,rfl⟩
theorem XZ {q:Nat->Bool} {n:Nat} (h:∀ i,i<n->q i=false):(List.range n).find? q=none:=by
 rw [List.find?_eq_none];intro i hi;rw [h i (List.mem_range.1 hi)];exact Bool.false_ne_true
theorem YT (q:Nat->Bool):∀ n k,k<n->q k=true->(∀ i,i<k->q i=false)->(List.range n).find? q=some k
 | 0,_,h,_,_=>by omega
 | n+1,k,h,hk,hi=>by
  rw [List.range_succ,List.find?_append]
  rcases Nat.lt_or_ge k n with h1 | h1
  ·rw [YT q n k h1 hk hi];rfl
  ·obtain rfl:k=n:=by omega
   rw [XZ hi,Option.none_or,List.find?_cons_of_pos hk]
theorem amH (l:List UInt8) (a b:Int) (w:World) (hz:l.length<=100000) (hok:F.ends l=some (a,b)) :
  Calls Tryz.prog 197 #[.string (bs l)] w λe w'=>e = .returned (.tuple #[.int .i64 a, .int .i64 b, .bool true])/\w=w':=by
 obtain⟨S,hS⟩:∃ S,(bs l).size=S:=⟨_,rfl⟩
 have HSL:=bx (show S=l.length by rw [<- hS];exact eU l);have hSz:S<=100000:=by rw [HSL.o];exact hz
 have mV:=bx hok;clear hok
 go_enter Tryz.func197,Tryz.ntmps197
 go_wp2_with fail
 go_loop [5] (λi=>∃ k:Nat,k<=S/\i = .int .i64 k/\Box (∀ j,j<k->F.EP l j=false)) (λi=>S-(intOf i).toNat)
 case atStart=>exact⟨0,by omega,rfl,⟨λj h=>by omega⟩⟩
 case round =>
  obtain⟨k,hk,rfl,hno⟩:=hrel
  by_cases hlt:k+2<=S
  ·have hcut:=FK (P:=Tryz.prog) (T:=9) Tryz.underlying9 l k (k+2) (k:Int) ((k:Int)+2) rfl (by omega) ⟨by omega,by have:=HSL.o;omega⟩;obtain⟨X,hX⟩:∃ X,(l.take (k+2)).drop k=X:=⟨_,rfl⟩
   have HXD:=bx (show F.EP l k=(X==[46,46]) by
    unfold F.EP;rw [<- hX,List.take_drop,Nat.add_comm k 2,Nat.add_comm])
   rw [hX] at hcut;clear hX
   rcases Bool.eq_false_or_eq_true (X==[46,46]) with hd | hd
   ·have hx:X=[46,46]:=by simpa using hd
    have HF:=bx (show (List.range (l.length-1)).find? (F.EP l)=some k from YT _ _ k (by have:=HSL.o;omega) (by rw [HXD.o,hd]) hno.o);have hcmp:((bs X).toList==[46,46])=true:=by rw [yR,hx];rfl
    clear hx;have hup:=DN (P:=Tryz.prog) (T:=9) Tryz.underlying9 l k (k:Int) rfl (by have:=HSL.o;omega);have hfr:=Md (P:=Tryz.prog) (T:=9) Tryz.underlying9 l (k+2) ((k:Int)+2) (by omega) (by have:=HSL.o;omega);have jX:=bx (λW=>UW (l.take k) W (by rw [List.length_take];have:=HSL.o;omega));have AZ:=bx (λW=>UW (l.drop (k+2)) W (by rw [List.length_drop];have:=HSL.o;omega));have HAB:=bx (show F.code (l.take k)=some a/\F.code (l.drop (k+2))=some b by
     have h:=mV.o;unfold F.ends at h;rw [HF.o] at h;simp only at h
     split at h
     ·rename_i h1 h2
      cases h;exact⟨h1,h2⟩
     ·cases h)
    rw [HAB.o.1] at jX;rw [HAB.o.2] at AZ;unfold Qy at jX AZ;simp only at jX AZ;clear hd;go_wp2_with fail;refine(jX.o _).mono ?_;rintro e w1 ⟨rfl,rfl⟩;go_wp2_with fail;refine(AZ.o _).mono ?_;rintro e w1 ⟨rfl,rfl⟩;go_wp2_with fail
    go_ret3
    exact⟨rfl,rfl⟩
   ·have HN:=bx (show ∀ j,j<k+1->F.EP l j=false from λj hj=>by
     rcases Nat.lt_or_ge j k with h1 | h1
     ·exact hno.o j h1
     ·obtain rfl:j=k:=by omega
      rw [HXD.o,hd])
    have hcmp:((bs X).toList==[46,46])=false:=by rw [yR];exact hd
    clear hd;go_wp2_with fail
    go_round
    case rel=>exact⟨k+1,by omega,by go_num,HN⟩
    case measure=>simp [intOf];omega
  ·have HF:=bx (show (List.range (l.length-1)).find? (F.EP l)=none from XZ (λi hi=>hno.o i (by have:=HSL.o;omega)));have jX:=bx (λW=>UW l W hz);have HAB:=bx (show F.code l=some a/\a=b by
    have h:=mV.o;unfold F.ends at h;rw [HF.o] at h;simp only at h
    cases hc:F.code l with
    | none=>rw [hc] at h;cases h
    | some x=>rw [hc] at h;cases h;exact⟨rfl,rfl⟩)
   rw [HAB.o.1] at jX;unfold Qy at jX;simp only at jX;go_wp2_with fail;refine(jX.o _).mono ?_;rintro e w1 ⟨rfl,rfl⟩;go_wp2_with fail
   go_ret3
   exact⟨by rw [<- HAB.o.2];rfl,rfl⟩
theorem OG {w:World} {base n:Nat} {e:TypeId} {v:Value} {xs:List Value} (h:w.ownsRow base e 1 v n xs) (hn:0<n):∃ (g cap:Nat) (cur:Array Value),v = .slice (some ⟨g,0,none⟩) n cap/\base<=g/\n<=cap/\cap<=9223372036854775807/\aj w g e cur/\∀ (i:Nat) (x:Value),xs[i]?=some x->cur[i]?=some x:=by
 rcases h.2 with⟨-,h0⟩ | ⟨g,cap,cur,rfl,h2,h3,h4,h5,h6,h7⟩
 ·omega
 ·refine⟨g,cap,cur,rfl,h2,h4,by unfold maxLen at h5;omega,h3,λi x hx=>?_⟩;rw [<- h7,List.getElem?_take] at hx
  split at hx
  ·rw [<- Array.getElem?_toList];exact hx
  ·cases hx
theorem aeb {w:World} {base n:Nat} {e:TypeId} {v:Value} {xs:List Value} (h:w.ownsRow base e 1 v n xs) {g:Nat} (hg:v.ownBlock=some g) (i:Nat) (hi:i<n) (u:Value):(w.setCell ⟨g,i,none⟩ u).ownsRow base e 1 v n (xs.set i u):=by
 refine⟨by rw [List.length_set];exact h.1,?_⟩
 rcases h.2 with⟨-,h0⟩ | ⟨g',cap,cur,rfl,h2,h3,h4,h5,h6,h7⟩
 ·omega
 ·simp [Value.ownBlock] at hg;subst hg;refine .inr ⟨g',cap,cur.setIfInBounds i u,rfl,h2,aj.dh (w:=w) (t:=e) h3 i u,h4,h5,by simpa using h6,?_⟩;rw [Array.toList_setIfInBounds,<- h7]
  apply List.ext_getElem?
  intro j;rw [List.getElem?_take,List.getElem?_set,List.getElem?_set,List.getElem?_take,List.length_take]
  by_cases hj:j<n*1
  ·simp only [hj,if_true]
   by_cases e1:i=j
   ·subst e1;simp only [if_true];have:i<min (n*1) cur.toList.length↔i<cur.toList.length:=by omega
    simp only [this]
   ·simp [e1]
  ·simp only [hj,if_false]
   by_cases e1:i=j
   ·omega
   ·simp [e1]
theorem Sep.setRow' {W:World} {ps:List Pc} (h:Sep ps W) (k:Nat) {base n:Nat} {e:TypeId} {v:Value} {xs:List Value} (hk:ps[k]?=some (Pc.row base e 1 v n xs)) {g:Nat} (hg:v.ownBlock=some g) (i:Nat) (hi:i<n) (u:Value) :
  Sep (ps.set k (Pc.row base e 1 v n (xs.set i u))) (W.setCell ⟨g,i,none⟩ u) :=
 h.upd (own:=λq=>q=g) k hk (Turns.setCell (own:=λq=>q=g) W (p:=⟨g,i,none⟩) rfl u) (λq hq _=>by subst hq;exact hg) (aeb (h.row k hk) hg i hi u) (λq hq=>.inl hq)
theorem Rh (c:UInt8) (l:List UInt8):∃ h t,F.split c l=h::t/\h.length<=l.length:=by
 cases hs:F.split c l with
 | nil=>exact absurd hs (F.Yi c l)
 | cons h t=>exact⟨h,t,rfl,F.O1 c l h (by rw [hs];exact List.mem_cons_self ..)⟩
theorem NI {P:Program} {fn:Func} {p u u2:Tmp} {ty:TypeId} (h:fn.results=#[.cell p ty, .tmp u, .tmp u2]) (tmps:Array Value) (w:World) (g:Nat) (t:TypeId) (cs:Array Value) (fr:Nat×Nat) (d:TypeDesc)
  (hp:tmps.getD p undef = .pointer (some ⟨g,0,none⟩)) (hg:w.heap[g]?=some (.cells cs t fr)) (hu:P.underlying ty=some d) (hd:(match d with | .struct _ | .array _ _=>true | _=>false)=true) (hi:(P.info? ty).map (·.size)=some cs.size) :
  (results fn tmps).run P w = .ok (.tuple #[.agg cs,tmps.getD u undef,tmps.getD u2 undef]) w:=by
 have hp':tmps[p]?.getD undef = .pointer (some ⟨g,0,none⟩):=by simpa using hp
 simp [results,h,hp',asAddr,run_loadVar_row w g t ty cs fr d hg hu hd hi,Result.andThen]
theorem recInfo:(Tryz.prog.info? 172).map (·.size)=some 4:=by kernel_rfl
theorem ala (l:List UInt8) (w:World) (hz:l.length<=20000) (hok:F.Bq l=some none) :
  Calls Tryz.prog 161 #[.string (bs l)] w λe w'=>e = .returned (.tuple #[.agg #[.int .i64 0, .int .i64 0, .int .i64 0, .slice none 0 0], .bool false, .int .i64 0])/\Below w.heap.size w w':=by
 obtain⟨h,t,hs,hl⟩:=Rh 35 l;have HT:=bx (show F.trim h=[] by
  unfold F.Bq at hok;rw [hs] at hok;exact F.agW hok)
 obtain⟨w1,hw1⟩:∃ w1,w1=w.alloc (.cells #[.int .i64 0, .int .i64 0, .int .i64 0, .slice none 0 0] 172):=⟨_,rfl⟩
 have hb1:Below w.heap.size w w1:=by rw [hw1];exact(Below.refl _ _).alloc (Nat.le_refl _) _
 have HB1:=bx hb1;have dJ:=bx (show aj w1 w.heap.size 172 #[.int .i64 0, .int .i64 0, .int .i64 0, .slice none 0 0] by rw [hw1];exact aj.new _ _ _);have pJ:=bx (show Calls Tryz.prog 113 #[.string (bs l), .int .u8 35] w1 λe w'=>(∃ v,e = .returned v/\dI w' v (F.split 35 l))/\Below w1.heap.size w1 w' from LP l 35 w1 (by omega));rw [hs] at pJ;have fV:=bx (λW=>Gz h W (by omega));rw [HT.o] at fV;have HW1:=bx hw1;clear hb1 hw1 hok hs
 go_enter Tryz.func161,Tryz.ntmps161
 go_upto_region 1 with(fail)
 rw [<- HW1.o];go_wp2_with fail;refine pJ.o.mono ?_;rintro e w2 ⟨⟨v,rfl,hv⟩,hb2⟩;obtain⟨g,off,cap,rfl,h2,h3,h4,h5⟩:=hv.get (by simp);have hc:=h5 0 h rfl;rw [Nat.add_zero] at hc;have hk2:=dJ.o.below hb2 dJ.o.lt;have mJ:=bx hk2;have HB2:=bx (bt HB1.o hb2);unfold maxLen at h3;rw [List.length_cons] at h2 ⊢;clear hb2 hv h5 hk2;go_wp2_with fail;refine(fV.o _).mono ?_;rintro e w3 ⟨rfl,rfl⟩;have hemp:=Je;have k0:=(mJ.o.cell 0).trans (show _=some (Value.int .i64 0) from rfl);have k1:=(mJ.o.cell 1).trans (show _=some (Value.int .i64 0) from rfl);have k2:=(mJ.o.cell 2).trans (show _=some (Value.int .i64 0) from rfl);have k3:=(mJ.o.cell 3).trans (show _=some (Value.slice none 0 0) from rfl);have f0:=mJ.o.frozen 0;have f1:=mJ.o.frozen 1;have f2:=mJ.o.frozen 2;have f3:=mJ.o.frozen 3;have kl:=mJ.o.lt;go_wp2_with fail;exact bodyPost_ret (v:=.tuple #[.agg #[.int .i64 0, .int .i64 0, .int .i64 0, .slice none 0 0], .bool false, .int .i64 0]) (NI Tryz.results161 _ _ w.heap.size 172 #[.int .i64 0, .int .i64 0, .int .i64 0, .slice none 0 0] (0,0) _ rfl ((((mJ.o.dh 0 (.int .i64 0)).dh 1 (.int .i64 0)).dh 2 (.int .i64 0)).dh 3 (.slice none 0 0)) Tryz.underlying172 rfl recInfo) rfl
  ⟨rfl,(((HB2.o.setCell (Nat.le_refl _) _).setCell (Nat.le_refl _) _).setCell (Nat.le_refl _) _).setCell (Nat.le_refl _) _⟩
end
end Go.Proofs.YtdenoeakcflnmaaGreatDoor
