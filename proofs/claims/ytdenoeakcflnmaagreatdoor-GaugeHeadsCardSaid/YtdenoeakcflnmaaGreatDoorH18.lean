/- Texts of this claim. -/
import Derived.Laws.MakeOwn
import Derived.Laws.CopyRow
import Derived.Laws.IdiomCopy
import Derived.Test.YtdenoeakcflnmaaGreatDoorH10
import Derived.Test.YtdenoeakcflnmaaGreatDoorH17

set_option maxRecDepth 100000
set_option maxHeartbeats 8000000
namespace Go.Proofs.YtdenoeakcflnmaaGreatDoor
section
open Go.RowKit Go.Shelf
attribute [local go_sem] Oper.semAt_some
theorem afb (p:Option Addr) (v:Value) (w:World) (hv:∃ a n c,v = .slice a n c) :
  Calls Tryz.prog 139 #[.pointer p,v] w λe w'=>e = .returned (.func (.func 180) #[] #[.pointer (some ⟨w.heap.size+1,0,none⟩), .pointer (some ⟨w.heap.size,0,none⟩)]) /\
   (w.alloc (.cells #[.pointer p] 208)).alloc (.cells #[v] 22)=w':=by
 obtain⟨a,n,c,rfl⟩:=hv
 go_enter Tryz.func139,Tryz.ntmps139
 go_wp2
 go_ret
 exact⟨rfl,rfl⟩
structure GX (cb sb xb sg so sc fg fo fc n kc:Nat) (ko:Option Addr) (nv rv:Value) (S F:List Int) (W:World):Prop where
 c:aj W cb 210 #[nv, .slice (some ⟨fg,fo,none⟩) F.length fc,rv, .slice ko n kc]
 s:aj W sb 22 #[.slice (some ⟨sg,so,none⟩) S.length sc]
 x:aj W xb 208 #[.pointer (some ⟨cb,0,none⟩)]
 ss:∀ i v,S[i]?=some v->W.cell? ⟨sg,so+i,none⟩=some (.int .i64 v)
 ff:∀ i v,F[i]?=some v->W.cell? ⟨fg,fo+i,none⟩=some (.int .i64 v)
theorem GX.same {cb sb xb sg so sc fg fo fc n kc:Nat} {ko:Option Addr} {nv rv:Value} {S F:List Int} {W W':World} (h:GX cb sb xb sg so sc fg fo fc n kc ko nv rv S F W) {K:Nat->Prop} (hk:K cb/\K sb/\K xb/\K sg/\K fg) (hb:∀ k,K k->W'.heap[k]?=W.heap[k]?):GX cb sb xb sg so sc fg fo fc n kc ko nv rv S F W' :=
 ⟨(hb _ hk.1).trans h.c,(hb _ hk.2.1).trans h.s,(hb _ hk.2.2.1).trans h.x,λi v hi=>(World.cell?_of_block (hb sg hk.2.2.2.1)).trans (h.ss i v hi),λi v hi=>(World.cell?_of_block (hb fg hk.2.2.2.2)).trans (h.ff i v hi)⟩
def uV (n k:Nat):List Nat:=(List.range (min (k-1) (n-1))).map (·+1)
theorem ajQ {n k:Nat} (h1:0<k) (h2:k<n):uV n (k+1)=uV n k++[k]:=by
 unfold uV;rw [show min (k+1-1) (n-1)=min (k-1) (n-1)+1 by omega,List.range_succ,List.map_append];simp;omega
theorem ab8 {n k:Nat} (h:k=0\/n<=k):uV n (k+1)=uV n k:=by
 unfold uV
 congr 2
 omega
theorem akW (n k:Nat):(uV n k).length=min (k-1) (n-1):=by simp [uV]
def dD (S F:List Int) (p:Nat):Int:=F.getD (S.getD p 0).toNat 0
theorem akm (m:Nat) (K:Nat->Prop) (cb sb xb sg so sc fg fo fc n kc:Nat) (ko:Option Addr) (nv rv:Value) (S F:List Int) (hS:S.length=n+1) (hsc:S.length<=sc/\sc<=9223372036854775807) (hfc:F.length<=fc/\fc<=9223372036854775807) (hn:n<=1000000)
  (KL:∀ x∈S,0<=x/\x<F.length) (hK:K cb/\K sb/\K xb/\K sg/\K fg) (l:Nat) (W1:World) (hP:GX cb sb xb sg so sc fg fo fc n kc ko nv rv S F W1) :
  Ph (m+1) Tryz.prog 180 #[.pointer (some ⟨sb,0,none⟩), .pointer (some ⟨xb,0,none⟩)] (λx:Nat=>#[.int .i64 x, .int .i64 (dD S F x)]) (λ_=>False) K (λpre x=>x=pre.length+1/\x<n)
   (λxs _=>xs=uV n (n+1)) l W1:=by
 intro J Jx hJ hJx hY h0;have HY:=bx hY;have HJ:=bx hJ;have Et:=bx KL;have HK:=bx hK;have HS:=bx hS;have c0:W1.cell? ⟨sb,0,none⟩=some (.slice (some ⟨sg,so,none⟩) S.length sc):=(hP.s.cell 0).trans rfl;clear hY hJ KL hK;refine callsIn_of_wp Tryz.func180 rfl trivial ?_;simp only [Tryz.ntmps180,List.size_toArray,List.length_cons,List.length_nil,Nat.reduceAdd,Nat.reduceSub,Array.replicate_succ,Array.replicate_zero,List.push_toArray,List.append_toArray,List.nil_append,List.cons_append]
 gi_wp2
 refine wpIn_wide.2 (wp_scope_straight ((wpIn_wide (n:=m+1)).1 ?_))
 gi_wp2
 refine wpIn_label ?_
 gi_wp2
 clear c0
 gi_loopw [8] (λi wr=>∃ k:Nat,k<=n+1/\i = .int .i64 k/\Box (GX cb sb xb sg so sc fg fo fc n kc ko nv rv S F wr)/\Box (J (uV n k) wr)) (λi _=>n+1-(intOf i).toNat)
 case atStart=>exact⟨0,Nat.zero_le _,rfl,⟨hP⟩,⟨h0⟩⟩
 case round =>
  obtain⟨k,hk,rfl,hp,hj⟩:=hrel;clear hP h0
  by_cases hlt:k<n+1
  ·obtain⟨s,hs⟩:∃ s,S[k]?=some s:=⟨_,List.getElem?_eq_getElem (by omega)⟩
   obtain⟨s0,s1⟩:=Et.o s (List.mem_of_getElem? hs);obtain⟨q,rfl⟩:=Int.eq_ofNat_of_zero_le s0;have hqF:q<F.length:=by omega
   obtain⟨f,hf⟩:∃ f,F[q]?=some f:=⟨_,List.getElem?_eq_getElem hqF⟩
   have d0:=hp.o.ss k _ hs;have d1:=hp.o.ff q f hf;have d2:wr.cell? ⟨xb,0,none⟩=some (.pointer (some ⟨cb,0,none⟩)):=(hp.o.x.cell 0).trans rfl;have d3:wr.cell? ⟨cb,3,none⟩=some (.slice ko n kc):=(hp.o.c.cell 3).trans rfl;have d4:wr.cell? ⟨cb,1,none⟩=some (.slice (some ⟨fg,fo,none⟩) F.length fc):=(hp.o.c.cell 1).trans rfl;have hcl:=hp.o.c.lt;have qo:=bx (show dD S F k=f by
    unfold dD;rw [show S.getD k 0=(q:Int) by rw [List.getD_eq_getElem?_getD,hs];rfl,Int.toNat_natCast,List.getD_eq_getElem?_getD,hf]
    rfl)
   obtain⟨sc1,sc2⟩:=hsc;obtain⟨fc1,DR⟩:=hfc;clear hs hf s0 s1
   rcases (show k=0\/(0<k/\k=n)\/(0<k/\k<n) by omega) with h | ⟨hk0,h⟩ | ⟨h,h'⟩
   ·have HM:=bx (ab8 (n:=n) (k:=k) (.inl h));have d0':wr.cell? ⟨sg,so,none⟩=some (.int .i64 (q:Int)):=by rw [h,Nat.add_zero] at d0;exact d0
    clear d0;subst h;simp only [show ((0:Nat):Int)=0 from rfl]
    gi_wp2
    go_roundw
    case rel=>exact⟨1,by omega,by go_num,hp,⟨by rw [show (1:Nat)=0+1 from rfl,HM.o];exact hj.o⟩⟩
    case measure=>simp [intOf] <;> omega
   ·have HM:=bx (ab8 (n:=n) (k:=k) (.inr (by omega)));have t0:((k:Int)==0)=false:=by rw [beq_eq_false_iff_ne];omega
    have t1:((k:Int)==(n:Int))=true:=by rw [beq_iff_eq];omega
    clear h hk0
    gi_wp2
    go_roundw
    case rel=>exact⟨k+1,by omega,by go_num,hp,⟨by rw [HM.o];exact hj.o⟩⟩
    case measure=>simp [intOf];omega
   ·have HM:=bx (ajQ h h');have t0:((k:Int)==0)=false:=by rw [beq_eq_false_iff_ne];omega
    have t1:((k:Int)==(n:Int))=false:=by rw [beq_eq_false_iff_ne];omega
    have hy:=HY.o (uV n k) k wr hj.o ⟨by rw [akW];omega,h'⟩;rw [qo.o] at hy;obtain⟨fn,tmps,assign,body,hy,mX⟩:=hy;have sF:=bx mX;clear mX h h'
    gi_wp2
    refine sF.o.mono ?_;rintro e W3 (⟨rfl,hj3,hk3⟩ | ⟨rfl,hx3⟩)
    ·have VD:=bx (hp.o.same HK.o (λk hk=>hk3.block k hk));have uY:=bx hj3;clear hj3 hk3
     gi_wp2
     go_roundw
     case rel=>exact⟨k+1,by omega,by go_num,VD,⟨by rw [HM.o];exact uY.o⟩⟩
     case measure=>simp [intOf];omega
    ·gi_wp2
     rw [Exit.noGoto_normal]
     go_end0
     exact⟨⟨_,rfl⟩, .inr ⟨_,hx3⟩⟩
  ·obtain rfl:k=n+1:=by omega
   gi_wp2
   rw [Exit.noGoto_normal]
   go_end0
   exact⟨⟨_,rfl⟩, .inl ⟨_,rfl,hj.o⟩⟩
end
section
open Go.RowKit
def qW (n:Nat) (L:List Int) (k:Nat):Array Value:=((D.cuts n (L.take k)++L.drop k).map (Value.int .i64)).toArray
theorem akz (n:Nat) (L:List Int):qW n L 0=(L.map (Value.int .i64)).toArray:=by simp [qW,D.cuts]
theorem ali (n:Nat) (L:List Int):qW n L L.length=((D.cuts n L).map (Value.int .i64)).toArray:=by simp [qW]
theorem Zi {n:Nat} {L:List Int} {k:Nat} {c:Int} (h:L[k]?=some c):(qW n L k)[k]?=some (.int .i64 c):=by
 have hk:=(List.getElem?_eq_some_iff.1 h).1;unfold qW;rw [List.getElem?_toArray,List.getElem?_map,List.getElem?_append_right (by unfold D.cuts;rw [List.length_map,List.length_take];omega)];rw [show k-(D.cuts n (L.take k)).length=0 by unfold D.cuts;rw [List.length_map,List.length_take];omega,List.getElem?_drop,Nat.add_zero,h]
 rfl
theorem Wx {n:Nat} {L:List Int} {k:Nat} {c:Int} (h:L[k]?=some c):(qW n L k).setIfInBounds k (.int .i64 (D.cut n c))=qW n L (k+1):=by
 have hk:=(List.getElem?_eq_some_iff.1 h).1;have hd:L.drop k=c::L.drop (k+1):=by
  rw [List.drop_eq_getElem_cons hk]
  congr 1
  exact(List.getElem?_eq_some_iff.1 h).2
 have ht:D.cuts n (L.take (k+1))=D.cuts n (L.take k)++[D.cut n c]:=by
  unfold D.cuts;rw [List.take_add_one,h,List.map_append]
  rfl
 have hl:(D.cuts n (L.take k)).length=k:=by unfold D.cuts;rw [List.length_map,List.length_take];omega
 unfold qW;rw [ht,hd,List.setIfInBounds_toArray,List.map_append,List.map_cons,List.map_append,List.map_append,List.append_assoc]
 congr 1
 rw [List.set_append_right _ _ (by rw [List.length_map,hl];exact Nat.le_refl _),List.length_map,hl,Nat.sub_self]
 rfl
theorem aer {n:Nat} {L:List Int} {k:Nat} {c:Int} (h:L[k]?=some c) (hc:D.cut n c=c):qW n L k=qW n L (k+1):=by
 rw [<- Wx h,hc];have hg:=Zi (n:=n) h
 apply Array.ext'
 rw [Array.toList_setIfInBounds]
 apply List.ext_getElem?
 intro j;rw [List.getElem?_set]
 split
 ·rename_i e
  subst e;rw [Array.getElem?_toList,hg]
  split
  ·rfl
  ·rename_i hn
   exact absurd (by have:=(Array.getElem?_eq_some_iff.1 hg).1;simpa using this) hn
 ·rfl
theorem alH {w:World} {g:Nat} {T:TypeId} {xs:List Int} (h:aj w g T (xs.map (Value.int .i64)).toArray) (hz:xs.length<=1000000):aB w (.slice (some ⟨g,0,none⟩) xs.length xs.length) xs :=
 .inr ⟨g,0,none,xs.length,rfl,Nat.le_refl _,by unfold maxLen;omega,λ_=>⟨rfl,h.lt,λi x hx=>by
  rw [Nat.zero_add];refine(h.cell i).trans ?_;rw [List.getElem?_toArray,List.getElem?_map,hx]
  rfl⟩⟩
theorem afJ {n g:Nat} {w W:World} (h:Below n w W) (hg:n<=g) (cs:Array Value):Below n w (W.setRow g cs) :=
 h.trans ⟨rfl,rfl,rfl,by simp [World.setRow],λk hk=>setRow_other W g k cs (by omega)⟩
theorem aek (L:Nat) (h:L<=1000000) (w:World):(Instr.makeSlice 22 (.int .i64 (L:Int)) (.int .i64 (L:Int))).run Tryz.prog w = .ok (.slice (some ⟨w.heap.size,0,none⟩) L L) (w.alloc (.cells (Array.replicate L (.int .i64 0)) 3)):=by
 have hi:(Tryz.prog.info? 3).map (λi=>(i.zero,i.size,i.bytes))=some (some (.int .i64 0),1,8):=by kernel_rfl
 obtain⟨z,hz,hz2⟩:=Option.map_eq_some_iff.1 hi;simp only [Prod.mk.injEq] at hz2;have hz:=And.intro hz hz2;have:=run_makeSlice (P:=Tryz.prog) (w:=w) 22 3 z (.int .i64 0) Tryz.underlying22 hz.1 hz.2.1 .i64 .i64 L L (by omega) (by omega) (by rw [hz.2.2.1];simp;omega) (by rw [hz.2.2.2];omega) (by omega);have e:madeCells (Value.int .i64 0).cells ((L:Int).toNat*z.size)=Array.replicate L (.int .i64 0):=by
  rw [hz.2.2.1,Int.toNat_natCast,Nat.mul_one]
  apply Array.ext'
  rw [Array.toList_replicate];exact toList_madeCells_one (Value.int .i64 0) L
 rw [this,e,Int.toNat_natCast]
theorem akX (v:Value) (L:List Int) (w:World) (hv:aB w v L) (_hz:L.length<=1000000):∃ W2 q,(∀ ty,(Builtin.copy_ #[22,22] ty #[.slice (some ⟨w.heap.size,0,none⟩) L.length L.length,v]).run Tryz.prog (w.alloc (.cells (Array.replicate L.length (.int .i64 0)) 3)) = .ok (goInt q) W2)/\aj W2 w.heap.size 3 (L.map (Value.int .i64)).toArray/\Below w.heap.size w W2:=by
 have hs:(Tryz.prog.info? 3).map (·.size)=some 1:=by kernel_rfl
 have hb0:=aO w (.cells (Array.replicate L.length (.int .i64 0)) 3);have hk0:=aj.new w 3 (Array.replicate L.length (.int .i64 0));have hv1:=hv.below hb0
 rcases hv1 with⟨rfl,rfl⟩ | ⟨b,off,sp,cap,rfl,h2,h3,h4⟩
 ·exact⟨_,0,λty=>run_copy_none _ _ _ ty _ _ _ _ _ _ _ Tryz.underlying22 hs (by simp),hk0,hb0⟩
 ·by_cases hn:L=[]
  ·subst hn;exact⟨_,0,λty=>run_copy_none _ _ _ ty _ _ _ _ _ _ _ Tryz.underlying22 hs (by simp),hk0,hb0⟩
  ·obtain⟨rfl,h5,h6⟩:=h4 hn;have hsz:(Array.replicate L.length (Value.int .i64 0)).size=L.length:=Array.size_replicate;refine⟨_,_,λty=>run_copy_row (P:=Tryz.prog) _ _ _ ty _ w.heap.size 0 L.length L.length ⟨b,off,none⟩ L.length cap (Array.replicate L.length (.int .i64 0)) 3 (L.map (Value.int .i64)) Tryz.underlying22 hs hk0 (by simp) (λj u hu=>?_) (by rw [List.length_map,hsz];omega) (λu hu=>?_),?_,afJ hb0 (Nat.le_refl _) _⟩
   ·rw [List.getElem?_map] at hu
    cases hx:L[j]? with
    | none=>rw [hx] at hu;cases hu
    | some x =>
     rw [hx] at hu
     cases hu;rw [show (⟨b,off,none⟩:Addr).add j=⟨b,off+j,none⟩ by unfold Addr.add;by_cases h0:j=0 <;> simp [h0]];exact h6 j x hx
   ·obtain⟨y,-,rfl⟩:=List.mem_map.1 hu
    rfl
   ·have e:((Array.replicate L.length (Value.int .i64 0)).toList.take 0++L.map (Value.int .i64)++(Array.replicate L.length (Value.int .i64 0)).toList.drop (0+(L.map (Value.int .i64)).length))=L.map (Value.int .i64):=by simp
    rw [e];exact setRow_heap _ w.heap.size _ _ 3 (0,0) hk0
theorem ame (v:Value) (L:List Int) (nn:Nat) (w:World) (hv:aB w v L) (hz:L.length<=1000000) :
  Calls Tryz.prog 137 #[v, .int .i64 nn] w λe w'=>e = .returned (.slice (some ⟨w.heap.size,0,none⟩) L.length L.length)/\aj w' w.heap.size 3 ((D.cuts nn L).map (Value.int .i64)).toArray/\Below w.heap.size w w':=by
 have hmk:=aek L.length hz w;obtain⟨W2,q,hcp,hk2,hb2⟩:=akX v L w hv hz;have mJ:=bx hk2;have HB2:=bx hb2;obtain⟨ao,cap,rfl⟩:=hv.slice;clear hv hk2 hb2
 go_enter Tryz.func137,Tryz.ntmps137
 go_wp2_with fail;clear hmk hcp
 go_loopw [16] (λi wr=>∃ k:Nat,k<=L.length/\i = .int .i64 k/\Box (aj wr w.heap.size 3 (qW nn L k))/\Box (Below w.heap.size w wr)) (λi _=>L.length-(intOf i).toNat)
 case atStart=>exact⟨0,Nat.zero_le _,rfl,⟨by rw [akz];exact mJ.o⟩,HB2⟩
 case round =>
  obtain⟨k,hk,rfl,hbk,hb⟩:=hrel;clear mJ
  by_cases hlt:k<L.length
  ·obtain⟨c,hc⟩:∃ c,L[k]?=some c:=⟨_,List.getElem?_eq_getElem hlt⟩
   have hcc:=(hbk.o.cell k).trans (Zi hc);have hfz:=hbk.o.frozen k;have HC:=bx hc;clear hc
   rcases Int.lt_or_le c 0 with h0 | h0
   ·have HN:=bx (show (qW nn L k).setIfInBounds k (.int .i64 (-1))=qW nn L (k+1) by rw [<- Wx HC.o];unfold D.cut;rw [if_pos (.inl h0)]);go_wp2_with fail
    go_roundw
    case rel=>exact⟨k+1,hlt,by go_num,⟨by rw [<- HN.o];exact hbk.o.dh k _⟩,⟨hb.o.setCell (Nat.le_refl _) _⟩⟩
    case measure=>simp [intOf];omega
   rcases Int.lt_or_le c nn with h1 | h1
   ·have HN:=bx (aer (n:=nn) HC.o (by unfold D.cut;rw [if_neg (by omega)]));go_wp2_with fail
    go_roundw
    case rel=>exact⟨k+1,hlt,by go_num,⟨by rw [<- HN.o];exact hbk.o⟩,hb⟩
    case measure=>simp [intOf];omega
   ·have HN:=bx (show (qW nn L k).setIfInBounds k (.int .i64 (-1))=qW nn L (k+1) by rw [<- Wx HC.o];unfold D.cut;rw [if_pos (.inr h1)]);go_wp2_with fail
    go_roundw
    case rel=>exact⟨k+1,hlt,by go_num,⟨by rw [<- HN.o];exact hbk.o.dh k _⟩,⟨hb.o.setCell (Nat.le_refl _) _⟩⟩
    case measure=>simp [intOf];omega
  ·have HI:=bx (show aj wr w.heap.size 3 ((D.cuts nn L).map (Value.int .i64)).toArray by
    have h1:k=L.length:=by omega
    have h2:=hbk.o
    rwa [h1,ali] at h2)
   go_wp2_with fail;go_ret
   exact⟨rfl,HI.o,hb.o⟩
end
section
open Go.RowKit Go.Shelf
attribute [local go_sem] Oper.semAt_some
def jd (R:List D.Rule) (M:D.bH) (n:Int):Bool:=pX n R&&fO n M&&M.2.all (inB R.length)
def Vr (R:List D.Rule) (M:D.bH) (n:Int) (L:List Int) (w:World) (e:Ending) (w':World):Prop :=
 Below w.heap.size w w'/\((jd R M n=true/\∃ v,e = .returned (.tuple #[v, .int .i64 0])/\aB w' v (pz R M n.toNat L))\/(jd R M n=false/\e = .returned (.tuple #[.slice none 0 0, .int .i64 110])))
theorem aa2 (w:World) (c0 c1 c2 c3 c4:Array Value) (T0 T1 T2 T3 T4:TypeId) (W:World) (hW:W=((((w.alloc (.cells c0 T0)).alloc (.cells c1 T1)).alloc (.cells c2 T2)).alloc (.cells c3 T3)).alloc (.cells c4 T4)) :
  aj W w.heap.size T0 c0/\aj W (w.heap.size+1) T1 c1/\aj W (w.heap.size+1+1) T2 c2/\aj W (w.heap.size+1+1+1) T3 c3/\aj W (w.heap.size+1+1+1+1) T4 c4/\Below w.heap.size w W/\W.heap.size=w.heap.size+5:=by
 obtain⟨h0,h1,h2,h3,hb,hs⟩:=four w c0 c1 c2 c3 T0 T1 T2 T3;have hn:=aj.new ((((w.alloc (.cells c0 T0)).alloc (.cells c1 T1)).alloc (.cells c2 T2)).alloc (.cells c3 T3)) T4 c4;rw [hs] at hn;subst hW;exact⟨h0.alloc _,h1.alloc _,h2.alloc _,h3.alloc _,hn,hb.alloc hb.size _,by simp⟩
theorem Dn {n:Int} {M:D.bH} (h:fO n M=true):∀ x∈M.2,0<=x/\x<1099511627776:=by
 intro x hx;obtain⟨i,hi,e⟩:=List.getElem_of_mem hx;obtain⟨h1,h2,h3,h4,h5⟩:=wF h;obtain⟨nn,rfl⟩:=Int.eq_ofNat_of_zero_le (show 0<=n by omega);obtain⟨r,-,-,-,f,k1,k2,k3⟩:=Dq h (a:=i) (by omega);rw [List.getElem?_eq_getElem hi,e] at k1
 cases k1;exact⟨k2,k3⟩
theorem am8 (A:Nat->Addr) (B:Nat) (rv:Value) (R:List D.Rule) (mv:Value) (M:D.bH) (n:Int) (lv:Value) (L:List Int) (w:World) (hR:fA w rv R) (hf:∀ x∈R,nX x) (oI:R.length<=16777216) (hM:kQ w mv M) (kF:oN M) (hL:aB w lv L) (_hLz:L.length<=900) (hD:Ed A B w) (hE:Eg A B w) (hB:B<=w.heap.size) (hno:jd R M n=false) :
  Calls Tryz.prog 84 #[rv,mv, .int .i64 n,lv] w λe w'=>e = .returned (.tuple #[.slice none 0 0, .int .i64 110])/\Below w.heap.size w w':=by
 have HR:=bx hR;have HM:=bx hM;have HL:=bx hL;have HD:=bx hD;have HE:=bx hE;have HF:=bx hf;have yh:=bx kF;obtain⟨ro,rc,rfl⟩:=hR.slice;obtain⟨NV,FV,rfl,hra,hia⟩:=hM;obtain⟨no,nc,rfl⟩:=hra.slice;obtain⟨fo,fc,rfl⟩:=hia.slice;obtain⟨lo,lc,rfl⟩:=hL.slice;have qQ:=bx hia;obtain⟨W,hW⟩:∃ W,W=((((w.alloc (.cells #[.slice no M.1.length nc, .slice fo M.2.length fc] 29)).alloc (.cells #[.slice no M.1.length nc, .slice fo M.2.length fc, .slice ro R.length rc, .slice none 0 0] 210)).alloc (.cells #[.pointer (some ⟨w.heap.size+1,0,none⟩)] 208)).alloc (.cells #[.int .i64 0] 3)).alloc (.cells #[.slice (some ⟨w.heap.size+1+1+1,0,none⟩) 1 1] 22):=⟨_,rfl⟩
 obtain⟨h0,h1,h2,h3,h4,hbW,hszW⟩:=aa2 w _ _ _ _ _ _ _ _ _ _ W hW;have HW:=bx hW;have H0:=bx h0;have H1:=bx h1;have H2:=bx h2;have H3:=bx h3;have H4:=bx h4;have aJ:=bx hbW;have aU:=bx hszW;have HRR:=bx (aaD _ R n W hf (hR.below hbW) oI);have c0:W.cell? ⟨w.heap.size,0,none⟩=some (.slice no M.1.length nc):=(h0.cell 0).trans rfl;have c1:W.cell? ⟨w.heap.size,1,none⟩=some (.slice fo M.2.length fc):=(h0.cell 1).trans rfl;clear hR hra hia hL hD hE hW h0 h1 h2 h3 h4 hbW hszW hf kF;have iP:=bx hno;clear hno
 go_enter Tryz.func84,Tryz.ntmps84
 go_wp2_with fail;refine wG 0 rfl ?_;go_wp2_with fail;rw [<- HW.o];refine HRR.o.mono ?_;rintro e w1 ⟨rfl,hb1⟩;have HB1:=bx (bt aJ.o hb1);have k0:=H0.o.below hb1 H0.o.lt;have K0:=bx k0;have K1:=bx (H1.o.below hb1 H1.o.lt);have K2:=bx (H2.o.below hb1 H2.o.lt);have d0:w1.cell? ⟨w.heap.size,0,none⟩=some (.slice no M.1.length nc):=(k0.cell 0).trans rfl;have d1:w1.cell? ⟨w.heap.size,1,none⟩=some (.slice fo M.2.length fc):=(k0.cell 1).trans rfl;clear hb1 c0 c1 k0
 cases hr:pX n R with
 | false =>
  have hg:=(HE.o.below (HB1.o.mono hB)).cell;have HT:=bx (Tf A B w1 (HE.o.below (HB1.o.mono hB)));unfold IE jZ at HT;clear hr;go_wp2_with fail
  go_step3
  refine⟨rfl,?_⟩;go_wp2_with fail;refine HT.o.mono ?_;rintro e w2 ⟨rfl,rfl⟩;go_wp2_with fail;rw [Exit.noGoto_ret];go_ret2
  exact⟨rfl,HB1.o⟩
 | true =>
  have yJ:=bx hr;clear hr;have uw:=bx (Pn _ M n w1 (HM.o.below HB1.o) yh.o);go_wp2_with fail;refine uw.o.mono ?_;rintro e w2 ⟨rfl,hb2⟩;have HB2:=bx (bt HB1.o hb2);have k1:=K1.o.below hb2 K1.o.lt;have k2:=K2.o.below hb2 K2.o.lt;have e1:w2.cell? ⟨w.heap.size+1,1,none⟩=some (.slice fo M.2.length fc):=(k1.cell 1).trans rfl;have e2:w2.cell? ⟨w.heap.size+1+1,0,none⟩=some (.pointer (some ⟨w.heap.size+1,0,none⟩)):=(k2.cell 0).trans rfl;have l1:=k1.lt;clear d0 d1 hb2 k1 k2
  cases hm:fO n M with
  | false =>
   have hg:=(HE.o.below (HB2.o.mono hB)).cell;have HT:=bx (Tf A B w2 (HE.o.below (HB2.o.mono hB)));unfold IE jZ at HT;clear hm;go_wp2_with fail
   go_step3
   refine⟨rfl,?_⟩;go_wp2_with fail;refine HT.o.mono ?_;rintro e w3 ⟨rfl,rfl⟩;go_wp2_with fail;rw [Exit.noGoto_ret];go_ret2
   exact⟨rfl,HB2.o⟩
  | true =>
   have Xi:=bx (XI (.slice fo M.2.length fc) M.2 (Dn hm) ro R.length rc (ED yJ.o).2.2.1 w2 (qQ.o.below HB2.o) (by have:=(wF hm);omega));have O7:=bx (show M.2.all (inB R.length)=false by
    have:=iP.o;unfold jd at this;rw [yJ.o,hm] at this
    simpa using this)
   clear hm;go_wp2_with fail;refine Xi.o.mono ?_;rintro e w3 ⟨rfl,hb3⟩;rw [O7.o];have HB3:=bx (bt HB2.o hb3);clear hb3;have hg:=(HE.o.below (HB3.o.mono hB)).cell;have HT:=bx (Tf A B w3 (HE.o.below (HB3.o.mono hB)));unfold IE jZ at HT;go_wp2_with fail
   go_step3
   refine⟨rfl,?_⟩;go_wp2_with fail;refine HT.o.mono ?_;rintro e w4 ⟨rfl,rfl⟩;go_wp2_with fail;rw [Exit.noGoto_ret];go_ret2
   exact⟨rfl,HB3.o⟩
theorem Turns.narrow {own own':Nat->Prop} {A B:World} (h:Turns own A B) (hm:∀ k,own k->k<A.heap.size->own' k):Turns own' A B:=⟨h.os,h.tape,h.output,h.size,λi hi ho=>h.block i hi (λe=>ho (hm i e hi))⟩
theorem QT {R:List D.Rule} {M:D.bH} {n:Int} (h:jd R M n=true):pX n R=true/\fO n M=true/\M.2.all (inB R.length)=true:=by
 unfold jd at h;simp only [Bool.and_eq_true] at h;exact⟨h.1.1,h.1.2,h.2⟩
theorem ab2 (A:Nat->Addr) (B:Nat) (rv:Value) (R:List D.Rule) (mv:Value) (M:D.bH) (n:Int) (lv:Value) (L:List Int) (w:World) (hR:fA w rv R) (hf:∀ x∈R,nX x) (oI:R.length<=16777216) (hM:kQ w mv M) (kF:oN M) (hL:aB w lv L) (hLz:L.length<=900) (hD:Ed A B w) (hE:Eg A B w) (hB:B<=w.heap.size) (hyes:jd R M n=true) :
  Calls Tryz.prog 84 #[rv,mv, .int .i64 n,lv] w λe w'=>(∃ v,e = .returned (.tuple #[v, .int .i64 0])/\aB w' v (pz R M n.toNat L)/\∀ g,v.ownBlock=some g->w.heap.size<=g)/\Below w.heap.size w w':=by
 obtain⟨hrb,hmr,hai⟩:=QT hyes;obtain⟨n1,n2,MJ,-⟩:=ED hrb;obtain⟨nn,rfl⟩:=Int.eq_ofNat_of_zero_le (show 0<=n by omega);have HR:=bx hR;have HM:=bx hM;have HL:=bx hL;have HD:=bx hD;have HE:=bx hE;have HF:=bx hf;have yh:=bx kF;obtain⟨ro,rc,rfl⟩:=hR.slice;obtain⟨NV,FV,rfl,hra,hia⟩:=hM;obtain⟨no,nc,rfl⟩:=hra.slice;obtain⟨fo,fc,rfl⟩:=hia.slice;obtain⟨lo,lc,rfl⟩:=hL.slice;have qQ:=bx hia;obtain⟨W,hW⟩:∃ W,W=((((w.alloc (.cells #[.slice no M.1.length nc, .slice fo M.2.length fc] 29)).alloc (.cells #[.slice no M.1.length nc, .slice fo M.2.length fc, .slice ro R.length rc, .slice none 0 0] 210)).alloc (.cells #[.pointer (some ⟨w.heap.size+1,0,none⟩)] 208)).alloc (.cells #[.int .i64 0] 3)).alloc (.cells #[.slice (some ⟨w.heap.size+1+1+1,0,none⟩) 1 1] 22):=⟨_,rfl⟩
 obtain⟨h0,h1,h2,h3,h4,hbW,hszW⟩:=aa2 w _ _ _ _ _ _ _ _ _ _ W hW;have HW:=bx hW;have H0:=bx h0;have H1:=bx h1;have H2:=bx h2;have H3:=bx h3;have H4:=bx h4;have aJ:=bx hbW;have aU:=bx hszW;have HRR:=bx (aaD _ R (nn:Int) W hf (hR.below hbW) oI);have c0:W.cell? ⟨w.heap.size,0,none⟩=some (.slice no M.1.length nc):=(h0.cell 0).trans rfl;have c1:W.cell? ⟨w.heap.size,1,none⟩=some (.slice fo M.2.length fc):=(h0.cell 1).trans rfl;clear hR hra hia hL hD hE hW h0 h1 h2 h3 h4 hbW hszW hf kF;have yJ:=bx hrb;have AX:=bx hmr;have afQ:=bx hai;clear hyes hrb hmr hai;refine(callsIn_wide (n:=9)).1 (callsIn_of_wp_marks Tryz.func84 rfl trivial (wpIn_wide.2 ?_));simp only [Tryz.ntmps84,List.size_toArray,List.length_cons,List.length_nil,Nat.reduceAdd,Nat.reduceSub,Array.replicate_succ,Array.replicate_zero,List.push_toArray,List.append_toArray,List.nil_append,List.cons_append];go_wp2_with fail;refine wG 0 rfl ?_;go_wp2_with fail;rw [<- HW.o];refine HRR.o.mono ?_;rintro e w1 ⟨rfl,hb1⟩;rw [yJ.o];have HB1:=bx (bt aJ.o hb1);have k0:=H0.o.below hb1 H0.o.lt;have K0:=bx k0;have K1:=bx (H1.o.below hb1 H1.o.lt);have K2:=bx (H2.o.below hb1 H2.o.lt);have K3:=bx (H3.o.below hb1 H3.o.lt);have K4:=bx (H4.o.below hb1 H4.o.lt);have d0:w1.cell? ⟨w.heap.size,0,none⟩=some (.slice no M.1.length nc):=(k0.cell 0).trans rfl;have d1:w1.cell? ⟨w.heap.size,1,none⟩=some (.slice fo M.2.length fc):=(k0.cell 1).trans rfl;have uw:=bx (Pn _ M nn w1 (HM.o.below HB1.o) yh.o);clear hb1 c0 c1 k0;go_wp2_with fail;refine uw.o.mono ?_;rintro e w2 ⟨rfl,hb2⟩;rw [AX.o];have HB2:=bx (bt HB1.o hb2);have k1:=K1.o.below hb2 K1.o.lt;have k2:=K2.o.below hb2 K2.o.lt;have e1:w2.cell? ⟨w.heap.size+1,1,none⟩=some (.slice fo M.2.length fc):=(k1.cell 1).trans rfl;have e2:w2.cell? ⟨w.heap.size+1+1,0,none⟩=some (.pointer (some ⟨w.heap.size+1,0,none⟩)):=(k2.cell 0).trans rfl;have l1:=k1.lt;have J0:=bx (K0.o.below hb2 K0.o.lt);have J1:=bx k1;have J2:=bx k2;have J3:=bx (K3.o.below hb2 K3.o.lt);have J4:=bx (K4.o.below hb2 K4.o.lt);have Xi:=bx (XI (.slice fo M.2.length fc) M.2 (Dn AX.o) ro R.length rc MJ w2 (qQ.o.below HB2.o) (by have:=(wF AX.o);omega));clear d0 d1 hb2 k1 k2;go_wp2_with fail;refine Xi.o.mono ?_;rintro e w3 ⟨rfl,hb3⟩;rw [afQ.o];have HB3:=bx (bt HB2.o hb3);have I0:=bx (J0.o.below hb3 J0.o.lt);have I1:=bx (J1.o.below hb3 J1.o.lt);have I2:=bx (J2.o.below hb3 J2.o.lt);have I3:=bx (J3.o.below hb3 J3.o.lt);have I4:=bx (J4.o.below hb3 J4.o.lt);have f2:w3.cell? ⟨w.heap.size+1+1,0,none⟩=some (.pointer (some ⟨w.heap.size+1,0,none⟩)):=(I2.o.cell 0).trans rfl;have l3:=I1.o.lt;have DC:=bx (λ(W:World) (h:Below w3.heap.size w3 W)=>ame (.slice lo L.length lc) L nn W ((HL.o.below HB3.o).below h) (by omega));clear hb3 e1 e2 l1
 go_upto_region 5 with(fail)
 go_cut [] from 40 to 45 (λwx=>∃ kg:Nat,w3.heap.size<=kg/\Box (aj wx kg 3 ((D.cuts nn L).map (Value.int .i64)).toArray)/\Box (aj wx (w.heap.size+1) 210 #[.slice no M.1.length nc, .slice fo M.2.length fc, .slice ro R.length rc, .slice (some ⟨kg,0,none⟩) L.length L.length])/\Box (Turns (λk=>k=w.heap.size+1) w3 wx))
 case first =>
  have HDR:=bx (show Below w3.heap.size w3 w3.drew from iD w3 1);have aA:=bx (show w3.drew.cell? ⟨w.heap.size+1+1,0,none⟩=some (.pointer (some ⟨w.heap.size+1,0,none⟩)) from(HDR.o.cell (p:=⟨w.heap.size+1+1,0,none⟩) I2.o.lt).trans f2);refine fP 4 (λW=>W.cell? ⟨w.heap.size+1+1,0,none⟩=some (.pointer (some ⟨w.heap.size+1,0,none⟩))) (by kernel_rfl) ?_;have ZP:=bx (DC.o _ HDR.o);generalize w3.drew=WR at HDR aA ZP ⊢;refine kS 0 ?_ rfl aA.o ?_ ?_;rotate_left
  ·intro w q1;go_simp;try with_reducible rfl
  refine kS 1 ?_ rfl aA.o ?_ ?_;rotate_left
  ·intro w q1;go_simp;try with_reducible rfl
  refine kS 2 ?_ rfl aA.o ?_ ?_;rotate_left
  ·intro w q1;go_simp;try with_reducible rfl
  refine kP 3 rfl λKK ah=>?_
  go_simp;go_wp2_with (go_at_call 137;refine ZP.o.mono ?_;rintro e w4 ⟨rfl,hk4,hb4⟩)
  have HB4:=bx (show Below w3.heap.size w3 w4 from bt HDR.o hb4);have jF:=bx hk4;have g4:=(I1.o.below HB4.o I1.o.lt).frozen 3;have x4:=((I1.o.below HB4.o I1.o.lt).cell 3).trans (show _=some (Value.slice none 0 0) from rfl);have l4:=(I1.o.below HB4.o I1.o.lt).lt;have ET:=bx HDR.o.size;clear hb4 hk4;refine ah.out _ _ (λ_=>(HB4.o.cell (p:=⟨w.heap.size+1+1,0,none⟩) I2.o.lt).trans f2) ?_;clear ah KK;refine kP 4 rfl λKK ah=>?_
  go_simp;refine ah.out _ _ (λh=>by cases h) ?_;clear ah KK;refine kP 5 rfl λKK ah=>?_
  go_simp;refine ah.out _ _ (λh=>by cases h) ?_;clear ah KK;refine kP 6 rfl λKK ah=>?_
  go_simp;refine ah.out _ _ (λh=>by cases h) ?_;clear ah KK;refine kD ?_ _;go_wp2_with fail
  go_meet
  have hT:=Turns.setCell (own:=λk=>k=w.heap.size+1) w4 (p:=⟨w.heap.size+1,3,none⟩) rfl (.slice (some ⟨WR.heap.size,0,none⟩) L.length L.length);exact⟨WR.heap.size,ET.o,⟨hT.blk jF.o (by have:=I1.o.lt;have:=ET.o;omega)⟩,⟨(I1.o.below HB4.o I1.o.lt).dh 3 _⟩,⟨(Turns.of_below HB4.o).trans hT⟩⟩
 case rest =>
  obtain⟨kg,hkg,hkb,hcb,hT⟩:=hcut;have C0:=bx (hT.o.blk I0.o (by omega));have C2:=bx (hT.o.blk I2.o (by omega));have C3:=bx (hT.o.blk I3.o (by omega));have C4:=bx (hT.o.blk I4.o (by omega));have Gm:=bx (show Below w.heap.size w wc from HB3.o.trans (hT.o.below HB3.o.size (λk hk=>by omega)));have d0:wc.cell? ⟨w.heap.size,0,none⟩=some (.slice no M.1.length nc):=(C0.o.cell 0).trans rfl;have d1:wc.cell? ⟨w.heap.size,1,none⟩=some (.slice fo M.2.length fc):=(C0.o.cell 1).trans rfl;have jC:=bx (aez A B _ (.slice lo L.length lc) M nn L wc (HM.o.below Gm.o) yh.o (HL.o.below Gm.o) (by omega) (HD.o.below (Gm.o.mono hB)) (Nat.le_trans hB Gm.o.size));have ad1:=C4.o.lt;have alT:=hkb.o.lt;clear f2 l3 hT;go_wp2_with fail;refine jC.o.mono ?_;rintro e w5 ⟨hb5,gv,rfl,hown⟩;rw [show goCode nn M=0 by unfold goCode;rw [AX.o];rfl];rw [AX.o,if_pos rfl,if_pos rfl,Int.toNat_natCast] at hown;have hlt:=hown.lt;obtain⟨sg,sc,rfl⟩:=ownsRow_succ hown;have HGW:=bx hown;have anz:=hlt sg rfl;have D0:=bx (C0.o.below hb5 C0.o.lt);have D1:=bx (hcb.o.below hb5 hcb.o.lt);have D2:=bx (C2.o.below hb5 C2.o.lt);have D3:=bx (C3.o.below hb5 C3.o.lt);have D4:=bx (C4.o.below hb5 C4.o.lt);have DK:=bx (hkb.o.below hb5 hkb.o.lt);have aF:=bx (show Below w.heap.size w w5 from bt Gm.o hb5);have Z4:=hb5.size;have f2:w5.cell? ⟨w.heap.size+1+1,0,none⟩=some (.pointer (some ⟨w.heap.size+1,0,none⟩)):=(D2.o.cell 0).trans rfl;clear d0 d1 hb5 hown hlt;go_wp2_with (go_at_call 139;refine(afb _ _ _ ⟨_,_,_,rfl⟩).mono ?_;rintro e w' ⟨rfl,rfl⟩)
  clear f2;obtain⟨wL,pV⟩:∃ wL,wL=(w5.alloc (.cells #[.pointer (some ⟨w.heap.size+1,0,none⟩)] 208)).alloc (.cells #[.slice (some ⟨sg,0,none⟩) (L.length+1) sc] 22):=⟨_,rfl⟩
  rw [<- pV];have oJ:wL.heap.size=w5.heap.size+2:=by rw [pV];simp
  have hbL:Below w5.heap.size w5 wL:=by rw [pV];exact((Below.refl _ _).alloc (Nat.le_refl _) _).alloc (by simp) _
  have hxb:aj wL w5.heap.size 208 #[.pointer (some ⟨w.heap.size+1,0,none⟩)]:=by rw [pV];exact(aj.new w5 _ _).alloc _
  have hsb:aj wL (w5.heap.size+1) 22 #[.slice (some ⟨sg,0,none⟩) (L.length+1) sc]:=by
   rw [pV];have:=aj.new (w5.alloc (.cells #[.pointer (some ⟨w.heap.size+1,0,none⟩)] 208)) 22 #[.slice (some ⟨sg,0,none⟩) (L.length+1) sc]
   simpa using this
  obtain⟨SL,Gj⟩:∃ SL,SL=(fC nn M L).map λx:Nat=>(x:Int):=⟨_,rfl⟩
  have hSl:SL.length=L.length+1:=by rw [Gj];unfold fC;simp
  obtain⟨m1,m2,m3,m4,m5⟩:=wF AX.o;obtain⟨fg,qA,JD,kf1,kf2,kf3,kf4,kf5⟩:=(qQ.o.below (bt aF.o hbL)).get (by intro e;rw [e] at m5;simp at m5;omega);obtain⟨rfl,rfl⟩:fo=some ⟨fg,qA,none⟩/\fc=JD:=by injection kf1 with h1 h2 h3;exact⟨h1,h3⟩
  have hfg:fg<w.heap.size:=by
   obtain⟨fg',an2,aoo,q1,q2,q3,q4,q5⟩:=qQ.o.get (by intro e;rw [e] at m5;simp at m5;omega);injection q1 with h1 h2 h3;injection h1 with h1;injection h1 with h1 h4 h5;rw [h1];exact q4
  have Us:=own_below HGW.o hbL;have YU:GX (w.heap.size+1) (w5.heap.size+1) w5.heap.size sg 0 sc fg qA fc L.length L.length (some ⟨kg,0,none⟩) (.slice no M.1.length nc) (.slice ro R.length rc) SL M.2 wL:=by
   refine⟨D1.o.below hbL D1.o.lt,by rw [hSl];exact hsb,hxb,λi v hi=>?_,kf5⟩;have hc:=Us.cells (g:=sg) rfl i (.int .i64 v) (by
    rw [Gj] at hi;rw [List.getElem?_map] at hi ⊢
    cases hgi:(fC nn M L)[i]? with
    | none=>rw [hgi] at hi;cases hi
    | some y=>rw [hgi] at hi;cases hi;rfl)
   rw [show (⟨sg,0+i,none⟩:Addr)=(⟨sg,0,none⟩:Addr).add i by unfold Addr.add;by_cases h0:i=0 <;> simp [h0]];exact hc
  have XK:L.length+1<=sc/\sc<=9223372036854775807:=by
   rcases Us.2 with⟨h1,h2⟩ | ⟨g',cap',cur',h1,h2,h3,h4,h5,h6⟩
   ·cases h1
   ·injection h1 with h7 h8 h9;subst h9;unfold maxLen at h5;exact⟨h4,by omega⟩
  have KL:∀ x∈SL,0<=x/\x<M.2.length:=by
   intro x hx;rw [Gj] at hx;obtain⟨y,hy,rfl⟩:=List.mem_map.1 hx;unfold fC at hy;obtain⟨i,-,rfl⟩:=List.mem_map.1 hy;have:=Gx AX.o L i;omega
  have YK:∀ x,x<=L.length->dD SL M.2 x=mG M (stM nn M L x):=by
   intro x hx;unfold dD mG;have:SL[x]?=some ((stM nn M L x:Nat):Int):=by
    rw [Gj];unfold fC;rw [List.getElem?_map,List.getElem?_map,List.getElem?_range (by omega)]
    rfl
   rw [show SL.getD x 0=((stM nn M L x:Nat):Int) by rw [List.getD_eq_getElem?_getD,this];rfl,Int.toNat_natCast]
  have qo:=bx YK;have L2:=bx (D2.o.below hbL D2.o.lt);have L3:=bx (D3.o.below hbL D3.o.lt);have L4:=bx (D4.o.below hbL D4.o.lt);have LK:=bx (DK.o.below hbL DK.o.lt);have aG:=bx (show Below w.heap.size w wL from bt aF.o hbL);have hr0:wL.ownsRow (w.heap.size+1+1+1) 3 1 (.slice (some ⟨w.heap.size+1+1+1,0,none⟩) 1 1) 1 [.int .i64 0] :=
   ⟨rfl, .inr ⟨w.heap.size+1+1+1,1,#[.int .i64 0],rfl,Nat.le_refl _,L3.o,Nat.le_refl _,by unfold maxLen;omega,rfl,rfl⟩⟩
  have acN:w3.heap.size<=kg/\kg<wL.heap.size:=⟨hkg,LK.o.lt⟩
  have hw3:=HB3.o.size;have hsz3:=aU.o;have hi4:=I4.o.lt;have hwc:=Gm.o.size;have KB:=bx (show ∀ g,g<w.heap.size\/g=w.heap.size+1\/w3.heap.size<=g->g≠w.heap.size+1+1+1/\g≠w.heap.size+1+1+1+1 from λg h=>by omega);have aj7:wc.heap.size<=w5.heap.size:=Z4;have ajk:w3.heap.size<=wc.heap.size:=by omega
  have ah:∀ g,g<wL.heap.size->(g<w.heap.size\/g=w.heap.size+1\/w3.heap.size<=g)->g<wL.heap.size/\g≠w.heap.size+1+1+1/\g≠w.heap.size+1+1+1+1:=λg h1 h2=>⟨h1,KB.o g h2⟩
  have HK:=bx (show (w.heap.size+1<wL.heap.size/\w.heap.size+1≠w.heap.size+1+1+1/\w.heap.size+1≠w.heap.size+1+1+1+1)/\(w5.heap.size+1<wL.heap.size/\w5.heap.size+1≠w.heap.size+1+1+1/\w5.heap.size+1≠w.heap.size+1+1+1+1)/\(w5.heap.size<wL.heap.size/\w5.heap.size≠w.heap.size+1+1+1/\w5.heap.size≠w.heap.size+1+1+1+1)/\(sg<wL.heap.size/\sg≠w.heap.size+1+1+1/\sg≠w.heap.size+1+1+1+1)/\(fg<wL.heap.size/\fg≠w.heap.size+1+1+1/\fg≠w.heap.size+1+1+1+1) from
   ⟨ah _ (by omega) (by omega),ah _ (by omega) (by omega),ah _ (by omega) (by omega),ah _ (by omega) (by omega),ah _ (by omega) (by omega)⟩)
  have acj:=bx YU;have HR0:=bx hr0;have HKG:=bx acN;have dP:=bx (Dn AX.o);have ad5:=bx KL;have BA:=bx (HR.o.below aG.o);have hLb:w.heap.size+1+1+1+1+1<=wL.heap.size:=by omega
  have HM5:=bx m5;have HSL:=bx Gj;have Yx:=bx hSl;unfold maxLen at kf3;clear m5 Gj hSl KL m1 m2 m3 m4 pV hbL hxb hsb Us YU hr0 acN ah YK hwc aj7 ajk hsz3 hi4 hw3 anz Z4 ad1 alT kf1 kf5 kf4 hfg hkg hkb hcb oJ;refine(wpIn_wide (n:=9)).1 (J6 (α:=Nat) (gf:=180) (lb:=#[.pointer (some ⟨w5.heap.size+1,0,none⟩), .pointer (some ⟨w5.heap.size,0,none⟩)]) rfl (enters_of Tryz.func180 (by kernel_rfl) rfl)
   (encs:=λx:Nat=>#[.int .i64 x, .int .i64 (dD SL M.2 x)]) (own:=λ_=>False) (keep:=λk=>k<wL.heap.size/\k≠w.heap.size+1+1+1/\k≠w.heap.size+1+1+1+1) (ok:=λpre x=>x=pre.length+1/\x<L.length) (S:=λxs _=>xs=uV L.length (L.length+1))
   (λk hk=>by rcases hk with h | h;exact h.elim;exact h.1)
   (λW1 ht=>akm 7 _ (w.heap.size+1) (w5.heap.size+1) w5.heap.size sg 0 sc fg qA fc L.length L.length (some ⟨kg,0,none⟩) (.slice no M.1.length nc) (.slice ro R.length rc) SL M.2 Yx.o ⟨by rw [Yx.o];exact XK.1,XK.2⟩ ⟨kf2,by omega⟩ (by omega) ad5.o HK.o _ W1
    (acj.o.same (K:=λk=>k<wL.heap.size) ⟨HK.o.1.1,HK.o.2.1.1,HK.o.2.2.1.1,HK.o.2.2.2.1.1,HK.o.2.2.2.2.1⟩ (λk hk=>ht.block k hk (λh=>h))))
   (λ_=>rfl)
   (λpre W=>(∃ v,aj W (w.heap.size+1+1+1+1) 22 #[v]/\W.ownsRow (w.heap.size+1+1+1) 3 1 v ((pre.filter (cutAt R M nn L)).length+1) (zM (0::pre.filter (cutAt R M nn L)))/\∀ g,v.ownBlock=some g->g=w.heap.size+1+1+1\/wL.heap.size+2<=g)/\Turns (λk=>k=w.heap.size+1+1+1\/k=w.heap.size+1+1+1+1) wL W)
   (λ_ _ _=>False) ?hI (λ_ _ _ _ h _=>h) ⟨⟨_,L4.o,HR0.o,λg hg=>by cases hg;exact .inl rfl⟩,Turns.refl _ _⟩
   (λx a1 _=>a1={ tmps:=#[Value.slice ro R.length rc,Value.agg #[Value.slice no M.fst.length nc,Value.slice (some ⟨fg,qA,none⟩) M.snd.length fc],Value.int IntKind.i64 (nn:Int),Value.slice lo L.length lc,undef,Value.pointer (some ⟨w.heap.size,0,none⟩),undef,undef,Value.slice none 0 0,Value.int IntKind.i64 0,Value.pointer (some ⟨w.heap.size+1+1,0,none⟩),Value.pointer (some ⟨w.heap.size+1+1+1+1,0,none⟩),Value.slice (some ⟨sg,0,none⟩) (L.length+1) sc, .int .i64 (x:Int), .int .i64 (dD SL M.2 x),Value.agg #[Value.slice no M.fst.length nc,Value.slice (some ⟨fg,qA,none⟩) M.snd.length fc],Value.slice ro R.length rc,Value.agg #[Value.slice no M.fst.length nc,Value.slice (some ⟨fg,qA,none⟩) M.snd.length fc,Value.slice ro R.length rc,Value.slice none 0 0],Value.pointer (some ⟨w.heap.size+1,0,none⟩),Value.slice (some ⟨w.heap.size+1+1+1,0,none⟩) 1 1,Value.slice ro R.length rc,Value.int IntKind.i64 (nn:Int),Value.bool true,Value.bool false,Value.bool false,Value.agg #[Value.slice no M.fst.length nc,Value.slice (some ⟨fg,qA,none⟩) M.snd.length fc],Value.int IntKind.i64 (nn:Int),Value.bool true,Value.bool false,Value.bool false,Value.bool false,Value.pointer (some ⟨w.heap.size+1,0,none⟩),Value.pointer (some ⟨w.heap.size+1,0,none⟩),Value.pointer (some ⟨w.heap.size+1,0,none⟩),Value.pointer (some ⟨w.heap.size+1,1,none⟩),Value.slice (some ⟨fg,qA,none⟩) M.snd.length fc,Value.slice ro R.length rc,Value.bool true,Value.bool false,Value.bool false,u40,u41,u42,u43,u44,u45,Value.tuple #[Value.slice (some ⟨sg,0,none⟩) (L.length+1) sc,Value.int IntKind.i64 0],Value.agg #[Value.slice no M.fst.length nc,Value.slice (some ⟨fg,qA,none⟩) M.snd.length fc],Value.int IntKind.i64 (nn:Int),Value.slice lo L.length lc,Value.tuple #[Value.slice (some ⟨sg,0,none⟩) (L.length+1) sc,Value.int IntKind.i64 0],Value.slice (some ⟨sg,0,none⟩) (L.length+1) sc,Value.int IntKind.i64 0,Value.pointer (some ⟨w.heap.size+1,0,none⟩),Value.slice (some ⟨sg,0,none⟩) (L.length+1) sc,Value.func (Fn.func 180) #[] #[Value.pointer (some ⟨w5.heap.size+1,0,none⟩),Value.pointer (some ⟨w5.heap.size,0,none⟩)], .int .i64 (x:Int), .int .i64 (dD SL M.2 x),undef,undef,undef,undef,undef,undef,undef,undef,undef,undef,undef,undef,undef,undef,undef,undef,undef,undef,undef],defers:=[] })
   (λ_ _ _ _ h _=>h) ?assign ?body ?done (λ_ _ _ _ h _=>h.elim) (λ_ _ _ h _=>h))
  case hI =>
   rintro pre W W' ⟨⟨v,h1,h2,h3⟩,h4⟩ ht;have h5:Turns (λk=>k=w.heap.size+1+1+1\/k=w.heap.size+1+1+1+1\/k=wL.heap.size+1) wL W':=(h4.mono λk hk=>by
    rcases hk with h | h
    ·exact .inl h
    ·exact .inr (.inl h)).trans (ht.mono λk hk=>by
    rcases hk with h | h
    ·exact h.elim
    ·exact .inr (.inr h))
   exact⟨⟨v,ht.blk h1 (by rintro(h | h);exact h;omega),ht.row h2 (λk hk=>by have:=h3 k hk;rintro(h | h);exact h;omega),h3⟩,h5.narrow λk hk hl=>by
    rcases hk with h | h | h
    ·exact .inl h
    ·exact .inr h
    ·omega⟩
  case assign =>
   intro x W K _ hK
   gi_wp2
   exact hK _ _ (Turns.refl _ _) rfl
  case body =>
   rintro pre x a1 W hW ⟨⟨v,h1,h2,h3⟩,h4⟩ ⟨hx,hxl⟩ rfl;obtain⟨f0,f1⟩:0<=dD SL M.2 x/\dD SL M.2 x<1099511627776:=by
    rw [qo.o x (by omega)];unfold mG
    cases hq:M.2[stM nn M L x]? with
    | none=>rw [List.getD_eq_getElem?_getD,hq];simp
    | some y=>rw [List.getD_eq_getElem?_getD,hq];exact dP.o y (List.mem_of_getElem? hq)
   obtain⟨fN,N8⟩:=Int.eq_ofNat_of_zero_le f0;have hfl:fN<1099511627776:=by omega
   have HCV:=bx (show cutAt R M nn L x=G.zB R (D.cuts nn L) fN (x:Int) by
    unfold cutAt;rw [<- qo.o x (by omega),N8,Int.toNat_natCast])
   rw [N8];have hkk:∀ k,k<wL.heap.size/\k≠w.heap.size+1+1+1/\k≠w.heap.size+1+1+1+1->W.heap[k]?=wL.heap[k]?:=λk hk=>h4.block k hk.1 (λe=>by rcases e with e | e;exact hk.2.1 e;exact hk.2.2 e)
   have hkl:∀ k t cs,k<wL.heap.size/\k≠w.heap.size+1+1+1/\k≠w.heap.size+1+1+1+1->aj wL k t cs->aj W k t cs:=λk t cs hk hb=>(hkk k hk).trans hb
   have h2b:w.heap.size+1+1+1<=wL.heap.size:=by omega
   have hBW2:Below w.heap.size w W:=aG.o.trans (h4.below aG.o.size (λk hk=>by omega));have HIC:=bx ((callsIn_wide (n:=9-1-1-1)).2 (aew (w.heap.size+1) (.slice no M.1.length nc) (.slice (some ⟨fg,qA,none⟩) M.2.length fc) (.slice ro R.length rc) (.slice (some ⟨kg,0,none⟩) L.length L.length) R (D.cuts nn L) (x:Int) fN W
    (hkl _ _ _ HK.o.1 acj.o.c) (HR.o.below hBW2)
    (by
     have hb:=hkl kg _ _ ⟨HKG.o.2,KB.o kg (.inr (.inr HKG.o.1))⟩ LK.o;have hl:(D.cuts nn L).length=L.length:=by unfold D.cuts;rw [List.length_map]
     have:=alH hb (by rw [hl];omega)
     rwa [hl] at this) HF.o (by unfold D.cuts;rw [List.length_map];exact hLz) hfl MJ))
   have c2:W.cell? ⟨w.heap.size+1+1,0,none⟩=some (.pointer (some ⟨w.heap.size+1,0,none⟩)):=((hkl (w.heap.size+1+1) _ _ ⟨by omega,by omega,by omega⟩ L2.o).cell 0).trans rfl;have hlt:=h2.lt;have hs4:=h4.size;have hpl:(pre.filter (cutAt R M nn L)).length<1000000:=by
    have:=List.length_filter_le (cutAt R M nn L) pre;omega
   have HX:=bx hx;have H1:=bx h1;have H2:=bx h2;have H3:=bx h3;have H4:=bx h4;have HL0:=bx hlt;have aoA:=bx N8;clear h1 h2 h3 h4 hx N8 f0 f1 hkk hkl hBW2 hlt
   gi_wp2
   refine⟨trivial,HIC.o.mono ?_⟩;rintro e w4 ⟨rfl,hb4⟩;rw [<- HCV.o];have HB4:=bx hb4;have anQ:=hb4.size;clear c2 hb4
   cases hcv:cutAt R M nn L x with
   | false =>
    have PV:=bx (show (pre++[x]).filter (cutAt R M nn L)=pre.filter (cutAt R M nn L) by rw [List.filter_append];simp [hcv]);clear hcv
    gi_wp2
    have zl:Turns (λ_=>False) W w4:=Turns.of_below HB4.o;refine⟨Holds.xJ (own:=λk=>(k<wL.heap.size/\k≠w.heap.size+1+1+1/\k≠w.heap.size+1+1+1+1)\/k=wL.heap.size+1\/k=wL.heap.size) zl (λk hk=>by omega) (λk hk h=>h),⟨v,zl.blk H1.o (λh=>h),?_,H3.o⟩,H4.o.trans (zl.mono λ_ h=>h.elim)⟩;rw [PV.o];exact zl.row H2.o (λ_ _ h=>h)
   | true =>
    have PV:=bx (show (pre++[x]).filter (cutAt R M nn L)=pre.filter (cutAt R M nn L)++[x] by rw [List.filter_append];simp [hcv]);have jJ:=bx (Tc (0::pre.filter (cutAt R M nn L)) x);clear hcv;have zl:Turns (λ_=>False) W w4:=Turns.of_below HB4.o;have hrow4:=zl.row H2.o (λ_ _ h=>h);have Om:=zl.blk H1.o (λh=>h);have hc:w4.cell? ⟨w.heap.size+1+1+1+1,0,none⟩=some v:=(Om.cell 0).trans rfl;have hf:=Om.frozen 0;obtain⟨i0,hi,hz0,hz1,hz2⟩:=info_parts Ns;have yw:=bx (show v.ownBlock≠some (w.heap.size+1+1+1+1) from λe=>by rcases H3.o _ e with h | h <;> omega);have HV:=bx Om;have HRW:=bx hrow4;have HT4:=bx zl;have uo:=bx hrow4.lt;obtain⟨og,oc,rfl⟩:=ownsRow_succ hrow4;clear hrow4 Om zl
    gi_wp2_with (gi_at_builtin;refine wpListIn_append_own_at _ rfl _ _ 22 rfl (w.heap.size+1+1+1) 3 i0 (.int .i64 0) 1 8 Tryz.underlying22 hi hz0 hz1 hz2 rfl (by decide) (.slice (some ⟨og,0,none⟩) ((pre.filter (cutAt R M nn L)).length+1) oc) _ _ rfl (HRW.o.alloc _) ⟨w4.heap.size,0,none⟩ 1 1 [.int .i64 (x:Int)] rfl rfl (cell_one_new _ _ _) (by simp [Value.oneCell']) (by unfold maxLen;omega) (by omega) (by simp;omega) ?_;intro v' w1 hown' hgrow _ hat;obtain⟨g',cap',rfl⟩:=ownsRow_succ hown';have hv1:=(HV.o.alloc _).grown hgrow (Ne.symm yw.o);have hc1:=hv1.cell 0;have hf1:=hv1.frozen 0;simp at hc1)
    have hg':g'=og\/g'=w4.heap.size+1:=by
     rcases hat with h | h
     ·left;simpa [Value.ownBlock] using h
     ·right;simpa [Value.ownBlock] using h
    have hog:=H3.o og rfl;have PD:=(uo.o og rfl).2;have hT:Turns (λk=>k=og\/k=w.heap.size+1+1+1+1) W (w1.setCell ⟨w.heap.size+1+1+1+1,0,none⟩ (.slice (some ⟨g',0,none⟩) ((pre.filter (cutAt R M nn L)).length+1+1) cap')) :=
     (((HT4.o.mono λ_ h=>h.elim).trans (Turns.alloc w4 _)).trans (D6 hgrow (λk hk=>.inl (by simpa [Value.ownBlock] using hk.symm)))).trans (Turns.setCell _ (.inr rfl) _)
    refine⟨Holds.xJ (own:=λk=>(k<wL.heap.size/\k≠w.heap.size+1+1+1/\k≠w.heap.size+1+1+1+1)\/k=wL.heap.size+1\/k=wL.heap.size) hT (λk hk=>by omega) (λk hk h=>by omega),⟨_,hv1.dh 0 _,?_,λg hg=>?_⟩,(H4.o.mono (own':=λk=>k=w.heap.size+1+1+1\/k=w.heap.size+1+1+1+1\/k=og) (λk hk=>by omega)).trans (hT.mono (λk hk=>by omega)) |>.narrow (λk hk hl=>by omega)⟩
    ·rw [PV.o,<- List.cons_append,jJ.o];have:=(Turns.setCell (own:=λk=>k=w.heap.size+1+1+1+1) w1 (p:=⟨w.heap.size+1+1+1+1,0,none⟩) rfl (.slice (some ⟨g',0,none⟩) ((pre.filter (cutAt R M nn L)).length+1+1) cap')).row hown' (λk hk=>by simp [Value.ownBlock] at hk;omega)
     simpa using this
    ·have:g=g':=by simpa [Value.ownBlock] using hg.symm
     omega
  case done =>
   intro xs W hW hS ⟨⟨v,h1,h2,h3⟩,h4⟩ hD;have hxs:xs.filter (cutAt R M nn L)=wU R M nn L (L.length-1):=by
    rw [hS];unfold uV wU;rw [show min (L.length+1-1) (L.length-1)=L.length-1 by omega]
   rw [hxs] at h2;obtain⟨Q,hQ⟩:∃ Q,wU R M nn L (L.length-1)=Q:=⟨_,rfl⟩
   have RD:Q.length<=900:=by
    rw [<- hQ];unfold wU;have:=List.length_filter_le (cutAt R M nn L) ((List.range (L.length-1)).map (·+1));simp only [List.length_map,List.length_range] at this;omega
   rw [hQ] at h2;have gB:=bx (show pz R M nn L=(0::Q).map (λn:Nat=>(n:Int))++if 0<L.length then [(L.length:Int)] else [] by unfold pz;rw [hQ]);have c0:W.cell? ⟨w.heap.size+1+1+1+1,0,none⟩=some v:=(h1.cell 0).trans rfl;have cf:=h1.frozen 0;have cl:=h1.lt;have hlt:=h2.lt;have hs4:=h4.size;have H1:=bx h1;have H2:=bx h2;have H3:=bx h3;have H4:=bx h4;have HD2:=bx hD;have uo:=bx hlt;have tH:=bx (show Below w.heap.size w W from aG.o.trans (h4.below aG.o.size (λk hk=>by omega)));clear h1 h2 h3 h4 hD hlt hxs hQ hS
   by_cases h0:0<L.length
   ·obtain⟨i0,hi,hz0,hz1,hz2⟩:=info_parts Ns;have yw:=bx (show v.ownBlock≠some (w.heap.size+1+1+1+1) from λe=>by rcases H3.o _ e with h | h <;> omega);obtain⟨og,oc,rfl⟩:=ownsRow_succ H2.o;go_wp2_with (at_builtin;refine wpList_append_own_at _ rfl _ _ 22 rfl (w.heap.size+1+1+1) 3 i0 (.int .i64 0) 1 8 Tryz.underlying22 hi hz0 hz1 hz2 rfl (by decide) (.slice (some ⟨og,0,none⟩) (Q.length+1) oc) _ _ rfl (H2.o.alloc _) ⟨W.heap.size,0,none⟩ 1 1 [.int .i64 (L.length:Int)] rfl rfl (cell_one_new _ _ _) (by simp [Value.oneCell']) (by unfold maxLen;omega) (by omega) (by simp;omega) ?_;intro v' w1 hown' hgrow _ hat;obtain⟨g',cap',rfl⟩:=ownsRow_succ hown';have hv1:=(H1.o.alloc _).grown hgrow (Ne.symm yw.o);have hc1:=hv1.cell 0;have hf1:=hv1.frozen 0;have hl1:=hv1.lt;simp at hc1)
    rw [wC];have hg':g'=og\/g'=W.heap.size+1:=by
     rcases hat with h | h
     ·left;simpa [Value.ownBlock] using h
     ·right;simpa [Value.ownBlock] using h
    have hog:=H3.o og rfl;have PD:=(uo.o og rfl).2;have hT:Turns (λk=>k=og\/k=w.heap.size+1+1+1+1) W (w1.setCell ⟨w.heap.size+1+1+1+1,0,none⟩ (.slice (some ⟨g',0,none⟩) (Q.length+1+1) cap')) :=
     ((Turns.alloc W _).trans (D6 hgrow (λk hk=>.inl (by simpa [Value.ownBlock] using hk.symm)))).trans (Turns.setCell _ (.inr rfl) _)
    have Ym:=(Turns.setCell (own:=λk=>k=w.heap.size+1+1+1+1) w1 (p:=⟨w.heap.size+1+1+1+1,0,none⟩) rfl (.slice (some ⟨g',0,none⟩) (Q.length+1+1) cap')).row hown' (λk hk=>by simp [Value.ownBlock] at hk;omega);have Vs:=tH.o.trans (hT.below tH.o.size (λk hk=>by omega));generalize hWf:w1.setCell ⟨w.heap.size+1+1+1+1,0,none⟩ (.slice (some ⟨g',0,none⟩) (Q.length+1+1) cap')=Wf at hT Ym Vs ⊢;have hDf:=(hT.block wL.heap.size (by omega) (by omega)).trans HD2.o;refine⟨by simp, .inl ⟨_,_,rfl,run_takeDeferred hDf,?_⟩⟩;refine⟨_,results_tmp2 rfl _ _ _,?_⟩;have uH:Turns (λk=>k=wL.heap.size) Wf (Wf.putObj wL.heap.size (.deferred none)):=Turns.putObj (own:=λk=>k=wL.heap.size) Wf rfl (.deferred none);have KU:=uH.row Ym (λk hk=>by simp [Value.ownBlock] at hk;omega);refine⟨⟨.slice (some ⟨g',0,none⟩) (Q.length+1+1) cap',rfl,?_,λg hg=>Nat.le_trans (by omega) (KU.lt g hg).1⟩,Vs.trans (uH.below Vs.size (λk hk=>by omega))⟩;rw [show ((nn:Int)).toNat=nn from Int.toNat_natCast nn,gB.o,if_pos h0];refine aB.gK (n:=Q.length+1+1) (T:=3) (base:=w.heap.size+1+1+1) ?_ (by simp);have e:((0::Q).map (λn:Nat=>(n:Int))++[(L.length:Int)]).map (Value.int .i64)=zM (0::Q)++[.int .i64 (L.length:Int)]:=by
     unfold zM;rw [List.map_append,List.map_map]
     rfl
    rw [e];exact KU
   ·obtain⟨og,oc,rfl⟩:=ownsRow_succ H2.o;go_wp2_with fail;rw [wC];have hog:=H3.o og rfl;refine⟨by simp, .inl ⟨_,_,rfl,run_takeDeferred HD2.o,?_⟩⟩;refine⟨_,results_tmp2 rfl _ _ _,?_⟩;have uH:Turns (λk=>k=wL.heap.size) W (W.putObj wL.heap.size (.deferred none)):=Turns.putObj (own:=λk=>k=wL.heap.size) W rfl (.deferred none);have KU:=uH.row H2.o (λk hk=>by simp [Value.ownBlock] at hk;omega);refine⟨⟨.slice (some ⟨og,0,none⟩) (Q.length+1) oc,rfl,?_,λg hg=>Nat.le_trans (by omega) (KU.lt g hg).1⟩,tH.o.trans (uH.below tH.o.size (λk hk=>by omega))⟩;rw [show ((nn:Int)).toNat=nn from Int.toNat_natCast nn,gB.o,if_neg h0,List.append_nil];exact Rn KU (by simp)
theorem aeO (A:Nat->Addr) (B:Nat) (rv:Value) (R:List D.Rule) (mv:Value) (M:D.bH) (n:Int) (lv:Value) (L:List Int) (w:World) (hR:fA w rv R) (hf:∀ x∈R,nX x) (oI:R.length<=16777216) (hM:kQ w mv M) (kF:oN M) (hL:aB w lv L) (hLz:L.length<=900) (hD:Ed A B w) (hE:Eg A B w) (hB:B<=w.heap.size) (hyes:jd R M n=true) :
  Calls Tryz.prog 84 #[rv,mv, .int .i64 n,lv] w λe w'=>(∃ v,e = .returned (.tuple #[v, .int .i64 0])/\aB w' v (pz R M n.toNat L))/\Below w.heap.size w w' :=
 (ab2 A B rv R mv M n lv L w hR hf oI hM kF hL hLz hD hE hB hyes).mono λ_ _ ⟨⟨v,h1,h2,_⟩,h3⟩=>⟨⟨v,h1,h2⟩,h3⟩
theorem aeK (A:Nat->Addr) (B:Nat) (rv:Value) (R:List D.Rule) (mv:Value) (M:D.bH) (n:Int) (lv:Value) (L:List Int) (w:World) (hR:fA w rv R) (hf:∀ x∈R,nX x) (oI:R.length<=16777216) (hM:kQ w mv M) (kF:oN M) (hL:aB w lv L) (hLz:L.length<=900) (hD:Ed A B w) (hE:Eg A B w) (hB:B<=w.heap.size) :
  Calls Tryz.prog 84 #[rv,mv, .int .i64 n,lv] w (Vr R M n L w):=by
 cases h:jd R M n with
 | true =>
  refine(aeO A B rv R mv M n lv L w hR hf oI hM kF hL hLz hD hE hB h).mono ?_;rintro e w' ⟨h1,h2⟩;exact⟨h2, .inl ⟨h,h1⟩⟩
 | false =>
  refine(am8 A B rv R mv M n lv L w hR hf oI hM kF hL hLz hD hE hB h).mono ?_;rintro e w' ⟨h1,h2⟩;exact⟨h2, .inr ⟨h,h1⟩⟩
end
section
open Go.RowKit
attribute [local go_sem] Oper.semAt_some
def jy (t:Tab):Bool:=jd t.r t.m t.n&&F.iw t.p
structure dZ (t:Tab):Prop where
 p1:t.p.1.length<=100000
 p2:t.p.2.length<=100000
 p3:∀ r∈t.p.2,r.length<=16777216
 r1:∀ x∈t.r,nX x
 r2:t.r.length<=16777216
 m:oN t.m
theorem abj (A:Nat->Addr) (B:Nat) (v:Value) (t:Tab) (w:World) (hv:TabAt w v t) (hs:dZ t) (hD:Ed A B w) (hE:Eg A B w) (hB:B<=w.heap.size) :
  Calls Tryz.prog 45 #[v] w λe w'=>e = .returned (.bool (jy t))/\Below w.heap.size w w':=by
 obtain⟨pi,pb,rv,nv,fv,rfl,h1,h2,h3,h4,h5⟩:=hv;obtain⟨V,hV⟩:∃ V,V=w.alloc (.cells #[.int .i64 t.n,pi,pb,rv,nv,fv] 31):=⟨_,rfl⟩
 have HB0:=bx (show Below w.heap.size w V by rw [hV];exact aO _ _);have HK:=bx (show aj V w.heap.size 31 #[.int .i64 t.n,pi,pb,rv,nv,fv] by rw [hV];exact aj.new _ _ _);have bD:=bx (λW (h:Below w.heap.size w W)=>show TabAt W (.agg #[.int .i64 t.n,pi,pb,rv,nv,fv]) t from⟨pi,pb,rv,nv,fv,rfl,h1.below h,h2.below h,h3.below h,h4.below h,h5.below h⟩);have ay:=bx (λW (h:Below V.heap.size V W)=>HK.o.c6 h);have HV:=bx hV;have lH:=bx (aeK A B rv t.r (.agg #[nv,fv]) t.m t.n (.slice none 0 0) [] V (h3.below HB0.o) hs.r1 hs.r2 ⟨nv,fv,rfl,h4.below HB0.o,h5.below HB0.o⟩ hs.m .nil (by simp) (hD.below (HB0.o.mono hB)) (hE.below (HB0.o.mono hB)) (Nat.le_trans hB HB0.o.size));have fV:=bx (λW (h:Below w.heap.size w W)=>Ue (.agg #[pi,pb]) t.p W ⟨pi,pb,rfl,h1.below h,h2.below h⟩ hs.p1 hs.p2 hs.p3);have aX:=bx (show jy t=(jd t.r t.m t.n&&F.iw t.p) from rfl);obtain⟨n,hn⟩:∃ n,n=t.n:=⟨_,rfl⟩
 rw [<- hn] at HV HK bD ay lH aX ⊢;generalize jy t=res at aX ⊢;clear h1 h2 h3 h4 h5 hV hs hn hD hE hB;obtain⟨k0,k1,k2,k3,k4,k5,kk⟩:=ay.o V (Below.refl _ _)
 go_enter Tryz.func45,Tryz.ntmps45
 go_upto_region 1 with(fail)
 rw [<- HV.o];go_wp2_with fail;refine lH.o.mono ?_;rintro e w1 ⟨hb1,⟨ha,v1,rfl,-⟩ | ⟨ha,rfl⟩⟩
 ·have HB1:=bx (bt HB0.o hb1);have fV:=bx (fV.o w1 HB1.o);rw [ha,Bool.true_and] at aX;clear k0 k1 k2 k3 k4 k5 kk;obtain⟨k0,k1,k2,k3,k4,k5,kk⟩:=ay.o w1 hb1;clear hb1 ha;go_wp2_with fail;refine fV.o.mono ?_;rintro e w2 ⟨rfl,hb2⟩;have HB2:=bx (bt HB1.o hb2);clear hb2;go_wp2_with fail;go_ret
  exact⟨aI aX.o.symm,HB2.o⟩
 ·have HB1:=bx (bt HB0.o hb1);rw [ha,Bool.false_and] at aX;clear hb1 ha k0 k1 k2 k3 k4 k5 kk;go_wp2_with fail;go_ret
  exact⟨aI aX.o.symm,HB1.o⟩
end
section
open Go.RowKit Go.ChangeShapes Go.WideShapes Go.Deep
section
variable {H:Type} {enc:TypeId×Value->H} {W:World}
theorem Zz {fuel:Nat} {cs:List Value} {x:DataW H×List MemPlace} (h:DataW.trod enc Tryz.prog W 0 (λ_=>true) true fuel 25 cs=some x) :
  ∃ (a b:Value) (t:F.Trie),cs=[a,b]/\aB W a t.1/\fJ W b t.2:=by
 obtain⟨y0,y1,n,rfl,hl,h0,h1⟩:=trod_struct2 Tryz.underlying25 h;have hl2:cs.length=2:=hl.trans (by kernel_rfl)
 match cs,hl2 with
 | [c0,c1],_ =>
  obtain⟨l0,hl0⟩:=Tz (v:=c0) Tryz.underlying22 Tryz.underlying3 (by kernel_rfl) h0;obtain⟨l1,hl1⟩:=fJ.open (v:=c1) h1;exact⟨c0,c1,(l0,l1),rfl,hl0,hl1⟩
theorem aeu {fuel:Nat} {cs:List Value} {x:DataW H×List MemPlace} (h:DataW.trod enc Tryz.prog W 0 (λ_=>true) true fuel 29 cs=some x) :
  ∃ (a b:Value) (M:D.bH),cs=[a,b]/\fJ W a M.1/\aB W b M.2:=by
 obtain⟨y0,y1,n,rfl,hl,h0,h1⟩:=trod_struct2 Tryz.underlying29 h;have hl2:cs.length=2:=hl.trans (by kernel_rfl)
 match cs,hl2 with
 | [c0,c1],_ =>
  obtain⟨l0,hl0⟩:=fJ.open (v:=c0) h0;obtain⟨l1,hl1⟩:=Tz (v:=c1) Tryz.underlying27 Tryz.underlying2 (by kernel_rfl) h1;exact⟨c0,c1,(l0,l1),rfl,hl0,hl1⟩
theorem ajR {α:Type} {l:List α} (h:l.length=6):∃ a b c d e f,l=[a,b,c,d,e,f]:=by
 match l,h with
 | [a,b,c,d,e,f],_=>exact⟨a,b,c,d,e,f,rfl⟩
end
end
end Go.Proofs.YtdenoeakcflnmaaGreatDoor
