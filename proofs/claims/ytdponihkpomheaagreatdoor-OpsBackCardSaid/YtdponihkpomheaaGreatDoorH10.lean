/- Texts of this claim. -/
import Derived.Shelf.Sort.Plain
import Derived.Ground.Names2Prog
import Derived.Shelf.Slices.CompactI
import Derived.Shelf.Slices.In.SortNone
import Derived.Shelf.Slices.Empties2
import Derived.Sort.OwnSortedInts
import Derived.Lib.SlicesCompact
import Derived.Lib.RowBridge
import Derived.Test.YtdponihkpomheaaGreatDoorH5

set_option maxHeartbeats 4000000
set_option maxRecDepth 10000
namespace Go.Proofs.YtdponihkpomheaaGreatDoor
open Go.RowKit
open Tryz
section
open Go.Shelf Go.Proofs
def aoD:Go.Shelf.Ren:=⟨fun | 189=>335 | 125=>340 | 257=>339 | 128=>349 | 129=>350 | 294=>341 | 295=>342 | 296=>343 | 297=>344 | 298=>345 | 299=>346 | 216=>288 | 300=>347 | 301=>348 | 328=>351 | 329=>352 | 330=>353 | 331=>354 | 332=>355 | 215=>314 | 343=>356 | n=>n,fun | 28=>22 | 3=>3 | 46=>316 | 0=>0 | 51=>437 | 53=>439 | 4=>4 | 183=>431 | 182=>430 | 131=>186 | 5=>5 | 9=>9 | 218=>440 | 222=>444 | 228=>446 | 229=>116 | n=>n,fun | n=>n⟩
theorem adb:Go.Proofs.Lays.n189 prog aoD:={
 mixed:=by kernel_rfl
 f125:=func340.trans (congrArg some (by kernel_rfl))
 f128:=func349.trans (congrArg some (by kernel_rfl))
 f129:=func350.trans (congrArg some (by kernel_rfl))
 f189:=func335.trans (congrArg some (by kernel_rfl))
 f215:=func314.trans (congrArg some (by kernel_rfl))
 f216:=func288.trans (congrArg some (by kernel_rfl))
 f257:=func339.trans (congrArg some (by kernel_rfl))
 f294:=func341.trans (congrArg some (by kernel_rfl))
 f295:=func342.trans (congrArg some (by kernel_rfl))
 f296:=func343.trans (congrArg some (by kernel_rfl))
 f297:=func344.trans (congrArg some (by kernel_rfl))
 f298:=func345.trans (congrArg some (by kernel_rfl))
 f299:=func346.trans (congrArg some (by kernel_rfl))
 f300:=func347.trans (congrArg some (by kernel_rfl))
 f301:=func348.trans (congrArg some (by kernel_rfl))
 f328:=func351.trans (congrArg some (by kernel_rfl))
 f329:=func352.trans (congrArg some (by kernel_rfl))
 f330:=func353.trans (congrArg some (by kernel_rfl))
 f331:=func354.trans (congrArg some (by kernel_rfl))
 f332:=func355.trans (congrArg some (by kernel_rfl))
 f343:=func356.trans (congrArg some (by kernel_rfl))
 t0:=underlying0
 a0:=isAgg0
 z0:=sizeOf0
 v0:=zeroValue0
 t3:=underlying3
 a3:=isAgg3
 z3:=sizeOf3
 v3:=zeroValue3
 t4:=underlying4
 a4:=isAgg4
 z4:=sizeOf4
 v4:=zeroValue4
 t5:=underlying5
 a5:=isAgg5
 z5:=sizeOf5
 v5:=zeroValue5
 t9:=underlying9
 a9:=isAgg9
 z9:=sizeOf9
 v9:=zeroValue9
 t28:=underlying22
 a28:=isAgg22
 z28:=sizeOf22
 v28:=zeroValue22
 t46:=underlying316
 a46:=isAgg316
 z46:=sizeOf316
 v46:=zeroValue316
 t51:=underlying437
 a51:=isAgg437
 z51:=sizeOf437
 v51:=zeroValue437
 t53:=underlying439
 a53:=isAgg439
 z53:=sizeOf439
 v53:=zeroValue439
 t131:=underlying186
 a131:=isAgg186
 z131:=sizeOf186
 v131:=zeroValue186
 t182:=underlying430
 a182:=isAgg430
 z182:=sizeOf430
 v182:=zeroValue430
 t183:=underlying431
 a183:=isAgg431
 z183:=sizeOf431
 v183:=zeroValue431
 t218:=underlying440
 a218:=isAgg440
 z218:=sizeOf440
 v218:=zeroValue440
 t222:=underlying444
 a222:=isAgg444
 z222:=sizeOf444
 v222:=zeroValue444
 t228:=underlying446
 a228:=isAgg446
 z228:=sizeOf446
 v228:=zeroValue446
 t229:=underlying116
 a229:=isAgg116
 z229:=sizeOf116
 v229:=zeroValue116 }
open Go.Sort Go.RowKit in
theorem amX (blk off cap:Nat) (zs:List Int) (w:World) (hH:Go.Sort.Holds (Value.int .i64) w blk off zs.toArray) (hblk:blk<w.heap.size) (hsz:zs.length<4611686018427387904) :
  Calls prog 335 #[.slice (some ⟨blk,off,none⟩) zs.length cap] w λe w' =>
   e = .returned (.tuple #[])/\∃ n os,w'=grow (putRow (Value.int .i64) (Sort.ahead w n) blk off (zs.mergeSort λx y=>decide (x<=y)).toArray) os:=Any.slices_Sort_int adb blk off cap zs w hH hblk hsz
def amm:Go.Shelf.Ren:=⟨fun | 20=>336 | n=>n,fun | 22=>22 | 3=>3 | 4=>4 | 0=>0 | n=>n,fun | n=>n⟩
theorem abj:Go.Proofs.Lays2.n20 prog amm:={
 mixed:=by kernel_rfl
 f20:=func336.trans (congrArg some (by kernel_rfl))
 t0:=underlying0
 a0:=isAgg0
 z0:=sizeOf0
 v0:=zeroValue0
 t3:=underlying3
 a3:=isAgg3
 z3:=sizeOf3
 v3:=zeroValue3
 t4:=underlying4
 a4:=isAgg4
 z4:=sizeOf4
 v4:=zeroValue4
 t22:=underlying22
 a22:=isAgg22
 z22:=sizeOf22
 v22:=zeroValue22
 i3:=by kernel_rfl }
open Go.Lib Go.Sort in
theorem awC (blk off cap:Nat) (zs:List Int) (w:World) (hH:Go.Sort.Holds (Value.int .i64) w blk off zs.toArray) (hsz:zs.length<=9223372036854775807) (hcap:zs.length<=cap) :
  Calls prog 336 #[.slice (some ⟨blk,off,none⟩) zs.length cap] w λe w'=>e = .returned (.slice (some ⟨blk,off,none⟩) (Lib.compact zs).length cap)/\∃ q,w'=putRow (Value.int .i64) (Sort.ahead w q) blk off (Lib.compact zs++List.replicate (zs.length-(Lib.compact zs).length) 0).toArray:=Any.slices_Compact_int abj blk off cap zs w hH hsz hcap
open Go.Lib Go.Sort in
theorem ak4 (a:Option Addr) (cap:Nat) (w:World) :
  Calls prog 336 #[.slice a 0 cap] w λe w'=>e = .returned (.slice a 0 cap)/\w'=w:=Any.slices_Compact_int_empty abj a cap w
open Go.Sort in
theorem aut (p:Option Addr) (cap:Nat) (w:World) :
  Calls prog 335 #[.slice p 0 cap] w λe w'=>e = .returned (.tuple #[])/\w'=w:=Any.slices_Sort_int_none adb p cap w
end
section
open Go.Sort
def rP (zs:List Int):List Int:=zs.mergeSort λx y=>decide (x<=y)
theorem ab1 (zs:List Int):(rP zs).length=zs.length:=List.length_mergeSort _
theorem axt {ps:List Pc} {W:World} (h:Sep ps W) (i:Nat) {base n:Nat} {e:TypeId} {v:Value} {zs:List Int} (hi:ps[i]?=some (Pc.row base e 1 v n (zs.map (Value.int .i64)))) (hn:n=zs.length) (hz:n<=1000000) :
  Calls prog 335 #[v] W λe' W'=>e' = .returned (.tuple #[])/\Sep (ps.set i (Pc.row base e 1 v n ((rP zs).map (Value.int .i64)))) W':=by
 subst hn;have hrow:=h.row i hi
 rcases hrow.2 with⟨rfl,h2⟩ | ⟨g,cap,cur,rfl,hb,hg,h3,h4,h5,h6⟩
 ·have hz0:zs=[]:=nR h2;subst hz0;refine(aut none 0 W).mono ?_;rintro e' W' ⟨rfl,rfl⟩;refine⟨rfl,?_⟩;have e1:ps.set i (Pc.row base e 1 (aj) ([]:List Int).length ((rP []).map (Value.int .i64)))=ps:=by
   obtain⟨k1,k2⟩:=dO hi;rw [show (rP []).map (Value.int .i64)=([]:List Int).map (Value.int .i64) by simp [rP],<- k2,List.set_getElem_self]
  rw [e1];exact h
 rw [Nat.mul_one] at h6;refine(amX g 0 cap zs W (holds_of_blockI hg h6) (fF.1 hg).1 (by omega)).mono ?_;rintro e' W' ⟨rfl,n,os,rfl⟩;exact⟨rfl,h.grow i hi (grownBy_sortedI _) (ownsRow_sortedI (ab1 zs) hb hg h3 h4 h5) (.inl rfl)⟩
theorem alV (v:Value) (xs:List Int) (x:Int) (w:World) (hv:aN w v xs) (hz:xs.length<=16777216) :
  Calls prog 163 #[v, ah x] w λe w'=>(∃ i:Int,e = .returned (ah i)/\decide (0<=i)=decide (x∈xs))/\w=w':=by
 have HV:=bx hv;obtain⟨ao,cap,rfl⟩:=hv.slice;clear hv
 go_in
 go_wp2
 go_loop [8] (λi=>∃ k:Nat,k<=xs.length/\i = ah k/\Box (x∉xs.take k)) (λi=>xs.length-(intOf i).toNat)
 ·exact⟨0,by omega,rfl,⟨by simp⟩⟩
 obtain⟨k,hk,rfl,hn⟩:=hrel
 by_cases hlt:k<xs.length
 ·obtain⟨y,hy⟩:=bV xs k hlt;obtain⟨g,off,cap2,hg1,hg2,hg3,hg4,hg5⟩:=HV.o.get (by rintro rfl;simp at hlt);obtain⟨rfl,rfl⟩:=dQ hg1;have hcy:=hg5 k y hy;have HY:=bx hy;unfold maxLen at hg3;clear hy hg1 hg5
  by_cases hxy:x=y
  ·subst hxy;have HM:=bx (show x∈xs from dB HY.o)
   go_wp2
   go_ret
   exact⟨⟨k,rfl,by first | (rw [bD HM.o];simp) | exact⟨λ_=>HM.o,λ_=>by omega⟩⟩,rfl⟩
  have HN:=bx (show x∉xs.take (k+1) by
   rw [jw,HY.o,lM];rintro(h | h)
   ·exact hn.o h
   exact hxy (fU.1 h))
  have hq:(x==y)=false:=fG.2 hxy
  go_wp2
  go_round
  ·exact⟨k+1,hlt,by go_num,HN⟩
  simp [intOf];omega
 have HN:=bx (show x∉xs by have:=hn.o;rwa [gq (by omega)] at this)
 go_wp2
 go_ret
 exact⟨⟨-1,rfl,by first | (rw [dh HN.o];rfl) | exact⟨λh=>by omega,λh=>absurd h HN.o⟩⟩,rfl⟩
theorem arj (v:Value) (xs:List Int) (x:Int) (w:World) (hv:aN w v xs) (hz:xs.length<=16777216) :
  Calls prog 95 #[v, ah x] w λe w'=>e = .returned (.bool (decide (x∈xs)))/\w=w':=by
 have HI:=bx (alV v xs x w hv hz);clear hv
 go_in
 go_wp2_with fail;refine HI.o.mono ?_;rintro e w1 ⟨⟨i,rfl,hi⟩,rfl⟩;have HX:=bx hi;clear hi
 go_wp2
 go_ret
 exact⟨aY HX.o,rfl⟩
end
section
open Go.Sort
theorem ZU (d:Array Int) (hd:∀ i j,i<=j->j<d.size->d[i]!<=d[j]!):∀ m,m<=d.size ->
  (Lib.compactUpTo d m).Pairwise (·<·)/\(∀ x∈Lib.compactUpTo d m,∃ j,j<m/\x=d[j]!)/\∀ j,j<m->d[j]!∈Lib.compactUpTo d m
 | 0,_=>by
  refine⟨?_,?_,λj hj=>by omega⟩ <;> simp [Lib.compactUpTo]
 | m+1,hm=>by
  obtain⟨h1,h2,h3⟩:=ZU d hd m (by omega);rw [Lib.compactUpTo_succ]
  by_cases hk:Lib.keeps d m=true
  ·rw [aG hk];refine⟨List.pairwise_append.2 ⟨h1,List.pairwise_singleton _ _,λx hx y hy=>?_⟩,?_,?_⟩
   ·obtain rfl:=fU.1 hy;obtain⟨j,hj,rfl⟩:=h2 x hx;have hne:d[m]!≠d[m-1]!:=by
     unfold Lib.keeps at hk
     rcases of_decide_eq_true hk with h | h
     ·omega
     exact h
    have a:=hd j (m-1) (by omega) (by omega);have b:=hd (m-1) m (by omega) (by omega);omega
   ·intro x hx
    rcases lM.1 hx with h | h
    ·obtain⟨j,hj,e⟩:=h2 x h;exact⟨j,by omega,e⟩
    exact⟨m,by omega,fU.1 h⟩
   intro j hj
   rcases gZ j m with h | h
   ·exact lM.2 (.inl (h3 j h))
   obtain rfl:j=m:=by omega
   exact lM.2 (.inr (fU.2 rfl))
  rw [aF hk,oG];refine⟨h1,λx hx=>?_,λj hj=>?_⟩
  ·obtain⟨j,hj,e⟩:=h2 x hx;exact⟨j,by omega,e⟩
  rcases gZ j m with h | h
  ·exact h3 j h
  obtain rfl:j=m:=by omega
  have hn:¬ (j=0\/d[j]!≠d[j-1]!):=λh=>hk (by unfold Lib.keeps;exact bD h)
  have h0:j≠0:=λh=>hn (.inl h)
  have he:d[j]! = d[j-1]!:=Classical.byContradiction λh=>hn (.inr h)
  rw [he];exact h3 (j-1) (by omega)
theorem agn (zs:List Int):∀ i j,i<=j->j<(rP zs).toArray.size->(rP zs).toArray[i]!<=(rP zs).toArray[j]!:=by
 intro i j hij hj;have hp:(rP zs).Pairwise (λa b=>decide (a<=b)=true):=List.pairwise_mergeSort (λa b c h1 h2=>by simp at *;omega) (λa b=>by simp;omega) zs
 rcases Nat.eq_or_lt_of_le hij with e | h
 ·subst e;exact Int.le_refl _
 have hj':j<(rP zs).length:=by simpa using hj
 have:=List.pairwise_iff_getElem.1 hp i j (by omega) hj' h;simp only [fD] at this;have hi':i<(rP zs).toArray.size:=by rw [qH];omega
 rw [getElem!_pos (rP zs).toArray i hi',getElem!_pos (rP zs).toArray j hj]
 simpa using this
def xK (zs:List Int):List Int:=Lib.compact (rP zs)
theorem al7 (zs:List Int):(xK zs).Pairwise (·<·):=(ZU (rP zs).toArray (agn zs) (rP zs).length (by simp)).1
theorem al5 (zs:List Int) (x:Int):x∈xK zs↔x∈zs:=by
 obtain⟨-,h2,h3⟩:=ZU (rP zs).toArray (agn zs) (rP zs).length (by simp);have hm:x∈rP zs↔x∈zs:=List.mem_mergeSort;rw [<- hm]
 constructor
 ·intro h;obtain⟨j,hj,rfl⟩:=h2 x h;rw [getElem!_pos _ _ (by simpa using hj)];simp
 intro h;obtain⟨j,hj,e⟩:=List.getElem_of_mem h;have:=h3 j hj;rw [getElem!_pos _ _ (by simpa using hj)] at this;rw [List.getElem_toArray,e] at this;exact this
theorem abY:∀ (l:List Int) (lo hi:Int),l.Pairwise (·<·)->(∀ x∈l,lo<=x/\x<=hi)->l.length<=(hi-lo+1).toNat
 | [],_,_,_,_=>nK _
 | x::l,lo,hi,hp,hb=>by
  have h1:=hb x (jZ ..);have h2:=List.pairwise_cons.1 hp;have:=abY l (x+1) hi h2.2 (λy hy=>⟨by have:=h2.1 y hy;omega,(hb y (mZ _ hy)).2⟩);rw [dY];omega
namespace N
def rl (cs:List Int) (s:Int) (a:Nat):Nat:=((cs.drop a).takeWhile λc=>uK s c).length
def nx (cs:List Int) (x:Item) (a:Nat):List Nat :=
 if x.2=0 then (if rl cs x.1 a=0 then [] else [a+1])
 else if x.2=1 then (List.range (rl cs x.1 a+1)).map (a+·)
 else ((List.range (rl cs x.1 a+1)).filter λd=>d % 2==0).map (a+·)
theorem Nr (cs:List Int) (s:Int) (a:Nat) (h:a<=cs.length):a+rl cs s a<=cs.length:=by
 have:=(List.takeWhile_sublist (l:=cs.drop a) (λc=>uK s c)).length_le;rw [gy] at this;unfold rl;omega
theorem anh (cs:List Int) (x:Item) (a b:Nat) (h:a<=cs.length) (hb:b∈nx cs x a):a<=b/\b<=cs.length:=by
 have h1:=Nr cs x.1 a h;unfold nx at hb
 split at hb
 ·split at hb
  ·exact absurd hb iH
  rename_i h0
  have:=fU.1 hb;omega
 split at hb
 ·obtain⟨d,hd,rfl⟩:=jM.1 hb;have:=oM.1 hd;omega
 obtain⟨d,hd,rfl⟩:=jM.1 hb;have:=oM.1 (List.mem_filter.1 hd).1;omega
theorem aro (cs:List Int) (x:Item) (a:Nat) (h:a<=cs.length):(nx cs x a).length<=cs.length+1:=by
 have h1:=Nr cs x.1 a h;unfold nx
 split
 ·split
  ·exact nK _
  simp
 split
 ·simp only [aV,wF];omega
 have:=List.length_filter_le (λd=>d % 2==0) (List.range (rl cs x.1 a+1));rw [wF] at this;simp only [aV];omega
theorem acD {cs:List Int} {s:Int} {a k:Nat} (h:k<rl cs s a):∃ c,cs[a+k]?=some c/\uK s c=true:=by
 obtain⟨c,h1,h2⟩:=(Yt (λc=>uK s c) (cs.drop a) (rl cs s a)).2 aU k h;exact⟨c,by rwa [xY] at h1,h2⟩
theorem aun {cs:List Int} {s:Int} {a:Nat} (h:a+rl cs s a<cs.length):∃ c,cs[a+rl cs s a]?=some c/\uK s c=false:=by
 obtain⟨c,hc⟩:=bV cs (a+rl cs s a) h;refine⟨c,hc,?_⟩;rw [Bool.eq_false_iff];intro hh;have:=(Yt (λc=>uK s c) (cs.drop a) (rl cs s a+1)).1 (λx hx=>by
  rcases gZ x (rl cs s a) with h1 | h1
  ·obtain⟨d,h2,h3⟩:=acD h1;exact⟨d,by rw [xY];exact h2,h3⟩
  obtain rfl:x=rl cs s a:=by omega
  exact⟨c,by rw [xY];exact hc,hh⟩)
 unfold rl at this;omega
end N
def lC (cs:List Int) (x:N.Item) (a:Int):List Int:=(N.nx cs x a.toNat).map λn:Nat=>(n:Int)
def qh (cs:List Int) (l:List N.Item) (a:Int) (k:Nat):List Int:=(l.take k).foldl (λout x=>xK (out.flatMap (lC cs x))) [a]
theorem TQ (cs:List Int) (l:List N.Item) (a:Int):qh cs l a 0=[a]:=by simp [qh]
theorem Xe (cs:List Int) (l:List N.Item) (a:Int) (k:Nat) (x:N.Item) (h:l[k]?=some x):qh cs l a (k+1)=xK ((qh cs l a k).flatMap (lC cs x)):=by
 unfold qh;rw [jw,h,List.foldl_append]
 rfl
theorem akf (cs:List Int) (x:N.Item) (a:Int) (h0:0<=a) (h1:a<=cs.length):∀ b∈lC cs x a,0<=b/\b<=cs.length:=by
 intro b hb;obtain⟨n,hn,rfl⟩:=jM.1 hb;have:=N.anh cs x a.toNat n (by omega) hn;omega
theorem agV (cs:List Int) (x:N.Item) (a:Int) (h0:0<=a) (h1:a<=cs.length):(lC cs x a).length<=cs.length+1:=by
 unfold lC;rw [aV];exact N.aro cs x a.toNat (by omega)
theorem amz (cs:List Int) (x:N.Item) (out:List Int) (h:∀ b∈out,0<=b/\b<=cs.length):∀ b∈out.flatMap (lC cs x),0<=b/\b<=cs.length:=by
 intro b hb;obtain⟨a,ha,hb⟩:=List.mem_flatMap.1 hb;exact akf cs x a (h a ha).1 (h a ha).2 b hb
theorem Zx (cs:List Int) (l:List N.Item) (a:Int) (h0:0<=a) (h1:a<=cs.length):∀ k,k<=l.length->∀ b∈qh cs l a k,0<=b/\b<=cs.length
 | 0,_=>by
  rw [TQ];intro b hb;rw [fU.1 hb];exact⟨h0,h1⟩
 | k+1,hk=>by
  rw [Xe cs l a k _ (dW (by omega))];intro b hb;exact amz cs _ _ (Zx cs l a h0 h1 k (by omega)) b ((al5 _ b).1 hb)
theorem avz (cs:List Int) (l:List N.Item) (a:Int) (h0:0<=a) (h1:a<=cs.length) (k:Nat) (hk:k<=l.length):(qh cs l a k).length<=cs.length+1:=by
 cases k with
 | zero=>rw [TQ];simp
 | succ k =>
  have hm:=Zx cs l a h0 h1 (k+1) hk;rw [Xe cs l a k _ (dW (by omega))] at hm ⊢;have:=abY _ 0 cs.length (al7 _) hm;omega
theorem Y8 (cs:List Int) (x:N.Item):∀ (out:List Int),(∀ b∈out,0<=b/\b<=cs.length)->(out.flatMap (lC cs x)).length<=out.length*(cs.length+1)
 | [],_=>by simp
 | a::t,h=>by
  have ih:=Y8 cs x t (λb hb=>h b (mZ _ hb));have ha:=h a (jZ ..);have:=agV cs x a ha.1 ha.2;rw [pq,bC,dY,Nat.succ_mul];omega
end
section
open Go.Shelf
attribute [local go_sem] Oper.semAt_some
theorem acL (set c:Int) (b:Bool) (h:N.uK set c=b) (w:World):Calls prog 309 #[ah set, ah c] w λe w'=>e = .returned (.bool b)/\w=w':=by
 rw [<- h];exact V7 set c w
theorem Zl (p:Option Addr) (set a:Int) (w:World) :
  Calls prog 334 #[.pointer p, ah set, ah a] w λe w'=>e = .returned (.func (.func 338) #[] #[aA (w.heap.size+1+1), aA (w.heap.size), aA (w.heap.size+1)]) /\
   ((w.alloc (.cells #[.pointer p] 426)).alloc (.cells #[ah set] 2)).alloc (.cells #[ah a] 3)=w':=by
 go_in
 go_wp2
 go_ret
 exact⟨rfl,rfl⟩
def yu (a k:Nat):List Nat:=(List.range k).map (a+1+·)
theorem aov (a k:Nat):yu a (k+1)=yu a k++[a+k+1]:=by
 unfold yu;rw [List.range_succ,gX];simp;omega
theorem aaI (a k:Nat):(yu a k).length=k:=by simp [yu]
def Yz (w:World) (b:Nat):Nat:=match w.cell? ⟨b,0,none⟩ with | some v=>(intOf v).toNat | none=>0
theorem ae1 {w:World} {b k:Nat} {t:TypeId} (h:aC w b t #[ah (k:Int)]):Yz w b=k:=by
 unfold Yz;rw [(h.cell 0).trans (show _=some (Value.int .i64 (k:Int)) from rfl)];simp [intOf]
theorem YE (n:Nat) (W0:World) (mb:Nat) (cv:Value) (cs:List Int) (hM:aC W0 mb 403 #[cv]) (hC:aN W0 cv cs) (hz:cs.length<=16777216) (set:Int) (a0:Nat) (ha0:a0<=cs.length) (ba bY bs:Nat)
  (hd:W0.heap.size<=ba) (hdy:ba≠bY) (hds:ba≠bs) (l:Nat) (W1:World)
  (hA:Agree W0 W1) (h1:aC W1 ba 3 #[.int .i64 (a0:Int)]) (h2:aC W1 bY 426 #[.pointer (some ⟨mb,0,none⟩)]) (h3:aC W1 bs 2 #[.int .i64 set]) :
  Sz (n+1) prog 338 #[.pointer (some ⟨ba,0,none⟩), .pointer (some ⟨bY,0,none⟩), .pointer (some ⟨bs,0,none⟩)] (λx:Nat=>#[.int .i64 x]) (λk=>k=ba) (Cj W0 ba bY bs) (λpre x=>x=a0+pre.length+1/\pre.length<N.rl cs set a0)
   (λxs _=>xs=yu a0 (N.rl cs set a0)) l W1:=by
 intro J Jx hJ hJx hY h0;have HY:=bx hY;have HJ:=bx hJ;have HM:=bx hM;have HC:=bx hC;have DY:=N.Nr cs set a0 ha0;obtain⟨r,hr⟩:∃ r,r=N.rl cs set a0:=⟨_,rfl⟩
 rw [<- hr] at DY;have HR:=bx hr;obtain⟨ao,cap,rfl⟩:=hC.slice;clear hY hJ hM hC hr;refine callsIn_of_wp func338 rfl trivial ?_;simp only [ntmps338,qH,dY,iG,Nat.reduceAdd,Nat.reduceSub,rE,qW,ou,qQ,iJ,jd]
 gi_wp2
 refine wpIn_wide.2 (wp_scope_straight ((wpIn_wide (n:=n+1)).1 ?_))
 gi_wp2
 refine wpIn_label ?_
 gi_wp2
 gi_loopw [] (λwr=>∃ k:Nat,k<=r/\Box (Agree W0 wr)/\Box (aC wr ba 3 #[.int .i64 ((a0+k:Nat):Int)])/\Box (aC wr bY 426 #[.pointer (some ⟨mb,0,none⟩)])/\Box (aC wr bs 2 #[.int .i64 set])/\Box (J (yu a0 k) wr))
  (λwr=>a0+r-Yz wr ba)
 ·exact⟨0,nK _,⟨hA⟩,⟨h1⟩,⟨h2⟩,⟨h3⟩,⟨h0⟩⟩
 obtain⟨k,hk,ha,hba,hby,hbs,hj⟩:=hrel;obtain⟨p,hp⟩:∃ p,p=a0+k:=⟨_,rfl⟩
 rw [<- hp] at hba;have HP:=bx hp;have HAT:=bx (ae1 hba.o);have c0:wr.cell? ⟨ba,0,none⟩=some (.int .i64 ((p:Nat):Int)):=(hba.o.cell 0).trans rfl;have c1:wr.cell? ⟨bY,0,none⟩=some (.pointer (some ⟨mb,0,none⟩)):=(hby.o.cell 0).trans rfl;have c2:wr.cell? ⟨bs,0,none⟩=some (.int .i64 set):=(hbs.o.cell 0).trans rfl;have c3:wr.cell? ⟨mb,0,none⟩=some (.slice ao cs.length cap):=((show aC wr mb 403 #[.slice ao cs.length cap] from(ha.o.block mb HM.o.lt).trans HM.o).cell 0).trans rfl;clear h0 h1 h2 h3 hA;have hpr:p<=a0+r:=by omega
 clear hp
 by_cases hlt:p<cs.length
 ·obtain⟨c,hc⟩:=bV cs p hlt;obtain⟨g,off,cap2,hg1,hg2,hg3,hg4,hg5⟩:=HC.o.get (by rintro rfl;simp at hlt);obtain⟨rfl,rfl⟩:=dQ hg1;have hcy:wr.cell? ⟨g,off+p,none⟩=some (.int .i64 c):=(World.cell?_of_block (ha.o.block g hg4)).trans (hg5 _ c hc);have hd1:decide (((p:Nat):Int)<(cs.length:Int))=true:=bD (by omega);unfold maxLen at hg3;have ng:=bx hc;clear hg1 hg5 hc
  by_cases hkr:k<r
  ·have HAS:=bx (show N.uK set c=true by
    obtain⟨d,h5,h6⟩:=N.acD (HR.o▸hkr);rw [<- HP.o] at h5;have:=ng.o.symm.trans h5
    cases this;exact h6)
   have HYW:=bx (λW2 (ht:Turns (λk=>k=ba) wr W2)=>HY.o (yu a0 k) (p+1) W2 (HJ.o _ _ _ hj.o ht) ⟨by rw [aaI,HP.o],by rw [aaI,<- HR.o];exact hkr⟩)
   gi_wp2
   refine wpIn_wide.2 ?_
   go_quiet ((go_at_call 309;exact RQ (acL set c true HAS.o _)))
   have jR:=bx (Turns.of_below (own:=λk=>k=ba) (below_drewN (Below.refl wr.heap.size wr) nq));have hy0:=HYW.o (wr.drewN nq) jR.o;simp only [show ((p+1:Nat):Int)=(p:Int)+1 by omega] at hy0;obtain⟨fn,tmps,assign,body,hy,lT⟩:=hy0;have rV:=bx lT;clear lT
   gi_wp2
   refine rV.o.mono ?_;rintro e W3 (⟨rfl,hj3,hk3⟩ | ⟨rfl,hx3⟩)
   ·have SH:aC W3 ba 3 #[.int .i64 ((p:Nat):Int)]:=(hk3.block _ (.inr (.inl rfl))).trans hba.o;have HB3:=bx SH;have sK:=bx hj3;have mJ:=bx hk3;have x0:W3.cell? ⟨ba,0,none⟩=some (.int .i64 ((p:Nat):Int)):=(SH.cell 0).trans rfl;have f0:=SH.frozen 0;clear hj3 hk3 SH
    gi_wp2
    go_roundw
    ·
     have hT:=Turns.setCell (own:=λk=>k=ba) W3 (p:=⟨ba,0,none⟩) rfl (.int .i64 ((p:Nat)+1:Int));refine⟨k+1,hkr,⟨?_⟩,⟨?_⟩,⟨?_⟩,⟨?_⟩,⟨?_⟩⟩
     ·exact(((ha.o.turns jR.o (λ_ h=>by omega)).holds mJ.o (λ_ h=>.inl h))).turns hT (λ_ h=>by omega)
     ·have:=HB3.o.bJ 0 (.int .i64 ((p:Nat)+1:Int));rw [show ((a0+(k+1):Nat):Int)=(p:Int)+1 by have:=HP.o;omega];exact this
     ·exact hT.blk ((mJ.o.block _ (.inr (.inr (.inl rfl)))).trans hby.o) (by omega)
     ·exact hT.blk ((mJ.o.block _ (.inr (.inr (.inr rfl)))).trans hbs.o) (by omega)
     rw [aov,<- HP.o];exact HJ.o _ _ _ sK.o hT
    have h5:=ae1 (k:=p+1) (HB3.o.bJ 0 (.int .i64 ((p:Nat)+1:Int)));have h6:=HAT.o;have h7:=HP.o;omega
   gi_wp2
   rw [Exit.noGoto_normal]
   go_end0
   exact⟨⟨_,rfl⟩, .inr ⟨_,hx3⟩⟩
  obtain rfl:k=r:=by have:=HP.o;omega
  have HAS:=bx (show N.uK set c=false by
   obtain⟨d,h5,h6⟩:=N.aun (cs:=cs) (s:=set) (a:=a0) (by rw [<- HR.o,<- HP.o];exact hlt);rw [<- HR.o,<- HP.o] at h5;have:=ng.o.symm.trans h5
   cases this;exact h6)
  gi_wp2
  refine wpIn_wide.2 ?_
  go_quiet ((go_at_call 309;exact RQ (acL set c false HAS.o _)))
  have jR:=bx (Turns.of_below (own:=λk=>k=ba) (below_drewN (Below.refl wr.heap.size wr) nq))
  gi_wp2
  rw [Exit.noGoto_normal]
  go_end0
  exact⟨⟨_,rfl⟩, .inl ⟨_,by rw [HR.o],HJ.o _ _ _ hj.o jR.o⟩⟩
 have hkr:k=r:=by have:=HP.o;omega
 have hd1:decide (((p:Nat):Int)<(cs.length:Int))=false:=dh (by omega)
 gi_wp2
 refine wpIn_wide.2 ?_
 go_quiet (fail)
 have jR:=bx (Turns.of_below (own:=λk=>k=ba) (below_drewN (Below.refl wr.heap.size wr) nq))
 gi_wp2
 rw [Exit.noGoto_normal]
 go_end0
 exact⟨⟨_,rfl⟩, .inl ⟨_,by rw [hkr,HR.o],HJ.o _ _ _ hj.o jR.o⟩⟩
theorem four (w:World) (c0 c1 c2 c3:Array Value) (T0 T1 T2 T3:TypeId) :
  aC ((((w.alloc (.cells c0 T0)).alloc (.cells c1 T1)).alloc (.cells c2 T2)).alloc (.cells c3 T3)) w.heap.size T0 c0/\aC ((((w.alloc (.cells c0 T0)).alloc (.cells c1 T1)).alloc (.cells c2 T2)).alloc (.cells c3 T3)) (w.heap.size+1) T1 c1 /\
   aC ((((w.alloc (.cells c0 T0)).alloc (.cells c1 T1)).alloc (.cells c2 T2)).alloc (.cells c3 T3)) (w.heap.size+1+1) T2 c2/\aC ((((w.alloc (.cells c0 T0)).alloc (.cells c1 T1)).alloc (.cells c2 T2)).alloc (.cells c3 T3)) (w.heap.size+1+1+1) T3 c3 /\
   ak w ((((w.alloc (.cells c0 T0)).alloc (.cells c1 T1)).alloc (.cells c2 T2)).alloc (.cells c3 T3))/\((((w.alloc (.cells c0 T0)).alloc (.cells c1 T1)).alloc (.cells c2 T2)).alloc (.cells c3 T3)).heap.size=w.heap.size+4:=by
 refine⟨(((aC.new w _ _).alloc _).alloc _).alloc _,?_,?_,?_,(((aZ.alloc aU _).alloc (by simp) _).alloc (by simp;omega) _).alloc (by simp;omega) _,by simp⟩
 ·have:=((aC.new (w.alloc (.cells c0 T0)) T1 c1).alloc (.cells c2 T2)).alloc (.cells c3 T3)
  simpa using this
 ·have:=(aC.new ((w.alloc (.cells c0 T0)).alloc (.cells c1 T1)) T2 c2).alloc (.cells c3 T3)
  simpa using this
 have:=aC.new (((w.alloc (.cells c0 T0)).alloc (.cells c1 T1)).alloc (.cells c2 T2)) T3 c3
 simpa using this
theorem LY (w:World) (o:Obj):ak w (w.alloc o):=aZ.alloc aU o
theorem avI {w:World} {g:Nat} {T:TypeId} {x:Int} (h:aC w g T #[ah x]):aN w (.slice (some ⟨g,0,none⟩) 1 1) [x] :=
 .inr ⟨g,0,none,1,rfl,by simp,by unfold maxLen;omega,λ_=>⟨rfl,h.lt,λi y hy=>by
  match i,hy with
  | 0,hy =>
   simp only [rQ,iQ] at hy;subst hy;exact(h.cell 0).trans rfl
  | i+1,hy=>simp at hy⟩⟩
theorem QH {P:Program} {fn:Func} {p:Tmp} {ty:TypeId} (h:fn.results=#[.cell p ty]) (tmps:Array Value) (w:World) (g:Nat) (v:Value) (hp:tmps.getD p undef = aA g) (hc:w.cell? ⟨g,0,none⟩=some v)
  (ha:(isAgg ty).run P w = .ok false w):(results fn tmps).run P w = .ok v w:=by
 have hp':tmps[p]?.getD undef = aA g:=by simpa using hp
 simp [results,h,hp',asAddr,loadVar,ha,hc]
theorem akC (mb:Nat) (cv:Value) (cs:List Int) (set:Int) (a:Nat) (w:World) (hM:aC w mb 403 #[cv]) (hC:aN w cv cs) (hz:cs.length<=16777216) (ha:a<=cs.length) :
  Calls prog 327 #[aA mb, ah set, ah a] w λe w'=>(∃ v,e = .returned v/\aN w' v (lC cs (set,0) a))/\ak w w':=by
 have HM:=bx hM;have HC:=bx hC;have hml:=hM.lt;clear hM hC;refine(callsIn_wide (n:=9)).1 (callsIn_of_wp_marks func327 rfl trivial (wpIn_wide.2 ?_));simp only [ntmps327,qH,dY,iG,Nat.reduceAdd,Nat.reduceSub,rE,qW,ou,qQ,iJ,jd];go_wp2_with (go_at_call 334;refine aP (Zl _ _ _ _) ?_)
 obtain⟨hb0,hb1,hb2,hb3,hbL,hsz⟩:=four w #[aj] #[aA mb] #[ah set] #[ah (a:Int)] 22 426 2 3;generalize (((w.alloc (.cells #[aj] 22)).alloc (.cells #[aA mb] 426)).alloc (.cells #[ah set] 2)).alloc (.cells #[ah (a:Int)] 3)=wL at hb0 hb1 hb2 hb3 hbL hsz ⊢;have AO:Agree w wL:=.of_below hbL;refine(wpIn_wide (n:=9)).1 (Pn (α:=Nat) (gf:=338) (lb:=#[aA (w.heap.size+1+1+1), aA (w.heap.size+1), aA (w.heap.size+1+1)]) rfl (enters_of func338 (by kernel_rfl) rfl)
  (encs:=λx:Nat=>#[ah x]) (own:=λk=>k=w.heap.size+1+1+1) (keep:=Cj w (w.heap.size+1+1+1) (w.heap.size+1) (w.heap.size+1+1)) (ok:=λpre x=>x=a+pre.length+1/\pre.length<N.rl cs set a) (S:=λxs _=>xs=yu a (N.rl cs set a))
  (λk hk=>by unfold Cj at hk;omega)
  (λW1 ht=>YE 7 w mb cv cs HM.o HC.o hz set a ha (w.heap.size+1+1+1) (w.heap.size+1) (w.heap.size+1+1) (by omega) (by omega) (by omega) _ W1 (AO.turns ht (λ_ h=>h.elim)) (ht.blk hb3 (λh=>h)) (ht.blk hb1 (λh=>h)) (ht.blk hb2 (λh=>h)))
  (λ_=>rfl)
  (λpre W=>pre=[]/\aC W w.heap.size 22 #[aj]/\ak w W)
  (λc _ W=>c = .ret/\N.rl cs set a≠0/\(∃ g,aC W w.heap.size 22 #[.slice (some ⟨g,0,none⟩) 1 1]/\aC W g 3 #[ah ((a+1:Nat):Int)]/\wL.heap.size+2<=g)/\ak w W) ?hI ?hIx ⟨rfl,hb0,hbL⟩
  (λx a1 _=>a1={ tmps:=#[aA mb, ah set, ah (a:Int),undef,undef,undef, aA (w.heap.size), ah (x:Int), aA mb, aA mb, aA mb, ah set, ah (a:Int), .func (.func 338) #[] #[aA (w.heap.size+1+1+1), aA (w.heap.size+1), aA (w.heap.size+1+1)], ah (x:Int),undef,undef],defers:=[] })
  (λ_ _ _ _ h _=>h) ?assign ?body ?done ?stop (λ_ _ _ h _=>h))
 case hI =>
  rintro pre W W' ⟨h1,h2,h3⟩ ht;exact⟨h1,ht.blk h2 (by omega),h3.trans (ht.below h3.size (λk hk=>by omega))⟩
 case hIx =>
  rintro c pre W W' ⟨h1,h2,⟨g,h3,h4,h5⟩,h6⟩ ht;exact⟨h1,h2,⟨g,ht.blk h3 (by omega),ht.blk h4 (by omega),h5⟩,h6.trans (ht.below h6.size (λk hk=>by omega))⟩
 case assign =>
  intro x W K _ hK
  gi_wp2
  exact hK _ _ (Turns.refl _ _) rfl
 case body =>
  rintro pre x a1 W hW ⟨rfl,h1,h2⟩ ⟨rfl,hr⟩ rfl;have HB:=bx h1;have H2:=bx h2;have HR:=bx hr;have l0:=h1.lt;have c0:ay W w.heap.size 0=some (aj):=(h1.cell 0).trans rfl;have f0:=h1.frozen 0;clear h1 h2 hr hb0 hb1 hb2 hb3 hbL AO
  gi_wp2
  have hT1:=Turns.setCell (own:=λk=>k=w.heap.size) W (p:=⟨w.heap.size,0,none⟩) rfl (.slice (some ⟨W.heap.size,0,none⟩) 1 1);have hT:Turns (λk=>k=w.heap.size) W _:=hT1.trans (Turns.alloc _ (.cells #[ah ((a:Int)+1)] 3));have hn:=aC.new (W.setCell ⟨w.heap.size,0,none⟩ (.slice (some ⟨W.heap.size,0,none⟩) 1 1)) 3 #[ah ((a:Int)+1)];rw [show (W.setCell ⟨w.heap.size,0,none⟩ (.slice (some ⟨W.heap.size,0,none⟩) 1 1)).heap.size=W.heap.size by simp [World.setCell]] at hn;exact⟨Holds.zX hT (λk hk=>by omega) (λk hk=>by omega),rfl,by have:=HR.o;simp at this;omega,⟨W.heap.size,(HB.o.bJ 0 _).alloc _,hn,hW⟩,H2.o.trans (hT.below H2.o.size (λk hk=>by omega))⟩
 case stop =>
  rintro c pre W hW ⟨rfl,hr,⟨g,h1,h2,h4⟩,h3⟩ hD;have HD:=bx hD;have H1:=bx h1;have H2:=bx h2;have H3:=bx h3;have HR:=bx hr;clear h1 h2 h3 hr hD hb0 hb1 hb2 hb3 hbL AO;refine wpIn_wide.2 ?_;go_wp2_with fail;refine⟨by simp, .inl ⟨_,_,rfl,run_takeDeferred HD.o,?_⟩⟩;have hT:Turns (λk=>k=wL.heap.size) W (W.putObj wL.heap.size (.deferred none)):=Turns.putObj (own:=λk=>k=wL.heap.size) W rfl (.deferred none);refine⟨_,QH results327 _ _ w.heap.size _ rfl (((hT.blk H1.o (by omega)).cell 0).trans rfl) (isAgg22 _),⟨_,rfl,?_⟩,H3.o.trans (hT.below H3.o.size (λk hk=>by omega))⟩;have hx:lC cs (set,0) a=[((a+1:Nat):Int)]:=by
   unfold lC N.nx;rw [aG rfl,aF (by simpa using HR.o)]
   rfl
  rw [hx];exact avI (hT.blk H2.o (by omega))
 case done =>
  intro xs W hW hS ⟨h1,h2,h3⟩ hD;have hr:N.rl cs set a=0:=by
   have:=congrArg List.length hS;rw [h1,aaI] at this;exact this.symm
  have HR:=bx hr;have H2:=bx h2;have H3:=bx h3;have HD:=bx hD;have c0:ay W w.heap.size 0=some (aj):=(h2.cell 0).trans rfl;have f0:=h2.frozen 0;clear h1 h2 h3 hD hS hr hb0 hb1 hb2 hb3 hbL AO;go_wp2_with fail;have hS:=Turns.setCell (own:=λk=>k=w.heap.size) W (p:=⟨w.heap.size,0,none⟩) rfl (aj);refine⟨by simp, .inl ⟨_,_,rfl,run_takeDeferred ((hS.block _ (by omega) (by omega)).trans HD.o),?_⟩⟩;have hT:Turns (λk=>k=wL.heap.size) (W.setCell ⟨w.heap.size,0,none⟩ (aj)) _:=Turns.putObj (own:=λk=>k=wL.heap.size) _ rfl (.deferred none);refine⟨_,QH results327 _ _ w.heap.size (aj) rfl (((hT.blk (H2.o.bJ 0 _) (by omega)).cell 0).trans rfl) (isAgg22 _),⟨_,rfl,?_⟩,
   (H3.o.trans (hS.below H3.o.size (λk hk=>by omega))).trans (hT.below (by have:=H3.o.size;have:=hS.size;omega) (λk hk=>by omega))⟩
  have hx:lC cs (set,0) a=[]:=by
   unfold lC N.nx;rw [aG rfl,aG (by simpa using HR.o)]
   rfl
  rw [hx];exact .nil
def EZ (xs:List Nat):List Value:=xs.map λn:Nat=>Value.int .i64 (n:Int)
theorem Zj (xs:List Nat) (x:Nat):EZ (xs++[x])=EZ xs++[ah (x:Int)]:=by simp [EZ]
theorem QT:(prog.info? 3).map (λi=>(i.zero,i.size,i.bytes))=some (some (ah 0),1,8):=by kernel_rfl
theorem ah1 (cs:List Int) (set:Int) (a:Nat):N.nx cs (set,1) a=a::yu a (N.rl cs set a):=by
 unfold N.nx yu;rw [aF (by simp),aG rfl,List.range_succ_eq_map,iR,EX]
 congr 1
 apply List.map_congr_left
 intro x _;simp;omega
theorem Vy {w:World} {base n:Nat} {v:Value} {xs:List Nat} (h:w.ownsRow base 3 1 v n (EZ xs)) (hn:n=xs.length):aN w v (xs.map λn:Nat=>(n:Int)) :=
 aN.iy (base:=base) (n:=n) (T:=3) (by rw [EX];exact h) (by simp [hn])
theorem apQ (mb:Nat) (cv:Value) (cs:List Int) (set:Int) (a:Nat) (w:World) (hM:aC w mb 403 #[cv]) (hC:aN w cv cs) (hz:cs.length<=1000000) (ha:a<=cs.length) :
  Calls prog 328 #[aA mb, ah set, ah a] w λe w'=>(∃ v,e = .returned v/\aN w' v (lC cs (set,1) a))/\ak w w':=by
 have HM:=bx hM;have HC:=bx hC;have hml:=hM.lt;clear hM hC;refine(callsIn_wide (n:=9)).1 (callsIn_of_wp_marks func328 rfl trivial (wpIn_wide.2 ?_));simp only [ntmps328,qH,dY,iG,Nat.reduceAdd,Nat.reduceSub,rE,qW,ou,qQ,iJ,jd];go_wp2_with (go_at_call 334;refine aP (Zl _ _ _ _) ?_)
 obtain⟨hb0,hb1,hb2,hb3,hbL,hsz⟩:=four (w.alloc (.cells #[ah (a:Int)] 3)) #[.slice (some ⟨w.heap.size,0,none⟩) 1 1] #[aA mb] #[ah set] #[ah (a:Int)] 22 426 2 3;have hr0:=(((((World.ownsRow_lit (base:=w.heap.size) (e:=3) (size:=1) w #[ah (a:Int)] 1 aU (by unfold maxLen;omega) rfl).alloc (.cells #[.slice (some ⟨w.heap.size,0,none⟩) 1 1] 22)).alloc (.cells #[aA mb] 426)).alloc (.cells #[ah set] 2)).alloc (.cells #[ah (a:Int)] 3))
 have hbL:=(LY w (.cells #[ah (a:Int)] 3)).trans (hbL.mono (LY w _).size);rw [show (w.alloc (.cells #[ah (a:Int)] 3)).heap.size=w.heap.size+1 from by simp] at hb0 hb1 hb2 hb3 hsz;generalize ((((w.alloc (.cells #[ah (a:Int)] 3)).alloc (.cells #[.slice (some ⟨w.heap.size,0,none⟩) 1 1] 22)).alloc (.cells #[aA mb] 426)).alloc (.cells #[ah set] 2)).alloc (.cells #[ah (a:Int)] 3)=wL at hb0 hb1 hb2 hb3 hbL hsz hr0 ⊢;have AO:Agree w wL:=.of_below hbL;have DY:=N.Nr cs set a ha;refine(wpIn_wide (n:=9)).1 (Pn (α:=Nat) (gf:=338) (lb:=#[aA (w.heap.size+1+1+1+1), aA (w.heap.size+1+1), aA (w.heap.size+1+1+1)]) rfl (enters_of func338 (by kernel_rfl) rfl)
  (encs:=λx:Nat=>#[ah x]) (own:=λk=>k=w.heap.size+1+1+1+1) (keep:=Cj w (w.heap.size+1+1+1+1) (w.heap.size+1+1) (w.heap.size+1+1+1)) (ok:=λpre x=>x=a+pre.length+1/\pre.length<N.rl cs set a) (S:=λxs _=>xs=yu a (N.rl cs set a))
  (λk hk=>by unfold Cj at hk;omega)
  (λW1 ht=>YE 7 w mb cv cs HM.o HC.o (by omega) set a ha (w.heap.size+1+1+1+1) (w.heap.size+1+1) (w.heap.size+1+1+1) (by omega) (by omega) (by omega) _ W1 (AO.turns ht (λ_ h=>h.elim)) (ht.blk hb3 (λh=>h)) (ht.blk hb1 (λh=>h)) (ht.blk hb2 (λh=>h)))
  (λ_=>rfl)
  (λpre W=>(∃ v,aC W (w.heap.size+1) 22 #[v]/\W.ownsRow w.heap.size 3 1 v (pre.length+1) (EZ (a::pre))/\∀ g,v.ownBlock=some g->g=w.heap.size\/wL.heap.size+2<=g)/\ak w W)
  (λ_ _ _=>False) ?hI (λ_ _ _ _ h _=>h) ⟨⟨_,hb0,hr0,λg hg=>by cases hg;exact .inl rfl⟩,hbL⟩
  (λx a1 _=>a1={ tmps:=#[aA mb, ah set, ah (a:Int),undef,undef,undef, aj, aA (w.heap.size+1), ah (x:Int), ah (a:Int), .slice (some ⟨w.heap.size,0,none⟩) 1 1, aA mb, aA mb, aA mb, ah set, ah (a:Int), .func (.func 338) #[] #[aA (w.heap.size+1+1+1+1), aA (w.heap.size+1+1), aA (w.heap.size+1+1+1)], ah (x:Int),undef,undef,undef,undef,undef],defers:=[] })
  (λ_ _ _ _ h _=>h) ?assign ?body ?done (λ_ _ _ _ h _=>h.elim) (λ_ _ _ h _=>h))
 case hI =>
  rintro pre W W' ⟨⟨v,h1,h2,h3⟩,h4⟩ ht;exact⟨⟨v,ht.blk h1 (by omega),ht.row h2 (λk hk=>by have:=h3 k hk;omega),h3⟩,h4.trans (ht.below h4.size (λk hk=>by omega))⟩
 case assign =>
  intro x W K _ hK
  gi_wp2
  exact hK _ _ (Turns.refl _ _) rfl
 case body =>
  rintro pre x a1 W hW ⟨⟨v,h1,h2,h3⟩,h4⟩ ⟨hx,hr⟩ rfl;have hlt:=h2.lt;have hs0:=h4.size;have hc:ay W (w.heap.size+1) 0=some v:=(h1.cell 0).trans rfl;have hf:=h1.frozen 0;have HV:=bx h1;have HL:=bx hlt;have H3:=bx h3;have H4:=bx h4;have HR:=bx h2;have nC:=bx (Zj (a::pre) x);obtain⟨i0,hi,hz0,hz1,hz2⟩:=info_parts QT;have qP:=bx (show v.ownBlock≠some (w.heap.size+1) from λe=>by rcases h3 _ e with h | h <;> omega);have hpl:pre.length<1000000:=by omega
  obtain⟨og,oc,rfl⟩:=ownsRow_succ h2;clear h1 h2 h3 h4 hb0 hb1 hb2 hb3 hbL hr hr0 hlt AO hx
  gi_wp2_with (gi_at_builtin;refine wpListIn_append_own_at _ rfl _ _ 22 rfl w.heap.size 3 i0 (ah 0) 1 8 underlying22 hi hz0 hz1 hz2 rfl (by decide) (.slice (some ⟨og,0,none⟩) (pre.length+1) oc) _ _ rfl (HR.o.alloc _) ⟨W.heap.size,0,none⟩ 1 1 [ah (x:Int)] rfl rfl (cell_one_new _ _ _) (by simp [Value.oneCell']) (by unfold maxLen;omega) (by omega) (by simp;omega) ?_;intro v' w1 hown' hgrow _ hat;obtain⟨g',cap',rfl⟩:=ownsRow_succ hown';have hv1:=(HV.o.alloc _).grown hgrow (Ne.symm qP.o);have hc1:=hv1.cell 0;have hf1:=hv1.frozen 0;simp at hc1)
  have hg':g'=og\/g'=W.heap.size+1:=by
   rcases hat with h | h
   ·left;simpa [Value.ownBlock] using h
   right;simpa [Value.ownBlock] using h
  have hog:=H3.o og rfl;have U1:=(HL.o og rfl).2;have hT:Turns (λk=>k=og\/k=w.heap.size+1) W (w1.setCell ⟨w.heap.size+1,0,none⟩ (.slice (some ⟨g',0,none⟩) (pre.length+1+1) cap')) :=
   ((Turns.alloc W _).trans (Hw hgrow (λk hk=>.inl (by simpa [Value.ownBlock] using hk.symm)))).trans (Turns.setCell _ (.inr rfl) _)
  refine⟨Holds.zX hT (λk hk=>by unfold Cj at hk;omega) (λk hk h=>by unfold Cj at hk;omega),⟨_,hv1.bJ 0 _,?_,λg hg=>?_⟩,H4.o.trans (hT.below H4.o.size (λk hk=>by omega))⟩
  ·rw [<- jd,nC.o];have:=(Turns.setCell (own:=λk=>k=w.heap.size+1) w1 (p:=⟨w.heap.size+1,0,none⟩) rfl (.slice (some ⟨g',0,none⟩) (pre.length+1+1) cap')).row hown' (λk hk=>by simp [Value.ownBlock] at hk;omega)
   simpa using this
  have:g=g':=by simpa [Value.ownBlock] using hg.symm
  omega
 case done =>
  intro xs W hW hS ⟨⟨v,h1,h2,h3⟩,h4⟩ hD;have c0:ay W (w.heap.size+1) 0=some v:=(h1.cell 0).trans rfl;have H2:=bx h4;have HD:=bx hD;have HR:=bx h2;have HS:=bx hS;have H3:=bx h3;clear h1 h2 h3 h4 hD hb0 hb1 hb2 hb3 hbL hS hr0 AO;go_wp2_with fail;refine⟨by simp, .inl ⟨_,_,rfl,run_takeDeferred HD.o,?_⟩⟩;refine⟨_,results_tmp rfl _ _ _,?_⟩;have hr:=(Turns.putObj (own:=λk=>k=wL.heap.size) W rfl (.deferred none)).row HR.o (λk hk=>by rcases H3.o k hk with h | h <;> omega);refine⟨⟨v,rfl,?_⟩,H2.o.trans ((Turns.putObj (own:=λk=>k=wL.heap.size) W rfl _).below H2.o.size (λk hk=>by omega))⟩;have hi:=Vy hr (by simp);rw [HS.o,<- ah1] at hi;exact hi
def evens (a:Nat) (xs:List Nat):List Nat:=xs.filter λn=>(n-a) % 2==0
theorem aod (a:Nat) (xs:List Nat):(evens a xs).length<=xs.length:=List.length_filter_le _ _
theorem atN (a:Nat) (xs:List Nat) (x:Nat) (h:(x-a) % 2=0):evens a (xs++[x])=evens a xs++[x]:=by simp [evens,h]
theorem auA (a:Nat) (xs:List Nat) (x:Nat) (h:(x-a) % 2≠0):evens a (xs++[x])=evens a xs:=by simp [evens,h]
theorem avn (cs:List Int) (set:Int) (a:Nat):N.nx cs (set,2) a=a::evens a (yu a (N.rl cs set a)):=by
 have h:=ah1 cs set a;unfold N.nx at h ⊢;rw [aF (by simp),aG rfl] at h;rw [aF (by simp),aF (by simp)];have e:(λd:Nat=>d % 2==0)=((λn:Nat=>(n-a) % 2==0)∘(a+·)):=by
  funext d
  simp
 rw [e,<- List.filter_map,h];simp [evens]
theorem ajp (w:World) (cs cs1 cs2:Array Value) (T0 T1 T2:TypeId) :
  aC (((w.alloc (.cells cs T0)).alloc (.cells cs1 T1)).alloc (.cells cs2 T2)) w.heap.size T0 cs/\aC (((w.alloc (.cells cs T0)).alloc (.cells cs1 T1)).alloc (.cells cs2 T2)) (w.heap.size+1) T1 cs1/\aC (((w.alloc (.cells cs T0)).alloc (.cells cs1 T1)).alloc (.cells cs2 T2)) (w.heap.size+1+1) T2 cs2 /\
   ak w (((w.alloc (.cells cs T0)).alloc (.cells cs1 T1)).alloc (.cells cs2 T2))/\(((w.alloc (.cells cs T0)).alloc (.cells cs1 T1)).alloc (.cells cs2 T2)).heap.size=w.heap.size+3:=by
 refine⟨((aC.new w _ _).alloc _).alloc _,?_,?_,((aZ.alloc aU _).alloc (by simp) _).alloc (by simp;omega) _,by simp⟩
 ·have:=(aC.new (w.alloc (.cells cs T0)) T1 cs1).alloc (.cells cs2 T2)
  simpa using this
 have:=aC.new ((w.alloc (.cells cs T0)).alloc (.cells cs1 T1)) T2 cs2
 simpa using this
theorem apX (mb:Nat) (cv:Value) (cs:List Int) (set:Int) (a:Nat) (w:World) (hM:aC w mb 403 #[cv]) (hC:aN w cv cs) (hz:cs.length<=1000000) (ha:a<=cs.length) :
  Calls prog 329 #[aA mb, ah set, ah a] w λe w'=>(∃ v,e = .returned v/\aN w' v (lC cs (set,2) a))/\ak w w':=by
 have HM:=bx hM;have HC:=bx hC;have hml:=hM.lt;clear hM hC;refine(callsIn_wide (n:=9)).1 (callsIn_of_wp_marks func329 rfl trivial (wpIn_wide.2 ?_));simp only [ntmps329,qH,dY,iG,Nat.reduceAdd,Nat.reduceSub,rE,qW,ou,qQ,iJ,jd];go_wp2_with fail;obtain⟨hba,hb7,hb8,UD,hszA⟩:=ajp w #[ah (a:Int)] #[ah (a:Int)] #[.slice (some ⟨w.heap.size+1,0,none⟩) 1 1] 3 3 22;have QL:=(World.ownsRow_lit (base:=w.heap.size) (e:=3) (size:=1) (w.alloc (.cells #[ah (a:Int)] 3)) #[ah (a:Int)] 1 (by simp) (by unfold maxLen;omega) rfl).alloc (.cells #[.slice (some ⟨w.heap.size+1,0,none⟩) 1 1] 22);rw [show (w.alloc (.cells #[ah (a:Int)] 3)).heap.size=w.heap.size+1 from by simp] at QL;generalize ((w.alloc (.cells #[ah (a:Int)] 3)).alloc (.cells #[ah (a:Int)] 3)).alloc (.cells #[.slice (some ⟨w.heap.size+1,0,none⟩) 1 1] 22)=wA at hba hb7 hb8 UD hszA QL ⊢;refine wp_region_still_tail 5 (by kernel_rfl) (by kernel_rfl) ?_;simp only [wM,qN,List.drop_succ_cons,List.drop_zero]
 change wpStill _ _ (World.drew wA) (λa'=>wpList _ _ _ _ a' (World.drew wA)) _ _
 have hTd:Turns (λ_=>False) wA wA.drew:=Turns.drew wA;obtain⟨wB,hwB⟩:∃ wB,wB=wA.drew:=⟨_,rfl⟩
 rw [<- hwB] at hTd ⊢;have hba:=hTd.blk hba (λh=>h);have hb8:=hTd.blk hb8 (λh=>h);have hrB:=hTd.row QL (λ_ _ h=>h);have hbB:ak w wB:=UD.trans (hTd.below UD.size (λ_ h=>h.elim));have Zd:wB.heap.size=w.heap.size+3:=by rw [hwB];exact hszA
 have c5:wB.cell? ⟨w.heap.size,0,none⟩=some (ah (a:Int)):=(hba.cell 0).trans rfl;have ap8:=bx Zd;clear hwB hTd UD hszA QL hb7 Zd
 still_step
 still_step
 still_step
 still_step
 still_step
 refine wpStill_nil ?_
 change wpList _ _ _ _ _ _
 go_wp2_with (go_at_call 334;refine aP (Zl _ _ _ _) ?_)
 clear c5;have Zd:=Nat.le_of_eq ap8.o.symm;obtain⟨hb1,hb2,hb3,hbL,hsz⟩:=ajp wB #[aA mb] #[ah set] #[ah (a:Int)] 426 2 3;have hr0:=((hrB.alloc (.cells #[aA mb] 426)).alloc (.cells #[ah set] 2)).alloc (.cells #[ah (a:Int)] 3);generalize ((wB.alloc (.cells #[aA mb] 426)).alloc (.cells #[ah set] 2)).alloc (.cells #[ah (a:Int)] 3)=wL at hb1 hb2 hb3 hbL hsz hr0 ⊢;have hb0:=hb8.below hbL (by omega);have hbox:=hba.below hbL (by omega);have hbL:=bt hbB hbL;have AO:Agree w wL:=.of_below hbL;have DY:=N.Nr cs set a ha;refine(wpIn_wide (n:=9)).1 (Pn (α:=Nat) (gf:=338) (lb:=#[aA (wB.heap.size+1+1), aA (wB.heap.size), aA (wB.heap.size+1)]) rfl (enters_of func338 (by kernel_rfl) rfl)
  (encs:=λx:Nat=>#[ah x]) (own:=λk=>k=wB.heap.size+1+1) (keep:=Cj w (wB.heap.size+1+1) (wB.heap.size) (wB.heap.size+1)) (ok:=λpre x=>x=a+pre.length+1/\pre.length<N.rl cs set a) (S:=λxs _=>xs=yu a (N.rl cs set a))
  (λk hk=>by unfold Cj at hk;omega)
  (λW1 ht=>YE 7 w mb cv cs HM.o HC.o (by omega) set a ha (wB.heap.size+1+1) (wB.heap.size) (wB.heap.size+1) (by omega) (by omega) (by omega) _ W1 (AO.turns ht (λ_ h=>h.elim)) (ht.blk hb3 (λh=>h)) (ht.blk hb1 (λh=>h)) (ht.blk hb2 (λh=>h)))
  (λ_=>rfl)
  (λpre W=>(∃ v,aC W w.heap.size 3 #[ah (a:Int)]/\aC W (w.heap.size+1+1) 22 #[v]/\W.ownsRow w.heap.size 3 1 v ((evens a pre).length+1) (EZ (a::evens a pre))/\∀ g,v.ownBlock=some g->g=w.heap.size+1\/wL.heap.size+2<=g)/\ak w W)
  (λ_ _ _=>False) ?hI (λ_ _ _ _ h _=>h) ⟨⟨_,hbox,hb0,hr0,λg hg=>by cases hg;exact .inl rfl⟩,hbL⟩
  (λx a1 _=>a1={ tmps:=#[aA mb, ah set, ah (a:Int),undef,undef, aA (w.heap.size), aj, aA (w.heap.size+1+1), ah (x:Int), ah (a:Int), .slice (some ⟨w.heap.size+1,0,none⟩) 1 1, aA mb, aA mb, aA mb, ah set, ah (a:Int), .func (.func 338) #[] #[aA (wB.heap.size+1+1), aA (wB.heap.size), aA (wB.heap.size+1)], ah (x:Int),undef,undef,undef,undef,undef,undef,undef,undef,undef,undef],defers:=[] })
  (λ_ _ _ _ h _=>h) ?assign ?body ?done (λ_ _ _ _ h _=>h.elim) (λ_ _ _ h _=>h))
 case hI =>
  rintro pre W W' ⟨⟨v,h0,h1,h2,h3⟩,h4⟩ ht;exact⟨⟨v,ht.blk h0 (by omega),ht.blk h1 (by omega),ht.row h2 (λk hk=>by have:=h3 k hk;omega),h3⟩,h4.trans (ht.below h4.size (λk hk=>by omega))⟩
 case assign =>
  intro x W K _ hK
  gi_wp2
  exact hK _ _ (Turns.refl _ _) rfl
 case body =>
  rintro pre x a1 W hW ⟨⟨v,h0,h1,h2,h3⟩,h4⟩ ⟨hx,hr⟩ rfl;have c5:ay W w.heap.size 0=some (ah (a:Int)):=(h0.cell 0).trans rfl;have H0:=bx h0;have HX:=bx hx;have hax:a<=x:=by omega
  have hxc:x<=cs.length:=by omega
  have hlt:=h2.lt;have hs0:=h4.size;have hc:ay W (w.heap.size+1+1) 0=some v:=(h1.cell 0).trans rfl;have hf:=h1.frozen 0;have HV:=bx h1;have HL:=bx hlt;have H3:=bx h3;have H4:=bx h4;have HR:=bx h2;have nC:=bx (Zj (a::evens a pre) x);obtain⟨i0,hi,hz0,hz1,hz2⟩:=info_parts QT;have qP:=bx (show v.ownBlock≠some (w.heap.size+1+1) from λe=>by rcases h3 _ e with h | h <;> omega);have hpl:(evens a pre).length<1000000:=by have:=aod a pre;omega
  obtain⟨og,oc,rfl⟩:=ownsRow_succ h2;clear h1 h2 h3 h4 hb0 hb1 hb2 hb3 hbL hr hr0 hlt AO h0 hba hb8 hbox hrB hbB hx
  by_cases he:(x-a) % 2=0
  ·have tX:=bx (atN a pre x he);have t1:(((x:Int)-(a:Int)) % 2==0)=true:=by rw [lN];omega
   clear he
   gi_wp2_with (gi_at_builtin;refine wpListIn_append_own_at _ rfl _ _ 22 rfl w.heap.size 3 i0 (ah 0) 1 8 underlying22 hi hz0 hz1 hz2 rfl (by decide) (.slice (some ⟨og,0,none⟩) ((evens a pre).length+1) oc) _ _ rfl (HR.o.alloc _) ⟨W.heap.size,0,none⟩ 1 1 [ah (x:Int)] rfl rfl (cell_one_new _ _ _) (by simp [Value.oneCell']) (by unfold maxLen;omega) (by omega) (by simp;omega) ?_;intro v' w1 hown' hgrow _ hat;obtain⟨g',cap',rfl⟩:=ownsRow_succ hown';have hv1:=(HV.o.alloc _).grown hgrow (Ne.symm qP.o);have hc1:=hv1.cell 0;have hf1:=hv1.frozen 0;simp at hc1)
   have hg':g'=og\/g'=W.heap.size+1:=by
    rcases hat with h | h
    ·left;simpa [Value.ownBlock] using h
    right;simpa [Value.ownBlock] using h
   have hog:=H3.o og rfl;have U1:=(HL.o og rfl).2;have hT:Turns (λk=>k=og\/k=w.heap.size+1+1) W (w1.setCell ⟨w.heap.size+1+1,0,none⟩ (.slice (some ⟨g',0,none⟩) ((evens a pre).length+1+1) cap')) :=
    ((Turns.alloc W _).trans (Hw hgrow (λk hk=>.inl (by simpa [Value.ownBlock] using hk.symm)))).trans (Turns.setCell _ (.inr rfl) _)
   refine⟨Holds.zX hT (λk hk=>by unfold Cj at hk;omega) (λk hk h=>by unfold Cj at hk;omega),⟨_,hT.blk H0.o (by omega),hv1.bJ 0 _,?_,λg hg=>?_⟩,H4.o.trans (hT.below H4.o.size (λk hk=>by omega))⟩
   ·rw [tX.o,<- jd,nC.o];have:=(Turns.setCell (own:=λk=>k=w.heap.size+1+1) w1 (p:=⟨w.heap.size+1+1,0,none⟩) rfl (.slice (some ⟨g',0,none⟩) ((evens a pre).length+1+1) cap')).row hown' (λk hk=>by simp [Value.ownBlock] at hk;omega)
    simpa using this
   have:g=g':=by simpa [Value.ownBlock] using hg.symm
   omega
  have tX:=bx (auA a pre x he);have t1:(((x:Int)-(a:Int)) % 2==0)=false:=by rw [fG];omega
  clear he
  gi_wp2_with fail
  exact⟨Holds.refl _ _,⟨_,H0.o,HV.o,by rw [tX.o];exact HR.o,H3.o⟩,H4.o⟩
 case done =>
  intro xs W hW hS ⟨⟨v,h0,h1,h2,h3⟩,h4⟩ hD;have c0:ay W (w.heap.size+1+1) 0=some v:=(h1.cell 0).trans rfl;have H2:=bx h4;have HD:=bx hD;have HR:=bx h2;have HS:=bx hS;have H3:=bx h3;clear h0 h1 h2 h3 h4 hD hb0 hb1 hb2 hb3 hbL hS hr0 AO hba hb8 hbox hrB hbB;go_wp2_with fail;refine⟨by simp, .inl ⟨_,_,rfl,run_takeDeferred HD.o,?_⟩⟩;refine⟨_,results_tmp rfl _ _ _,?_⟩;have hr:=(Turns.putObj (own:=λk=>k=wL.heap.size) W rfl (.deferred none)).row HR.o (λk hk=>by rcases H3.o k hk with h | h <;> omega);refine⟨⟨v,rfl,?_⟩,H2.o.trans ((Turns.putObj (own:=λk=>k=wL.heap.size) W rfl _).below H2.o.size (λk hk=>by omega))⟩;have hi:=Vy hr (by simp);rw [HS.o,<- avn] at hi;exact hi
end
section
open Go.Sort
theorem awV (w:World):grow w #[]=w:=by simp [grow]
theorem atb {ps:List Pc} {W:World} (h:Sep ps W) (i:Nat) {base n:Nat} {e:TypeId} {v:Value} {zs:List Int} (hi:ps[i]?=some (Pc.row base e 1 v n (zs.map (Value.int .i64)))) (hn:n=zs.length) (hz:n<=1000000) :
  Calls prog 336 #[v] W λe' W'=>∃ v',e' = .returned v'/\Sep (ps.set i (Pc.row base e 1 v' (Go.Lib.compact zs).length ((Go.Lib.compact zs).map (Value.int .i64)))) W':=by
 subst hn;have hrow:=h.row i hi
 rcases hrow.2 with⟨rfl,h2⟩ | ⟨g,cap,cur,rfl,hb,hg,h3,h4,h5,h6⟩
 ·have hz0:zs=[]:=nR h2;subst hz0;refine(ak4 none 0 W).mono ?_;rintro e' W' ⟨rfl,rfl⟩;refine⟨_,rfl,?_⟩;have e1:ps.set i (Pc.row base e 1 (aj) (Go.Lib.compact ([]:List Int)).length ((Go.Lib.compact ([]:List Int)).map (Value.int .i64)))=ps:=by
   obtain⟨k1,k2⟩:=dO hi;rw [show Go.Lib.compact ([]:List Int)=[] from rfl,show ([]:List Int).length=0 from rfl];have k3:ps[i]=Pc.row base e 1 (aj) 0 []:=k2;rw [oV,<- k3,List.set_getElem_self]
  rw [e1];exact h
 rw [Nat.mul_one] at h6;refine(awC g 0 cap zs W (holds_of_blockI hg h6) (by omega) h3).mono ?_;rintro e' W' ⟨rfl,q,rfl⟩;have hle:=Go.Lib.compact_length_le zs;obtain⟨d,hd⟩:∃ d,Go.Lib.compact zs++List.replicate (zs.length-(Go.Lib.compact zs).length) (0:Int)=d:=⟨_,rfl⟩
 have hdl:d.length=zs.length:=by rw [<- hd,bC,List.length_replicate];omega
 rw [hd];have hgb:=grownBy_sortedI (w:=W) (g:=g) (n:=q) (os:=#[]) d.toArray;have hro:=ownsRow_sortedI (n:=q) (os:=#[]) hdl hb hg h3 h4 h5;rw [awV] at hgb hro;refine⟨_,rfl,h.grow i hi hgb ?_ (.inl rfl)⟩;refine⟨by simp, .inr ?_⟩
 rcases hro.2 with⟨h7,_⟩ | ⟨g',cap',cur',h7,h8,h9,h10,h11,h12,h13⟩
 ·cases h7
 cases h7;refine⟨g,cap,cur',rfl,h8,h9,by omega,h11,h12,?_⟩;rw [Nat.mul_one] at h13 ⊢;have:=congrArg (List.take (Go.Lib.compact zs).length) h13;rw [List.take_take,sH hle] at this;rw [this,<- hd,gX,List.take_left' (by simp)]
theorem ame {ps:List Pc} {W:World} (h:Sep ps W) (i:Nat) {base n:Nat} {e:TypeId} {v:Value} {zs:List Int} (hi:ps[i]?=some (Pc.row base e 1 v n (zs.map (Value.int .i64)))) (hn:n=zs.length) (hz:n<=1000000) :
  Calls prog 330 #[v] W λe' W'=>∃ v',e' = .returned v'/\Sep (ps.set i (Pc.row base e 1 v' (xK zs).length ((xK zs).map (Value.int .i64)))) W':=by
 have HS:=bx (axt h i hi hn hz);have hil:i<ps.length:=(dO hi).1;clear h hi
 go_in
 go_wp2_with fail;refine aT HS.o λw1 h1=>?_
 have HC:=bx (atb h1 i (by rw [List.getElem?_set_self hil]) (by rw [ab1];exact hn) hz);clear h1;go_wp2_with fail;refine HC.o.mono ?_;rintro e2 w2 ⟨v',rfl,h2⟩;rw [List.set_set] at h2;have H2:=bx h2;clear h2
 go_wp2
 go_ret
 exact⟨_,rfl,H2.o⟩
end
theorem Gz:zk prog 22 3 1 8:=.mk' (z:=ah 0) underlying22 (by kernel_rfl) rfl
theorem Ws {w:World} {v:Value} {xs:List Int} (h:aN w v xs):tH w v xs.length (xs.map (Value.int .i64)):=by
 rcases h with⟨h1,rfl⟩ | ⟨b,off,sp,cap,h1,h2,h3,h4⟩
 ·exact .inl ⟨h1,rfl,rfl⟩
 refine .inr ⟨_,cap,h1,λj u hu=>?_⟩;rw [eX] at hu
 cases hx:xs[j]? with
 | none=>rw [hx] at hu;cases hu
 | some x =>
  rw [hx] at hu
  cases hu;obtain⟨rfl,-,h6⟩:=h4 (by rintro rfl;simp at hx)
  (try unfold ay at *);rw [show (⟨b,off,none⟩:Addr).add j=⟨b,off+j,none⟩ by unfold Addr.add;by_cases h0:j=0 <;> simp [h0]]
  exact h6 j x hx
def qA (mb:Nat):MapEntry:=⟨ah 0, .func (.func 327) #[aA mb] #[],0⟩
def rJ (mb:Nat):MapEntry:=⟨ah 1, .func (.func 328) #[aA mb] #[],1⟩
def rW (mb:Nat):MapEntry:=⟨ah 2, .func (.func 329) #[aA mb] #[],2⟩
def Ar (xs:List Int):List Value:=xs.map (Value.int .i64)
theorem apE (xs ys:List Int):Ar (xs++ys)=Ar xs++ys.map (Value.int .i64):=by simp [Ar]
theorem XR (ys:List Int):∀ u∈ys.map (Value.int .i64),u.oneCell'=true:=by
 intro u hu;obtain⟨y,-,rfl⟩:=jM.1 hu
 rfl
theorem anw (cs:List Int) (x:N.Item) (O:List Int) (j:Nat) (b:Int) (h:O[j]?=some b):(O.take (j+1)).flatMap (lC cs x)=(O.take j).flatMap (lC cs x)++lC cs x b:=by
 rw [jw,h,oz];simp
theorem auB (mb:Nat) (cv:Value) (cs:List Int) (iv:Value) (l:List N.Item) (a:Nat) (w:World) (hM:aC w mb 403 #[cv]) (hC:aN w cv cs) (hI:fE w iv l) (hh:∀ x∈l,x.2=0\/x.2=1\/x.2=2)
  (hz:cs.length<=900) (hl:l.length<=1000) (ha:a<=cs.length) :
  Calls prog 310 #[aA mb,iv, ah a] w λe w'=>(∃ v,e = .returned v/\aN w' v (qh cs l a l.length))/\ak w w':=by
 have HM:=bx hM;have HC:=bx hC;have HI:=bx hI;have HH:=bx hh;have hml:=hM.lt;have hmm:=@run_makeMap prog;have Fv:=yN (P:=prog) underlying417 underlying3 w #[] 0 0 (qA mb).val w.heap.size rfl rfl;have Es:=yN (P:=prog) underlying417 underlying3 w #[qA mb] 1 1 (rJ mb).val w.heap.size rfl rfl;have Fg:=yN (P:=prog) underlying417 underlying3 w #[qA mb,rJ mb] 2 2 (rW mb).val w.heap.size rfl rfl;simp only [ou,iJ,jd,qA,rJ,rW,Nat.reduceAdd,Nat.zero_add] at Fv Es Fg;obtain⟨io,ic,rfl⟩:=hI.slice;clear hM hC hI hh
 go_in
 go_wp2_with fail;clear hmm Fv Es Fg;have bQ:=bx (show Sep [Pc.row w.heap.size 3 1 (.slice (some ⟨w.heap.size+1,0,none⟩) (qh cs l a 0).length 1) (qh cs l a 0).length (Ar (qh cs l a 0)),Pc.obj w.heap.size (.map #[qA mb,rJ mb,rW mb] 3),Pc.old w.heap.size w] ((w.alloc (.map #[qA mb,rJ mb,rW mb] 3)).alloc (.cells #[ah (a:Int)] 3)) by
  have h1:Sep [Pc.obj w.heap.size (.map #[qA mb,rJ mb,rW mb] 3),Pc.old w.heap.size w] (w.alloc (.map #[qA mb,rJ mb,rW mb] 3)) :=
   (Sep.start w).add (LY w _) (World.alloc_heap_new w _) (λk hk=>by rw [show k=w.heap.size from hk];exact bK _)
  have h2:=World.ownsRow_lit (base:=w.heap.size) (e:=3) (size:=1) (w.alloc (.map #[qA mb,rJ mb,rW mb] 3)) #[ah (a:Int)] 1 (by simp) (by unfold maxLen;omega) rfl;rw [show (w.alloc (.map #[qA mb,rJ mb,rW mb] 3)).heap.size=w.heap.size+1 from by simp] at h2;rw [TQ];exact h1.add (LY _ _) h2 (λk hk=>by simp [Pc.row,Value.ownBlock] at hk;simp;omega))
 unfold qA rJ rW at bQ
 go_loopw [26,8] (λi o wr=>∃ (k:Nat) (oo:Option Addr) (oc:Nat),k<=l.length/\i = ah k/\o = .slice oo (qh cs l a k).length oc/\Box (Sep [Pc.row w.heap.size 3 1 (.slice oo (qh cs l a k).length oc) (qh cs l a k).length (Ar (qh cs l a k)),Pc.obj w.heap.size (.map #[qA mb,rJ mb,rW mb] 3),Pc.old w.heap.size w] wr))
  (λi _ _=>l.length-(intOf i).toNat)
 ·exact⟨0,_,_,nK _,rfl,by rw [TQ];rfl,bQ⟩
 obtain⟨k,oo,oc,hk,rfl,rfl,hS⟩:=hrel;clear bQ;have bM:=bx (hS.o.bel (n:=w.heap.size) (W0:=w) (by simp))
 by_cases hlt:k<l.length
 ·obtain⟨x,hx⟩:=bV l k hlt;obtain⟨g,off,cap2,hg1,hg2,hg3,hg4,hg5⟩:=(HI.o.below bM.o).get (by rintro rfl;simp at hlt);obtain⟨rfl,rfl⟩:=dQ hg1;obtain⟨hc1,hc2⟩:=hg5 k x hx;have aw0:=HH.o x (dB hx);have HN:=bx (Xe cs l a k x hx);have Xu:=Zx cs l a (by omega) (by omega) k hk;have hOl:=avz cs l a (by omega) (by omega) k hk;obtain⟨O,hO⟩:∃ O,qh cs l a k=O:=⟨_,rfl⟩
  rw [hO] at Xu hOl HN hS ⊢;have HOM:=bx Xu;unfold maxLen at hg3;obtain⟨set,how⟩:=x;have uH:=bx ((hS.o.eu 389 #[ah set, ah how]).kV w.heap.size 1 3);obtain⟨ub,hub⟩:∃ ub,ub=wr.heap.size:=⟨_,rfl⟩
  have Gy:=bx hub;rw [<- hub] at uH;clear hx hg1 hg5 hO Xu hub;go_wp2_with fail;rw [<- Gy.o];clear Gy
  go_loopw [32,11] (λi nv wi=>∃ (j:Nat) (v2:Value),j<=O.length/\i = ah j/\v2=nv/\Box (Sep [Pc.row w.heap.size 3 1 v2 ((O.take j).flatMap (lC cs (set,how))).length (Ar ((O.take j).flatMap (lC cs (set,how)))),Pc.blk ub 389 #[ah set, ah how],Pc.row w.heap.size 3 1 (.slice oo O.length oc) O.length (Ar O),Pc.obj w.heap.size (.map #[qA mb,rJ mb,rW mb] 3),Pc.old w.heap.size w] wi))
   (λi _ _=>O.length-(intOf i).toNat)
  ·exact⟨0,_,nK _,rfl,rfl,uH⟩
  obtain⟨j,v2,hj,rfl,rfl,Hf⟩:=hrel;have tV:=bx (Hf.o.bel (n:=w.heap.size) (W0:=w) (by simp));clear uH hS
  by_cases hjl:j<O.length
  ·obtain⟨b,hb⟩:=bV O j hjl;obtain⟨b0,b1⟩:=HOM.o b (dB hb);obtain⟨q,rfl⟩:=oJ b0;have hq:q<=cs.length:=by omega
   obtain⟨og,agq,ayd,k1,k2,k3,k4,k5⟩:=(aN.iy (Hf.o.row 2 rfl) rfl).get (by rintro rfl;simp at hjl);obtain⟨rfl,rfl⟩:=dQ k1;have c3:=k5 j _ hb;have hbk:=Hf.o.blk 1 rfl;have c0:wr.cell? ⟨ub,0,none⟩=some (ah set):=(hbk.cell 0).trans rfl;have c1:wr.cell? ⟨ub,1,none⟩=some (ah how):=(hbk.cell 1).trans rfl;have hmp:=Hf.o.at' 3 (p:=Pc.obj w.heap.size (.map #[qA mb,rJ mb,rW mb] 3)) rfl;have xC:=bx hmp;have qL:=bx (anw cs (set,how) O j _ hb);have lG:=bx (Y8 cs (set,how) (O.take j) (λb hb=>HOM.o b (List.mem_of_mem_take hb)));have Vm:=bx (agV cs (set,how) (q:Int) b0 b1);have acC:aC wr mb 403 #[cv]:=HM.o.below tV.o hml;have hcs2:aN wr cv cs:=HC.o.below tV.o;have aaT:=bx acC;have Xx:=bx hcs2;unfold maxLen at k3;clear k1 k5 hb hbk hmp acC hcs2 b0 b1;have key:∀ (w2:World) (xv:Value),aN w2 xv (lC cs (set,how) (q:Int))->ak wr w2 ->
     ∀ v' w',Sep ([Pc.row w.heap.size 3 1 v2 ((O.take j).flatMap (lC cs (set,how))).length (Ar ((O.take j).flatMap (lC cs (set,how)))),Pc.blk ub 389 #[ah set, ah how],Pc.row w.heap.size 3 1 (.slice (some ⟨og,agq,none⟩) O.length oc) O.length (Ar O),Pc.obj w.heap.size (.map #[qA mb,rJ mb,rW mb] 3),Pc.old w.heap.size w].set 0 (Pc.row w.heap.size 3 1 v' (((O.take j).flatMap (lC cs (set,how))).length+(lC cs (set,how) (q:Int)).length) (Ar ((O.take j).flatMap (lC cs (set,how)))++(lC cs (set,how) (q:Int)).map (Value.int .i64)))) w' ->
     Sep [Pc.row w.heap.size 3 1 v' ((O.take (j+1)).flatMap (lC cs (set,how))).length (Ar ((O.take (j+1)).flatMap (lC cs (set,how)))),Pc.blk ub 389 #[ah set, ah how],Pc.row w.heap.size 3 1 (.slice (some ⟨og,agq,none⟩) O.length oc) O.length (Ar O),Pc.obj w.heap.size (.map #[qA mb,rJ mb,rW mb] 3),Pc.old w.heap.size w] w':=λw2 xv _ _ v' w' h=>by
    rw [qL.o,apE,bC];exact h
   have KEY:=bx key;have hnb:((O.take j).flatMap (lC cs (set,how))).length<=900000:=by
    have h1:=lG.o;have h2:(O.take j).length<=901:=by rw [dw];omega
    have h3:(O.take j).length*(cs.length+1)<=901*901:=zA h2 (by omega);omega
   have hnm:(lC cs (set,how) (q:Int)).length<=901:=by have:=Vm.o;omega
   clear key
   rcases aw0 with rfl | rfl | rfl
   ·have hlk:=YX (P:=prog) underlying417 underlying3 wr #[qA mb,rJ mb,rW mb] 3 0 w.heap.size xC.o 0 (qA mb).val rfl;simp only [qA] at hlk;have iM:=bx (akC mb cv cs set q wr aaT.o Xx.o (by omega) hq);go_wp2_with (first
     | (go_at_call 327;refine iM.o.mono ?_;rintro e w2 ⟨⟨xv,rfl,hi⟩,hb2⟩;have hS2:=Hf.o.below hb2;have hle2:=tV.o.size;have hle3:=hb2.size)
     | (at_builtin;refine Dv rfl _ _ 22 rfl Gz (by decide) hS2 0 rfl rfl rfl (Ws hi) (by simp) (XR _) (by omega) (by omega) (by omega) ?_;intro v' w' hS3))
    have aS:=bx (KEY.o w2 xv hi hb2 v' w' hS3);clear hS3 hS2 hi hb2
    go_roundw
    ·exact⟨j+1,v',hjl,by go_num,rfl,aS⟩
    simp [intOf];omega
   ·have hlk:=YX (P:=prog) underlying417 underlying3 wr #[qA mb,rJ mb,rW mb] 3 1 w.heap.size xC.o 1 (rJ mb).val rfl;simp only [rJ] at hlk;have iM:=bx (apQ mb cv cs set q wr aaT.o Xx.o (by omega) hq);go_wp2_with (first
     | (go_at_call 328;refine iM.o.mono ?_;rintro e w2 ⟨⟨xv,rfl,hi⟩,hb2⟩;have hS2:=Hf.o.below hb2;have hle2:=tV.o.size;have hle3:=hb2.size)
     | (at_builtin;refine Dv rfl _ _ 22 rfl Gz (by decide) hS2 0 rfl rfl rfl (Ws hi) (by simp) (XR _) (by omega) (by omega) (by omega) ?_;intro v' w' hS3))
    have aS:=bx (KEY.o w2 xv hi hb2 v' w' hS3);clear hS3 hS2 hi hb2
    go_roundw
    ·exact⟨j+1,v',hjl,by go_num,rfl,aS⟩
    simp [intOf];omega
   have hlk:=YX (P:=prog) underlying417 underlying3 wr #[qA mb,rJ mb,rW mb] 3 2 w.heap.size xC.o 2 (rW mb).val rfl;simp only [rW] at hlk;have iM:=bx (apX mb cv cs set q wr aaT.o Xx.o (by omega) hq);go_wp2_with (first
    | (go_at_call 329;refine iM.o.mono ?_;rintro e w2 ⟨⟨xv,rfl,hi⟩,hb2⟩;have hS2:=Hf.o.below hb2;have hle2:=tV.o.size;have hle3:=hb2.size)
    | (at_builtin;refine Dv rfl _ _ 22 rfl Gz (by decide) hS2 0 rfl rfl rfl (Ws hi) (by simp) (XR _) (by omega) (by omega) (by omega) ?_;intro v' w' hS3))
   have aS:=bx (KEY.o w2 xv hi hb2 v' w' hS3);clear hS3 hS2 hi hb2
   go_roundw
   ·exact⟨j+1,v',hjl,by go_num,rfl,aS⟩
   simp [intOf];omega
  have hjl:j=O.length:=by omega
  have hfl:=Y8 cs (set,how) O HOM.o;have hO2:O.length*(cs.length+1)<=901*901:=zA (by omega) (by omega);have hSz:=Hf.o;rw [hjl,mQ] at hSz;have jq:=bx (ame hSz 0 (zs:=O.flatMap (lC cs (set,how))) rfl rfl (by omega));clear hfl hO2 hSz;go_wp2_with fail;refine jq.o.mono ?_;rintro e w2 ⟨v',rfl,hS2⟩;have hS3:=(hS2.drop 1).drop 1;rw [<- HN.o] at hS3;obtain⟨oo2,BA,rfl⟩:=ownsRow_shape (hS3.row 0 rfl);have aS:=bx hS3;clear hS2 hS3
  go_wp2
  go_roundw
  ·exact⟨k+1,oo2,BA,hlt,by go_num,rfl,aS⟩
  simp [intOf];omega
 have hkl:k=l.length:=by omega
 have HR:=bx (show aN wr (.slice oo (qh cs l a k).length oc) (qh cs l a l.length) by
  have:=aN.iy (hS.o.row 0 rfl) rfl
  rwa [hkl] at this ⊢)
 go_wp2
 go_ret
 exact⟨⟨_,rfl,HR.o⟩,bM.o⟩
theorem alz {l:List N.Item} (h:kL l=true):∀ x∈l,x.2=0\/x.2=1\/x.2=2:=by
 intro x hx;obtain⟨i,hi,e⟩:=List.getElem_of_mem hx;have:=ail h (i:=i) (x:=x) (by rw [dW hi,e]);omega
namespace D
def cut (n:Nat) (c:Int):Int:=if c<0\/(n:Int)<=c then -1 else c
def cuts (n:Nat) (cs:List Int):List Int:=cs.map (cut n)
end D
def uU (st:Bool) (l:List N.Item) (cs:List Int) (p:Int):Bool :=
 kL l&&decide (0<=p)&&decide (p<=cs.length)&&!(st&&decide (0<p))&&decide (0<(qh cs l p l.length).length)
namespace G
def hit (R:List D.Rule) (ks:List Int) (f:Nat) (p:Int) (i:Nat):Bool:=f.testBit i&&match R[i]? with | some x=>uU x.2.1.1 x.2.1.2 ks p | none=>false
def JK (R:List D.Rule) (ks:List Int) (f:Nat) (p:Int):Bool:=match (List.range R.length).find? (hit R ks f p) with | some i=>(R[i]?.map λx=>x.2.2).getD true | none=>true
theorem afp (q:Nat->Bool):∀ n k,k<n->q k=true->(∀ i,i<k->q i=false)->(List.range n).find? q=some k
 | 0,_,h,_,_=>by omega
 | n+1,k,h,hk,hi=>by
  rw [List.range_succ,List.find?_append]
  rcases gZ k n with h1 | h1
  ·rw [afp q n k h1 hk hi];rfl
  obtain rfl:k=n:=by omega
  have hn:(List.range k).find? q=none:=by
   rw [List.find?_eq_none];intro i hm;rw [hi i (oM.1 hm)];exact Bool.false_ne_true
  rw [hn,Option.none_or,List.find?_cons_of_pos hk]
theorem axK {R:List D.Rule} {ks:List Int} {f:Nat} {p:Int} {k:Nat} {x:D.Rule} (hx:R[k]?=some x) (hk:hit R ks f p k=true) (hi:∀ i,i<k->hit R ks f p i=false):JK R ks f p=x.2.2:=by
 unfold JK;rw [afp _ _ k (dO hx).1 hk hi];simp [hx]
theorem ark {R:List D.Rule} {ks:List Int} {f:Nat} {p:Int} (hi:∀ i,i<R.length->hit R ks f p i=false):JK R ks f p=true:=by
 unfold JK;rw [List.find?_eq_none.2 (λi hm=>by rw [hi i (oM.1 hm)];exact Bool.false_ne_true)]
end G
def cutAt (R:List D.Rule) (M:D.gJ) (nn:Nat) (L:List Int) (p:Nat):Bool:=G.JK R (D.cuts nn L) (Un M (stM nn M L p)).toNat (p:Int)
def ER (R:List D.Rule) (M:D.gJ) (nn:Nat) (L:List Int) (k:Nat):List Nat:=((List.range k).map (·+1)).filter (cutAt R M nn L)
def Af (R:List D.Rule) (M:D.gJ) (nn:Nat) (L:List Int):List Int:=(0::ER R M nn L (L.length-1)).map (λn:Nat=>(n:Int))++if 0<L.length then [(L.length:Int)] else []
theorem apJ (st:Bool) (v:Value) (l:List N.Item) (cv:Value) (cs:List Int) (p:Int) (w:World) (hv:fE w v l) (hz:l.length<=16777216) (hc:aN w cv cs) (hcz:cs.length<=900) :
  Calls prog 278 #[.agg #[.bool st,v],cv, ah p] w λe w'=>e = .returned (.bool (uU st l cs p))/\ak w w':=by
 obtain⟨W,hW⟩:∃ W,W=w.alloc (.cells #[.bool st,v] 252):=⟨_,rfl⟩
 have hbW:ak w W:=by rw [hW];exact LY _ _
 have hbk:aC W w.heap.size 252 #[.bool st,v]:=by rw [hW];exact aC.new _ _ _
 have HP:=bx (axI st v l W (hv.below hbW) hz);have HV:=bx (hv.below hbW);have HC:=bx (hc.below hbW);have dn:=bx hbk;have bM:=bx hbW;obtain⟨ao,cap,rfl⟩:=hc.slice;have c0:ay W w.heap.size 0=some (.bool st):=(hbk.cell 0).trans rfl;have c1:ay W w.heap.size 1=some v:=(hbk.cell 1).trans rfl;have HW:=bx hW;clear hv hc hbk hbW hW
 go_in
 go_upto_region 1 with(fail)
 rw [<- HW.o]
 cases hr:kL l with
 | false =>
  have HR:=bx (show uU st l cs p=false by unfold uU;rw [hr];rfl);have HRR:=bx hr;clear hr;go_wp2_with fail;refine HP.o.mono ?_;rintro e w1 ⟨rfl,hb1⟩;rw [HRR.o];have HB1:=bx hb1;clear hb1
  go_wp2
  go_ret
  exact⟨aY HR.o.symm,bt bM.o HB1.o⟩
 | true =>
  have HRR:=bx hr;clear hr
  rcases sZ p 0 with h0 | h0
  ·have HR:=bx (show uU st l cs p=false by unfold uU;rw [dh (by omega:¬ 0<=p),Bool.and_false];rfl);go_wp2_with fail;refine HP.o.mono ?_;rintro e w1 ⟨rfl,hb1⟩;rw [HRR.o];have HB1:=bx hb1;clear hb1
   go_wp2
   go_ret
   exact⟨aY HR.o.symm,bt bM.o HB1.o⟩
  rcases sZ cs.length p with h1 | h1
  ·have HR:=bx (show uU st l cs p=false by unfold uU;rw [dh (by omega:¬ p<=cs.length),Bool.and_false];rfl);go_wp2_with fail;refine HP.o.mono ?_;rintro e w1 ⟨rfl,hb1⟩;rw [HRR.o];have HB1:=bx hb1;clear hb1
   go_wp2
   go_ret
   exact⟨aY HR.o.symm,bt bM.o HB1.o⟩
  obtain⟨q,rfl⟩:=oJ h0;have hq:q<=cs.length:=by omega
  go_wp2_with fail;refine HP.o.mono ?_;rintro e w1 ⟨rfl,hb1⟩;rw [HRR.o];have hbk1:=dn.o.below hb1 dn.o.lt;have d0:w1.cell? ⟨w.heap.size,0,none⟩=some (.bool st):=(hbk1.cell 0).trans rfl;have d1:w1.cell? ⟨w.heap.size,1,none⟩=some v:=(hbk1.cell 1).trans rfl;have hl1:=hbk1.lt;have HB1:=aJ bM hb1;have mV:=bx (HV.o.below hb1);have pU:=bx (HC.o.below hb1);clear hb1 hbk1 c0 c1
  by_cases hs:st=true/\0<q
  ·obtain⟨hs1,hs2⟩:=hs;have HR:=bx (show uU st l cs (q:Int)=false by unfold uU;rw [hs1,bD (by omega:(0:Int)<(q:Int))];simp);rw [hs1] at d0;clear hs1
   go_wp2
   go_ret
   exact⟨aY HR.o.symm,HB1.o⟩
  have aqz:=bx (alz HRR.o);have aza:=FI HRR.o;obtain⟨W2,hW2⟩:∃ W2,W2=w1.alloc (.cells #[.slice ao cs.length cap] 403):=⟨_,rfl⟩
  have hb2:ak w1 W2:=by rw [hW2];exact LY _ _
  have Bz:=bx (auB w1.heap.size (.slice ao cs.length cap) cs v l q W2 (by rw [hW2];exact aC.new _ _ _) (pU.o.below hb2) (mV.o.below hb2) aqz.o hcz (by omega) hq);have HB2:=aJ HB1 hb2;have HW2:=bx hW2;have HR:=bx (show uU st l cs (q:Int)=decide (0<(qh cs l q l.length).length) by
   unfold uU;rw [HRR.o,bD h0,bD h1]
   rcases Bool.eq_false_or_eq_true st with e | e
   ·have:q=0:=by
     rcases Ah q with h | h
     ·exact h
     exact absurd ⟨e,h⟩ hs
    subst this;rw [e];simp
   rw [e];simp)
  clear hb2 hW2;have fin:∀ (xv:Value) (w3:World),aN w3 xv (qh cs l q l.length)->∃ a c,xv = .slice a (qh cs l q l.length).length c:=λxv w3 h=>h.slice
  have FIN:=bx fin;clear fin
  rcases Bool.eq_false_or_eq_true st with e | e
  ·have hq0:q=0:=by
    rcases Ah q with h | h
    ·exact h
    exact absurd ⟨e,h⟩ hs
   rw [e] at d0;subst hq0;clear e hs;go_wp2_with fail;rw [<- HW2.o];refine Bz.o.mono ?_;rintro e w3 ⟨⟨xv,rfl,hi⟩,hb3⟩;obtain⟨a,c,rfl⟩:=FIN.o _ _ hi;have HB3:=aJ HB2 hb3;clear hi hb3
   go_wp2
   go_ret
   exact⟨aY (by rw [HR.o];first | done | simp),HB3.o⟩
  rw [e] at d0;clear e hs;go_wp2_with fail;rw [<- HW2.o];refine Bz.o.mono ?_;rintro e w3 ⟨⟨xv,rfl,hi⟩,hb3⟩;obtain⟨a,c,rfl⟩:=FIN.o _ _ hi;have HB3:=aJ HB2 hb3;clear hi hb3
  go_wp2
  go_ret
  exact⟨aY (by rw [HR.o];first | done | simp),HB3.o⟩
end Go.Proofs.YtdponihkpomheaaGreatDoor
