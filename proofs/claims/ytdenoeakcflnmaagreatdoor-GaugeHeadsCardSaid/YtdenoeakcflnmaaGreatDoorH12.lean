/- Texts of this claim. -/
import Derived.Shelf.Sort.Plain
import Derived.Ground.Names2Prog
import Derived.Shelf.Slices.CompactI
import Derived.Shelf.Slices.In.SortNone
import Derived.Shelf.Slices.Empties2
import Derived.Sort.OwnSortedInts
import Derived.Lib.SlicesCompact
import Derived.Lib.RowBridge
import Derived.Test.YtdenoeakcflnmaaGreatDoorH7

set_option maxHeartbeats 2000000
set_option maxRecDepth 10000
namespace Go.Proofs.YtdenoeakcflnmaaGreatDoor
section
open Go.Shelf Go.Proofs
def aml:Go.Shelf.Ren:=⟨fun | 189=>233 | 125=>237 | 257=>236 | 128=>247 | 129=>248 | 294=>238 | 295=>239 | 296=>240 | 297=>241 | 298=>242 | 299=>243 | 216=>244 | 300=>245 | 301=>246 | 328=>249 | 329=>250 | 330=>251 | 331=>252 | 332=>253 | 215=>254 | 343=>255 | n=>n,fun | 28=>22 | 3=>3 | 46=>232 | 0=>0 | 51=>343 | 53=>345 | 4=>4 | 183=>337 | 182=>336 | 131=>139 | 5=>5 | 9=>9 | 218=>346 | 222=>350 | 228=>352 | 229=>230 | n=>n,fun | n=>n⟩
theorem aaR:Go.Proofs.Lays.n189 Tryz.prog aml:={
 mixed:=by kernel_rfl
 f125:=Tryz.func237.trans (congrArg some (by kernel_rfl))
 f128:=Tryz.func247.trans (congrArg some (by kernel_rfl))
 f129:=Tryz.func248.trans (congrArg some (by kernel_rfl))
 f189:=Tryz.func233.trans (congrArg some (by kernel_rfl))
 f215:=Tryz.func254.trans (congrArg some (by kernel_rfl))
 f216:=Tryz.func244.trans (congrArg some (by kernel_rfl))
 f257:=Tryz.func236.trans (congrArg some (by kernel_rfl))
 f294:=Tryz.func238.trans (congrArg some (by kernel_rfl))
 f295:=Tryz.func239.trans (congrArg some (by kernel_rfl))
 f296:=Tryz.func240.trans (congrArg some (by kernel_rfl))
 f297:=Tryz.func241.trans (congrArg some (by kernel_rfl))
 f298:=Tryz.func242.trans (congrArg some (by kernel_rfl))
 f299:=Tryz.func243.trans (congrArg some (by kernel_rfl))
 f300:=Tryz.func245.trans (congrArg some (by kernel_rfl))
 f301:=Tryz.func246.trans (congrArg some (by kernel_rfl))
 f328:=Tryz.func249.trans (congrArg some (by kernel_rfl))
 f329:=Tryz.func250.trans (congrArg some (by kernel_rfl))
 f330:=Tryz.func251.trans (congrArg some (by kernel_rfl))
 f331:=Tryz.func252.trans (congrArg some (by kernel_rfl))
 f332:=Tryz.func253.trans (congrArg some (by kernel_rfl))
 f343:=Tryz.func255.trans (congrArg some (by kernel_rfl))
 t0:=Tryz.underlying0
 a0:=Tryz.isAgg0
 z0:=Tryz.sizeOf0
 v0:=Tryz.zeroValue0
 t3:=Tryz.underlying3
 a3:=Tryz.isAgg3
 z3:=Tryz.sizeOf3
 v3:=Tryz.zeroValue3
 t4:=Tryz.underlying4
 a4:=Tryz.isAgg4
 z4:=Tryz.sizeOf4
 v4:=Tryz.zeroValue4
 t5:=Tryz.underlying5
 a5:=Tryz.isAgg5
 z5:=Tryz.sizeOf5
 v5:=Tryz.zeroValue5
 t9:=Tryz.underlying9
 a9:=Tryz.isAgg9
 z9:=Tryz.sizeOf9
 v9:=Tryz.zeroValue9
 t28:=Tryz.underlying22
 a28:=Tryz.isAgg22
 z28:=Tryz.sizeOf22
 v28:=Tryz.zeroValue22
 t46:=Tryz.underlying232
 a46:=Tryz.isAgg232
 z46:=Tryz.sizeOf232
 v46:=Tryz.zeroValue232
 t51:=Tryz.underlying343
 a51:=Tryz.isAgg343
 z51:=Tryz.sizeOf343
 v51:=Tryz.zeroValue343
 t53:=Tryz.underlying345
 a53:=Tryz.isAgg345
 z53:=Tryz.sizeOf345
 v53:=Tryz.zeroValue345
 t131:=Tryz.underlying139
 a131:=Tryz.isAgg139
 z131:=Tryz.sizeOf139
 v131:=Tryz.zeroValue139
 t182:=Tryz.underlying336
 a182:=Tryz.isAgg336
 z182:=Tryz.sizeOf336
 v182:=Tryz.zeroValue336
 t183:=Tryz.underlying337
 a183:=Tryz.isAgg337
 z183:=Tryz.sizeOf337
 v183:=Tryz.zeroValue337
 t218:=Tryz.underlying346
 a218:=Tryz.isAgg346
 z218:=Tryz.sizeOf346
 v218:=Tryz.zeroValue346
 t222:=Tryz.underlying350
 a222:=Tryz.isAgg350
 z222:=Tryz.sizeOf350
 v222:=Tryz.zeroValue350
 t228:=Tryz.underlying352
 a228:=Tryz.isAgg352
 z228:=Tryz.sizeOf352
 v228:=Tryz.zeroValue352
 t229:=Tryz.underlying230
 a229:=Tryz.isAgg230
 z229:=Tryz.sizeOf230
 v229:=Tryz.zeroValue230 }
open Go.Sort Go.RowKit in
theorem als (blk off cap:Nat) (zs:List Int) (w:World) (hH:Go.Sort.Holds (Value.int .i64) w blk off zs.toArray) (hblk:blk<w.heap.size) (hsz:zs.length<4611686018427387904) :
  Calls Tryz.prog 233 #[.slice (some ⟨blk,off,none⟩) zs.length cap] w λe w' =>
   e = .returned (.tuple #[])/\∃ n os,w'=grow (putRow (Value.int .i64) (Sort.ahead w n) blk off (zs.mergeSort λx y=>decide (x<=y)).toArray) os:=Any.slices_Sort_int aaR blk off cap zs w hH hblk hsz
def ajA:Go.Shelf.Ren:=⟨fun | 20=>234 | n=>n,fun | 22=>22 | 3=>3 | 4=>4 | 0=>0 | n=>n,fun | n=>n⟩
theorem Zu:Go.Proofs.Lays2.n20 Tryz.prog ajA:={
 mixed:=by kernel_rfl
 f20:=Tryz.func234.trans (congrArg some (by kernel_rfl))
 t0:=Tryz.underlying0
 a0:=Tryz.isAgg0
 z0:=Tryz.sizeOf0
 v0:=Tryz.zeroValue0
 t3:=Tryz.underlying3
 a3:=Tryz.isAgg3
 z3:=Tryz.sizeOf3
 v3:=Tryz.zeroValue3
 t4:=Tryz.underlying4
 a4:=Tryz.isAgg4
 z4:=Tryz.sizeOf4
 v4:=Tryz.zeroValue4
 t22:=Tryz.underlying22
 a22:=Tryz.isAgg22
 z22:=Tryz.sizeOf22
 v22:=Tryz.zeroValue22
 i3:=by kernel_rfl }
open Go.RowKit Go.Lib Go.Sort in
theorem ajJ (blk off cap:Nat) (zs:List Int) (w:World) (hH:Go.Sort.Holds (Value.int .i64) w blk off zs.toArray) (hsz:zs.length<=9223372036854775807) (hcap:zs.length<=cap) :
  Calls Tryz.prog 234 #[.slice (some ⟨blk,off,none⟩) zs.length cap] w λe w'=>e = .returned (.slice (some ⟨blk,off,none⟩) (Lib.compact zs).length cap)/\∃ q,w'=putRow (Value.int .i64) (Sort.ahead w q) blk off (Lib.compact zs++List.replicate (zs.length-(Lib.compact zs).length) 0).toArray:=Any.slices_Compact_int Zu blk off cap zs w hH hsz hcap
open Go.RowKit Go.Lib Go.Sort in
theorem afo (a:Option Addr) (cap:Nat) (w:World) :
  Calls Tryz.prog 234 #[.slice a 0 cap] w λe w'=>e = .returned (.slice a 0 cap)/\w'=w:=Any.slices_Compact_int_empty Zu a cap w
open Go.RowKit Go.Sort in
theorem amB (p:Option Addr) (cap:Nat) (w:World) :
  Calls Tryz.prog 233 #[.slice p 0 cap] w λe w'=>e = .returned (.tuple #[])/\w'=w:=Any.slices_Sort_int_none aaR p cap w
end
section
open Go.RowKit Go.Sort
def o9 (zs:List Int):List Int:=zs.mergeSort λx y=>decide (x<=y)
theorem Y7 (zs:List Int):(o9 zs).length=zs.length:=List.length_mergeSort _
theorem anG {ps:List Pc} {W:World} (h:Sep ps W) (i:Nat) {base n:Nat} {e:TypeId} {v:Value} {zs:List Int} (hi:ps[i]?=some (Pc.row base e 1 v n (zs.map (Value.int .i64)))) (hn:n=zs.length) (hz:n<=1000000) :
  Calls Tryz.prog 233 #[v] W λe' W'=>e' = .returned (.tuple #[])/\Sep (ps.set i (Pc.row base e 1 v n ((o9 zs).map (Value.int .i64)))) W':=by
 subst hn;have hrow:=h.row i hi
 rcases hrow.2 with⟨rfl,h2⟩ | ⟨g,cap,cur,rfl,hb,hg,h3,h4,h5,h6⟩
 ·have hz0:zs=[]:=List.eq_nil_of_length_eq_zero h2;subst hz0;refine(amB none 0 W).mono ?_;rintro e' W' ⟨rfl,rfl⟩;refine⟨rfl,?_⟩;have e1:ps.set i (Pc.row base e 1 (.slice none 0 0) ([]:List Int).length ((o9 []).map (Value.int .i64)))=ps:=by
   obtain⟨k1,k2⟩:=List.getElem?_eq_some_iff.1 hi;rw [show (o9 []).map (Value.int .i64)=([]:List Int).map (Value.int .i64) by simp [o9],<- k2,List.set_getElem_self]
  rw [e1];exact h
 ·rw [Nat.mul_one] at h6;refine(als g 0 cap zs W (holds_of_blockI hg h6) (Array.getElem?_eq_some_iff.1 hg).1 (by omega)).mono ?_;rintro e' W' ⟨rfl,n,os,rfl⟩;exact⟨rfl,h.grow i hi (grownBy_sortedI _) (ownsRow_sortedI (Y7 zs) hb hg h3 h4 h5) (.inl rfl)⟩
theorem adC (v:Value) (xs:List Int) (x:Int) (w:World) (hv:aB w v xs) (hz:xs.length<=16777216) :
  Calls Tryz.prog 100 #[v, .int .i64 x] w λe w'=>(∃ i:Int,e = .returned (.int .i64 i)/\decide (0<=i)=decide (x∈xs))/\w=w':=by
 have HV:=bx hv;obtain⟨ao,cap,rfl⟩:=hv.slice;clear hv
 go_enter Tryz.func100,Tryz.ntmps100
 go_wp2
 go_loop [8] (λi=>∃ k:Nat,k<=xs.length/\i = .int .i64 k/\Box (x∉xs.take k)) (λi=>xs.length-(intOf i).toNat)
 case atStart=>exact⟨0,by omega,rfl,⟨by simp⟩⟩
 case round =>
  obtain⟨k,hk,rfl,hn⟩:=hrel
  by_cases hlt:k<xs.length
  ·obtain⟨y,hy⟩:∃ y,xs[k]?=some y:=⟨_,List.getElem?_eq_getElem hlt⟩
   obtain⟨g,off,cap2,hg1,hg2,hg3,hg4,hg5⟩:=HV.o.get (by rintro rfl;simp at hlt);obtain⟨rfl,rfl⟩:ao=some ⟨g,off,none⟩/\cap=cap2:=by injection hg1 with h1 h2 h3;exact⟨h1,h3⟩
   have hcy:=hg5 k y hy;have HY:=bx hy;unfold maxLen at hg3;clear hy hg1 hg5
   by_cases hxy:x=y
   ·subst hxy;have HM:=bx (show x∈xs from List.mem_of_getElem? HY.o)
    go_wp2
    go_ret
    exact⟨⟨k,rfl,by first | (rw [decide_eq_true HM.o];simp) | exact⟨λ_=>HM.o,λ_=>by omega⟩⟩,rfl⟩
   ·have HN:=bx (show x∉xs.take (k+1) by
     rw [List.take_add_one,HY.o,List.mem_append];rintro(h | h)
     ·exact hn.o h
     ·exact hxy (List.mem_singleton.1 h))
    have hq:(x==y)=false:=beq_eq_false_iff_ne.2 hxy
    go_wp2
    go_round
    case rel=>exact⟨k+1,hlt,by go_num,HN⟩
    case measure=>simp [intOf];omega
  ·have HN:=bx (show x∉xs by have:=hn.o;rwa [List.take_of_length_le (by omega)] at this)
   go_wp2
   go_ret
   exact⟨⟨-1,rfl,by first | (rw [decide_eq_false HN.o];rfl) | exact⟨λh=>by omega,λh=>absurd h HN.o⟩⟩,rfl⟩
theorem ae8 (v:Value) (xs:List Int) (x:Int) (w:World) (hv:aB w v xs) (hz:xs.length<=16777216) :
  Calls Tryz.prog 55 #[v, .int .i64 x] w λe w'=>e = .returned (.bool (decide (x∈xs)))/\w=w':=by
 have HI:=bx (adC v xs x w hv hz);clear hv
 go_enter Tryz.func55,Tryz.ntmps55
 go_wp2_with fail;refine HI.o.mono ?_;rintro e w1 ⟨⟨i,rfl,hi⟩,rfl⟩;have HX:=bx hi;clear hi;go_wp2_with fail;go_ret
 exact⟨aI HX.o,rfl⟩
end
section
open Go.Sort
theorem UE (d:Array Int) (hd:∀ i j,i<=j->j<d.size->d[i]!<=d[j]!):∀ m,m<=d.size ->
  (Lib.compactUpTo d m).Pairwise (·<·)/\(∀ x∈Lib.compactUpTo d m,∃ j,j<m/\x=d[j]!)/\∀ j,j<m->d[j]!∈Lib.compactUpTo d m
 | 0,_=>by
  refine⟨?_,?_,λj hj=>by omega⟩ <;> simp [Lib.compactUpTo]
 | m+1,hm=>by
  obtain⟨h1,h2,h3⟩:=UE d hd m (by omega);rw [Lib.compactUpTo_succ]
  by_cases hk:Lib.keeps d m=true
  ·rw [if_pos hk];refine⟨List.pairwise_append.2 ⟨h1,List.pairwise_singleton _ _,λx hx y hy=>?_⟩,?_,?_⟩
   ·obtain rfl:=List.mem_singleton.1 hy;obtain⟨j,hj,rfl⟩:=h2 x hx;have hne:d[m]!≠d[m-1]!:=by
     unfold Lib.keeps at hk
     rcases of_decide_eq_true hk with h | h
     ·omega
     ·exact h
    have a:=hd j (m-1) (by omega) (by omega);have b:=hd (m-1) m (by omega) (by omega);omega
   ·intro x hx
    rcases List.mem_append.1 hx with h | h
    ·obtain⟨j,hj,e⟩:=h2 x h;exact⟨j,by omega,e⟩
    ·exact⟨m,by omega,List.mem_singleton.1 h⟩
   ·intro j hj
    rcases Nat.lt_or_ge j m with h | h
    ·exact List.mem_append.2 (.inl (h3 j h))
    ·obtain rfl:j=m:=by omega
     exact List.mem_append.2 (.inr (List.mem_singleton.2 rfl))
  ·rw [if_neg hk,List.append_nil];refine⟨h1,λx hx=>?_,λj hj=>?_⟩
   ·obtain⟨j,hj,e⟩:=h2 x hx;exact⟨j,by omega,e⟩
   ·rcases Nat.lt_or_ge j m with h | h
    ·exact h3 j h
    ·obtain rfl:j=m:=by omega
     have hn:¬ (j=0\/d[j]!≠d[j-1]!):=λh=>hk (by unfold Lib.keeps;exact decide_eq_true h)
     have h0:j≠0:=λh=>hn (.inl h)
     have he:d[j]! = d[j-1]!:=Classical.byContradiction λh=>hn (.inr h)
     rw [he];exact h3 (j-1) (by omega)
theorem ach (zs:List Int):∀ i j,i<=j->j<(o9 zs).toArray.size->(o9 zs).toArray[i]!<=(o9 zs).toArray[j]!:=by
 intro i j hij hj;have hp:(o9 zs).Pairwise (λa b=>decide (a<=b)=true):=List.pairwise_mergeSort (λa b c h1 h2=>by simp at *;omega) (λa b=>by simp;omega) zs
 rcases Nat.eq_or_lt_of_le hij with e | h
 ·subst e;exact Int.le_refl _
 ·have hj':j<(o9 zs).length:=by simpa using hj
  have:=List.pairwise_iff_getElem.1 hp i j (by omega) hj' h;simp only [decide_eq_true_eq] at this;have hi':i<(o9 zs).toArray.size:=by rw [List.size_toArray];omega
  rw [getElem!_pos (o9 zs).toArray i hi',getElem!_pos (o9 zs).toArray j hj]
  simpa using this
def iR (zs:List Int):List Int:=Lib.compact (o9 zs)
theorem afL (zs:List Int):(iR zs).Pairwise (·<·):=(UE (o9 zs).toArray (ach zs) (o9 zs).length (by simp)).1
theorem Sr (zs:List Int) (x:Int):x∈iR zs↔x∈zs:=by
 obtain⟨-,h2,h3⟩:=UE (o9 zs).toArray (ach zs) (o9 zs).length (by simp);have hm:x∈o9 zs↔x∈zs:=List.mem_mergeSort;rw [<- hm]
 constructor
 ·intro h;obtain⟨j,hj,rfl⟩:=h2 x h;rw [getElem!_pos _ _ (by simpa using hj)];simp
 ·intro h;obtain⟨j,hj,e⟩:=List.getElem_of_mem h;have:=h3 j hj;rw [getElem!_pos _ _ (by simpa using hj)] at this;rw [List.getElem_toArray,e] at this;exact this
theorem Y4:∀ (l:List Int) (lo hi:Int),l.Pairwise (·<·)->(∀ x∈l,lo<=x/\x<=hi)->l.length<=(hi-lo+1).toNat
 | [],_,_,_,_=>Nat.zero_le _
 | x::l,lo,hi,hp,hb=>by
  have h1:=hb x (List.mem_cons_self ..);have h2:=List.pairwise_cons.1 hp;have:=Y4 l (x+1) hi h2.2 (λy hy=>⟨by have:=h2.1 y hy;omega,(hb y (List.mem_cons_of_mem _ hy)).2⟩);rw [List.length_cons];omega
namespace N
def rl (cs:List Int) (s:Int) (a:Nat):Nat:=((cs.drop a).takeWhile λc=>iC s c).length
def nx (cs:List Int) (x:Item) (a:Nat):List Nat :=
 if x.2=0 then (if rl cs x.1 a=0 then [] else [a+1])
 else if x.2=1 then (List.range (rl cs x.1 a+1)).map (a+·)
 else ((List.range (rl cs x.1 a+1)).filter λd=>d % 2==0).map (a+·)
theorem Ku (cs:List Int) (s:Int) (a:Nat) (h:a<=cs.length):a+rl cs s a<=cs.length:=by
 have:=(List.takeWhile_sublist (l:=cs.drop a) (λc=>iC s c)).length_le;rw [List.length_drop] at this;unfold rl;omega
theorem ahU (cs:List Int) (x:Item) (a b:Nat) (h:a<=cs.length) (hb:b∈nx cs x a):a<=b/\b<=cs.length:=by
 have h1:=Ku cs x.1 a h;unfold nx at hb
 split at hb
 ·split at hb
  ·exact absurd hb List.not_mem_nil
  ·rename_i h0
   have:=List.mem_singleton.1 hb;omega
 ·split at hb
  ·obtain⟨d,hd,rfl⟩:=List.mem_map.1 hb;have:=List.mem_range.1 hd;omega
  ·obtain⟨d,hd,rfl⟩:=List.mem_map.1 hb;have:=List.mem_range.1 (List.mem_filter.1 hd).1;omega
theorem al7 (cs:List Int) (x:Item) (a:Nat) (h:a<=cs.length):(nx cs x a).length<=cs.length+1:=by
 have h1:=Ku cs x.1 a h;unfold nx
 split
 ·split
  ·exact Nat.zero_le _
  ·simp
 ·split
  ·simp only [List.length_map,List.length_range];omega
  ·have:=List.length_filter_le (λd=>d % 2==0) (List.range (rl cs x.1 a+1));rw [List.length_range] at this;simp only [List.length_map];omega
theorem abX {cs:List Int} {s:Int} {a k:Nat} (h:k<rl cs s a):∃ c,cs[a+k]?=some c/\iC s c=true:=by
 obtain⟨c,h1,h2⟩:=(KZ (λc=>iC s c) (cs.drop a) (rl cs s a)).2 (Nat.le_refl _) k h;exact⟨c,by rwa [List.getElem?_drop] at h1,h2⟩
theorem aiA {cs:List Int} {s:Int} {a:Nat} (h:a+rl cs s a<cs.length):∃ c,cs[a+rl cs s a]?=some c/\iC s c=false:=by
 obtain⟨c,hc⟩:∃ c,cs[a+rl cs s a]?=some c:=⟨_,List.getElem?_eq_getElem h⟩
 refine⟨c,hc,?_⟩;rw [Bool.eq_false_iff];intro hh;have:=(KZ (λc=>iC s c) (cs.drop a) (rl cs s a+1)).1 (λx hx=>by
  rcases Nat.lt_or_ge x (rl cs s a) with h1 | h1
  ·obtain⟨d,h2,h3⟩:=abX h1;exact⟨d,by rw [List.getElem?_drop];exact h2,h3⟩
  ·obtain rfl:x=rl cs s a:=by omega
   exact⟨c,by rw [List.getElem?_drop];exact hc,hh⟩)
 unfold rl at this;omega
end N
def jD (cs:List Int) (x:N.Item) (a:Int):List Int:=(N.nx cs x a.toNat).map λn:Nat=>(n:Int)
def lZ (cs:List Int) (l:List N.Item) (a:Int) (k:Nat):List Int:=(l.take k).foldl (λout x=>iR (out.flatMap (jD cs x))) [a]
theorem Gv (cs:List Int) (l:List N.Item) (a:Int):lZ cs l a 0=[a]:=by simp [lZ]
theorem Iy (cs:List Int) (l:List N.Item) (a:Int) (k:Nat) (x:N.Item) (h:l[k]?=some x):lZ cs l a (k+1)=iR ((lZ cs l a k).flatMap (jD cs x)):=by
 unfold lZ;rw [List.take_add_one,h,List.foldl_append]
 rfl
theorem ag6 (cs:List Int) (x:N.Item) (a:Int) (h0:0<=a) (h1:a<=cs.length):∀ b∈jD cs x a,0<=b/\b<=cs.length:=by
 intro b hb;obtain⟨n,hn,rfl⟩:=List.mem_map.1 hb;have:=N.ahU cs x a.toNat n (by omega) hn;omega
theorem Yq (cs:List Int) (x:N.Item) (a:Int) (h0:0<=a) (h1:a<=cs.length):(jD cs x a).length<=cs.length+1:=by
 unfold jD;rw [List.length_map];exact N.al7 cs x a.toNat (by omega)
theorem aiH (cs:List Int) (x:N.Item) (out:List Int) (h:∀ b∈out,0<=b/\b<=cs.length):∀ b∈out.flatMap (jD cs x),0<=b/\b<=cs.length:=by
 intro b hb;obtain⟨a,ha,hb⟩:=List.mem_flatMap.1 hb;exact ag6 cs x a (h a ha).1 (h a ha).2 b hb
theorem Qx (cs:List Int) (l:List N.Item) (a:Int) (h0:0<=a) (h1:a<=cs.length):∀ k,k<=l.length->∀ b∈lZ cs l a k,0<=b/\b<=cs.length
 | 0,_=>by
  rw [Gv];intro b hb;rw [List.mem_singleton.1 hb];exact⟨h0,h1⟩
 | k+1,hk=>by
  rw [Iy cs l a k _ (List.getElem?_eq_getElem (by omega))];intro b hb;exact aiH cs _ _ (Qx cs l a h0 h1 k (by omega)) b ((Sr _ b).1 hb)
theorem aiz (cs:List Int) (l:List N.Item) (a:Int) (h0:0<=a) (h1:a<=cs.length) (k:Nat) (hk:k<=l.length):(lZ cs l a k).length<=cs.length+1:=by
 cases k with
 | zero=>rw [Gv];simp
 | succ k =>
  have hm:=Qx cs l a h0 h1 (k+1) hk;rw [Iy cs l a k _ (List.getElem?_eq_getElem (by omega))] at hm ⊢;have:=Y4 _ 0 cs.length (afL _) hm;omega
theorem WH (cs:List Int) (x:N.Item):∀ (out:List Int),(∀ b∈out,0<=b/\b<=cs.length)->(out.flatMap (jD cs x)).length<=out.length*(cs.length+1)
 | [],_=>by simp
 | a::t,h=>by
  have ih:=WH cs x t (λb hb=>h b (List.mem_cons_of_mem _ hb));have ha:=h a (List.mem_cons_self ..);have:=Yq cs x a ha.1 ha.2;rw [List.flatMap_cons,List.length_append,List.length_cons,Nat.succ_mul];omega
end
section
open Go.RowKit Go.Shelf
attribute [local go_sem] Oper.semAt_some
theorem ac9 (set c:Int) (b:Bool) (h:N.iC set c=b) (w:World):Calls Tryz.prog 210 #[.int .i64 set, .int .i64 c] w λe w'=>e = .returned (.bool b)/\w=w':=by
 rw [<- h];exact Xo set c w
theorem SE (p:Option Addr) (set a:Int) (w:World) :
  Calls Tryz.prog 232 #[.pointer p, .int .i64 set, .int .i64 a] w λe w'=>e = .returned (.func (.func 235) #[] #[.pointer (some ⟨w.heap.size+1+1,0,none⟩), .pointer (some ⟨w.heap.size,0,none⟩), .pointer (some ⟨w.heap.size+1,0,none⟩)]) /\
   ((w.alloc (.cells #[.pointer p] 332)).alloc (.cells #[.int .i64 set] 2)).alloc (.cells #[.int .i64 a] 3)=w':=by
 go_enter Tryz.func232,Tryz.ntmps232
 go_wp2
 go_ret
 exact⟨rfl,rfl⟩
def sW (a k:Nat):List Nat:=(List.range k).map (a+1+·)
theorem ag8 (a k:Nat):sW a (k+1)=sW a k++[a+k+1]:=by
 unfold sW;rw [List.range_succ,List.map_append];simp;omega
theorem VP (a k:Nat):(sW a k).length=k:=by simp [sW]
def Tn (w:World) (b:Nat):Nat:=match w.cell? ⟨b,0,none⟩ with | some v=>(intOf v).toNat | none=>0
theorem Xt {w:World} {b k:Nat} {t:TypeId} (h:aj w b t #[.int .i64 (k:Int)]):Tn w b=k:=by
 unfold Tn;rw [(h.cell 0).trans (show _=some (Value.int .i64 (k:Int)) from rfl)];simp [intOf]
theorem Vo (n:Nat) (W0:World) (mb:Nat) (cv:Value) (cs:List Int) (hM:aj W0 mb 305 #[cv]) (hC:aB W0 cv cs) (hz:cs.length<=16777216) (set:Int) (a0:Nat) (ha0:a0<=cs.length) (ba bY bs:Nat)
  (hd:W0.heap.size<=ba) (hdy:ba≠bY) (hds:ba≠bs) (l:Nat) (W1:World)
  (hA:Agree W0 W1) (h1:aj W1 ba 3 #[.int .i64 (a0:Int)]) (h2:aj W1 bY 332 #[.pointer (some ⟨mb,0,none⟩)]) (h3:aj W1 bs 2 #[.int .i64 set]) :
  Ph (n+1) Tryz.prog 235 #[.pointer (some ⟨ba,0,none⟩), .pointer (some ⟨bY,0,none⟩), .pointer (some ⟨bs,0,none⟩)] (λx:Nat=>#[.int .i64 x]) (λk=>k=ba) (xq W0 ba bY bs) (λpre x=>x=a0+pre.length+1/\pre.length<N.rl cs set a0)
   (λxs _=>xs=sW a0 (N.rl cs set a0)) l W1:=by
 intro J Jx hJ hJx hY h0;have HY:=bx hY;have HJ:=bx hJ;have HM:=bx hM;have HC:=bx hC;have BA:=N.Ku cs set a0 ha0;obtain⟨r,hr⟩:∃ r,r=N.rl cs set a0:=⟨_,rfl⟩
 rw [<- hr] at BA;have HR:=bx hr;obtain⟨ao,cap,rfl⟩:=hC.slice;clear hY hJ hM hC hr;refine callsIn_of_wp Tryz.func235 rfl trivial ?_;simp only [Tryz.ntmps235,List.size_toArray,List.length_cons,List.length_nil,Nat.reduceAdd,Nat.reduceSub,Array.replicate_succ,Array.replicate_zero,List.push_toArray,List.append_toArray,List.nil_append,List.cons_append]
 gi_wp2
 refine wpIn_wide.2 (wp_scope_straight ((wpIn_wide (n:=n+1)).1 ?_))
 gi_wp2
 refine wpIn_label ?_
 gi_wp2
 gi_loopw [] (λwr=>∃ k:Nat,k<=r/\Box (Agree W0 wr)/\Box (aj wr ba 3 #[.int .i64 ((a0+k:Nat):Int)])/\Box (aj wr bY 332 #[.pointer (some ⟨mb,0,none⟩)])/\Box (aj wr bs 2 #[.int .i64 set])/\Box (J (sW a0 k) wr))
  (λwr=>a0+r-Tn wr ba)
 case atStart=>exact⟨0,Nat.zero_le _,⟨hA⟩,⟨h1⟩,⟨h2⟩,⟨h3⟩,⟨h0⟩⟩
 case round =>
  obtain⟨k,hk,ha,hba,hby,hbs,hj⟩:=hrel;obtain⟨p,hp⟩:∃ p,p=a0+k:=⟨_,rfl⟩
  rw [<- hp] at hba;have HP:=bx hp;have HAT:=bx (Xt hba.o);have c0:wr.cell? ⟨ba,0,none⟩=some (.int .i64 ((p:Nat):Int)):=(hba.o.cell 0).trans rfl;have c1:wr.cell? ⟨bY,0,none⟩=some (.pointer (some ⟨mb,0,none⟩)):=(hby.o.cell 0).trans rfl;have c2:wr.cell? ⟨bs,0,none⟩=some (.int .i64 set):=(hbs.o.cell 0).trans rfl;have c3:wr.cell? ⟨mb,0,none⟩=some (.slice ao cs.length cap):=((show aj wr mb 305 #[.slice ao cs.length cap] from(ha.o.block mb HM.o.lt).trans HM.o).cell 0).trans rfl;clear h0 h1 h2 h3 hA;have hpr:p<=a0+r:=by omega
  clear hp
  by_cases hlt:p<cs.length
  ·obtain⟨c,hc⟩:∃ c,cs[p]?=some c:=⟨_,List.getElem?_eq_getElem hlt⟩
   obtain⟨g,off,cap2,hg1,hg2,hg3,hg4,hg5⟩:=HC.o.get (by rintro rfl;simp at hlt);obtain⟨rfl,rfl⟩:ao=some ⟨g,off,none⟩/\cap=cap2:=by injection hg1 with h1 h2 h3;exact⟨h1,h3⟩
   have hcy:wr.cell? ⟨g,off+p,none⟩=some (.int .i64 c):=(World.cell?_of_block (ha.o.block g hg4)).trans (hg5 _ c hc);have hd1:decide (((p:Nat):Int)<(cs.length:Int))=true:=decide_eq_true (by omega);unfold maxLen at hg3;have jQ:=bx hc;clear hg1 hg5 hc
   by_cases hkr:k<r
   ·have HAS:=bx (show N.iC set c=true by
     obtain⟨d,h5,h6⟩:=N.abX (HR.o▸hkr);rw [<- HP.o] at h5;have:=jQ.o.symm.trans h5
     cases this;exact h6)
    have HYW:=bx (λW2 (ht:Turns (λk=>k=ba) wr W2)=>HY.o (sW a0 k) (p+1) W2 (HJ.o _ _ _ hj.o ht) ⟨by rw [VP,HP.o],by rw [VP,<- HR.o];exact hkr⟩)
    gi_wp2
    refine wpIn_wide.2 ?_
    go_quiet ((go_at_call 210;exact rH (ac9 set c true HAS.o _)))
    have iG:=bx (Turns.of_below (own:=λk=>k=ba) (below_drewN (Below.refl wr.heap.size wr) nq));have hy0:=HYW.o (wr.drewN nq) iG.o;simp only [show ((p+1:Nat):Int)=(p:Int)+1 by omega] at hy0;obtain⟨fn,tmps,assign,body,hy,mX⟩:=hy0;have sF:=bx mX;clear mX
    gi_wp2
    refine sF.o.mono ?_;rintro e W3 (⟨rfl,hj3,hk3⟩ | ⟨rfl,hx3⟩)
    ·have Oz:aj W3 ba 3 #[.int .i64 ((p:Nat):Int)]:=(hk3.block _ (.inr (.inl rfl))).trans hba.o;have HB3:=bx Oz;have uY:=bx hj3;have uj:=bx hk3;have x0:W3.cell? ⟨ba,0,none⟩=some (.int .i64 ((p:Nat):Int)):=(Oz.cell 0).trans rfl;have f0:=Oz.frozen 0;clear hj3 hk3 Oz
     gi_wp2
     go_roundw
     case rel =>
      have hT:=Turns.setCell (own:=λk=>k=ba) W3 (p:=⟨ba,0,none⟩) rfl (.int .i64 ((p:Nat)+1:Int));refine⟨k+1,hkr,⟨?_⟩,⟨?_⟩,⟨?_⟩,⟨?_⟩,⟨?_⟩⟩
      ·exact(((ha.o.turns iG.o (λ_ h=>by omega)).holds uj.o (λ_ h=>.inl h))).turns hT (λ_ h=>by omega)
      ·have:=HB3.o.dh 0 (.int .i64 ((p:Nat)+1:Int));rw [show ((a0+(k+1):Nat):Int)=(p:Int)+1 by have:=HP.o;omega];exact this
      ·exact hT.blk ((uj.o.block _ (.inr (.inr (.inl rfl)))).trans hby.o) (by omega)
      ·exact hT.blk ((uj.o.block _ (.inr (.inr (.inr rfl)))).trans hbs.o) (by omega)
      ·rw [ag8,<- HP.o];exact HJ.o _ _ _ uY.o hT
     case measure =>
      have h5:=Xt (k:=p+1) (HB3.o.dh 0 (.int .i64 ((p:Nat)+1:Int)));have h6:=HAT.o;have h7:=HP.o;omega
    ·gi_wp2
     rw [Exit.noGoto_normal]
     go_end0
     exact⟨⟨_,rfl⟩, .inr ⟨_,hx3⟩⟩
   ·obtain rfl:k=r:=by have:=HP.o;omega
    have HAS:=bx (show N.iC set c=false by
     obtain⟨d,h5,h6⟩:=N.aiA (cs:=cs) (s:=set) (a:=a0) (by rw [<- HR.o,<- HP.o];exact hlt);rw [<- HR.o,<- HP.o] at h5;have:=jQ.o.symm.trans h5
     cases this;exact h6)
    gi_wp2
    refine wpIn_wide.2 ?_
    go_quiet ((go_at_call 210;exact rH (ac9 set c false HAS.o _)))
    have iG:=bx (Turns.of_below (own:=λk=>k=ba) (below_drewN (Below.refl wr.heap.size wr) nq))
    gi_wp2
    rw [Exit.noGoto_normal]
    go_end0
    exact⟨⟨_,rfl⟩, .inl ⟨_,by rw [HR.o],HJ.o _ _ _ hj.o iG.o⟩⟩
  ·have hkr:k=r:=by have:=HP.o;omega
   have hd1:decide (((p:Nat):Int)<(cs.length:Int))=false:=decide_eq_false (by omega)
   gi_wp2
   refine wpIn_wide.2 ?_
   go_quiet (fail)
   have iG:=bx (Turns.of_below (own:=λk=>k=ba) (below_drewN (Below.refl wr.heap.size wr) nq))
   gi_wp2
   rw [Exit.noGoto_normal]
   go_end0
   exact⟨⟨_,rfl⟩, .inl ⟨_,by rw [hkr,HR.o],HJ.o _ _ _ hj.o iG.o⟩⟩
theorem four (w:World) (c0 c1 c2 c3:Array Value) (T0 T1 T2 T3:TypeId) :
  aj ((((w.alloc (.cells c0 T0)).alloc (.cells c1 T1)).alloc (.cells c2 T2)).alloc (.cells c3 T3)) w.heap.size T0 c0/\aj ((((w.alloc (.cells c0 T0)).alloc (.cells c1 T1)).alloc (.cells c2 T2)).alloc (.cells c3 T3)) (w.heap.size+1) T1 c1 /\
   aj ((((w.alloc (.cells c0 T0)).alloc (.cells c1 T1)).alloc (.cells c2 T2)).alloc (.cells c3 T3)) (w.heap.size+1+1) T2 c2/\aj ((((w.alloc (.cells c0 T0)).alloc (.cells c1 T1)).alloc (.cells c2 T2)).alloc (.cells c3 T3)) (w.heap.size+1+1+1) T3 c3 /\
   Below w.heap.size w ((((w.alloc (.cells c0 T0)).alloc (.cells c1 T1)).alloc (.cells c2 T2)).alloc (.cells c3 T3))/\((((w.alloc (.cells c0 T0)).alloc (.cells c1 T1)).alloc (.cells c2 T2)).alloc (.cells c3 T3)).heap.size=w.heap.size+4:=by
 refine⟨(((aj.new w _ _).alloc _).alloc _).alloc _,?_,?_,?_,((((Below.refl _ _).alloc (Nat.le_refl _) _).alloc (by simp) _).alloc (by simp;omega) _).alloc (by simp;omega) _,by simp⟩
 ·have:=((aj.new (w.alloc (.cells c0 T0)) T1 c1).alloc (.cells c2 T2)).alloc (.cells c3 T3)
  simpa using this
 ·have:=(aj.new ((w.alloc (.cells c0 T0)).alloc (.cells c1 T1)) T2 c2).alloc (.cells c3 T3)
  simpa using this
 ·have:=aj.new (((w.alloc (.cells c0 T0)).alloc (.cells c1 T1)).alloc (.cells c2 T2)) T3 c3
  simpa using this
theorem Bj (w:World) (o:Obj):Below w.heap.size w (w.alloc o):=(Below.refl _ _).alloc (Nat.le_refl _) o
theorem aeX {w:World} {g:Nat} {T:TypeId} {x:Int} (h:aj w g T #[.int .i64 x]):aB w (.slice (some ⟨g,0,none⟩) 1 1) [x] :=
 .inr ⟨g,0,none,1,rfl,by simp,by unfold maxLen;omega,λ_=>⟨rfl,h.lt,λi y hy=>by
  match i,hy with
  | 0,hy =>
   simp only [List.getElem?_cons_zero,Option.some.injEq] at hy;subst hy;exact(h.cell 0).trans rfl
  | i+1,hy=>simp at hy⟩⟩
theorem ZV {P:Program} {fn:Func} {p:Tmp} {ty:TypeId} (h:fn.results=#[.cell p ty]) (tmps:Array Value) (w:World) (g:Nat) (v:Value) (hp:tmps.getD p undef = .pointer (some ⟨g,0,none⟩)) (hc:w.cell? ⟨g,0,none⟩=some v)
  (ha:(isAgg ty).run P w = .ok false w):(results fn tmps).run P w = .ok v w:=by
 have hp':tmps[p]?.getD undef = .pointer (some ⟨g,0,none⟩):=by simpa using hp
 simp [results,h,hp',asAddr,loadVar,ha,hc]
theorem ad2 (mb:Nat) (cv:Value) (cs:List Int) (set:Int) (a:Nat) (w:World) (hM:aj w mb 305 #[cv]) (hC:aB w cv cs) (hz:cs.length<=16777216) (ha:a<=cs.length) :
  Calls Tryz.prog 224 #[.pointer (some ⟨mb,0,none⟩), .int .i64 set, .int .i64 a] w λe w'=>(∃ v,e = .returned v/\aB w' v (jD cs (set,0) a))/\Below w.heap.size w w':=by
 have HM:=bx hM;have HC:=bx hC;have hml:=hM.lt;clear hM hC;refine(callsIn_wide (n:=9)).1 (callsIn_of_wp_marks Tryz.func224 rfl trivial (wpIn_wide.2 ?_));simp only [Tryz.ntmps224,List.size_toArray,List.length_cons,List.length_nil,Nat.reduceAdd,Nat.reduceSub,Array.replicate_succ,Array.replicate_zero,List.push_toArray,List.append_toArray,List.nil_append,List.cons_append];go_wp2_with (go_at_call 232;refine(SE _ _ _ _).mono ?_;rintro e w' ⟨rfl,rfl⟩)
 obtain⟨hb0,hb1,hb2,hb3,hbL,hsz⟩:=four w #[.slice none 0 0] #[.pointer (some ⟨mb,0,none⟩)] #[.int .i64 set] #[.int .i64 (a:Int)] 22 332 2 3;generalize (((w.alloc (.cells #[.slice none 0 0] 22)).alloc (.cells #[.pointer (some ⟨mb,0,none⟩)] 332)).alloc (.cells #[.int .i64 set] 2)).alloc (.cells #[.int .i64 (a:Int)] 3)=wL at hb0 hb1 hb2 hb3 hbL hsz ⊢;have wz:Agree w wL:=.of_below hbL;refine(wpIn_wide (n:=9)).1 (J6 (α:=Nat) (gf:=235) (lb:=#[.pointer (some ⟨w.heap.size+1+1+1,0,none⟩), .pointer (some ⟨w.heap.size+1,0,none⟩), .pointer (some ⟨w.heap.size+1+1,0,none⟩)]) rfl (enters_of Tryz.func235 (by kernel_rfl) rfl)
  (encs:=λx:Nat=>#[.int .i64 x]) (own:=λk=>k=w.heap.size+1+1+1) (keep:=xq w (w.heap.size+1+1+1) (w.heap.size+1) (w.heap.size+1+1)) (ok:=λpre x=>x=a+pre.length+1/\pre.length<N.rl cs set a) (S:=λxs _=>xs=sW a (N.rl cs set a))
  (λk hk=>by unfold xq at hk;omega)
  (λW1 ht=>Vo 7 w mb cv cs HM.o HC.o hz set a ha (w.heap.size+1+1+1) (w.heap.size+1) (w.heap.size+1+1) (by omega) (by omega) (by omega) _ W1 (wz.turns ht (λ_ h=>h.elim)) (ht.blk hb3 (λh=>h)) (ht.blk hb1 (λh=>h)) (ht.blk hb2 (λh=>h)))
  (λ_=>rfl)
  (λpre W=>pre=[]/\aj W w.heap.size 22 #[.slice none 0 0]/\Below w.heap.size w W)
  (λc _ W=>c = .ret/\N.rl cs set a≠0/\(∃ g,aj W w.heap.size 22 #[.slice (some ⟨g,0,none⟩) 1 1]/\aj W g 3 #[.int .i64 ((a+1:Nat):Int)]/\wL.heap.size+2<=g)/\Below w.heap.size w W) ?hI ?hIx ⟨rfl,hb0,hbL⟩
  (λx a1 _=>a1={ tmps:=#[.pointer (some ⟨mb,0,none⟩), .int .i64 set, .int .i64 (a:Int),undef,undef,undef, .pointer (some ⟨w.heap.size,0,none⟩), .int .i64 (x:Int), .pointer (some ⟨mb,0,none⟩), .pointer (some ⟨mb,0,none⟩), .pointer (some ⟨mb,0,none⟩), .int .i64 set, .int .i64 (a:Int), .func (.func 235) #[] #[.pointer (some ⟨w.heap.size+1+1+1,0,none⟩), .pointer (some ⟨w.heap.size+1,0,none⟩), .pointer (some ⟨w.heap.size+1+1,0,none⟩)], .int .i64 (x:Int),undef,undef],defers:=[] })
  (λ_ _ _ _ h _=>h) ?assign ?body ?done ?stop (λ_ _ _ h _=>h))
 case hI =>
  rintro pre W W' ⟨h1,h2,h3⟩ ht;exact⟨h1,ht.blk h2 (by omega),h3.trans (ht.below h3.size (λk hk=>by omega))⟩
 case hIx =>
  rintro c pre W W' ⟨h1,h2,⟨g,h3,h4,h5⟩,h6⟩ ht;exact⟨h1,h2,⟨g,ht.blk h3 (by omega),ht.blk h4 (by omega),h5⟩,h6.trans (ht.below h6.size (λk hk=>by omega))⟩
 case assign =>
  intro x W K _ hK
  gi_wp2
  exact hK _ _ (Turns.refl _ _) rfl
 case body =>
  rintro pre x a1 W hW ⟨rfl,h1,h2⟩ ⟨rfl,hr⟩ rfl;have HB:=bx h1;have H2:=bx h2;have HR:=bx hr;have l0:=h1.lt;have c0:W.cell? ⟨w.heap.size,0,none⟩=some (.slice none 0 0):=(h1.cell 0).trans rfl;have f0:=h1.frozen 0;clear h1 h2 hr hb0 hb1 hb2 hb3 hbL wz
  gi_wp2
  have hT1:=Turns.setCell (own:=λk=>k=w.heap.size) W (p:=⟨w.heap.size,0,none⟩) rfl (.slice (some ⟨W.heap.size,0,none⟩) 1 1);have hT:Turns (λk=>k=w.heap.size) W _:=hT1.trans (Turns.alloc _ (.cells #[.int .i64 ((a:Int)+1)] 3));have hn:=aj.new (W.setCell ⟨w.heap.size,0,none⟩ (.slice (some ⟨W.heap.size,0,none⟩) 1 1)) 3 #[.int .i64 ((a:Int)+1)];rw [show (W.setCell ⟨w.heap.size,0,none⟩ (.slice (some ⟨W.heap.size,0,none⟩) 1 1)).heap.size=W.heap.size by simp [World.setCell]] at hn;exact⟨Holds.xJ hT (λk hk=>by omega) (λk hk=>by omega),rfl,by have:=HR.o;simp at this;omega,⟨W.heap.size,(HB.o.dh 0 _).alloc _,hn,hW⟩,H2.o.trans (hT.below H2.o.size (λk hk=>by omega))⟩
 case stop =>
  rintro c pre W hW ⟨rfl,hr,⟨g,h1,h2,h4⟩,h3⟩ hD;have HD:=bx hD;have H1:=bx h1;have H2:=bx h2;have H3:=bx h3;have HR:=bx hr;clear h1 h2 h3 hr hD hb0 hb1 hb2 hb3 hbL wz;refine wpIn_wide.2 ?_;go_wp2_with fail;refine⟨by simp, .inl ⟨_,_,rfl,run_takeDeferred HD.o,?_⟩⟩;have hT:Turns (λk=>k=wL.heap.size) W (W.putObj wL.heap.size (.deferred none)):=Turns.putObj (own:=λk=>k=wL.heap.size) W rfl (.deferred none);refine⟨_,ZV Tryz.results224 _ _ w.heap.size _ rfl (((hT.blk H1.o (by omega)).cell 0).trans rfl) (Tryz.isAgg22 _),⟨_,rfl,?_⟩,H3.o.trans (hT.below H3.o.size (λk hk=>by omega))⟩;have hx:jD cs (set,0) a=[((a+1:Nat):Int)]:=by
   unfold jD N.nx;rw [if_pos rfl,if_neg (by simpa using HR.o)]
   rfl
  rw [hx];exact aeX (hT.blk H2.o (by omega))
 case done =>
  intro xs W hW hS ⟨h1,h2,h3⟩ hD;have hr:N.rl cs set a=0:=by
   have:=congrArg List.length hS;rw [h1,VP] at this;exact this.symm
  have HR:=bx hr;have H2:=bx h2;have H3:=bx h3;have HD:=bx hD;have c0:W.cell? ⟨w.heap.size,0,none⟩=some (.slice none 0 0):=(h2.cell 0).trans rfl;have f0:=h2.frozen 0;clear h1 h2 h3 hD hS hr hb0 hb1 hb2 hb3 hbL wz;go_wp2_with fail;have hS:=Turns.setCell (own:=λk=>k=w.heap.size) W (p:=⟨w.heap.size,0,none⟩) rfl (.slice none 0 0);refine⟨by simp, .inl ⟨_,_,rfl,run_takeDeferred ((hS.block _ (by omega) (by omega)).trans HD.o),?_⟩⟩;have hT:Turns (λk=>k=wL.heap.size) (W.setCell ⟨w.heap.size,0,none⟩ (.slice none 0 0)) _:=Turns.putObj (own:=λk=>k=wL.heap.size) _ rfl (.deferred none);refine⟨_,ZV Tryz.results224 _ _ w.heap.size (.slice none 0 0) rfl (((hT.blk (H2.o.dh 0 _) (by omega)).cell 0).trans rfl) (Tryz.isAgg22 _),⟨_,rfl,?_⟩,
   (H3.o.trans (hS.below H3.o.size (λk hk=>by omega))).trans (hT.below (by have:=H3.o.size;have:=hS.size;omega) (λk hk=>by omega))⟩
  have hx:jD cs (set,0) a=[]:=by
   unfold jD N.nx;rw [if_pos rfl,if_pos (by simpa using HR.o)]
   rfl
  rw [hx];exact .nil
def zM (xs:List Nat):List Value:=xs.map λn:Nat=>Value.int .i64 (n:Int)
theorem Tc (xs:List Nat) (x:Nat):zM (xs++[x])=zM xs++[.int .i64 (x:Int)]:=by simp [zM]
theorem Ns:(Tryz.prog.info? 3).map (λi=>(i.zero,i.size,i.bytes))=some (some (.int .i64 0),1,8):=by kernel_rfl
theorem XY (cs:List Int) (set:Int) (a:Nat):N.nx cs (set,1) a=a::sW a (N.rl cs set a):=by
 unfold N.nx sW;rw [if_neg (by simp),if_pos rfl,List.range_succ_eq_map,List.map_cons,List.map_map]
 congr 1
 apply List.map_congr_left
 intro x _;simp;omega
theorem Rn {w:World} {base n:Nat} {v:Value} {xs:List Nat} (h:w.ownsRow base 3 1 v n (zM xs)) (hn:n=xs.length):aB w v (xs.map λn:Nat=>(n:Int)) :=
 aB.gK (base:=base) (n:=n) (T:=3) (by rw [List.map_map];exact h) (by simp [hn])
theorem ahy (mb:Nat) (cv:Value) (cs:List Int) (set:Int) (a:Nat) (w:World) (hM:aj w mb 305 #[cv]) (hC:aB w cv cs) (hz:cs.length<=1000000) (ha:a<=cs.length) :
  Calls Tryz.prog 225 #[.pointer (some ⟨mb,0,none⟩), .int .i64 set, .int .i64 a] w λe w'=>(∃ v,e = .returned v/\aB w' v (jD cs (set,1) a))/\Below w.heap.size w w':=by
 have HM:=bx hM;have HC:=bx hC;have hml:=hM.lt;clear hM hC;refine(callsIn_wide (n:=9)).1 (callsIn_of_wp_marks Tryz.func225 rfl trivial (wpIn_wide.2 ?_));simp only [Tryz.ntmps225,List.size_toArray,List.length_cons,List.length_nil,Nat.reduceAdd,Nat.reduceSub,Array.replicate_succ,Array.replicate_zero,List.push_toArray,List.append_toArray,List.nil_append,List.cons_append];go_wp2_with (go_at_call 232;refine(SE _ _ _ _).mono ?_;rintro e w' ⟨rfl,rfl⟩)
 obtain⟨hb0,hb1,hb2,hb3,hbL,hsz⟩:=four (w.alloc (.cells #[.int .i64 (a:Int)] 3)) #[.slice (some ⟨w.heap.size,0,none⟩) 1 1] #[.pointer (some ⟨mb,0,none⟩)] #[.int .i64 set] #[.int .i64 (a:Int)] 22 332 2 3;have hr0:=(((((World.ownsRow_lit (base:=w.heap.size) (e:=3) (size:=1) w #[.int .i64 (a:Int)] 1 (Nat.le_refl _) (by unfold maxLen;omega) rfl).alloc (.cells #[.slice (some ⟨w.heap.size,0,none⟩) 1 1] 22)).alloc (.cells #[.pointer (some ⟨mb,0,none⟩)] 332)).alloc (.cells #[.int .i64 set] 2)).alloc (.cells #[.int .i64 (a:Int)] 3))
 have hbL:=(Bj w (.cells #[.int .i64 (a:Int)] 3)).trans (hbL.mono (Bj w _).size);rw [show (w.alloc (.cells #[.int .i64 (a:Int)] 3)).heap.size=w.heap.size+1 from by simp] at hb0 hb1 hb2 hb3 hsz;generalize ((((w.alloc (.cells #[.int .i64 (a:Int)] 3)).alloc (.cells #[.slice (some ⟨w.heap.size,0,none⟩) 1 1] 22)).alloc (.cells #[.pointer (some ⟨mb,0,none⟩)] 332)).alloc (.cells #[.int .i64 set] 2)).alloc (.cells #[.int .i64 (a:Int)] 3)=wL at hb0 hb1 hb2 hb3 hbL hsz hr0 ⊢;have wz:Agree w wL:=.of_below hbL;have BA:=N.Ku cs set a ha;refine(wpIn_wide (n:=9)).1 (J6 (α:=Nat) (gf:=235) (lb:=#[.pointer (some ⟨w.heap.size+1+1+1+1,0,none⟩), .pointer (some ⟨w.heap.size+1+1,0,none⟩), .pointer (some ⟨w.heap.size+1+1+1,0,none⟩)]) rfl (enters_of Tryz.func235 (by kernel_rfl) rfl)
  (encs:=λx:Nat=>#[.int .i64 x]) (own:=λk=>k=w.heap.size+1+1+1+1) (keep:=xq w (w.heap.size+1+1+1+1) (w.heap.size+1+1) (w.heap.size+1+1+1)) (ok:=λpre x=>x=a+pre.length+1/\pre.length<N.rl cs set a) (S:=λxs _=>xs=sW a (N.rl cs set a))
  (λk hk=>by unfold xq at hk;omega)
  (λW1 ht=>Vo 7 w mb cv cs HM.o HC.o (by omega) set a ha (w.heap.size+1+1+1+1) (w.heap.size+1+1) (w.heap.size+1+1+1) (by omega) (by omega) (by omega) _ W1 (wz.turns ht (λ_ h=>h.elim)) (ht.blk hb3 (λh=>h)) (ht.blk hb1 (λh=>h)) (ht.blk hb2 (λh=>h)))
  (λ_=>rfl)
  (λpre W=>(∃ v,aj W (w.heap.size+1) 22 #[v]/\W.ownsRow w.heap.size 3 1 v (pre.length+1) (zM (a::pre))/\∀ g,v.ownBlock=some g->g=w.heap.size\/wL.heap.size+2<=g)/\Below w.heap.size w W)
  (λ_ _ _=>False) ?hI (λ_ _ _ _ h _=>h) ⟨⟨_,hb0,hr0,λg hg=>by cases hg;exact .inl rfl⟩,hbL⟩
  (λx a1 _=>a1={ tmps:=#[.pointer (some ⟨mb,0,none⟩), .int .i64 set, .int .i64 (a:Int),undef,undef,undef, .slice none 0 0, .pointer (some ⟨w.heap.size+1,0,none⟩), .int .i64 (x:Int), .int .i64 (a:Int), .slice (some ⟨w.heap.size,0,none⟩) 1 1, .pointer (some ⟨mb,0,none⟩), .pointer (some ⟨mb,0,none⟩), .pointer (some ⟨mb,0,none⟩), .int .i64 set, .int .i64 (a:Int), .func (.func 235) #[] #[.pointer (some ⟨w.heap.size+1+1+1+1,0,none⟩), .pointer (some ⟨w.heap.size+1+1,0,none⟩), .pointer (some ⟨w.heap.size+1+1+1,0,none⟩)], .int .i64 (x:Int),undef,undef,undef,undef,undef],defers:=[] })
  (λ_ _ _ _ h _=>h) ?assign ?body ?done (λ_ _ _ _ h _=>h.elim) (λ_ _ _ h _=>h))
 case hI =>
  rintro pre W W' ⟨⟨v,h1,h2,h3⟩,h4⟩ ht;exact⟨⟨v,ht.blk h1 (by omega),ht.row h2 (λk hk=>by have:=h3 k hk;omega),h3⟩,h4.trans (ht.below h4.size (λk hk=>by omega))⟩
 case assign =>
  intro x W K _ hK
  gi_wp2
  exact hK _ _ (Turns.refl _ _) rfl
 case body =>
  rintro pre x a1 W hW ⟨⟨v,h1,h2,h3⟩,h4⟩ ⟨hx,hr⟩ rfl;have hlt:=h2.lt;have hs0:=h4.size;have hc:W.cell? ⟨w.heap.size+1,0,none⟩=some v:=(h1.cell 0).trans rfl;have hf:=h1.frozen 0;have HV:=bx h1;have HL:=bx hlt;have H3:=bx h3;have H4:=bx h4;have HR:=bx h2;have jJ:=bx (Tc (a::pre) x);obtain⟨i0,hi,hz0,hz1,hz2⟩:=info_parts Ns;have yw:=bx (show v.ownBlock≠some (w.heap.size+1) from λe=>by rcases h3 _ e with h | h <;> omega);have hpl:pre.length<1000000:=by omega
  obtain⟨og,oc,rfl⟩:=ownsRow_succ h2;clear h1 h2 h3 h4 hb0 hb1 hb2 hb3 hbL hr hr0 hlt wz hx
  gi_wp2_with (gi_at_builtin;refine wpListIn_append_own_at _ rfl _ _ 22 rfl w.heap.size 3 i0 (.int .i64 0) 1 8 Tryz.underlying22 hi hz0 hz1 hz2 rfl (by decide) (.slice (some ⟨og,0,none⟩) (pre.length+1) oc) _ _ rfl (HR.o.alloc _) ⟨W.heap.size,0,none⟩ 1 1 [.int .i64 (x:Int)] rfl rfl (cell_one_new _ _ _) (by simp [Value.oneCell']) (by unfold maxLen;omega) (by omega) (by simp;omega) ?_;intro v' w1 hown' hgrow _ hat;obtain⟨g',cap',rfl⟩:=ownsRow_succ hown';have hv1:=(HV.o.alloc _).grown hgrow (Ne.symm yw.o);have hc1:=hv1.cell 0;have hf1:=hv1.frozen 0;simp at hc1)
  have hg':g'=og\/g'=W.heap.size+1:=by
   rcases hat with h | h
   ·left;simpa [Value.ownBlock] using h
   ·right;simpa [Value.ownBlock] using h
  have hog:=H3.o og rfl;have PD:=(HL.o og rfl).2;have hT:Turns (λk=>k=og\/k=w.heap.size+1) W (w1.setCell ⟨w.heap.size+1,0,none⟩ (.slice (some ⟨g',0,none⟩) (pre.length+1+1) cap')) :=
   ((Turns.alloc W _).trans (D6 hgrow (λk hk=>.inl (by simpa [Value.ownBlock] using hk.symm)))).trans (Turns.setCell _ (.inr rfl) _)
  refine⟨Holds.xJ hT (λk hk=>by unfold xq at hk;omega) (λk hk h=>by unfold xq at hk;omega),⟨_,hv1.dh 0 _,?_,λg hg=>?_⟩,H4.o.trans (hT.below H4.o.size (λk hk=>by omega))⟩
  ·rw [<- List.cons_append,jJ.o];have:=(Turns.setCell (own:=λk=>k=w.heap.size+1) w1 (p:=⟨w.heap.size+1,0,none⟩) rfl (.slice (some ⟨g',0,none⟩) (pre.length+1+1) cap')).row hown' (λk hk=>by simp [Value.ownBlock] at hk;omega)
   simpa using this
  ·have:g=g':=by simpa [Value.ownBlock] using hg.symm
   omega
 case done =>
  intro xs W hW hS ⟨⟨v,h1,h2,h3⟩,h4⟩ hD;have c0:W.cell? ⟨w.heap.size+1,0,none⟩=some v:=(h1.cell 0).trans rfl;have H2:=bx h4;have HD:=bx hD;have HR:=bx h2;have HS:=bx hS;have H3:=bx h3;clear h1 h2 h3 h4 hD hb0 hb1 hb2 hb3 hbL hS hr0 wz;go_wp2_with fail;refine⟨by simp, .inl ⟨_,_,rfl,run_takeDeferred HD.o,?_⟩⟩;refine⟨_,results_tmp rfl _ _ _,?_⟩;have hr:=(Turns.putObj (own:=λk=>k=wL.heap.size) W rfl (.deferred none)).row HR.o (λk hk=>by rcases H3.o k hk with h | h <;> omega);refine⟨⟨v,rfl,?_⟩,H2.o.trans ((Turns.putObj (own:=λk=>k=wL.heap.size) W rfl _).below H2.o.size (λk hk=>by omega))⟩;have hi:=Rn hr (by simp);rw [HS.o,<- XY] at hi;exact hi
def evens (a:Nat) (xs:List Nat):List Nat:=xs.filter λn=>(n-a) % 2==0
theorem akl (a:Nat) (xs:List Nat):(evens a xs).length<=xs.length:=List.length_filter_le _ _
theorem aen (a:Nat) (xs:List Nat) (x:Nat) (h:(x-a) % 2=0):evens a (xs++[x])=evens a xs++[x]:=by simp [evens,h]
theorem anh (a:Nat) (xs:List Nat) (x:Nat) (h:(x-a) % 2≠0):evens a (xs++[x])=evens a xs:=by simp [evens,h]
theorem amC (cs:List Int) (set:Int) (a:Nat):N.nx cs (set,2) a=a::evens a (sW a (N.rl cs set a)):=by
 have h:=XY cs set a;unfold N.nx at h ⊢;rw [if_neg (by simp),if_pos rfl] at h;rw [if_neg (by simp),if_neg (by simp)];have e:(λd:Nat=>d % 2==0)=((λn:Nat=>(n-a) % 2==0)∘(a+·)):=by
  funext d
  simp
 rw [e,<- List.filter_map,h];simp [evens]
theorem Zo (w:World) (cs cs1 cs2:Array Value) (T0 T1 T2:TypeId) :
  aj (((w.alloc (.cells cs T0)).alloc (.cells cs1 T1)).alloc (.cells cs2 T2)) w.heap.size T0 cs/\aj (((w.alloc (.cells cs T0)).alloc (.cells cs1 T1)).alloc (.cells cs2 T2)) (w.heap.size+1) T1 cs1/\aj (((w.alloc (.cells cs T0)).alloc (.cells cs1 T1)).alloc (.cells cs2 T2)) (w.heap.size+1+1) T2 cs2 /\
   Below w.heap.size w (((w.alloc (.cells cs T0)).alloc (.cells cs1 T1)).alloc (.cells cs2 T2))/\(((w.alloc (.cells cs T0)).alloc (.cells cs1 T1)).alloc (.cells cs2 T2)).heap.size=w.heap.size+3:=by
 refine⟨((aj.new w _ _).alloc _).alloc _,?_,?_,(((Below.refl _ _).alloc (Nat.le_refl _) _).alloc (by simp) _).alloc (by simp;omega) _,by simp⟩
 ·have:=(aj.new (w.alloc (.cells cs T0)) T1 cs1).alloc (.cells cs2 T2)
  simpa using this
 ·have:=aj.new ((w.alloc (.cells cs T0)).alloc (.cells cs1 T1)) T2 cs2
  simpa using this
theorem akc (mb:Nat) (cv:Value) (cs:List Int) (set:Int) (a:Nat) (w:World) (hM:aj w mb 305 #[cv]) (hC:aB w cv cs) (hz:cs.length<=1000000) (ha:a<=cs.length) :
  Calls Tryz.prog 226 #[.pointer (some ⟨mb,0,none⟩), .int .i64 set, .int .i64 a] w λe w'=>(∃ v,e = .returned v/\aB w' v (jD cs (set,2) a))/\Below w.heap.size w w':=by
 have HM:=bx hM;have HC:=bx hC;have hml:=hM.lt;clear hM hC;refine(callsIn_wide (n:=9)).1 (callsIn_of_wp_marks Tryz.func226 rfl trivial (wpIn_wide.2 ?_));simp only [Tryz.ntmps226,List.size_toArray,List.length_cons,List.length_nil,Nat.reduceAdd,Nat.reduceSub,Array.replicate_succ,Array.replicate_zero,List.push_toArray,List.append_toArray,List.nil_append,List.cons_append];go_wp2_with fail;obtain⟨hba,hb7,hb8,OD,hszA⟩:=Zo w #[.int .i64 (a:Int)] #[.int .i64 (a:Int)] #[.slice (some ⟨w.heap.size+1,0,none⟩) 1 1] 3 3 22;have OI:=(World.ownsRow_lit (base:=w.heap.size) (e:=3) (size:=1) (w.alloc (.cells #[.int .i64 (a:Int)] 3)) #[.int .i64 (a:Int)] 1 (by simp) (by unfold maxLen;omega) rfl).alloc (.cells #[.slice (some ⟨w.heap.size+1,0,none⟩) 1 1] 22);rw [show (w.alloc (.cells #[.int .i64 (a:Int)] 3)).heap.size=w.heap.size+1 from by simp] at OI;generalize ((w.alloc (.cells #[.int .i64 (a:Int)] 3)).alloc (.cells #[.int .i64 (a:Int)] 3)).alloc (.cells #[.slice (some ⟨w.heap.size+1,0,none⟩) 1 1] 22)=wA at hba hb7 hb8 OD hszA OI ⊢;refine wp_region_still_tail 5 (by kernel_rfl) (by kernel_rfl) ?_;simp only [List.take_succ_cons,List.take_zero,List.drop_succ_cons,List.drop_zero]
 change wpStill _ _ (World.drew wA) (λa'=>wpList _ _ _ _ a' (World.drew wA)) _ _
 have hTd:Turns (λ_=>False) wA wA.drew:=Turns.drew wA;obtain⟨wB,hwB⟩:∃ wB,wB=wA.drew:=⟨_,rfl⟩
 rw [<- hwB] at hTd ⊢;have hba:=hTd.blk hba (λh=>h);have hb8:=hTd.blk hb8 (λh=>h);have VN:=hTd.row OI (λ_ _ h=>h);have hbB:Below w.heap.size w wB:=OD.trans (hTd.below OD.size (λ_ h=>h.elim));have UF:wB.heap.size=w.heap.size+3:=by rw [hwB];exact hszA
 have c5:wB.cell? ⟨w.heap.size,0,none⟩=some (.int .i64 (a:Int)):=(hba.cell 0).trans rfl;have anF:=bx UF;clear hwB hTd OD hszA OI hb7 UF
 still_step
 still_step
 still_step
 still_step
 still_step
 refine wpStill_nil ?_
 change wpList _ _ _ _ _ _
 go_wp2_with (go_at_call 232;refine(SE _ _ _ _).mono ?_;rintro e w' ⟨rfl,rfl⟩)
 clear c5;have UF:=Nat.le_of_eq anF.o.symm;obtain⟨hb1,hb2,hb3,hbL,hsz⟩:=Zo wB #[.pointer (some ⟨mb,0,none⟩)] #[.int .i64 set] #[.int .i64 (a:Int)] 332 2 3;have hr0:=((VN.alloc (.cells #[.pointer (some ⟨mb,0,none⟩)] 332)).alloc (.cells #[.int .i64 set] 2)).alloc (.cells #[.int .i64 (a:Int)] 3);generalize ((wB.alloc (.cells #[.pointer (some ⟨mb,0,none⟩)] 332)).alloc (.cells #[.int .i64 set] 2)).alloc (.cells #[.int .i64 (a:Int)] 3)=wL at hb1 hb2 hb3 hbL hsz hr0 ⊢;have hb0:=hb8.below hbL (by omega);have hbox:=hba.below hbL (by omega);have hbL:=bt hbB hbL;have wz:Agree w wL:=.of_below hbL;have BA:=N.Ku cs set a ha;refine(wpIn_wide (n:=9)).1 (J6 (α:=Nat) (gf:=235) (lb:=#[.pointer (some ⟨wB.heap.size+1+1,0,none⟩), .pointer (some ⟨wB.heap.size,0,none⟩), .pointer (some ⟨wB.heap.size+1,0,none⟩)]) rfl (enters_of Tryz.func235 (by kernel_rfl) rfl)
  (encs:=λx:Nat=>#[.int .i64 x]) (own:=λk=>k=wB.heap.size+1+1) (keep:=xq w (wB.heap.size+1+1) (wB.heap.size) (wB.heap.size+1)) (ok:=λpre x=>x=a+pre.length+1/\pre.length<N.rl cs set a) (S:=λxs _=>xs=sW a (N.rl cs set a))
  (λk hk=>by unfold xq at hk;omega)
  (λW1 ht=>Vo 7 w mb cv cs HM.o HC.o (by omega) set a ha (wB.heap.size+1+1) (wB.heap.size) (wB.heap.size+1) (by omega) (by omega) (by omega) _ W1 (wz.turns ht (λ_ h=>h.elim)) (ht.blk hb3 (λh=>h)) (ht.blk hb1 (λh=>h)) (ht.blk hb2 (λh=>h)))
  (λ_=>rfl)
  (λpre W=>(∃ v,aj W w.heap.size 3 #[.int .i64 (a:Int)]/\aj W (w.heap.size+1+1) 22 #[v]/\W.ownsRow w.heap.size 3 1 v ((evens a pre).length+1) (zM (a::evens a pre))/\∀ g,v.ownBlock=some g->g=w.heap.size+1\/wL.heap.size+2<=g)/\Below w.heap.size w W)
  (λ_ _ _=>False) ?hI (λ_ _ _ _ h _=>h) ⟨⟨_,hbox,hb0,hr0,λg hg=>by cases hg;exact .inl rfl⟩,hbL⟩
  (λx a1 _=>a1={ tmps:=#[.pointer (some ⟨mb,0,none⟩), .int .i64 set, .int .i64 (a:Int),undef,undef, .pointer (some ⟨w.heap.size,0,none⟩), .slice none 0 0, .pointer (some ⟨w.heap.size+1+1,0,none⟩), .int .i64 (x:Int), .int .i64 (a:Int), .slice (some ⟨w.heap.size+1,0,none⟩) 1 1, .pointer (some ⟨mb,0,none⟩), .pointer (some ⟨mb,0,none⟩), .pointer (some ⟨mb,0,none⟩), .int .i64 set, .int .i64 (a:Int), .func (.func 235) #[] #[.pointer (some ⟨wB.heap.size+1+1,0,none⟩), .pointer (some ⟨wB.heap.size,0,none⟩), .pointer (some ⟨wB.heap.size+1,0,none⟩)], .int .i64 (x:Int),undef,undef,undef,undef,undef,undef,undef,undef,undef,undef],defers:=[] })
  (λ_ _ _ _ h _=>h) ?assign ?body ?done (λ_ _ _ _ h _=>h.elim) (λ_ _ _ h _=>h))
 case hI =>
  rintro pre W W' ⟨⟨v,h0,h1,h2,h3⟩,h4⟩ ht;exact⟨⟨v,ht.blk h0 (by omega),ht.blk h1 (by omega),ht.row h2 (λk hk=>by have:=h3 k hk;omega),h3⟩,h4.trans (ht.below h4.size (λk hk=>by omega))⟩
 case assign =>
  intro x W K _ hK
  gi_wp2
  exact hK _ _ (Turns.refl _ _) rfl
 case body =>
  rintro pre x a1 W hW ⟨⟨v,h0,h1,h2,h3⟩,h4⟩ ⟨hx,hr⟩ rfl;have c5:W.cell? ⟨w.heap.size,0,none⟩=some (.int .i64 (a:Int)):=(h0.cell 0).trans rfl;have H0:=bx h0;have HX:=bx hx;have hax:a<=x:=by omega
  have hxc:x<=cs.length:=by omega
  have hlt:=h2.lt;have hs0:=h4.size;have hc:W.cell? ⟨w.heap.size+1+1,0,none⟩=some v:=(h1.cell 0).trans rfl;have hf:=h1.frozen 0;have HV:=bx h1;have HL:=bx hlt;have H3:=bx h3;have H4:=bx h4;have HR:=bx h2;have jJ:=bx (Tc (a::evens a pre) x);obtain⟨i0,hi,hz0,hz1,hz2⟩:=info_parts Ns;have yw:=bx (show v.ownBlock≠some (w.heap.size+1+1) from λe=>by rcases h3 _ e with h | h <;> omega);have hpl:(evens a pre).length<1000000:=by have:=akl a pre;omega
  obtain⟨og,oc,rfl⟩:=ownsRow_succ h2;clear h1 h2 h3 h4 hb0 hb1 hb2 hb3 hbL hr hr0 hlt wz h0 hba hb8 hbox VN hbB hx
  by_cases he:(x-a) % 2=0
  ·have Hq:=bx (aen a pre x he);have t1:(((x:Int)-(a:Int)) % 2==0)=true:=by rw [beq_iff_eq];omega
   clear he
   gi_wp2_with (gi_at_builtin;refine wpListIn_append_own_at _ rfl _ _ 22 rfl w.heap.size 3 i0 (.int .i64 0) 1 8 Tryz.underlying22 hi hz0 hz1 hz2 rfl (by decide) (.slice (some ⟨og,0,none⟩) ((evens a pre).length+1) oc) _ _ rfl (HR.o.alloc _) ⟨W.heap.size,0,none⟩ 1 1 [.int .i64 (x:Int)] rfl rfl (cell_one_new _ _ _) (by simp [Value.oneCell']) (by unfold maxLen;omega) (by omega) (by simp;omega) ?_;intro v' w1 hown' hgrow _ hat;obtain⟨g',cap',rfl⟩:=ownsRow_succ hown';have hv1:=(HV.o.alloc _).grown hgrow (Ne.symm yw.o);have hc1:=hv1.cell 0;have hf1:=hv1.frozen 0;simp at hc1)
   have hg':g'=og\/g'=W.heap.size+1:=by
    rcases hat with h | h
    ·left;simpa [Value.ownBlock] using h
    ·right;simpa [Value.ownBlock] using h
   have hog:=H3.o og rfl;have PD:=(HL.o og rfl).2;have hT:Turns (λk=>k=og\/k=w.heap.size+1+1) W (w1.setCell ⟨w.heap.size+1+1,0,none⟩ (.slice (some ⟨g',0,none⟩) ((evens a pre).length+1+1) cap')) :=
    ((Turns.alloc W _).trans (D6 hgrow (λk hk=>.inl (by simpa [Value.ownBlock] using hk.symm)))).trans (Turns.setCell _ (.inr rfl) _)
   refine⟨Holds.xJ hT (λk hk=>by unfold xq at hk;omega) (λk hk h=>by unfold xq at hk;omega),⟨_,hT.blk H0.o (by omega),hv1.dh 0 _,?_,λg hg=>?_⟩,H4.o.trans (hT.below H4.o.size (λk hk=>by omega))⟩
   ·rw [Hq.o,<- List.cons_append,jJ.o];have:=(Turns.setCell (own:=λk=>k=w.heap.size+1+1) w1 (p:=⟨w.heap.size+1+1,0,none⟩) rfl (.slice (some ⟨g',0,none⟩) ((evens a pre).length+1+1) cap')).row hown' (λk hk=>by simp [Value.ownBlock] at hk;omega)
    simpa using this
   ·have:g=g':=by simpa [Value.ownBlock] using hg.symm
    omega
  ·have Hq:=bx (anh a pre x he);have t1:(((x:Int)-(a:Int)) % 2==0)=false:=by rw [beq_eq_false_iff_ne];omega
   clear he
   gi_wp2_with fail
   exact⟨Holds.refl _ _,⟨_,H0.o,HV.o,by rw [Hq.o];exact HR.o,H3.o⟩,H4.o⟩
 case done =>
  intro xs W hW hS ⟨⟨v,h0,h1,h2,h3⟩,h4⟩ hD;have c0:W.cell? ⟨w.heap.size+1+1,0,none⟩=some v:=(h1.cell 0).trans rfl;have H2:=bx h4;have HD:=bx hD;have HR:=bx h2;have HS:=bx hS;have H3:=bx h3;clear h0 h1 h2 h3 h4 hD hb0 hb1 hb2 hb3 hbL hS hr0 wz hba hb8 hbox VN hbB;go_wp2_with fail;refine⟨by simp, .inl ⟨_,_,rfl,run_takeDeferred HD.o,?_⟩⟩;refine⟨_,results_tmp rfl _ _ _,?_⟩;have hr:=(Turns.putObj (own:=λk=>k=wL.heap.size) W rfl (.deferred none)).row HR.o (λk hk=>by rcases H3.o k hk with h | h <;> omega);refine⟨⟨v,rfl,?_⟩,H2.o.trans ((Turns.putObj (own:=λk=>k=wL.heap.size) W rfl _).below H2.o.size (λk hk=>by omega))⟩;have hi:=Rn hr (by simp);rw [HS.o,<- amC] at hi;exact hi
end
section
open Go.RowKit Go.Sort
theorem ajg (w:World):grow w #[]=w:=by simp [grow]
theorem ajD {ps:List Pc} {W:World} (h:Sep ps W) (i:Nat) {base n:Nat} {e:TypeId} {v:Value} {zs:List Int} (hi:ps[i]?=some (Pc.row base e 1 v n (zs.map (Value.int .i64)))) (hn:n=zs.length) (hz:n<=1000000) :
  Calls Tryz.prog 234 #[v] W λe' W'=>∃ v',e' = .returned v'/\Sep (ps.set i (Pc.row base e 1 v' (Go.Lib.compact zs).length ((Go.Lib.compact zs).map (Value.int .i64)))) W':=by
 subst hn;have hrow:=h.row i hi
 rcases hrow.2 with⟨rfl,h2⟩ | ⟨g,cap,cur,rfl,hb,hg,h3,h4,h5,h6⟩
 ·have hz0:zs=[]:=List.eq_nil_of_length_eq_zero h2;subst hz0;refine(afo none 0 W).mono ?_;rintro e' W' ⟨rfl,rfl⟩;refine⟨_,rfl,?_⟩;have e1:ps.set i (Pc.row base e 1 (.slice none 0 0) (Go.Lib.compact ([]:List Int)).length ((Go.Lib.compact ([]:List Int)).map (Value.int .i64)))=ps:=by
   obtain⟨k1,k2⟩:=List.getElem?_eq_some_iff.1 hi;rw [show Go.Lib.compact ([]:List Int)=[] from rfl,show ([]:List Int).length=0 from rfl];have k3:ps[i]=Pc.row base e 1 (.slice none 0 0) 0 []:=k2;rw [List.map_nil,<- k3,List.set_getElem_self]
  rw [e1];exact h
 ·rw [Nat.mul_one] at h6;refine(ajJ g 0 cap zs W (holds_of_blockI hg h6) (by omega) h3).mono ?_;rintro e' W' ⟨rfl,q,rfl⟩;have hle:=Go.Lib.compact_length_le zs;obtain⟨d,hd⟩:∃ d,Go.Lib.compact zs++List.replicate (zs.length-(Go.Lib.compact zs).length) (0:Int)=d:=⟨_,rfl⟩
  have hdl:d.length=zs.length:=by rw [<- hd,List.length_append,List.length_replicate];omega
  rw [hd];have hgb:=grownBy_sortedI (w:=W) (g:=g) (n:=q) (os:=#[]) d.toArray;have hro:=ownsRow_sortedI (n:=q) (os:=#[]) hdl hb hg h3 h4 h5;rw [ajg] at hgb hro;refine⟨_,rfl,h.grow i hi hgb ?_ (.inl rfl)⟩;refine⟨by simp, .inr ?_⟩
  rcases hro.2 with⟨h7,_⟩ | ⟨g',cap',cur',h7,h8,h9,h10,h11,h12,h13⟩
  ·cases h7
  ·cases h7;refine⟨g,cap,cur',rfl,h8,h9,by omega,h11,h12,?_⟩;rw [Nat.mul_one] at h13 ⊢;have:=congrArg (List.take (Go.Lib.compact zs).length) h13;rw [List.take_take,Nat.min_eq_left hle] at this;rw [this,<- hd,List.map_append,List.take_left' (by simp)]
theorem ahs {ps:List Pc} {W:World} (h:Sep ps W) (i:Nat) {base n:Nat} {e:TypeId} {v:Value} {zs:List Int} (hi:ps[i]?=some (Pc.row base e 1 v n (zs.map (Value.int .i64)))) (hn:n=zs.length) (hz:n<=1000000) :
  Calls Tryz.prog 227 #[v] W λe' W'=>∃ v',e' = .returned v'/\Sep (ps.set i (Pc.row base e 1 v' (iR zs).length ((iR zs).map (Value.int .i64)))) W':=by
 have HS:=bx (anG h i hi hn hz);have hil:i<ps.length:=(List.getElem?_eq_some_iff.1 hi).1;clear h hi
 go_enter Tryz.func227,Tryz.ntmps227
 go_wp2_with fail;refine HS.o.mono ?_;rintro e1 w1 ⟨rfl,h1⟩;have HC:=bx (ajD h1 i (by rw [List.getElem?_set_self hil]) (by rw [Y7];exact hn) hz);clear h1;go_wp2_with fail;refine HC.o.mono ?_;rintro e2 w2 ⟨v',rfl,h2⟩;rw [List.set_set] at h2;have H2:=bx h2;clear h2;go_wp2_with fail;go_ret
 exact⟨_,rfl,H2.o⟩
end
end Go.Proofs.YtdenoeakcflnmaaGreatDoor
