/- Texts of this claim. -/
import Derived.Test.YtdenoeakcflnmaaGreatDoorH20
import Derived.Test.YtdenoeakcflnmaaGreatDoorHXGaugeMeasures2
import Derived.Test.YtdenoeakcflnmaaGreatDoorHXGaugeMeasures4

set_option maxRecDepth 100000
set_option maxHeartbeats 8000000
namespace Go.Proofs.YtdenoeakcflnmaaGreatDoor
section
open Go.RowKit
attribute [local go_sem] Oper.semAt_some
theorem TB (v:Value) (t:Tab) (s:ByteArray) (w:World) (hv:TabAt w v t) (hs:dZ t) (hz:s.size<=100000) :
  Calls Tryz.prog 130 #[v, .string s] w λe w'=>e = .returned (.int .i64 (textE t s.data.toList))/\Below w.heap.size w w':=by
 obtain⟨pi,pb,rv,nv,fv,rfl,h1,h2,h3,h4,h5⟩:=hv;obtain⟨V,hV⟩:∃ V,V=w.alloc (.cells #[.int .i64 t.n,pi,pb,rv,nv,fv] 31):=⟨_,rfl⟩
 have HB0:=bx (show Below w.heap.size w V by rw [hV];exact aO _ _);have HK:=bx (show aj V w.heap.size 31 #[.int .i64 t.n,pi,pb,rv,nv,fv] by rw [hV];exact aj.new _ _ _);have bD:=bx (λW (h:Below w.heap.size w W)=>show TabAt W (.agg #[.int .i64 t.n,pi,pb,rv,nv,fv]) t from⟨pi,pb,rv,nv,fv,rfl,h1.below h,h2.below h,h3.below h,h4.below h,h5.below h⟩);have ay:=bx (λW (h:Below V.heap.size V W)=>HK.o.c6 h);have HV:=bx hV;have eH:=bx (La _ t V (bD.o V HB0.o) hs);have aX:=bx (show textE t s.data.toList=if jy t=false then 120 else if 2000<s.size then 121 else 0 by unfold textE;rw [size_eq]);generalize textE t s.data.toList=te at aX ⊢;generalize jy t=tb at eH aX;obtain⟨n,hn⟩:∃ n,n=t.n:=⟨_,rfl⟩
 rw [<- hn] at HV HK bD ay eH ⊢;clear h1 h2 h3 h4 h5 hV hs hn;obtain⟨k0,k1,k2,k3,k4,k5,kk⟩:=ay.o V (Below.refl _ _)
 go_enter Tryz.func130,Tryz.ntmps130
 go_upto_region 1 with(fail)
 rw [<- HV.o];go_wp2_with fail;refine eH.o.mono ?_;rintro e w1 ⟨rfl,hb1⟩;have HB1:=bx (bt HB0.o hb1);clear hb1 k0 k1 k2 k3 k4 k5 kk
 cases tb with
 | false =>
  go_wp2_with fail;go_ret
  exact⟨iF (by rw [aX.o];simp),HB1.o⟩
 | true =>
  rw [if_neg (by simp)] at aX
  by_cases h:2000<s.size
  ·have e1:decide ((2000:Int)<(s.size:Int))=true:=decide_eq_true (by omega);rw [if_pos h] at aX;clear h;go_wp2_with fail;go_ret
   exact⟨iF (by rw [aX.o]),HB1.o⟩
  ·have e1:decide ((2000:Int)<(s.size:Int))=false:=decide_eq_false (by omega);rw [if_neg h] at aX;clear h;go_wp2_with fail;go_ret
   exact⟨iF (by rw [aX.o]),HB1.o⟩
theorem toList_mk (l:List UInt8):(⟨l.toArray⟩:ByteArray).data.toList=l:=rfl
theorem size_mk (l:List UInt8):(⟨l.toArray⟩:ByteArray).size=l.length:=by rw [size_eq,toList_mk]
theorem V9 (v:Value) (t:Tab) (s:ByteArray) (w:World) (hv:TabAt w v t) (ht:F.iw t.p=true) (hz:s.size<=2000) :
  Calls Tryz.prog 131 #[v, .string s] w λe w'=>(∃ v',e = .returned v'/\aB w' v' (dW t.p (aT s.data.toList)))/\Below w.heap.size w w':=by
 obtain⟨pi,pb,rv,nv,fv,rfl,h1,h2,h3,h4,h5⟩:=hv;obtain⟨V,hV⟩:∃ V,V=w.alloc (.cells #[.int .i64 t.n,pi,pb,rv,nv,fv] 31):=⟨_,rfl⟩
 have HB0:=bx (show Below w.heap.size w V by rw [hV];exact aO _ _);have HK:=bx (show aj V w.heap.size 31 #[.int .i64 t.n,pi,pb,rv,nv,fv] by rw [hV];exact aj.new _ _ _);have bD:=bx (λW (h:Below w.heap.size w W)=>show TabAt W (.agg #[.int .i64 t.n,pi,pb,rv,nv,fv]) t from⟨pi,pb,rv,nv,fv,rfl,h1.below h,h2.below h,h3.below h,h4.below h,h5.below h⟩);have ay:=bx (λW (h:Below V.heap.size V W)=>HK.o.c6 h);have HV:=bx hV;have gQ:=bx (yF s V (by omega));have hfl:=Ri s.data.toList;rw [<- size_eq] at hfl;have pW:=bx (λW=>LV ⟨(M.fix s.data.toList).toArray⟩ W (by rw [size_mk];omega));have hsl:=lM s.data.toList;rw [<- size_eq] at hsl;have xI:=bx (Fa s.data.toList);have mQ:=bx (AB s.data.toList);generalize aT s.data.toList=xs at hsl xI mQ ⊢;obtain⟨N,hN⟩:∃ N,xs.length=N:=⟨_,rfl⟩
 rw [hN] at hsl;have HN:=bx hN;have Kv:=bx (λ(r:Nat) (hr:r<=1114111)=>GN h1 h2 ht r hr);clear h1 h2 h3 h4 h5 hV ht hN;obtain⟨n,hn⟩:∃ n,n=t.n:=⟨_,rfl⟩
 rw [<- hn] at HV HK bD ay ⊢;clear hn;obtain⟨k0,k1,k2,k3,k4,k5,kk⟩:=ay.o V (Below.refl _ _)
 go_enter Tryz.func131,Tryz.ntmps131
 go_upto_region 1 with(fail)
 rw [<- HV.o];clear k0 k1 k2 k3 k4 k5 kk;go_wp2_with fail;refine gQ.o.mono ?_;rintro e w1 ⟨rfl,hb1⟩;have HB1:=bx hb1;clear hb1;go_wp2_with fail;refine(pW.o w1).mono ?_;rintro e w2 ⟨hb2,hr2⟩;rw [toList_mk,xI.o] at hr2;obtain⟨v2,rfl,hrow⟩:=hr2;have HL2:=bx (aB.gK hrow rfl);have HB2:=bx (bt HB1.o hb2);obtain⟨la,lc,rfl⟩:=HL2.o.slice;rw [HN.o] at HL2 ⊢;clear hb2 hrow;have aQ:=bx (show Sep (fK w2.heap.size w2 (.slice none 0 0) (dW t.p (xs.take 0))) w2 from(Sep.start w2).iW w2.heap.size 1 3);go_wp2_with fail
 go_loopw [7,8] (λov i wr=>∃ k:Nat,k<=N/\i = .int .i64 k/\Box (Sep (fK w2.heap.size w2 ov (dW t.p (xs.take k))) wr)) (λ_ i _=>N-(intOf i).toNat)
 case atStart=>exact⟨0,by omega,rfl,aQ⟩
 case round =>
  obtain⟨k,hk,rfl,hsep⟩:=hrel;have HB3:=bx (zW hsep.o);have bI:=bx (bt HB2.o HB3.o);have aJ:=bx (bt HB0.o bI.o)
  by_cases hlt:k<N
  ·obtain⟨z,hzx⟩:∃ z,xs[k]?=some z:=⟨_,List.getElem?_eq_getElem (by rw [HN.o];exact hlt)⟩
   obtain⟨r,rfl,hrz⟩:=GY (mQ.o z (List.mem_of_getElem? hzx));obtain⟨lg,iE,kV,e1,e2,e3,e4,e5⟩:=HL2.o.get (by rintro rfl;simp at hzx);rw [HN.o] at e1 e2;obtain⟨rfl,rfl⟩:la=some ⟨lg,iE,none⟩/\lc=kV:=by injection e1 with h1 h2 h3;exact⟨h1,h3⟩
   have cx:=e5 k _ hzx;obtain⟨g,off,cap,n',g2,off2,cap2,g3,nH,cap3,hi,a2,a3,a4,a5,a6,hb,b2,b3,b4,b5,c2,c3,c4,c5⟩:=Kv.o r hrz;have dF:=bx (show dW t.p (xs.take (k+1))=dW t.p (xs.take k)++[F.says t.p (r:Int)] by unfold dW;rw [List.take_add_one,hzx,List.map_append];rfl);have hal:(dW t.p (xs.take k)).length<=1000000000:=by unfold dW;rw [List.length_map,List.length_take];omega
   have iI:=bx hal;generalize F.says t.p (r:Int)=y at c5 dF;generalize t.p.2.length=M at *;obtain⟨d,hd⟩:∃ d,r / 256=d:=⟨_,rfl⟩
   obtain⟨q,hq⟩:∃ q,r % 256=q:=⟨_,rfl⟩
   have hd1:d<4352:=by omega
   have hq1:q<256:=by omega
   have td:(r:Int).tdiv 256=(d:Int):=by rw [<- hd];rfl
   have tm:(r:Int).tmod 256=(q:Int):=by rw [<- hq];rfl
   have wd:IntKind.i64.wrap (d:Int)=(d:Int):=by rw [IntKind.wrap_i64];omega
   have di:(d:Int)<4352:=by omega
   have qi:(q:Int)<256:=by omega
   have ni:(n':Int)<(M:Int):=by omega
   have wq:IntKind.i64.wrap (q:Int)=(q:Int):=by rw [IntKind.wrap_i64];omega
   rw [hd] at a5;rw [hq] at c5;generalize dW t.p (xs.take k)=acc at hsep dF iI;have cu:=bx (λW (h:Below w2.heap.size w2 W)=>show W.cell? ⟨w.heap.size,1,none⟩=some (.slice (some ⟨g,off,none⟩) 4352 cap)/\W.cell? ⟨w.heap.size,2,none⟩=some (.slice (some ⟨g2,off2,none⟩) M cap2)/\W.cell? ⟨lg,iE+k,none⟩=some (.int .i64 (r:Int))/\W.cell? ⟨g,off+d,none⟩=some (.int .i64 (n':Nat))/\W.cell? ⟨g2,off2+n',none⟩=some (.slice (some ⟨g3,nH,none⟩) 256 cap3)/\W.cell? ⟨g3,nH+q,none⟩=some (.int .i64 y) from by
    have hv:=bt HB2.o h;have hw:=bt HB0.o hv;obtain⟨k0,k1,k2,k3,k4,k5,kk⟩:=ay.o W hv;exact⟨k1.trans (by rw [hi]),k2.trans (by rw [hb]),(h.cell (p:=⟨lg,iE+k,none⟩) e4).trans cx,(hw.cell (p:=⟨g,off+d,none⟩) a4).trans a5,(hw.cell (p:=⟨g2,off2+n',none⟩) b4).trans b5,(hw.cell (p:=⟨g3,nH+q,none⟩) c4).trans c5⟩)
   have dY:=bx (show Sep (fK w2.heap.size w2 u7 acc) wr.drew from hsep.o.drewN 1);have aF:=bx (show Below w2.heap.size w2 wr.drew from HB3.o.trans ((iD wr 1).mono HB3.o.size));have au:=bx (cu.o wr.drew aF.o);have hbs:w2.heap.size<=wr.drew.heap.size:=HB3.o.size;unfold maxLen at e3;clear cx a4 a5 b4 b5 c4 c5 e1 e4 e5 hd hq hi hb hzx hal;go_wp2_with fail;refine fP 25 (λW'=>W'.cell? ⟨w.heap.size,1,none⟩=some (.slice (some ⟨g,off,none⟩) 4352 cap)/\W'.cell? ⟨w.heap.size,2,none⟩=some (.slice (some ⟨g2,off2,none⟩) M cap2)/\W'.cell? ⟨lg,iE+k,none⟩=some (.int .i64 (r:Int))/\W'.cell? ⟨g,off+d,none⟩=some (.int .i64 (n':Nat))/\W'.cell? ⟨g2,off2+n',none⟩=some (.slice (some ⟨g3,nH,none⟩) 256 cap3)/\W'.cell? ⟨g3,nH+q,none⟩=some (.int .i64 y)) (by kernel_rfl) ?_;generalize wr.drew=WR at dY aF au hbs ⊢;refine kS 0 ?_ rfl au.o ?_ ?_;rotate_left
   ·rintro w ⟨q1,q2,q3,q4,q5,q6⟩;go_simp;try with_reducible rfl
   refine kS 1 ?_ rfl au.o ?_ ?_;rotate_left
   ·rintro w ⟨q1,q2,q3,q4,q5,q6⟩;go_simp;try with_reducible rfl
   refine kS 2 ?_ rfl au.o ?_ ?_;rotate_left
   ·rintro w ⟨q1,q2,q3,q4,q5,q6⟩;go_simp;try with_reducible rfl
   refine kS 3 ?_ rfl au.o ?_ ?_;rotate_left
   ·rintro w ⟨q1,q2,q3,q4,q5,q6⟩;go_simp;try with_reducible rfl
   refine kS 4 ?_ rfl au.o ?_ ?_;rotate_left
   ·rintro w ⟨q1,q2,q3,q4,q5,q6⟩;go_simp;try with_reducible rfl
   refine kS 5 ?_ rfl au.o ?_ ?_;rotate_left
   ·rintro w ⟨q1,q2,q3,q4,q5,q6⟩;go_simp;try with_reducible rfl
   refine kS 6 ?_ rfl au.o ?_ ?_;rotate_left
   ·rintro w ⟨q1,q2,q3,q4,q5,q6⟩;go_simp;try with_reducible rfl
   refine kS 7 ?_ rfl au.o ?_ ?_;rotate_left
   ·rintro w ⟨q1,q2,q3,q4,q5,q6⟩;go_simp;try with_reducible rfl
   refine kS 8 ?_ rfl au.o ?_ ?_;rotate_left
   ·rintro w ⟨q1,q2,q3,q4,q5,q6⟩;go_simp;try with_reducible rfl
   refine kS 9 ?_ rfl au.o ?_ ?_;rotate_left
   ·rintro w ⟨q1,q2,q3,q4,q5,q6⟩;go_simp;try with_reducible rfl
   refine kS 10 ?_ rfl au.o ?_ ?_;rotate_left
   ·rintro w ⟨q1,q2,q3,q4,q5,q6⟩;go_simp;try with_reducible rfl
   refine kS 11 ?_ rfl au.o ?_ ?_;rotate_left
   ·rintro w ⟨q1,q2,q3,q4,q5,q6⟩;go_simp;try with_reducible rfl
   refine kS 12 ?_ rfl au.o ?_ ?_;rotate_left
   ·rintro w ⟨q1,q2,q3,q4,q5,q6⟩;go_simp;try with_reducible rfl
   refine kS 13 ?_ rfl au.o ?_ ?_;rotate_left
   ·rintro w ⟨q1,q2,q3,q4,q5,q6⟩;go_simp;try with_reducible rfl
   refine kS 14 ?_ rfl au.o ?_ ?_;rotate_left
   ·rintro w ⟨q1,q2,q3,q4,q5,q6⟩;go_simp;try with_reducible rfl
   refine kS 15 ?_ rfl au.o ?_ ?_;rotate_left
   ·rintro w ⟨q1,q2,q3,q4,q5,q6⟩;go_simp;try with_reducible rfl
   refine kS 16 ?_ rfl au.o ?_ ?_;rotate_left
   ·rintro w ⟨q1,q2,q3,q4,q5,q6⟩;go_simp;try with_reducible rfl
   refine kS 17 ?_ rfl au.o ?_ ?_;rotate_left
   ·rintro w ⟨q1,q2,q3,q4,q5,q6⟩;go_simp;try with_reducible rfl
   refine kS 18 ?_ rfl au.o ?_ ?_;rotate_left
   ·rintro w ⟨q1,q2,q3,q4,q5,q6⟩;go_simp;try with_reducible rfl
   refine kS 19 ?_ rfl au.o ?_ ?_;rotate_left
   ·rintro w ⟨q1,q2,q3,q4,q5,q6⟩;go_simp;try with_reducible rfl
   refine kS 20 ?_ rfl au.o ?_ ?_;rotate_left
   ·rintro w ⟨q1,q2,q3,q4,q5,q6⟩;go_simp;try with_reducible rfl
   refine kS 21 ?_ rfl au.o ?_ ?_;rotate_left
   ·rintro w ⟨q1,q2,q3,q4,q5,q6⟩;go_simp;try with_reducible rfl
   refine kS 22 ?_ rfl au.o ?_ ?_;rotate_left
   ·rintro w ⟨q1,q2,q3,q4,q5,q6⟩;go_simp;try with_reducible rfl
   refine kP 23 rfl λKK ah=>?_
   go_simp;refine ah.out _ _ (λ_=>cu.o _ (aF.o.trans ((aO WR _).mono aF.o.size))) ?_;clear ah KK;refine kP 24 rfl λKK ah=>?_
   refine uF (u:=.int .i64 y) rfl _ _ 22 rfl iT dY.o 0 rfl (by kernel_rfl) (by kernel_rfl) rfl iI.o (by omega) hbs ?_;rintro v6 w6 hS6 -;have aW:=bx (DW (m:=[y]) hS6 (by simp) dF.o);have HF6:=bx (cu.o w6 (zW aW.o));clear hS6;refine ah.out _ _ (λ_=>HF6.o) ?_;clear ah KK;refine kP 25 rfl λKK ah=>?_
   go_simp;refine ah.out _ _ (λh=>by cases h) ?_;clear ah KK;refine kD ?_ _;go_wp2_with fail
   go_roundw
   case rel=>exact⟨k+1,by omega,by go_num,aW⟩
   case measure=>simp [intOf];omega
  ·obtain rfl:k=N:=by omega
   have hsp:=hsep.o;rw [List.take_of_length_le (by rw [HN.o];exact Nat.le_refl _)] at hsp;have HI:=bx (zL hsp).1;clear hsp;go_wp2_with fail;go_ret
   exact⟨⟨_,rfl,HI.o⟩,aJ.o⟩
def rZ (t:Tab) (s:List UInt8):List Int:=if textE t s=0 then qI t s else []
theorem Vq (v:Value) (t:Tab) (s:ByteArray) (w:World) (hv:TabAt w v t) (hs:dZ t) (hz:s.size<=299) :
  Calls Tryz.prog 79 #[v, .string s] w λe w'=>(∃ v',e = .returned (.tuple #[v', .int .i64 (textE t s.data.toList)])/\aB w' v' (rZ t s.data.toList))/\Below w.heap.size w w':=by
 obtain⟨pi,pb,rv,nv,fv,rfl,h1,h2,h3,h4,h5⟩:=hv;obtain⟨V,hV⟩:∃ V,V=w.alloc (.cells #[.int .i64 t.n,pi,pb,rv,nv,fv] 31):=⟨_,rfl⟩
 have HB0:=bx (show Below w.heap.size w V by rw [hV];exact aO _ _);have HK:=bx (show aj V w.heap.size 31 #[.int .i64 t.n,pi,pb,rv,nv,fv] by rw [hV];exact aj.new _ _ _);have bD:=bx (λW (h:Below w.heap.size w W)=>show TabAt W (.agg #[.int .i64 t.n,pi,pb,rv,nv,fv]) t from⟨pi,pb,rv,nv,fv,rfl,h1.below h,h2.below h,h3.below h,h4.below h,h5.below h⟩);have ay:=bx (λW (h:Below V.heap.size V W)=>HK.o.c6 h);have HV:=bx hV;have qU:=bx (TB _ t s V (bD.o V HB0.o) hs (by omega));have jS:=bx (λW (h:Below w.heap.size w W) L' L9 (hl:aB W L9 L') (hlz:L'.length<=299)=>JJ rv t.r (.agg #[nv,fv]) t.m t.n L9 L' W (h3.below h) hs.r1 hs.r2 ⟨nv,fv,rfl,h4.below h,h5.below h⟩ hs.m hl hlz);have HSL:=bx (show (dW t.p (aT s.data.toList)).length<=299 by unfold dW;rw [List.length_map];have:=lM s.data.toList;rw [<- size_eq] at this;omega)
 by_cases he:textE t s.data.toList=0
 ·obtain⟨t1,t2⟩:=JA he;have t3:=t1;unfold jy at t3;rw [Bool.and_eq_true] at t3;have xP:=bx t3.1;have gB:=bx (λW (h:Below w.heap.size w W)=>V9 _ t s W (bD.o W h) t3.2 (by omega));have jX:=bx (show rZ t s.data.toList=pz t.r t.m t.n.toNat (dW t.p (aT s.data.toList)) by unfold rZ qI;rw [if_pos he]);have xG:=bx he;rw [he] at qU;obtain⟨tn,hn⟩:∃ n,n=t.n:=⟨_,rfl⟩
  rw [<- hn] at HV HK bD ay qU jS gB xP jX ⊢;clear h1 h2 h3 h4 h5 hV hs hn he t1 t2 t3;obtain⟨k0,k1,k2,k3,k4,k5,kk⟩:=ay.o V (Below.refl _ _)
  go_enter Tryz.func79,Tryz.ntmps79
  go_upto_region 1 with(fail)
  rw [<- HV.o];go_wp2_with fail;refine qU.o.mono ?_;rintro e w1 ⟨rfl,hb1⟩;have fH:=bx hb1;have HB1:=bx (bt HB0.o hb1);clear hb1 k0 k1 k2 k3 k4 k5 kk;go_wp2_with fail;have aF:=bx (show Below V.heap.size V w1.drew from fH.o.trans ((iD w1 1).mono fH.o.size));have au:=bx (ay.o w1.drew aF.o);refine fP 13 (λW'=>W'.cell? ⟨w.heap.size,0,none⟩=some (.int .i64 tn)/\W'.cell? ⟨w.heap.size,1,none⟩=some pi/\W'.cell? ⟨w.heap.size,2,none⟩=some pb/\W'.cell? ⟨w.heap.size,3,none⟩=some rv/\W'.cell? ⟨w.heap.size,4,none⟩=some nv/\W'.cell? ⟨w.heap.size,5,none⟩=some fv/\w.heap.size<W'.heap.size) (by kernel_rfl) ?_;generalize w1.drew=WR at aF au ⊢;have aJ:=bx (bt HB0.o aF.o);refine kS 0 ?_ rfl au.o ?_ ?_;rotate_left
  ·rintro w ⟨q1,q2,q3,q4,q5,q6,q7⟩;go_simp;try with_reducible rfl
  refine kS 1 ?_ rfl au.o ?_ ?_;rotate_left
  ·rintro w ⟨q1,q2,q3,q4,q5,q6,q7⟩;go_simp;try with_reducible rfl
  refine kS 2 ?_ rfl au.o ?_ ?_;rotate_left
  ·rintro w ⟨q1,q2,q3,q4,q5,q6,q7⟩;go_simp;try with_reducible rfl
  refine kS 3 ?_ rfl au.o ?_ ?_;rotate_left
  ·rintro w ⟨q1,q2,q3,q4,q5,q6,q7⟩;go_simp;try with_reducible rfl
  refine kS 4 ?_ rfl au.o ?_ ?_;rotate_left
  ·rintro w ⟨q1,q2,q3,q4,q5,q6,q7⟩;go_simp;try with_reducible rfl
  refine kS 5 ?_ rfl au.o ?_ ?_;rotate_left
  ·rintro w ⟨q1,q2,q3,q4,q5,q6,q7⟩;go_simp;try with_reducible rfl
  refine kS 6 ?_ rfl au.o ?_ ?_;rotate_left
  ·rintro w ⟨q1,q2,q3,q4,q5,q6,q7⟩;go_simp;try with_reducible rfl
  refine kS 7 ?_ rfl au.o ?_ ?_;rotate_left
  ·rintro w ⟨q1,q2,q3,q4,q5,q6,q7⟩;go_simp;try with_reducible rfl
  refine kP 8 rfl λKK ah=>?_
  go_simp;refine(gB.o WR aJ.o).mono ?_;rintro e w5 ⟨⟨v5,rfl,hv5⟩,hb5⟩;have aK:=bx (bt aF.o hb5);have Un:=bx (bt HB0.o aK.o);have fB:=bx (ay.o w5 aK.o);have PZ:=bx (jS.o w5 Un.o _ v5 hv5 HSL.o);clear hv5 hb5;refine ah.out _ _ (λ_=>fB.o) ?_;clear ah KK;refine kP 9 rfl λKK ah=>?_
  go_simp;refine PZ.o.mono ?_;rintro e w6 ⟨hb6,⟨-,v6,rfl,hv6⟩ | ⟨h9,-⟩⟩;rotate_left
  ·exact absurd (xP.o.symm.trans h9) (by simp)
  have pO:=bx hv6;have dO:=bx (bt aK.o hb6);have HF6:=bx (ay.o w6 dO.o);clear hv6 hb6;refine ah.out _ _ (λ_=>HF6.o) ?_;clear ah KK;refine kS 10 ?_ rfl HF6.o ?_ ?_;rotate_left
  ·rintro w ⟨q1,q2,q3,q4,q5,q6,q7⟩;go_simp;try with_reducible rfl
  refine kS 11 ?_ rfl HF6.o ?_ ?_;rotate_left
  ·rintro w ⟨q1,q2,q3,q4,q5,q6,q7⟩;go_simp;try with_reducible rfl
  refine kP 12 rfl λKK ah=>?_
  go_simp;refine ah.out _ _ (λ_=>HF6.o) ?_;clear ah KK;refine kP 13 rfl λKK ah=>?_
  go_simp;refine ah.out _ _ (λh=>by cases h) ?_;clear ah KK;refine kD ?_ _;have oK:=bx (bt HB0.o dO.o);go_wp2_with fail;go_ret2
  exact⟨⟨_,rC rfl (kG xG.o.symm),by rw [jX.o];exact pO.o⟩,oK.o⟩
 ·have jX:=bx (show rZ t s.data.toList=[] by unfold rZ;rw [if_neg he]);obtain⟨r,hr⟩:∃ r,r=textE t s.data.toList:=⟨_,rfl⟩
  have HR:=bx hr;rw [<- hr] at he qU;have e2:(r != 0)=true:=by rw [bne_iff_ne];exact he
  obtain⟨tn,hn⟩:∃ n,n=t.n:=⟨_,rfl⟩
  rw [<- hn] at HV HK bD ay qU ⊢;clear h1 h2 h3 h4 h5 hV hs hn he hr;obtain⟨k0,k1,k2,k3,k4,k5,kk⟩:=ay.o V (Below.refl _ _)
  go_enter Tryz.func79,Tryz.ntmps79
  go_upto_region 1 with(fail)
  rw [<- HV.o];go_wp2_with fail;refine qU.o.mono ?_;rintro e w1 ⟨rfl,hb1⟩;have HB1:=bx (bt HB0.o hb1);clear hb1 k0 k1 k2 k3 k4 k5 kk;go_wp2_with fail;go_ret2
  exact⟨⟨_,rC rfl (kG HR.o),by rw [jX.o];exact .nil⟩,HB1.o⟩
end
namespace C
open Go.Proofs.YtdenoeakcflnmaaGreatDoor
theorem uZ (g:Ga) (ls:List (List Int)):(marks g ls).length=ls.length+1:=by unfold marks;rw [List.length_map,List.length_range]
def gy (g:Ga) (s:List UInt8) (n:Int):Nat:=if bJ g s=0 then dD g (aH g.t s) n (aH g.t s).length else 0
end C
section
open Go.RowKit
attribute [local go_sem] Oper.semAt_some
theorem QM (v:Value) (c:C.Wd) (w:World) (hv:WideAt w v c) (hs:fF c) :
  Calls Tryz.prog 60 #[v] w λe w'=>e = .returned (.bool (C.kL c))/\Below w.heap.size w w':=by
 have h1:=hs.p1;have h2:=hs.p2;have aX:=bx (show C.kL c=(F.iw c.p&&c.p.2.all (λr=>r.all (λx=>decide (x<=6)))) from rfl);have HRW:=bx (λh=>Vm (t:=c.p) h);obtain⟨iv,bv,rfl,hiv,hbv⟩:=hv;have HRR:=bx (λW (h:Below w.heap.size w W)=>J7 (.agg #[iv,bv]) c.p W ⟨iv,bv,rfl,hiv.below h,hbv.below h⟩ h1 h2);obtain⟨wd,hwd⟩:∃ b,b=c.wide:=⟨_,rfl⟩
 obtain⟨bl,hbl⟩:∃ b,b=c.p.2:=⟨_,rfl⟩
 rw [<- hbl] at hbv h2 aX HRW;rw [<- hwd];generalize F.iw c.p=tb at aX HRR HRW;generalize C.kL c=res at aX ⊢;obtain⟨ia,ic,hia⟩:=hiv.slice;obtain⟨ba,bc,rfl⟩:=hbv.slice;obtain⟨M,hM⟩:∃ M,bl.length=M:=⟨_,rfl⟩
 rw [hM] at hbv h2 HRR ⊢;have HM:=bx hM;obtain⟨V,hV⟩:∃ V,V=w.alloc (.cells #[iv, .slice ba M bc, .bool wd] 33):=⟨_,rfl⟩
 have bI:=bx (show Below w.heap.size w V by rw [hV];exact aO _ _);have HK:=bx (show aj V w.heap.size 33 #[iv, .slice ba M bc, .bool wd] by rw [hV];exact aj.new _ _ _);have HB:=bx (hbv.below bI.o);have HRR:=bx (HRR.o V bI.o);have HV:=bx hV;clear hiv hbv hM hV h1 hs hia hbl hwd;have ay:=bx (λW (h:Below V.heap.size V W)=>show W.cell? ⟨w.heap.size,0,none⟩=some iv/\W.cell? ⟨w.heap.size,1,none⟩=some (.slice ba M bc)/\W.cell? ⟨w.heap.size,2,none⟩=some (.bool wd)/\w.heap.size<W.heap.size from
  ⟨((HK.o.below h HK.o.lt).cell 0).trans rfl,((HK.o.below h HK.o.lt).cell 1).trans rfl,((HK.o.below h HK.o.lt).cell 2).trans rfl,(HK.o.below h HK.o.lt).lt⟩)
 obtain⟨c0,c1,c2,cl⟩:=ay.o V (Below.refl _ _)
 go_enter Tryz.func60,Tryz.ntmps60
 go_upto_region 1 with(fail)
 rw [<- HV.o];obtain⟨Q,hQ⟩:∃ Q,w.heap.size=Q:=⟨_,rfl⟩
 rw [hQ] at ay c0 c1 c2 cl ⊢;have HQ:=bx hQ;clear HV hQ;go_wp2_with fail;refine HRR.o.mono ?_;rintro e w1 ⟨rfl,hb1⟩;have HB1:=bx hb1;have RG:=bx (bt bI.o hb1);clear c0 c1 c2 cl hb1
 cases tb with
 | false =>
  go_wp2_with fail;go_ret
  exact⟨aI (by rw [aX.o];rfl),RG.o⟩
 | true =>
  rw [Bool.true_and] at aX;have Rt:=bx (HRW.o rfl);clear HRW;go_wp2_with fail
  go_loopw [3] (λi wx=>∃ m:Nat,m<=M/\i = .int .i64 m/\Box (∀ (j:Nat) (y:List Int),j<m->bl[j]?=some y->(y.all λx=>decide (x<=6))=true)/\Box (Below V.heap.size V wx)) (λi _=>M-(intOf i).toNat)
  case atStart=>exact⟨0,by omega,rfl,⟨λj y h=>by omega⟩,HB1⟩
  case round =>
   obtain⟨m,hm,rfl,fU,hbx⟩:=hrel;obtain⟨ws,rfl⟩:∃ W,W=wr:=⟨_,rfl⟩
   obtain⟨c0,c1,c2,cl⟩:=ay.o ws hbx.o;have aJ:=bx (bt bI.o hbx.o)
   by_cases hml:m<M
   ·obtain⟨r,hr⟩:∃ r,bl[m]?=some r:=⟨_,List.getElem?_eq_getElem (by rw [HM.o];exact hml)⟩
    obtain⟨g,off,cap2,hg1,hg2,hg3,hg4,hg5⟩:=(HB.o.below hbx.o).get (by rintro rfl;simp at hr);rw [HM.o] at hg1 hg2;obtain⟨rfl,rfl⟩:ba=some ⟨g,off,none⟩/\bc=cap2:=by injection hg1 with h1 h2 h3;exact⟨h1,h3⟩
    obtain⟨x,hck,hxi⟩:=hg5 m r hr;have HL:=bx (Rt.o r (List.mem_of_getElem? hr));obtain⟨xa,xc,rfl⟩:=hxi.slice;rw [HL.o] at hck hxi;have HX:=bx hxi;have HR:=bx hr;obtain⟨g2,off2,cap3,k1,k2,k3,k4,k5⟩:=HX.o.get (by rintro rfl;have h1:=HL.o;simp at h1);rw [HL.o] at k1 k2;obtain⟨rfl,rfl⟩:xa=some ⟨g2,off2,none⟩/\xc=cap3:=by injection k1 with h1 h2 h3;exact⟨h1,h3⟩
    have yH:=bx k5;unfold maxLen at k3 hg3;clear hr hg1 hg5 hxi k1 k5;go_wp2_with fail
    go_loopw [4] (λi wx=>∃ q:Nat,q<=256/\i = .int .i64 q/\Box (∀ (j:Nat) (y:Int),j<q->r[j]?=some y->decide (y<=6)=true)/\wx=ws) (λi _=>256-(intOf i).toNat)
    case atStart=>exact⟨0,by omega,rfl,⟨λj y h=>by omega⟩,rfl⟩
    case round =>
     obtain⟨q,hq,rfl,hqo,rfl⟩:=hrel
     by_cases tY:q<256
     ·obtain⟨y,hy⟩:∃ y,r[q]?=some y:=⟨_,List.getElem?_eq_getElem (by rw [HL.o];exact tY)⟩
      have hcy:=yH.o q y hy;have HY:=bx hy;clear hy
      by_cases hhi:y<=6
      ·have e3:decide (6<y)=false:=decide_eq_false (by omega);have qy:=bx (upto_succ hqo.o HY.o (show decide (y<=6)=true from decide_eq_true hhi));clear hhi;go_wp2_with fail
       go_roundw
       case rel=>exact⟨q+1,by omega,by go_num,qy,trivial⟩
       case measure=>simp [intOf];omega
      ·have e3:decide (6<y)=true:=decide_eq_true (by omega);have HF:=bx (show (bl.all λr=>r.all λx=>decide (x<=6))=false from o8 HR.o (o8 HY.o (decide_eq_false hhi)));clear hhi;go_wp2_with fail;go_ret
       exact⟨aI (by rw [aX.o,HF.o]),aJ.o⟩
     ·obtain rfl:q=256:=by omega
      have mV:=bx (upto_succ fU.o HR.o (show (r.all λx=>decide (x<=6))=true from wJ (λj x hj hx=>hqo.o j x (by rw [HL.o] at hj;exact hj) hx)));go_wp2_with fail
      go_roundw
      case rel=>exact⟨m+1,by omega,by go_num,mV,hbx⟩
      case measure=>simp [intOf];omega
   ·obtain rfl:m=M:=by omega
    have HAB:=bx (show (bl.all λr=>r.all λx=>decide (x<=6))=true from wJ (λj x hj hx=>fU.o j x (by rw [<- HM.o];exact hj) hx));go_wp2_with fail;go_ret
    exact⟨aI (by rw [aX.o,HAB.o]),aJ.o⟩
theorem IL (v:Value) (g:C.Ga) (w:World) (hv:dR w v g) (hs:dZ g.t) (hw:fF g.w) :
  Calls Tryz.prog 28 #[v] w λe w'=>e = .returned (.bool (C.bF g))/\Below w.heap.size w w':=by
 obtain⟨tn,hn⟩:∃ n,n=g.t.n:=⟨_,rfl⟩
 obtain⟨wd,hwd⟩:∃ b,b=g.w.wide:=⟨_,rfl⟩
 obtain⟨gk,hgk⟩:∃ k,k=g.k:=⟨_,rfl⟩
 obtain⟨pi,pb,rv,nv,fv,iv,bv,rfl,h1,h2⟩:=hv;rw [<- hn] at h1;rw [<- hwd] at h2;rw [<- hn,<- hwd,<- hgk];obtain⟨V,hV⟩:∃ V,V=w.alloc (.cells #[.int .i64 tn,pi,pb,rv,nv,fv,iv,bv, .bool wd, .int .i64 gk] 35):=⟨_,rfl⟩
 have HB0:=bx (show Below w.heap.size w V by rw [hV];exact aO _ _);have HK:=bx (show aj V w.heap.size 35 #[.int .i64 tn,pi,pb,rv,nv,fv,iv,bv, .bool wd, .int .i64 gk] by rw [hV];exact aj.new _ _ _);have ay:=bx (λW (h:Below V.heap.size V W)=>show W.cell? ⟨w.heap.size,0,none⟩=some (.int .i64 tn)/\W.cell? ⟨w.heap.size,1,none⟩=some (pi)/\W.cell? ⟨w.heap.size,2,none⟩=some (pb)/\W.cell? ⟨w.heap.size,3,none⟩=some (rv)/\W.cell? ⟨w.heap.size,4,none⟩=some (nv)/\W.cell? ⟨w.heap.size,5,none⟩=some (fv)/\W.cell? ⟨w.heap.size,6,none⟩=some (iv)/\W.cell? ⟨w.heap.size,7,none⟩=some (bv)/\W.cell? ⟨w.heap.size,8,none⟩=some (.bool wd)/\W.cell? ⟨w.heap.size,9,none⟩=some (.int .i64 gk)/\w.heap.size<W.heap.size from
  ⟨((HK.o.below h HK.o.lt).cell 0).trans rfl,((HK.o.below h HK.o.lt).cell 1).trans rfl,((HK.o.below h HK.o.lt).cell 2).trans rfl,((HK.o.below h HK.o.lt).cell 3).trans rfl,((HK.o.below h HK.o.lt).cell 4).trans rfl,((HK.o.below h HK.o.lt).cell 5).trans rfl,((HK.o.below h HK.o.lt).cell 6).trans rfl,((HK.o.below h HK.o.lt).cell 7).trans rfl,((HK.o.below h HK.o.lt).cell 8).trans rfl,((HK.o.below h HK.o.lt).cell 9).trans rfl,(HK.o.below h HK.o.lt).lt⟩)
 have HV:=bx hV;have fV:=bx (La _ g.t V (h1.below HB0.o) hs);have yx:=bx (λW (h:Below w.heap.size w W)=>QM _ g.w W (h2.below h) hw);have aX:=bx (show C.bF g=(jy g.t&&C.kL g.w&&decide (0<=gk)&&decide (gk<=2)) by rw [hgk];rfl);generalize C.bF g=res at aX ⊢;generalize jy g.t=tb at fV aX;generalize C.kL g.w=wb at yx aX;clear h1 h2 hV hs hw hn hwd hgk;obtain⟨k0,k1,k2,k3,k4,k5,k6,k7,k8,k9,kk⟩:=ay.o V (Below.refl _ _)
 go_enter Tryz.func28,Tryz.ntmps28
 go_upto_region 1 with(fail)
 rw [<- HV.o];go_wp2_with fail;refine fV.o.mono ?_;rintro e w1 ⟨rfl,hb1⟩;have HB1:=bx (bt HB0.o hb1);have dV:=bx hb1;clear k0 k1 k2 k3 k4 k5 k6 k7 k8 k9 kk hb1
 cases tb with
 | false =>
  go_wp2_with fail;go_ret
  exact⟨aI (by rw [aX.o];rfl),HB1.o⟩
 | true =>
  obtain⟨k0,k1,k2,k3,k4,k5,k6,k7,k8,k9,kk⟩:=ay.o w1 dV.o;go_wp2_with fail;refine(yx.o w1 HB1.o).mono ?_;rintro e w2 ⟨rfl,hb2⟩;have HB2:=bx (bt HB1.o hb2);have HC2:=bx (bt dV.o hb2);clear k0 k1 k2 k3 k4 k5 k6 k7 k8 k9 kk hb2
  cases wb with
  | false =>
   go_wp2_with fail;go_ret
   exact⟨aI (by rw [aX.o];rfl),HB2.o⟩
  | true =>
   obtain⟨k0,k1,k2,k3,k4,k5,k6,k7,k8,k9,kk⟩:=ay.o w2 HC2.o
   by_cases e0:0<=gk
   ·by_cases e1:gk<=2
    ·have d0:=decide_eq_true e0;have d1:=decide_eq_true e1;have HR:=bx (show res=true by rw [aX.o,d0,d1];rfl);clear e0 e1;go_wp2_with fail;go_ret
     exact⟨aI HR.o.symm,HB2.o⟩
    ·have d0:=decide_eq_true e0;have d1:=decide_eq_false e1;have HR:=bx (show res=false by rw [aX.o,d0,d1];rfl);clear e0 e1;go_wp2_with fail;go_ret
     exact⟨aI HR.o.symm,HB2.o⟩
   ·have d0:=decide_eq_false e0;have HR:=bx (show res=false by rw [aX.o,d0];rfl);clear e0;go_wp2_with fail;go_ret
    exact⟨aI HR.o.symm,HB2.o⟩
theorem UR (v:Value) (c:C.Wd) (r:Nat) (w:World) (hv:WideAt w v c) (ht:F.iw c.p=true) (hr:r<=1114111) :
  Calls Tryz.prog 152 #[v, .int .i64 (r:Int)] w λe w'=>e = .returned (.int .i64 (C.jB c (r:Int)))/\Below w.heap.size w w':=by
 have iZ:=bx (show C.jB c (r:Int)=if F.says c.p (r:Int)=3\/F.says c.p (r:Int)=4\/(F.says c.p (r:Int)=1/\c.wide=true) then 2 else if F.says c.p (r:Int)=6 then 0 else 1 from rfl);obtain⟨iv,bv,rfl,hi,hb⟩:=hv;obtain⟨wd,hwd⟩:∃ b,b=c.wide:=⟨_,rfl⟩
 rw [<- hwd] at iZ ⊢;obtain⟨V,hV⟩:∃ V,V=w.alloc (.cells #[iv,bv, .bool wd] 33):=⟨_,rfl⟩
 have HB0:=bx (show Below w.heap.size w V by rw [hV];exact aO _ _);have hk:aj V w.heap.size 33 #[iv,bv, .bool wd]:=by rw [hV];exact aj.new _ _ _
 obtain⟨g,off,cap,n,g2,off2,cap2,g3,nH,cap3,rfl,a2,a3,a4,a5,a6,rfl,b2,b3,b4,b5,c2,c3,c4,c5⟩:=GN (hi.below HB0.o) (hb.below HB0.o) ht r hr;have HV:=bx hV;generalize F.says c.p (r:Int)=y at c5 iZ;generalize C.jB c (r:Int)=res at iZ ⊢;generalize c.p.2.length=M at *;have m0:=(hk.cell 0).trans (show _=some (Value.slice (some ⟨g,off,none⟩) 4352 cap) from rfl);have m1:=(hk.cell 1).trans (show _=some (Value.slice (some ⟨g2,off2,none⟩) M cap2) from rfl);have m2:=(hk.cell 2).trans (show _=some (Value.bool wd) from rfl);have ml:=hk.lt;obtain⟨d,hd⟩:∃ d,r / 256=d:=⟨_,rfl⟩
 obtain⟨q,hq⟩:∃ q,r % 256=q:=⟨_,rfl⟩
 have hd1:d<4352:=by omega
 have hq1:q<256:=by omega
 have td:(r:Int).tdiv 256=(d:Int):=by rw [<- hd];rfl
 have tm:(r:Int).tmod 256=(q:Int):=by rw [<- hq];rfl
 rw [hd] at a5;rw [hq] at c5;have hcase:y=3\/y=4\/(y=1/\wd=true)\/(y=1/\wd=false)\/y=6\/(y≠3/\y≠4/\y≠1/\y≠6):=by
  cases wd <;> simp <;> omega
 have HDR:=bx (λm=>HB0.o.trans ((jW V m).mono HB0.o.size));clear hk hd hq hi hb ht hV hwd
 go_enter Tryz.func152,Tryz.ntmps152
 go_upto_region 1 with(fail)
 rw [<- HV.o]
 rcases hcase with rfl | rfl | ⟨rfl,rfl⟩ | ⟨rfl,rfl⟩ | rfl | ⟨n3,n4,n1,n6⟩
 ·go_quiet (fail)
  go_wp2_with fail;go_ret
  exact⟨iF (by rw [iZ.o];simp),HDR.o _⟩
 ·go_quiet (fail)
  go_wp2_with fail;go_ret
  exact⟨iF (by rw [iZ.o];simp),HDR.o _⟩
 ·go_quiet (fail)
  go_wp2_with fail;go_ret
  exact⟨iF (by rw [iZ.o];simp),HDR.o _⟩
 ·go_quiet (fail)
  go_wp2_with fail;go_ret
  exact⟨iF (by rw [iZ.o];simp),HDR.o _⟩
 ·go_quiet (fail)
  go_wp2_with fail;go_ret
  exact⟨iF (by rw [iZ.o];simp),HDR.o _⟩
 ·have e3:(y==3)=false:=by rw [beq_eq_false_iff_ne];exact n3
  have e4:(y==4)=false:=by rw [beq_eq_false_iff_ne];exact n4
  have e1:(y==1)=false:=by rw [beq_eq_false_iff_ne];exact n1
  have e6:(y==6)=false:=by rw [beq_eq_false_iff_ne];exact n6
  rw [if_neg (by omega),if_neg n6] at iZ;clear n3 n4 n1 n6
  go_quiet (fail)
  go_wp2_with fail;go_ret
  exact⟨iF (by rw [iZ.o]),HDR.o _⟩
theorem Vg (v:Value) (c:C.Wd) (s:ByteArray) (xs:List Int) (w:World) (hv:WideAt w v c) (ht:F.iw c.p=true) (hx:U.scalars s.data.toList=some xs) (hz:s.size<=4000) :
  Calls Tryz.prog 101 #[v, .string s] w λe w'=>e = .returned (.int .i64 (C.fZ c xs))/\Below w.heap.size w w':=by
 have Ur:=bx (λW=>LV s W (by omega));have RX:=bx hx;have wS:=bx ((U.qK _ _).1 hx).2;have hxl:xs.length<=4000:=by
  have h1:=((U.qK _ _).1 hx).1;have h3:xs.length<=(U.textOf xs).length:=JU xs;rw [h1,<- size_eq] at h3;omega
 have ng:=bx (show C.fZ c xs=if (C.emoji xs&&decide (0<C.most c xs))=true then 2 else C.most c xs from rfl);obtain⟨iv,bv,rfl,hi,hb⟩:=hv;have qR:=bx (λW (h:Below w.heap.size w W) r (hr:r<=1114111)=>UR (.agg #[iv,bv, .bool c.wide]) c r W ⟨iv,bv,rfl,hi.below h,hb.below h⟩ ht hr);obtain⟨V,hV⟩:∃ V,V=w.alloc (.cells #[iv,bv, .bool c.wide] 33):=⟨_,rfl⟩
 have HB0:=bx (show Below w.heap.size w V by rw [hV];exact aO _ _);have HK:=bx (show aj V w.heap.size 33 #[iv,bv, .bool c.wide] by rw [hV];exact aj.new _ _ _);obtain⟨wd,hwd⟩:∃ b,b=c.wide:=⟨_,rfl⟩
 rw [<- hwd] at HK hV qR ⊢;have HV:=bx hV;have ay:=bx (λW (h:Below V.heap.size V W)=>show W.cell? ⟨w.heap.size,0,none⟩=some iv/\W.cell? ⟨w.heap.size,1,none⟩=some bv/\W.cell? ⟨w.heap.size,2,none⟩=some (.bool wd)/\w.heap.size<W.heap.size from
  ⟨((HK.o.below h HK.o.lt).cell 0).trans rfl,((HK.o.below h HK.o.lt).cell 1).trans rfl,((HK.o.below h HK.o.lt).cell 2).trans rfl,(HK.o.below h HK.o.lt).lt⟩)
 obtain⟨N,hN⟩:∃ N,xs.length=N:=⟨_,rfl⟩
 rw [hN] at hxl;have HN:=bx hN;clear hV hwd hi hb ht hx hN
 go_enter Tryz.func101,Tryz.ntmps101
 go_upto_region 1 with(fail)
 rw [<- HV.o];go_wp2_with fail;refine(Ur.o V).mono ?_;rintro e w1 ⟨hb1,hr1⟩;rw [RX.o] at hr1;obtain⟨v1,rfl,hrow⟩:=hr1;have iQ:=bx (aB.gK hrow rfl);have fH:=bx hb1;obtain⟨la,lc,rfl⟩:=iQ.o.slice;rw [HN.o] at iQ ⊢;clear hb1 hrow;go_wp2_with fail
 go_loopw [7,8,9] (λn em i wr=>∃ k:Nat,k<=N/\n = .int .i64 (C.most c (xs.take k))/\em = .bool (C.emoji (xs.take k))/\i = .int .i64 k/\Box (Below w1.heap.size w1 wr)) (λ_ _ i _=>N-(intOf i).toNat)
 case atStart=>exact⟨0,by omega,rfl,rfl,rfl,⟨Below.refl _ _⟩⟩
 case round =>
  obtain⟨k,hk,rfl,rfl,rfl,hbr⟩:=hrel;have aP:=bx (bt fH.o hbr.o);have aJ:=bx (bt HB0.o aP.o)
  by_cases hlt:k<N
  ·obtain⟨z,hzx⟩:∃ z,xs[k]?=some z:=⟨_,List.getElem?_eq_getElem (by rw [HN.o];exact hlt)⟩
   obtain⟨r,rfl,hrz⟩:=GY (wS.o z (List.mem_of_getElem? hzx));obtain⟨lg,iE,kV,e1,e2,e3,e4,e5⟩:=iQ.o.get (by rintro rfl;simp at hzx);rw [HN.o] at e1 e2;obtain⟨rfl,rfl⟩:la=some ⟨lg,iE,none⟩/\lc=kV:=by injection e1 with h1 h2 h3;exact⟨h1,h3⟩
   have cx:=e5 k _ hzx;have qg:=bx (WM (c:=c) hzx);have qF:=bx (Vj hzx);have cu:=bx (λW (h:Below w1.heap.size w1 W)=>show W.cell? ⟨w.heap.size,0,none⟩=some (iv)/\W.cell? ⟨w.heap.size,1,none⟩=some (bv)/\W.cell? ⟨w.heap.size,2,none⟩=some (.bool wd)/\w.heap.size<W.heap.size/\W.cell? ⟨lg,iE+k,none⟩=some (.int .i64 (r:Nat)) from by
    obtain⟨k0,k1,k2,kk⟩:=ay.o W (bt fH.o h);exact⟨k0,k1,k2,kk,(h.cell (p:=⟨lg,iE+k,none⟩) e4).trans cx⟩)
   have qR:=bx (λW (h:Below w1.heap.size w1 W) r hr=>qR.o W (HB0.o.trans ((bt fH.o h).mono HB0.o.size)) r hr);have aF:=bx (show Below w1.heap.size w1 wr.drew from hbr.o.trans ((iD wr 1).mono hbr.o.size));have au:=bx (cu.o wr.drew aF.o);obtain⟨mo,hmo⟩:∃ m,C.most c (xs.take k)=m:=⟨_,rfl⟩
   obtain⟨em,hem⟩:∃ m,C.emoji (xs.take k)=m:=⟨_,rfl⟩
   rw [hmo] at qg;rw [hem] at qF;rw [hmo,hem];unfold maxLen at e3;clear hzx e1 e4 e5 hmo hem;go_wp2_with fail;refine fP 8 (λW'=>W'.cell? ⟨w.heap.size,0,none⟩=some (iv)/\W'.cell? ⟨w.heap.size,1,none⟩=some (bv)/\W'.cell? ⟨w.heap.size,2,none⟩=some (.bool wd)/\w.heap.size<W'.heap.size/\W'.cell? ⟨lg,iE+k,none⟩=some (.int .i64 (r:Nat))) (by kernel_rfl) ?_;generalize wr.drew=WR at aF au ⊢;refine kS 0 ?_ rfl au.o ?_ ?_;rotate_left
   ·rintro w ⟨q1,q2,q3,q4,q5⟩;go_simp;try with_reducible rfl
   refine kS 1 ?_ rfl au.o ?_ ?_;rotate_left
   ·rintro w ⟨q1,q2,q3,q4,q5⟩;go_simp;try with_reducible rfl
   refine kS 2 ?_ rfl au.o ?_ ?_;rotate_left
   ·rintro w ⟨q1,q2,q3,q4,q5⟩;go_simp;try with_reducible rfl
   refine kS 3 ?_ rfl au.o ?_ ?_;rotate_left
   ·rintro w ⟨q1,q2,q3,q4,q5⟩;go_simp;try with_reducible rfl
   refine kS 4 ?_ rfl au.o ?_ ?_;rotate_left
   ·rintro w ⟨q1,q2,q3,q4,q5⟩;go_simp;try with_reducible rfl
   refine kS 5 ?_ rfl au.o ?_ ?_;rotate_left
   ·rintro w ⟨q1,q2,q3,q4,q5⟩;go_simp;try with_reducible rfl
   refine kP 6 rfl λKK ah=>?_
   go_simp;refine(qR.o WR aF.o r hrz).mono ?_;rintro e w5 ⟨rfl,hb5⟩;have aK:=bx (bt aF.o hb5);have fB:=bx (cu.o w5 aK.o);clear hb5;refine ah.out _ _ (λ_=>fB.o) ?_;clear ah KK;refine kS 7 ?_ rfl fB.o ?_ ?_;rotate_left
   ·rintro w ⟨q1,q2,q3,q4,q5⟩;go_simp;try with_reducible rfl
   refine kP 8 rfl λKK ah=>?_
   go_simp;refine ah.out _ _ (λh=>by cases h) ?_;clear ah KK;refine kD ?_ _;have Qh:=bx fB.o;obtain⟨k0,k1,k2,kk,kx⟩:=Qh.o
   by_cases h0:0<k
   ·have d0:decide ((0:Int)<(k:Int))=true:=decide_eq_true (by omega);have d1:decide (0<k)=true:=decide_eq_true h0;have hI:(0:Int)<(k:Int):=by omega
    cases BG:((r:Int)==65039) with
    | true =>
     have lq:=bx (show C.emoji (xs.take (k+1))=true by rw [qF.o,BG,decide_eq_true h0];simp);go_wp2_with fail
     go_roundw
     case rel=>exact⟨k+1,by omega,by rw [qg.o],by rw [lq.o],by go_num,aK⟩
     case measure=>simp [intOf];omega
    | false =>
     have lq:=bx (show C.emoji (xs.take (k+1))=em by rw [qF.o,BG];simp);go_wp2_with fail
     go_roundw
     case rel=>exact⟨k+1,by omega,by rw [qg.o],by rw [lq.o],by go_num,aK⟩
     case measure=>simp [intOf];omega
   ·have d0:decide ((0:Int)<(k:Int))=false:=decide_eq_false (by omega);have d1:decide (0<k)=false:=decide_eq_false h0;have hI:¬ (0:Int)<(k:Int):=by omega
    have lq:=bx (show C.emoji (xs.take (k+1))=em by rw [qF.o,decide_eq_false h0];simp);go_wp2_with fail
    go_roundw
    case rel=>exact⟨k+1,by omega,by rw [qg.o],by rw [lq.o],by go_num,aK⟩
    case measure=>simp [intOf];omega
  ·obtain rfl:k=N:=by omega
   rw [List.take_of_length_le (by rw [HN.o];exact Nat.le_refl _)];generalize C.emoji xs=em at ng ⊢;generalize C.most c xs=mo at ng ⊢
   cases em with
   | false =>
    go_wp2_with fail;go_ret
    exact⟨iF (by rw [ng.o];simp),aJ.o⟩
   | true =>
    by_cases h:0<mo
    ·have d0:=decide_eq_true h;have HR:=bx (show C.fZ c xs=2 by rw [ng.o,d0];rfl);clear h;go_wp2_with fail;go_ret
     exact⟨iF HR.o.symm,aJ.o⟩
    ·have d0:=decide_eq_false h;have HR:=bx (show C.fZ c xs=mo by rw [ng.o,d0];rfl);clear h;go_wp2_with fail;go_ret
     exact⟨iF HR.o.symm,aJ.o⟩
end
namespace C
open Go.Proofs.YtdenoeakcflnmaaGreatDoor
theorem Ii (s:List UInt8):lT (M.fix s)=((List.range ((aT s).length+1)).map (dA (aT s))).map (λn:Nat=>(n:Int)):=by
 unfold lT;rw [qp,MF _ (AB s)]
theorem TS (s:List UInt8) {k:Nat} (h:k<=(aT s).length):(lT (M.fix s))[k]?=some (dA (aT s) k:Int):=by
 rw [Ii,List.getElem?_map,List.getElem?_map,List.getElem?_range (by omega)]
 rfl
theorem Vt (s:List UInt8):(lT (M.fix s)).length=(aT s).length+1:=by
 rw [Ii,List.length_map,List.length_map,List.length_range]
def iR (xs:List Int) (ns:List Nat):List Int:=(places xs ns).map (λn:Nat=>(n:Int))
theorem VO (xs:List Int) (ns:List Nat) {k a:Nat} (h:ns[k]?=some a):iR xs (ns.take (k+1))=iR xs (ns.take k)++[(dA xs a:Int)]:=by
 unfold iR places;rw [List.take_add_one,h,List.map_append,List.map_append]
 rfl
theorem TN (xs:List Int) (ns:List Nat):(iR xs ns).length=ns.length:=by unfold iR places;rw [List.length_map,List.length_map]
theorem UL (xs:List Int) (ns:List Nat) {k:Nat} (h:k+1<ns.length):(pieces xs ns).take (k+1)=(pieces xs ns).take k++[piece xs ns k]:=by
 have hl:k<(pieces xs ns).length:=by rw [pieces_len];omega
 rw [List.take_succ_eq_append_getElem hl];have:=Vd xs ns h;rw [List.getD_eq_getElem?_getD,List.getElem?_eq_getElem hl,Option.getD_some] at this;rw [this]
theorem vC (g:Ga) (ls:List (List Int)) {i:Nat} (h:i<=ls.length):(marks g ls)[i]?=some (aS g ls i):=by
 unfold marks;rw [List.getElem?_map,List.getElem?_range (by omega)]
 rfl
theorem IQ (g:Ga) (ls:List (List Int)) {k:Nat} (h:k<=ls.length):(marks g ls).take (k+1)=(marks g ls).take k++[aS g ls k]:=by
 rw [List.take_add_one,vC g ls h]
 rfl
end C
section
open Go.RowKit
attribute [local go_sem] Oper.semAt_some
theorem E5 (v:Value) (t:Tab) (s:ByteArray) (w:World) (hv:TabAt w v t) (hs:dZ t) (hz:s.size<=299) :
  Calls Tryz.prog 40 #[v, .string s] w λe w'=>(∃ v',e = .returned (.tuple #[v', .int .i64 (textE t s.data.toList)])/\aB w' v' ((C.eX t s.data.toList).map λn:Nat=>(n:Int)))/\Below w.heap.size w w':=by
 obtain⟨pi,pb,rv,nv,fv,rfl,h1,h2,h3,h4,h5⟩:=hv;obtain⟨V,hV⟩:∃ V,V=w.alloc (.cells #[.int .i64 t.n,pi,pb,rv,nv,fv] 31):=⟨_,rfl⟩
 have HB0:=bx (show Below w.heap.size w V by rw [hV];exact aO _ _);have HK:=bx (show aj V w.heap.size 31 #[.int .i64 t.n,pi,pb,rv,nv,fv] by rw [hV];exact aj.new _ _ _);have bD:=bx (λW (h:Below w.heap.size w W)=>show TabAt W (.agg #[.int .i64 t.n,pi,pb,rv,nv,fv]) t from⟨pi,pb,rv,nv,fv,rfl,h1.below h,h2.below h,h3.below h,h4.below h,h5.below h⟩);have ay:=bx (λW (h:Below V.heap.size V W)=>HK.o.c6 h);have HV:=bx hV;have lH:=bx (Vq _ t s V (bD.o V HB0.o) hs hz);have gQ:=bx (λW=>yF s W (by omega));have hfl:=C.sG s.data.toList;rw [<- size_eq] at hfl;have jS:=bx (λW=>Iu ⟨(M.fix s.data.toList).toArray⟩ W (by rw [size_mk];omega));have hsl:=lM s.data.toList;rw [<- size_eq] at hsl
 by_cases he:textE t s.data.toList=0
 ·have xG:=bx he;obtain⟨hcn,uf⟩:=iq t s.data.toList;have zQ:=bx (show rZ t s.data.toList=(bK t s.data.toList).map (λn:Nat=>(n:Int)) by unfold rZ;rw [if_pos he,hcn]);have nJ:=bx (show (C.eX t s.data.toList).map (λn:Nat=>(n:Int))=C.iR (aT s.data.toList) (bK t s.data.toList) by unfold C.eX C.iR;rw [if_pos he]);rw [he,zQ.o] at lH;have D7:=bx (λ(k:Nat) (h:k<=(aT s.data.toList).length)=>C.TS s.data.toList h);have xg:=bx (C.Vt s.data.toList);obtain⟨us,hus⟩:∃ us,us=lT (M.fix s.data.toList):=⟨_,rfl⟩
  have EU:=bx hus;rw [<- hus] at D7 xg;generalize bK t s.data.toList=ns at lH nJ uf;generalize aT s.data.toList=xs at nJ uf hsl D7 xg;have eH:=bx uf;obtain⟨N,hN⟩:∃ N,xs.length=N:=⟨_,rfl⟩
  rw [hN] at hsl xg;have HN:=bx hN;obtain⟨Q,hQ⟩:∃ Q,ns.length=Q:=⟨_,rfl⟩
  have HQ:=bx hQ;have PW:0<Q:=by rw [<- hQ];exact uf.ne
  have pG:Q<=300:=by have:=uf.len;omega
  clear h1 h2 h3 h4 h5 hV hs he hcn uf hN hQ hus;obtain⟨tn,hn⟩:∃ n,n=t.n:=⟨_,rfl⟩
  rw [<- hn] at HV HK bD ay lH ⊢;clear hn;obtain⟨k0,k1,k2,k3,k4,k5,kk⟩:=ay.o V (Below.refl _ _)
  go_enter Tryz.func40,Tryz.ntmps40
  go_upto_region 1 with(fail)
  rw [<- HV.o];go_wp2_with fail;refine lH.o.mono ?_;rintro e w1 ⟨⟨v1,rfl,hv1⟩,hb1⟩;have dV:=bx hv1;obtain⟨ca,cc,rfl⟩:=hv1.slice;rw [List.length_map,HQ.o] at dV ⊢;have HB1:=bx (bt HB0.o hb1);clear hb1 hv1 k0 k1 k2 k3 k4 k5 kk;go_wp2_with fail;refine(gQ.o w1).mono ?_;rintro e w2 ⟨rfl,hb2⟩;have HC2:=bx (dV.o.below hb2);have HB2:=bx (bt HB1.o hb2);clear hb2;go_wp2_with fail;refine(jS.o w2).mono ?_;rintro e w3 ⟨⟨v3,rfl,hv3⟩,hb3⟩;rw [toList_mk,<- EU.o] at hv3;have JW:=bx hv3;obtain⟨ua,uc,rfl⟩:=hv3.slice;rw [xg.o] at JW ⊢;have dN:=bx (HC2.o.below hb3);have HB3:=bx (bt HB2.o hb3);clear hb3 hv3;have aQ:=bx (show Sep (fK w3.heap.size w3 (.slice none 0 0) (C.iR xs (ns.take 0))) w3 from(Sep.start w3).iW w3.heap.size 1 3);go_wp2_with fail
  go_loopw [9,10] (λov i wr=>∃ k:Nat,k<=Q/\i = .int .i64 k/\Box (Sep (fK w3.heap.size w3 ov (C.iR xs (ns.take k))) wr)) (λ_ i _=>Q-(intOf i).toNat)
  case atStart=>exact⟨0,by omega,rfl,aQ⟩
  case round =>
   obtain⟨k,hk,rfl,hsep⟩:=hrel;have aG:=bx (zW hsep.o);have aJ:=bx (bt HB3.o aG.o)
   by_cases hlt:k<Q
   ·obtain⟨a,ha⟩:∃ a,ns[k]?=some a:=⟨_,List.getElem?_eq_getElem (by rw [HQ.o];exact hlt)⟩
    have haN:a<=N:=by
     have:=eH.o.le k (by rw [HQ.o];exact hlt);rw [List.getD_eq_getElem?_getD,ha,Option.getD_some,HN.o] at this;exact this
    have hu:=D7.o a (by rw [HN.o];exact haN);obtain⟨cg,dK,rY,e1,e2,e3,e4,e5⟩:=dN.o.get (by intro h;have:=congrArg List.length h;rw [List.length_map,HQ.o,List.length_nil] at this;omega);rw [List.length_map,HQ.o] at e1 e2;obtain⟨rfl,rfl⟩:ca=some ⟨cg,dK,none⟩/\cc=rY:=by injection e1 with h1 h2 h3;exact⟨h1,h3⟩
    obtain⟨ug,I5,WZ,f1,f2,f3,f4,f5⟩:=JW.o.get (by rintro rfl;simp at hu);rw [xg.o] at f1 f2;obtain⟨rfl,rfl⟩:ua=some ⟨ug,I5,none⟩/\uc=WZ:=by injection f1 with h1 h2 h3;exact⟨h1,h3⟩
    have c1:=(aG.o.cell (p:=⟨cg,dK+k,none⟩) e4).trans (e5 k (a:Int) (by rw [List.getElem?_map,ha];rfl));have c2:=(aG.o.cell (p:=⟨ug,I5+a,none⟩) f4).trans (f5 a _ hu);have dF:=bx (C.VO xs ns ha);have iI:=bx (show (C.iR xs (ns.take k)).length<=1000000000 by rw [C.TN,List.length_take];omega);have hbs:w3.heap.size<=wr.heap.size:=aG.o.size;generalize (C.dA xs a:Int)=y at c2 dF;generalize C.iR xs (ns.take k)=acc at hsep dF iI;have haI:(a:Int)<(N:Int)+1:=by omega
    unfold maxLen at e3 f3;clear ha hu e1 e4 e5 f1 f4 f5;go_wp2_with (at_builtin;refine ji rfl _ _ 22 rfl iT hsep.o 0 rfl rfl rfl rfl iI.o (by omega) hbs ?_;rintro v6 w6 hS6 -;have aW:=bx (DW (m:=[y]) hS6 (by simp) dF.o);clear hS6)
    go_roundw
    case rel=>exact⟨k+1,by omega,by go_num,aW⟩
    case measure=>simp [intOf];omega
   ·obtain rfl:k=Q:=by omega
    have hsp:=hsep.o;rw [List.take_of_length_le (by rw [HQ.o];exact Nat.le_refl _)] at hsp;have HI:=bx (zL hsp).1;clear hsp;go_wp2_with fail;go_ret2
    exact⟨⟨_,rC rfl (kG xG.o.symm),by rw [nJ.o];exact HI.o⟩,aJ.o⟩
 ·have nJ:=bx (show (C.eX t s.data.toList).map (λn:Nat=>(n:Int))=[] by unfold C.eX;rw [if_neg he];rfl);obtain⟨r,hr⟩:∃ r,r=textE t s.data.toList:=⟨_,rfl⟩
  have HR:=bx hr;rw [<- hr] at he lH;have e2:(r != 0)=true:=by rw [bne_iff_ne];exact he
  obtain⟨tn,hn⟩:∃ n,n=t.n:=⟨_,rfl⟩
  rw [<- hn] at HV HK bD ay lH ⊢;clear h1 h2 h3 h4 h5 hV hs hn he hr;obtain⟨k0,k1,k2,k3,k4,k5,kk⟩:=ay.o V (Below.refl _ _)
  go_enter Tryz.func40,Tryz.ntmps40
  go_upto_region 1 with(fail)
  rw [<- HV.o];go_wp2_with fail;refine lH.o.mono ?_;rintro e w1 ⟨⟨v1,rfl,hv1⟩,hb1⟩;obtain⟨ca,cc,rfl⟩:=hv1.slice;have HB1:=bx (bt HB0.o hb1);clear hb1 hv1 k0 k1 k2 k3 k4 k5 kk;go_wp2_with fail;go_ret2
  exact⟨⟨_,rC rfl (kG HR.o),by rw [nJ.o];exact .nil⟩,HB1.o⟩
end
end Go.Proofs.YtdenoeakcflnmaaGreatDoor
