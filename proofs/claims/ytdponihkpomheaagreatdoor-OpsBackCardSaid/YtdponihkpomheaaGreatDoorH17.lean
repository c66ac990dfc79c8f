/- Texts of this claim. -/
import Derived.Laws.MakeOwn
import Derived.Laws.CopyRow
import Derived.Laws.IdiomCopy
import Derived.Test.YtdponihkpomheaaGreatDoorH8
import Derived.Test.YtdponihkpomheaaGreatDoorH16

set_option maxHeartbeats 8000000
set_option maxRecDepth 100000
namespace Go.Proofs.YtdponihkpomheaaGreatDoor
open Go.RowKit
attribute [local go_sem] Oper.semAt_some
open Tryz
section
open Go.Shelf
theorem apZ (t:Int) (w:World):Calls prog 241 #[ah t] w λe w'=>e = .returned (.bool (!U.right t))/\w=w':=by
 have HR:=bx (λW=>TG t W)
 go_in
 go_wp2_with fail;refine aP (HR.o _) ?_
 go_wp2
 go_ret
 exact⟨rfl,rfl⟩
theorem akZ (v:Value) (xs:List Int) (w:World) (hv:aN w v xs) (hz:xs.length<=16777216) :
  Calls prog 279 #[v, .func (.func 241) #[] #[]] w λe w'=>(∃ i:Int,e = .returned (ah i)/\decide (0<=i)=xs.any (λt=>!U.right t))/\w=w':=by
 have mO:=bx hv;obtain⟨ao,cap,rfl⟩:=hv.slice;have HO:=bx (λt=>apZ t w);clear hv
 go_in
 go_wp2_with fail
 go_loop [8] (λi=>∃ k:Nat,k<=xs.length/\i = ah k/\Box ((xs.take k).any (λt=>!U.right t)=false)) (λi=>xs.length-(intOf i).toNat)
 ·exact⟨0,by omega,rfl,⟨rfl⟩⟩
 obtain⟨k,hk,rfl,ha⟩:=hrel
 by_cases hlt':k<xs.length
 ·obtain⟨x,hx⟩:∃ x,xs[k]?=some x:=⟨_,dW hlt'⟩
  obtain⟨g,off,cap2,hg1,hg2,hg3,hg4,hg5⟩:=mO.o.get (by rintro rfl;simp at hlt');obtain⟨rfl,rfl⟩:=dQ hg1;have hcx:=hg5 k x hx;have HX:=bx hx;unfold maxLen at hg3;clear hx hg1 hg5
  cases hi:(λt=>!U.right t) x with
  | false =>
   have HT:=bx (show (xs.take (k+1)).any (λt=>!U.right t)=false by rw [jw,HX.o,List.any_append,ha.o,Option.toList_some,List.any_cons,List.any_nil,Bool.or_false,Bool.false_or];exact hi);have HI:=bx hi;clear hi;go_wp2_with fail;refine aP (HO.o x) ?_;rw [HI.o];go_wp2_with fail
   go_round
   ·exact⟨k+1,hlt',by go_num,HT⟩
   simp [intOf];omega
  | true =>
   have HT:=bx (show xs.any (λt=>!U.right t)=true by rw [zO];exact⟨x,dB HX.o,hi⟩);have HI:=bx hi;clear hi;go_wp2_with fail;refine aP (HO.o x) ?_;rw [HI.o]
   go_wp2
   go_ret
   exact⟨⟨k,rfl,by rw [HT.o];simp⟩,rfl⟩
 have HT:=bx (show xs.any (λt=>!U.right t)=false by have:=ha.o;rwa [gq (by omega)] at this)
 go_wp2
 go_ret
 exact⟨⟨-1,rfl,by rw [HT.o];rfl⟩,rfl⟩
theorem ams (v:Value) (xs:List Int) (w:World) (hv:aN w v xs) (hz:xs.length<=16777216) :
  Calls prog 215 #[v, .func (.func 241) #[] #[]] w λe w'=>e = .returned (.bool (xs.any (λt=>!U.right t)))/\w=w':=by
 have HI:=bx (akZ v xs w hv hz);clear hv
 go_in
 go_wp2_with fail;refine HI.o.mono ?_;rintro e w1 ⟨⟨i,rfl,hi⟩,rfl⟩;have HX:=bx hi;clear hi
 go_wp2
 go_ret
 exact⟨aY (by simpa using HX.o),rfl⟩
theorem arC (x:Int) (w:World):Calls prog 314 #[ah x] w λe w'=>e = .returned (.bool false)/\w=w':=by
 go_in
 go_wp2
 go_ret
 exact⟨aY (by simp),rfl⟩
theorem abG (x y:Int) (w:World):Calls prog 288 #[ah x, ah y] w λe w'=>e = .returned (.bool (decide (x<y)))/\w=w':=by
 have H:=bx (λz W=>arC z W)
 go_in
 go_wp2_with fail;refine aP (H.o _ _) ?_
 go_wp2
 go_ret
 exact⟨rfl,rfl⟩
def T.Fa (l:List Int):Bool:=(List.range l.length).all λj=>decide (j=0)||decide (l.getD (j-1) 0<=l.getD j 0)
theorem T.aoO {l:List Int} (h:∀ j,1<=j->j<l.length->l.getD (j-1) 0<=l.getD j 0):T.Fa l=true:=by
 unfold T.Fa;rw [jG];intro j hj;rw [oM] at hj
 rcases Ah j with rfl | h0
 ·rfl
 rw [Bool.or_eq_true];exact .inr (bD (h j h0 hj))
theorem T.asB {l:List Int} {j:Nat} (h1:1<=j) (hj:j<l.length) (h:l.getD j 0<l.getD (j-1) 0):T.Fa l=false:=by
 rw [Bool.eq_false_iff];intro h2;unfold T.Fa at h2;have:=jG.1 h2 j (oM.2 hj);rw [Bool.or_eq_true,fD,fD] at this;omega
theorem arO (v:Value) (xs:List Int) (w:World) (hv:aN w v xs) (hz:xs.length<=16777216) :
  Calls prog 242 #[v] w λe w'=>e = .returned (.bool (T.Fa xs))/\ak w w':=by
 have HV:=bx (λW (h:ak w W)=>hv.below h);obtain⟨ao,cap,rfl⟩:=hv.slice;obtain⟨N,hN⟩:∃ N,xs.length=N:=⟨_,rfl⟩
 have HN:=bx hN;rw [hN] at hz HV ⊢;clear hv hN
 go_in
 go_wp2_with fail
 go_loopw [3] (λi wr=>∃ z:Int,i = ah z/\-1<=z/\z<=(N:Int)-1/\Box (∀ j:Nat,z<j->1<=j->j<N->xs.getD (j-1) 0<=xs.getD j 0)/\Box (ak w wr)) (λi _=>(intOf i).toNat)
 ·exact⟨_,rfl,by omega,by omega,⟨λj h1 h2 h3=>by omega⟩,⟨Below.refl _ _⟩⟩
 obtain⟨z,rfl,hz1,hz2,hok,hb⟩:=hrel
 by_cases hlt:0<z
 ·obtain⟨p,hp⟩:∃ p:Nat,z=(p:Int)+1:=⟨(z-1).toNat,by omega⟩
  subst hp;have Jp:p+1<N:=by omega
  obtain⟨x,hx⟩:=bV xs (p+1) (by rw [HN.o];exact Jp);obtain⟨y,hy⟩:=bV xs p (by rw [HN.o];omega);obtain⟨g,off,cap2,hg1,hg2,hg3,hg4,hg5⟩:=(HV.o wr hb.o).get (by rintro rfl;simp at hx);rw [HN.o] at hg1 hg2;obtain⟨rfl,rfl⟩:=dQ hg1;have cx:=hg5 (p+1) x hx;have cy:=hg5 p y hy;have HX:=bx (show xs.getD (p+1) 0=x by rw [fO,hx,jE]);have HY:=bx (show xs.getD p 0=y by rw [fO,hy,jE]);unfold maxLen at hg3;clear hx hy hg1 hg5
  cases hc:decide (x<y) with
  | true =>
   have HF:=bx (show T.Fa xs=false from T.asB (j:=p+1) (by omega) (by rw [HN.o];exact Jp) (by rw [Nat.add_sub_cancel,HX.o,HY.o];exact of_decide_eq_true hc));have HL:=bx (λW=>hc▸abG x y W);clear hc;go_wp2_with fail
   go_quiet ((go_at_call 288;exact RQ (HL.o _)))
   have HB:=bx (hb.o.trans ((below_drewN (Below.refl wr.heap.size wr) nq).mono hb.o.size))
   go_wp2
   go_ret
   exact⟨aY (by rw [HF.o]),HB.o⟩
  | false =>
   have nX:=bx (show ∀ j:Nat,(p:Int)<j->1<=j->j<N->xs.getD (j-1) 0<=xs.getD j 0 from λj h1 h2 h3=>by
    rcases gZ (p+1) j with h | h
    ·exact hok.o j (by omega) h2 h3
    obtain rfl:j=p+1:=by omega
    rw [Nat.add_sub_cancel,HX.o,HY.o];have:=of_decide_eq_false hc;omega)
   have HL:=bx (λW=>hc▸abG x y W);clear hc;go_wp2_with fail
   go_quiet ((go_at_call 288;exact RQ (HL.o _)))
   have HB:=bx (hb.o.trans ((below_drewN (Below.refl wr.heap.size wr) nq).mono hb.o.size))
   go_wp2
   go_roundw
   ·exact⟨p,by go_num,by omega,by omega,nX,HB⟩
   simp [intOf]
 have HT:=bx (show T.Fa xs=true from T.aoO (λj h1 h2=>hok.o j (by omega) h1 (by rw [<- HN.o];exact h2)));have hd:decide (0<z)=false:=dh hlt;clear hlt
 go_wp2
 go_ret
 exact⟨aY (by rw [HT.o]),hb.o⟩
def T.O7 (c:T.Cs) (xs pl:List Int):Int:=if T.wrong c xs≠0 then T.wrong c xs else if T.Fa pl=false then 12 else 0
theorem auj {l:List Int}:l.any (λt=>!U.right t)=!l.all U.right:=by
 rw [<- ML (p:=λt=>!U.right t) (q:=U.right) (λx=>rfl),Bool.not_not]
theorem anJ (A:Nat->Addr) (B:Nat) (v LU pv:Value) (c:T.Cs) (xs pl:List Int) (w:World) (hv:o8 w v c) (hs:T.Small c) (hl:aN w LU xs) (hz:xs.length<=100000) (hp:aN w pv pl) (hpz:pl.length<=100000) (hE:E A B w) (hB:B<=w.heap.size) (hne:T.O7 c xs pl=0) :
  Calls prog 164 #[v,LU,pv] w λe w'=>∃ lv tv ci cb gi gb g km,v = .agg #[lv,tv,ci,cb,gi,gb]/\e = .returned (.tuple #[aA g, .nilIface])/\Sep (outW w.heap.size g km lv tv ci cb gi gb LU (aj) [] c [Pc.old w.heap.size w]) w':=by
 have lu:=bx (λW (h:ak w W)=>hv.below h);obtain⟨lv,tv,ci,cb,gi,gb,rfl,h1,h2,h3,h4,h5,h6⟩:=hv;obtain⟨V,hV⟩:∃ V,V=w.alloc (.cells #[lv,tv,ci,cb,gi,gb] 36):=⟨_,rfl⟩
 have HB0:=bx (aB hV);have HK:=bx (aK hV);have aI:=bx (λW (h:ak V W)=>HK.o.d6 h);have HV:=bx hV;have iU:=bx (ZF _ c V (lu.o V HB0.o) hs);have oD:=bx (λW (h:ak w W)=>ams LU xs W (hl.below h) (by omega));have HIS:=bx (λW (h:ak w W)=>arO pv pl W (hp.below h) (by omega));have jW:=bx (λW (h:ak w W)=>show E A B W from hE.below (h.mono hB));have qG:=bx hl;obtain⟨la,lc,rfl⟩:=hl.slice;obtain⟨N,hN⟩:∃ N,xs.length=N:=⟨_,rfl⟩
 rw [hN] at oD hz qG ⊢;have HN:=bx hN;have HZ:=bx hz;clear h1 h2 h3 h4 h5 h6 hs hV hl hN hp hE;obtain⟨k0,k1,k2,k3,k4,k5,kk⟩:=aI.o V aZ;have hwz:T.wrong c xs=0:=by
  unfold T.O7 at hne
  split at hne
  ·rename_i h;exact absurd hne h
  rename_i h;simpa using h
 have HU:=bx (show T.Fa pl=true by
  unfold T.O7 at hne;rw [aF (by rw [hwz];simp)] at hne
  split at hne
  ·cases hne
  rename_i h;simpa using h)
 obtain⟨w1a,w1b,w1c⟩:=T.aoY hwz;have HQ:=bx w1a;have HA:=bx (show xs.any (λt=>!U.right t)=false by rw [auj,jG.2 w1c];rfl);rw [HN.o] at w1b;have e1:decide ((2000:Int)<(N:Int))=false:=dh (by omega);have hmm:=@run_makeMap prog;clear hwz hne w1a w1b w1c
 go_in
 go_upto_region 1 with(fail)
 rw [<- HV.o];have g0:=(jW.o V HB0.o).var 4 (by decide);go_wp2_with fail;refine uz 0 rfl ?_;go_wp2_with fail;refine aT iU.o λw1 hb1=>?_
 rw [HQ.o];have HB1:=aJ HB0 hb1;have mV:=bx hb1;clear hb1 g0 k0 k1 k2 k3 k4 k5 kk;have g1:=(jW.o w1 HB1.o).var 5 (by decide);have g2:=(jW.o w1 HB1.o).var 8 (by decide);have g3:=(jW.o w1 HB1.o).var 9 (by decide);go_wp2_with fail;refine aP (oD.o w1 HB1.o) ?_;rw [HA.o];go_wp2_with fail;refine aT (HIS.o w1 HB1.o) λw3 hb3=>?_
 rw [HU.o];have HB3:=aJ HB1 hb3;obtain⟨k0,k1,k2,k3,k4,k5,kk⟩:=aI.o w3 (bt mV.o hb3);clear hb3 g1 g2 g3;go_wp2_with fail;rw [yE];have hk:nS (w3.alloc (.map #[] 0)) w3.heap.size c:=⟨#[],0,World.alloc_heap_new w3 _,λx hx=>by simp at hx,λq v hq=>by simp [Az,Instr.findNow] at hq⟩
 have hs1:Sep (Pc.known w3.heap.size c::[Pc.old w.heap.size w]) (w3.alloc (.map #[] 0)):=((Sep.start w).below HB3.o).add (dA w3 (.map #[] 0)) (p:=Pc.known w3.heap.size c) hk (λk hk=>by rw [show k=w3.heap.size from hk];exact bK _);have hs2:=(hs1.eu 232 #[lv,tv,ci,cb,gi,gb, .map (some w3.heap.size), .slice la N lc, aj]).kV w.heap.size 1 3;rw [show (w3.alloc (.map #[] 0)).heap.size=w3.heap.size+1 from by simp] at hs2;have HS2:=bx hs2;clear hs1 hs2 hk;go_ret2;exact⟨lv,tv,ci,cb,gi,gb,w3.heap.size+1,w3.heap.size,rfl,rfl,HS2.o⟩
end
section
open Go.Extern.Stop Go.Stop Go.Extern
def zW (w:World):Prop:=w.cell? ⟨6,0,none⟩=some (.iface 351 (.agg #[.pointer (some ⟨16,87,none⟩)]))
theorem aiP (w:World) (g:Nat) (cs:Array Value):Turns (λk=>k=g) w (w.setRow g cs) :=
 ⟨rfl,rfl,rfl,by simp [World.setRow],λk _ ho=>setRow_other w g k cs (λe=>ho e)⟩
theorem as_hit (l n:Int) (tb:Nat) (o1 o2:Value) (w:World) (hg:zW w) (ht:aC w tb 320 #[o1,o2]) :
  Calls prog 114 #[.iface 320 (.agg #[ah l, ah n]), .iface 321 (aA tb)] w λe w'=>e = .returned (.bool true)/\aC w' tb 320 #[ah l, ah n]/\Turns (λk=>k=tb) w w':=by
 have h6:=@run_callFunc_extern prog 198 _ (λargs=>ReflectliteValue.unpack (args.getD 0 (.tuple #[]))) func198 (by kernel_rfl) (by kernel_rfl) (by kernel_rfl) (by kernel_rfl);have h7:=@run_callFunc_extern prog 199 _ (ReflectliteValue.methodAny (ReflectliteValue.valueError "reflectlite.Value.Type" 0) (λt _ _ _=>ReflectliteType.toType t)) func199 (by kernel_rfl) (by kernel_rfl) (by kernel_rfl) (by kernel_rfl);have h8:=@run_callFunc_extern prog 200 _ (ReflectliteValue.method (ReflectliteValue.valueError "reflectlite.Value.IsNil" 0) ReflectliteValue.isNil) func200 (by kernel_rfl) (by kernel_rfl) (by kernel_rfl) (by kernel_rfl);have h27:=@run_callFunc_extern prog 371 _ (ReflectliteType.abiMethod λt=>do pure (.int .u8 (<- Rtype.kind t))) func371 (by kernel_rfl) (by kernel_rfl) (by kernel_rfl) (by kernel_rfl);have h37:=@run_callFunc_extern prog 383 _ (ReflectliteType.method ReflectliteType.elem) func383 (by kernel_rfl) (by kernel_rfl) (by kernel_rfl) (by kernel_rfl);have h38:=@run_callFunc_extern prog 384 _ (ReflectliteType.relation "Implements" ReflectliteType.implements_) func384 (by kernel_rfl) (by kernel_rfl) (by kernel_rfl) (by kernel_rfl);have h10:=@run_callFunc_extern prog 232 _ ReflectliteType.typeOf func232 (by kernel_rfl) (by kernel_rfl) (by kernel_rfl) (by kernel_rfl);have h35:=@run_callFunc_extern prog 381 _ (ReflectliteType.relation "AssignableTo" ReflectliteType.assignableTo) func381 (by kernel_rfl) (by kernel_rfl) (by kernel_rfl) (by kernel_rfl);have h11:=@run_callFunc_extern prog 268 _ (ReflectliteValue.method (ReflectliteValue.valueError "reflectlite.Value.Elem" 0) ReflectliteValue.elem) func268 (by kernel_rfl) (by kernel_rfl) (by kernel_rfl) (by kernel_rfl);have h12:=@run_callFunc_extern prog 269 _ ReflectliteValue.set func269 (by kernel_rfl) (by kernel_rfl) (by kernel_rfl) (by kernel_rfl);have tO:=As.ZW;have mA:=As.methodAssignableTo;have aW:=As.VH;have vW:=As.Ym;have f6:=As.X8;have f7:=As.VT;have mK:=As.methodKind;have mE:=As.methodElem;have mI:=As.methodImplements;have kP:=As.ZJ;have kW:=As.WV;have eP:=As.aan;have iW:=As.WC;obtain⟨W1,hW1⟩:∃ W1,W1=w.alloc (.cells #[aA tb] 321):=⟨_,rfl⟩
 obtain⟨W2,hW2⟩:∃ W2,W2=W1.alloc (.cells #[.pointer (some ⟨16,321,none⟩), aA (w.heap.size), .int .u64 150] 276):=⟨_,rfl⟩
 obtain⟨W3,hW3⟩:∃ W3,W3=W2.alloc (.cells #[.pointer (some ⟨16,321,none⟩), aA (w.heap.size), .int .u64 150] 276):=⟨_,rfl⟩
 obtain⟨W4,Ee⟩:∃ W4,W4=W3.alloc (.cells #[ah l, ah n] 320):=⟨_,rfl⟩
 have b1:ak w W1:=by rw [hW1];exact dA _ _
 have b2:ak W1 W2:=by rw [hW2];exact dA _ _
 have b3:ak W2 W3:=by rw [hW3];exact dA _ _
 have b4:ak W3 W4:=by rw [Ee];exact dA _ _
 have k1:aC W1 w.heap.size 321 #[aA tb]:=by rw [hW1];exact aC.new _ _ _
 have k4:aC W4 W3.heap.size 320 #[ah l, ah n]:=by rw [Ee];exact aC.new _ _ _
 have t1:=ht.below b1 ht.lt;have t2:=t1.below b2 t1.lt;have t3:=t2.below b3 t2.lt;have t4:=t3.below b4 t3.lt;have hg0:6<w.heap.size:=World.block_lt_of_cell? w _ hg;have n8:=As.XU ⟨w.heap.size,0,none⟩ ⟨tb,0,none⟩ W2 (((k1.below b2 k1.lt).cell 0).trans rfl);have hg2:W2.cell? ⟨6,0,none⟩=some (.iface 351 (.agg #[.pointer (some ⟨16,87,none⟩)])):=(b2.cell (p:=⟨6,0,none⟩) (fC hg0 b1.size)).trans ((b1.cell (p:=⟨6,0,none⟩) hg0).trans hg);have el:=As.elemV ⟨w.heap.size,0,none⟩ ⟨tb,0,none⟩ W3 ((((k1.below b2 k1.lt).below b3 (k1.below b2 k1.lt).lt).cell 0).trans rfl);have st:=As.setW tb W3.heap.size (ah l) (ah n) o1 o2 W4 k4 t4 rfl rfl;have xk:=bx (show Turns (λk=>k=tb) w (W4.setRow tb #[ah l, ah n]) from
  (Turns.of_below (b1.trans ((b2.trans ((bt b3 b4).mono b2.size)).mono b1.size))).trans (aiP W4 tb _))
 have yZ:=bx (t4.setRow #[ah l, ah n]);rw [Ee,hW3,hW2,hW1] at xk yZ st;rw [hW3,hW2,hW1] at el;rw [hW2,hW1] at hg2 n8;clear b1 b2 b3 b4 k1 k4 t1 t2 t3 t4 hW1 hW2 hW3 Ee hg hg0 ht;simp only [World.size_alloc] at st
 go_in
 go_wp2
 refine wp_loop_rounds 1 ?_;rw [rounds_succ]
 go_wp2
 go_ret
 exact⟨rfl,yZ.o,xk.o⟩
theorem atL (l n:Int) (w:World) (hg:zW w) :
  Calls prog 156 #[.iface 320 (.agg #[ah l, ah n])] w λe w'=>e = .returned (.tuple #[ah l, ah n])/\ak w w':=by
 obtain⟨V,hV⟩:∃ V,V=w.alloc (.cells #[ah 0, ah 0] 320):=⟨_,rfl⟩
 have HB:=bx (aB hV);have HK:=bx (aK hV);have HV:=bx hV;have HA:=bx (as_hit l n w.heap.size (ah 0) (ah 0) V ((HB.o.cell (p:=⟨6,0,none⟩) (World.block_lt_of_cell? w _ hg)).trans hg) HK.o);clear hV hg
 go_in
 go_upto_region 2 with(fail)
 rw [<- HV.o];go_wp2_with fail;refine HA.o.mono ?_;rintro e w1 ⟨rfl,hk1,ht1⟩;have HB1:=bx (HB.o.trans (ht1.below HB.o.size (λk hk=>by omega)));have x0:w1.cell? ⟨w.heap.size,0,none⟩=some (ah l):=(hk1.cell 0).trans rfl;have x1:w1.cell? ⟨w.heap.size,1,none⟩=some (ah n):=(hk1.cell 1).trans rfl;clear hk1 ht1;go_wp2_with fail
 go_quiet (fail)
 have HB2:=bx (HB1.o.trans ((below_drewN (Below.refl w1.heap.size w1) nq).mono HB1.o.size))
 go_wp2
 go_ret2
 exact⟨rfl,HB2.o⟩
theorem aeR (l n:Int) (w:World) (hg:zW w) :
  Calls prog 87 #[.iface 320 (.agg #[ah l, ah n])] w λe w'=>e = .returned (ah n)/\ak w w':=by
 have HT:=bx (atL l n w hg);clear hg
 go_in
 go_wp2_with fail;refine aT HT.o λw1 hb1=>?_
 have HB:=bx hb1;clear hb1
 go_wp2
 go_ret
 exact⟨rfl,HB.o⟩
theorem afz (l n:Int) (hn:n≠0) (w:World) :
  Calls prog 155 #[ah l, ah n] w λe w'=>e = .returned (.iface 320 (.agg #[ah l, ah n]))/\w=w':=by
 have h1:(n != 0)=true:=by rw [Ji];exact hn
 clear hn
 go_in
 go_wp2
 go_ret
 exact⟨rfl,rfl⟩
end
section
open Go.Shelf
theorem aoo (p:Option Addr) (v:Value) (w:World) (hv:∃ a n c,v = .slice a n c) :
  Calls prog 211 #[.pointer p,v] w λe w'=>e = .returned (.func (.func 277) #[] #[aA (w.heap.size+1), aA (w.heap.size)]) /\
   (w.alloc (.cells #[.pointer p] 289)).alloc (.cells #[v] 22)=w':=by
 obtain⟨a,n,c,rfl⟩:=hv
 go_in
 go_wp2
 go_ret
 exact⟨rfl,rfl⟩
structure LP (cb sb xb sg so sc fg fo fc n kc:Nat) (ko:Option Addr) (nv rv:Value) (S F:List Int) (W:World):Prop where
 c:aC W cb 291 #[nv, .slice (some ⟨fg,fo,none⟩) F.length fc,rv, .slice ko n kc]
 s:aC W sb 22 #[.slice (some ⟨sg,so,none⟩) S.length sc]
 x:aC W xb 289 #[aA cb]
 ss:∀ i v,S[i]?=some v->ay W sg (so+i)=some (ah v)
 ff:∀ i v,F[i]?=some v->ay W fg (fo+i)=some (ah v)
theorem LP.same {cb sb xb sg so sc fg fo fc n kc:Nat} {ko:Option Addr} {nv rv:Value} {S F:List Int} {W W':World} (h:LP cb sb xb sg so sc fg fo fc n kc ko nv rv S F W) {K:Nat->Prop} (hk:K cb/\K sb/\K xb/\K sg/\K fg) (hb:∀ k,K k->W'.heap[k]?=W.heap[k]?):LP cb sb xb sg so sc fg fo fc n kc ko nv rv S F W' :=
 ⟨(hb _ hk.1).trans h.c,(hb _ hk.2.1).trans h.s,(hb _ hk.2.2.1).trans h.x,λi v hi=>(World.cell?_of_block (hb sg hk.2.2.2.1)).trans (h.ss i v hi),λi v hi=>(World.cell?_of_block (hb fg hk.2.2.2.2)).trans (h.ff i v hi)⟩
def yT (n k:Nat):List Nat:=(List.range (min (k-1) (n-1))).map (·+1)
theorem atV {n k:Nat} (h1:0<k) (h2:k<n):yT n (k+1)=yT n k++[k]:=by
 unfold yT;rw [show min (k+1-1) (n-1)=min (k-1) (n-1)+1 by omega,List.range_succ,gX];simp;omega
theorem ahZ {n k:Nat} (h:k=0\/n<=k):yT n (k+1)=yT n k:=by
 unfold yT
 congr 2
 omega
theorem apk (n k:Nat):(yT n k).length=min (k-1) (n-1):=by simp [yT]
def kZ (S F:List Int) (p:Nat):Int:=F.getD (S.getD p 0).toNat 0
theorem as5 (m:Nat) (K:Nat->Prop) (cb sb xb sg so sc fg fo fc n kc:Nat) (ko:Option Addr) (nv rv:Value) (S F:List Int) (hS:S.length=n+1) (hsc:S.length<=sc/\sc<=9223372036854775807) (hfc:F.length<=fc/\fc<=9223372036854775807) (hn:n<=1000000)
  (O8:∀ x∈S,0<=x/\x<F.length) (hK:K cb/\K sb/\K xb/\K sg/\K fg) (l:Nat) (W1:World) (hP:LP cb sb xb sg so sc fg fo fc n kc ko nv rv S F W1) :
  Sz (m+1) prog 277 #[aA sb, aA xb] (λx:Nat=>#[ah x, ah (kZ S F x)]) (λ_=>False) K (λpre x=>x=pre.length+1/\x<n)
   (λxs _=>xs=yT n (n+1)) l W1:=by
 intro J Jx hJ hJx hY h0;have HY:=bx hY;have HJ:=bx hJ;have Du:=bx O8;have HK:=bx hK;have HS:=bx hS;have c0:W1.cell? ⟨sb,0,none⟩=some (.slice (some ⟨sg,so,none⟩) S.length sc):=(hP.s.cell 0).trans rfl;clear hY hJ O8 hK;refine callsIn_of_wp func277 rfl trivial ?_;simp only [ntmps277,qH,dY,iG,Nat.reduceAdd,Nat.reduceSub,rE,qW,ou,qQ,iJ,jd]
 gi_wp2
 refine wpIn_wide.2 (wp_scope_straight ((wpIn_wide (n:=m+1)).1 ?_))
 gi_wp2
 refine wpIn_label ?_
 gi_wp2
 clear c0
 gi_loopw [8] (λi wr=>∃ k:Nat,k<=n+1/\i = ah k/\Box (LP cb sb xb sg so sc fg fo fc n kc ko nv rv S F wr)/\Box (J (yT n k) wr)) (λi _=>n+1-(intOf i).toNat)
 ·exact⟨0,nK _,rfl,⟨hP⟩,⟨h0⟩⟩
 obtain⟨k,hk,rfl,hp,hj⟩:=hrel;clear hP h0
 by_cases hlt:k<n+1
 ·obtain⟨s,hs⟩:=bV S k (by omega);obtain⟨s0,s1⟩:=Du.o s (dB hs);obtain⟨q,rfl⟩:=oJ s0;have hqF:q<F.length:=by omega
  obtain⟨f,hf⟩:=bV F q hqF;have d0:=hp.o.ss k _ hs;have d1:=hp.o.ff q f hf;have d2:wr.cell? ⟨xb,0,none⟩=some (aA cb):=(hp.o.x.cell 0).trans rfl;have d3:wr.cell? ⟨cb,3,none⟩=some (.slice ko n kc):=(hp.o.c.cell 3).trans rfl;have d4:wr.cell? ⟨cb,1,none⟩=some (.slice (some ⟨fg,fo,none⟩) F.length fc):=(hp.o.c.cell 1).trans rfl;have hcl:=hp.o.c.lt;have uZ:=bx (show kZ S F k=f by
   unfold kZ;rw [show S.getD k 0=(q:Int) by rw [fO,hs];rfl,mG,fO,hf]
   rfl)
  obtain⟨sc1,sc2⟩:=hsc;obtain⟨fc1,Jm⟩:=hfc;clear hs hf s0 s1
  rcases (show k=0\/(0<k/\k=n)\/(0<k/\k<n) by omega) with h | ⟨hk0,h⟩ | ⟨h,h'⟩
  ·have HM:=bx (ahZ (n:=n) (k:=k) (.inl h));have d0':wr.cell? ⟨sg,so,none⟩=some (ah (q:Int)):=by rw [h,Nat.add_zero] at d0;exact d0
   clear d0;subst h;simp only [show ((0:Nat):Int)=0 from rfl]
   gi_wp2
   go_roundw
   ·exact⟨1,by omega,by go_num,hp,⟨by rw [show (1:Nat)=0+1 from rfl,HM.o];exact hj.o⟩⟩
   simp [intOf] <;> omega
  ·have HM:=bx (ahZ (n:=n) (k:=k) (.inr (by omega)));have t0:((k:Int)==0)=false:=by rw [fG];omega
   have t1:((k:Int)==(n:Int))=true:=by rw [lN];omega
   clear h hk0
   gi_wp2
   go_roundw
   ·exact⟨k+1,by omega,by go_num,hp,⟨by rw [HM.o];exact hj.o⟩⟩
   simp [intOf];omega
  have HM:=bx (atV h h');have t0:((k:Int)==0)=false:=by rw [fG];omega
  have t1:((k:Int)==(n:Int))=false:=by rw [fG];omega
  have hy:=HY.o (yT n k) k wr hj.o ⟨by rw [apk];omega,h'⟩;rw [uZ.o] at hy;obtain⟨fn,tmps,assign,body,hy,lT⟩:=hy;have rV:=bx lT;clear lT h h'
  gi_wp2
  refine rV.o.mono ?_;rintro e W3 (⟨rfl,hj3,hk3⟩ | ⟨rfl,hx3⟩)
  ·have HP3:=bx (hp.o.same HK.o (λk hk=>hk3.block k hk));have sK:=bx hj3;clear hj3 hk3
   gi_wp2
   go_roundw
   ·exact⟨k+1,by omega,by go_num,HP3,⟨by rw [HM.o];exact sK.o⟩⟩
   simp [intOf];omega
  gi_wp2
  rw [Exit.noGoto_normal]
  go_end0
  exact⟨⟨_,rfl⟩, .inr ⟨_,hx3⟩⟩
 obtain rfl:k=n+1:=by omega
 gi_wp2
 rw [Exit.noGoto_normal]
 go_end0
 exact⟨⟨_,rfl⟩, .inl ⟨_,rfl,hj.o⟩⟩
end
def vY (n:Nat) (L:List Int) (k:Nat):Array Value:=((D.cuts n (L.take k)++L.drop k).map (Value.int .i64)).toArray
theorem aju (n:Nat) (L:List Int):vY n L 0=(L.map (Value.int .i64)).toArray:=by simp [vY,D.cuts]
theorem axF (n:Nat) (L:List Int):vY n L L.length=((D.cuts n L).map (Value.int .i64)).toArray:=by simp [vY]
theorem ajj {n:Nat} {L:List Int} {k:Nat} {c:Int} (h:L[k]?=some c):(vY n L k)[k]?=some (ah c):=by
 have hk:=(dO h).1;unfold vY;rw [List.getElem?_toArray,eX,yD (by unfold D.cuts;rw [aV,dw];omega)];rw [show k-(D.cuts n (L.take k)).length=0 by unfold D.cuts;rw [aV,dw];omega,xY,Nat.add_zero,h]
 rfl
theorem Vb {n:Nat} {L:List Int} {k:Nat} {c:Int} (h:L[k]?=some c):(vY n L k).setIfInBounds k (ah (D.cut n c))=vY n L (k+1):=by
 have hk:=(dO h).1;have hd:L.drop k=c::L.drop (k+1):=by
  rw [zS hk]
  congr 1
  exact(dO h).2
 have ht:D.cuts n (L.take (k+1))=D.cuts n (L.take k)++[D.cut n c]:=by
  unfold D.cuts;rw [jw,h,gX]
  rfl
 have hl:(D.cuts n (L.take k)).length=k:=by unfold D.cuts;rw [aV,dw];omega
 unfold vY;rw [ht,hd,List.setIfInBounds_toArray,gX,iR,gX,gX,pz]
 congr 1
 rw [List.set_append_right _ _ (by rw [aV,hl];exact bK _),aV,hl,Nat.sub_self]
 rfl
theorem anv {n:Nat} {L:List Int} {k:Nat} {c:Int} (h:L[k]?=some c) (hc:D.cut n c=c):vY n L k=vY n L (k+1):=by
 rw [<- Vb h,hc];have hg:=ajj (n:=n) h
 apply Array.ext'
 rw [Array.toList_setIfInBounds]
 apply List.ext_getElem?
 intro j;rw [List.getElem?_set]
 split
 ·rename_i e
  subst e;rw [Array.getElem?_toList,hg]
  split
  ·rfl
  rename_i hn
  exact absurd (by have:=(fF.1 hg).1;simpa using this) hn
 rfl
theorem am7 {w:World} {g:Nat} {T:TypeId} {xs:List Int} (h:aC w g T (xs.map (Value.int .i64)).toArray) (hz:xs.length<=1000000):aN w (.slice (some ⟨g,0,none⟩) xs.length xs.length) xs :=
 .inr ⟨g,0,none,xs.length,rfl,bK _,by unfold maxLen;omega,λ_=>⟨rfl,h.lt,λi x hx=>by
  rw [Nat.zero_add];refine(h.cell i).trans ?_;rw [List.getElem?_toArray,eX,hx]
  rfl⟩⟩
theorem awx {n g:Nat} {w W:World} (h:Below n w W) (hg:n<=g) (cs:Array Value):Below n w (W.setRow g cs) :=
 h.trans ⟨rfl,rfl,rfl,by simp [World.setRow],λk hk=>setRow_other W g k cs (by omega)⟩
theorem alN (L:Nat) (h:L<=1000000) (w:World):(Instr.makeSlice 22 (ah (L:Int)) (ah (L:Int))).run prog w = .ok (.slice (some ⟨w.heap.size,0,none⟩) L L) (w.alloc (.cells (Array.replicate L (ah 0)) 3)):=by
 have hi:(prog.info? 3).map (λi=>(i.zero,i.size,i.bytes))=some (some (ah 0),1,8):=by kernel_rfl
 obtain⟨z,hz,hz2⟩:=rC.1 hi;simp only [Prod.mk.injEq] at hz2;have hz:=And.intro hz hz2;have:=run_makeSlice (P:=prog) (w:=w) 22 3 z (ah 0) underlying22 hz.1 hz.2.1 .i64 .i64 L L (by omega) (by omega) (by rw [hz.2.2.1];simp;omega) (by rw [hz.2.2.2];omega) (by omega);have e:madeCells (Value.int .i64 0).cells ((L:Int).toNat*z.size)=Array.replicate L (ah 0):=by
  rw [hz.2.2.1,mG,Nat.mul_one]
  apply Array.ext'
  rw [Array.toList_replicate];exact toList_madeCells_one (Value.int .i64 0) L
 rw [this,e,mG]
theorem ash (v:Value) (L:List Int) (w:World) (hv:aN w v L) (_hz:L.length<=1000000):∃ W2 q,(∀ ty,(Builtin.copy_ #[22,22] ty #[.slice (some ⟨w.heap.size,0,none⟩) L.length L.length,v]).run prog (w.alloc (.cells (Array.replicate L.length (ah 0)) 3)) = .ok (goInt q) W2)/\aC W2 w.heap.size 3 (L.map (Value.int .i64)).toArray/\ak w W2:=by
 have hs:(prog.info? 3).map (·.size)=some 1:=by kernel_rfl
 have hb0:=dA w (.cells (Array.replicate L.length (ah 0)) 3);have hk0:=aC.new w 3 (Array.replicate L.length (ah 0));have hv1:=hv.below hb0
 rcases hv1 with⟨rfl,rfl⟩ | ⟨b,off,sp,cap,rfl,h2,h3,h4⟩
 ·exact⟨_,0,λty=>run_copy_none _ _ _ ty _ _ _ _ _ _ _ underlying22 hs (by simp),hk0,hb0⟩
 by_cases hn:L=[]
 ·subst hn;exact⟨_,0,λty=>run_copy_none _ _ _ ty _ _ _ _ _ _ _ underlying22 hs (by simp),hk0,hb0⟩
 obtain⟨rfl,h5,h6⟩:=h4 hn;have hsz:(Array.replicate L.length (Value.int .i64 0)).size=L.length:=Array.size_replicate;refine⟨_,_,λty=>run_copy_row (P:=prog) _ _ _ ty _ w.heap.size 0 L.length L.length ⟨b,off,none⟩ L.length cap (Array.replicate L.length (ah 0)) 3 (L.map (Value.int .i64)) underlying22 hs hk0 (by simp) (λj u hu=>?_) (by rw [aV,hsz];omega) (λu hu=>?_),?_,awx hb0 aU _⟩
 ·rw [eX] at hu
  cases hx:L[j]? with
  | none=>rw [hx] at hu;cases hu
  | some x =>
   rw [hx] at hu
   cases hu
   (try unfold ay at *);rw [show (⟨b,off,none⟩:Addr).add j=⟨b,off+j,none⟩ by unfold Addr.add;by_cases h0:j=0 <;> simp [h0]]
   exact h6 j x hx
 ·obtain⟨y,-,rfl⟩:=jM.1 hu
  rfl
 have e:((Array.replicate L.length (Value.int .i64 0)).toList.take 0++L.map (Value.int .i64)++(Array.replicate L.length (Value.int .i64 0)).toList.drop (0+(L.map (Value.int .i64)).length))=L.map (Value.int .i64):=by simp
 rw [e];exact setRow_heap _ w.heap.size _ _ 3 (0,0) hk0
theorem anF (v:Value) (L:List Int) (nn:Nat) (w:World) (hv:aN w v L) (hz:L.length<=1000000) :
  Calls prog 209 #[v, ah nn] w λe w'=>e = .returned (.slice (some ⟨w.heap.size,0,none⟩) L.length L.length)/\aC w' w.heap.size 3 ((D.cuts nn L).map (Value.int .i64)).toArray/\ak w w':=by
 have hmk:=alN L.length hz w;obtain⟨W2,q,hcp,hk2,hb2⟩:=ash v L w hv hz;have oh:=bx hk2;have HB2:=bx hb2;obtain⟨ao,cap,rfl⟩:=hv.slice;clear hv hk2 hb2
 go_in
 go_wp2_with fail;clear hmk hcp
 go_loopw [16] (λi wr=>∃ k:Nat,k<=L.length/\i = ah k/\Box (aC wr w.heap.size 3 (vY nn L k))/\Box (ak w wr)) (λi _=>L.length-(intOf i).toNat)
 ·exact⟨0,nK _,rfl,⟨by rw [aju];exact oh.o⟩,HB2⟩
 obtain⟨k,hk,rfl,hbk,hb⟩:=hrel;clear oh
 by_cases hlt:k<L.length
 ·obtain⟨c,hc⟩:=bV L k hlt;have hcc:=(hbk.o.cell k).trans (ajj hc);have hfz:=hbk.o.frozen k;have HC:=bx hc;clear hc
  rcases sZ c 0 with h0 | h0
  ·have HN:=bx (show (vY nn L k).setIfInBounds k (ah (-1))=vY nn L (k+1) by rw [<- Vb HC.o];unfold D.cut;rw [aG (.inl h0)])
   go_wp2
   go_roundw
   ·exact⟨k+1,hlt,by go_num,⟨by rw [<- HN.o];exact hbk.o.bJ k _⟩,⟨hb.o.setCell aU _⟩⟩
   simp [intOf];omega
  rcases sZ c nn with h1 | h1
  ·have HN:=bx (anv (n:=nn) HC.o (by unfold D.cut;rw [aF (by omega)]))
   go_wp2
   go_roundw
   ·exact⟨k+1,hlt,by go_num,⟨by rw [<- HN.o];exact hbk.o⟩,hb⟩
   simp [intOf];omega
  have HN:=bx (show (vY nn L k).setIfInBounds k (ah (-1))=vY nn L (k+1) by rw [<- Vb HC.o];unfold D.cut;rw [aG (.inr h1)])
  go_wp2
  go_roundw
  ·exact⟨k+1,hlt,by go_num,⟨by rw [<- HN.o];exact hbk.o.bJ k _⟩,⟨hb.o.setCell aU _⟩⟩
  simp [intOf];omega
 have HI:=bx (show aC wr w.heap.size 3 ((D.cuts nn L).map (Value.int .i64)).toArray by
  have h1:k=L.length:=by omega
  have h2:=hbk.o
  rwa [h1,axF] at h2)
 go_wp2
 go_ret
 exact⟨rfl,HI.o,hb.o⟩
section
open Go.Shelf
def xI (R:List D.Rule) (M:D.gJ) (n:Int):Bool:=uN n R&&pO n M&&M.2.all (inB R.length)
def awg (R:List D.Rule) (M:D.gJ) (n:Int) (L:List Int) (w:World) (e:Ending) (w':World):Prop :=
 ak w w'/\((xI R M n=true/\∃ v,e = .returned (.tuple #[v, ah 0])/\aN w' v (Af R M n.toNat L))\/(xI R M n=false/\e = .returned (.tuple #[aj, ah 110])))
theorem abd (w:World) (c0 c1 c2 c3 c4:Array Value) (T0 T1 T2 T3 T4:TypeId) (W:World) (hW:W=((((w.alloc (.cells c0 T0)).alloc (.cells c1 T1)).alloc (.cells c2 T2)).alloc (.cells c3 T3)).alloc (.cells c4 T4)) :
  aC W w.heap.size T0 c0/\aC W (w.heap.size+1) T1 c1/\aC W (w.heap.size+1+1) T2 c2/\aC W (w.heap.size+1+1+1) T3 c3/\aC W (w.heap.size+1+1+1+1) T4 c4/\ak w W/\W.heap.size=w.heap.size+5:=by
 obtain⟨h0,h1,h2,h3,hb,hs⟩:=four w c0 c1 c2 c3 T0 T1 T2 T3;have hn:=aC.new ((((w.alloc (.cells c0 T0)).alloc (.cells c1 T1)).alloc (.cells c2 T2)).alloc (.cells c3 T3)) T4 c4;rw [hs] at hn;subst hW;exact⟨h0.alloc _,h1.alloc _,h2.alloc _,h3.alloc _,hn,hb.alloc hb.size _,by simp⟩
theorem ZM {n:Int} {M:D.gJ} (h:pO n M=true):∀ x∈M.2,0<=x/\x<1099511627776:=by
 intro x hx;obtain⟨i,hi,e⟩:=List.getElem_of_mem hx;obtain⟨h1,h2,h3,h4,h5⟩:=LD h;obtain⟨nn,rfl⟩:=oJ (show 0<=n by omega);obtain⟨r,-,-,-,f,k1,k2,k3⟩:=VB h (a:=i) (by omega);rw [dW hi,e] at k1
 cases k1;exact⟨k2,k3⟩
theorem akF (A:Nat->Addr) (B:Nat) (rv:Value) (R:List D.Rule) (mv:Value) (M:D.gJ) (n:Int) (lv:Value) (L:List Int) (w:World) (hR:iD w rv R) (hf:∀ x∈R,uS x) (zV:R.length<=16777216) (hM:tZ w mv M) (zy:Dk M) (hL:aN w lv L) (_hLz:L.length<=900) (hD:Ed A B w) (hE:Eg A B w) (hB:B<=w.heap.size) (hno:xI R M n=false) :
  Calls prog 124 #[rv,mv, ah n,lv] w λe w'=>e = .returned (.tuple #[aj, ah 110])/\ak w w':=by
 have HR:=bx hR;have HM:=bx hM;have HL:=bx hL;have HD:=bx hD;have HE:=bx hE;have HF:=bx hf;have Kw:=bx zy;obtain⟨ro,rc,rfl⟩:=hR.slice;obtain⟨NV,FV,rfl,hra,hia⟩:=hM;obtain⟨no,nc,rfl⟩:=hra.slice;obtain⟨fo,fc,rfl⟩:=hia.slice;obtain⟨lo,lc,rfl⟩:=hL.slice;have oq:=bx hia;obtain⟨W,hW⟩:∃ W,W=((((w.alloc (.cells #[.slice no M.1.length nc, .slice fo M.2.length fc] 29)).alloc (.cells #[.slice no M.1.length nc, .slice fo M.2.length fc, .slice ro R.length rc, aj] 291)).alloc (.cells #[aA (w.heap.size+1)] 289)).alloc (.cells #[ah 0] 3)).alloc (.cells #[.slice (some ⟨w.heap.size+1+1+1,0,none⟩) 1 1] 22):=⟨_,rfl⟩
 obtain⟨h0,h1,h2,h3,h4,hbW,hszW⟩:=abd w _ _ _ _ _ _ _ _ _ _ W hW;have HW:=bx hW;have H0:=bx h0;have H1:=bx h1;have H2:=bx h2;have H3:=bx h3;have H4:=bx h4;have bM:=bx hbW;have dU:=bx hszW;have HRR:=bx (afP _ R n W hf (hR.below hbW) zV);have c0:ay W w.heap.size 0=some (.slice no M.1.length nc):=(h0.cell 0).trans rfl;have c1:ay W w.heap.size 1=some (.slice fo M.2.length fc):=(h0.cell 1).trans rfl;clear hR hra hia hL hD hE hW h0 h1 h2 h3 h4 hbW hszW hf zy;have pJ:=bx hno;clear hno
 go_in
 go_wp2_with fail;refine uz 0 rfl ?_;go_wp2_with fail;rw [<- HW.o];refine aT HRR.o λw1 hb1=>?_
 have HB1:=aJ bM hb1;have k0:=H0.o.below hb1 H0.o.lt;have K0:=bx k0;have K1:=H1.ub hb1;have K2:=H2.ub hb1;have d0:w1.cell? ⟨w.heap.size,0,none⟩=some (.slice no M.1.length nc):=(k0.cell 0).trans rfl;have d1:w1.cell? ⟨w.heap.size,1,none⟩=some (.slice fo M.2.length fc):=(k0.cell 1).trans rfl;clear hb1 c0 c1 k0
 cases hr:uN n R with
 | false =>
  have hg:=(HE.o.below (HB1.o.mono hB)).cell;have HT:=bx (ZK A B w1 (HE.o.below (HB1.o.mono hB)));unfold Ox oZ at HT;clear hr;go_wp2_with fail
  go_step3
  refine⟨rfl,?_⟩;go_wp2_with fail;refine aP HT.o ?_;go_wp2_with fail;rw [Exit.noGoto_ret];go_ret2;exact⟨rfl,HB1.o⟩
 | true =>
  have DX:=bx hr;clear hr;have MP:=bx (Zn _ M n w1 (HM.o.below HB1.o) Kw.o);go_wp2_with fail;refine aT MP.o λw2 hb2=>?_
  have HB2:=aJ HB1 hb2;have k1:=K1.o.below hb2 K1.o.lt;have k2:=K2.o.below hb2 K2.o.lt;have e1:w2.cell? ⟨w.heap.size+1,1,none⟩=some (.slice fo M.2.length fc):=(k1.cell 1).trans rfl;have e2:w2.cell? ⟨w.heap.size+1+1,0,none⟩=some (aA (w.heap.size+1)):=(k2.cell 0).trans rfl;have l1:=k1.lt;clear d0 d1 hb2 k1 k2
  cases hm:pO n M with
  | false =>
   have hg:=(HE.o.below (HB2.o.mono hB)).cell;have HT:=bx (ZK A B w2 (HE.o.below (HB2.o.mono hB)));unfold Ox oZ at HT;clear hm;go_wp2_with fail
   go_step3
   refine⟨rfl,?_⟩;go_wp2_with fail;refine aP HT.o ?_;go_wp2_with fail;rw [Exit.noGoto_ret];go_ret2;exact⟨rfl,HB2.o⟩
  | true =>
   have YK:=bx (ah3 (.slice fo M.2.length fc) M.2 (ZM hm) ro R.length rc (Zc DX.o).2.2.1 w2 (oq.o.below HB2.o) (by have:=(LD hm);omega));have FZ:=bx (show M.2.all (inB R.length)=false by
    have:=pJ.o;unfold xI at this;rw [DX.o,hm] at this
    simpa using this)
   clear hm;go_wp2_with fail;refine aT YK.o λw3 hb3=>?_
   rw [FZ.o];have HB3:=aJ HB2 hb3;clear hb3;have hg:=(HE.o.below (HB3.o.mono hB)).cell;have HT:=bx (ZK A B w3 (HE.o.below (HB3.o.mono hB)));unfold Ox oZ at HT;go_wp2_with fail
   go_step3
   refine⟨rfl,?_⟩;go_wp2_with fail;refine aP HT.o ?_;go_wp2_with fail;rw [Exit.noGoto_ret];go_ret2;exact⟨rfl,HB3.o⟩
theorem Turns.narrow {own own':Nat->Prop} {A B:World} (h:Turns own A B) (hm:∀ k,own k->k<A.heap.size->own' k):Turns own' A B:=⟨h.os,h.tape,h.output,h.size,λi hi ho=>h.block i hi (λe=>ho (hm i e hi))⟩
theorem alY {R:List D.Rule} {M:D.gJ} {n:Int} (h:xI R M n=true):uN n R=true/\pO n M=true/\M.2.all (inB R.length)=true:=by
 unfold xI at h;simp only [dD] at h;exact⟨h.1.1,h.1.2,h.2⟩
theorem adQ (A:Nat->Addr) (B:Nat) (rv:Value) (R:List D.Rule) (mv:Value) (M:D.gJ) (n:Int) (lv:Value) (L:List Int) (w:World) (hR:iD w rv R) (hf:∀ x∈R,uS x) (zV:R.length<=16777216) (hM:tZ w mv M) (zy:Dk M) (hL:aN w lv L) (hLz:L.length<=900) (hD:Ed A B w) (hE:Eg A B w) (hB:B<=w.heap.size) (hyes:xI R M n=true) :
  Calls prog 124 #[rv,mv, ah n,lv] w λe w'=>(∃ v,e = .returned (.tuple #[v, ah 0])/\aN w' v (Af R M n.toNat L)/\∀ g,v.ownBlock=some g->w.heap.size<=g)/\ak w w':=by
 obtain⟨hrb,hmr,hai⟩:=alY hyes;obtain⟨n1,n2,afN,-⟩:=Zc hrb;obtain⟨nn,rfl⟩:=oJ (show 0<=n by omega);have HR:=bx hR;have HM:=bx hM;have HL:=bx hL;have HD:=bx hD;have HE:=bx hE;have HF:=bx hf;have Kw:=bx zy;obtain⟨ro,rc,rfl⟩:=hR.slice;obtain⟨NV,FV,rfl,hra,hia⟩:=hM;obtain⟨no,nc,rfl⟩:=hra.slice;obtain⟨fo,fc,rfl⟩:=hia.slice;obtain⟨lo,lc,rfl⟩:=hL.slice;have oq:=bx hia;obtain⟨W,hW⟩:∃ W,W=((((w.alloc (.cells #[.slice no M.1.length nc, .slice fo M.2.length fc] 29)).alloc (.cells #[.slice no M.1.length nc, .slice fo M.2.length fc, .slice ro R.length rc, aj] 291)).alloc (.cells #[aA (w.heap.size+1)] 289)).alloc (.cells #[ah 0] 3)).alloc (.cells #[.slice (some ⟨w.heap.size+1+1+1,0,none⟩) 1 1] 22):=⟨_,rfl⟩
 obtain⟨h0,h1,h2,h3,h4,hbW,hszW⟩:=abd w _ _ _ _ _ _ _ _ _ _ W hW;have HW:=bx hW;have H0:=bx h0;have H1:=bx h1;have H2:=bx h2;have H3:=bx h3;have H4:=bx h4;have bM:=bx hbW;have dU:=bx hszW;have HRR:=bx (afP _ R (nn:Int) W hf (hR.below hbW) zV);have c0:ay W w.heap.size 0=some (.slice no M.1.length nc):=(h0.cell 0).trans rfl;have c1:ay W w.heap.size 1=some (.slice fo M.2.length fc):=(h0.cell 1).trans rfl;clear hR hra hia hL hD hE hW h0 h1 h2 h3 h4 hbW hszW hf zy;have DX:=bx hrb;have GV:=bx hmr;have alH:=bx hai;clear hyes hrb hmr hai;refine(callsIn_wide (n:=9)).1 (callsIn_of_wp_marks func124 rfl trivial (wpIn_wide.2 ?_));simp only [ntmps124,qH,dY,iG,Nat.reduceAdd,Nat.reduceSub,rE,qW,ou,qQ,iJ,jd];go_wp2_with fail;refine uz 0 rfl ?_;go_wp2_with fail;rw [<- HW.o];refine aT HRR.o λw1 hb1=>?_
 rw [DX.o];have HB1:=aJ bM hb1;have k0:=H0.o.below hb1 H0.o.lt;have K0:=bx k0;have K1:=H1.ub hb1;have K2:=H2.ub hb1;have K3:=H3.ub hb1;have K4:=H4.ub hb1;have d0:w1.cell? ⟨w.heap.size,0,none⟩=some (.slice no M.1.length nc):=(k0.cell 0).trans rfl;have d1:w1.cell? ⟨w.heap.size,1,none⟩=some (.slice fo M.2.length fc):=(k0.cell 1).trans rfl;have MP:=bx (Zn _ M nn w1 (HM.o.below HB1.o) Kw.o);clear hb1 c0 c1 k0;go_wp2_with fail;refine aT MP.o λw2 hb2=>?_
 rw [GV.o];have HB2:=aJ HB1 hb2;have k1:=K1.o.below hb2 K1.o.lt;have k2:=K2.o.below hb2 K2.o.lt;have e1:w2.cell? ⟨w.heap.size+1,1,none⟩=some (.slice fo M.2.length fc):=(k1.cell 1).trans rfl;have e2:w2.cell? ⟨w.heap.size+1+1,0,none⟩=some (aA (w.heap.size+1)):=(k2.cell 0).trans rfl;have l1:=k1.lt;have J0:=K0.ub hb2;have J1:=bx k1;have J2:=bx k2;have J3:=K3.ub hb2;have J4:=K4.ub hb2;have YK:=bx (ah3 (.slice fo M.2.length fc) M.2 (ZM GV.o) ro R.length rc afN w2 (oq.o.below HB2.o) (by have:=(LD GV.o);omega));clear d0 d1 hb2 k1 k2;go_wp2_with fail;refine aT YK.o λw3 hb3=>?_
 rw [alH.o];have HB3:=aJ HB2 hb3;have I0:=J0.ub hb3;have I1:=J1.ub hb3;have I2:=J2.ub hb3;have I3:=J3.ub hb3;have I4:=J4.ub hb3;have f2:w3.cell? ⟨w.heap.size+1+1,0,none⟩=some (aA (w.heap.size+1)):=(I2.o.cell 0).trans rfl;have l3:=I1.o.lt;have zZ:=bx (λ(W:World) (h:ak w3 W)=>anF (.slice lo L.length lc) L nn W ((HL.o.below HB3.o).below h) (by omega));clear hb3 e1 e2 l1
 go_upto_region 5 with(fail)
 go_cut [] from 40 to 45 (λwx=>∃ kg:Nat,w3.heap.size<=kg/\Box (aC wx kg 3 ((D.cuts nn L).map (Value.int .i64)).toArray)/\Box (aC wx (w.heap.size+1) 291 #[.slice no M.1.length nc, .slice fo M.2.length fc, .slice ro R.length rc, .slice (some ⟨kg,0,none⟩) L.length L.length])/\Box (Turns (λk=>k=w.heap.size+1) w3 wx))
 case first =>
  have HDR:=bx (show ak w3 w3.drew from jg w3 1);have gK:=bx (show w3.drew.cell? ⟨w.heap.size+1+1,0,none⟩=some (aA (w.heap.size+1)) from(HDR.o.cell (p:=⟨w.heap.size+1+1,0,none⟩) I2.o.lt).trans f2);refine jl 4 (λW=>ay W (w.heap.size+1+1) 0=some (aA (w.heap.size+1))) (by kernel_rfl) ?_;have Dh:=bx (zZ.o _ HDR.o);generalize w3.drew=WR at HDR gK Dh ⊢;refine jB [0,1,2] ?_
  iterate 3 (refine jA ?_ rfl gK.o ?_ ?_;rotate_left;·intro w q1;go_simp;try with_reducible rfl)
  refine jr ?_;refine kP 3 rfl λKK au=>?_
  go_simp;go_wp2_with (go_at_call 209;refine Dh.o.mono ?_;rintro e w4 ⟨rfl,hk4,hb4⟩)
  have HB4:=bx (show ak w3 w4 from bt HDR.o hb4);have BJ:=bx hk4;have g4:=(I1.o.below HB4.o I1.o.lt).frozen 3;have x4:=((I1.o.below HB4.o I1.o.lt).cell 3).trans (show _=some (Value.slice none 0 0) from rfl);have l4:=(I1.o.below HB4.o I1.o.lt).lt;have G5:=bx HDR.o.size;clear hb4 hk4;refine au.out _ _ (λ_=>(HB4.o.cell (p:=⟨w.heap.size+1+1,0,none⟩) I2.o.lt).trans f2) ?_;clear au KK;refine kP 4 rfl λKK au=>?_
  go_simp;refine au.out _ _ (λh=>by cases h) ?_;clear au KK;refine kP 5 rfl λKK au=>?_
  go_simp;refine au.out _ _ (λh=>by cases h) ?_;clear au KK;refine kP 6 rfl λKK au=>?_
  go_simp;refine au.out _ _ (λh=>by cases h) ?_;clear au KK;refine kD ?_ _;go_wp2_with fail
  go_meet
  have hT:=Turns.setCell (own:=λk=>k=w.heap.size+1) w4 (p:=⟨w.heap.size+1,3,none⟩) rfl (.slice (some ⟨WR.heap.size,0,none⟩) L.length L.length);exact⟨WR.heap.size,G5.o,⟨hT.blk BJ.o (by have:=I1.o.lt;have:=G5.o;omega)⟩,⟨(I1.o.below HB4.o I1.o.lt).bJ 3 _⟩,⟨(Turns.of_below HB4.o).trans hT⟩⟩
 case rest =>
  obtain⟨kg,hkg,hkb,hcb,hT⟩:=hcut;have C0:=bx (hT.o.blk I0.o (by omega));have C2:=bx (hT.o.blk I2.o (by omega));have C3:=bx (hT.o.blk I3.o (by omega));have C4:=bx (hT.o.blk I4.o (by omega));have KH:=bx (show ak w wc from HB3.o.trans (hT.o.below HB3.o.size (λk hk=>by omega)));have d0:wc.cell? ⟨w.heap.size,0,none⟩=some (.slice no M.1.length nc):=(C0.o.cell 0).trans rfl;have d1:wc.cell? ⟨w.heap.size,1,none⟩=some (.slice fo M.2.length fc):=(C0.o.cell 1).trans rfl;have AL:=bx (akT A B _ (.slice lo L.length lc) M nn L wc (HM.o.below KH.o) Kw.o (HL.o.below KH.o) (by omega) (HD.o.below (KH.o.mono hB)) (bP hB KH.o.size));have arR:=C4.o.lt;have aq6:=hkb.o.lt;clear f2 l3 hT;go_wp2_with fail;refine AL.o.mono ?_;rintro e w5 ⟨hb5,gv,rfl,hown⟩;rw [show goCode nn M=0 by unfold goCode;rw [GV.o];rfl];rw [GV.o,aG rfl,aG rfl,mG] at hown;have hlt:=hown.lt;obtain⟨sg,sc,rfl⟩:=ownsRow_succ hown;have HGW:=bx hown;have at6:=hlt sg rfl;have D0:=C0.ub hb5;have D1:=hcb.ub hb5;have D2:=C2.ub hb5;have D3:=C3.ub hb5;have D4:=C4.ub hb5;have DK:=hkb.ub hb5;have aX:=bx (show ak w w5 from bt KH.o hb5);have h5s:=hb5.size;have f2:w5.cell? ⟨w.heap.size+1+1,0,none⟩=some (aA (w.heap.size+1)):=(D2.o.cell 0).trans rfl;clear d0 d1 hb5 hown hlt;go_wp2_with (go_at_call 211;refine aP (aoo _ _ _ ⟨_,_,_,rfl⟩) ?_)
  clear f2;obtain⟨wL,xQ⟩:∃ wL,wL=(w5.alloc (.cells #[aA (w.heap.size+1)] 289)).alloc (.cells #[.slice (some ⟨sg,0,none⟩) (L.length+1) sc] 22):=⟨_,rfl⟩
  rw [<- xQ];have rU:wL.heap.size=w5.heap.size+2:=by rw [xQ];simp
  have hbL:ak w5 wL:=by rw [xQ];exact(aZ.alloc aU _).alloc (by simp) _
  have hxb:aC wL w5.heap.size 289 #[aA (w.heap.size+1)]:=by rw [xQ];exact(aC.new w5 _ _).alloc _
  have hsb:aC wL (w5.heap.size+1) 22 #[.slice (some ⟨sg,0,none⟩) (L.length+1) sc]:=by
   rw [xQ];have:=aC.new (w5.alloc (.cells #[aA (w.heap.size+1)] 289)) 22 #[.slice (some ⟨sg,0,none⟩) (L.length+1) sc]
   simpa using this
  obtain⟨SL,tK⟩:∃ SL,SL=(sW nn M L).map λx:Nat=>(x:Int):=⟨_,rfl⟩
  have hSl:SL.length=L.length+1:=by rw [tK];unfold sW;simp
  obtain⟨m1,m2,m3,m4,m5⟩:=LD GV.o;obtain⟨fg,EY,ayj,kf1,kf2,kf3,kf4,kf5⟩:=(oq.o.below (bt aX.o hbL)).get (by intro e;rw [e] at m5;simp at m5;omega);obtain⟨rfl,rfl⟩:=dQ kf1;have hfg:fg<w.heap.size:=by
   obtain⟨fg',ay8,ayL,q1,q2,q3,q4,q5⟩:=oq.o.get (by intro e;rw [e] at m5;simp at m5;omega);injection q1 with h1 h2 h3;injection h1 with h1;injection h1 with h1 h4 h5;rw [h1];exact q4
  have YQ:=own_below HGW.o hbL;have afh:LP (w.heap.size+1) (w5.heap.size+1) w5.heap.size sg 0 sc fg EY fc L.length L.length (some ⟨kg,0,none⟩) (.slice no M.1.length nc) (.slice ro R.length rc) SL M.2 wL:=by
   refine⟨D1.o.below hbL D1.o.lt,by rw [hSl];exact hsb,hxb,λi v hi=>?_,kf5⟩;have hc:=YQ.cells (g:=sg) rfl i (ah v) (by
    rw [tK] at hi;rw [eX] at hi ⊢
    cases hgi:(sW nn M L)[i]? with
    | none=>rw [hgi] at hi;cases hi
    | some y=>rw [hgi] at hi;cases hi;rfl)
   (try unfold ay at *);rw [show (⟨sg,0+i,none⟩:Addr)=(⟨sg,0,none⟩:Addr).add i by unfold Addr.add;by_cases h0:i=0 <;> simp [h0]]
   exact hc
  have ai9:L.length+1<=sc/\sc<=9223372036854775807:=by
   rcases YQ.2 with⟨h1,h2⟩ | ⟨g',cap',cur',h1,h2,h3,h4,h5,h6⟩
   ·cases h1
   injection h1 with h7 h8 h9;subst h9;unfold maxLen at h5;exact⟨h4,by omega⟩
  have O8:∀ x∈SL,0<=x/\x<M.2.length:=by
   intro x hx;rw [tK] at hx;obtain⟨y,hy,rfl⟩:=jM.1 hx;unfold sW at hy;obtain⟨i,-,rfl⟩:=jM.1 hy;have:=adp GV.o L i;omega
  have aec:∀ x,x<=L.length->kZ SL M.2 x=Un M (stM nn M L x):=by
   intro x hx;unfold kZ Un;have:SL[x]?=some ((stM nn M L x:Nat):Int):=by
    rw [tK];unfold sW;rw [eX,eX,yj (by omega)]
    rfl
   rw [show SL.getD x 0=((stM nn M L x:Nat):Int) by rw [fO,this];rfl,mG]
  have uZ:=bx aec;have L2:=D2.ub hbL;have L3:=D3.ub hbL;have L4:=D4.ub hbL;have LK:=DK.ub hbL;have cu:=bx (show ak w wL from bt aX.o hbL);have hr0:wL.ownsRow (w.heap.size+1+1+1) 3 1 (.slice (some ⟨w.heap.size+1+1+1,0,none⟩) 1 1) 1 [ah 0] :=
   ⟨rfl, .inr ⟨w.heap.size+1+1+1,1,#[ah 0],rfl,bK _,L3.o,bK _,by unfold maxLen;omega,rfl,rfl⟩⟩
  have afo:w3.heap.size<=kg/\kg<wL.heap.size:=⟨hkg,LK.o.lt⟩
  have hw3:=HB3.o.size;have hsz3:=dU.o;have hi4:=I4.o.lt;have hwc:=KH.o.size;have KB:=bx (show ∀ g,g<w.heap.size\/g=w.heap.size+1\/w3.heap.size<=g->g≠w.heap.size+1+1+1/\g≠w.heap.size+1+1+1+1 from λg h=>by omega);have awL:wc.heap.size<=w5.heap.size:=h5s;have alo:w3.heap.size<=wc.heap.size:=by omega
  have au:∀ g,g<wL.heap.size->(g<w.heap.size\/g=w.heap.size+1\/w3.heap.size<=g)->g<wL.heap.size/\g≠w.heap.size+1+1+1/\g≠w.heap.size+1+1+1+1:=λg h1 h2=>⟨h1,KB.o g h2⟩
  have HK:=bx (show (w.heap.size+1<wL.heap.size/\w.heap.size+1≠w.heap.size+1+1+1/\w.heap.size+1≠w.heap.size+1+1+1+1)/\(w5.heap.size+1<wL.heap.size/\w5.heap.size+1≠w.heap.size+1+1+1/\w5.heap.size+1≠w.heap.size+1+1+1+1)/\(w5.heap.size<wL.heap.size/\w5.heap.size≠w.heap.size+1+1+1/\w5.heap.size≠w.heap.size+1+1+1+1)/\(sg<wL.heap.size/\sg≠w.heap.size+1+1+1/\sg≠w.heap.size+1+1+1+1)/\(fg<wL.heap.size/\fg≠w.heap.size+1+1+1/\fg≠w.heap.size+1+1+1+1) from
   ⟨au _ (by omega) (by omega),au _ (by omega) (by omega),au _ (by omega) (by omega),au _ (by omega) (by omega),au _ (by omega) (by omega)⟩)
  have aiA:=bx afh;have HR0:=bx hr0;have G6:=bx afo;have fQ:=bx (ZM GV.o);have avw:=bx O8;have DY:=bx (HR.o.below cu.o);have hLb:w.heap.size+1+1+1+1+1<=wL.heap.size:=by omega
  have OX:=bx m5;have HSL:=bx tK;have HSl:=bx hSl;unfold maxLen at kf3;clear m5 tK hSl O8 m1 m2 m3 m4 xQ hbL hxb hsb YQ afh hr0 afo au aec hwc awL alo hsz3 hi4 hw3 at6 h5s arR aq6 kf1 kf5 kf4 hfg hkg hkb hcb rU;refine(wpIn_wide (n:=9)).1 (Pn (α:=Nat) (gf:=277) (lb:=#[aA (w5.heap.size+1), aA (w5.heap.size)]) rfl (enters_of func277 (by kernel_rfl) rfl)
   (encs:=λx:Nat=>#[ah x, ah (kZ SL M.2 x)]) (own:=λ_=>False) (keep:=λk=>k<wL.heap.size/\k≠w.heap.size+1+1+1/\k≠w.heap.size+1+1+1+1) (ok:=λpre x=>x=pre.length+1/\x<L.length) (S:=λxs _=>xs=yT L.length (L.length+1))
   (λk hk=>by rcases hk with h | h;exact h.elim;exact h.1)
   (λW1 ht=>as5 7 _ (w.heap.size+1) (w5.heap.size+1) w5.heap.size sg 0 sc fg EY fc L.length L.length (some ⟨kg,0,none⟩) (.slice no M.1.length nc) (.slice ro R.length rc) SL M.2 HSl.o ⟨by rw [HSl.o];exact ai9.1,ai9.2⟩ ⟨kf2,by omega⟩ (by omega) avw.o HK.o _ W1
    (aiA.o.same (K:=λk=>k<wL.heap.size) ⟨HK.o.1.1,HK.o.2.1.1,HK.o.2.2.1.1,HK.o.2.2.2.1.1,HK.o.2.2.2.2.1⟩ (λk hk=>ht.block k hk (λh=>h))))
   (λ_=>rfl)
   (λpre W=>(∃ v,aC W (w.heap.size+1+1+1+1) 22 #[v]/\W.ownsRow (w.heap.size+1+1+1) 3 1 v ((pre.filter (cutAt R M nn L)).length+1) (EZ (0::pre.filter (cutAt R M nn L)))/\∀ g,v.ownBlock=some g->g=w.heap.size+1+1+1\/wL.heap.size+2<=g)/\Turns (λk=>k=w.heap.size+1+1+1\/k=w.heap.size+1+1+1+1) wL W)
   (λ_ _ _=>False) ?hI (λ_ _ _ _ h _=>h) ⟨⟨_,L4.o,HR0.o,λg hg=>by cases hg;exact .inl rfl⟩,Turns.refl _ _⟩
   (λx a1 _=>a1={ tmps:=#[Value.slice ro R.length rc,Value.agg #[Value.slice no M.fst.length nc,Value.slice (some ⟨fg,EY,none⟩) M.snd.length fc],Value.int IntKind.i64 (nn:Int),Value.slice lo L.length lc,undef,Value.pointer (some ⟨w.heap.size,0,none⟩),undef,undef,Value.slice none 0 0,Value.int IntKind.i64 0,Value.pointer (some ⟨w.heap.size+1+1,0,none⟩),Value.pointer (some ⟨w.heap.size+1+1+1+1,0,none⟩),Value.slice (some ⟨sg,0,none⟩) (L.length+1) sc, ah (x:Int), ah (kZ SL M.2 x),Value.agg #[Value.slice no M.fst.length nc,Value.slice (some ⟨fg,EY,none⟩) M.snd.length fc],Value.slice ro R.length rc,Value.agg #[Value.slice no M.fst.length nc,Value.slice (some ⟨fg,EY,none⟩) M.snd.length fc,Value.slice ro R.length rc,Value.slice none 0 0],Value.pointer (some ⟨w.heap.size+1,0,none⟩),Value.slice (some ⟨w.heap.size+1+1+1,0,none⟩) 1 1,Value.slice ro R.length rc,Value.int IntKind.i64 (nn:Int),Value.bool true,Value.bool false,Value.bool false,Value.agg #[Value.slice no M.fst.length nc,Value.slice (some ⟨fg,EY,none⟩) M.snd.length fc],Value.int IntKind.i64 (nn:Int),Value.bool true,Value.bool false,Value.bool false,Value.bool false,Value.pointer (some ⟨w.heap.size+1,0,none⟩),Value.pointer (some ⟨w.heap.size+1,0,none⟩),Value.pointer (some ⟨w.heap.size+1,0,none⟩),Value.pointer (some ⟨w.heap.size+1,1,none⟩),Value.slice (some ⟨fg,EY,none⟩) M.snd.length fc,Value.slice ro R.length rc,Value.bool true,Value.bool false,Value.bool false,u40,u41,u42,u43,u44,u45,Value.tuple #[Value.slice (some ⟨sg,0,none⟩) (L.length+1) sc,Value.int IntKind.i64 0],Value.agg #[Value.slice no M.fst.length nc,Value.slice (some ⟨fg,EY,none⟩) M.snd.length fc],Value.int IntKind.i64 (nn:Int),Value.slice lo L.length lc,Value.tuple #[Value.slice (some ⟨sg,0,none⟩) (L.length+1) sc,Value.int IntKind.i64 0],Value.slice (some ⟨sg,0,none⟩) (L.length+1) sc,Value.int IntKind.i64 0,Value.pointer (some ⟨w.heap.size+1,0,none⟩),Value.slice (some ⟨sg,0,none⟩) (L.length+1) sc,Value.func (Fn.func 277) #[] #[Value.pointer (some ⟨w5.heap.size+1,0,none⟩),Value.pointer (some ⟨w5.heap.size,0,none⟩)], ah (x:Int), ah (kZ SL M.2 x),undef,undef,undef,undef,undef,undef,undef,undef,undef,undef,undef,undef,undef,undef,undef,undef,undef,undef,undef],defers:=[] })
   (λ_ _ _ _ h _=>h) ?assign ?body ?done (λ_ _ _ _ h _=>h.elim) (λ_ _ _ h _=>h))
  case hI =>
   rintro pre W W' ⟨⟨v,h1,h2,h3⟩,h4⟩ ht;have h5:Turns (λk=>k=w.heap.size+1+1+1\/k=w.heap.size+1+1+1+1\/k=wL.heap.size+1) wL W':=(h4.mono λk hk=>by
    rcases hk with h | h
    ·exact .inl h
    ·exact .inr (.inl h)).trans (ht.mono λk hk=>by
    rcases hk with h | h
    ·exact h.elim
    exact .inr (.inr h))
   exact⟨⟨v,ht.blk h1 (by rintro(h | h);exact h;omega),ht.row h2 (λk hk=>by have:=h3 k hk;rintro(h | h);exact h;omega),h3⟩,h5.narrow λk hk hl=>by
    rcases hk with h | h | h
    ·exact .inl h
    ·exact .inr h
    omega⟩
  case assign =>
   intro x W K _ hK
   gi_wp2
   exact hK _ _ (Turns.refl _ _) rfl
  case body =>
   rintro pre x a1 W hW ⟨⟨v,h1,h2,h3⟩,h4⟩ ⟨hx,hxl⟩ rfl;obtain⟨f0,f1⟩:0<=kZ SL M.2 x/\kZ SL M.2 x<1099511627776:=by
    rw [uZ.o x (by omega)];unfold Un
    cases hq:M.2[stM nn M L x]? with
    | none=>rw [fO,hq];simp
    | some y=>rw [fO,hq];exact fQ.o y (dB hq)
   obtain⟨fN,Sl⟩:=oJ f0;have hfl:fN<1099511627776:=by omega
   have Hr:=bx (show cutAt R M nn L x=G.JK R (D.cuts nn L) fN (x:Int) by
    unfold cutAt;rw [<- uZ.o x (by omega),Sl,mG])
   rw [Sl];have hkk:∀ k,k<wL.heap.size/\k≠w.heap.size+1+1+1/\k≠w.heap.size+1+1+1+1->W.heap[k]?=wL.heap[k]?:=λk hk=>h4.block k hk.1 (λe=>by rcases e with e | e;exact hk.2.1 e;exact hk.2.2 e)
   have hkl:∀ k t cs,k<wL.heap.size/\k≠w.heap.size+1+1+1/\k≠w.heap.size+1+1+1+1->aC wL k t cs->aC W k t cs:=λk t cs hk hb=>(hkk k hk).trans hb
   have h2b:w.heap.size+1+1+1<=wL.heap.size:=by omega
   have hBW2:ak w W:=cu.o.trans (h4.below cu.o.size (λk hk=>by omega));have HIC:=bx ((callsIn_wide (n:=9-1-1-1)).2 (apL (w.heap.size+1) (.slice no M.1.length nc) (.slice (some ⟨fg,EY,none⟩) M.2.length fc) (.slice ro R.length rc) (.slice (some ⟨kg,0,none⟩) L.length L.length) R (D.cuts nn L) (x:Int) fN W
    (hkl _ _ _ HK.o.1 aiA.o.c) (HR.o.below hBW2)
    (by
     have hb:=hkl kg _ _ ⟨G6.o.2,KB.o kg (.inr (.inr G6.o.1))⟩ LK.o;have hl:(D.cuts nn L).length=L.length:=by unfold D.cuts;rw [aV]
     have:=am7 hb (by rw [hl];omega)
     rwa [hl] at this) HF.o (by unfold D.cuts;rw [aV];exact hLz) hfl afN))
   have c2:ay W (w.heap.size+1+1) 0=some (aA (w.heap.size+1)):=((hkl (w.heap.size+1+1) _ _ ⟨by omega,by omega,by omega⟩ L2.o).cell 0).trans rfl;have hlt:=h2.lt;have hs4:=h4.size;have hpl:(pre.filter (cutAt R M nn L)).length<1000000:=by
    have:=List.length_filter_le (cutAt R M nn L) pre;omega
   have HX:=bx hx;have H1:=bx h1;have H2:=bx h2;have H3:=bx h3;have H4:=bx h4;have HL0:=bx hlt;have axN:=bx Sl;clear h1 h2 h3 h4 hx Sl f0 f1 hkk hkl hBW2 hlt
   gi_wp2
   refine⟨trivial,HIC.o.mono ?_⟩;rintro e w4 ⟨rfl,hb4⟩;rw [<- Hr.o];have HB4:=bx hb4;have ayA:=hb4.size;clear c2 hb4
   cases hcv:cutAt R M nn L x with
   | false =>
    have Zh:=bx (show (pre++[x]).filter (cutAt R M nn L)=pre.filter (cutAt R M nn L) by rw [List.filter_append];simp [hcv]);clear hcv
    gi_wp2
    have EW:Turns (λ_=>False) W w4:=Turns.of_below HB4.o;refine⟨Holds.zX (own:=λk=>(k<wL.heap.size/\k≠w.heap.size+1+1+1/\k≠w.heap.size+1+1+1+1)\/k=wL.heap.size+1\/k=wL.heap.size) EW (λk hk=>by omega) (λk hk h=>h),⟨v,EW.blk H1.o (λh=>h),?_,H3.o⟩,H4.o.trans (EW.mono λ_ h=>h.elim)⟩;rw [Zh.o];exact EW.row H2.o (λ_ _ h=>h)
   | true =>
    have Zh:=bx (show (pre++[x]).filter (cutAt R M nn L)=pre.filter (cutAt R M nn L)++[x] by rw [List.filter_append];simp [hcv]);have nC:=bx (Zj (0::pre.filter (cutAt R M nn L)) x);clear hcv;have EW:Turns (λ_=>False) W w4:=Turns.of_below HB4.o;have hrow4:=EW.row H2.o (λ_ _ h=>h);have Sm:=EW.blk H1.o (λh=>h);have hc:w4.cell? ⟨w.heap.size+1+1+1+1,0,none⟩=some v:=(Sm.cell 0).trans rfl;have hf:=Sm.frozen 0;obtain⟨i0,hi,hz0,hz1,hz2⟩:=info_parts QT;have qP:=bx (show v.ownBlock≠some (w.heap.size+1+1+1+1) from λe=>by rcases H3.o _ e with h | h <;> omega);have HV:=bx Sm;have HRW:=bx hrow4;have HT4:=bx EW;have wR:=bx hrow4.lt;obtain⟨og,oc,rfl⟩:=ownsRow_succ hrow4;clear hrow4 Sm EW
    gi_wp2_with (gi_at_builtin;refine wpListIn_append_own_at _ rfl _ _ 22 rfl (w.heap.size+1+1+1) 3 i0 (ah 0) 1 8 underlying22 hi hz0 hz1 hz2 rfl (by decide) (.slice (some ⟨og,0,none⟩) ((pre.filter (cutAt R M nn L)).length+1) oc) _ _ rfl (HRW.o.alloc _) ⟨w4.heap.size,0,none⟩ 1 1 [ah (x:Int)] rfl rfl (cell_one_new _ _ _) (by simp [Value.oneCell']) (by unfold maxLen;omega) (by omega) (by simp;omega) ?_;intro v' w1 hown' hgrow _ hat;obtain⟨g',cap',rfl⟩:=ownsRow_succ hown';have hv1:=(HV.o.alloc _).grown hgrow (Ne.symm qP.o);have hc1:=hv1.cell 0;have hf1:=hv1.frozen 0;simp at hc1)
    have hg':g'=og\/g'=w4.heap.size+1:=by
     rcases hat with h | h
     ·left;simpa [Value.ownBlock] using h
     right;simpa [Value.ownBlock] using h
    have hog:=H3.o og rfl;have U1:=(wR.o og rfl).2;have hT:Turns (λk=>k=og\/k=w.heap.size+1+1+1+1) W (w1.setCell ⟨w.heap.size+1+1+1+1,0,none⟩ (.slice (some ⟨g',0,none⟩) ((pre.filter (cutAt R M nn L)).length+1+1) cap')) :=
     (((HT4.o.mono λ_ h=>h.elim).trans (Turns.alloc w4 _)).trans (Hw hgrow (λk hk=>.inl (by simpa [Value.ownBlock] using hk.symm)))).trans (Turns.setCell _ (.inr rfl) _)
    refine⟨Holds.zX (own:=λk=>(k<wL.heap.size/\k≠w.heap.size+1+1+1/\k≠w.heap.size+1+1+1+1)\/k=wL.heap.size+1\/k=wL.heap.size) hT (λk hk=>by omega) (λk hk h=>by omega),⟨_,hv1.bJ 0 _,?_,λg hg=>?_⟩,(H4.o.mono (own':=λk=>k=w.heap.size+1+1+1\/k=w.heap.size+1+1+1+1\/k=og) (λk hk=>by omega)).trans (hT.mono (λk hk=>by omega)) |>.narrow (λk hk hl=>by omega)⟩
    ·rw [Zh.o,<- jd,nC.o];have:=(Turns.setCell (own:=λk=>k=w.heap.size+1+1+1+1) w1 (p:=⟨w.heap.size+1+1+1+1,0,none⟩) rfl (.slice (some ⟨g',0,none⟩) ((pre.filter (cutAt R M nn L)).length+1+1) cap')).row hown' (λk hk=>by simp [Value.ownBlock] at hk;omega)
     simpa using this
    have:g=g':=by simpa [Value.ownBlock] using hg.symm
    omega
  case done =>
   intro xs W hW hS ⟨⟨v,h1,h2,h3⟩,h4⟩ hD;have hxs:xs.filter (cutAt R M nn L)=ER R M nn L (L.length-1):=by
    rw [hS];unfold yT ER;rw [show min (L.length+1-1) (L.length-1)=L.length-1 by omega]
   rw [hxs] at h2;obtain⟨Q,hQ⟩:∃ Q,ER R M nn L (L.length-1)=Q:=⟨_,rfl⟩
   have X9:Q.length<=900:=by
    rw [<- hQ];unfold ER;have:=List.length_filter_le (cutAt R M nn L) ((List.range (L.length-1)).map (·+1));simp only [aV,wF] at this;omega
   rw [hQ] at h2;have kK:=bx (show Af R M nn L=(0::Q).map (λn:Nat=>(n:Int))++if 0<L.length then [(L.length:Int)] else [] by unfold Af;rw [hQ]);have c0:ay W (w.heap.size+1+1+1+1) 0=some v:=(h1.cell 0).trans rfl;have cf:=h1.frozen 0;have cl:=h1.lt;have hlt:=h2.lt;have hs4:=h4.size;have H1:=bx h1;have H2:=bx h2;have H3:=bx h3;have H4:=bx h4;have HD2:=bx hD;have wR:=bx hlt;have Ci:=bx (show ak w W from cu.o.trans (h4.below cu.o.size (λk hk=>by omega)));clear h1 h2 h3 h4 hD hlt hxs hQ hS
   by_cases h0:0<L.length
   ·obtain⟨i0,hi,hz0,hz1,hz2⟩:=info_parts QT;have qP:=bx (show v.ownBlock≠some (w.heap.size+1+1+1+1) from λe=>by rcases H3.o _ e with h | h <;> omega);obtain⟨og,oc,rfl⟩:=ownsRow_succ H2.o;go_wp2_with (at_builtin;refine wpList_append_own_at _ rfl _ _ 22 rfl (w.heap.size+1+1+1) 3 i0 (ah 0) 1 8 underlying22 hi hz0 hz1 hz2 rfl (by decide) (.slice (some ⟨og,0,none⟩) (Q.length+1) oc) _ _ rfl (H2.o.alloc _) ⟨W.heap.size,0,none⟩ 1 1 [ah (L.length:Int)] rfl rfl (cell_one_new _ _ _) (by simp [Value.oneCell']) (by unfold maxLen;omega) (by omega) (by simp;omega) ?_;intro v' w1 hown' hgrow _ hat;obtain⟨g',cap',rfl⟩:=ownsRow_succ hown';have hv1:=(H1.o.alloc _).grown hgrow (Ne.symm qP.o);have hc1:=hv1.cell 0;have hf1:=hv1.frozen 0;have hl1:=hv1.lt;simp at hc1)
    rw [yE];have hg':g'=og\/g'=W.heap.size+1:=by
     rcases hat with h | h
     ·left;simpa [Value.ownBlock] using h
     right;simpa [Value.ownBlock] using h
    have hog:=H3.o og rfl;have U1:=(wR.o og rfl).2;have hT:Turns (λk=>k=og\/k=w.heap.size+1+1+1+1) W (w1.setCell ⟨w.heap.size+1+1+1+1,0,none⟩ (.slice (some ⟨g',0,none⟩) (Q.length+1+1) cap')) :=
     ((Turns.alloc W _).trans (Hw hgrow (λk hk=>.inl (by simpa [Value.ownBlock] using hk.symm)))).trans (Turns.setCell _ (.inr rfl) _)
    have adC:=(Turns.setCell (own:=λk=>k=w.heap.size+1+1+1+1) w1 (p:=⟨w.heap.size+1+1+1+1,0,none⟩) rfl (.slice (some ⟨g',0,none⟩) (Q.length+1+1) cap')).row hown' (λk hk=>by simp [Value.ownBlock] at hk;omega);have UZ:=Ci.o.trans (hT.below Ci.o.size (λk hk=>by omega));generalize hWf:w1.setCell ⟨w.heap.size+1+1+1+1,0,none⟩ (.slice (some ⟨g',0,none⟩) (Q.length+1+1) cap')=Wf at hT adC UZ ⊢;have hDf:=(hT.block wL.heap.size (by omega) (by omega)).trans HD2.o;refine⟨by simp, .inl ⟨_,_,rfl,run_takeDeferred hDf,?_⟩⟩;refine⟨_,results_tmp2 rfl _ _ _,?_⟩;have CO:Turns (λk=>k=wL.heap.size) Wf (Wf.putObj wL.heap.size (.deferred none)):=Turns.putObj (own:=λk=>k=wL.heap.size) Wf rfl (.deferred none);have PO:=CO.row adC (λk hk=>by simp [Value.ownBlock] at hk;omega);refine⟨⟨.slice (some ⟨g',0,none⟩) (Q.length+1+1) cap',rfl,?_,λg hg=>bP (by omega) (PO.lt g hg).1⟩,UZ.trans (CO.below UZ.size (λk hk=>by omega))⟩;rw [show ((nn:Int)).toNat=nn from mG nn,kK.o,aG h0];refine aN.iy (n:=Q.length+1+1) (T:=3) (base:=w.heap.size+1+1+1) ?_ (by simp);have e:((0::Q).map (λn:Nat=>(n:Int))++[(L.length:Int)]).map (Value.int .i64)=EZ (0::Q)++[ah (L.length:Int)]:=by
     unfold EZ;rw [gX,EX]
     rfl
    rw [e];exact PO
   obtain⟨og,oc,rfl⟩:=ownsRow_succ H2.o;go_wp2_with fail;rw [yE];have hog:=H3.o og rfl;refine⟨by simp, .inl ⟨_,_,rfl,run_takeDeferred HD2.o,?_⟩⟩;refine⟨_,results_tmp2 rfl _ _ _,?_⟩;have CO:Turns (λk=>k=wL.heap.size) W (W.putObj wL.heap.size (.deferred none)):=Turns.putObj (own:=λk=>k=wL.heap.size) W rfl (.deferred none);have PO:=CO.row H2.o (λk hk=>by simp [Value.ownBlock] at hk;omega);refine⟨⟨.slice (some ⟨og,0,none⟩) (Q.length+1) oc,rfl,?_,λg hg=>bP (by omega) (PO.lt g hg).1⟩,Ci.o.trans (CO.below Ci.o.size (λk hk=>by omega))⟩;rw [show ((nn:Int)).toNat=nn from mG nn,kK.o,aF h0,oG];exact Vy PO (by simp)
theorem ajF (A:Nat->Addr) (B:Nat) (rv:Value) (R:List D.Rule) (mv:Value) (M:D.gJ) (n:Int) (lv:Value) (L:List Int) (w:World) (hR:iD w rv R) (hf:∀ x∈R,uS x) (zV:R.length<=16777216) (hM:tZ w mv M) (zy:Dk M) (hL:aN w lv L) (hLz:L.length<=900) (hD:Ed A B w) (hE:Eg A B w) (hB:B<=w.heap.size) (hyes:xI R M n=true) :
  Calls prog 124 #[rv,mv, ah n,lv] w λe w'=>(∃ v,e = .returned (.tuple #[v, ah 0])/\aN w' v (Af R M n.toNat L))/\ak w w' :=
 (adQ A B rv R mv M n lv L w hR hf zV hM zy hL hLz hD hE hB hyes).mono λ_ _ ⟨⟨v,h1,h2,_⟩,h3⟩=>⟨⟨v,h1,h2⟩,h3⟩
theorem aoz (A:Nat->Addr) (B:Nat) (rv:Value) (R:List D.Rule) (mv:Value) (M:D.gJ) (n:Int) (lv:Value) (L:List Int) (w:World) (hR:iD w rv R) (hf:∀ x∈R,uS x) (zV:R.length<=16777216) (hM:tZ w mv M) (zy:Dk M) (hL:aN w lv L) (hLz:L.length<=900) (hD:Ed A B w) (hE:Eg A B w) (hB:B<=w.heap.size) :
  Calls prog 124 #[rv,mv, ah n,lv] w (awg R M n L w):=by
 cases h:xI R M n with
 | true =>
  refine(ajF A B rv R mv M n lv L w hR hf zV hM zy hL hLz hD hE hB h).mono ?_;rintro e w' ⟨h1,h2⟩;exact⟨h2, .inl ⟨h,h1⟩⟩
 | false =>
  refine(akF A B rv R mv M n lv L w hR hf zV hM zy hL hLz hD hE hB h).mono ?_;rintro e w' ⟨h1,h2⟩;exact⟨h2, .inr ⟨h,h1⟩⟩
end
def nD (t:Tab):Bool:=xI t.r t.m t.n&&F.nT t.p
structure nN (t:Tab):Prop where
 p1:t.p.1.length<=100000
 p2:t.p.2.length<=100000
 p3:∀ r∈t.p.2,r.length<=16777216
 r1:∀ x∈t.r,uS x
 r2:t.r.length<=16777216
 m:Dk t.m
theorem NQ (A:Nat->Addr) (B:Nat) (v:Value) (t:Tab) (w:World) (hv:TabAt w v t) (hs:nN t) (hD:Ed A B w) (hE:Eg A B w) (hB:B<=w.heap.size) :
  Calls prog 63 #[v] w λe w'=>e = .returned (.bool (nD t))/\ak w w':=by
 have gG:=bx (λW (h:ak w W)=>hv.below h);obtain⟨pi,pb,rv,nv,fv,rfl,h1,h2,h3,h4,h5⟩:=hv;obtain⟨V,hV⟩:∃ V,V=w.alloc (.cells #[ah t.n,pi,pb,rv,nv,fv] 31):=⟨_,rfl⟩
 have HB0:=bx (aB hV);have HK:=bx (aK hV);have aI:=bx (λW (h:ak V W)=>HK.o.d6 h);have HV:=bx hV;have CG:=bx (aoz A B rv t.r (.agg #[nv,fv]) t.m t.n (aj) [] V (h3.below HB0.o) hs.r1 hs.r2 ⟨nv,fv,rfl,h4.below HB0.o,h5.below HB0.o⟩ hs.m .nil (by simp) (hD.below (HB0.o.mono hB)) (hE.below (HB0.o.mono hB)) (bP hB HB0.o.size));have lq:=bx (λW (h:ak w W)=>MZ (.agg #[pi,pb]) t.p W ⟨pi,pb,rfl,h1.below h,h2.below h⟩ hs.p1 hs.p2 hs.p3);have iP:=bx (show nD t=(xI t.r t.m t.n&&F.nT t.p) from rfl);obtain⟨n,hn⟩:∃ n,n=t.n:=⟨_,rfl⟩
 rw [<- hn] at HV HK gG aI CG iP ⊢;generalize nD t=res at iP ⊢;clear h1 h2 h3 h4 h5 hV hs hn hD hE hB;obtain⟨k0,k1,k2,k3,k4,k5,kk⟩:=aI.o V aZ
 go_in
 go_upto_region 1 with(fail)
 rw [<- HV.o];go_wp2_with fail;refine CG.o.mono ?_;rintro e w1 ⟨hb1,⟨ha,v1,rfl,-⟩ | ⟨ha,rfl⟩⟩
 ·have HB1:=aJ HB0 hb1;have lq:=bx (lq.o w1 HB1.o);rw [ha,Bool.true_and] at iP;clear k0 k1 k2 k3 k4 k5 kk;obtain⟨k0,k1,k2,k3,k4,k5,kk⟩:=aI.o w1 hb1;clear hb1 ha;go_wp2_with fail;refine dI lq.o HB1.o λw2 HB2=>?_
  go_wp2
  go_ret
  exact⟨aY iP.o.symm,HB2.o⟩
 have HB1:=aJ HB0 hb1;rw [ha,Bool.false_and] at iP;clear hb1 ha k0 k1 k2 k3 k4 k5 kk
 go_wp2
 go_ret
 exact⟨aY iP.o.symm,HB1.o⟩
section
open Go.ChangeShapes Go.WideShapes Go.Deep
section
variable {H:Type} {enc:TypeId×Value->H} {W:World}
theorem asj {fuel:Nat} {cs:List Value} {x:DataW H×List MemPlace} (h:DataW.trod enc prog W 0 (λ_=>true) true fuel 272 cs=some x) :
  ∃ (y:lJ),cs=fK (pr y)/\aN W y.2 y.1.2:=by
 obtain⟨y0,y1,n,rfl,hl,h0,h1⟩:=trod_struct2 underlying272 h;have hl2:cs.length=2:=hl.trans (by kernel_rfl)
 match cs,hl2 with
 | [c0,c1],_ =>
  obtain⟨k,e0,_⟩:=DataW.trod_int underlying3 h0;obtain⟨l,hli⟩:=Rn (v:=c1) underlying22 underlying3 (by kernel_rfl) h1;have e0':[c0]=[ah k]:=e0;simp only [jm,and_true] at e0';subst e0';exact⟨((k,l),c1),rfl,hli⟩
theorem rF.open {fuel:Nat} {v:Value} {x:DataW H×List MemPlace} (h:DataW.trod enc prog W 0 (λ_=>true) true fuel 34 [v]=some x):∃ l,rF W v l:=by
 have ce:prog.cellsOf 272=2:=by kernel_rfl
 rcases open_slice underlying34 h with⟨h1,_⟩ | ⟨a,len,cap,m,n,Dd,Pl,h1,_,h2,h3,h4,_,h5⟩
 ·simp only [jm,and_true] at h1;exact⟨[],[],rfl, .inl ⟨h1,rfl⟩,λy hy=>absurd hy iH⟩
 simp only [jm,and_true] at h1;subst h1;simp only [if_true] at h4;subst h4;rw [ce] at h5;have key:∀ i,i<m->∃ q:lJ,(∀ j u,(fK (pr q))[j]?=some u->W.cell? ((a.add (i*2)).add j)=some u)/\aN W q.2 q.1.2:=by
  intro i hi;obtain⟨cs',h6,h7⟩:=h5 i hi;obtain⟨_,hlen,hcell⟩:=World.cells?_some h6;obtain⟨y,rfl,h8⟩:=asj h7;refine⟨y,λj u hu=>?_,h8⟩;have hj:j<2:=(dO hu).1;rw [hcell j hj];exact hu
 obtain⟨q,hq⟩:=choose_lt key;obtain⟨b,off,sp⟩:=a;have hlen:((((List.range len).map q).map pr).map fK).length=len:=by simp
 refine⟨_,(List.range len).map q,rfl, .inr ⟨b,off,sp,m,by rw [hlen],by rw [hlen];exact h2,h3,λhn=>?_⟩,λy hy=>?_⟩
 ·have h0:0<len:=by
   rcases Ah len with h | h
   ·subst h;exact absurd rfl hn
   exact h
  have hc0:=(hq 0 (by omega)).1 0 _ rfl;have hsp:sp=none:=World.cell?_spot (a:=((⟨b,off,sp⟩:Addr).add (0*2)).add 0) hc0;subst hsp;refine⟨rfl,World.block_lt_of_cell? _ _ hc0,λi c hc j u hu=>?_⟩;rw [eX,eX,eX] at hc;obtain⟨p,hp,rfl⟩:=rC.1 hc;obtain⟨y,hy,rfl⟩:=rC.1 hp;obtain⟨k,hk,rfl⟩:=rC.1 hy;obtain⟨hi,rfl⟩:=dO hk;simp only [wF] at hi;simp only [List.getElem_range] at hu;have:=(hq i (by omega)).1 j u hu;rw [addr_add b off,addr_add b] at this;exact this
 obtain⟨i,hi,rfl⟩:=jM.1 hy;exact(hq i (by have:=oM.1 hi;omega)).2
theorem Tn {fuel:Nat} {cs:List Value} {x:DataW H×List MemPlace} (h:DataW.trod enc prog W 0 (λ_=>true) true fuel 25 cs=some x) :
  ∃ (a b:Value) (t:F.Trie),cs=[a,b]/\aN W a t.1/\iF W b t.2:=by
 obtain⟨y0,y1,n,rfl,hl,h0,h1⟩:=trod_struct2 underlying25 h;have hl2:cs.length=2:=hl.trans (by kernel_rfl)
 match cs,hl2 with
 | [c0,c1],_ =>
  obtain⟨l0,hl0⟩:=Rn (v:=c0) underlying22 underlying3 (by kernel_rfl) h0;obtain⟨l1,hl1⟩:=iF.open (v:=c1) h1;exact⟨c0,c1,(l0,l1),rfl,hl0,hl1⟩
theorem akS {fuel:Nat} {cs:List Value} {x:DataW H×List MemPlace} (h:DataW.trod enc prog W 0 (λ_=>true) true fuel 29 cs=some x) :
  ∃ (a b:Value) (M:D.gJ),cs=[a,b]/\iF W a M.1/\aN W b M.2:=by
 obtain⟨y0,y1,n,rfl,hl,h0,h1⟩:=trod_struct2 underlying29 h;have hl2:cs.length=2:=hl.trans (by kernel_rfl)
 match cs,hl2 with
 | [c0,c1],_ =>
  obtain⟨l0,hl0⟩:=iF.open (v:=c0) h0;obtain⟨l1,hl1⟩:=Rn (v:=c1) underlying27 underlying2 (by kernel_rfl) h1;exact⟨c0,c1,(l0,l1),rfl,hl0,hl1⟩
theorem ahO {α:Type} {l:List α} (h:l.length=6):∃ a b c d e f,l=[a,b,c,d,e,f]:=by
 match l,h with
 | [a,b,c,d,e,f],_=>exact⟨a,b,c,d,e,f,rfl⟩
end
end
end Go.Proofs.YtdponihkpomheaaGreatDoor
