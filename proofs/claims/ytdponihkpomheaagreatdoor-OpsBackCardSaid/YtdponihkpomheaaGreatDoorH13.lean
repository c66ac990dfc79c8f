/- Texts of this claim. -/
import Derived.Test.YtdponihkpomheaaGreatDoorH6
import Derived.Test.YtdponihkpomheaaGreatDoorH12

set_option maxHeartbeats 8000000
set_option maxRecDepth 100000
namespace Go.Proofs.YtdponihkpomheaaGreatDoor
open Go.RowKit
open Tryz
section
attribute [local go_sem] Oper.semAt_some
theorem F.avl {names:List (List UInt8)} {s:List UInt8} {its:List N.Item} (h:F.Jz names s=some its) :
  (s=[]/\its=[])\/(s≠[]/\(∀ c∈s,c≠32/\c≠91)/\s.getLast?≠some 42/\s≠[94]/\s≠[46]/\∃ i,F.valueOf names s=some i/\its=[((2:Int) ^ i,0)]):=by
 unfold F.Jz at h
 by_cases h0:s=[]
 ·rw [aG h0] at h
  cases h;exact .inl ⟨h0,rfl⟩
 rw [aF h0] at h
 split at h
 ·cases h
 rename_i h1
 simp only [Bool.or_eq_true,zO,lN,not_or,not_exists,not_and] at h1;obtain⟨⟨⟨k1,k2⟩,k3⟩,k4⟩:=h1;refine .inr ⟨h0,λc hc=>⟨λe=>(k1 c hc).1 e,λe=>(k1 c hc).2 e⟩,k2,k3,k4,?_⟩
 cases hv:F.valueOf names s with
 | none=>rw [hv] at h;cases h
 | some i=>rw [hv] at h;cases h;exact⟨i,rfl,rfl⟩
theorem O0 {c:UInt8} {d:UInt8} (h:c≠d):(U.aH c==U.aH d)=false:=by rw [OA];simpa using h
theorem axk (s:List UInt8) (w:World) (hc:∀ c∈s,c≠32/\c≠91) (hz:s.length<=20000) :
  Calls prog 296 #[.string (bs s)] w λe w'=>(∃ v,e = .returned v/\w'.ownsRow w.heap.size 9 1 v 1 [gW s])/\ak w w':=by
 obtain⟨S,hS⟩:∃ S,(bs s).size=S:=⟨_,rfl⟩
 have HSL:=bx (show S=s.length by rw [<- hS];exact dN s);have hSz:S<=20000:=by rw [HSL.o];exact hz
 have HC:=bx hc;have bQ:=bx ((Sep.start w).kV w.heap.size 1 9);clear hc
 go_in
 go_wp2_with fail
 go_loopw [6,3,4,5] (λi o f b wr=>b = .bool false/\((∃ k:Nat,k<=S/\i = ah k/\o = aj/\f = ah 0/\wr=w)\/(i = ah ((S:Int)+1)/\(∃ z:Int,f = ah z)/\Box (wr.ownsRow w.heap.size 9 1 o 1 [gW s]/\ak w wr)))) (λi _ _ _ _=>S+1-(intOf i).toNat)
 ·exact⟨rfl, .inl ⟨0,by omega,rfl,rfl,rfl,rfl⟩⟩
 obtain⟨rfl,⟨k,hk,rfl,rfl,rfl,rfl⟩ | ⟨rfl,⟨z,rfl⟩,ho⟩⟩:=hrel
 ·by_cases hlt:k<S
  ·obtain⟨d,hd⟩:=bV s k (by rw [<- HSL.o];exact hlt);have hix:=D5 (P:=prog) underlying9 k hd k rfl;have hdd:=HC.o d (dB hd);have e1:(U.aH d==32)=false:=O0 (d:=32) hdd.1;have e2:(U.aH d==91)=false:=O0 (d:=91) hdd.2;have e3:((k:Int)==(S:Int))=false:=by rw [fG];omega
   clear hd hdd
   go_wp2
   go_roundw
   ·exact⟨rfl, .inl ⟨k+1,by omega,by go_num,rfl,rfl,trivial⟩⟩
   simp [intOf];omega
  obtain rfl:k=S:=by omega
  have e3:((k:Int)==(k:Int))=true:=by simp
  have hcut:=SX (P:=prog) (T:=9) underlying9 s 0 k 0 (k:Int) rfl rfl ⟨by omega,by rw [HSL.o];exact bK _⟩;rw [show (s.take k).drop 0=s by rw [HSL.o];simp] at hcut;go_wp2_with (at_builtin;refine vM rfl _ _ 49 rfl Em bQ.o 0 rfl rfl rfl rfl (by omega) (by omega) aU ?_;rintro v' w4 hS4 ⟨go',gc',rfl,-,-⟩)
  have HO:=bx (show w4.ownsRow wr.heap.size 9 1 (.slice (some ⟨go',0,none⟩) (0+1) gc') 1 [gW s]/\ak wr w4 from⟨hS4.row 0 rfl,hS4.bel (n:=wr.heap.size) (W0:=wr) (by simp)⟩);clear hS4
  go_wp2
  go_roundw
  ·exact⟨rfl, .inr ⟨by first | trivial | rfl | go_num,⟨_,rfl⟩,HO⟩⟩
  simp [intOf]
 go_wp2
 go_ret
 exact⟨⟨_,rfl,ho.o.1⟩,ho.o.2⟩
theorem ano (s:List UInt8) (nv:Value) (names:List (List UInt8)) (i:Nat) (w:World) (hn:cZ w nv names) (hnb:F.zQ names=true) (F5:s≠[46]) (hv:F.valueOf names s=some i) :
  Calls prog 320 #[.string (bs s),nv] w λe w'=>e = .returned (.tuple #[ah ((2:Int) ^ i), ah 0])/\ak w w':=by
 have ku:=bx (Uf nv names w hn hnb);have hnl:names.length<=32:=by unfold F.zQ at hnb;simp only [dD,fD] at hnb;exact hnb.2
 have hil:i<names.length:=by
  unfold F.valueOf at hv;obtain⟨h,-⟩:=List.findIdx?_eq_some_iff_getElem.1 hv;exact h
 have HV:=bx (λW (h:ak w W)=>hv▸VZ nv names s W (hn.below h) (by omega));have HW:=bx (λW=>TV i W (by omega));have hcmp:((bs s).toList==[46])=false:=by rw [Bl];simpa using F5
 have HI:=bx (show ((2 ^ i:Nat):Int)=(2:Int) ^ i by simp);obtain⟨a,cap,rfl,hc1,hc2⟩:=hn.slice;clear hn hnb F5 hv hil
 go_in
 go_wp2_with fail;refine ku.o.mono ?_;rintro e w0 ⟨rfl,nd,rfl⟩;have HB0:=bx (uT w nd);generalize w.drewN nd=w0 at HB0 ⊢;go_wp2_with fail;refine aP (HV.o _ HB0.o) ?_;unfold OO;go_wp2_with fail;refine aP (HW.o _) ?_;rw [HI.o]
 go_wp2
 go_ret2
 exact⟨rfl,HB0.o⟩
theorem asG:(prog.info? 389).map (·.size)=some 2:=by kernel_rfl
theorem ahR:(prog.info? 252).map (·.size)=some 2:=by kernel_rfl
theorem av9 (s:List UInt8) (nv:Value) (names:List (List UInt8)) (i:Nat) (w:World) (hn:cZ w nv names) (hnb:F.zQ names=true) (hs:s≠[]) (F5:s≠[46]) (hst:s.getLast?≠some 42) (hv:F.valueOf names s=some i) (hz:s.length<=20000) :
  Calls prog 297 #[.string (bs s),nv] w λe w'=>e = .returned (.tuple #[.agg #[ah ((2:Int) ^ i), ah 0], .bool true])/\ak w w':=by
 have hb0:=dA w (.cells #[ah 0, ah 0] 389);have HB0:=bx hb0;have HC:=bx (ano s nv names i _ (hn.below hb0) hnb F5 hv);have HR:=bx (aC.new w 389 #[ah 0, ah 0]);have hemp:=DC hs;obtain⟨S,hS⟩:∃ S,(bs s).size=S:=⟨_,rfl⟩
 have HSL:=bx (show S=s.length by rw [<- hS];exact dN s);have hSz:S<=20000:=by rw [HSL.o];exact hz
 have hS0:0<S:=by rw [HSL.o];exact List.length_pos_iff.2 hs
 obtain⟨d,hd⟩:=bV s (S-1) (by rw [<- HSL.o];omega);have hix:=D5 (P:=prog) underlying9 (S-1) hd ((S:Int)-1) (by omega);have e1:(U.aH d==42)=false:=O0 (d:=42) (λe=>hst (by rw [List.getLast?_eq_getElem?,<- HSL.o,hd,e]));clear hb0 hn hnb hs F5 hst hv hd
 go_in
 go_wp2_with fail;refine wp_loop_rounds 1 ?_;rw [rounds_succ];go_wp2_with fail;refine aT HC.o λw1 hb1=>?_
 have HB1:=aJ HB0 hb1;have HR1:=HR.ub hb1;have r0:=(HR1.o.cell 0).trans (show _=some (Value.int .i64 0) from rfl);have r1:=(HR1.o.cell 1).trans (show _=some (Value.int .i64 0) from rfl);have f0:=HR1.o.frozen 0;have f1:=HR1.o.frozen 1;have rl:=HR1.o.lt;clear hb1;go_wp2_with fail;exact bodyPost_ret (v:=.tuple #[.agg #[ah ((2:Int) ^ i), ah 0], .bool true]) (Ei results297 _ _ w.heap.size 389 #[ah ((2:Int) ^ i), ah 0] (0,0) _ rfl ((HR1.o.bJ 0 (ah ((2:Int) ^ i))).bJ 1 (ah 0)) underlying389 rfl asG) rfl
  ⟨rfl,(HB1.o.setCell aU _).setCell aU _⟩
theorem asF {w:World} {base:Nat} {T:TypeId} {v:Value} {a:Int} (h:w.ownsRow base T 2 v 1 [ah a, ah 0]):fE w v [(a,0)]:=by
 rcases h.2 with⟨-,h0⟩ | ⟨g,cap,cur,rfl,h2,h3,h4,h5,h6,h7⟩
 ·omega
 refine .inr ⟨g,0,none,cap,rfl,h4,h5,λ_=>⟨rfl,(h.lt g rfl).2,λi x hx=>?_⟩⟩;have hi:i=0:=by have:=(dO hx).1;simpa using this
 subst hi
 cases hx;have e0:=h.cells (g:=g) rfl 0 (ah a) rfl;have e1:=h.cells (g:=g) rfl 1 (ah 0) rfl;exact⟨e0,e1⟩
theorem awN:zk prog 250 389 2 16:=.mk' (z:=.agg #[ah 0, ah 0]) underlying250 (by kernel_rfl) rfl
theorem aek (s:List UInt8) (nv:Value) (names:List (List UInt8)) (its:List N.Item) (w:World) (hn:cZ w nv names) (hnb:F.zQ names=true) (hok:F.Jz names s=some its) (hz:s.length<=20000) :
  Calls prog 259 #[.string (bs s),nv] w λe w'=>(∃ v,e = .returned (.tuple #[.agg #[.bool false,v], ah 0])/\fE w' v its/\∀ g,v.ownBlock=some g->w.heap.size<=g/\g<w'.heap.size)/\ak w w':=by
 have hb0:=dA w (.cells #[.bool false, aj] 252);have ku:=bx (Uf nv names _ (hn.below hb0) hnb);have bQ:=bx ((Sep.start w).eu 252 #[.bool false, aj])
 rcases F.avl hok with⟨rfl,rfl⟩ | ⟨hs,hc,hst,hup,F5,i,hv,rfl⟩
 ·have hemp:=xH;clear hn hnb hb0 hok
  go_in
  go_wp2_with fail;refine ku.o.mono ?_;rintro e w1 ⟨rfl,nd,rfl⟩;have eG:=bx (bQ.o.drewN nd);generalize (w.alloc (.cells #[.bool false, aj] 252)).drewN nd=w1 at eG ⊢;have HS2:=bx (eG.o.eu 252 #[.bool false, aj]);have hq:=HS2.o.blk 1 rfl;have c0:(w1.alloc (.cells #[.bool false, aj] 252)).cell? ⟨w.heap.size,0,none⟩=some (.bool false):=(hq.cell 0).trans rfl;have c1:(w1.alloc (.cells #[.bool false, aj] 252)).cell? ⟨w.heap.size,1,none⟩=some (aj):=(hq.cell 1).trans rfl;have f0:=hq.frozen 0;have f1:=hq.frozen 1;have ql:=hq.lt;clear hq;go_wp2_with fail;have h3:=(HS2.o.set 1 rfl 0 (.bool false)).set 1 rfl 1 (aj);exact bodyPost_ret (v:=.tuple #[.agg #[.bool false, aj], ah 0]) (Ei results259 _ _ w.heap.size 252 #[.bool false, aj] (0,0) _ rfl (h3.blk 1 rfl) underlying252 rfl ahR) rfl
   ⟨⟨_,rfl, .inl ⟨rfl,rfl⟩,λg hg=>by cases hg⟩,h3.bel (n:=w.heap.size) (W0:=w) (by simp)⟩
 have hemp:=DC hs;have HP:=bx (λW=>axk s W hc hz);have HIT:=bx (λW (h:ak w W)=>av9 s nv names i W (hn.below h) hnb hs F5 hst hv hz);have hcmp:((bs s).toList==[94])=false:=by rw [Bl];simpa using hup
 clear hn hnb hb0 hok hs hc hst hup F5 hv
 go_in
 go_wp2_with fail;refine ku.o.mono ?_;rintro e w1 ⟨rfl,nd,rfl⟩;have eG:=bx (bQ.o.drewN nd);generalize (w.alloc (.cells #[.bool false, aj] 252)).drewN nd=w1 at eG ⊢;have HS2:=bx ((eG.o.eu 252 #[.bool false, aj]).kV w.heap.size 2 389);go_wp2_with fail;generalize w1.heap.size=P at HS2 ⊢;generalize w1.alloc (.cells #[.bool false, aj] 252)=w2 at HS2 ⊢;refine(HP.o w2).mono ?_;rintro e w3 ⟨⟨pv,rfl,hpv⟩,hb3⟩;have aS:=bx (HS2.o.below hb3);obtain⟨g,cap,cur,rfl,r1,r2,r3,hbk,hcur⟩:=Sv hpv (by omega);have HG:=bx (show g<w3.heap.size/\w3.cell? ⟨g,0,none⟩=some (.string (bs s)) from⟨hbk.lt,(hbk.cell 0).trans (hcur 0 _ rfl)⟩);obtain⟨gl,gc⟩:=HG.o;clear hb3 hpv hbk hcur;go_wp2_with fail;refine wp_loop_rounds 2 ?_;rw [rounds_succ];go_wp2_with fail;have HB3:=bx (aS.o.bel (n:=w.heap.size) (W0:=w) (by simp));refine aT (HIT.o _ HB3.o) λw4 hb4=>?_
 have dJ:=bx (aS.o.below hb4);have Ob:=bx ((hb4.cell (p:=⟨g,0,none⟩) HG.o.1).trans HG.o.2);have bG:=bx (dJ.o.eu 389 #[ah ((2:Int) ^ i), ah 0]);have hq5:=bG.o.blk 2 rfl;have p0:(w4.alloc (.cells #[ah ((2:Int) ^ i), ah 0] 389)).cell? ⟨P,0,none⟩=some (.bool false):=(hq5.cell 0).trans rfl;have p1:(w4.alloc (.cells #[ah ((2:Int) ^ i), ah 0] 389)).cell? ⟨P,1,none⟩=some (aj):=(hq5.cell 1).trans rfl;have pl:=hq5.lt;have hwz:w.heap.size<=(w4.alloc (.cells #[ah ((2:Int) ^ i), ah 0] 389)).heap.size:=(bG.o.bel (n:=w.heap.size) (W0:=w) (by simp)).size;have dU:=bx (show (w4.alloc (.cells #[ah ((2:Int) ^ i), ah 0] 389)).heap.size=w4.heap.size+1 by simp);clear hb4 gl gc hq5;go_wp2_with (at_builtin;refine Bh (cs:=[ah ((2:Int) ^ i), ah 0]) rfl _ _ 250 rfl awN (by decide) bG.o 1 rfl rfl (by rw [dU.o];rfl) rfl (by intro u hu;simp only [fB,iH,or_false] at hu;rcases hu with rfl | rfl <;> rfl) (by omega) (by omega) hwz ?_;rintro v' w6 hS6 ⟨go',gc',rfl,-,-⟩;have dV:=bx hS6;have hq6:=dV.o.blk 2 rfl;have p0:w6.cell? ⟨P,0,none⟩=some (.bool false):=(hq6.cell 0).trans rfl;have p1:w6.cell? ⟨P,1,none⟩=some (aj):=(hq6.cell 1).trans rfl;have pf0:=hq6.frozen 0;have pf1:=hq6.frozen 1;have pl:=hq6.lt;have Ll:=dV.o.blk 3 rfl;have r0:w6.cell? ⟨w.heap.size,0,none⟩=some (.bool false):=(Ll.cell 0).trans rfl;have r1:w6.cell? ⟨w.heap.size,1,none⟩=some (aj):=(Ll.cell 1).trans rfl;have IK:=Ll.frozen 0;have Ig:=Ll.frozen 1;have rl:=Ll.lt;clear hS6 hq6 Ll)
 rw [rounds_succ];have hRP:w.heap.size≠P:=by
  rintro rfl;exact(dV.o.tail.tail.apart (q:=Pc.blk w.heap.size 252 #[.bool false, aj]) (jZ ..) (k:=w.heap.size) rfl) rfl
 have h7:=dV.o.set 2 rfl 1 (.slice (some ⟨go',0,none⟩) (0+1) gc');have h8:=bx ((h7.set 3 rfl 0 (.bool false)).set 3 rfl 1 (.slice (some ⟨go',0,none⟩) (0+1) gc'));clear h7;go_wp2_with fail;have hro:=h8.o.row 1 rfl;exact bodyPost_ret (v:=.tuple #[.agg #[.bool false, .slice (some ⟨go',0,none⟩) (0+1) gc'], ah 0]) (Ei results259 _ _ w.heap.size 252 #[.bool false, .slice (some ⟨go',0,none⟩) (0+1) gc'] (0,0) _ rfl (h8.o.blk 3 rfl) underlying252 rfl ahR) rfl
  ⟨⟨_,rfl,asF hro,λq hq=>hro.lt q hq⟩,h8.o.bel (n:=w.heap.size) (W0:=w) (by simp)⟩
theorem F.aqn {names:List (List UInt8)} {t:List UInt8} {r:D.Rule} (h:F.KY names t=some r) :
  ∃ (k:Nat) (d:UInt8) (a b:List N.Item),t[k]?=some d/\F.J8 d=true/\(∀ (j:Nat) (c:UInt8),j<k->t[j]?=some c->F.J8 c=false)/\F.Jz names (F.trim (t.take k))=some a/\F.Jz names (F.trim (t.drop (k+1)))=some b/\r=((false,a),(false,b),d==47):=by
 unfold F.KY at h
 cases hi:t.findIdx? F.J8 with
 | none=>rw [hi] at h;cases h
 | some k =>
  rw [hi] at h;simp only at h;obtain⟨hk,hd,hj⟩:=List.findIdx?_eq_some_iff_getElem.1 hi
  split at h
  ·rename_i a b h1 h2
   cases h;refine⟨k,t[k],a,b,dW hk,hd,λj c hjk hc=>?_,h1,h2,by rw [fO,dW hk];rfl⟩;have:=hj j hjk;obtain⟨h3,rfl⟩:=dO hc
   simpa using this
  cases h
theorem KQ {w:World} {v:Value} {l:List N.Item} (h:fE w v l):∃ a c,v = .slice a l.length c:=by
 rcases h with⟨rfl,rfl⟩ | ⟨b,off,sp,cap,rfl,-⟩
 ·exact⟨_,_,rfl⟩
 exact⟨_,_,rfl⟩
theorem axj {W W':World} {v:Value} {l:List N.Item} (h:fE W v l) (hs:W.heap.size<=W'.heap.size) (hg:∀ g,v.ownBlock=some g->W'.heap[g]?=W.heap[g]?):fE W' v l:=by
 rcases h with h | ⟨b,off,sp,cap,h1,h2,h3,h4⟩
 ·exact .inl h
 refine .inr ⟨b,off,sp,cap,h1,h2,h3,λhn=>?_⟩;obtain⟨k1,k2,k3⟩:=h4 hn;have hb:=hg b (by rw [h1];rfl);exact⟨k1,fC k2 hs,λi x hx=>⟨(World.cell?_of_block hb).trans (k3 i x hx).1,(World.cell?_of_block hb).trans (k3 i x hx).2⟩⟩
def TD:GU (Value×List N.Item) where
 at' W y:=fE W y.1 y.2/\∀ g,y.1.ownBlock=some g->g<W.heap.size
 val y:=y.1
 same:=λ{_ _ _} h hs hg=>⟨axj h.1 hs hg,λg hg'=>fC (h.2 g hg') hs⟩
 lt:=λ{_ _ _} h hg=>h.2 _ hg
theorem ae5:(prog.info? 254).map (·.size)=some 5:=by kernel_rfl
theorem aw1 (t:List UInt8) (nv:Value) (names:List (List UInt8)) (r:D.Rule) (w:World) (hn:cZ w nv names) (hnb:F.zQ names=true) (hok:F.KY names t=some r) (hz:t.length<=20000) :
  Calls prog 182 #[.string (bs t),nv] w λe w'=>(∃ vl vr,e = .returned (.tuple #[.agg #[.bool r.1.1,vl, .bool r.2.1.1,vr, .bool r.2.2], .bool true])/\fE w' vl r.1.2/\fE w' vr r.2.1.2)/\ak w w':=by
 obtain⟨K,d,la,lb,hd,hm,hno,hpa,hpb,rfl⟩:=F.aqn hok;obtain⟨S,hS⟩:∃ S,(bs t).size=S:=⟨_,rfl⟩
 have HSL:=bx (show S=t.length by rw [<- hS];exact dN t);have hSz:S<=20000:=by rw [HSL.o];exact hz
 have hKS:K<S:=by rw [HSL.o];exact(dO hd).1
 have bQ:=bx ((Sep.start w).eu 254 #[.bool false, aj, .bool false, aj, .bool false]);have hta:(F.trim (t.take K)).length<=20000:=by have:=F.JD (t.take K);rw [dw] at this;omega
 have htb:(F.trim (t.drop (K+1))).length<=20000:=by have:=F.JD (t.drop (K+1));rw [gy] at this;omega
 have J6:=bx (λW=>Me (t.take K) W (by rw [dw];omega));have gG:=bx (λW=>Me (t.drop (K+1)) W (by rw [gy];omega));have xM:=bx (λW (h:ak w W)=>aek _ nv names la W (hn.below h) hnb hpa hta);have HPB:=bx (λW (h:ak w W)=>aek _ nv names lb W (hn.below h) hnb hpb htb);have HD:=bx hd;have HM:=bx hm;have pJ:=bx hno;clear hn hnb hok hd hm hno hpa hpb hta htb
 go_in
 go_wp2_with fail;generalize w.alloc (.cells #[.bool false, aj, .bool false, aj, .bool false] 254)=w0 at bQ ⊢
 go_loopw [6] (λi wr=>∃ k:Nat,k<=K/\i = ah k/\wr=w0) (λi _=>K-(intOf i).toNat)
 ·exact⟨0,by omega,rfl,rfl⟩
 obtain⟨k,hk,rfl,rfl⟩:=hrel
 by_cases hlt:k<K
 ·obtain⟨c,hc⟩:=bV t k (by have:=HSL.o;omega);have hno:=pJ.o k c hlt hc;unfold F.J8 at hno;rw [Bool.or_eq_false_iff,fG,fG] at hno;have hix:=D5 (P:=prog) underlying9 k hc k rfl;have e1:(U.aH c != 43)=true:=by rw [Ji];have:=O0 (d:=43) hno.1;rw [fG] at this;exact this
  have e2:(U.aH c != 47)=true:=by rw [Ji];have:=O0 (d:=47) hno.2;rw [fG] at this;exact this
  clear hc hno
  go_wp2
  go_roundw
  ·exact⟨k+1,by omega,by go_num,trivial⟩
  simp [intOf];omega
 obtain rfl:k=K:=by omega
 have hix:=D5 (P:=prog) underlying9 k HD.o k rfl;have hup:=Ef (P:=prog) (T:=9) underlying9 t k (k:Int) rfl (by rw [<- HSL.o];omega);have hfr:=Gq (P:=prog) (T:=9) underlying9 t (k+1) ((k:Int)+1) (by omega) (by rw [<- HSL.o];omega);obtain⟨x,hx⟩:∃ x,U.aH d=x:=⟨_,rfl⟩
 have hmm:=HM.o;unfold F.J8 at hmm;rw [Bool.or_eq_true,lN,lN] at hmm;have yL:=bx (show (U.aH d==47)=(d==47) from OA d 47);have hcase:((U.aH d != 43)=false)\/((U.aH d != 43)=true/\(U.aH d != 47)=false):=by
  rcases hmm with rfl | rfl
  ·exact .inl rfl
  exact .inr ⟨rfl,rfl⟩
 clear hx hmm
 rcases hcase with e1 | ⟨e1,e2⟩
 ·go_wp2_with fail;refine aP (J6.o _) ?_;go_wp2_with fail;have HB1:=bx (bQ.o.bel (n:=w.heap.size) (W0:=w) (by simp));refine(xM.o _ HB1.o).mono ?_;rintro e w2 ⟨⟨vl,rfl,hvl,hfl⟩,hb2⟩;have HS2:=bx (bQ.o.F9 (b:=TD) (y:=(vl,la)) hb2 ⟨hvl,λg hg=>(hfl g hg).2⟩ (λg hg=>(hfl g hg).1));obtain⟨aa,ac,rfl⟩:=KQ hvl;have aS:=bx (HS2.o.eu 252 #[.bool false, .slice aa la.length ac]);clear hb2 hvl hfl;go_wp2_with fail;generalize w2.heap.size=X at aS ⊢;generalize w2.alloc (.cells #[.bool false, .slice aa la.length ac] 252)=w3 at aS ⊢;refine aP (gG.o _) ?_;go_wp2_with fail;have HB3:=bx (aS.o.bel (n:=w.heap.size) (W0:=w) (by simp));refine(HPB.o _ HB3.o).mono ?_;rintro e w5 ⟨⟨vr,rfl,yw,Jv⟩,hb5⟩;have bG:=bx (aS.o.F9 (b:=TD) (y:=(vr,lb)) hb5 ⟨yw,λg hg=>(Jv g hg).2⟩ (λg hg=>(Jv g hg).1));obtain⟨ba,bc,rfl⟩:=KQ yw;have dV:=bx (bG.o.eu 252 #[.bool false, .slice ba lb.length bc]);clear hb5 yw Jv;go_wp2_with fail;generalize w5.heap.size=Y at dV ⊢;generalize w5.alloc (.cells #[.bool false, .slice ba lb.length bc] 252)=w6 at dV ⊢;refine jl 19 (λW=>ay W X 0=some (.bool false)/\ay W X 1=some (.slice aa la.length ac)/\ay W Y 0=some (.bool false)/\ay W Y 1=some (.slice ba lb.length bc)) (by kernel_rfl) ?_;have cO:=bx dV.o.drew;generalize w6.drew=w7 at cO ⊢;have hy:=cO.o.blk 0 rfl;have y0:w7.cell? ⟨Y,0,none⟩=some (.bool false):=(hy.cell 0).trans rfl;have y1:w7.cell? ⟨Y,1,none⟩=some (.slice ba lb.length bc):=(hy.cell 1).trans rfl;have hx:=cO.o.blk 2 rfl;have x0:w7.cell? ⟨X,0,none⟩=some (.bool false):=(hx.cell 0).trans rfl;have x1:w7.cell? ⟨X,1,none⟩=some (.slice aa la.length ac):=(hx.cell 1).trans rfl;have xl:=hx.lt;have yl:=hy.lt;have hr:=cO.o.blk 4 rfl;have r0:w7.cell? ⟨w.heap.size,0,none⟩=some (.bool false):=(hr.cell 0).trans rfl;have r1:w7.cell? ⟨w.heap.size,1,none⟩=some (aj):=(hr.cell 1).trans rfl;have r2:w7.cell? ⟨w.heap.size,2,none⟩=some (.bool false):=(hr.cell 2).trans rfl;have r3:w7.cell? ⟨w.heap.size,3,none⟩=some (aj):=(hr.cell 3).trans rfl;have r4:w7.cell? ⟨w.heap.size,4,none⟩=some (.bool false):=(hr.cell 4).trans rfl;have f0:=hr.frozen 0;have f1:=hr.frozen 1;have f2:=hr.frozen 2;have f3:=hr.frozen 3;have f4:=hr.frozen 4;have rl:=hr.lt;clear hx hy hr;have gK:=bx (show (λW=>ay W X 0=some (.bool false)/\ay W X 1=some (.slice aa la.length ac)/\ay W Y 0=some (.bool false)/\ay W Y 1=some (.slice ba lb.length bc)) w7 from⟨x0,x1,y0,y1⟩);clear x0 x1 y0 y1;refine jB [0,1,2,3,4,5,6,7,8,9,10,11,12,13,14,15,16,17] ?_
  iterate 18 (refine jA ?_ rfl gK.o ?_ ?_;rotate_left;·rintro w ⟨q1,q2,q3,q4⟩;go_simp;try with_reducible rfl)
  refine jr ?_;refine kP 18 rfl λKK au=>?_
  go_simp;have h8:=bx (((((cO.o.set 4 rfl 0 (.bool false)).set 4 rfl 1 (.slice aa la.length ac)).set 4 rfl 2 (.bool false)).set 4 rfl 3 (.slice ba lb.length bc)).set 4 rfl 4 (.bool (U.aH d==47)));refine au.out _ _ (λ_=>⟨((h8.o.blk 2 rfl).cell 0).trans rfl,((h8.o.blk 2 rfl).cell 1).trans rfl,((h8.o.blk 0 rfl).cell 0).trans rfl,((h8.o.blk 0 rfl).cell 1).trans rfl⟩) ?_;clear au KK;refine kP 19 rfl λKK au=>?_
  go_simp;refine au.out _ _ (λh=>by cases h) ?_;clear au KK;refine kD ?_ _;go_wp2_with fail;have hl:=h8.o.jQ 3 rfl (.slice aa la.length ac,la) (by simp);have hr:=h8.o.jQ 1 rfl (.slice ba lb.length bc,lb) (by simp);exact bodyPost_ret (v:=.tuple #[.agg #[.bool false, .slice aa la.length ac, .bool false, .slice ba lb.length bc, .bool (U.aH d==47)], .bool true]) (Ei results182 _ _ w.heap.size 254 #[.bool false, .slice aa la.length ac, .bool false, .slice ba lb.length bc, .bool (U.aH d==47)] (0,0) _ rfl (h8.o.blk 4 rfl) underlying254 rfl ae5) rfl
   ⟨⟨_,_,by rw [yL.o],hl.1,hr.1⟩,h8.o.bel (n:=w.heap.size) (W0:=w) (by simp)⟩
 go_wp2_with fail;refine aP (J6.o _) ?_;go_wp2_with fail;have HB1:=bx (bQ.o.bel (n:=w.heap.size) (W0:=w) (by simp));refine(xM.o _ HB1.o).mono ?_;rintro e w2 ⟨⟨vl,rfl,hvl,hfl⟩,hb2⟩;have HS2:=bx (bQ.o.F9 (b:=TD) (y:=(vl,la)) hb2 ⟨hvl,λg hg=>(hfl g hg).2⟩ (λg hg=>(hfl g hg).1));obtain⟨aa,ac,rfl⟩:=KQ hvl;have aS:=bx (HS2.o.eu 252 #[.bool false, .slice aa la.length ac]);clear hb2 hvl hfl;go_wp2_with fail;generalize w2.heap.size=X at aS ⊢;generalize w2.alloc (.cells #[.bool false, .slice aa la.length ac] 252)=w3 at aS ⊢;refine aP (gG.o _) ?_;go_wp2_with fail;have HB3:=bx (aS.o.bel (n:=w.heap.size) (W0:=w) (by simp));refine(HPB.o _ HB3.o).mono ?_;rintro e w5 ⟨⟨vr,rfl,yw,Jv⟩,hb5⟩;have bG:=bx (aS.o.F9 (b:=TD) (y:=(vr,lb)) hb5 ⟨yw,λg hg=>(Jv g hg).2⟩ (λg hg=>(Jv g hg).1));obtain⟨ba,bc,rfl⟩:=KQ yw;have dV:=bx (bG.o.eu 252 #[.bool false, .slice ba lb.length bc]);clear hb5 yw Jv;go_wp2_with fail;generalize w5.heap.size=Y at dV ⊢;generalize w5.alloc (.cells #[.bool false, .slice ba lb.length bc] 252)=w6 at dV ⊢;refine jl 19 (λW=>ay W X 0=some (.bool false)/\ay W X 1=some (.slice aa la.length ac)/\ay W Y 0=some (.bool false)/\ay W Y 1=some (.slice ba lb.length bc)) (by kernel_rfl) ?_;have cO:=bx dV.o.drew;generalize w6.drew=w7 at cO ⊢;have hy:=cO.o.blk 0 rfl;have y0:w7.cell? ⟨Y,0,none⟩=some (.bool false):=(hy.cell 0).trans rfl;have y1:w7.cell? ⟨Y,1,none⟩=some (.slice ba lb.length bc):=(hy.cell 1).trans rfl;have hx:=cO.o.blk 2 rfl;have x0:w7.cell? ⟨X,0,none⟩=some (.bool false):=(hx.cell 0).trans rfl;have x1:w7.cell? ⟨X,1,none⟩=some (.slice aa la.length ac):=(hx.cell 1).trans rfl;have xl:=hx.lt;have yl:=hy.lt;have hr:=cO.o.blk 4 rfl;have r0:w7.cell? ⟨w.heap.size,0,none⟩=some (.bool false):=(hr.cell 0).trans rfl;have r1:w7.cell? ⟨w.heap.size,1,none⟩=some (aj):=(hr.cell 1).trans rfl;have r2:w7.cell? ⟨w.heap.size,2,none⟩=some (.bool false):=(hr.cell 2).trans rfl;have r3:w7.cell? ⟨w.heap.size,3,none⟩=some (aj):=(hr.cell 3).trans rfl;have r4:w7.cell? ⟨w.heap.size,4,none⟩=some (.bool false):=(hr.cell 4).trans rfl;have f0:=hr.frozen 0;have f1:=hr.frozen 1;have f2:=hr.frozen 2;have f3:=hr.frozen 3;have f4:=hr.frozen 4;have rl:=hr.lt;clear hx hy hr;have gK:=bx (show (λW=>ay W X 0=some (.bool false)/\ay W X 1=some (.slice aa la.length ac)/\ay W Y 0=some (.bool false)/\ay W Y 1=some (.slice ba lb.length bc)) w7 from⟨x0,x1,y0,y1⟩);clear x0 x1 y0 y1;refine jB [0,1,2,3,4,5,6,7,8,9,10,11,12,13,14,15,16,17] ?_
 iterate 18 (refine jA ?_ rfl gK.o ?_ ?_;rotate_left;·rintro w ⟨q1,q2,q3,q4⟩;go_simp;try with_reducible rfl)
 refine jr ?_;refine kP 18 rfl λKK au=>?_
 go_simp;have h8:=bx (((((cO.o.set 4 rfl 0 (.bool false)).set 4 rfl 1 (.slice aa la.length ac)).set 4 rfl 2 (.bool false)).set 4 rfl 3 (.slice ba lb.length bc)).set 4 rfl 4 (.bool (U.aH d==47)));refine au.out _ _ (λ_=>⟨((h8.o.blk 2 rfl).cell 0).trans rfl,((h8.o.blk 2 rfl).cell 1).trans rfl,((h8.o.blk 0 rfl).cell 0).trans rfl,((h8.o.blk 0 rfl).cell 1).trans rfl⟩) ?_;clear au KK;refine kP 19 rfl λKK au=>?_
 go_simp;refine au.out _ _ (λh=>by cases h) ?_;clear au KK;refine kD ?_ _;go_wp2_with fail;have hl:=h8.o.jQ 3 rfl (.slice aa la.length ac,la) (by simp);have hr:=h8.o.jQ 1 rfl (.slice ba lb.length bc,lb) (by simp);exact bodyPost_ret (v:=.tuple #[.agg #[.bool false, .slice aa la.length ac, .bool false, .slice ba lb.length bc, .bool (U.aH d==47)], .bool true]) (Ei results182 _ _ w.heap.size 254 #[.bool false, .slice aa la.length ac, .bool false, .slice ba lb.length bc, .bool (U.aH d==47)] (0,0) _ rfl (h8.o.blk 4 rfl) underlying254 rfl ae5) rfl
  ⟨⟨_,_,by rw [yL.o],hl.1,hr.1⟩,h8.o.bel (n:=w.heap.size) (W0:=w) (by simp)⟩
theorem au2 (s:List UInt8) (nv:Value) (names:List (List UInt8)) (r:D.Rule) (w:World) (hn:cZ w nv names) (hnb:F.zQ names=true) (hnl:F.split 10 s=[s]) (hne:F.trim ((F.split 35 s).headD [])≠[]) (hok:F.KY names (F.trim ((F.split 35 s).headD []))=some r) (hz:s.length<=20000) :
  Calls prog 103 #[.string (bs s),nv] w λe w'=>(∃ v,e = .returned (.tuple #[v, ah 0, ah 0])/\iD w' v [r])/\ak w w':=by
 have ku:=bx (Uf nv names w hn hnb);have wH:=bx (λW=>show Calls prog 180 #[.string (bs s), .int .u8 10] W λe w'=>(∃ v,e = .returned v/\cZ w' v (F.split 10 s))/\ak W w' from OQ s 10 W (by omega));rw [hnl] at wH;obtain⟨h,t,adx,ayU⟩:=Qx 35 s;have HS2:=bx (λW=>show Calls prog 180 #[.string (bs s), .int .u8 35] W λe w'=>(∃ v,e = .returned v/\cZ w' v (F.split 35 s))/\ak W w' from OQ s 35 W (by omega));rw [adx] at HS2 hne hok;rw [List.headD_cons] at hne hok;have lq:=bx (λW=>Me h W (by omega));have hTl:(F.trim h).length<=20000:=by have:=F.JD h;omega
 generalize F.trim h=T at lq hne hok hTl;have wu:=bx (λW (hb:ak w W)=>aw1 T nv names r W (hn.below hb) hnb hok hTl);have hemp:=DC hne;clear hn hnb hnl hne hok adx hTl
 go_in
 go_wp2_with fail;refine ku.o.mono ?_;rintro e w1 ⟨rfl,nd,rfl⟩;have HB1:=bx (uT w nd);generalize w.drewN nd=w1 at HB1 ⊢;go_wp2_with fail;refine(wH.o _).mono ?_;rintro e w2 ⟨⟨v,rfl,hv⟩,hb2⟩;have HB2:=aJ HB1 hb2;obtain⟨g,off,cap,rfl,q2,q3,q4,q5⟩:=hv.get (by simp);have hc:=q5 0 s rfl;rw [Nat.add_zero] at hc;unfold maxLen at q3;rw [List.length_singleton] at q2 ⊢;have HG:=bx q4;clear hb2 hv q5;go_wp2_with fail;refine wp_loop_rounds 2 ?_;rw [rounds_succ];go_wp2_with fail;refine(HS2.o _).mono ?_;rintro e w3 ⟨⟨v,rfl,hv⟩,hb3⟩;have HB3:=aJ HB2 hb3;obtain⟨g',off',cap',rfl,p2,p3,p4,p5⟩:=hv.get (by simp);have hc':=p5 0 h rfl;rw [Nat.add_zero] at hc';rw [dY] at p2 ⊢;unfold maxLen at p3;obtain⟨n',hn'⟩:∃ n',t.length=n':=⟨_,rfl⟩
 rw [hn'] at p2 ⊢;clear hb3 hv p5 hc q4 hn';go_wp2_with fail;refine aP (lq.o _) ?_;clear hc' p4;go_wp2_with fail;refine(wu.o _ HB3.o).mono ?_;rintro e w5 ⟨⟨vl,vr,rfl,hvl,yw⟩,hb5⟩;have bU:=aJ HB3 hb5;obtain⟨aa,ac,rfl⟩:=KQ hvl;obtain⟨ba,bc,rfl⟩:=KQ yw;have wV:=bx hvl;have TU:=bx yw;have dV:=bx (((Sep.start w5).kV w5.heap.size 5 254).eu 254 #[.bool r.1.1, .slice aa r.1.2.length ac, .bool r.2.1.1, .slice ba r.2.1.2.length bc, .bool r.2.2]);have dU:=bx (show (w5.alloc (.cells #[.bool r.1.1, .slice aa r.1.2.length ac, .bool r.2.1.1, .slice ba r.2.1.2.length bc, .bool r.2.2] 254)).heap.size=w5.heap.size+1 by simp);have hwz:w5.heap.size<=(w5.alloc (.cells #[.bool r.1.1, .slice aa r.1.2.length ac, .bool r.2.1.1, .slice ba r.2.1.2.length bc, .bool r.2.2] 254)).heap.size:=by simp
 clear hb5 hvl yw;go_wp2_with (at_builtin;refine Bh (cs:=Ag (r, .slice aa r.1.2.length ac, .slice ba r.2.1.2.length bc)) rfl _ _ 26 rfl adh (by decide) dV.o 1 rfl rfl (by rw [dU.o];rfl) rfl (by intro u hu;simp only [Ag,fB,iH,or_false] at hu;rcases hu with rfl | rfl | rfl | rfl | rfl <;> rfl) (by omega) (by omega) hwz ?_;rintro v' w6 hS7 ⟨go',gc',rfl,-,-⟩)
 have hbe:=hS7.bel (n:=w5.heap.size) (W0:=w5) (by simp);have HRU:=bx (show iD w6 (.slice (some ⟨go',0,none⟩) (0+1) gc') [r] from afs (L:=[(r, .slice aa r.1.2.length ac, .slice ba r.2.1.2.length bc)]) (by have h9:=hS7.row 1 rfl;simpa using h9) rfl (λy hy=>by rw [fU.1 hy];exact⟨wV.o.below hbe,TU.o.below hbe⟩));have eY:=aJ bU hbe;clear hS7 hbe;go_wp2_with fail;rw [rounds_succ];go_wp2_with fail
 go_ret3
 exact⟨⟨_,rfl,HRU.o⟩,eY.o⟩
structure Tab where
 n:Int
 p:F.Trie
 r:List D.Rule
 m:D.gJ
def TabAt (w:World) (v:Value) (t:Tab):Prop:=∃ pi pb rv nv fv,v = .agg #[ah t.n,pi,pb,rv,nv,fv]/\aN w pi t.p.1/\iF w pb t.p.2/\iD w rv t.r/\iF w nv t.m.1/\aN w fv t.m.2
theorem TabAt.below {w w':World} {v:Value} {t:Tab} (h:TabAt w v t) (hb:ak w w'):TabAt w' v t:=by
 obtain⟨pi,pb,rv,nv,fv,h0,h1,h2,h3,h4,h5⟩:=h;exact⟨pi,pb,rv,nv,fv,h0,h1.below hb,h2.below hb,h3.below hb,h4.below hb,h5.below hb⟩
theorem awM {w:World} {n:Int} {p:F.Trie} {r:List D.Rule} {m:D.gJ} {pi pb rv nv fv:Value} (h1:aN w pi p.1) (h2:iF w pb p.2) (h3:iD w rv r) (h4:iF w nv m.1) (h5:aN w fv m.2):TabAt w (.agg #[ah n,pi,pb,rv,nv,fv]) ⟨n,p,r,m⟩:=⟨pi,pb,rv,nv,fv,rfl,h1,h2,h3,h4,h5⟩
theorem aee:(prog.info? 31).map (·.size)=some 6:=by kernel_rfl
section
variable {W W':World} {R:Nat} {T:TypeId}
def JH:Array Value:=#[ah 0, aj, aj, aj, aj, aj]
theorem NU {j:Nat} {u:Value} (h:aC W R T JH) (hu:ay W R j=some u):(j=0/\u = ah 0)\/(0<j/\u = aj):=by
 unfold ay at hu;rw [h.cell j] at hu;unfold JH at hu
 match j with
 | 0=>left;exact⟨rfl,by simpa using hu.symm⟩
 | 1 | 2 | 3 | 4 | 5=>right;exact⟨by omega,by simpa using hu.symm⟩
 | j+6=>simp at hu
def Le (xs:List Int):Bool:=decide (2<=xs.length)||(!xs.isEmpty&&xs.headD 0 != 0)
theorem XE {v:Value} {xs:List Int} (hb:aC W R T JH) (ht:Turns (λq=>q=R) W W') (h:aN W v xs) (h2:Le xs=true):aN W' v xs:=by
 obtain⟨b,off,cap,rfl,h3,h4,h5,h6⟩:=h.get (by rintro rfl;simp [Le] at h2);have hne:b≠R:=by
  rintro rfl;unfold Le at h2;rw [Bool.or_eq_true] at h2
  rcases h2 with h2 | h2
  ·have h2:=of_decide_eq_true h2;have e1:=h6 1 xs[1] (dW (by omega))
   rcases NU hb e1 with⟨h7,-⟩ | ⟨-,h7⟩
   ·omega
   cases h7
  match xs,h2 with
  | x::t,h2 =>
   have e1:=h6 0 x rfl
   rcases NU hb e1 with⟨-,h7⟩ | ⟨-,h7⟩
   ·injection h7 with _ h7;subst h7;simp at h2
   cases h7
 exact WM h ht.size (λg hg=>by simp [Value.ownBlock] at hg;subst hg;exact ht.block _ h5 hne)
theorem afW {v:Value} {rows:List (List Int)} (hb:aC W R T JH) (ht:Turns (λq=>q=R) W W') (h:iF W v rows) (hn:rows≠[]) (h2:∀ r∈rows,2<=r.length):iF W' v rows:=by
 obtain⟨b,off,cap,rfl,h3,h4,h5,h6⟩:=h.get hn;have hne:b≠R:=by
  rintro rfl;obtain⟨r0,hr0⟩:=bV rows 0 (List.length_pos_iff.2 hn);obtain⟨x,hx,hi⟩:=h6 0 r0 hr0;have h7:=h2 r0 (dB hr0)
  rcases NU hb hx with⟨-,rfl⟩ | ⟨-,rfl⟩
  ·rcases hi with⟨h8,-⟩ | ⟨_,_,_,_,h8,-⟩ <;> cases h8
  rcases hi with⟨-,rfl⟩ | ⟨_,_,_,_,h8,-⟩
  ·simp at h7
  injection h8 with h8;cases h8
 refine .inr ⟨b,off,none,cap,rfl,h3,h4,λ_=>⟨rfl,fC h5 ht.size,λi r hr=>?_⟩⟩;obtain⟨x,hx,hi⟩:=h6 i r hr;exact⟨x,(World.cell?_of_block (ht.block b h5 hne)).trans hx,XE hb ht hi (by unfold Le;rw [bD (h2 r (dB hr))];rfl)⟩
theorem aiI {v:Value} {l:List N.Item} (hb:aC W R T JH) (ht:Turns (λq=>q=R) W W') (h:fE W v l):fE W' v l:=by
 rcases h with h | ⟨b,off,sp,cap,rfl,h3,h4,h5⟩
 ·exact .inl h
 refine .inr ⟨b,off,sp,cap,rfl,h3,h4,λhn=>?_⟩;obtain⟨rfl,h6,h7⟩:=h5 hn;have hne:b≠R:=by
  rintro rfl;obtain⟨x,hx⟩:=bV l 0 (List.length_pos_iff.2 hn)
  rcases NU hb (h7 0 x hx).2 with⟨h8,-⟩ | ⟨-,h8⟩
  ·omega
  cases h8
 exact⟨rfl,fC h6 ht.size,λi x hx=>⟨(World.cell?_of_block (ht.block b h6 hne)).trans (h7 i x hx).1,(World.cell?_of_block (ht.block b h6 hne)).trans (h7 i x hx).2⟩⟩
theorem alQ {v:Value} {l:List D.Rule} (hb:aC W R T JH) (ht:Turns (λq=>q=R) W W') (h:iD W v l) (hn:l≠[]):iD W' v l:=by
 obtain⟨b,off,cap,rfl,h3,h4,h5,h6⟩:=h.get hn;have hne:b≠R:=by
  rintro rfl;obtain⟨x,hx⟩:=bV l 0 (List.length_pos_iff.2 hn);obtain⟨vl,vr,h7,-⟩:=h6 0 x hx
  rcases NU hb h7 with⟨-,h8⟩ | ⟨-,h8⟩ <;> cases h8
 refine .inr ⟨b,off,none,cap,rfl,h3,h4,λ_=>⟨rfl,fC h5 ht.size,λi x hx=>?_⟩⟩;obtain⟨vl,vr,k0,k1,k2,k3,k4,k5,k6⟩:=h6 i x hx;have hc:∀ (j:Nat) (u:Value),ay W b j=some u->ay W' b j=some u:=λj u h=>(World.cell?_of_block (ht.block b h5 hne)).trans h
 exact⟨vl,vr,hc _ _ k0,hc _ _ k1,hc _ _ k2,hc _ _ k3,hc _ _ k4,aiI hb ht k5,aiI hb ht k6⟩
end
def YR (m:D.gJ):Bool:=decide (m.1≠[])&&m.1.all (λr=>decide (2<=r.length))&&Le m.2
theorem F.afI (l:List F.bI):(F.iC l).2≠[]:=by
 intro h;obtain⟨n,-,h2⟩:=(F.built l 4352).at' 0 (by omega);have e:(F.pR l 4352).2=[]:=h;rw [e] at h2;simp at h2
theorem axr (props rules:List UInt8) (nv:Value) (names:List (List UInt8)) (t:List F.bI) (r:D.Rule) (w:World) (hn:cZ w nv names) (hnb:F.zQ names=true) (hp:F.BI props names false=some t) (ht:F.uy t=true)
  (hnl:F.split 10 rules=[rules]) (hne:F.trim ((F.split 35 rules).headD [])≠[]) (hok:F.KY names (F.trim ((F.split 35 rules).headD []))=some r) (hz:rules.length<=20000) (hf:uS r) (hc:D8 [r] (names.length:Int)=0) (hmf:YR (Aj [r] (names.length:Int))=true) :
  Calls prog 47 #[.string (bs props), .string (bs rules),nv] w λe w'=>(∃ v,e = .returned (.tuple #[v, ah 0, ah 0])/\TabAt w' v ⟨names.length,F.iC t,[r],Aj [r] names.length⟩)/\ak w w':=by
 obtain⟨TT,zM⟩:∃ TT,F.iC t=TT:=⟨_,rfl⟩
 obtain⟨MM,QG⟩:∃ MM,Aj [r] (names.length:Int)=MM:=⟨_,rfl⟩
 have qC:=bx (show TT.1.length=4352/\TT.2≠[]/\∀ x∈TT.2,x.length=256 from zM▸⟨(F.JY t 4352).1,F.afI t,(F.JY t 4352).2.2⟩);rw [zM,QG];rw [QG] at hmf;obtain⟨na,nc,rfl,hc1,hc2⟩:=hn.slice;have hb0:=dA w (.cells #[ah 0, aj, aj, aj, aj, aj] 31);have qF:=bx (Y9 props _ names false t _ (hn.below hb0) hnb hp);have xM:=bx (λW (hb:ak w W)=>au2 rules _ names r W (hn.below hb) hnb hnl hne hok hz);have oD:=bx (λrv W (hr:iD W rv [r])=>show Calls prog 104 #[rv, ah (names.length:Int)] W λe w'=>ak W w'/\∃ mv,e = .returned (.tuple #[mv, ah 0])/\tZ w' mv MM by
  have h9:=auN rv [r] (names.length:Int) W (λx hx=>by rw [fU.1 hx];exact hf) hr (by simp);unfold ac7 at h9;rw [hc,QG] at h9;exact h9)
 have I8:=bx (λlv W (hl:jO W lv t)=>zM▸abr lv t W hl ht);have HB0:=bx hb0;have HR0:=bx (aC.new w 31 #[ah 0, aj, aj, aj, aj, aj]);have Kw:=bx hmf;clear hn hb0 hnb hp ht hnl hne hok hf hc hmf zM QG
 go_in
 go_wp2_with fail;refine qF.o.mono ?_;rintro e w1 ⟨⟨lv,rfl,hlv⟩,hb1⟩;have HB1:=aJ HB0 hb1;have HR1:=HR0.ub hb1;have qG:=bx hlv;clear hb1 hlv;go_wp2_with fail;refine(xM.o _ HB1.o).mono ?_;rintro e w2 ⟨⟨rv,rfl,Lp⟩,hb2⟩;have HB2:=aJ HB1 hb2;have HR2:=HR1.ub hb2;have HL2:=bx (qG.o.below hb2);have IX:=bx Lp;clear hb2 Lp;go_wp2_with fail;obtain⟨ra,rc,rfl⟩:=IX.o.slice;refine(oD.o _ w2 IX.o).mono ?_;rintro e w3 ⟨hb3,mv,rfl,hmv⟩;have HB3:=aJ HB2 hb3;have HR3:=HR2.ub hb3;have zI:=bx (HL2.o.below hb3);have sV:=bx (IX.o.below hb3);have F6:=bx hmv;obtain⟨mn,mf,rfl,hmn,RF⟩:=hmv;obtain⟨ma,mc,rfl⟩:=hmn.slice;obtain⟨fa,fc,rfl⟩:=RF.slice;clear hb3 hmn RF;go_wp2_with fail;have k4:=dA w3 (.cells #[.slice ma (MM).1.length mc, .slice fa (MM).2.length fc] 29);have BJ:=bx (aC.new w3 29 #[.slice ma (MM).1.length mc, .slice fa (MM).2.length fc]);have HB4:=aJ HB3 k4;have HR4:=HR3.ub k4;have U0:=bx (zI.o.below k4);have FM:=bx (sV.o.below k4);have Wy:=bx (F6.o.below k4);clear k4;obtain⟨M,hM⟩:∃ M,w3.heap.size=M:=⟨_,rfl⟩
 rw [hM] at BJ ⊢;generalize w3.alloc (.cells #[.slice ma (MM).1.length mc, .slice fa (MM).2.length fc] 29)=w4 at BJ HB4 HR4 U0 FM Wy ⊢;clear hM;refine(I8.o lv w4 U0.o).mono ?_;rintro e w5 ⟨⟨tv,rfl,IV⟩,hb5⟩;have bU:=aJ HB4 hb5;have Wv:=HR4.ub hb5;have Cc:=BJ.ub hb5;have HV5:=bx (FM.o.below hb5);have OX:=bx (Wy.o.below hb5);have MK:=bx IV;obtain⟨iv,bv,rfl,hiv,hbv⟩:=IV;obtain⟨ia,ic,rfl⟩:=hiv.slice;obtain⟨ba,bc,rfl⟩:=hbv.slice;clear hb5 hiv hbv;clear oD I8 xM qF F6 Wy BJ HR0 HR1 HR2 HR3 HR4 HB0 HB1 HB2 HB3 HB4 HL2 zI U0 qG IX sV FM;have k6:=dA w5 (.cells #[.slice ia TT.1.length ic, .slice ba TT.2.length bc] 25);have eY:=aJ bU k6;have nP:=Wv.ub k6;have Qe:=bx (HV5.o.below k6);have HM6:=bx (OX.o.below k6);have PD:=bx (MK.o.below k6);have hk:=Cc.o.below k6 Cc.o.lt;have m0:=(hk.cell 0).trans (show _=some (Value.slice ma MM.1.length mc) from rfl);have m1:=(hk.cell 1).trans (show _=some (Value.slice fa MM.2.length fc) from rfl);have ml:=hk.lt;have r0:=(nP.o.cell 0).trans (show _=some (Value.int .i64 0) from rfl);have r1:=(nP.o.cell 1).trans (show _=some (Value.slice none 0 0) from rfl);have r2:=(nP.o.cell 2).trans (show _=some (Value.slice none 0 0) from rfl);have r3:=(nP.o.cell 3).trans (show _=some (Value.slice none 0 0) from rfl);have r4:=(nP.o.cell 4).trans (show _=some (Value.slice none 0 0) from rfl);have r5:=(nP.o.cell 5).trans (show _=some (Value.slice none 0 0) from rfl);have f0:=nP.o.frozen 0;have f1:=nP.o.frozen 1;have f2:=nP.o.frozen 2;have f3:=nP.o.frozen 3;have f4:=nP.o.frozen 4;have f5:=nP.o.frozen 5;have rl:=nP.o.lt;clear k6 hk;go_wp2_with fail;have hT:Turns (λq=>q=w.heap.size) (w5.alloc (.cells #[.slice ia TT.1.length ic, .slice ba TT.2.length bc] 25)) (((((((w5.alloc (.cells #[.slice ia TT.1.length ic, .slice ba TT.2.length bc] 25)).setCell ⟨w.heap.size,0,none⟩ (ah ↑names.length)).setCell ⟨w.heap.size,1,none⟩ (.slice ia TT.1.length ic)).setCell ⟨w.heap.size,2,none⟩ (.slice ba TT.2.length bc)).setCell ⟨w.heap.size,3,none⟩ (.slice ra 1 rc)).setCell ⟨w.heap.size,4,none⟩ (.slice ma MM.1.length mc)).setCell ⟨w.heap.size,5,none⟩ (.slice fa MM.2.length fc)):=((((((Turns.setCell (own:=λq=>q=w.heap.size) _ (p:=⟨w.heap.size,0,none⟩) rfl _).trans (Turns.setCell (own:=λq=>q=w.heap.size) _ (p:=⟨w.heap.size,1,none⟩) rfl _)).trans (Turns.setCell (own:=λq=>q=w.heap.size) _ (p:=⟨w.heap.size,2,none⟩) rfl _)).trans (Turns.setCell (own:=λq=>q=w.heap.size) _ (p:=⟨w.heap.size,3,none⟩) rfl _)).trans (Turns.setCell (own:=λq=>q=w.heap.size) _ (p:=⟨w.heap.size,4,none⟩) rfl _)).trans (Turns.setCell (own:=λq=>q=w.heap.size) _ (p:=⟨w.heap.size,5,none⟩) rfl _))
 have ZT:=Kw.o;unfold YR at ZT;simp only [dD,fD,jG] at ZT;obtain⟨⟨hm1,hm2⟩,L6⟩:=ZT;obtain⟨iv,bv,e1,ht1,ht2⟩:=PD.o;injection e1 with e1;simp only [Array.mk.injEq,jm,and_true] at e1;obtain⟨rfl,rfl⟩:=e1;obtain⟨iv,bv,e2,hq1,hq2⟩:=HM6.o;injection e2 with e2;simp only [Array.mk.injEq,jm,and_true] at e2;obtain⟨rfl,rfl⟩:=e2;have hres:aC (w5.alloc (.cells #[.slice ia TT.1.length ic, .slice ba TT.2.length bc] 25)) w.heap.size 31 JH:=nP.o;have q1:=XE hres hT ht1 (by unfold Le;rw [qC.o.1];rfl);have q2:=afW hres hT ht2 qC.o.2.1 (λx hx=>by have:=qC.o.2.2 x hx;omega);have q3:=alQ hres hT Qe.o (by simp);have q4:=afW hres hT hq1 hm1 hm2;have q5:=XE hres hT hq2 L6;have apO:TabAt (((((((w5.alloc (.cells #[.slice ia TT.1.length ic, .slice ba TT.2.length bc] 25)).setCell ⟨w.heap.size,0,none⟩ (ah ↑names.length)).setCell ⟨w.heap.size,1,none⟩ (.slice ia TT.1.length ic)).setCell ⟨w.heap.size,2,none⟩ (.slice ba TT.2.length bc)).setCell ⟨w.heap.size,3,none⟩ (.slice ra 1 rc)).setCell ⟨w.heap.size,4,none⟩ (.slice ma MM.1.length mc)).setCell ⟨w.heap.size,5,none⟩ (.slice fa MM.2.length fc)) (.agg #[ah ↑names.length, .slice ia TT.1.length ic, .slice ba TT.2.length bc, .slice ra 1 rc, .slice ma MM.1.length mc, .slice fa MM.2.length fc]) ⟨↑names.length,TT,[r],MM⟩:=awM q1 q2 q3 q4 q5;refine bodyPost_ret (v:=.tuple #[.agg #[ah ↑names.length, .slice ia TT.1.length ic, .slice ba TT.2.length bc, .slice ra 1 rc, .slice ma MM.1.length mc, .slice fa MM.2.length fc], ah 0, ah 0]) (JE results47 _ _ w.heap.size 31 #[ah ↑names.length, .slice ia TT.1.length ic, .slice ba TT.2.length bc, .slice ra 1 rc, .slice ma MM.1.length mc, .slice fa MM.2.length fc] (0,0) _ rfl ((((((nP.o.bJ 0 (ah ↑names.length)).bJ 1 (.slice ia TT.1.length ic)).bJ 2 (.slice ba TT.2.length bc)).bJ 3 (.slice ra 1 rc)).bJ 4 (.slice ma MM.1.length mc)).bJ 5 (.slice fa MM.2.length fc)) underlying31 rfl aee) rfl
  ⟨⟨_,rfl,apO⟩,((((((eY.o.setCell aU _).setCell aU _).setCell aU _).setCell aU _).setCell aU _).setCell aU _)⟩
theorem arA {n m:Nat} {W0 w:World} {ps:List Pc} {iv bv:Value} {xs:List Int} {L:List (Value×List Int)} (h:Sep (Pc.row m 3 1 iv xs.length (xs.map (Value.int .i64))::Pc.row m 22 1 bv L.length (L.map (·.1))::Pc.jQ qO L::Pc.old n W0::ps) w) (hm:n<=m):Sep (Cb n W0 ps iv bv xs L) w :=
 (h.as 0 (p':=Pc.row n 3 1 iv xs.length (xs.map (Value.int .i64))) rfl (λhr=>own_base hr hm) (λ_ hk=>hk)).as 1 (p':=Pc.row n 22 1 bv L.length (L.map λy:Value×List Int=>y.1)) rfl (λhr=>own_base (xs:=L.map λy:Value×List Int=>y.1) hr hm) (λ_ hk=>hk)
theorem adu (W:World) (a b:List UInt8) (T:TypeId):cZ (W.alloc (.cells #[.string (bs a), .string (bs b)] T)) (.slice (some ⟨W.heap.size,0,none⟩) 2 2) [a,b] :=
 gB.Q9 (xs:=[a,b].map gW) (T:=T) (aC.new W T #[.string (bs a), .string (bs b)]) (by simp)
theorem agW (file name:List UInt8) (t:List F.bI) (w:World) (hnb:F.zQ [[78,111],name]=true) (hp:F.BI file [[78,111],name] true=some t) (ht:F.uy t=true) :
  Calls prog 109 #[.string (bs file), .string (bs name)] w λe w'=>∃ iv bv L,e = .returned (.tuple #[.agg #[iv,bv], ah 0, ah 0])/\L.map (·.2)=(F.iC t).2/\Sep (Cb w.heap.size w [] iv bv (F.iC t).1 L) w':=by
 obtain⟨TT,zM⟩:∃ TT,F.iC t=TT:=⟨_,rfl⟩
 rw [zM];obtain⟨V,hV⟩:∃ V,V=w.alloc (.cells #[aj, aj] 25):=⟨_,rfl⟩
 have hVs:V.heap.size=w.heap.size+1:=by rw [hV];simp
 have bQ:=bx (show Sep [Pc.blk w.heap.size 25 #[aj, aj],Pc.old w.heap.size w] V by rw [hV];exact(Sep.start w).eu 25 #[aj, aj]);have nC:=bx (adu V [78,111] name 9);have qF:=bx (Y9 file _ [[78,111],name] true t (V.alloc (.cells #[.string (bs [78,111]), .string (bs name)] 9)) nC.o hnb hp);have I8:=bx (λlv W (hl:jO W lv t)=>zM▸ajo lv t W hl ht);have HV:=bx hV;clear hnb hp ht zM hVs hV
 go_in
 go_upto_region 1 with(fail)
 rw [<- HV.o];have hno:bs [78,111]={ data:=#[78,111] }:=rfl;rw [hno] at qF;go_wp2_with fail;refine qF.o.mono ?_;rintro e w1 ⟨⟨lv,rfl,hlv⟩,hb1⟩;have eG:=bx ((bQ.o.alloc (.cells #[.string { data:=#[78,111] }, .string (bs name)] 9)).below hb1);have qG:=bx hlv;have hle:w.heap.size<=w1.heap.size:=(eG.o.bel (n:=w.heap.size) (W0:=w) (by simp)).size;clear hb1 hlv;go_wp2_with fail;refine(I8.o lv w1 qG.o).mono ?_;rintro e w2 ⟨iv,bv,L,rfl,hL,hS2⟩;have HL:=bx hL;have HS2:=bx (eG.o.frame (qs:=[_,_,_]) hS2);obtain⟨ia,ic,rfl,hi1,hi2⟩:=gI (hS2.row 0 rfl);obtain⟨ba,bc,rfl,hb1,hb2⟩:=gI (hS2.row 1 rfl);clear hL hS2;have aS:=bx (HS2.o.eu 25 #[.slice ia TT.1.length ic, .slice ba L.length bc]);have hr:=aS.o.blk 4 rfl;have r0:=(hr.cell 0).trans (show _=some (Value.slice none 0 0) from rfl);have r1:=(hr.cell 1).trans (show _=some (Value.slice none 0 0) from rfl);have f0:=hr.frozen 0;have f1:=hr.frozen 1;have rl:=hr.lt;clear hr;go_wp2_with fail;have h6:=(aS.o.set 4 rfl 0 (.slice ia TT.1.length ic)).set 4 rfl 1 (.slice ba L.length bc);refine bodyPost_ret (v:=.tuple #[.agg #[.slice ia TT.1.length ic, .slice ba L.length bc], ah 0, ah 0]) (JE results109 _ _ w.heap.size 25 #[.slice ia TT.1.length ic, .slice ba L.length bc] (0,0) _ rfl (h6.blk 4 rfl) underlying25 rfl TL) rfl ⟨_,_,L,rfl,HL.o,?_⟩;exact arA ((h6.drop 4).tail) hle
theorem ajY {w:World} {b off K:Nat} {xs:List (List Value)} (hK:0<K) (h:∀ (i:Nat) (c:List Value),xs[i]?=some c->∀ (j:Nat) (u:Value),c[j]?=some u->w.cell? ⟨b,off+i*K+j,none⟩=some u) (hk:∀ c∈xs,c.length=K) (n cap:Nat):tH w (.slice (some ⟨b,off,none⟩) n cap) n xs.flatten:=by
 refine .inr ⟨_,_,rfl,λj u hu=>?_⟩;have hfl:xs.flatten.length=xs.length*K:=by
  clear h hu
  induction xs with
  | nil=>simp
  | cons c t ih=>rw [pY,bC,hk c (jZ ..),ih (λc hc=>hk c (mZ _ hc)),dY,Nat.succ_mul,Nat.add_comm]
 have hj:j<xs.length*K:=by rw [<- hfl];exact(dO hu).1
 have hi:j / K<xs.length:=Nat.div_lt_of_lt_mul (by rw [Nat.mul_comm];exact hj);obtain⟨c,hc⟩:=bV xs (j / K) hi;have hcl:=hk c (dB hc);have hm:j % K<K:=Nat.mod_lt _ hK;obtain⟨u',hu'⟩:∃ u',c[j % K]?=some u':=⟨_,dW (by omega)⟩
 have h1:=Vr hk hc hu';have ej:j / K*K+j % K=j:=by rw [Nat.mul_comm];exact Nat.div_add_mod j K
 rw [ej,hu] at h1
 cases h1;have h2:=h (j / K) c hc (j % K) u hu'
 (try unfold ay at *);rw [show (⟨b,off,none⟩:Addr).add j=⟨b,off+j / K*K+j % K,none⟩ by unfold Addr.add;by_cases h0:j=0 <;> simp [h0];omega]
 exact h2
def fK (y:Int×Value):List Value:=[ah y.1,y.2]
def isSlice (v:Value):Prop:=∃ a n c,v = .slice a n c
theorem Zp (l:List (Int×Value)):(l.flatMap fK).length=l.length*2:=by
 induction l with
 | nil=>rfl
 | cons x t ih=>rw [pq,bC,ih,dY];simp [fK];omega
theorem YM {l:List (Int×Value)} (h:∀ y∈l,isSlice y.2):∀ u∈l.flatMap fK,u.oneCell'=true:=by
 intro u hu;obtain⟨y,hy,hu⟩:=List.mem_flatMap.1 hu;simp only [fK,fB,iH,or_false] at hu;obtain⟨a,n,c,e⟩:=h y hy
 rcases hu with rfl | rfl
 ·rfl
 rw [e];rfl
theorem Gj:zk prog 34 272 2 32:=.mk' (z:=.agg #[ah 0, aj]) underlying34 (by kernel_rfl) rfl
def uD (l:List (Int×Value)) (r:Int) (t:Value):List (Int×Value) :=
 l.takeWhile (λy=>decide (y.1<r))++(r,t)::match l.dropWhile (λy=>decide (y.1<r)) with
  | []=>[]
  | x::q=>if x.1=r then q else x::q
theorem apU {l:List (Int×Value)} {a:Int}:∀ {k:Nat},(∀ (j:Nat) (y:Int×Value),j<k->l[j]?=some y->y.1<a)->k<=l.length->(∀ y,l[k]?=some y->¬ y.1<a)->l.takeWhile (λy=>decide (y.1<a))=l.take k/\l.dropWhile (λy=>decide (y.1<a))=l.drop k:=by
 induction l with
 | nil =>
  intro k _ hk _;simp at hk;subst hk;exact⟨rfl,rfl⟩
 | cons x t ih =>
  intro k h1 hk h2
  cases k with
  | zero =>
   have hx:=h2 x rfl;exact⟨List.takeWhile_cons_of_neg (by simpa using hx),List.dropWhile_cons_of_neg (by simpa using hx)⟩
  | succ k =>
   have hx:=h1 0 x (by omega) rfl;obtain⟨i1,i2⟩:=ih (k:=k) (λj y hj hy=>h1 (j+1) y (by omega) (by simpa using hy)) (by simp at hk;omega) (λy hy=>h2 y (by simpa using hy));rw [List.takeWhile_cons_of_pos (by simpa using hx),List.dropWhile_cons_of_pos (by simpa using hx),i1,i2];exact⟨rfl,rfl⟩
theorem UO (a:Option Addr) (N cap k:Nat) (l:List (Int×Value)) (hk:k<=N) (hc:N<=cap) (hz:cap<=9223372036854775807) (hN:l.length=N) {w0:World} (h0:nZ 2 w0 (.slice a N cap) (l.map fK)):∃ L Y,L+k=N/\(∀ W,(Instr.slice 34 (.slice a N cap) (some (ah (k:Int))) none none).run prog W = .ok Y W)/\∀ W,nZ 2 W (.slice a N cap) (l.map fK)->tH W Y L ((l.drop k).flatMap fK):=by
 subst hN;have hkc:k<=cap:=by omega
 cases a with
 | none =>
  obtain⟨rfl,rfl⟩:l=[]/\cap=0:=by
   rcases h0 with⟨h1,h2⟩ | ⟨b,off,sp,cap2,h1,_⟩
   ·injection h1 with h1 h2' h3';exact⟨by simpa using h2',h3'⟩
   injection h1 with h1;cases h1
  obtain rfl:k=0:=by simpa using hk
  exact⟨0, aj,rfl,λW=>by go_simp,λW _=>.inl ⟨rfl,rfl,rfl⟩⟩
 | some ad =>
  have key:∀ (ad':Addr),(k<l.length->ad'=ad.add (k*2))->∀ W,nZ 2 W (.slice (some ad) l.length cap) (l.map fK)->tH W (.slice (some ad') (l.length-k) (cap-k)) (l.length-k) ((l.drop k).flatMap fK):=by
   intro ad' had W hW
   by_cases hn:l=[]
   ·subst hn;exact .inr ⟨_,_,rfl,λj u hu=>by simp at hu⟩
   obtain⟨b,off,cap2,e1,-,-,-,hg⟩:=hW.get (by simpa using hn);obtain⟨rfl,rfl⟩:ad=⟨b,off,none⟩/\cap=cap2:=by injection e1 with h1 h2 h3;injection h1 with h1;exact⟨h1,h3⟩
   rcases gZ k l.length with h1 | h1
   ·rw [had h1,show (⟨b,off,none⟩:Addr).add (k*2)=⟨b,off+k*2,none⟩ by unfold Addr.add;by_cases h0:k*2=0 <;> simp [h0],QV];refine ajY (K:=2) (by omega) (λi c hc' j u hu=>?_) (λc hc'=>by obtain⟨y,-,rfl⟩:=jM.1 hc';rfl) _ _;rw [eX,xY] at hc';have h9:=hg (k+i) c (by rw [eX];exact hc') j u hu;rw [show off+k*2+i*2+j=off+(k+i)*2+j by rw [BX];omega];exact h9
   rw [zF h1];exact .inr ⟨_,_,rfl,λj u hu=>by simp at hu⟩
  by_cases h:cap=k
  ·exact⟨l.length-k, .slice (some ad) (l.length-k) (cap-k),by omega,λW=>by go_simp,key ad (λh1=>by omega)⟩
  exact⟨l.length-k, .slice (some (ad.add (k*2))) (l.length-k) (cap-k),by omega,λW=>by go_simp,key _ (λ_=>rfl)⟩
theorem ac9 (v:Value) (l:List (Int×Value)) (r:Int) (tv:Value) (w:World) (hv:nZ 2 w v (l.map fK)) (hsl:∀ y∈l,isSlice y.2) (IV:isSlice tv) (hz:l.length<=100000) :
  Calls prog 194 #[v, ah r,tv] w λe w'=>(∃ v',e = .returned v'/\w'.ownsRow w.heap.size 272 2 v' (uD l r tv).length ((uD l r tv).flatMap fK))/\ak w w':=by
 obtain⟨a,cap,rfl,hc1,hc2⟩:=hv.slice;obtain⟨ta,tn,tc,rfl⟩:=IV;rw [aV] at hv hc1 ⊢;obtain⟨N,hN⟩:∃ N,l.length=N:=⟨_,rfl⟩
 have HN:=bx hN;rw [hN] at hv hc1 hz ⊢;have HV:=bx hv;have HSL:=bx hsl;have bQ:=bx ((Sep.start w).kV w.heap.size 2 272);clear hv hN hsl
 go_in
 go_wp2_with fail
 go_loopw [8,7] (λi o wr=>∃ (k:Nat) (oo:Option Addr) (oc:Nat),k<=N/\i = ah k/\o = .slice oo k oc/\Box (∀ (j:Nat) (y:Int×Value),j<k->l[j]?=some y->y.1<r)/\Box (Sep [Pc.row w.heap.size 272 2 (.slice oo k oc) k ((l.take k).flatMap fK),Pc.old w.heap.size w] wr)) (λi _ _=>N-(intOf i).toNat)
 ·exact⟨0,none,0,by omega,rfl,rfl,⟨λj y h=>by omega⟩,bQ⟩
 obtain⟨k,oo,oc,hk,rfl,rfl,hno,hse⟩:=hrel;have dL:=bx (hse.o.bel (n:=w.heap.size) (W0:=w) (by simp));have hbs:=dL.o.size
 by_cases hgo:∃ y,l[k]?=some y/\y.1<r
 ·obtain⟨y,hy,hlt⟩:=hgo;have hkl:k<N:=by rw [<- HN.o];exact(dO hy).1
  have D6:(l.map fK)[k]?=some (fK y):=by rw [eX,hy];rfl
  obtain⟨g,off,cap2,hg1,hg2,hg3,hg4,hg5⟩:=(HV.o.below dL.o).get (by intro e;rw [e] at D6;simp at D6);rw [aV,HN.o] at hg1;obtain⟨rfl,rfl⟩:=dQ hg1;obtain⟨y1,y2⟩:=y;obtain⟨ya,yn,yc,rfl⟩:isSlice y2:=HSL.o _ (dB hy);have c0:wr.cell? ⟨g,off+k*2,none⟩=some (ah y1):=hg5 k _ D6 0 _ rfl;have c1:wr.cell? ⟨g,off+k*2+1,none⟩=some (.slice ya yn yc):=hg5 k _ D6 1 _ rfl;have e1:decide (y1<r)=true:=bD hlt;have pJ:=bx (show ∀ (j:Nat) (z:Int×Value),j<k+1->l[j]?=some z->z.1<r from λj z hj hz=>by
   rcases gZ j k with h1 | h1
   ·exact hno.o j z h1 hz
   obtain rfl:j=k:=by omega
   rw [hy] at hz
   cases hz;exact hlt)
  have nH:=bx (show (l.take (k+1)).flatMap fK=(l.take k).flatMap fK++fK (y1, .slice ya yn yc) by rw [jw,hy,Option.toList_some,oz,List.flatMap_singleton]);unfold maxLen at hg3;clear hy hlt D6 hg1 hg2 hg5;go_wp2_with (at_builtin;refine Bh (cs:=fK (y1, .slice ya yn yc)) rfl _ _ 34 rfl Gj (by decide) hse.o 0 rfl rfl rfl rfl (by intro u hu;simp only [fK,fB,iH,or_false] at hu;rcases hu with rfl | rfl <;> rfl) (by omega) (by omega) hbs ?_;rintro v' w6 hS6 ⟨go',gc',rfl,-,-⟩)
  rw [<- nH.o] at hS6;have dV:=bx hS6;clear hS6
  go_wp2
  go_roundw
  ·exact⟨k+1,_,_,hkl,by go_num,rfl,pJ,dV⟩
  simp [intOf];omega
 obtain⟨xk,KZ⟩:Box (l.takeWhile (λy=>decide (y.1<r))=l.take k)/\Box (l.dropWhile (λy=>decide (y.1<r))=l.drop k):=by
  obtain⟨h1,h2⟩:=apU (a:=r) hno.o (by rw [HN.o];exact hk) (λy hy h=>hgo ⟨y,hy,h⟩);exact⟨⟨h1⟩,⟨h2⟩⟩
 have XM:N=k\/∃ y,l[k]?=some y/\¬ y.1<r:=by
  rcases gZ k N with h | h
  ·exact .inr ⟨l[k]'(by rw [HN.o];exact h),dW (by rw [HN.o];exact h),λh9=>hgo ⟨_,dW (by rw [HN.o];exact h),h9⟩⟩
  exact .inl (by omega)
 clear hgo hno
 rcases XM with rfl | ⟨y,hy,hlt⟩
 ·obtain⟨L,Y,hLk,Vg,hcut⟩:=UO a N cap N l hk hc1 hc2 HN.o HV.o;have Ai:=bx (show uD l r (.slice ta tn tc)=l.take N++(r, .slice ta tn tc)::l.drop N by
   unfold uD;rw [xk.o,KZ.o,zF (by rw [HN.o];omega)])
  have kG:=bx hLk;have DW:=bx (λW (h:ak w W)=>hcut W (HV.o.below h));have wu:=bx (YM (l:=l.drop (N)) (λy hy=>HSL.o y (List.mem_of_mem_drop hy)));have hLn:L<=100000:=by omega
  clear hcut hLk;go_wp2_with (first
   | (at_builtin;refine Dv rfl _ _ 34 rfl Gj (by decide) dV.o 0 rfl rfl rfl (DW.o _ eY.o) (by rw [Zp,gy,HN.o];have:=kG.o;omega) wu.o (by omega) (by omega) eY.o.size ?_;rintro v7 w7 hS7)
   | (at_builtin;refine Bh (cs:=fK (r, .slice ta tn tc)) rfl _ _ 34 rfl Gj (by decide) hse.o 0 rfl rfl rfl rfl (by intro u hu;simp only [fK,fB,iH,or_false] at hu;rcases hu with rfl | rfl <;> rfl) (by omega) (by omega) hbs ?_;rintro v' w6 hS6 ⟨go',gc',rfl,-,-⟩;have dV:=bx hS6;have eY:=bx (dV.o.bel (n:=w.heap.size) (W0:=w) (by simp));clear hS6))
  have hrow:=hS7.row 0 rfl;have bW:=bx (hS7.bel (n:=w.heap.size) (W0:=w) (by simp));have zT:=bx (show w7.ownsRow w.heap.size 272 2 v7 (uD l r (.slice ta tn tc)).length ((uD l r (.slice ta tn tc)).flatMap fK) by
   rw [Ai.o,oz,pq,bC,dY,dw,gy,HN.o,<- pz,show min N N+(N-(N)+1)=N+1+L by have:=kG.o;omega];exact hrow)
  clear hS7 hrow
  go_wp2
  go_ret
  exact⟨⟨_,rfl,zT.o⟩,bW.o⟩
 have hkl:k<N:=by rw [<- HN.o];exact(dO hy).1
 have D6:(l.map fK)[k]?=some (fK y):=by rw [eX,hy];rfl
 obtain⟨g,off,cap2,hg1,hg2,hg3,hg4,hg5⟩:=(HV.o.below dL.o).get (by intro e;rw [e] at D6;simp at D6);rw [aV,HN.o] at hg1;obtain⟨rfl,rfl⟩:=dQ hg1;have c0:wr.cell? ⟨g,off+k*2,none⟩=some (ah y.1):=hg5 k _ D6 0 _ rfl;have e0:decide ((k:Int)<(N:Int))=true:=bD (by omega);have e1:decide (y.1<r)=false:=dh hlt;have hdk:l.drop k=y::l.drop (k+1):=by rw [zS (by rw [HN.o];exact hkl),(dO hy).2]
 unfold maxLen at hg3;clear hy hlt D6 hg1 hg2 hg5
 by_cases heq:y.1=r
 ·obtain⟨L,Y,hLk,ag4,hcut⟩:=UO _ N cap (k+1) l (by omega) hc1 hc2 HN.o HV.o;have Vg:∀ W,(Instr.slice 34 (.slice (some ⟨g,off,none⟩) N cap) (some (ah ((k:Int)+1))) none none).run prog W = .ok Y W:=λW=>by
   have:=ag4 W
   rwa [show ((k+1:Nat):Int)=(k:Int)+1 by omega] at this
  have Ai:=bx (show uD l r (.slice ta tn tc)=l.take k++(r, .slice ta tn tc)::l.drop (k+1) by
   unfold uD;rw [xk.o,KZ.o,hdk];simp only [aG heq])
  have e2:(y.1==r)=true:=by rw [lN];exact heq
  clear ag4 heq hdk;have kG:=bx hLk;have DW:=bx (λW (h:ak w W)=>hcut W (HV.o.below h));have wu:=bx (YM (l:=l.drop (k+1)) (λy hy=>HSL.o y (List.mem_of_mem_drop hy)));have hLn:L<=100000:=by omega
  clear hcut hLk;go_wp2_with (first
   | (at_builtin;refine Dv rfl _ _ 34 rfl Gj (by decide) dV.o 0 rfl rfl rfl (DW.o _ eY.o) (by rw [Zp,gy,HN.o];have:=kG.o;omega) wu.o (by omega) (by omega) eY.o.size ?_;rintro v7 w7 hS7)
   | (at_builtin;refine Bh (cs:=fK (r, .slice ta tn tc)) rfl _ _ 34 rfl Gj (by decide) hse.o 0 rfl rfl rfl rfl (by intro u hu;simp only [fK,fB,iH,or_false] at hu;rcases hu with rfl | rfl <;> rfl) (by omega) (by omega) hbs ?_;rintro v' w6 hS6 ⟨go',gc',rfl,-,-⟩;have dV:=bx hS6;have eY:=bx (dV.o.bel (n:=w.heap.size) (W0:=w) (by simp));clear hS6))
  have hrow:=hS7.row 0 rfl;have bW:=bx (hS7.bel (n:=w.heap.size) (W0:=w) (by simp));have zT:=bx (show w7.ownsRow w.heap.size 272 2 v7 (uD l r (.slice ta tn tc)).length ((uD l r (.slice ta tn tc)).flatMap fK) by
   rw [Ai.o,oz,pq,bC,dY,dw,gy,HN.o,<- pz,show min k N+(N-(k+1)+1)=k+1+L by have:=kG.o;omega];exact hrow)
  clear hS7 hrow
  go_wp2
  go_ret
  exact⟨⟨_,rfl,zT.o⟩,bW.o⟩
 obtain⟨L,Y,hLk,Vg,hcut⟩:=UO _ N cap k l hk hc1 hc2 HN.o HV.o;have Ai:=bx (show uD l r (.slice ta tn tc)=l.take k++(r, .slice ta tn tc)::l.drop k by
  unfold uD;rw [xk.o,KZ.o,hdk];simp only [aF heq])
 have e2:(y.1==r)=false:=by rw [fG];exact heq
 clear heq hdk;have kG:=bx hLk;have DW:=bx (λW (h:ak w W)=>hcut W (HV.o.below h));have wu:=bx (YM (l:=l.drop (k)) (λy hy=>HSL.o y (List.mem_of_mem_drop hy)));have hLn:L<=100000:=by omega
 clear hcut hLk;go_wp2_with (first
  | (at_builtin;refine Dv rfl _ _ 34 rfl Gj (by decide) dV.o 0 rfl rfl rfl (DW.o _ eY.o) (by rw [Zp,gy,HN.o];have:=kG.o;omega) wu.o (by omega) (by omega) eY.o.size ?_;rintro v7 w7 hS7)
  | (at_builtin;refine Bh (cs:=fK (r, .slice ta tn tc)) rfl _ _ 34 rfl Gj (by decide) hse.o 0 rfl rfl rfl rfl (by intro u hu;simp only [fK,fB,iH,or_false] at hu;rcases hu with rfl | rfl <;> rfl) (by omega) (by omega) hbs ?_;rintro v' w6 hS6 ⟨go',gc',rfl,-,-⟩;have dV:=bx hS6;have eY:=bx (dV.o.bel (n:=w.heap.size) (W0:=w) (by simp));clear hS6))
 have hrow:=hS7.row 0 rfl;have bW:=bx (hS7.bel (n:=w.heap.size) (W0:=w) (by simp));have zT:=bx (show w7.ownsRow w.heap.size 272 2 v7 (uD l r (.slice ta tn tc)).length ((uD l r (.slice ta tn tc)).flatMap fK) by
  rw [Ai.o,oz,pq,bC,dY,dw,gy,HN.o,<- pz,show min k N+(N-(k)+1)=k+1+L by have:=kG.o;omega];exact hrow)
 clear hS7 hrow
 go_wp2
 go_ret
 exact⟨⟨_,rfl,zT.o⟩,bW.o⟩
theorem F.alj {s:List UInt8} {o:List Int} (h:F.Au s=some o):(s=[]/\o=[])\/(s≠[]/\∃ r,F.code s=some r/\U.right r=true/\o=[r]):=by
 unfold F.Au at h
 by_cases h0:s=[]
 ·rw [aG h0] at h
  cases h;exact .inl ⟨h0,rfl⟩
 rw [aF h0] at h
 cases hc:F.code s with
 | none=>rw [hc] at h;cases h
 | some r =>
  rw [hc] at h;simp only at h
  split at h
  ·rename_i hr
   cases h;exact .inr ⟨h0,r,rfl,hr,rfl⟩
  cases h
theorem af9 (W:World) (r:Int) (T:TypeId):aN (W.alloc (.cells #[ah r] T)) (.slice (some ⟨W.heap.size,0,none⟩) 1 1) [r]:=by
 refine .inr ⟨W.heap.size,0,none,1,rfl,bK _,by unfold maxLen;omega,λ_=>⟨rfl,by simp,λi x hx=>?_⟩⟩;have hi:i=0:=by have:=(dO hx).1;simpa using this
 subst hi
 cases hx;exact(aC.new W T #[ah r]).cell 0
theorem L8 (s:List UInt8) (o:List Int) (w:World) (hok:F.Au s=some o) (hz:s.length<=20000) :
  Calls prog 192 #[.string (bs s)] w λe w'=>(∃ v,e = .returned (.tuple #[v, .bool true])/\aN w' v o/\∀ g,v.ownBlock=some g->w.heap.size<=g/\g<w'.heap.size)/\ak w w':=by
 rcases F.alj hok with⟨rfl,rfl⟩ | ⟨hs,r,hc,hr,rfl⟩
 ·have hemp:=xH;clear hok
  go_in
  go_wp2
  go_ret2
  exact⟨⟨_,rfl, .inl ⟨rfl,rfl⟩,λg hg=>by cases hg⟩,Below.refl _ _⟩
 have hemp:=DC hs;have oD:=bx (Rw s w (by omega));rw [hc] at oD;unfold Uh at oD;simp only at oD;have jX:=bx (λW=>hr▸afC r W);have HI:=bx (af9 w r 3);have HB:=bx (dA w (.cells #[ah r] 3));clear hok hs hc hr
 go_in
 go_wp2_with fail;refine aP oD.o ?_;go_wp2_with fail;refine aP (jX.o _) ?_
 go_wp2
 go_ret2
 exact⟨⟨_,rfl,HI.o,λg hg=>by simp [Value.ownBlock] at hg;subst hg;exact⟨bK _,by simp⟩⟩,HB.o⟩
theorem ab4 (v:Value) (xs:List Int) (r:Int) (w:World) (hv:aN w v xs) (hz:xs.length<=100000) :
  Calls prog 193 #[v, ah r] w λe w'=>e = .returned (.bool (xs.contains r))/\w=w':=by
 have HV:=bx hv;obtain⟨a,cap,rfl⟩:=hv.slice;clear hv
 go_in
 go_wp2_with fail
 go_loopw [5] (λi wr=>∃ k:Nat,k<=xs.length/\i = ah k/\Box (∀ (j:Nat) (y:Int),j<k->xs[j]?=some y->y≠r)/\wr=w) (λi _=>xs.length-(intOf i).toNat)
 ·exact⟨0,by omega,rfl,⟨λj y h=>by omega⟩,rfl⟩
 obtain⟨k,hk,rfl,hno,rfl⟩:=hrel
 by_cases hlt:k<xs.length
 ·obtain⟨y,hy⟩:=bV xs k hlt;obtain⟨g,off,cap2,hg1,hg2,hg3,hg4,hg5⟩:=HV.o.get (by rintro rfl;simp at hy);obtain⟨rfl,rfl⟩:=dQ hg1;have hck:=hg5 k y hy;unfold maxLen at hg3;have HY:=bx hy;clear hy hg1 hg5
  by_cases he:y=r
  ·have e1:(y==r)=true:=by rw [lN];exact he
   have HC:=bx (show xs.contains r=true by rw [List.contains_iff_mem];rw [<- he];exact dB HY.o);clear he
   go_wp2
   go_ret
   exact⟨aY HC.o.symm,rfl⟩
  have e1:(y==r)=false:=by rw [fG];exact he
  have HN:=bx (show ∀ (j:Nat) (z:Int),j<k+1->xs[j]?=some z->z≠r from λj z hj hz=>by
   rcases gZ j k with h1 | h1
   ·exact hno.o j z h1 hz
   obtain rfl:j=k:=by omega
   rw [HY.o] at hz
   cases hz;exact he)
  clear he
  go_wp2
  go_roundw
  ·exact⟨k+1,hlt,by go_num,HN,trivial⟩
  simp [intOf];omega
 obtain rfl:k=xs.length:=by omega
 have HC:=bx (show xs.contains r=false by
  rw [Bool.eq_false_iff,ne_eq,List.contains_iff_mem];intro hm;obtain⟨i,hi,e⟩:=List.getElem_of_mem hm;exact hno.o i r hi (by rw [dW hi,e]) rfl)
 go_wp2
 go_ret
 exact⟨aY HC.o.symm,rfl⟩
end
end Go.Proofs.YtdponihkpomheaaGreatDoor
