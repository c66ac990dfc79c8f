/- Texts of this claim. -/
import Derived.Test.YtlmdjifffmofeaaGreatDoorH11

set_option maxHeartbeats 4000000
set_option maxRecDepth 100000
namespace Go.Proofs.YtlmdjifffmofeaaGreatDoor
section
open Go.RowKit
attribute [local go_sem] Oper.semAt_some
theorem F.ajZ {names:List (List UInt8)} {s:List UInt8} {its:List N.Item} (h:F.FT names s=some its) :
  (s=[]/\its=[])\/(s≠[]/\(∀ c∈s,c≠32/\c≠91)/\s.getLast?≠some 42/\s≠[94]/\s≠[46]/\∃ i,F.valueOf names s=some i/\its=[((2:Int) ^ i,0)]):=by
 unfold F.FT at h
 by_cases h0:s=[]
 ·rw [if_pos h0] at h
  cases h;exact .inl ⟨h0,rfl⟩
 ·rw [if_neg h0] at h
  split at h
  ·cases h
  ·rename_i h1
   simp only [Bool.or_eq_true,List.any_eq_true,beq_iff_eq,not_or,not_exists,not_and] at h1;obtain⟨⟨⟨k1,k2⟩,k3⟩,k4⟩:=h1;refine .inr ⟨h0,λc hc=>⟨λe=>(k1 c hc).1 e,λe=>(k1 c hc).2 e⟩,k2,k3,k4,?_⟩
   cases hv:F.valueOf names s with
   | none=>rw [hv] at h;cases h
   | some i=>rw [hv] at h;cases h;exact⟨i,rfl,rfl⟩
theorem Nk {c:UInt8} {d:UInt8} (h:c≠d):(U.aA c==U.aA d)=false:=by rw [MQ];simpa using h
theorem ak6 (s:List UInt8) (w:World) (hc:∀ c∈s,c≠32/\c≠91) (hz:s.length<=20000) :
  Calls Tryz.prog 188 #[.string (bs s)] w λe w'=>(∃ v,e = .returned v/\w'.ownsRow w.heap.size 9 1 v 1 [pK s])/\Below w.heap.size w w':=by
 obtain⟨S,hS⟩:∃ S,(bs s).size=S:=⟨_,rfl⟩
 have HSL:=bx (show S=s.length by rw [<- hS];exact qp s);have hSz:S<=20000:=by rw [HSL.o];exact hz
 have HC:=bx hc;have aU:=bx ((Sep.start w).fP w.heap.size 1 9);clear hc
 go_enter Tryz.func188,Tryz.ntmps188
 go_wp2_with fail
 go_loopw [6,3,4,5] (λi o f b wr=>b = .bool false/\((∃ k:Nat,k<=S/\i = .int .i64 k/\o = .slice none 0 0/\f = .int .i64 0/\wr=w)\/(i = .int .i64 ((S:Int)+1)/\(∃ z:Int,f = .int .i64 z)/\Box (wr.ownsRow w.heap.size 9 1 o 1 [pK s]/\Below w.heap.size w wr)))) (λi _ _ _ _=>S+1-(intOf i).toNat)
 case atStart=>exact⟨rfl, .inl ⟨0,by omega,rfl,rfl,rfl,rfl⟩⟩
 case round =>
  obtain⟨rfl,⟨k,hk,rfl,rfl,rfl,rfl⟩ | ⟨rfl,⟨z,rfl⟩,ho⟩⟩:=hrel
  ·by_cases hlt:k<S
   ·obtain⟨d,hd⟩:∃ d,s[k]?=some d:=⟨_,List.getElem?_eq_getElem (by rw [<- HSL.o];exact hlt)⟩
    have hix:=Ag (P:=Tryz.prog) Tryz.underlying9 k hd k rfl;have hdd:=HC.o d (List.mem_of_getElem? hd);have e1:(U.aA d==32)=false:=Nk (d:=32) hdd.1;have e2:(U.aA d==91)=false:=Nk (d:=91) hdd.2;have e3:((k:Int)==(S:Int))=false:=by rw [beq_eq_false_iff_ne];omega
    clear hd hdd;go_wp2_with fail
    go_roundw
    case rel=>exact⟨rfl, .inl ⟨k+1,by omega,by go_num,rfl,rfl,trivial⟩⟩
    case measure=>simp [intOf];omega
   ·obtain rfl:k=S:=by omega
    have e3:((k:Int)==(k:Int))=true:=by simp
    have hcut:=Qd (P:=Tryz.prog) (T:=9) Tryz.underlying9 s 0 k 0 (k:Int) rfl rfl ⟨by omega,by rw [HSL.o];exact Nat.le_refl _⟩;rw [show (s.take k).drop 0=s by rw [HSL.o];simp] at hcut;go_wp2_with (at_builtin;refine lI rfl _ _ 63 rfl UQ aU.o 0 rfl rfl rfl rfl (by omega) (by omega) (Nat.le_refl _) ?_;rintro v' w4 hS4 ⟨go',gc',rfl,-,-⟩)
    have HO:=bx (show w4.ownsRow wr.heap.size 9 1 (.slice (some ⟨go',0,none⟩) (0+1) gc') 1 [pK s]/\Below wr.heap.size wr w4 from⟨hS4.row 0 rfl,hS4.bel (n:=wr.heap.size) (W0:=wr) (by simp)⟩);clear hS4;go_wp2_with fail
    go_roundw
    case rel=>exact⟨rfl, .inr ⟨by first | trivial | rfl | go_num,⟨_,rfl⟩,HO⟩⟩
    case measure=>simp [intOf]
  ·go_wp2_with fail;go_ret
   exact⟨⟨_,rfl,ho.o.1⟩,ho.o.2⟩
theorem alM (s:List UInt8) (nv:Value) (names:List (List UInt8)) (i:Nat) (w:World) (hn:iY w nv names) (hnb:F.vM names=true) (DT:s≠[46]) (hv:F.valueOf names s=some i) :
  Calls Tryz.prog 208 #[.string (bs s),nv] w λe w'=>e = .returned (.tuple #[.int .i64 ((2:Int) ^ i), .int .i64 0])/\Below w.heap.size w w':=by
 have nJ:=bx (OZ nv names w hn hnb);have hnl:names.length<=32:=by unfold F.vM at hnb;simp only [Bool.and_eq_true,decide_eq_true_eq] at hnb;exact hnb.2
 have hil:i<names.length:=by
  unfold F.valueOf at hv;obtain⟨h,-⟩:=List.findIdx?_eq_some_iff_getElem.1 hv;exact h
 have HV:=bx (λW (h:Below w.heap.size w W)=>hv▸Rf nv names s W (hn.below h) (by omega));have HW:=bx (λW=>OH i W (by omega));have hcmp:((bs s).toList==[46])=false:=by rw [Ai];simpa using DT
 have HI:=bx (show ((2 ^ i:Nat):Int)=(2:Int) ^ i by simp);obtain⟨a,cap,rfl,hc1,hc2⟩:=hn.slice;clear hn hnb DT hv hil
 go_enter Tryz.func208,Tryz.ntmps208
 go_wp2_with fail;refine nJ.o.mono ?_;rintro e w0 ⟨rfl,nd,rfl⟩;have HB0:=bx (jG w nd);generalize w.drewN nd=w0 at HB0 ⊢;go_wp2_with fail;refine(HV.o _ HB0.o).mono ?_;rintro e w1 ⟨rfl,rfl⟩;unfold Jz;go_wp2_with fail;refine(HW.o _).mono ?_;rintro e w1 ⟨rfl,rfl⟩;rw [HI.o];go_wp2_with fail;go_ret2
 exact⟨rfl,HB0.o⟩
theorem akR:(Tryz.prog.info? 282).map (·.size)=some 2:=by kernel_rfl
theorem acM:(Tryz.prog.info? 144).map (·.size)=some 2:=by kernel_rfl
theorem anZ (s:List UInt8) (nv:Value) (names:List (List UInt8)) (i:Nat) (w:World) (hn:iY w nv names) (hnb:F.vM names=true) (hs:s≠[]) (DT:s≠[46]) (hst:s.getLast?≠some 42) (hv:F.valueOf names s=some i) (hz:s.length<=20000) :
  Calls Tryz.prog 189 #[.string (bs s),nv] w λe w'=>e = .returned (.tuple #[.agg #[.int .i64 ((2:Int) ^ i), .int .i64 0], .bool true])/\Below w.heap.size w w':=by
 have hb0:=aS w (.cells #[.int .i64 0, .int .i64 0] 282);have HB0:=bx hb0;have HC:=bx (alM s nv names i _ (hn.below hb0) hnb DT hv);have HR:=bx (ak.new w 282 #[.int .i64 0, .int .i64 0]);have hemp:=BA hs;obtain⟨S,hS⟩:∃ S,(bs s).size=S:=⟨_,rfl⟩
 have HSL:=bx (show S=s.length by rw [<- hS];exact qp s);have hSz:S<=20000:=by rw [HSL.o];exact hz
 have hS0:0<S:=by rw [HSL.o];exact List.length_pos_iff.2 hs
 obtain⟨d,hd⟩:∃ d,s[S-1]?=some d:=⟨_,List.getElem?_eq_getElem (by rw [<- HSL.o];omega)⟩
 have hix:=Ag (P:=Tryz.prog) Tryz.underlying9 (S-1) hd ((S:Int)-1) (by omega);have e1:(U.aA d==42)=false:=Nk (d:=42) (λe=>hst (by rw [List.getLast?_eq_getElem?,<- HSL.o,hd,e]));clear hb0 hn hnb hs DT hst hv hd
 go_enter Tryz.func189,Tryz.ntmps189
 go_wp2_with fail;refine wp_loop_rounds 1 ?_;rw [rounds_succ];go_wp2_with fail;refine HC.o.mono ?_;rintro e w1 ⟨rfl,hb1⟩;have HB1:=bx (bt HB0.o hb1);have HR1:=bx (HR.o.below hb1 HR.o.lt);have r0:=(HR1.o.cell 0).trans (show _=some (Value.int .i64 0) from rfl);have r1:=(HR1.o.cell 1).trans (show _=some (Value.int .i64 0) from rfl);have f0:=HR1.o.frozen 0;have f1:=HR1.o.frozen 1;have rl:=HR1.o.lt;clear hb1;go_wp2_with fail;exact bodyPost_ret (v:=.tuple #[.agg #[.int .i64 ((2:Int) ^ i), .int .i64 0], .bool true]) (BJ Tryz.results189 _ _ w.heap.size 282 #[.int .i64 ((2:Int) ^ i), .int .i64 0] (0,0) _ rfl ((HR1.o.bP 0 (.int .i64 ((2:Int) ^ i))).bP 1 (.int .i64 0)) Tryz.underlying282 rfl akR) rfl
  ⟨rfl,(HB1.o.setCell (Nat.le_refl _) _).setCell (Nat.le_refl _) _⟩
theorem af4 {w:World} {base:Nat} {T:TypeId} {v:Value} {a:Int} (h:w.ownsRow base T 2 v 1 [.int .i64 a, .int .i64 0]):bM w v [(a,0)]:=by
 rcases h.2 with⟨-,h0⟩ | ⟨g,cap,cur,rfl,h2,h3,h4,h5,h6,h7⟩
 ·omega
 ·refine .inr ⟨g,0,none,cap,rfl,h4,h5,λ_=>⟨rfl,(h.lt g rfl).2,λi x hx=>?_⟩⟩;have hi:i=0:=by have:=(List.getElem?_eq_some_iff.1 hx).1;simpa using this
  subst hi
  cases hx;have e0:=h.cells (g:=g) rfl 0 (.int .i64 a) rfl;have e1:=h.cells (g:=g) rfl 1 (.int .i64 0) rfl;exact⟨e0,e1⟩
theorem afM:wP Tryz.prog 142 282 2 16:=.mk' (z:=.agg #[.int .i64 0, .int .i64 0]) Tryz.underlying142 (by kernel_rfl) rfl
theorem Yt (s:List UInt8) (nv:Value) (names:List (List UInt8)) (its:List N.Item) (w:World) (hn:iY w nv names) (hnb:F.vM names=true) (hok:F.FT names s=some its) (hz:s.length<=20000) :
  Calls Tryz.prog 160 #[.string (bs s),nv] w λe w'=>(∃ v,e = .returned (.tuple #[.agg #[.bool false,v], .int .i64 0])/\bM w' v its/\∀ g,v.ownBlock=some g->w.heap.size<=g/\g<w'.heap.size)/\Below w.heap.size w w':=by
 have hb0:=aS w (.cells #[.bool false, .slice none 0 0] 144);have nJ:=bx (OZ nv names _ (hn.below hb0) hnb);have aU:=bx ((Sep.start w).dh 144 #[.bool false, .slice none 0 0])
 rcases F.ajZ hok with⟨rfl,rfl⟩ | ⟨hs,hc,hst,hup,DT,i,hv,rfl⟩
 ·have hemp:=G8;clear hn hnb hb0 hok
  go_enter Tryz.func160,Tryz.ntmps160
  go_wp2_with fail;refine nJ.o.mono ?_;rintro e w1 ⟨rfl,nd,rfl⟩;have bQ:=bx (aU.o.drewN nd);generalize (w.alloc (.cells #[.bool false, .slice none 0 0] 144)).drewN nd=w1 at bQ ⊢;have HS2:=bx (bQ.o.dh 144 #[.bool false, .slice none 0 0]);have hq:=HS2.o.blk 1 rfl;have c0:(w1.alloc (.cells #[.bool false, .slice none 0 0] 144)).cell? ⟨w.heap.size,0,none⟩=some (.bool false):=(hq.cell 0).trans rfl;have c1:(w1.alloc (.cells #[.bool false, .slice none 0 0] 144)).cell? ⟨w.heap.size,1,none⟩=some (.slice none 0 0):=(hq.cell 1).trans rfl;have f0:=hq.frozen 0;have f1:=hq.frozen 1;have ql:=hq.lt;clear hq;go_wp2_with fail;have h3:=(HS2.o.set 1 rfl 0 (.bool false)).set 1 rfl 1 (.slice none 0 0);exact bodyPost_ret (v:=.tuple #[.agg #[.bool false, .slice none 0 0], .int .i64 0]) (BJ Tryz.results160 _ _ w.heap.size 144 #[.bool false, .slice none 0 0] (0,0) _ rfl (h3.blk 1 rfl) Tryz.underlying144 rfl acM) rfl
   ⟨⟨_,rfl, .inl ⟨rfl,rfl⟩,λg hg=>by cases hg⟩,h3.bel (n:=w.heap.size) (W0:=w) (by simp)⟩
 ·have hemp:=BA hs;have HP:=bx (λW=>ak6 s W hc hz);have HIT:=bx (λW (h:Below w.heap.size w W)=>anZ s nv names i W (hn.below h) hnb hs DT hst hv hz);have hcmp:((bs s).toList==[94])=false:=by rw [Ai];simpa using hup
  clear hn hnb hb0 hok hs hc hst hup DT hv
  go_enter Tryz.func160,Tryz.ntmps160
  go_wp2_with fail;refine nJ.o.mono ?_;rintro e w1 ⟨rfl,nd,rfl⟩;have bQ:=bx (aU.o.drewN nd);generalize (w.alloc (.cells #[.bool false, .slice none 0 0] 144)).drewN nd=w1 at bQ ⊢;have HS2:=bx ((bQ.o.dh 144 #[.bool false, .slice none 0 0]).fP w.heap.size 2 282);go_wp2_with fail;generalize w1.heap.size=P at HS2 ⊢;generalize w1.alloc (.cells #[.bool false, .slice none 0 0] 144)=w2 at HS2 ⊢;refine(HP.o w2).mono ?_;rintro e w3 ⟨⟨pv,rfl,hpv⟩,hb3⟩;have aK:=bx (HS2.o.below hb3);obtain⟨g,cap,cur,rfl,r1,r2,r3,hbk,hcur⟩:=OX hpv (by omega);have HG:=bx (show g<w3.heap.size/\w3.cell? ⟨g,0,none⟩=some (.string (bs s)) from⟨hbk.lt,(hbk.cell 0).trans (hcur 0 _ rfl)⟩);obtain⟨gl,gc⟩:=HG.o;clear hb3 hpv hbk hcur;go_wp2_with fail;refine wp_loop_rounds 2 ?_;rw [rounds_succ];go_wp2_with fail;have HB3:=bx (aK.o.bel (n:=w.heap.size) (W0:=w) (by simp));refine(HIT.o _ HB3.o).mono ?_;rintro e w4 ⟨rfl,hb4⟩;have dn:=bx (aK.o.below hb4);have IK:=bx ((hb4.cell (p:=⟨g,0,none⟩) HG.o.1).trans HG.o.2);have aG:=bx (dn.o.dh 282 #[.int .i64 ((2:Int) ^ i), .int .i64 0]);have hq5:=aG.o.blk 2 rfl;have p0:(w4.alloc (.cells #[.int .i64 ((2:Int) ^ i), .int .i64 0] 282)).cell? ⟨P,0,none⟩=some (.bool false):=(hq5.cell 0).trans rfl;have p1:(w4.alloc (.cells #[.int .i64 ((2:Int) ^ i), .int .i64 0] 282)).cell? ⟨P,1,none⟩=some (.slice none 0 0):=(hq5.cell 1).trans rfl;have pl:=hq5.lt;have hwz:w.heap.size<=(w4.alloc (.cells #[.int .i64 ((2:Int) ^ i), .int .i64 0] 282)).heap.size:=(aG.o.bel (n:=w.heap.size) (W0:=w) (by simp)).size;have bK:=bx (show (w4.alloc (.cells #[.int .i64 ((2:Int) ^ i), .int .i64 0] 282)).heap.size=w4.heap.size+1 by simp);clear hb4 gl gc hq5;go_wp2_with (at_builtin;refine xR (cs:=[.int .i64 ((2:Int) ^ i), .int .i64 0]) rfl _ _ 142 rfl afM (by decide) aG.o 1 rfl rfl (by rw [bK.o];rfl) rfl (by intro u hu;simp only [List.mem_cons,List.not_mem_nil,or_false] at hu;rcases hu with rfl | rfl <;> rfl) (by omega) (by omega) hwz ?_;rintro v' w6 hS6 ⟨go',gc',rfl,-,-⟩;have dA:=bx hS6;have hq6:=dA.o.blk 2 rfl;have p0:w6.cell? ⟨P,0,none⟩=some (.bool false):=(hq6.cell 0).trans rfl;have p1:w6.cell? ⟨P,1,none⟩=some (.slice none 0 0):=(hq6.cell 1).trans rfl;have pf0:=hq6.frozen 0;have pf1:=hq6.frozen 1;have pl:=hq6.lt;have x9:=dA.o.blk 3 rfl;have r0:w6.cell? ⟨w.heap.size,0,none⟩=some (.bool false):=(x9.cell 0).trans rfl;have r1:w6.cell? ⟨w.heap.size,1,none⟩=some (.slice none 0 0):=(x9.cell 1).trans rfl;have F6:=x9.frozen 0;have FD:=x9.frozen 1;have rl:=x9.lt;clear hS6 hq6 x9)
  rw [rounds_succ];have hRP:w.heap.size≠P:=by
   rintro rfl;exact(dA.o.tail.tail.apart (q:=Pc.blk w.heap.size 144 #[.bool false, .slice none 0 0]) (List.mem_cons_self ..) (k:=w.heap.size) rfl) rfl
  have h7:=dA.o.set 2 rfl 1 (.slice (some ⟨go',0,none⟩) (0+1) gc');have h8:=bx ((h7.set 3 rfl 0 (.bool false)).set 3 rfl 1 (.slice (some ⟨go',0,none⟩) (0+1) gc'));clear h7;go_wp2_with fail;have hro:=h8.o.row 1 rfl;exact bodyPost_ret (v:=.tuple #[.agg #[.bool false, .slice (some ⟨go',0,none⟩) (0+1) gc'], .int .i64 0]) (BJ Tryz.results160 _ _ w.heap.size 144 #[.bool false, .slice (some ⟨go',0,none⟩) (0+1) gc'] (0,0) _ rfl (h8.o.blk 3 rfl) Tryz.underlying144 rfl acM) rfl
   ⟨⟨_,rfl,af4 hro,λq hq=>hro.lt q hq⟩,h8.o.bel (n:=w.heap.size) (W0:=w) (by simp)⟩
end
section
open Go.RowKit Go.Shelf
attribute [local go_sem] Oper.semAt_some
theorem DV {α:Type} (xs:List α) (k:Nat) (x:α) (h:xs[k]?=some x):xs.take (k+1)=xs.take k++[x]:=by rw [List.take_add_one,h];rfl
def lD (y:D.Rule×Value×Value):List Value:=[.bool y.1.1.1,y.2.1, .bool y.1.2.1.1,y.2.2, .bool y.1.2.2]
theorem Oy:wP Tryz.prog 41 147 5 72:=.mk' (z:=.agg #[.bool false, .slice none 0 0, .bool false, .slice none 0 0, .bool false]) Tryz.underlying41 (by kernel_rfl) rfl
def sW (W:World) (L:List (D.Rule×Value×Value)):Prop:=∀ y∈L,bM W y.2.1 y.1.1.2/\bM W y.2.2 y.1.2.1.2
theorem O4 {W:World} {base n:Nat} {v:Value} {L:List (D.Rule×Value×Value)} (h:W.ownsRow base 147 5 v n (L.flatMap lD)) (hn:n=L.length) (hV:sW W L):dP W v (L.map (·.1)):=by
 subst hn
 rcases h.2 with⟨h1,h2⟩ | ⟨g,cap,cur,h1,h2,h3,h4,h5,h6,h7⟩
 ·rw [List.eq_nil_of_length_eq_zero h2];exact .inl ⟨h1,rfl⟩
 ·refine .inr ⟨g,0,none,cap,by rw [h1,List.length_map],by rw [List.length_map];exact h4,h5,λhn=>⟨rfl,(Array.getElem?_eq_some_iff.1 h3).1,λi x hx=>?_⟩⟩;rw [List.getElem?_map] at hx;obtain⟨y,hy,rfl⟩:=Option.map_eq_some_iff.1 hx;have hc:∀ (j:Nat) (u:Value),j<5->(lD y)[j]?=some u->W.cell? ⟨g,0+i*5+j,none⟩=some u:=by
   intro j u hj hu;have h8:=h.cells (g:=g) (by rw [h1];rfl) (i*5+j) u (by rw [flat_get lD 5 L i j y (λz _=>rfl) hy hj];exact hu);rw [show (⟨g,0,none⟩:Addr).add (i*5+j)=⟨g,0+i*5+j,none⟩ by unfold Addr.add;split <;> simp_all] at h8;exact h8
  obtain⟨k1,k2⟩:=hV y (List.mem_of_getElem? hy);exact⟨y.2.1,y.2.2,hc 0 _ (by omega) rfl,hc 1 _ (by omega) rfl,hc 2 _ (by omega) rfl,hc 3 _ (by omega) rfl,hc 4 _ (by omega) rfl,k1,k2⟩
end
section
open Go.RowKit
attribute [local go_sem] Oper.semAt_some
theorem F.anR {names:List (List UInt8)} {t:List UInt8} {r:D.Rule} (h:F.H8 names t=some r) :
  ∃ (k:Nat) (d:UInt8) (a b:List N.Item),t[k]?=some d/\F.GK d=true/\(∀ (j:Nat) (c:UInt8),j<k->t[j]?=some c->F.GK c=false)/\F.FT names (F.trim (t.take k))=some a/\F.FT names (F.trim (t.drop (k+1)))=some b/\r=((false,a),(false,b),d==47):=by
 unfold F.H8 at h
 cases hi:t.findIdx? F.GK with
 | none=>rw [hi] at h;cases h
 | some k =>
  rw [hi] at h;simp only at h;obtain⟨hk,hd,hj⟩:=List.findIdx?_eq_some_iff_getElem.1 hi
  split at h
  ·rename_i a b h1 h2
   cases h;refine⟨k,t[k],a,b,List.getElem?_eq_getElem hk,hd,λj c hjk hc=>?_,h1,h2,by rw [List.getD_eq_getElem?_getD,List.getElem?_eq_getElem hk];rfl⟩;have:=hj j hjk;obtain⟨h3,rfl⟩:=List.getElem?_eq_some_iff.1 hc
   simpa using this
  ·cases h
theorem Ht {w:World} {v:Value} {l:List N.Item} (h:bM w v l):∃ a c,v = .slice a l.length c:=by
 rcases h with⟨rfl,rfl⟩ | ⟨b,off,sp,cap,rfl,-⟩
 ·exact⟨_,_,rfl⟩
 ·exact⟨_,_,rfl⟩
theorem anb {W W':World} {v:Value} {l:List N.Item} (h:bM W v l) (hs:W.heap.size<=W'.heap.size) (hg:∀ g,v.ownBlock=some g->W'.heap[g]?=W.heap[g]?):bM W' v l:=by
 rcases h with h | ⟨b,off,sp,cap,h1,h2,h3,h4⟩
 ·exact .inl h
 ·refine .inr ⟨b,off,sp,cap,h1,h2,h3,λhn=>?_⟩;obtain⟨k1,k2,k3⟩:=h4 hn;have hb:=hg b (by rw [h1];rfl);exact⟨k1,Nat.lt_of_lt_of_le k2 hs,λi x hx=>⟨(World.cell?_of_block hb).trans (k3 i x hx).1,(World.cell?_of_block hb).trans (k3 i x hx).2⟩⟩
def Qv:CU (Value×List N.Item) where
 at' W y:=bM W y.1 y.2/\∀ g,y.1.ownBlock=some g->g<W.heap.size
 val y:=y.1
 same:=λ{_ _ _} h hs hg=>⟨anb h.1 hs hg,λg hg'=>Nat.lt_of_lt_of_le (h.2 g hg') hs⟩
 lt:=λ{_ _ _} h hg=>h.2 _ hg
theorem adr:(Tryz.prog.info? 147).map (·.size)=some 5:=by kernel_rfl
theorem amG (t:List UInt8) (nv:Value) (names:List (List UInt8)) (r:D.Rule) (w:World) (hn:iY w nv names) (hnb:F.vM names=true) (hok:F.H8 names t=some r) (hz:t.length<=20000) :
  Calls Tryz.prog 116 #[.string (bs t),nv] w λe w'=>(∃ vl vr,e = .returned (.tuple #[.agg #[.bool r.1.1,vl, .bool r.2.1.1,vr, .bool r.2.2], .bool true])/\bM w' vl r.1.2/\bM w' vr r.2.1.2)/\Below w.heap.size w w':=by
 obtain⟨K,d,la,lb,hd,hm,hno,hpa,hpb,rfl⟩:=F.anR hok;obtain⟨S,hS⟩:∃ S,(bs t).size=S:=⟨_,rfl⟩
 have HSL:=bx (show S=t.length by rw [<- hS];exact qp t);have hSz:S<=20000:=by rw [HSL.o];exact hz
 have hKS:K<S:=by rw [HSL.o];exact(List.getElem?_eq_some_iff.1 hd).1
 have aU:=bx ((Sep.start w).dh 147 #[.bool false, .slice none 0 0, .bool false, .slice none 0 0, .bool false]);have hta:(F.trim (t.take K)).length<=20000:=by have:=F.Fh (t.take K);rw [List.length_take] at this;omega
 have htb:(F.trim (t.drop (K+1))).length<=20000:=by have:=F.Fh (t.drop (K+1));rw [List.length_drop] at this;omega
 have Ea:=bx (λW=>Ja (t.take K) W (by rw [List.length_take];omega));have bW:=bx (λW=>Ja (t.drop (K+1)) W (by rw [List.length_drop];omega));have zA:=bx (λW (h:Below w.heap.size w W)=>Yt _ nv names la W (hn.below h) hnb hpa hta);have YU:=bx (λW (h:Below w.heap.size w W)=>Yt _ nv names lb W (hn.below h) hnb hpb htb);have HD:=bx hd;have HM:=bx hm;have jS:=bx hno;clear hn hnb hok hd hm hno hpa hpb hta htb
 go_enter Tryz.func116,Tryz.ntmps116
 go_wp2_with fail;generalize w.alloc (.cells #[.bool false, .slice none 0 0, .bool false, .slice none 0 0, .bool false] 147)=w0 at aU ⊢
 go_loopw [6] (λi wr=>∃ k:Nat,k<=K/\i = .int .i64 k/\wr=w0) (λi _=>K-(intOf i).toNat)
 case atStart=>exact⟨0,by omega,rfl,rfl⟩
 case round =>
  obtain⟨k,hk,rfl,rfl⟩:=hrel
  by_cases hlt:k<K
  ·obtain⟨c,hc⟩:∃ c,t[k]?=some c:=⟨_,List.getElem?_eq_getElem (by have:=HSL.o;omega)⟩
   have hno:=jS.o k c hlt hc;unfold F.GK at hno;rw [Bool.or_eq_false_iff,beq_eq_false_iff_ne,beq_eq_false_iff_ne] at hno;have hix:=Ag (P:=Tryz.prog) Tryz.underlying9 k hc k rfl;have e1:(U.aA c != 43)=true:=by rw [bne_iff_ne];have:=Nk (d:=43) hno.1;rw [beq_eq_false_iff_ne] at this;exact this
   have e2:(U.aA c != 47)=true:=by rw [bne_iff_ne];have:=Nk (d:=47) hno.2;rw [beq_eq_false_iff_ne] at this;exact this
   clear hc hno;go_wp2_with fail
   go_roundw
   case rel=>exact⟨k+1,by omega,by go_num,trivial⟩
   case measure=>simp [intOf];omega
  ·obtain rfl:k=K:=by omega
   have hix:=Ag (P:=Tryz.prog) Tryz.underlying9 k HD.o k rfl;have hup:=NK (P:=Tryz.prog) (T:=9) Tryz.underlying9 t k (k:Int) rfl (by rw [<- HSL.o];omega);have hfr:=Ue (P:=Tryz.prog) (T:=9) Tryz.underlying9 t (k+1) ((k:Int)+1) (by omega) (by rw [<- HSL.o];omega);obtain⟨x,hx⟩:∃ x,U.aA d=x:=⟨_,rfl⟩
   have hmm:=HM.o;unfold F.GK at hmm;rw [Bool.or_eq_true,beq_iff_eq,beq_iff_eq] at hmm;have mV:=bx (show (U.aA d==47)=(d==47) from MQ d 47);have hcase:((U.aA d != 43)=false)\/((U.aA d != 43)=true/\(U.aA d != 47)=false):=by
    rcases hmm with rfl | rfl
    ·exact .inl rfl
    ·exact .inr ⟨rfl,rfl⟩
   clear hx hmm
   rcases hcase with e1 | ⟨e1,e2⟩
   ·go_wp2_with fail;refine(Ea.o _).mono ?_;rintro e w1 ⟨rfl,rfl⟩;go_wp2_with fail;have HB1:=bx (aU.o.bel (n:=w.heap.size) (W0:=w) (by simp));refine(zA.o _ HB1.o).mono ?_;rintro e w2 ⟨⟨vl,rfl,hvl,hfl⟩,hb2⟩;have HS2:=bx (aU.o.Dl (b:=Qv) (y:=(vl,la)) hb2 ⟨hvl,λg hg=>(hfl g hg).2⟩ (λg hg=>(hfl g hg).1));obtain⟨aa,ac,rfl⟩:=Ht hvl;have aK:=bx (HS2.o.dh 144 #[.bool false, .slice aa la.length ac]);clear hb2 hvl hfl;go_wp2_with fail;generalize w2.heap.size=X at aK ⊢;generalize w2.alloc (.cells #[.bool false, .slice aa la.length ac] 144)=w3 at aK ⊢;refine(bW.o _).mono ?_;rintro e w4 ⟨rfl,rfl⟩;go_wp2_with fail;have HB3:=bx (aK.o.bel (n:=w.heap.size) (W0:=w) (by simp));refine(YU.o _ HB3.o).mono ?_;rintro e w5 ⟨⟨vr,rfl,oQ,Gg⟩,hb5⟩;have aG:=bx (aK.o.Dl (b:=Qv) (y:=(vr,lb)) hb5 ⟨oQ,λg hg=>(Gg g hg).2⟩ (λg hg=>(Gg g hg).1));obtain⟨ba,bc,rfl⟩:=Ht oQ;have dA:=bx (aG.o.dh 144 #[.bool false, .slice ba lb.length bc]);clear hb5 oQ Gg;go_wp2_with fail;generalize w5.heap.size=Y at dA ⊢;generalize w5.alloc (.cells #[.bool false, .slice ba lb.length bc] 144)=w6 at dA ⊢;refine dO 19 (λW=>W.cell? ⟨X,0,none⟩=some (.bool false)/\W.cell? ⟨X,1,none⟩=some (.slice aa la.length ac)/\W.cell? ⟨Y,0,none⟩=some (.bool false)/\W.cell? ⟨Y,1,none⟩=some (.slice ba lb.length bc)) (by kernel_rfl) ?_;have bH:=bx dA.o.drew;generalize w6.drew=w7 at bH ⊢;have hy:=bH.o.blk 0 rfl;have y0:w7.cell? ⟨Y,0,none⟩=some (.bool false):=(hy.cell 0).trans rfl;have y1:w7.cell? ⟨Y,1,none⟩=some (.slice ba lb.length bc):=(hy.cell 1).trans rfl;have hx:=bH.o.blk 2 rfl;have x0:w7.cell? ⟨X,0,none⟩=some (.bool false):=(hx.cell 0).trans rfl;have x1:w7.cell? ⟨X,1,none⟩=some (.slice aa la.length ac):=(hx.cell 1).trans rfl;have xl:=hx.lt;have yl:=hy.lt;have hr:=bH.o.blk 4 rfl;have r0:w7.cell? ⟨w.heap.size,0,none⟩=some (.bool false):=(hr.cell 0).trans rfl;have r1:w7.cell? ⟨w.heap.size,1,none⟩=some (.slice none 0 0):=(hr.cell 1).trans rfl;have r2:w7.cell? ⟨w.heap.size,2,none⟩=some (.bool false):=(hr.cell 2).trans rfl;have r3:w7.cell? ⟨w.heap.size,3,none⟩=some (.slice none 0 0):=(hr.cell 3).trans rfl;have r4:w7.cell? ⟨w.heap.size,4,none⟩=some (.bool false):=(hr.cell 4).trans rfl;have f0:=hr.frozen 0;have f1:=hr.frozen 1;have f2:=hr.frozen 2;have f3:=hr.frozen 3;have f4:=hr.frozen 4;have rl:=hr.lt;clear hx hy hr;have aC:=bx (show (λW=>W.cell? ⟨X,0,none⟩=some (.bool false)/\W.cell? ⟨X,1,none⟩=some (.slice aa la.length ac)/\W.cell? ⟨Y,0,none⟩=some (.bool false)/\W.cell? ⟨Y,1,none⟩=some (.slice ba lb.length bc)) w7 from⟨x0,x1,y0,y1⟩);clear x0 x1 y0 y1;refine kS 0 ?_ rfl aC.o ?_ ?_;rotate_left
    ·rintro w ⟨q1,q2,q3,q4⟩;go_simp;try with_reducible rfl
    refine kS 1 ?_ rfl aC.o ?_ ?_;rotate_left
    ·rintro w ⟨q1,q2,q3,q4⟩;go_simp;try with_reducible rfl
    refine kS 2 ?_ rfl aC.o ?_ ?_;rotate_left
    ·rintro w ⟨q1,q2,q3,q4⟩;go_simp;try with_reducible rfl
    refine kS 3 ?_ rfl aC.o ?_ ?_;rotate_left
    ·rintro w ⟨q1,q2,q3,q4⟩;go_simp;try with_reducible rfl
    refine kS 4 ?_ rfl aC.o ?_ ?_;rotate_left
    ·rintro w ⟨q1,q2,q3,q4⟩;go_simp;try with_reducible rfl
    refine kS 5 ?_ rfl aC.o ?_ ?_;rotate_left
    ·rintro w ⟨q1,q2,q3,q4⟩;go_simp;try with_reducible rfl
    refine kS 6 ?_ rfl aC.o ?_ ?_;rotate_left
    ·rintro w ⟨q1,q2,q3,q4⟩;go_simp;try with_reducible rfl
    refine kS 7 ?_ rfl aC.o ?_ ?_;rotate_left
    ·rintro w ⟨q1,q2,q3,q4⟩;go_simp;try with_reducible rfl
    refine kS 8 ?_ rfl aC.o ?_ ?_;rotate_left
    ·rintro w ⟨q1,q2,q3,q4⟩;go_simp;try with_reducible rfl
    refine kS 9 ?_ rfl aC.o ?_ ?_;rotate_left
    ·rintro w ⟨q1,q2,q3,q4⟩;go_simp;try with_reducible rfl
    refine kS 10 ?_ rfl aC.o ?_ ?_;rotate_left
    ·rintro w ⟨q1,q2,q3,q4⟩;go_simp;try with_reducible rfl
    refine kS 11 ?_ rfl aC.o ?_ ?_;rotate_left
    ·rintro w ⟨q1,q2,q3,q4⟩;go_simp;try with_reducible rfl
    refine kS 12 ?_ rfl aC.o ?_ ?_;rotate_left
    ·rintro w ⟨q1,q2,q3,q4⟩;go_simp;try with_reducible rfl
    refine kS 13 ?_ rfl aC.o ?_ ?_;rotate_left
    ·rintro w ⟨q1,q2,q3,q4⟩;go_simp;try with_reducible rfl
    refine kS 14 ?_ rfl aC.o ?_ ?_;rotate_left
    ·rintro w ⟨q1,q2,q3,q4⟩;go_simp;try with_reducible rfl
    refine kS 15 ?_ rfl aC.o ?_ ?_;rotate_left
    ·rintro w ⟨q1,q2,q3,q4⟩;go_simp;try with_reducible rfl
    refine kS 16 ?_ rfl aC.o ?_ ?_;rotate_left
    ·rintro w ⟨q1,q2,q3,q4⟩;go_simp;try with_reducible rfl
    refine kS 17 ?_ rfl aC.o ?_ ?_;rotate_left
    ·rintro w ⟨q1,q2,q3,q4⟩;go_simp;try with_reducible rfl
    refine kP 18 rfl λKK aj=>?_
    go_simp;have h8:=bx (((((bH.o.set 4 rfl 0 (.bool false)).set 4 rfl 1 (.slice aa la.length ac)).set 4 rfl 2 (.bool false)).set 4 rfl 3 (.slice ba lb.length bc)).set 4 rfl 4 (.bool (U.aA d==47)));refine aj.out _ _ (λ_=>⟨((h8.o.blk 2 rfl).cell 0).trans rfl,((h8.o.blk 2 rfl).cell 1).trans rfl,((h8.o.blk 0 rfl).cell 0).trans rfl,((h8.o.blk 0 rfl).cell 1).trans rfl⟩) ?_;clear aj KK;refine kP 19 rfl λKK aj=>?_
    go_simp;refine aj.out _ _ (λh=>by cases h) ?_;clear aj KK;refine kD ?_ _;go_wp2_with fail;have hl:=h8.o.iV 3 rfl (.slice aa la.length ac,la) (by simp);have hr:=h8.o.iV 1 rfl (.slice ba lb.length bc,lb) (by simp);exact bodyPost_ret (v:=.tuple #[.agg #[.bool false, .slice aa la.length ac, .bool false, .slice ba lb.length bc, .bool (U.aA d==47)], .bool true]) (BJ Tryz.results116 _ _ w.heap.size 147 #[.bool false, .slice aa la.length ac, .bool false, .slice ba lb.length bc, .bool (U.aA d==47)] (0,0) _ rfl (h8.o.blk 4 rfl) Tryz.underlying147 rfl adr) rfl
     ⟨⟨_,_,by rw [mV.o],hl.1,hr.1⟩,h8.o.bel (n:=w.heap.size) (W0:=w) (by simp)⟩
   ·go_wp2_with fail;refine(Ea.o _).mono ?_;rintro e w1 ⟨rfl,rfl⟩;go_wp2_with fail;have HB1:=bx (aU.o.bel (n:=w.heap.size) (W0:=w) (by simp));refine(zA.o _ HB1.o).mono ?_;rintro e w2 ⟨⟨vl,rfl,hvl,hfl⟩,hb2⟩;have HS2:=bx (aU.o.Dl (b:=Qv) (y:=(vl,la)) hb2 ⟨hvl,λg hg=>(hfl g hg).2⟩ (λg hg=>(hfl g hg).1));obtain⟨aa,ac,rfl⟩:=Ht hvl;have aK:=bx (HS2.o.dh 144 #[.bool false, .slice aa la.length ac]);clear hb2 hvl hfl;go_wp2_with fail;generalize w2.heap.size=X at aK ⊢;generalize w2.alloc (.cells #[.bool false, .slice aa la.length ac] 144)=w3 at aK ⊢;refine(bW.o _).mono ?_;rintro e w4 ⟨rfl,rfl⟩;go_wp2_with fail;have HB3:=bx (aK.o.bel (n:=w.heap.size) (W0:=w) (by simp));refine(YU.o _ HB3.o).mono ?_;rintro e w5 ⟨⟨vr,rfl,oQ,Gg⟩,hb5⟩;have aG:=bx (aK.o.Dl (b:=Qv) (y:=(vr,lb)) hb5 ⟨oQ,λg hg=>(Gg g hg).2⟩ (λg hg=>(Gg g hg).1));obtain⟨ba,bc,rfl⟩:=Ht oQ;have dA:=bx (aG.o.dh 144 #[.bool false, .slice ba lb.length bc]);clear hb5 oQ Gg;go_wp2_with fail;generalize w5.heap.size=Y at dA ⊢;generalize w5.alloc (.cells #[.bool false, .slice ba lb.length bc] 144)=w6 at dA ⊢;refine dO 19 (λW=>W.cell? ⟨X,0,none⟩=some (.bool false)/\W.cell? ⟨X,1,none⟩=some (.slice aa la.length ac)/\W.cell? ⟨Y,0,none⟩=some (.bool false)/\W.cell? ⟨Y,1,none⟩=some (.slice ba lb.length bc)) (by kernel_rfl) ?_;have bH:=bx dA.o.drew;generalize w6.drew=w7 at bH ⊢;have hy:=bH.o.blk 0 rfl;have y0:w7.cell? ⟨Y,0,none⟩=some (.bool false):=(hy.cell 0).trans rfl;have y1:w7.cell? ⟨Y,1,none⟩=some (.slice ba lb.length bc):=(hy.cell 1).trans rfl;have hx:=bH.o.blk 2 rfl;have x0:w7.cell? ⟨X,0,none⟩=some (.bool false):=(hx.cell 0).trans rfl;have x1:w7.cell? ⟨X,1,none⟩=some (.slice aa la.length ac):=(hx.cell 1).trans rfl;have xl:=hx.lt;have yl:=hy.lt;have hr:=bH.o.blk 4 rfl;have r0:w7.cell? ⟨w.heap.size,0,none⟩=some (.bool false):=(hr.cell 0).trans rfl;have r1:w7.cell? ⟨w.heap.size,1,none⟩=some (.slice none 0 0):=(hr.cell 1).trans rfl;have r2:w7.cell? ⟨w.heap.size,2,none⟩=some (.bool false):=(hr.cell 2).trans rfl;have r3:w7.cell? ⟨w.heap.size,3,none⟩=some (.slice none 0 0):=(hr.cell 3).trans rfl;have r4:w7.cell? ⟨w.heap.size,4,none⟩=some (.bool false):=(hr.cell 4).trans rfl;have f0:=hr.frozen 0;have f1:=hr.frozen 1;have f2:=hr.frozen 2;have f3:=hr.frozen 3;have f4:=hr.frozen 4;have rl:=hr.lt;clear hx hy hr;have aC:=bx (show (λW=>W.cell? ⟨X,0,none⟩=some (.bool false)/\W.cell? ⟨X,1,none⟩=some (.slice aa la.length ac)/\W.cell? ⟨Y,0,none⟩=some (.bool false)/\W.cell? ⟨Y,1,none⟩=some (.slice ba lb.length bc)) w7 from⟨x0,x1,y0,y1⟩);clear x0 x1 y0 y1;refine kS 0 ?_ rfl aC.o ?_ ?_;rotate_left
    ·rintro w ⟨q1,q2,q3,q4⟩;go_simp;try with_reducible rfl
    refine kS 1 ?_ rfl aC.o ?_ ?_;rotate_left
    ·rintro w ⟨q1,q2,q3,q4⟩;go_simp;try with_reducible rfl
    refine kS 2 ?_ rfl aC.o ?_ ?_;rotate_left
    ·rintro w ⟨q1,q2,q3,q4⟩;go_simp;try with_reducible rfl
    refine kS 3 ?_ rfl aC.o ?_ ?_;rotate_left
    ·rintro w ⟨q1,q2,q3,q4⟩;go_simp;try with_reducible rfl
    refine kS 4 ?_ rfl aC.o ?_ ?_;rotate_left
    ·rintro w ⟨q1,q2,q3,q4⟩;go_simp;try with_reducible rfl
    refine kS 5 ?_ rfl aC.o ?_ ?_;rotate_left
    ·rintro w ⟨q1,q2,q3,q4⟩;go_simp;try with_reducible rfl
    refine kS 6 ?_ rfl aC.o ?_ ?_;rotate_left
    ·rintro w ⟨q1,q2,q3,q4⟩;go_simp;try with_reducible rfl
    refine kS 7 ?_ rfl aC.o ?_ ?_;rotate_left
    ·rintro w ⟨q1,q2,q3,q4⟩;go_simp;try with_reducible rfl
    refine kS 8 ?_ rfl aC.o ?_ ?_;rotate_left
    ·rintro w ⟨q1,q2,q3,q4⟩;go_simp;try with_reducible rfl
    refine kS 9 ?_ rfl aC.o ?_ ?_;rotate_left
    ·rintro w ⟨q1,q2,q3,q4⟩;go_simp;try with_reducible rfl
    refine kS 10 ?_ rfl aC.o ?_ ?_;rotate_left
    ·rintro w ⟨q1,q2,q3,q4⟩;go_simp;try with_reducible rfl
    refine kS 11 ?_ rfl aC.o ?_ ?_;rotate_left
    ·rintro w ⟨q1,q2,q3,q4⟩;go_simp;try with_reducible rfl
    refine kS 12 ?_ rfl aC.o ?_ ?_;rotate_left
    ·rintro w ⟨q1,q2,q3,q4⟩;go_simp;try with_reducible rfl
    refine kS 13 ?_ rfl aC.o ?_ ?_;rotate_left
    ·rintro w ⟨q1,q2,q3,q4⟩;go_simp;try with_reducible rfl
    refine kS 14 ?_ rfl aC.o ?_ ?_;rotate_left
    ·rintro w ⟨q1,q2,q3,q4⟩;go_simp;try with_reducible rfl
    refine kS 15 ?_ rfl aC.o ?_ ?_;rotate_left
    ·rintro w ⟨q1,q2,q3,q4⟩;go_simp;try with_reducible rfl
    refine kS 16 ?_ rfl aC.o ?_ ?_;rotate_left
    ·rintro w ⟨q1,q2,q3,q4⟩;go_simp;try with_reducible rfl
    refine kS 17 ?_ rfl aC.o ?_ ?_;rotate_left
    ·rintro w ⟨q1,q2,q3,q4⟩;go_simp;try with_reducible rfl
    refine kP 18 rfl λKK aj=>?_
    go_simp;have h8:=bx (((((bH.o.set 4 rfl 0 (.bool false)).set 4 rfl 1 (.slice aa la.length ac)).set 4 rfl 2 (.bool false)).set 4 rfl 3 (.slice ba lb.length bc)).set 4 rfl 4 (.bool (U.aA d==47)));refine aj.out _ _ (λ_=>⟨((h8.o.blk 2 rfl).cell 0).trans rfl,((h8.o.blk 2 rfl).cell 1).trans rfl,((h8.o.blk 0 rfl).cell 0).trans rfl,((h8.o.blk 0 rfl).cell 1).trans rfl⟩) ?_;clear aj KK;refine kP 19 rfl λKK aj=>?_
    go_simp;refine aj.out _ _ (λh=>by cases h) ?_;clear aj KK;refine kD ?_ _;go_wp2_with fail;have hl:=h8.o.iV 3 rfl (.slice aa la.length ac,la) (by simp);have hr:=h8.o.iV 1 rfl (.slice ba lb.length bc,lb) (by simp);exact bodyPost_ret (v:=.tuple #[.agg #[.bool false, .slice aa la.length ac, .bool false, .slice ba lb.length bc, .bool (U.aA d==47)], .bool true]) (BJ Tryz.results116 _ _ w.heap.size 147 #[.bool false, .slice aa la.length ac, .bool false, .slice ba lb.length bc, .bool (U.aA d==47)] (0,0) _ rfl (h8.o.blk 4 rfl) Tryz.underlying147 rfl adr) rfl
     ⟨⟨_,_,by rw [mV.o],hl.1,hr.1⟩,h8.o.bel (n:=w.heap.size) (W0:=w) (by simp)⟩
theorem akU (s:List UInt8) (nv:Value) (names:List (List UInt8)) (r:D.Rule) (w:World) (hn:iY w nv names) (hnb:F.vM names=true) (hnl:F.split 10 s=[s]) (hne:F.trim ((F.split 35 s).headD [])≠[]) (hok:F.H8 names (F.trim ((F.split 35 s).headD []))=some r) (hz:s.length<=20000) :
  Calls Tryz.prog 66 #[.string (bs s),nv] w λe w'=>(∃ v,e = .returned (.tuple #[v, .int .i64 0, .int .i64 0])/\dP w' v [r])/\Below w.heap.size w w':=by
 have nJ:=bx (OZ nv names w hn hnb);have jO:=bx (λW=>show Calls Tryz.prog 114 #[.string (bs s), .int .u8 10] W λe w'=>(∃ v,e = .returned v/\iY w' v (F.split 10 s))/\Below W.heap.size W w' from LY s 10 W (by omega));rw [hnl] at jO;obtain⟨h,t,Zw,aoO⟩:=Oq 35 s;have HS2:=bx (λW=>show Calls Tryz.prog 114 #[.string (bs s), .int .u8 35] W λe w'=>(∃ v,e = .returned v/\iY w' v (F.split 35 s))/\Below W.heap.size W w' from LY s 35 W (by omega));rw [Zw] at HS2 hne hok;rw [List.headD_cons] at hne hok;have nY:=bx (λW=>Ja h W (by omega));have hTl:(F.trim h).length<=20000:=by have:=F.Fh h;omega
 generalize F.trim h=T at nY hne hok hTl;have sO:=bx (λW (hb:Below w.heap.size w W)=>amG T nv names r W (hn.below hb) hnb hok hTl);have hemp:=BA hne;clear hn hnb hnl hne hok Zw hTl
 go_enter Tryz.func66,Tryz.ntmps66
 go_wp2_with fail;refine nJ.o.mono ?_;rintro e w1 ⟨rfl,nd,rfl⟩;have HB1:=bx (jG w nd);generalize w.drewN nd=w1 at HB1 ⊢;go_wp2_with fail;refine(jO.o _).mono ?_;rintro e w2 ⟨⟨v,rfl,hv⟩,hb2⟩;have HB2:=bx (bt HB1.o hb2);obtain⟨g,off,cap,rfl,q2,q3,q4,q5⟩:=hv.get (by simp);have hc:=q5 0 s rfl;rw [Nat.add_zero] at hc;unfold maxLen at q3;rw [List.length_singleton] at q2 ⊢;have HG:=bx q4;clear hb2 hv q5;go_wp2_with fail;refine wp_loop_rounds 2 ?_;rw [rounds_succ];go_wp2_with fail;refine(HS2.o _).mono ?_;rintro e w3 ⟨⟨v,rfl,hv⟩,hb3⟩;have HB3:=bx (bt HB2.o hb3);obtain⟨g',off',cap',rfl,p2,p3,p4,p5⟩:=hv.get (by simp);have hc':=p5 0 h rfl;rw [Nat.add_zero] at hc';rw [List.length_cons] at p2 ⊢;unfold maxLen at p3;obtain⟨n',hn'⟩:∃ n',t.length=n':=⟨_,rfl⟩
 rw [hn'] at p2 ⊢;clear hb3 hv p5 hc q4 hn';go_wp2_with fail;refine(nY.o _).mono ?_;rintro e w4 ⟨rfl,rfl⟩;clear hc' p4;go_wp2_with fail;refine(sO.o _ HB3.o).mono ?_;rintro e w5 ⟨⟨vl,vr,rfl,hvl,oQ⟩,hb5⟩;have aP:=bx (bt HB3.o hb5);obtain⟨aa,ac,rfl⟩:=Ht hvl;obtain⟨ba,bc,rfl⟩:=Ht oQ;have ug:=bx hvl;have zL:=bx oQ;have dA:=bx (((Sep.start w5).fP w5.heap.size 5 147).dh 147 #[.bool r.1.1, .slice aa r.1.2.length ac, .bool r.2.1.1, .slice ba r.2.1.2.length bc, .bool r.2.2]);have bK:=bx (show (w5.alloc (.cells #[.bool r.1.1, .slice aa r.1.2.length ac, .bool r.2.1.1, .slice ba r.2.1.2.length bc, .bool r.2.2] 147)).heap.size=w5.heap.size+1 by simp);have hwz:w5.heap.size<=(w5.alloc (.cells #[.bool r.1.1, .slice aa r.1.2.length ac, .bool r.2.1.1, .slice ba r.2.1.2.length bc, .bool r.2.2] 147)).heap.size:=by simp
 clear hb5 hvl oQ;go_wp2_with (at_builtin;refine xR (cs:=lD (r, .slice aa r.1.2.length ac, .slice ba r.2.1.2.length bc)) rfl _ _ 41 rfl Oy (by decide) dA.o 1 rfl rfl (by rw [bK.o];rfl) rfl (by intro u hu;simp only [lD,List.mem_cons,List.not_mem_nil,or_false] at hu;rcases hu with rfl | rfl | rfl | rfl | rfl <;> rfl) (by omega) (by omega) hwz ?_;rintro v' w6 hS7 ⟨go',gc',rfl,-,-⟩)
 have hbe:=hS7.bel (n:=w5.heap.size) (W0:=w5) (by simp);have vZ:=bx (show dP w6 (.slice (some ⟨go',0,none⟩) (0+1) gc') [r] from O4 (L:=[(r, .slice aa r.1.2.length ac, .slice ba r.2.1.2.length bc)]) (by have h9:=hS7.row 1 rfl;simpa using h9) rfl (λy hy=>by rw [List.mem_singleton.1 hy];exact⟨ug.o.below hbe,zL.o.below hbe⟩));have cO:=bx (bt aP.o hbe);clear hS7 hbe;go_wp2_with fail;rw [rounds_succ];go_wp2_with fail
 go_ret3
 exact⟨⟨_,rfl,vZ.o⟩,cO.o⟩
structure Tab where
 n:Int
 p:F.Trie
 r:List D.Rule
 m:D.dF
def TabAt (w:World) (v:Value) (t:Tab):Prop:=∃ pi pb rv nv fv,v = .agg #[.int .i64 t.n,pi,pb,rv,nv,fv]/\ay w pi t.p.1/\iq w pb t.p.2/\dP w rv t.r/\iq w nv t.m.1/\ay w fv t.m.2
theorem TabAt.below {w w':World} {v:Value} {t:Tab} (h:TabAt w v t) (hb:Below w.heap.size w w'):TabAt w' v t:=by
 obtain⟨pi,pb,rv,nv,fv,h0,h1,h2,h3,h4,h5⟩:=h;exact⟨pi,pb,rv,nv,fv,h0,h1.below hb,h2.below hb,h3.below hb,h4.below hb,h5.below hb⟩
theorem akL {w:World} {n:Int} {p:F.Trie} {r:List D.Rule} {m:D.dF} {pi pb rv nv fv:Value} (h1:ay w pi p.1) (h2:iq w pb p.2) (h3:dP w rv r) (h4:iq w nv m.1) (h5:ay w fv m.2):TabAt w (.agg #[.int .i64 n,pi,pb,rv,nv,fv]) ⟨n,p,r,m⟩:=⟨pi,pb,rv,nv,fv,rfl,h1,h2,h3,h4,h5⟩
theorem NT:(Tryz.prog.info? 46).map (·.size)=some 6:=by kernel_rfl
section
variable {W W':World} {R:Nat} {T:TypeId}
def Fe:Array Value:=#[.int .i64 0, .slice none 0 0, .slice none 0 0, .slice none 0 0, .slice none 0 0, .slice none 0 0]
theorem Om {j:Nat} {u:Value} (h:ak W R T Fe) (hu:W.cell? ⟨R,j,none⟩=some u):(j=0/\u = .int .i64 0)\/(0<j/\u = .slice none 0 0):=by
 rw [h.cell j] at hu;unfold Fe at hu
 match j with
 | 0=>left;exact⟨rfl,by simpa using hu.symm⟩
 | 1 | 2 | 3 | 4 | 5=>right;exact⟨by omega,by simpa using hu.symm⟩
 | j+6=>simp at hu
theorem Ux {v:Value} {xs:List Int} (hb:ak W R T Fe) (ht:Turns (λq=>q=R) W W') (h:ay W v xs) (h2:2<=xs.length):ay W' v xs:=by
 obtain⟨b,off,cap,rfl,h3,h4,h5,h6⟩:=h.get (by rintro rfl;simp at h2);have hne:b≠R:=by
  rintro rfl;have e1:=h6 1 xs[1] (List.getElem?_eq_getElem (by omega))
  rcases Om hb e1 with⟨h7,-⟩ | ⟨-,h7⟩
  ·omega
  ·cases h7
 exact Yv h ht.size (λg hg=>by simp [Value.ownBlock] at hg;subst hg;exact ht.block _ h5 hne)
theorem adq {v:Value} {rows:List (List Int)} (hb:ak W R T Fe) (ht:Turns (λq=>q=R) W W') (h:iq W v rows) (hn:rows≠[]) (h2:∀ r∈rows,2<=r.length):iq W' v rows:=by
 obtain⟨b,off,cap,rfl,h3,h4,h5,h6⟩:=h.get hn;have hne:b≠R:=by
  rintro rfl;obtain⟨r0,hr0⟩:∃ r0,rows[0]?=some r0:=⟨_,List.getElem?_eq_getElem (List.length_pos_iff.2 hn)⟩
  obtain⟨x,hx,hi⟩:=h6 0 r0 hr0;have h7:=h2 r0 (List.mem_of_getElem? hr0)
  rcases Om hb hx with⟨-,rfl⟩ | ⟨-,rfl⟩
  ·rcases hi with⟨h8,-⟩ | ⟨_,_,_,_,h8,-⟩ <;> cases h8
  ·rcases hi with⟨-,rfl⟩ | ⟨_,_,_,_,h8,-⟩
   ·simp at h7
   ·injection h8 with h8;cases h8
 refine .inr ⟨b,off,none,cap,rfl,h3,h4,λ_=>⟨rfl,Nat.lt_of_lt_of_le h5 ht.size,λi r hr=>?_⟩⟩;obtain⟨x,hx,hi⟩:=h6 i r hr;exact⟨x,(World.cell?_of_block (ht.block b h5 hne)).trans hx,Ux hb ht hi (h2 r (List.mem_of_getElem? hr))⟩
theorem abe {v:Value} {l:List N.Item} (hb:ak W R T Fe) (ht:Turns (λq=>q=R) W W') (h:bM W v l):bM W' v l:=by
 rcases h with h | ⟨b,off,sp,cap,rfl,h3,h4,h5⟩
 ·exact .inl h
 ·refine .inr ⟨b,off,sp,cap,rfl,h3,h4,λhn=>?_⟩;obtain⟨rfl,h6,h7⟩:=h5 hn;have hne:b≠R:=by
   rintro rfl;obtain⟨x,hx⟩:∃ x,l[0]?=some x:=⟨_,List.getElem?_eq_getElem (List.length_pos_iff.2 hn)⟩
   rcases Om hb (h7 0 x hx).2 with⟨h8,-⟩ | ⟨-,h8⟩
   ·omega
   ·cases h8
  exact⟨rfl,Nat.lt_of_lt_of_le h6 ht.size,λi x hx=>⟨(World.cell?_of_block (ht.block b h6 hne)).trans (h7 i x hx).1,(World.cell?_of_block (ht.block b h6 hne)).trans (h7 i x hx).2⟩⟩
theorem am2 {v:Value} {l:List D.Rule} (hb:ak W R T Fe) (ht:Turns (λq=>q=R) W W') (h:dP W v l) (hn:l≠[]):dP W' v l:=by
 obtain⟨b,off,cap,rfl,h3,h4,h5,h6⟩:=h.get hn;have hne:b≠R:=by
  rintro rfl;obtain⟨x,hx⟩:∃ x,l[0]?=some x:=⟨_,List.getElem?_eq_getElem (List.length_pos_iff.2 hn)⟩
  obtain⟨vl,vr,h7,-⟩:=h6 0 x hx
  rcases Om hb h7 with⟨-,h8⟩ | ⟨-,h8⟩ <;> cases h8
 refine .inr ⟨b,off,none,cap,rfl,h3,h4,λ_=>⟨rfl,Nat.lt_of_lt_of_le h5 ht.size,λi x hx=>?_⟩⟩;obtain⟨vl,vr,k0,k1,k2,k3,k4,k5,k6⟩:=h6 i x hx;have hc:∀ (j:Nat) (u:Value),W.cell? ⟨b,j,none⟩=some u->W'.cell? ⟨b,j,none⟩=some u:=λj u h=>(World.cell?_of_block (ht.block b h5 hne)).trans h
 exact⟨vl,vr,hc _ _ k0,hc _ _ k1,hc _ _ k2,hc _ _ k3,hc _ _ k4,abe hb ht k5,abe hb ht k6⟩
end
def Vw (m:D.dF):Bool:=decide (m.1≠[])&&m.1.all (λr=>decide (2<=r.length))&&decide (2<=m.2.length)
theorem F.afW (l:List F.bJ):(F.iR l).2≠[]:=by
 intro h;obtain⟨n,-,h2⟩:=(F.built l 4352).at' 0 (by omega);have e:(F.nN l 4352).2=[]:=h;rw [e] at h2;simp at h2
theorem aez (props rules:List UInt8) (nv:Value) (names:List (List UInt8)) (t:List F.bJ) (r:D.Rule) (w:World) (hn:iY w nv names) (hnb:F.vM names=true) (hp:F.Bh props names false=some t) (ht:F.tX t=true)
  (hnl:F.split 10 rules=[rules]) (hne:F.trim ((F.split 35 rules).headD [])≠[]) (hok:F.H8 names (F.trim ((F.split 35 rules).headD []))=some r) (hz:rules.length<=20000) (hf:pz r) (hc:zW [r] (names.length:Int)=0) (hmf:Vw (xB [r] (names.length:Int))=true) :
  Calls Tryz.prog 32 #[.string (bs props), .string (bs rules),nv] w λe w'=>(∃ v,e = .returned (.tuple #[v, .int .i64 0, .int .i64 0])/\TabAt w' v ⟨names.length,F.iR t,[r],xB [r] names.length⟩)/\Below w.heap.size w w':=by
 obtain⟨TT,C9⟩:∃ TT,F.iR t=TT:=⟨_,rfl⟩
 obtain⟨MM,Qc⟩:∃ MM,xB [r] (names.length:Int)=MM:=⟨_,rfl⟩
 have lq:=bx (show TT.1.length=4352/\TT.2≠[]/\∀ x∈TT.2,x.length=256 from C9▸⟨(F.OQ t 4352).1,F.afW t,(F.OQ t 4352).2.2⟩);rw [C9,Qc];rw [Qc] at hmf;obtain⟨na,nc,rfl,hc1,hc2⟩:=hn.slice;have hb0:=aS w (.cells #[.int .i64 0, .slice none 0 0, .slice none 0 0, .slice none 0 0, .slice none 0 0, .slice none 0 0] 46);have wR:=bx (ac1 props _ names false t _ (hn.below hb0) hnb hp);have zA:=bx (λW (hb:Below w.heap.size w W)=>akU rules _ names r W (hn.below hb) hnb hnl hne hok hz);have oH:=bx (λrv W (hr:dP W rv [r])=>show Calls Tryz.prog 67 #[rv, .int .i64 (names.length:Int)] W λe w'=>Below W.heap.size W w'/\∃ mv,e = .returned (.tuple #[mv, .int .i64 0])/\nT w' mv MM by
  have h9:=ahY rv [r] (names.length:Int) W (λx hx=>by rw [List.mem_singleton.1 hx];exact hf) hr (by simp);unfold ZT at h9;rw [hc,Qc] at h9;exact h9)
 have Oe:=bx (λlv W (hl:jh W lv t)=>C9▸alB lv t W hl ht);have HB0:=bx hb0;have HR0:=bx (ak.new w 46 #[.int .i64 0, .slice none 0 0, .slice none 0 0, .slice none 0 0, .slice none 0 0, .slice none 0 0]);have Dw:=bx hmf;clear hn hb0 hnb hp ht hnl hne hok hf hc hmf C9 Qc
 go_enter Tryz.func32,Tryz.ntmps32
 go_wp2_with fail;refine wR.o.mono ?_;rintro e w1 ⟨⟨lv,rfl,hlv⟩,hb1⟩;have HB1:=bx (bt HB0.o hb1);have HR1:=bx (HR0.o.below hb1 HR0.o.lt);have qC:=bx hlv;clear hb1 hlv;go_wp2_with fail;refine(zA.o _ HB1.o).mono ?_;rintro e w2 ⟨⟨rv,rfl,IV⟩,hb2⟩;have HB2:=bx (bt HB1.o hb2);have HR2:=bx (HR1.o.below hb2 HR1.o.lt);have HL2:=bx (qC.o.below hb2);have EN:=bx IV;clear hb2 IV;go_wp2_with fail;obtain⟨ra,rc,rfl⟩:=EN.o.slice;refine(oH.o _ w2 EN.o).mono ?_;rintro e w3 ⟨hb3,mv,rfl,hmv⟩;have HB3:=bx (bt HB2.o hb3);have HR3:=bx (HR2.o.below hb3 HR2.o.lt);have qF:=bx (HL2.o.below hb3);have nU:=bx (EN.o.below hb3);have HM3:=bx hmv;obtain⟨mn,mf,rfl,hmn,P7⟩:=hmv;obtain⟨ma,mc,rfl⟩:=hmn.slice;obtain⟨fa,fc,rfl⟩:=P7.slice;clear hb3 hmn P7;go_wp2_with fail;have k4:=aS w3 (.cells #[.slice ma (MM).1.length mc, .slice fa (MM).2.length fc] 44);have BN:=bx (ak.new w3 44 #[.slice ma (MM).1.length mc, .slice fa (MM).2.length fc]);have HB4:=bx (bt HB3.o k4);have HR4:=bx (HR3.o.below k4 HR3.o.lt);have JL:=bx (qF.o.below k4);have sJ:=bx (nU.o.below k4);have UE:=bx (HM3.o.below k4);clear k4;obtain⟨M,hM⟩:∃ M,w3.heap.size=M:=⟨_,rfl⟩
 rw [hM] at BN ⊢;generalize w3.alloc (.cells #[.slice ma (MM).1.length mc, .slice fa (MM).2.length fc] 44)=w4 at BN HB4 HR4 JL sJ UE ⊢;clear hM;refine(Oe.o lv w4 JL.o).mono ?_;rintro e w5 ⟨⟨tv,rfl,QJ⟩,hb5⟩;have aP:=bx (bt HB4.o hb5);have HR5:=bx (HR4.o.below hb5 HR4.o.lt);have wJ:=bx (BN.o.below hb5 BN.o.lt);have HV5:=bx (sJ.o.below hb5);have KD:=bx (UE.o.below hb5);have AZ:=bx QJ;obtain⟨iv,bv,rfl,hiv,hbv⟩:=QJ;obtain⟨ia,ic,rfl⟩:=hiv.slice;obtain⟨ba,bc,rfl⟩:=hbv.slice;clear hb5 hiv hbv;clear oH Oe zA wR HM3 UE BN HR0 HR1 HR2 HR3 HR4 HB0 HB1 HB2 HB3 HB4 HL2 qF JL qC EN nU sJ;have k6:=aS w5 (.cells #[.slice ia TT.1.length ic, .slice ba TT.2.length bc] 26);have cO:=bx (bt aP.o k6);have uz:=bx (HR5.o.below k6 HR5.o.lt);have yT:=bx (HV5.o.below k6);have HM6:=bx (KD.o.below k6);have HT6:=bx (AZ.o.below k6);have hk:=wJ.o.below k6 wJ.o.lt;have m0:=(hk.cell 0).trans (show _=some (Value.slice ma MM.1.length mc) from rfl);have m1:=(hk.cell 1).trans (show _=some (Value.slice fa MM.2.length fc) from rfl);have ml:=hk.lt;have r0:=(uz.o.cell 0).trans (show _=some (Value.int .i64 0) from rfl);have r1:=(uz.o.cell 1).trans (show _=some (Value.slice none 0 0) from rfl);have r2:=(uz.o.cell 2).trans (show _=some (Value.slice none 0 0) from rfl);have r3:=(uz.o.cell 3).trans (show _=some (Value.slice none 0 0) from rfl);have r4:=(uz.o.cell 4).trans (show _=some (Value.slice none 0 0) from rfl);have r5:=(uz.o.cell 5).trans (show _=some (Value.slice none 0 0) from rfl);have f0:=uz.o.frozen 0;have f1:=uz.o.frozen 1;have f2:=uz.o.frozen 2;have f3:=uz.o.frozen 3;have f4:=uz.o.frozen 4;have f5:=uz.o.frozen 5;have rl:=uz.o.lt;clear k6 hk;go_wp2_with fail;have hT:Turns (λq=>q=w.heap.size) (w5.alloc (.cells #[.slice ia TT.1.length ic, .slice ba TT.2.length bc] 26)) (((((((w5.alloc (.cells #[.slice ia TT.1.length ic, .slice ba TT.2.length bc] 26)).setCell ⟨w.heap.size,0,none⟩ (.int .i64 ↑names.length)).setCell ⟨w.heap.size,1,none⟩ (.slice ia TT.1.length ic)).setCell ⟨w.heap.size,2,none⟩ (.slice ba TT.2.length bc)).setCell ⟨w.heap.size,3,none⟩ (.slice ra 1 rc)).setCell ⟨w.heap.size,4,none⟩ (.slice ma MM.1.length mc)).setCell ⟨w.heap.size,5,none⟩ (.slice fa MM.2.length fc)):=((((((Turns.setCell (own:=λq=>q=w.heap.size) _ (p:=⟨w.heap.size,0,none⟩) rfl _).trans (Turns.setCell (own:=λq=>q=w.heap.size) _ (p:=⟨w.heap.size,1,none⟩) rfl _)).trans (Turns.setCell (own:=λq=>q=w.heap.size) _ (p:=⟨w.heap.size,2,none⟩) rfl _)).trans (Turns.setCell (own:=λq=>q=w.heap.size) _ (p:=⟨w.heap.size,3,none⟩) rfl _)).trans (Turns.setCell (own:=λq=>q=w.heap.size) _ (p:=⟨w.heap.size,4,none⟩) rfl _)).trans (Turns.setCell (own:=λq=>q=w.heap.size) _ (p:=⟨w.heap.size,5,none⟩) rfl _))
 have WC:=Dw.o;unfold Vw at WC;simp only [Bool.and_eq_true,decide_eq_true_eq,List.all_eq_true] at WC;obtain⟨⟨hm1,hm2⟩,GU⟩:=WC;obtain⟨iv,bv,e1,ht1,ht2⟩:=HT6.o;injection e1 with e1;simp only [Array.mk.injEq,List.cons.injEq,and_true] at e1;obtain⟨rfl,rfl⟩:=e1;obtain⟨iv,bv,e2,hq1,hq2⟩:=HM6.o;injection e2 with e2;simp only [Array.mk.injEq,List.cons.injEq,and_true] at e2;obtain⟨rfl,rfl⟩:=e2;have hres:ak (w5.alloc (.cells #[.slice ia TT.1.length ic, .slice ba TT.2.length bc] 26)) w.heap.size 46 Fe:=uz.o;have q1:=Ux hres hT ht1 (by rw [lq.o.1];omega);have q2:=adq hres hT ht2 lq.o.2.1 (λx hx=>by have:=lq.o.2.2 x hx;omega);have q3:=am2 hres hT yT.o (by simp);have q4:=adq hres hT hq1 hm1 hm2;have q5:=Ux hres hT hq2 GU;have ak2:TabAt (((((((w5.alloc (.cells #[.slice ia TT.1.length ic, .slice ba TT.2.length bc] 26)).setCell ⟨w.heap.size,0,none⟩ (.int .i64 ↑names.length)).setCell ⟨w.heap.size,1,none⟩ (.slice ia TT.1.length ic)).setCell ⟨w.heap.size,2,none⟩ (.slice ba TT.2.length bc)).setCell ⟨w.heap.size,3,none⟩ (.slice ra 1 rc)).setCell ⟨w.heap.size,4,none⟩ (.slice ma MM.1.length mc)).setCell ⟨w.heap.size,5,none⟩ (.slice fa MM.2.length fc)) (.agg #[.int .i64 ↑names.length, .slice ia TT.1.length ic, .slice ba TT.2.length bc, .slice ra 1 rc, .slice ma MM.1.length mc, .slice fa MM.2.length fc]) ⟨↑names.length,TT,[r],MM⟩:=akL q1 q2 q3 q4 q5;refine bodyPost_ret (v:=.tuple #[.agg #[.int .i64 ↑names.length, .slice ia TT.1.length ic, .slice ba TT.2.length bc, .slice ra 1 rc, .slice ma MM.1.length mc, .slice fa MM.2.length fc], .int .i64 0, .int .i64 0]) (GV Tryz.results32 _ _ w.heap.size 46 #[.int .i64 ↑names.length, .slice ia TT.1.length ic, .slice ba TT.2.length bc, .slice ra 1 rc, .slice ma MM.1.length mc, .slice fa MM.2.length fc] (0,0) _ rfl ((((((uz.o.bP 0 (.int .i64 ↑names.length)).bP 1 (.slice ia TT.1.length ic)).bP 2 (.slice ba TT.2.length bc)).bP 3 (.slice ra 1 rc)).bP 4 (.slice ma MM.1.length mc)).bP 5 (.slice fa MM.2.length fc)) Tryz.underlying46 rfl NT) rfl
  ⟨⟨_,rfl,ak2⟩,((((((cO.o.setCell (Nat.le_refl _) _).setCell (Nat.le_refl _) _).setCell (Nat.le_refl _) _).setCell (Nat.le_refl _) _).setCell (Nat.le_refl _) _).setCell (Nat.le_refl _) _)⟩
theorem anX {n m:Nat} {W0 w:World} {ps:List Pc} {iv bv:Value} {xs:List Int} {L:List (Value×List Int)} (h:Sep (Pc.row m 3 1 iv xs.length (xs.map (Value.int .i64))::Pc.row m 23 1 bv L.length (L.map (·.1))::Pc.iV oq L::Pc.old n W0::ps) w) (hm:n<=m):Sep (yt n W0 ps iv bv xs L) w :=
 (h.as 0 (p':=Pc.row n 3 1 iv xs.length (xs.map (Value.int .i64))) rfl (λhr=>own_base hr hm) (λ_ hk=>hk)).as 1 (p':=Pc.row n 23 1 bv L.length (L.map λy:Value×List Int=>y.1)) rfl (λhr=>own_base (xs:=L.map λy:Value×List Int=>y.1) hr hm) (λ_ hk=>hk)
theorem aaA (W:World) (a b:List UInt8) (T:TypeId):iY (W.alloc (.cells #[.string (bs a), .string (bs b)] T)) (.slice (some ⟨W.heap.size,0,none⟩) 2 2) [a,b] :=
 kG.ae4 (xs:=[a,b].map pK) (T:=T) (ak.new W T #[.string (bs a), .string (bs b)]) (by simp)
theorem acC (file name:List UInt8) (t:List F.bJ) (w:World) (hnb:F.vM [[78,111],name]=true) (hp:F.Bh file [[78,111],name] true=some t) (ht:F.tX t=true) :
  Calls Tryz.prog 64 #[.string (bs file), .string (bs name)] w λe w'=>∃ iv bv L,e = .returned (.tuple #[.agg #[iv,bv], .int .i64 0, .int .i64 0])/\L.map (·.2)=(F.iR t).2/\Sep (yt w.heap.size w [] iv bv (F.iR t).1 L) w':=by
 obtain⟨TT,C9⟩:∃ TT,F.iR t=TT:=⟨_,rfl⟩
 rw [C9];obtain⟨V,hV⟩:∃ V,V=w.alloc (.cells #[.slice none 0 0, .slice none 0 0] 26):=⟨_,rfl⟩
 have hVs:V.heap.size=w.heap.size+1:=by rw [hV];simp
 have aU:=bx (show Sep [Pc.blk w.heap.size 26 #[.slice none 0 0, .slice none 0 0],Pc.old w.heap.size w] V by rw [hV];exact(Sep.start w).dh 26 #[.slice none 0 0, .slice none 0 0]);have gU:=bx (aaA V [78,111] name 9);have wR:=bx (ac1 file _ [[78,111],name] true t (V.alloc (.cells #[.string (bs [78,111]), .string (bs name)] 9)) gU.o hnb hp);have Oe:=bx (λlv W (hl:jh W lv t)=>C9▸X0 lv t W hl ht);have HV:=bx hV;clear hnb hp ht C9 hVs hV
 go_enter Tryz.func64,Tryz.ntmps64
 go_upto_region 1 with(fail)
 rw [<- HV.o];have hno:bs [78,111]={ data:=#[78,111] }:=rfl;rw [hno] at wR;go_wp2_with fail;refine wR.o.mono ?_;rintro e w1 ⟨⟨lv,rfl,hlv⟩,hb1⟩;have bQ:=bx ((aU.o.alloc (.cells #[.string { data:=#[78,111] }, .string (bs name)] 9)).below hb1);have qC:=bx hlv;have hle:w.heap.size<=w1.heap.size:=(bQ.o.bel (n:=w.heap.size) (W0:=w) (by simp)).size;clear hb1 hlv;go_wp2_with fail;refine(Oe.o lv w1 qC.o).mono ?_;rintro e w2 ⟨iv,bv,L,rfl,hL,hS2⟩;have HL:=bx hL;have HS2:=bx (bQ.o.frame (qs:=[_,_,_]) hS2);obtain⟨ia,ic,rfl,hi1,hi2⟩:=dN (hS2.row 0 rfl);obtain⟨ba,bc,rfl,hb1,hb2⟩:=dN (hS2.row 1 rfl);clear hL hS2;have aK:=bx (HS2.o.dh 26 #[.slice ia TT.1.length ic, .slice ba L.length bc]);have hr:=aK.o.blk 4 rfl;have r0:=(hr.cell 0).trans (show _=some (Value.slice none 0 0) from rfl);have r1:=(hr.cell 1).trans (show _=some (Value.slice none 0 0) from rfl);have f0:=hr.frozen 0;have f1:=hr.frozen 1;have rl:=hr.lt;clear hr;go_wp2_with fail;have h6:=(aK.o.set 4 rfl 0 (.slice ia TT.1.length ic)).set 4 rfl 1 (.slice ba L.length bc);refine bodyPost_ret (v:=.tuple #[.agg #[.slice ia TT.1.length ic, .slice ba L.length bc], .int .i64 0, .int .i64 0]) (GV Tryz.results64 _ _ w.heap.size 26 #[.slice ia TT.1.length ic, .slice ba L.length bc] (0,0) _ rfl (h6.blk 4 rfl) Tryz.underlying26 rfl Pz) rfl ⟨_,_,L,rfl,HL.o,?_⟩;exact anX ((h6.drop 4).tail) hle
end
namespace T
open Go.Proofs.YtlmdjifffmofeaaGreatDoor
structure Cs where
 lo:List F.Map
 ti:List F.Map
 ca:F.Trie
 ig:F.Trie
def toB (l:List Int):Bool:=decide (l.length<=3)&&l.all U.right
def CY:Int->List F.Map->Bool
 | _,[]=>true
 | last,x::t=>U.right x.1&&decide (last<x.1)&&toB x.2&&CY x.1 t
def iI (m:Nat) (l:List F.Map):Bool:=CY (-1) l&&decide (l.length<=m)
def cu (m:Nat) (c:Cs):Bool:=iI m c.lo&&iI m c.ti&&F.jK c.ca&&F.jK c.ig
def becomes (l:List F.Map) (r:Int):List Int:=match l.find? (λx=>x.1==r) with
 | some x=>x.2
 | none=>[r]
def cased (c:Cs) (r:Int):Bool:=F.says c.ca r != 0
def aX (c:Cs) (r:Int):Bool:=F.says c.ig r != 0
def meets (c:Cs):List Int->Bool
 | []=>false
 | r::t=>cased c r||(aX c r&&meets c t)
def final (c:Cs) (l:List Int) (at':Nat):Bool:=meets c (l.take at').reverse&&!meets c (l.drop (at'+1))
def small (c:Cs) (l:List Int) (at':Nat):List Int:=if (l.getD at' 0==931&&final c l at')=true then [962] else becomes c.lo (l.getD at' 0)
def lower (c:Cs) (l:List Int):List Int:=(List.range l.length).flatMap (small c l)
def uM (c:Cs) (l:List Int):Nat->Nat->Bool->List Int
 | 0,_,_=>[]
 | n+1,i,true=>small c l i++uM c l n (i+1) true
 | n+1,i,false=>if cased c (l.getD i 0)=true then becomes c.ti (l.getD i 0)++uM c l n (i+1) true else l.getD i 0::uM c l n (i+1) false
def word (c:Cs) (l:List Int) (a b:Nat):List Int:=uM c l (b-a) a false
end T
section
open Go.RowKit
attribute [local go_sem] Oper.semAt_some
theorem ae9 {w:World} {b off K:Nat} {xs:List (List Value)} (hK:0<K) (h:∀ (i:Nat) (c:List Value),xs[i]?=some c->∀ (j:Nat) (u:Value),c[j]?=some u->w.cell? ⟨b,off+i*K+j,none⟩=some u) (hk:∀ c∈xs,c.length=K) (n cap:Nat):qo w (.slice (some ⟨b,off,none⟩) n cap) n xs.flatten:=by
 refine .inr ⟨_,_,rfl,λj u hu=>?_⟩;have hfl:xs.flatten.length=xs.length*K:=by
  clear h hu
  induction xs with
  | nil=>simp
  | cons c t ih=>rw [List.flatten_cons,List.length_append,hk c (List.mem_cons_self ..),ih (λc hc=>hk c (List.mem_cons_of_mem _ hc)),List.length_cons,Nat.succ_mul,Nat.add_comm]
 have hj:j<xs.length*K:=by rw [<- hfl];exact(List.getElem?_eq_some_iff.1 hu).1
 have hi:j / K<xs.length:=Nat.div_lt_of_lt_mul (by rw [Nat.mul_comm];exact hj);obtain⟨c,hc⟩:∃ c,xs[j / K]?=some c:=⟨_,List.getElem?_eq_getElem hi⟩
 have hcl:=hk c (List.mem_of_getElem? hc);have hm:j % K<K:=Nat.mod_lt _ hK;obtain⟨u',hu'⟩:∃ u',c[j % K]?=some u':=⟨_,List.getElem?_eq_getElem (by omega)⟩
 have h1:=Xv hk hc hu';have ej:j / K*K+j % K=j:=by rw [Nat.mul_comm];exact Nat.div_add_mod j K
 rw [ej,hu] at h1
 cases h1;have h2:=h (j / K) c hc (j % K) u hu';rw [show (⟨b,off,none⟩:Addr).add j=⟨b,off+j / K*K+j % K,none⟩ by unfold Addr.add;by_cases h0:j=0 <;> simp [h0];omega];exact h2
def eG (y:Int×Value):List Value:=[.int .i64 y.1,y.2]
def isSlice (v:Value):Prop:=∃ a n c,v = .slice a n c
theorem Vr (l:List (Int×Value)):(l.flatMap eG).length=l.length*2:=by
 induction l with
 | nil=>rfl
 | cons x t ih=>rw [List.flatMap_cons,List.length_append,ih,List.length_cons];simp [eG];omega
theorem UU {l:List (Int×Value)} (h:∀ y∈l,isSlice y.2):∀ u∈l.flatMap eG,u.oneCell'=true:=by
 intro u hu;obtain⟨y,hy,hu⟩:=List.mem_flatMap.1 hu;simp only [eG,List.mem_cons,List.not_mem_nil,or_false] at hu;obtain⟨a,n,c,e⟩:=h y hy
 rcases hu with rfl | rfl
 ·rfl
 ·rw [e];rfl
theorem EH:wP Tryz.prog 22 130 2 32:=.mk' (z:=.agg #[.int .i64 0, .slice none 0 0]) Tryz.underlying22 (by kernel_rfl) rfl
def rV (l:List (Int×Value)) (r:Int) (t:Value):List (Int×Value) :=
 l.takeWhile (λy=>decide (y.1<r))++(r,t)::match l.dropWhile (λy=>decide (y.1<r)) with
  | []=>[]
  | x::q=>if x.1=r then q else x::q
theorem ak0 {l:List (Int×Value)} {a:Int}:∀ {k:Nat},(∀ (j:Nat) (y:Int×Value),j<k->l[j]?=some y->y.1<a)->k<=l.length->(∀ y,l[k]?=some y->¬ y.1<a)->l.takeWhile (λy=>decide (y.1<a))=l.take k/\l.dropWhile (λy=>decide (y.1<a))=l.drop k:=by
 induction l with
 | nil =>
  intro k _ hk _;simp at hk;subst hk;exact⟨rfl,rfl⟩
 | cons x t ih =>
  intro k h1 hk h2
  cases k with
  | zero =>
   have hx:=h2 x rfl;exact⟨List.takeWhile_cons_of_neg (by simpa using hx),List.dropWhile_cons_of_neg (by simpa using hx)⟩
  | succ k =>
   have hx:=h1 0 x (by omega) rfl;obtain⟨i1,i2⟩:=ih (k:=k) (λj y hj hy=>h1 (j+1) y (by omega) (by simpa using hy)) (by simp at hk;omega) (λy hy=>h2 y (by simpa using hy));rw [List.takeWhile_cons_of_pos (by simpa using hx),List.dropWhile_cons_of_pos (by simpa using hx),i1,i2];exact⟨rfl,rfl⟩
theorem Si (a:Option Addr) (N cap k:Nat) (l:List (Int×Value)) (hk:k<=N) (hc:N<=cap) (hz:cap<=9223372036854775807) (hN:l.length=N) {w0:World} (h0:lY 2 w0 (.slice a N cap) (l.map eG)):∃ L Y,L+k=N/\(∀ W,(Instr.slice 22 (.slice a N cap) (some (.int .i64 (k:Int))) none none).run Tryz.prog W = .ok Y W)/\∀ W,lY 2 W (.slice a N cap) (l.map eG)->qo W Y L ((l.drop k).flatMap eG):=by
 subst hN;have hkc:k<=cap:=by omega
 cases a with
 | none =>
  obtain⟨rfl,rfl⟩:l=[]/\cap=0:=by
   rcases h0 with⟨h1,h2⟩ | ⟨b,off,sp,cap2,h1,_⟩
   ·injection h1 with h1 h2' h3';exact⟨by simpa using h2',h3'⟩
   ·injection h1 with h1;cases h1
  obtain rfl:k=0:=by simpa using hk
  exact⟨0, .slice none 0 0,rfl,λW=>by go_simp,λW _=>.inl ⟨rfl,rfl,rfl⟩⟩
 | some ad =>
  have key:∀ (ad':Addr),(k<l.length->ad'=ad.add (k*2))->∀ W,lY 2 W (.slice (some ad) l.length cap) (l.map eG)->qo W (.slice (some ad') (l.length-k) (cap-k)) (l.length-k) ((l.drop k).flatMap eG):=by
   intro ad' had W hW
   by_cases hn:l=[]
   ·subst hn;exact .inr ⟨_,_,rfl,λj u hu=>by simp at hu⟩
   ·obtain⟨b,off,cap2,e1,-,-,-,hg⟩:=hW.get (by simpa using hn);obtain⟨rfl,rfl⟩:ad=⟨b,off,none⟩/\cap=cap2:=by injection e1 with h1 h2 h3;injection h1 with h1;exact⟨h1,h3⟩
    rcases Nat.lt_or_ge k l.length with h1 | h1
    ·rw [had h1,show (⟨b,off,none⟩:Addr).add (k*2)=⟨b,off+k*2,none⟩ by unfold Addr.add;by_cases h0:k*2=0 <;> simp [h0],PE];refine ae9 (K:=2) (by omega) (λi c hc' j u hu=>?_) (λc hc'=>by obtain⟨y,-,rfl⟩:=List.mem_map.1 hc';rfl) _ _;rw [List.getElem?_map,List.getElem?_drop] at hc';have h9:=hg (k+i) c (by rw [List.getElem?_map];exact hc') j u hu;rw [show off+k*2+i*2+j=off+(k+i)*2+j by rw [Nat.add_mul];omega];exact h9
    ·rw [List.drop_eq_nil_of_le h1];exact .inr ⟨_,_,rfl,λj u hu=>by simp at hu⟩
  by_cases h:cap=k
  ·exact⟨l.length-k, .slice (some ad) (l.length-k) (cap-k),by omega,λW=>by go_simp,key ad (λh1=>by omega)⟩
  ·exact⟨l.length-k, .slice (some (ad.add (k*2))) (l.length-k) (cap-k),by omega,λW=>by go_simp,key _ (λ_=>rfl)⟩
end
end Go.Proofs.YtlmdjifffmofeaaGreatDoor
