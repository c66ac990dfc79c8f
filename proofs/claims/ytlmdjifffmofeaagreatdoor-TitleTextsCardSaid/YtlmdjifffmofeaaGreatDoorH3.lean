/- Texts of this claim. -/
import Derived.Lib.Strings
import Derived.Test.YtlmdjifffmofeaaGreatDoorH2

set_option maxRecDepth 100000
set_option maxHeartbeats 16000000
namespace Go.Proofs.YtlmdjifffmofeaaGreatDoor
section
open Go.RowKit
attribute [local go_sem] TL SQ
structure RS (w0:World) (b xb:Nat) (s:ByteArray) (ev:Value) (m n:Int) (p q:Nat) (w:World):Prop where
 r:ak w b 92 #[.string s,ev]
 x:ak w xb 223 #[.int .u8 m, .int .i64 n, .complex .f64 p q]
 g:w0.grownBy w (some b)
 lt:b<w0.heap.size
 xb:w0.heap.size<=xb
section
variable {w0 w w':World} {b xb:Nat} {s s':ByteArray} {ev ev':Value} {m n m' n':Int} {p q p' q':Nat}
theorem RS.below (h:RS w0 b xb s ev m n p q w) (hb:Below w.heap.size w w'):RS w0 b xb s ev m n p q w' :=
 ⟨h.r.below hb h.r.lt,h.x.below hb h.x.lt,aby h.g (XZ hb _),h.lt,h.xb⟩
theorem RS.drew (h:RS w0 b xb s ev m n p q w):RS w0 b xb s ev m n p q w.drew:=⟨h.r,h.x,aeI h.g,h.lt,h.xb⟩
theorem RS.alloc (h:RS w0 b xb s ev m n p q w) (o:Obj):RS w0 b xb s ev m n p q (w.alloc o):=⟨h.r.alloc o,h.x.alloc o,Xz h.g o,h.lt,h.xb⟩
theorem RS.ne (h:RS w0 b xb s ev m n p q w):xb≠b:=by have:=h.lt;have:=h.xb;omega
theorem RS.aiy (h:RS w0 b xb s ev m n p q w):RS w0 b xb s' ev m n p q (w.setCell ⟨b,0,none⟩ (.string s')) :=
 ⟨h.r.bP 0 _,h.x.far (p:=⟨b,0,none⟩) h.ne _,Jg h.g (.inl rfl) _,h.lt,h.xb⟩
theorem RS.zQ (h:RS w0 b xb s ev m n p q w):RS w0 b xb s ev' m n p q (w.setCell ⟨b,1,none⟩ ev') :=
 ⟨h.r.bP 1 _,h.x.far (p:=⟨b,1,none⟩) h.ne _,Jg h.g (.inl rfl) _,h.lt,h.xb⟩
theorem RS.ani (h:RS w0 b xb s ev m n p q w):RS w0 b xb s ev m' n' p' q' (((w.setCell ⟨xb,0,none⟩ (.int .u8 m')).setCell ⟨xb,1,none⟩ (.int .i64 n')).setCell ⟨xb,2,none⟩ (.complex .f64 p' q')) :=
 ⟨((h.r.far (p:=⟨xb,0,none⟩) h.ne.symm _).far (p:=⟨xb,1,none⟩) h.ne.symm _).far (p:=⟨xb,2,none⟩) h.ne.symm _,
  ((h.x.bP 0 _).bP 1 _).bP 2 _,
  Jg (Jg (Jg h.g (.inr h.xb) _) (.inr h.xb) _) (.inr h.xb) _,h.lt,h.xb⟩
theorem RS.new {ty:TypeId} (hb:ak w b 92 #[.string s,ev]) (h:Below (w.alloc (.cells #[.int .u8 m, .int .i64 n, .complex .f64 p q] ty)).heap.size (w.alloc (.cells #[.int .u8 m, .int .i64 n, .complex .f64 p q] ty)) w') (ht:ty=223):RS w b w.heap.size s ev m n p q w':=by
 subst ht;exact⟨(hb.alloc _).below h (hb.alloc _).lt,(ak.new w _ _).below h (ak.new w _ _).lt,aby (Xz (World.grownBy.refl w _) _) (XZ h _),hb.lt,Nat.le_refl _⟩
theorem RS.facts (h:RS w0 b xb s ev m n p q w):w.cell? ⟨b,0,none⟩=some (.string s)/\w.cell? ⟨b,1,none⟩=some ev/\w.frozen? ⟨b,0,none⟩=false/\w.frozen? ⟨b,1,none⟩=false /\
  w.cell? ⟨xb,0,none⟩=some (.int .u8 m)/\w.cell? ⟨xb,1,none⟩=some (.int .i64 n)/\w.cell? ⟨xb,2,none⟩=some (.complex .f64 p q) /\
  w.frozen? ⟨xb,0,none⟩=false/\w.frozen? ⟨xb,1,none⟩=false/\w.frozen? ⟨xb,2,none⟩=false :=
 ⟨(h.r.cell 0).trans rfl,(h.r.cell 1).trans rfl,h.r.frozen 0,h.r.frozen 1,(h.x.cell 0).trans rfl,(h.x.cell 1).trans rfl,(h.x.cell 2).trans rfl,h.x.frozen 0,h.x.frozen 1,h.x.frozen 2⟩
end
def EX (A:Nat->Addr) (b:Nat) (s:ByteArray) (ev:Value) (w:World) (e:Ending) (w':World):Prop :=
 match U.dec s.data.toList with
 | none=>e = .returned (.tuple #[.int .i64 0, .int .i64 0])/\ak w' b 92 #[.string s,kH A 5]/\w.grownBy w' (some b)
 | some (r,n)=>e = .returned (.tuple #[.int .i64 r, .int .i64 (n:Int)])/\ak w' b 92 #[.string (s.extract n s.size),ev]/\w.grownBy w' (some b)
theorem Hf {A:Nat->Addr} {b:Nat} {s:ByteArray} {ev:Value} {w w':World} {e:Ending} (h:U.dec s.data.toList=none)
  (he:e = .returned (.tuple #[.int .i64 0, .int .i64 0])) (hb:ak w' b 92 #[.string s,kH A 5]) (hg:w.grownBy w' (some b)):EX A b s ev w e w':=by
 unfold EX;rw [h];exact⟨he,hb,hg⟩
theorem aie {A:Nat->Addr} {b:Nat} {s:ByteArray} {ev:Value} {w w':World} {e:Ending} {r:Int} {n:Nat} (h:U.dec s.data.toList=some (r,n))
  (he:e = .returned (.tuple #[.int .i64 r, .int .i64 (n:Int)])) (hb:ak w' b 92 #[.string (s.extract n s.size),ev]) (hg:w.grownBy w' (some b)):EX A b s ev w e w':=by
 unfold EX;rw [h];exact⟨he,hb,hg⟩
theorem next_any (A:Nat->Addr) (B b:Nat) (ev:Value) (s:ByteArray) (w:World) (hs:s.size<=maxLen) (hE:E A B w) (hB:B<=b) (hb:ak w b 92 #[.string s,ev]) :
  Calls Tryz.prog 98 #[.pointer (some ⟨b,0,none⟩)] w (EX A b s ev w):=by
 unfold maxLen at hs;have HE:=bx hE;have HB:=bx hb;have hc0:w.cell? ⟨b,0,none⟩=some (.string s):=(hb.cell 0).trans rfl;have hc1:w.cell? ⟨b,1,none⟩=some ev:=(hb.cell 1).trans rfl;have hf1:=hb.frozen 1;have hblt:=hb.lt;have e1:=hE.cell 5 (by decide);have hlt1:5<w.heap.size:=by have:=(hE.lt 5 (by decide)).1;omega
 clear hE hb
 cases hl:s.data.toList with
 | nil =>
  have hz:=isEmpty_nil hl;have HD:=bx (show U.dec s.data.toList=none by rw [hl];rfl);clear hl
  go_enter Tryz.func98,Tryz.ntmps98
  go_wp2_with fail;refine sS 0 rfl ?_;go_wp2_with fail
  go_step3
  refine⟨rfl,?_⟩;go_wp2_with fail;rw [Exit.noGoto_ret];go_ret2
  exact Hf HD.o rfl ((HB.o.bP 1 _).alloc _) (Xz (Jg (World.grownBy.refl w _) (.inl rfl) _) _)
 | cons c t =>
 clear hc1 hf1 e1 hlt1;have hz:=isEmpty_cons hl;have i0:=uH Tryz.underlying9 s 0 (d:=c) (by rw [hl];rfl) 0 rfl;have hsz:(s.size:Int)=t.length+1:=by rw [size_eq,hl];simp
 have HV:=bx (show Dz (U.aA c) = .agg #[.int .u8 (U.gG (U.aA c)), .int .i64 (Ci (U.aA c)), .complex .f64 (rH (U.eX (U.aA c))) (rH (U.eU (U.aA c)))] from rfl);have hR:=λW=>aiI (U.aA c) (U.oZ c) (U.qj c) W
 have hI:=λW=>agB (U.aA c) W
 have hS:=λd W=>anE (U.aA c) (U.aA d) (U.oZ d) (U.qj d) W
 rw [HV.o] at hR hI;simp only [HV.o] at hS;have HN:=bx (show Ci (U.aA c)=if U.bF (U.aA c)<0 then 0 else U.bF (U.aA c) from rfl);have HL:=bx hl;have hcl:=U.qj c;have hcg:=U.oZ c;have HM:=bx (U.ahN (U.aA c) hcg hcl);generalize rH (U.eX (U.aA c))=p at *;generalize rH (U.eU (U.aA c))=q at *;generalize hm:U.gG (U.aA c)=m at *;generalize hn:Ci (U.aA c)=n at *;have VU:=bx hm;have HR:=bx hR;have HI:=bx hI;have HS:=bx hS;have HZ:=bx hsz;clear hl hR hI hS hm hn hsz HV
 go_enter Tryz.func98,Tryz.ntmps98
 go_wp2_with fail;refine sS 0 rfl ?_;go_wp2_with fail;refine(HR.o _).mono ?_;rintro e w1 ⟨rfl,hb1⟩;have R1:=RS.new HB.o hb1 rfl;clear hb1 hc0;obtain⟨-,-,-,-,x0,x1,x2,g0,g1,g2⟩:=R1.facts;go_wp2_with fail;clear x0 x1 x2 g0 g1 g2;have R5:=R1.ani (m':=m) (n':=n) (p':=p) (q':=q);generalize ((w1.setCell ⟨w.heap.size,0,none⟩ (.int .u8 m)).setCell ⟨w.heap.size,1,none⟩ (.int .i64 n)).setCell ⟨w.heap.size,2,none⟩ (.complex .f64 p q)=w5 at R5 ⊢;clear R1;have q0:∀ k:CW (RS w b w.heap.size s ev m n p q),k.w.cell? ⟨b,0,none⟩=some (.string s):=λk=>k.h.facts.1
 have q1:∀ k:CW (RS w b w.heap.size s ev m n p q),k.w.cell? ⟨w.heap.size,0,none⟩=some (.int .u8 m):=λk=>k.h.facts.2.2.2.2.1
 have q2:∀ k:CW (RS w b w.heap.size s ev m n p q),k.w.cell? ⟨w.heap.size,1,none⟩=some (.int .i64 n):=λk=>k.h.facts.2.2.2.2.2.1
 have q3:∀ k:CW (RS w b w.heap.size s ev m n p q),k.w.cell? ⟨w.heap.size,2,none⟩=some (.complex .f64 p q):=λk=>k.h.facts.2.2.2.2.2.2.1
 by_cases hN:U.bF (U.aA c)<0
 ·have h1:decide (0<=U.bF (U.aA c))=false:=by rw [decide_eq_false_iff_not];omega
  have EP:=HI.o;rw [h1] at EP;have HI2:=bx EP;have HD:=bx (show U.dec s.data.toList=none by rw [HL.o];exact U.H7 hN);clear EP h1;refine gK (RS w b w.heap.size s ev m n p q) (by kernel_rfl) (by kernel_rfl) R5.drew (λhne=>?_);clear R5
  repeat (any_goals (first
   | go_big_quiet_step (first | (go_at_call 147;exact uj (HI2.o _) (λ_ hb=>RS.below (CW.h _) hb)))
   | quiet_step (first | (go_at_call 147;exact uj (HI2.o _) (λ_ hb=>RS.below (CW.h _) hb)))))
  refine wpQuiet_nil ?_;rintro w2 ⟨⟨_,R6⟩,rfl⟩;clear q0 q1 q2 q3 hne;have e1:=(HE.o.below (GH R6.g hB (by omega))).cell 5 (by decide);obtain⟨y0,y1,y2,y3,-⟩:=R6.facts;go_wp2_with fail
  go_step3
  refine⟨rfl,?_⟩;go_wp2_with fail;rw [Exit.noGoto_ret];go_ret2
  exact Hf HD.o rfl R6.zQ.r R6.zQ.g
 have hnn:n=U.bF (U.aA c):=by have:=HN.o;rw [if_neg hN] at this;exact this
 have h1:decide (0<=U.bF (U.aA c))=true:=by rw [decide_eq_true_eq];omega
 have EP:=HI.o;rw [h1] at EP;have HI2:=bx EP;have n0:0<=n:=by omega
 have n3:n<=3:=by have:=U.D6 (U.aA c);omega
 have tq:=bx hnn;have nJ:=bx (show 0<=U.bF (U.aA c) by omega);clear EP h1 hnn hN
 by_cases hlen:(s.size:Int)<=n
 ·have hd:decide ((s.size:Int)<=n)=true:=by rw [decide_eq_true_eq];omega
  have HD:=bx (show U.dec s.data.toList=none by rw [HL.o];exact U.Vj (by have:=HZ.o;have:=tq.o;omega));refine gK (RS w b w.heap.size s ev m n p q) (by kernel_rfl) (by kernel_rfl) R5.drew (λhne=>?_);clear R5
  repeat (any_goals (first
   | go_big_quiet_step (first | (go_at_call 147;exact uj (HI2.o _) (λ_ hb=>RS.below (CW.h _) hb)))
   | quiet_step (first | (go_at_call 147;exact uj (HI2.o _) (λ_ hb=>RS.below (CW.h _) hb)))))
  refine wpQuiet_nil ?_;rintro w2 ⟨⟨_,R6⟩,rfl⟩;clear q0 q1 q2 q3 hne;have e1:=(HE.o.below (GH R6.g hB (by omega))).cell 5 (by decide);obtain⟨y0,y1,y2,y3,-⟩:=R6.facts;go_wp2_with fail
  go_step3
  refine⟨rfl,?_⟩;go_wp2_with fail;rw [Exit.noGoto_ret];go_ret2
  exact Hf HD.o rfl R6.zQ.r R6.zQ.g
 have hd:decide ((s.size:Int)<=n)=false:=by rw [decide_eq_false_iff_not];omega
 have hz0:n=0\/0<n:=by omega
 rcases hz0 with hz0 | hz0
 case' inl =>
  have hd0:decide (0<n)=false:=by rw [decide_eq_false_iff_not];omega
  have adw:=bx (show n=0\/∃ d1 t',t=d1::t'/\U.eX (U.aA c)<=U.aA d1/\U.aA d1<=U.eU (U.aA c) from .inl hz0);clear hz0;refine gK (RS w b w.heap.size s ev m n p q) (by kernel_rfl) (by kernel_rfl) R5.drew (λhne=>?_);clear R5
  repeat (any_goals (first
   | go_big_quiet_step (first | (go_at_call 147;exact uj (HI2.o _) (λ_ hb=>RS.below (CW.h _) hb)))
   | quiet_step (first | (go_at_call 147;exact uj (HI2.o _) (λ_ hb=>RS.below (CW.h _) hb)))))
  refine wpQuiet_nil ?_;rintro w2 ⟨⟨_,R6⟩,rfl⟩;clear q0 q1 q2 q3 hne
 case' inr =>
  have hd0:decide (0<n)=true:=by rw [decide_eq_true_eq];omega
  obtain⟨d1,t',ht⟩:∃ d1 t',t=d1::t':=by
   cases t with
   | nil=>have:=HZ.o;simp at this;omega
   | cons d1 t'=>exact⟨d1,t',rfl⟩
  have i1:=uH Tryz.underlying9 s 1 (d:=d1) (by rw [HL.o,ht];rfl) 1 rfl;have GL:=HS.o d1
  by_cases PN:¬ (U.eX (U.aA c)<=U.aA d1/\U.aA d1<=U.eU (U.aA c))
  case pos =>
   have HD:=bx (show U.dec s.data.toList=none by rw [HL.o,ht];exact U.ah6 (by have:=tq.o;omega) PN);rw [show (decide (U.eX (U.aA c)<=U.aA d1)&&decide (U.aA d1<=U.eU (U.aA c)))=false by rw [Bool.and_eq_false_iff,decide_eq_false_iff_not,decide_eq_false_iff_not];omega] at GL;have HS2:=bx GL;clear GL PN ht;refine gK (RS w b w.heap.size s ev m n p q) (by kernel_rfl) (by kernel_rfl) R5.drew (λhne=>?_);clear R5
   repeat (any_goals (first
    | go_big_quiet_step (first | (go_at_call 147;exact uj (HI2.o _) (λ_ hb=>RS.below (CW.h _) hb)) | (go_at_call 148;exact uj (HS2.o _) (λ_ hb=>RS.below (CW.h _) hb)))
    | quiet_step (first | (go_at_call 147;exact uj (HI2.o _) (λ_ hb=>RS.below (CW.h _) hb)) | (go_at_call 148;exact uj (HS2.o _) (λ_ hb=>RS.below (CW.h _) hb)))))
   refine wpQuiet_nil ?_;rintro w2 ⟨⟨_,R6⟩,rfl⟩;clear q0 q1 q2 q3 hne;have e1:=(HE.o.below (GH R6.g hB (by omega))).cell 5 (by decide);obtain⟨y0,y1,y2,y3,-⟩:=R6.facts;go_wp2_with fail
   go_step3
   refine⟨rfl,?_⟩;go_wp2_with fail;rw [Exit.noGoto_ret];go_ret2
   exact Hf HD.o rfl R6.zQ.r R6.zQ.g
  have JA:=Decidable.not_not.1 PN;rw [show (decide (U.eX (U.aA c)<=U.aA d1)&&decide (U.aA d1<=U.eU (U.aA c)))=true by simp [JA]] at GL;have HS2:=bx GL;have adw:=bx (show n=0\/∃ d1 t',t=d1::t'/\U.eX (U.aA c)<=U.aA d1/\U.aA d1<=U.eU (U.aA c) from .inr ⟨d1,t',ht,JA⟩);clear GL JA PN hz0 ht;refine gK (RS w b w.heap.size s ev m n p q) (by kernel_rfl) (by kernel_rfl) R5.drew (λhne=>?_);clear R5
  repeat (any_goals (first
   | go_big_quiet_step (first | (go_at_call 147;exact uj (HI2.o _) (λ_ hb=>RS.below (CW.h _) hb)) | (go_at_call 148;exact uj (HS2.o _) (λ_ hb=>RS.below (CW.h _) hb)))
   | quiet_step (first | (go_at_call 147;exact uj (HI2.o _) (λ_ hb=>RS.below (CW.h _) hb)) | (go_at_call 148;exact uj (HS2.o _) (λ_ hb=>RS.below (CW.h _) hb)))))
  refine wpQuiet_nil ?_;rintro w2 ⟨⟨_,R6⟩,rfl⟩;clear q0 q1 q2 q3 hne
 all_goals
  clear hd hd0;have hw1:IntKind.i64.wrap (n+1)=n+1:=IntWalk.i64_in _ (by omega);have hsl:∀ W,(Instr.slice 9 (.string s) (some (.int .i64 1)) (some (.int .i64 (n+1))) none).run Tryz.prog W = .ok (.string (s.extract 1 (n+1).toNat)) W:=by
   intro W;exact Va Tryz.underlying9 s 1 (n+1) (by omega) W
  generalize hsub:s.extract 1 (n+1).toNat=sub at *;go_wp2_with fail;have hcv:=λW s'=>run_bytes_of_string (P:=Tryz.prog) W 9 98 5 s' Tryz.underlying9 Tryz.underlying98 Tryz.underlying5
  obtain⟨o0,-,-,-,-,o2,-⟩:=R6.facts
  go_region
  have R7:=((R6.alloc (.cells (bytesRow sub (grownCap w2.drew sub.size 0 5)) 5 ((bytesRow sub (grownCap w2.drew sub.size 0 5)).size,(bytesRow sub (grownCap w2.drew sub.size 0 5)).size+1))).drew).drew;have hcells:=λj d=>abS w2 5 sub (grownCap w2.drew sub.size 0 5) ((bytesRow sub (grownCap w2.drew sub.size 0 5)).size,(bytesRow sub (grownCap w2.drew sub.size 0 5)).size+1) j d
  replace hcells:∀ j d,sub.data.toList[j]?=some d->(w2.alloc (.cells (bytesRow sub (grownCap w2.drew sub.size 0 5)) 5 ((bytesRow sub (grownCap w2.drew sub.size 0 5)).size,(bytesRow sub (grownCap w2.drew sub.size 0 5)).size+1))).drew.drew.cell? ⟨w2.heap.size,j,none⟩=some (.int .u8 (U.aA d)):=hcells
  generalize (w2.alloc (.cells (bytesRow sub (grownCap w2.drew sub.size 0 5)) 5 ((bytesRow sub (grownCap w2.drew sub.size 0 5)).size,(bytesRow sub (grownCap w2.drew sub.size 0 5)).size+1))).drew.drew=w6 at R7 hcells ⊢;generalize w2.heap.size=g6 at hcells ⊢;have VE:sub.data.toList=t.take n.toNat:=by
   rw [<- hsub,Lib.extract_data,HL.o];rw [show (n+1).toNat-1=n.toNat by omega]
   rfl
  have adx:(s.size:Int)=t.length+1:=HZ.o;have acN:sub.size=n.toNat:=by rw [size_eq,VE,List.length_take];omega
  have hdec:(∀ d∈t.take n.toNat,U.je d=true)->U.dec (c::t)=some (U.fold (U.aA c-m) (t.take n.toNat),n.toNat+1) :=
   λhall=>U.amw tq.o VU.o n0 (by omega) hall adw.o
  have hno:∀ d∈t.take n.toNat,U.je d=false->U.dec (c::t)=none:=by
   intro d hd hf;have h1:=tq.o;rw [h1] at hd;exact U.dec_not (by omega) hd hf
  have ajL:=bx hdec;have jS:=bx hno;have anU:=bx hcells;have Oj:=bx VE;have aoV:=bx acN;have hs3:sub.size<=3:=by omega
  have Xc:=bx adx;clear hdec hno hcells VE acN hsub hsl hw1 hcv adx;go_wp2_with fail
  go_loop [64] (λi=>∃ j:Nat,j<=sub.size/\i = .int .i64 j/\∀ d∈sub.data.toList.take j,U.je d=true) (λi=>sub.size-(intOf i).toNat)
  case atStart=>exact⟨0,by omega,rfl,by simp⟩
  case round =>
   obtain⟨j,hj,rfl,hall⟩:=hrel;have fC:=bx hall;clear hall
   by_cases hlt:j<sub.size
   ·obtain⟨d,hd⟩:∃ d,sub.data.toList[j]?=some d:=⟨_,List.getElem?_eq_getElem (by rw [<- size_eq];exact hlt)⟩
    have hc:=anU.o j d hd;have hmem:d∈sub.data.toList:=List.mem_of_getElem? hd;have Jm:=bx (show U.je d=true->∀ x∈sub.data.toList.take (j+1),U.je x=true by
     intro h x hx;rw [List.take_add_one,hd] at hx
     rcases List.mem_append.1 hx with hx | hx
     ·exact fC.o x hx
     ·simp at hx;rw [hx];exact h)
    have Ib:=bx hmem;clear hd hmem;have hb0:=U.oZ d;have hb1:=U.qj d;have e1:=(HE.o.below (GH R7.g hB (by omega))).cell 5 (by decide);obtain⟨y0,y1,y2,y3,-⟩:=R7.facts;go_wp2_with fail
    ·go_step3
     refine⟨rfl,?_⟩;go_wp2_with fail;rw [Exit.noGoto_ret];go_ret2
     refine Hf ?_ rfl R7.zQ.r R7.zQ.g;rw [HL.o];exact jS.o d (by have:=Ib.o;rwa [Oj.o] at this) ((U.Zo d).2 (by omega))
    ·clear y0 y1 y2 y3 e1;have HT:=bx (Jm.o ((U.lZ d).2 (by omega)));have HJ:=bx hlt
     go_round
     case rel=>exact⟨j+1,HJ.o,by go_num,HT.o⟩
     case measure=>have:=HJ.o;simp [intOf];omega
    ·go_step3
     refine⟨rfl,?_⟩;go_wp2_with fail;rw [Exit.noGoto_ret];go_ret2
     refine Hf ?_ rfl R7.zQ.r R7.zQ.g;rw [HL.o];exact jS.o d (by have:=Ib.o;rwa [Oj.o] at this) ((U.Zo d).2 (by omega))
   ·obtain rfl:j=sub.size:=by omega
    have hdc:=ajL.o (by have:=fC.o;rw [List.take_of_length_le (by rw [<- size_eq];exact Nat.le_refl _),Oj.o] at this;exact this);have HDC:=bx hdc;clear hdc;go_wp2_with fail;obtain⟨o0,o1,-,-,o2,o3,-⟩:=R7.facts;have HMB:=HM.o;have hmb:0<=U.aA c-m/\U.aA c-m<128:=by have:=nJ.o;omega
    have hmw:IntKind.u8.wrap (U.aA c-m)=U.aA c-m:=IntWalk.u8_in _ (by omega)
    go_region
    clear o0 o1 o2 o3 HMB hmw;have R8:=R7.drew;generalize w6.drew=w8 at R8 ⊢;clear R7;go_wp2_with fail;obtain⟨o0,o1,p0,p1,o2,o3,-⟩:=R8.drew.facts;have hcv:=λW s'=>run_bytes_of_string (P:=Tryz.prog) W 9 98 5 s' Tryz.underlying9 Tryz.underlying98 Tryz.underlying5
    have hw1:IntKind.i64.wrap (n+1)=n+1:=IntWalk.i64_in _ (by omega);have hnn:((n+1).toNat:Int)=n+1:=by omega
    have hT:=λW=>take_any b 0 s (n+1).toNat W (by have:=Xc.o;omega) hs
    rw [hnn] at hT;have hpl:(s.extract 0 (n+1).toNat).data.toList=c::t.take n.toNat:=by
     rw [Lib.extract_data,HL.o,show (n+1).toNat-0=n.toNat+1 by omega];rfl
    have hpost:s.extract (n+1).toNat s.size=s.extract (n.toNat+1) s.size:=by rw [show (n+1).toNat=n.toNat+1 by omega]
    rw [hpost] at hT;generalize hpre:s.extract 0 (n+1).toNat=pre at hT hpl;generalize YV:s.extract (n.toNat+1) s.size=post at hT;have hpz:pre.size=n.toNat+1:=by rw [size_eq,hpl,List.length_cons,List.length_take];have:=Xc.o;omega
    have hsl:∀ W,(Instr.slice 9 (.string pre) (some (.int .i64 1)) none none).run Tryz.prog W = .ok (.string (pre.extract 1 pre.size)) W:=by
     intro W;exact run_slice_string_l (P:=Tryz.prog) W 9 pre Tryz.underlying9 .i64 1 (by omega) (by omega)
    have zK:(pre.extract 1 pre.size).data.toList=t.take n.toNat:=by
     rw [Lib.extract_data,hpl,hpz];simp [List.take_take]
    generalize pre.extract 1 pre.size=iy at hsl zK;have hqz:iy.size=n.toNat:=by rw [size_eq,zK,List.length_take];have:=Xc.o;omega
    have HT:=bx hT;have HQL:=bx zK;have Xn:=bx hqz;have ajS:=bx YV;clear hT zK hqz hpz hpl hpre YV hpost hnn
    go_region_with (go_at_call 149;refine(HT.o _ ?_ ?_).mono ?_;exact o0;exact p0;rintro e w9 ⟨rfl,rfl⟩)
    simp only [List.getElem_toArray,List.getElem_cons_succ,List.getElem_cons_zero,Act.put,List.setIfInBounds_toArray,List.set_cons_succ,List.set_cons_zero];have R9:=(((R8.aiy (s':=post)).alloc (.cells (bytesRow iy (grownCap (w8.setCell ⟨b,0,none⟩ (.string post)).drew iy.size 0 5)) 5 ((bytesRow iy (grownCap (w8.setCell ⟨b,0,none⟩ (.string post)).drew iy.size 0 5)).size,(bytesRow iy (grownCap (w8.setCell ⟨b,0,none⟩ (.string post)).drew iy.size 0 5)).size+1))).drew).drew;have hcells:∀ j d,iy.data.toList[j]?=some d->_:=λj d=>abS (w8.setCell ⟨b,0,none⟩ (.string post)) 5 iy (grownCap (w8.setCell ⟨b,0,none⟩ (.string post)).drew iy.size 0 5) ((bytesRow iy (grownCap (w8.setCell ⟨b,0,none⟩ (.string post)).drew iy.size 0 5)).size,(bytesRow iy (grownCap (w8.setCell ⟨b,0,none⟩ (.string post)).drew iy.size 0 5)).size+1) j d
    replace hcells:∀ j d,iy.data.toList[j]?=some d->(((w8.setCell ⟨b,0,none⟩ (.string post)).alloc (.cells (bytesRow iy (grownCap (w8.setCell ⟨b,0,none⟩ (.string post)).drew iy.size 0 5)) 5 ((bytesRow iy (grownCap (w8.setCell ⟨b,0,none⟩ (.string post)).drew iy.size 0 5)).size,(bytesRow iy (grownCap (w8.setCell ⟨b,0,none⟩ (.string post)).drew iy.size 0 5)).size+1))).drew).drew.cell? ⟨w8.heap.size,j,none⟩=some (.int .u8 (U.aA d)):=by
     intro j d hd;have:=hcells j d hd;rw [World.size_setCell] at this;exact this
    generalize (((w8.setCell ⟨b,0,none⟩ (.string post)).alloc (.cells (bytesRow iy (grownCap (w8.setCell ⟨b,0,none⟩ (.string post)).drew iy.size 0 5)) 5 ((bytesRow iy (grownCap (w8.setCell ⟨b,0,none⟩ (.string post)).drew iy.size 0 5)).size,(bytesRow iy (grownCap (w8.setCell ⟨b,0,none⟩ (.string post)).drew iy.size 0 5)).size+1))).drew).drew=wA at R9 hcells ⊢;generalize w8.heap.size=gA at hcells ⊢;have am3:=bx hcells;clear hcells R8 o0 o1 p0 p1 o2 o3 hcv hsl hw1;go_wp2_with fail;have hsame:iy.data.toList=sub.data.toList:=HQL.o.trans Oj.o.symm;have dZ:=bx (λj=>U.alQ (iy.data.toList.take j) (λd hd=>by
     have h1:=fC.o;rw [List.take_of_length_le (by rw [<- size_eq];exact Nat.le_refl _)] at h1;rw [hsame] at hd;exact h1 d (List.mem_of_mem_take hd)) (U.aA c-m) hmb.1 (by rw [List.length_take,<- size_eq];have:=Xn.o;omega) hmb.2)
    have lq:=bx (λd (hd:d∈iy.data.toList)=>by
     have h1:=fC.o;rw [List.take_of_length_le (by rw [<- size_eq];exact Nat.le_refl _)] at h1;rw [hsame] at hd;exact(U.lZ d).1 (h1 d hd))
    have hq3:iy.size<=3:=by have:=Xn.o;omega
    clear hsame
    go_loop [5,95] (λo i=>∃ j:Nat,j<=iy.size/\i = .int .i64 j/\o = .int .i64 (U.fold (U.aA c-m) (iy.data.toList.take j))) (λ_ i=>iy.size-(intOf i).toNat)
    case atStart=>exact⟨0,by omega,rfl,rfl⟩
    case round =>
     obtain⟨j,hj,rfl,rfl⟩:=hrel;have hfb:=dZ.o j;generalize hfold:U.fold (U.aA c-m) (iy.data.toList.take j)=x at *
     by_cases hlt:j<iy.size
     ·obtain⟨d,hd⟩:∃ d,iy.data.toList[j]?=some d:=⟨_,List.getElem?_eq_getElem (by rw [<- size_eq];exact hlt)⟩
      have hc:=am3.o j d hd;have hr:=lq.o d (List.mem_of_getElem? hd);have gU:=bx (show U.fold (U.aA c-m) (iy.data.toList.take (j+1))=64*x+U.aA d-128 by
       rw [List.take_add_one,hd,<- hfold];exact U.af8 _ _ _)
      clear hd hfold;have HO:=bx (show bits .or .i64 (x*64) (bits .and .i64 (U.aA d) 63)=64*x+U.aA d-128 by
       rw [ab7 _ (by omega) (by omega),ajP _ _ hfb.1 (by omega) (by omega) (by omega)];omega)
      have HJ:=bx hlt;go_wp2_with fail;refine⟨⟨j+1,HJ.o,by go_num,fF (by rw [HO.o,gU.o])⟩,?_⟩;have:=HJ.o;simp [intOf];omega
     ·obtain rfl:j=iy.size:=by omega
      have HF:=bx (show U.fold (U.aA c-m) (t.take n.toNat)=x by
       rw [<- hfold,HQL.o,Xn.o,List.take_take,Nat.min_self])
      clear hfold;go_wp2_with fail;obtain⟨o0,o1,-,-,o2,o3,-⟩:=R9.facts
      go_region
      go_wp2_with fail;rw [yN];go_ret2
      refine aie (r:=x) (n:=n.toNat+1) (by rw [HL.o,HDC.o,HF.o]) ?_ ?_ ?_
      ·exact gY rfl (fF (by omega))
      ·rw [ajS.o];exact R9.drew.r
      ·exact R9.drew.g
end
section
open Go.RowKit
theorem anT:∀ x:Fin 64,bits .or .u8 128 (x.val:Int)=128+(x.val:Int):=by decide +kernel
theorem aln:∀ x:Fin 32,bits .or .u8 192 (x.val:Int)=192+(x.val:Int):=by decide +kernel
theorem ag5:∀ x:Fin 16,bits .or .u8 224 (x.val:Int)=224+(x.val:Int):=by decide +kernel
theorem ald:∀ x:Fin 8,bits .or .u8 240 (x.val:Int)=240+(x.val:Int):=by decide +kernel
theorem Jd (x:Int) (h0:0<=x) (h1:x<64):bits .or .u8 128 x=128+x:=by
 have:=anT ⟨x.toNat,by omega⟩;simpa [Int.toNat_of_nonneg h0] using this
theorem afj (x:Int) (h0:0<=x) (h1:x<32):bits .or .u8 192 x=192+x:=by
 have:=aln ⟨x.toNat,by omega⟩;simpa [Int.toNat_of_nonneg h0] using this
theorem aeR (x:Int) (h0:0<=x) (h1:x<16):bits .or .u8 224 x=224+x:=by
 have:=ag5 ⟨x.toNat,by omega⟩;simpa [Int.toNat_of_nonneg h0] using this
theorem agx (x:Int) (h0:0<=x) (h1:x<8):bits .or .u8 240 x=240+x:=by
 have:=ald ⟨x.toNat,by omega⟩;simpa [Int.toNat_of_nonneg h0] using this
theorem CP (x:Int) (h0:0<=x) (h1:x<9223372036854775808):bits .and .i64 x 63 % 256=x % 64:=by rw [ab7 x h0 h1];omega
theorem OL (r:Int) (w:World) :
  Calls Tryz.prog 70 #[.int .i64 r] w λe w'=>e = .returned (.bool (U.right r))/\w=w':=by
 go_enter Tryz.func70,Tryz.ntmps70
 go_wp2
 all_goals go_ret
 all_goals exact⟨aI (by first | (simp [U.right, *];done) | (simp [U.right];omega)),rfl⟩
theorem ahz (r:Int) (g:Nat) (w:World) (h0:0<=r) (h1:r<2048) (hg:ak w g 5 #[.int .u8 192, .int .u8 128]) :
  Calls Tryz.prog 99 #[.int .i64 r, .slice (some ⟨g,0,none⟩) 2 2] w λe w'=>e = .returned (.string (strOfNums [192+r / 64,128+r % 64]))/\Below w.heap.size w w':=by
 have hmk:∀ w,(Instr.makeSlice 98 (.int .i64 2) (.int .i64 2)).run Tryz.prog w = .ok (.slice (some ⟨w.heap.size,0,none⟩) 2 2) (w.alloc (.cells #[.int .u8 0, .int .u8 0] 5)):=λ_=>by kernel_rfl
 have c0:w.cell? ⟨g,0,none⟩=some (.int .u8 192):=(hg.cell 0).trans rfl;have c1:w.cell? ⟨g,1,none⟩=some (.int .u8 128):=(hg.cell 1).trans rfl;have hlt:=hg.lt;have cc:=λ(w:World) (a b:Int)=>Dx (P:=Tryz.prog) (src:=98) (dst:=9) Tryz.underlying98 Tryz.underlying5 Tryz.underlying9 [a,b] w 2 2 rfl 5
 simp only [List.map_cons,List.map_nil] at cc;have E0:=bx (show bits .or .u8 192 (bits .and .i64 (r / 64) 63 % 256)=192+r / 64 by rw [CP _ (by omega) (by omega),afj _ (by omega) (by omega)];try omega);have E1:=bx (show bits .or .u8 128 (bits .and .i64 (r) 63 % 256)=128+r % 64 by rw [CP _ (by omega) (by omega),Jd _ (by omega) (by omega)];try omega);clear hg
 go_enter Tryz.func99,Tryz.ntmps99
 go_wp2_with fail
 go_rounds 3
 go_ret
 exact⟨rJ (by rw [<- E0.o,<- E1.o];rfl),(Below.refl _ _).alloc (Nat.le_refl _) _⟩
theorem akN (r:Int) (g:Nat) (w:World) (h0:0<=r) (h1:r<65536) (hg:ak w g 5 #[.int .u8 224, .int .u8 128, .int .u8 128]) :
  Calls Tryz.prog 99 #[.int .i64 r, .slice (some ⟨g,0,none⟩) 3 3] w λe w'=>e = .returned (.string (strOfNums [224+r / 4096,128+r / 64 % 64,128+r % 64]))/\Below w.heap.size w w':=by
 have hmk:∀ w,(Instr.makeSlice 98 (.int .i64 3) (.int .i64 3)).run Tryz.prog w = .ok (.slice (some ⟨w.heap.size,0,none⟩) 3 3) (w.alloc (.cells #[.int .u8 0, .int .u8 0, .int .u8 0] 5)):=λ_=>by kernel_rfl
 have c0:w.cell? ⟨g,0,none⟩=some (.int .u8 224):=(hg.cell 0).trans rfl;have c1:w.cell? ⟨g,1,none⟩=some (.int .u8 128):=(hg.cell 1).trans rfl;have c2:w.cell? ⟨g,2,none⟩=some (.int .u8 128):=(hg.cell 2).trans rfl;have hlt:=hg.lt;have cc:=λ(w:World) (a b c:Int)=>Dx (P:=Tryz.prog) (src:=98) (dst:=9) Tryz.underlying98 Tryz.underlying5 Tryz.underlying9 [a,b,c] w 3 3 rfl 5
 simp only [List.map_cons,List.map_nil] at cc;have E0:=bx (show bits .or .u8 224 (bits .and .i64 (r / 64 / 64) 63 % 256)=224+r / 4096 by rw [CP _ (by omega) (by omega),aeR _ (by omega) (by omega)];try omega);have E1:=bx (show bits .or .u8 128 (bits .and .i64 (r / 64) 63 % 256)=128+r / 64 % 64 by rw [CP _ (by omega) (by omega),Jd _ (by omega) (by omega)];try omega);have E2:=bx (show bits .or .u8 128 (bits .and .i64 (r) 63 % 256)=128+r % 64 by rw [CP _ (by omega) (by omega),Jd _ (by omega) (by omega)];try omega);clear hg
 go_enter Tryz.func99,Tryz.ntmps99
 go_wp2_with fail
 go_rounds 4
 go_ret
 exact⟨rJ (by rw [<- E0.o,<- E1.o,<- E2.o];rfl),(Below.refl _ _).alloc (Nat.le_refl _) _⟩
theorem agn (r:Int) (g:Nat) (w:World) (h0:0<=r) (h1:r<2097152) (hg:ak w g 5 #[.int .u8 240, .int .u8 128, .int .u8 128, .int .u8 128]) :
  Calls Tryz.prog 99 #[.int .i64 r, .slice (some ⟨g,0,none⟩) 4 4] w λe w'=>e = .returned (.string (strOfNums [240+r / 262144,128+r / 4096 % 64,128+r / 64 % 64,128+r % 64]))/\Below w.heap.size w w':=by
 have hmk:∀ w,(Instr.makeSlice 98 (.int .i64 4) (.int .i64 4)).run Tryz.prog w = .ok (.slice (some ⟨w.heap.size,0,none⟩) 4 4) (w.alloc (.cells #[.int .u8 0, .int .u8 0, .int .u8 0, .int .u8 0] 5)):=λ_=>by kernel_rfl
 have c0:w.cell? ⟨g,0,none⟩=some (.int .u8 240):=(hg.cell 0).trans rfl;have c1:w.cell? ⟨g,1,none⟩=some (.int .u8 128):=(hg.cell 1).trans rfl;have c2:w.cell? ⟨g,2,none⟩=some (.int .u8 128):=(hg.cell 2).trans rfl;have c3:w.cell? ⟨g,3,none⟩=some (.int .u8 128):=(hg.cell 3).trans rfl;have hlt:=hg.lt;have cc:=λ(w:World) (a b c d:Int)=>Dx (P:=Tryz.prog) (src:=98) (dst:=9) Tryz.underlying98 Tryz.underlying5 Tryz.underlying9 [a,b,c,d] w 4 4 rfl 5
 simp only [List.map_cons,List.map_nil] at cc;have E0:=bx (show bits .or .u8 240 (bits .and .i64 (r / 64 / 64 / 64) 63 % 256)=240+r / 262144 by rw [CP _ (by omega) (by omega),agx _ (by omega) (by omega)];try omega);have E1:=bx (show bits .or .u8 128 (bits .and .i64 (r / 64 / 64) 63 % 256)=128+r / 4096 % 64 by rw [CP _ (by omega) (by omega),Jd _ (by omega) (by omega)];try omega);have E2:=bx (show bits .or .u8 128 (bits .and .i64 (r / 64) 63 % 256)=128+r / 64 % 64 by rw [CP _ (by omega) (by omega),Jd _ (by omega) (by omega)];try omega);have E3:=bx (show bits .or .u8 128 (bits .and .i64 (r) 63 % 256)=128+r % 64 by rw [CP _ (by omega) (by omega),Jd _ (by omega) (by omega)];try omega);clear hg
 go_enter Tryz.func99,Tryz.ntmps99
 go_wp2_with fail
 go_rounds 5
 go_ret
 exact⟨rJ (by rw [<- E0.o,<- E1.o,<- E2.o,<- E3.o];rfl),(Below.refl _ _).alloc (Nat.le_refl _) _⟩
theorem WM (A:Nat->Addr) (B:Nat) (r:Int) (w:World) (hE:E A B w) :
  Calls Tryz.prog 56 #[.int .i64 r] w λe w'=>e = .returned (Ap r)/\Below w.heap.size w w':=by
 by_cases hr:U.right r=true
 case neg =>
  have hr':U.right r=false:=by simpa using hr
  have hc:=OL r;rw [hr'] at hc;have HC:=bx hc;have HD:=bx (Ov hr');have HT:=bx (amW A B w hE);have e0:=hE.cell 4 (by decide);clear hc hr hr' hE
  go_enter Tryz.func56,Tryz.ntmps56
  go_wp2_with (first
   | (go_at_call 70;refine(HC.o _).mono ?_;rintro e w' ⟨rfl,rfl⟩)
   | (go_at_call 55;refine(HT.o).mono ?_;rintro e w' ⟨rfl,rfl⟩))
  go_ret2
  exact⟨by rw [HD.o];rfl,Below.refl _ _⟩
 have hb:=(U.CB r).1 hr;obtain⟨g0,g1,_⟩:=hb;have hc:=OL r;rw [hr] at hc;have HC:=bx hc;have HE:=bx (λ(l:List Int)=>aav (l:=l) hr);clear hc hr hE
 by_cases k1:r<128
 ·have c1:=λ(w:World) (a:Int)=>Dx (P:=Tryz.prog) (src:=98) (dst:=9) Tryz.underlying98 Tryz.underlying5 Tryz.underlying9 [a] w 1 1 rfl 5
  simp only [List.map_cons,List.map_nil] at c1
  go_enter Tryz.func56,Tryz.ntmps56
  go_wp2_with (first | (go_at_call 70;refine(HC.o _).mono ?_;rintro e w' ⟨rfl,rfl⟩))
  go_ret2
  exact⟨rJ (HE.o [r] (by unfold U.enc;rw [if_pos (by omega)];rfl)),(Below.refl _ _).alloc (Nat.le_refl _) _⟩
 by_cases k2:r<2048
 ·
  have HP:=bx (λW=>ahz r w.heap.size W (by omega) (by omega));have HV:=bx (HE.o [192+r / 64,128+r % 64] (by unfold U.enc;rw [if_neg (by omega),if_pos (by omega)];rfl))
  go_enter Tryz.func56,Tryz.ntmps56
  go_wp2_with (first
   | (go_at_call 70;refine(HC.o _).mono ?_;rintro e w' ⟨rfl,rfl⟩)
   | (go_at_call 99;refine(HP.o _ (ak.new w _ _)).mono ?_;rintro e w' ⟨rfl,hb⟩))
  go_ret2
  exact⟨rJ HV.o,((Below.refl _ _).alloc (Nat.le_refl _) _).trans (hb.mono (by simp))⟩
 by_cases k3:r<65536
 ·
  have HP:=bx (λW=>akN r w.heap.size W (by omega) (by omega));have HV:=bx (HE.o [224+r / 4096,128+r / 64 % 64,128+r % 64] (by unfold U.enc;rw [if_neg (by omega),if_neg (by omega),if_pos (by omega)];rfl))
  go_enter Tryz.func56,Tryz.ntmps56
  go_wp2_with (first
   | (go_at_call 70;refine(HC.o _).mono ?_;rintro e w' ⟨rfl,rfl⟩)
   | (go_at_call 99;refine(HP.o _ (ak.new w _ _)).mono ?_;rintro e w' ⟨rfl,hb⟩))
  go_ret2
  exact⟨rJ HV.o,((Below.refl _ _).alloc (Nat.le_refl _) _).trans (hb.mono (by simp))⟩
 ·
  have HP:=bx (λW=>agn r w.heap.size W (by omega) (by omega));have HV:=bx (HE.o [240+r / 262144,128+r / 4096 % 64,128+r / 64 % 64,128+r % 64] (by unfold U.enc;rw [if_neg (by omega),if_neg (by omega),if_neg (by omega)];rfl))
  go_enter Tryz.func56,Tryz.ntmps56
  go_wp2_with (first
   | (go_at_call 70;refine(HC.o _).mono ?_;rintro e w' ⟨rfl,rfl⟩)
   | (go_at_call 99;refine(HP.o _ (ak.new w _ _)).mono ?_;rintro e w' ⟨rfl,hb⟩))
  go_ret2
  exact⟨rJ HV.o,((Below.refl _ _).alloc (Nat.le_refl _) _).trans (hb.mono (by simp))⟩
theorem TD (A:Nat->Addr) (B:Nat) (s:ByteArray) (w:World) (hs:s.size<=maxLen) (hE:E A B w) (hB:B<=w.heap.size) :
  Calls Tryz.prog 150 #[.string s] w λe w'=>e = .returned (oK s.data.toList)/\Below w.heap.size w w':=by
 have HN:=bx (next_any A B w.heap.size .nilIface s (w.alloc (.cells #[.string s, .nilIface] 92)) hs (hE.below ((Below.refl B w).alloc hB _)) hB (ak.new w _ _));clear hE
 go_enter Tryz.func150,Tryz.ntmps150
 go_wp2_with fail;refine HN.o.mono ?_;intro e w' hN;unfold EX at hN
 cases hd:U.dec s.data.toList with
 | none =>
  rw [hd] at hN;obtain⟨rfl,hk,hg⟩:=hN;have HD:=bx hd;clear hd hk;go_wp2_with fail
  go_ret3
  refine⟨by unfold oK;rw [HD.o];rfl,?_⟩;exact((Below.refl _ _).alloc (Nat.le_refl _) _).trans (GH hg (Nat.le_refl _) (by simp))
 | some p =>
  obtain⟨r,n⟩:=p;rw [hd] at hN;obtain⟨rfl,hk,hg⟩:=hN;have hn:=(U.Ey hd).2.2.1;have HD:=bx hd;clear hd hk;go_wp2_with fail
  go_ret3
  refine⟨by unfold oK;rw [HD.o];exact aaJ rfl rfl (yU (by simp;omega)),?_⟩;exact((Below.refl _ _).alloc (Nat.le_refl _) _).trans (GH hg (Nat.le_refl _) (by simp))
end
section
open Go.RowKit Go.Extern.Stop Go.Stop Go.Extern
namespace As
abbrev VP (a:Addr):Value:=.agg #[.pointer (some ⟨10,261,none⟩), .pointer (some a), .int .u64 150]
theorem akK (t:Addr) (w:World):(ReflectliteValue.unpack (.iface 261 (.pointer (some t)))).run Tryz.prog w
  = .ok (VP ⟨w.heap.size,0,none⟩) (w.alloc (.cells #[.pointer (some t)] 261)):=by kernel_rfl
theorem agu (a:Addr) (w:World):(ReflectliteValue.methodAny (ReflectliteValue.valueError "reflectlite.Value.Type" 0) (λt _ _ _=>ReflectliteType.toType t) #[VP a]).run Tryz.prog w
  = .ok (.iface 244 (.agg #[.pointer (some ⟨10,261,none⟩)])) w:=by kernel_rfl
theorem methodKind (h:Value) (w:World):(Go.method 483 244 (.agg #[h]) "Kind").run Tryz.prog w = .ok (266,h) w:=by kernel_rfl
theorem ajf (w:World):((ReflectliteType.abiMethod λt=>(λa:Nat=>Value.int IntKind.u8 (a:Int)) <$> Rtype.kind t) #[.pointer (some ⟨10,261,none⟩)]).run Tryz.prog w = .ok (.int .u8 22) w:=by kernel_rfl
theorem aiB (w:World):((ReflectliteType.abiMethod λt=>(λa:Nat=>Value.int IntKind.u8 (a:Int)) <$> Rtype.kind t) #[.pointer (some ⟨10,259,none⟩)]).run Tryz.prog w = .ok (.int .u8 25) w:=by kernel_rfl
theorem methodElem (h:Value) (w:World):(Go.method 483 244 (.agg #[h]) "Elem").run Tryz.prog w = .ok (274, .agg #[h]) w:=by kernel_rfl
theorem methodImplements (h:Value) (w:World):(Go.method 483 244 (.agg #[h]) "Implements").run Tryz.prog w = .ok (275, .agg #[h]) w:=by kernel_rfl
theorem methodAssignableTo (h:Value) (w:World):(Go.method 483 244 (.agg #[h]) "AssignableTo").run Tryz.prog w = .ok (272, .agg #[h]) w:=by kernel_rfl
theorem aib (w:World):(ReflectliteType.method ReflectliteType.elem #[.agg #[.pointer (some ⟨10,261,none⟩)]]).run Tryz.prog w = .ok (.iface 244 (.agg #[.pointer (some ⟨10,259,none⟩)])) w:=by kernel_rfl
theorem ajO (w:World):(ReflectliteType.relation "Implements" ReflectliteType.implements_ #[.agg #[.pointer (some ⟨10,259,none⟩)], .iface 244 (.agg #[.pointer (some ⟨10,68,none⟩)])]).run Tryz.prog w = .ok (.bool true) w:=by kernel_rfl
theorem anp (v:Value) (w:World):(ReflectliteType.typeOf #[.iface 259 v]).run Tryz.prog w = .ok (.iface 244 (.agg #[.pointer (some ⟨10,259,none⟩)])) w:=by kernel_rfl
theorem afE (w:World):(ReflectliteType.relation "AssignableTo" ReflectliteType.assignableTo #[.agg #[.pointer (some ⟨10,259,none⟩)], .iface 244 (.agg #[.pointer (some ⟨10,259,none⟩)])]).run Tryz.prog w = .ok (.bool true) w:=by kernel_rfl
theorem aiU (x y:Value) (w:World):(ReflectliteValue.unpack (.iface 259 (.agg #[x,y]))).run Tryz.prog w
  = .ok (.agg #[.pointer (some ⟨10,259,none⟩), .pointer (some ⟨w.heap.size,0,none⟩), .int .u64 153]) (w.alloc (.cells #[x,y] 259)):=by kernel_rfl
theorem rlm (z:Sem Value) (f:TypeId->Addr->Nat->Nat->Sem Value) (v:Value) :
  ReflectliteValue.method z f #[v]=(do match <- ReflectliteValue.parts v with | none=>z | some (t,a,fl)=>f t a fl (fl % 32)):=rfl
theorem ab3 (a:Addr) (w:World):(ReflectliteValue.parts (VP a)).run Tryz.prog w = .ok (some (261,a,150)) w:=by kernel_rfl
theorem akv (a p:Addr) (W:World) (ha:W.cell? a=some (.pointer (some p))) :
  (ReflectliteValue.method (ReflectliteValue.valueError "reflectlite.Value.IsNil" 0) ReflectliteValue.isNil #[VP a]).run Tryz.prog W = .ok (.bool false) W:=by
 rw [rlm];simp only [Sem.run_bind,ab3,Result.andThen];simp [ReflectliteValue.isNil,loadVar,isAgg,underlying,Tryz.underlying261,ha,Result.andThen]
theorem alp (w:World):(Rtype.elem? 261).run Tryz.prog w = .ok (some 259) w:=by kernel_rfl
abbrev VW (p:Addr) (fl:Int):Value:=.agg #[.pointer (some ⟨10,259,none⟩), .pointer (some p), .int .u64 fl]
theorem mkW (p:Addr) (w:World):(ReflectliteValue.mk 259 p ReflectliteValue.flagAddr).run Tryz.prog w = .ok (VW p 409) w:=by kernel_rfl
theorem elemV (a p:Addr) (W:World) (ha:W.cell? a=some (.pointer (some p))) :
  (ReflectliteValue.method (ReflectliteValue.valueError "reflectlite.Value.Elem" 0) ReflectliteValue.elem #[VP a]).run Tryz.prog W = .ok (VW p 409) W:=by
 rw [rlm];simp only [Sem.run_bind,ab3,Result.andThen];simp [ReflectliteValue.elem,loadVar,isAgg,underlying,Tryz.underlying261,ha,Result.andThen,alp,mkW]
theorem rls (v x:Value):ReflectliteValue.set #[v,x]=(do
  let (some (dst,a,fl),some (src,b,_)):=(<- ReflectliteValue.parts v,<- ReflectliteValue.parts x)
   | unsupported (.noEntry "extern/(internal/reflectlite.Value).Set.zeroValue")
  if fl / ReflectliteValue.flagAddr % 2==0 then unsupported (.noEntry "extern/(internal/reflectlite.Value).Set.unaddressable")
  let val <- loadVar src b
  if <- Rtype.directlyAssignable dst src then storeVar dst a val
  else if <- Rtype.implements dst src then
   if (<- Rtype.kind src)==20 then
    match val with
    | .nilIface=>unsupported (.noEntry "extern/reflectlite: a nil value of one interface type handed on as a value of another")
    | _=>storeVar dst a val
   else storeVar dst a (.iface src val)
  else panicString ("reflectlite.Set: value of type " ++ (<- Rtype.spelt src) ++ " is not assignable to type " ++ (<- Rtype.spelt dst))
  pure (.tuple #[])):=rfl
theorem alD (a:Addr) (w:World):(ReflectliteValue.parts (VW a 409)).run Tryz.prog w = .ok (some (259,a,409)) w:=by kernel_rfl
theorem aeC (a:Addr) (w:World):(ReflectliteValue.parts (VW a 153)).run Tryz.prog w = .ok (some (259,a,153)) w:=by kernel_rfl
theorem an1 (w:World):(Rtype.directlyAssignable 259 259).run Tryz.prog w = .ok true w:=by kernel_rfl
theorem aaS:(Tryz.prog.info? 259).map (·.size)=some 2:=by kernel_rfl
theorem setW (ta b:Nat) (x y o1 o2:Value) (W:World) (hb:ak W b 259 #[x,y]) (ht:ak W ta 259 #[o1,o2]) (h1:x.oneCell'=true) (h2:y.oneCell'=true) :
  (ReflectliteValue.set #[VW ⟨ta,0,none⟩ 409,VW ⟨b,0,none⟩ 153]).run Tryz.prog W = .ok (.tuple #[]) (W.setRow ta #[x,y]):=by
 rw [rls];simp only [Sem.run_bind,alD,aeC,Result.andThen];simp [ReflectliteValue.flagAddr,run_loadVar_row W b 259 259 _ (0,0) _ hb Tryz.underlying259 rfl aaS,Result.andThen,an1];rw [run_storeVar_row W ta 259 259 #[o1,o2] #[x,y] ht aaS rfl (by simp [h1,h2])]
end As
end
section
open Go.RowKit
def Am (es:Array MapEntry) (q:Int):Option Value:=match Instr.findNow (.int .i64) (.int .i64 q) es.toList 0 with | some (some p)=>some p.2 | _=>none
def Fb (es:Array MapEntry):Prop:=∀ x∈es.toList,∃ k,x.key = .int .i64 k
def xC:Value->Int->Bool
 | .int .i64 k,q=>decide (k=q)
 | _,_=>false
theorem ag6 (v:Value) (q:Int):xC v q=true↔v = .int .i64 q:=by
 constructor
 ·intro h;unfold xC at h
  split at h
  ·simp at h;subst h;rfl
  ·cases h
 ·rintro rfl;simp [xC]
def pV:List MapEntry->Int->Option Value
 | [],_=>none
 | e::es,q=>if xC e.key q=true then some e.val else pV es q
theorem Qq (q:Int):∀ (l:List MapEntry) (i:Nat),(∀ x∈l,∃ k,x.key = .int .i64 k) ->
  (Instr.findNow (.int .i64) (.int .i64 q) l i=some none/\pV l q=none)\/∃ j v,Instr.findNow (.int .i64) (.int .i64 q) l i=some (some (i+j,v))/\pV l q=some v/\∃ e,l[j]?=some e/\e.key = .int .i64 q/\e.val=v
 | [],_,_=>.inl ⟨rfl,rfl⟩
 | e::es,i,h=>by
  obtain⟨k,hk⟩:=h e (List.mem_cons_self ..)
  by_cases hq:q=k
  ·subst hq;refine .inr ⟨0,e.val,?_,?_,e,rfl,hk,rfl⟩
   ·simp [Instr.findNow,Instr.sameNow,hk]
   ·simp [pV,xC,hk]
  ·have hq':(q==k)=false:=by simpa using hq
   have hkq:¬ k=q:=λe=>hq e.symm
   rcases Qq q es (i+1) (λx hx=>h x (List.mem_cons_of_mem _ hx)) with⟨h1,h2⟩ | ⟨j,v,h1,h2,e',h3,h4⟩
   ·exact .inl ⟨by simp [Instr.findNow,Instr.sameNow,hk,hq',h1],by simp [pV,xC,hk,hkq,h2]⟩
   ·exact .inr ⟨j+1,v,by simp [Instr.findNow,Instr.sameNow,hk,hq',h1];omega,by simp [pV,xC,hk,hkq,h2],e',h3,h4⟩
theorem Hg {es:Array MapEntry} (h:Fb es) (q:Int):Am es q=pV es.toList q:=by
 unfold Am
 rcases Qq q es.toList 0 h with⟨h1,h2⟩ | ⟨j,v,h1,h2,_⟩ <;> rw [h1,h2]
theorem afv (l:List MapEntry) (e:MapEntry) (k q:Int) (hk:e.key = .int .i64 k) (hn:pV l k=none):pV (l++[e]) q=if q=k then some e.val else pV l q:=by
 induction l with
 | nil =>
  by_cases h:q=k
  ·subst h;simp [pV,xC,hk]
  ·have:¬ k=q:=λe=>h e.symm
   simp [pV,xC,hk,h,this]
 | cons x t ih =>
  simp only [pV] at hn
  split at hn
  ·cases hn
  ·rename_i hx
   simp only [List.cons_append,pV];rw [ih hn]
   by_cases h:q=k
   ·subst h;rw [if_neg hx,if_pos rfl,if_pos rfl]
   ·rw [if_neg h,if_neg h]
theorem ab2 (k q:Int) (v:Value):∀ (l:List MapEntry) (j:Nat) (e:MapEntry),l[j]?=some e->e.key = .int .i64 k->pV l k=some e.val->(∀ i x,i<j->l[i]?=some x->x.key≠.int .i64 k) ->
  pV (l.modify j (λe=>{ e with key:=.int .i64 k,val:=v })) q=if q=k then some v else pV l q
 | [],_,_,h,_,_,_=>by simp at h
 | x::t,0,e,h,hk,_,_=>by
  simp at h;subst h;simp only [List.modify_zero_cons,pV]
  by_cases hq:q=k
  ·subst hq;simp [xC]
  ·have:¬ k=q:=λe=>hq e.symm
   simp [hq,this,hk,xC]
 | x::t,j+1,e,h,hk,hl,hf=>by
  have hx:=hf 0 x (by omega) rfl;simp only [List.getElem?_cons_succ] at h;simp only [pV] at hl;have hx':¬ xC x.key k=true:=λe=>hx ((ag6 _ _).mp e)
  rw [if_neg hx'] at hl;have ih:=ab2 k q v t j e h hk hl (λi y hi hy=>hf (i+1) y (by omega) (by simpa using hy));simp only [List.modify_succ_cons,pV];rw [ih]
  by_cases hq:q=k
  ·subst hq;rw [if_neg hx',if_pos rfl,if_pos rfl]
  ·rw [if_neg hq,if_neg hq]
theorem aa6 (k:Int):∀ (l:List MapEntry) (i j:Nat) (v:Value),(∀ x∈l,∃ k,x.key = .int .i64 k)->Instr.findNow (.int .i64) (.int .i64 k) l i=some (some (i+j,v))->∀ m x,m<j->l[m]?=some x->x.key≠.int .i64 k
 | [],_,_,_,_,h=>by simp [Instr.findNow] at h
 | e::es,i,j,v,hk,h=>by
  obtain⟨k',hk'⟩:=hk e (List.mem_cons_self ..)
  by_cases hq:k=k'
  ·subst hq;simp [Instr.findNow,Instr.sameNow,hk'] at h;intro m x hm;omega
  ·have hq':(k==k')=false:=by simpa using hq
   simp [Instr.findNow,Instr.sameNow,hk',hq'] at h;intro m x hm hx
   cases m with
   | zero =>
    simp at hx;subst hx;rw [hk'];intro e;injection e with _ e;exact hq e.symm
   | succ m =>
    exact aa6 k es (i+1) (j-1) v (λx hx=>hk x (List.mem_cons_of_mem _ hx)) (by rw [h];congr 3;omega) m x (by omega) (by simpa using hx)
section
variable {P:Program} {T K E:TypeId}
theorem afi (hm:P.underlying T=some (.map K E)) (hk:P.underlying K=some (.int .i64)) (W:World) (es:Array MapEntry) (clk:Nat) (k:Int) (v:Value) (n:Nat) (hg:W.heap[n]?=some (.map es clk)) (hik:Fb es) :
  ∃ es' wU,(Instr.mapUpdate T (.map (some n)) (.int .i64 k) v).run P W = .ok () (W.putObj n (.map es' wU))/\Fb es'/\∀ q,Am es' q=if q=k then some v else Am es q:=by
 have h1:(Instr.checkKey false 10000 K (.int .i64 k)).run P W = .ok () W:=MapKept.run_checkKey hk (by simp [MapKept.IsKey]) false 9999
 rcases Qq k es.toList 0 hik with⟨hf,hl⟩ | ⟨j,v0,hf,hl,e,he,hek,hev⟩
 ·have h2:=MapKept.run_findKey (P:=P) (w:=W) hk hf;have hik':Fb (es.push ⟨.int .i64 k,v,clk⟩):=by
   intro x hx;rw [Array.toList_push,List.mem_append,List.mem_singleton] at hx
   rcases hx with hx | rfl
   ·exact hik x hx
   ·exact⟨k,rfl⟩
  refine⟨es.push ⟨.int .i64 k,v,clk⟩,clk+1,?_,hik',λq=>?_⟩
  ·unfold Instr.mapUpdate;simp only [Sem.run_bind,run_underlying hm,Result.andThen,MapKept.run_getObj_map hg,h1,h2,MapKept.run_setObj_map _ hg]
   rfl
  ·rw [Hg hik',Hg hik,Array.toList_push,afv _ _ k q rfl hl]
 ·have h2:=MapKept.run_findKey (P:=P) (w:=W) hk hf;rw [Nat.zero_add] at hf h2;have hje:es[j]?=some e:=by simpa using he
  have hik':Fb (es.modify j (λe=>{ e with key:=.int .i64 k,val:=v })):=by
   intro x hx
   rcases MapFrom.mem_modify hx with hx | ⟨e',_,rfl⟩
   ·exact hik x hx
   ·exact⟨k,rfl⟩
  refine⟨es.modify j (λe=>{ e with key:=.int .i64 k,val:=v }),clk,?_,hik',λq=>?_⟩
  ·unfold Instr.mapUpdate;simp only [Sem.run_bind,run_underlying hm,Result.andThen,MapKept.run_getObj_map hg,h1,h2,hje,Option.map_some,Option.getD_some,hek,MapKept.run_keyThatStays (k:=.int .i64 k) (d:=.int .i64) (by simp [MapKept.IsKey]),MapKept.run_setObj_map _ hg]
   rfl
  ·rw [Hg hik',Hg hik,Array.toList_modify];exact ab2 k q v es.toList j e he hek (by rw [hl,hev]) (λi x hi hx=>aa6 k es.toList 0 j v0 hik (by rw [Nat.zero_add];exact hf) i x hi hx)
end
def YJ {α:Type} (n:Nat) (P:Program) (gf:Nat) (lb:Array Value) (encs:α->Array Value) (own keep:Nat->Prop) (ok:List α->α->World->Prop) (S:List α->World->Prop) (l:Nat) (W1:World):Prop :=
 ∀ (J Jx:List α->World->Prop),(∀ pre W W',J pre W->Turns own W W'->J pre W')->(∀ pre W W',Jx pre W->Turns (λ_=>False) W W'->Jx pre W') ->
  (∀ pre x W0 W,J pre W0->Turns own W0 W->ok pre x W->YieldAt Fence.wide (n-1) P l (encs x) W λe W'=>(e = .returned (.bool true)/\J (pre++[x]) W'/\Turns (λk=>¬ (keep k\/(W0.heap.size<=k/\k<W.heap.size))) W W')\/(e = .returned (.bool false)/\Jx (pre++[x]) W')) ->
  J [] W1->CallsIn Fence.wide n P gf (#[.func (.yield l) #[] #[]]++lb) W1 λe W'=>(∃ v,e = .returned v)/\((∃ xs,S xs W'/\J xs W')\/(∃ pre,Jx pre W'))
def alb {α:Type} (keep:Nat->Prop) (I:List α->World->Prop) (Ix:Code->List α->World->Prop) (l D:Nat) (xs:List α) (W:World):Exit->Act->World->Prop
 | .normal,_,W'=>Turns (λk=>¬ (keep k\/k=l\/k=D)) W W'/\I xs W'
 | .ret,_,W'=>Holds (λk=>k=l\/k=D) W W'/\Ix .ret xs W'
 | .exit id,_,W'=>Holds (λk=>k=l\/k=D) W W'/\Ix (.exit id) xs W'
 | .goto t,_,W'=>Holds (λk=>k=l\/k=D) W W'/\Ix (.goto t) xs W'
 | .panic _,_,_=>False
 | .outgrown,_,_=>False
theorem anh {α:Type} {P:Program} {n:Nat} {g:Operand} {ps:Array Tmp} {assign body:Code} {Q:Exit->Act->World->Prop} {a:Act} {w:World}
  {gf:Nat} {lb:Array Value} (hg:a.eval g = .func (.func gf) #[] lb) (eg:∀ args w,(callFunc gf args).run P w = .ok (.enter gf args) w)
  {encs:α->Array Value} {own keep:Nat->Prop} {ok:List α->α->World->Prop} {S:List α->World->Prop} (hown:∀ k,own k\/keep k->k<w.heap.size)
  (hit:∀ W1,Turns (λ_=>False) w W1->YJ (n-1) P gf lb encs own keep ok S (w.heap.size+1) W1)
  (hps:∀ x,(encs x).size=ps.size)
  (I:List α->World->Prop) (Ix:Code->List α->World->Prop)
  (hI:∀ pre W W',I pre W->Turns (λk=>own k\/k=w.heap.size+1) W W'->I pre W')
  (hIx:∀ c pre W W',Ix c pre W->Turns (λk=>k=w.heap.size+1) W W'->Ix c pre W')
  (hokS:∀ pre x W W',ok pre x W->Turns (λk=>k=w.heap.size+1) W W'->ok pre x W') (h0:I [] w) (Ax:α->Act->World->Prop) (hAx:∀ x a1 W W',Ax x a1 W->Turns (λk=>k=w.heap.size+1) W W'->Ax x a1 W')
  (hassign:∀ (x:α) (W:World) (K:Act->World->Prop),w.heap.size+2<=W.heap.size->(∀ a1 W1,Turns (λ_=>False) W W1->Ax x a1 W1->K a1 W1) ->
   assign.wpIn (Fence.wide.inRound (w.heap.size+1)) (n-1-1) P (Exit.then K (λ_ _ _=>False)) { tmps:=(ps.zip (encs x)).foldl (λt (p,v)=>t.setIfInBounds p v) a.tmps,defers:=[] } W)
  (hbody:∀ (pre:List α) (x:α) (a1:Act) (W0 W:World) (N:Nat),w.heap.size+2<=W0.heap.size->I pre W0->Turns (λk=>own k\/k=w.heap.size+1) W0 W->N<=W.heap.size->ok pre x W->Ax x a1 W ->
   body.wpIn (Fence.wide.inRound (w.heap.size+1)) (n-1-1) P (alb (λk=>keep k\/(W0.heap.size<=k/\k<N)) I Ix (w.heap.size+1) w.heap.size (pre++[x]) W) a1 W)
  (hdone:∀ (xs:List α) (W:World),w.heap.size+2<=W.heap.size->S xs W->I xs W->W.heap[w.heap.size]?=some (.deferred (some []))->Q .normal { a with defers:={ target:=.collected w.heap.size,args:=#[] }::a.defers } W)
  (hstop:∀ (c:Code) (pre:List α) (W:World),w.heap.size+2<=W.heap.size->Ix c pre W->W.heap[w.heap.size]?=some (.deferred (some []))->c.wpIn Fence.wide n P Q { a with defers:={ target:=.collected w.heap.size,args:=#[] }::a.defers } W)
  (hS:∀ xs W W',S xs W->Turns (λk=>k=w.heap.size+1) W W'->S xs W') :
  (Code.rangeFunc g ps assign body).wpIn Fence.wide n P Q a w:=by
 refine wpIn_rangeFunc ?_;intro fn hfn;obtain⟨rec,hrec⟩:∃ rec:LoopState->Option Code->Loop,rec=λst pe=>{ state:=st,pending:=pe,fn,tmps:=a.tmps,params:=ps,assign,body,defers:=w.heap.size }:=⟨_,rfl⟩
 obtain⟨W1,hW1⟩:∃ W1,(w.alloc (.deferred (some []))).alloc (.loop (rec .ready none))=W1:=⟨_,rfl⟩
 have hL1:W1.heap[w.heap.size+1]?=some (.loop (rec .ready none)):=by
  rw [<- hW1];have:=World.alloc_heap_new (w.alloc (.deferred (some []))) (.loop (rec .ready none));rwa [World.size_alloc] at this
 have hK1:W1.heap[w.heap.size]?=some (.deferred (some [])):=by
  rw [<- hW1];exact(Below.heap_alloc _ _ _ (by simp)).trans (World.alloc_heap_new w _)
 have hT1:∀ o,Turns o w W1:=λo=>by rw [<- hW1];exact(Turns.alloc w _).trans (Turns.alloc _ _)
 have hI1:I [] W1:=hI _ _ _ h0 (hT1 _);refine⟨w.heap.size+1,[{ target:=.collected w.heap.size,args:=#[] }],W1,{ target:=.fn (.func gf) lb,args:=#[.func (.yield (w.heap.size+1)) #[] #[]] },W1,gf,
  #[.func (.yield (w.heap.size+1)) #[] #[]]++lb,W1,?_,?_,?_,?_,λh=>by simp [Fence.wide] at h,?_⟩
 ·rw [<- hW1,hrec];exact run_enterLoop_outer _ _ _ _ _
 ·simp only [resolve,hg];simp [go_sem]
 ·intro f' _;trivial
 ·simp [invoke,go_sem,eg]
 ·have hnl:¬ own (w.heap.size+1):=λh=>by have:=hown _ (.inl h);omega
  have hnd:¬ own w.heap.size:=λh=>by have:=hown _ (.inl h);omega
  refine(hit W1 (hT1 _)
   (λpre W=>I pre W/\W.heap[w.heap.size+1]?=some (.loop (rec .ready none))/\W.heap[w.heap.size]?=some (.deferred (some [])))
   (λpre W=>∃ c,Ix c pre W/\W.heap[w.heap.size+1]?=some (.loop (rec .done (some c)))/\W.heap[w.heap.size]?=some (.deferred (some [])))
   ?_ ?_ ?_ ⟨hI1,hL1,hK1⟩).mono ?_
  ·rintro pre W W' ⟨hi,hl,hk⟩ ht;exact⟨hI _ _ _ hi (ht.mono λk=>.inl),(ht.block _ (Array.getElem?_eq_some_iff.1 hl).1 hnl).trans hl,(ht.block _ (Array.getElem?_eq_some_iff.1 hk).1 hnd).trans hk⟩
  ·rintro pre W W' ⟨c,hi,hl,hk⟩ ht;exact⟨c,hIx _ _ _ _ hi (ht.mono λk h=>h.elim),(ht.block _ (Array.getElem?_eq_some_iff.1 hl).1 (λh=>h)).trans hl,(ht.block _ (Array.getElem?_eq_some_iff.1 hk).1 (λh=>h)).trans hk⟩
  ·-- one round
   rintro pre x W0 W ⟨hi,hl0,hk0⟩ ht hok;have hlt0:w.heap.size+1<W0.heap.size:=(Array.getElem?_eq_some_iff.1 hl0).1;have hl:=(ht.block _ hlt0 hnl).trans hl0;have hk:=(ht.block _ (by omega) hnd).trans hk0;have hlt:w.heap.size+1<W.heap.size:=(Array.getElem?_eq_some_iff.1 hl).1;have hy:=run_yield (P:=P) (args:=encs x) hl (by rw [hrec];exact hps x);rw [hrec] at hy;refine⟨fn,_,assign,body,hy,roundIn_of_wpIn hfn (hassign x W _ (by omega) λa1 Wa ha hax=>?_)⟩;have hla:Wa.heap[w.heap.size+1]?=some (.loop (rec .ready none)):=(ha.block _ hlt (λh=>h)).trans hl;have hka:Wa.heap[w.heap.size]?=some (.deferred (some [])):=(ha.block _ (by omega) (λh=>h)).trans hk;have Ld:w.heap.size+1<Wa.heap.size:=(Array.getElem?_eq_some_iff.1 hla).1;refine⟨_,run_beginRound hla (by rw [hrec]),?_⟩;obtain⟨Wb,qK⟩:∃ Wb,Wa.putObj (w.heap.size+1) (.loop { rec .ready none with state:=.busy })=Wb:=⟨_,rfl⟩
   rw [qK];have htb:∀ o:Nat->Prop,o (w.heap.size+1)->Turns o Wa Wb:=λo ho=>by rw [<- qK];exact Turns.putObj _ ho _
   have hlb:Wb.heap[w.heap.size+1]?=some (.loop { rec .ready none with state:=.busy }):=by rw [<- qK];exact World.putObj_heap_same Ld
   have hkb:Wb.heap[w.heap.size]?=some (.deferred (some [])):=by rw [<- qK];exact(World.putObj_heap_other (by omega)).trans hka
   have hsb:Wb.heap.size=Wa.heap.size:=by rw [<- qK];simp
   refine wpIn_mono (hbody pre x a1 W0 Wb W.heap.size (by omega) hi ((ht.mono λ_ h=>.inl h).trans ((ha.mono λ_ h=>h.elim).trans (htb _ (.inr rfl)))) (by have:=ha.size;omega) (hokS _ _ _ _ hok ((ha.mono λ_ h=>h.elim).trans (htb _ rfl))) (hAx _ _ _ _ hax (htb _ rfl))) ?_;have fin:∀ (jump:Option Code) (W3:World),Holds (λk=>k=w.heap.size+1\/k=w.heap.size) Wb W3 ->
     (Instr.endRound (w.heap.size+1) jump).run P W3 = .ok (.bool jump.isNone) (W3.putObj (w.heap.size+1) (.loop (rec (if jump.isNone then .ready else .done) jump))) /\
     (W3.putObj (w.heap.size+1) (.loop (rec (if jump.isNone then .ready else .done) jump))).heap[w.heap.size+1]?=some (.loop (rec (if jump.isNone then .ready else .done) jump)) /\
     (W3.putObj (w.heap.size+1) (.loop (rec (if jump.isNone then .ready else .done) jump))).heap[w.heap.size]?=some (.deferred (some [])):=λjump W3 hk3=>by
    have hl3:=(hk3.block _ (.inl rfl)).trans hlb;have:=run_endRound (P:=P) jump hl3;rw [hrec] at this ⊢;exact⟨this,World.putObj_heap_same (Array.getElem?_eq_some_iff.1 hl3).1,(World.putObj_heap_other (by omega)).trans ((hk3.block _ (.inr rfl)).trans hkb)⟩
   rintro e a3 W3 hp
   cases e with
   | normal =>
    obtain⟨ht3,hi3⟩:=hp;have hh:Holds (λk=>k=w.heap.size+1\/k=w.heap.size) Wb W3:=Holds.Az ht3 (λk hk=>by rw [hsb];omega) (λk hk hn=>hn (.inr hk));obtain⟨hr,hl4,hk4⟩:=fin none W3 hh;refine⟨_,_,hr, .inl ⟨rfl,⟨hI _ _ _ hi3 (Turns.putObj _ (.inr rfl) _),hl4,hk4⟩,?_⟩⟩;have hnk:¬ (keep (w.heap.size+1)\/(W0.heap.size<=w.heap.size+1/\w.heap.size+1<W.heap.size)):=by
     rintro(h | h)
     ·have:=hown _ (.inr h);omega
     ·omega
    exact(((ha.mono λ_ h=>h.elim).trans (htb _ hnk)).trans (ht3.mono λk hk hn=>hk (.inl hn))).trans (Turns.putObj _ hnk _)
   | ret =>
    obtain⟨hh,hi3⟩:=hp;obtain⟨hr,hl4,hk4⟩:=fin (some .ret) W3 hh;exact⟨_,_,hr, .inr ⟨rfl, .ret,hIx _ _ _ _ hi3 (Turns.putObj (own:=λk=>k=w.heap.size+1) _ rfl _),hl4,hk4⟩⟩
   | exit id =>
    obtain⟨hh,hi3⟩:=hp;obtain⟨hr,hl4,hk4⟩:=fin (some (.exit id)) W3 hh;exact⟨_,_,hr, .inr ⟨rfl, .exit id,hIx _ _ _ _ hi3 (Turns.putObj (own:=λk=>k=w.heap.size+1) _ rfl _),hl4,hk4⟩⟩
   | goto t =>
    obtain⟨hh,hi3⟩:=hp;obtain⟨hr,hl4,hk4⟩:=fin (some (.goto t)) W3 hh;exact⟨_,_,hr, .inr ⟨rfl, .goto t,hIx _ _ _ _ hi3 (Turns.putObj (own:=λk=>k=w.heap.size+1) _ rfl _),hl4,hk4⟩⟩
   | panic ch=>exact hp.elim
   | outgrown=>exact hp.elim
  ·-- behind the iterator
   rintro e W2 ⟨⟨v,rfl⟩,(⟨xs,KP,hi,hl,hk⟩ | ⟨pre,c,hi,hl,hk⟩)⟩
   ·have hlt:=(Array.getElem?_eq_some_iff.1 hl).1;exact⟨none,_,by have:=run_endLoop (P:=P) hl (by rw [hrec];simp);rw [hrec] at this;exact this,
     hdone xs _ (by simp;omega) (hS _ _ _ KP (Turns.putObj (own:=λk=>k=w.heap.size+1) _ rfl _)) (hI _ _ _ hi (Turns.putObj _ (.inr rfl) _)) ((World.putObj_heap_other (by omega)).trans hk)⟩
   ·have hlt:=(Array.getElem?_eq_some_iff.1 hl).1;exact⟨some c,_,by have:=run_endLoop (P:=P) hl (by rw [hrec];simp);rw [hrec] at this;exact this,
     hstop c pre _ (by simp;omega) (hIx _ _ _ _ hi (Turns.putObj (own:=λk=>k=w.heap.size+1) _ rfl _)) ((World.putObj_heap_other (by omega)).trans hk)⟩
end
namespace M
open U
def rng (c d:UInt8):Bool:=decide (eX (aA c)<=aA d)&&decide (aA d<=eU (aA c))
def mD:List UInt8->Nat
 | c::d::t=>if decide (2<=bF (aA c))&&rng c d then (match t with | e::_=>if decide (bF (aA c)=3)&&je e then 3 else 2 | []=>2) else 1
 | [_]=>1
 | []=>0
theorem UW {c d:UInt8} (t:List UInt8) (h:(decide (2<=bF (aA c))&&rng c d)=false):mD (c::d::t)=1:=by
 simp only [mD];rw [if_neg (by rw [h];decide)]
theorem aaI {c d:UInt8} (h:(decide (2<=bF (aA c))&&rng c d)=true):mD [c,d]=2:=by
 simp only [mD];rw [if_pos h]
theorem abT {c d e:UInt8} (t:List UInt8) (h:(decide (2<=bF (aA c))&&rng c d)=true) (h2:(decide (bF (aA c)=3)&&je e)=false):mD (c::d::e::t)=2:=by
 simp only [mD];rw [if_pos h,if_neg (by rw [h2];decide)]
theorem adQ {c d e:UInt8} (t:List UInt8) (h:(decide (2<=bF (aA c))&&rng c d)=true) (h2:(decide (bF (aA c)=3)&&je e)=true):mD (c::d::e::t)=3:=by
 simp only [mD];rw [if_pos h,if_pos h2]
def unit (s:List UInt8):Nat×Bool :=
 match dec s with
 | some (_,n)=>(n,true)
 | none=>(mD s,false)
def Ic (p:List UInt8):Bool :=
 (match dec (p++[128]) with | some (_,n)=>n==p.length+1 | none=>false)||(match dec (p++[128,128]) with | some (_,n)=>n==p.length+2 | none=>false)
theorem Oh (c d:UInt8):rng c d=true↔eX (aA c)<=aA d/\aA d<=eU (aA c):=by unfold rng;simp
theorem Ik (p:Prop) [Decidable p] (x:Int) (m k:Nat) (h:(m==k)=false):(match (if p then some (x,m) else none:Option (Int×Nat)) with | some (_,n)=>n==k | none=>false)=false:=by
 by_cases h':p
 ·rw [if_pos h'];exact h
 ·rw [if_neg h']
theorem UL:aA 128=128:=rfl
theorem amS (c d:UInt8):Ic [c,d]=(decide (2<=bF (aA c))&&rng c d):=by
 have hr:=Oh c d;unfold Ic;simp only [List.cons_append,List.nil_append,List.length_cons,List.length_nil]
 rcases D6 (aA c) with e | e | e | e | e
 ·rw [H7 (by omega),H7 (by omega),e];rfl
 ·rw [JF e,JF e,e];rfl
 ·rw [GN e,GN e,e,Ik _ _ _ _ rfl,Ik _ _ _ _ rfl];rfl
 ·have hlo:=I7 (aA c) (by omega);have hhi:=GZ (aA c) (by omega);rw [IB e,IB e,e]
  by_cases h:eX (aA c)<=aA d/\aA d<=eU (aA c)
  ·rw [if_pos (by rw [UL];omega),hr.2 h];rfl
  ·rw [if_neg (by omega),show rng c d=false by rw [<- Bool.not_eq_true,hr];exact h];rfl
 ·have hlo:=I7 (aA c) (by omega);have hhi:=GZ (aA c) (by omega);rw [Vj (by simp;omega),J6 e,e]
  by_cases h:eX (aA c)<=aA d/\aA d<=eU (aA c)
  ·rw [if_pos (by rw [UL];omega),hr.2 h];rfl
  ·rw [if_neg (by omega),show rng c d=false by rw [<- Bool.not_eq_true,hr];exact h];rfl
theorem ak5 (c d e:UInt8):Ic [c,d,e]=(decide (bF (aA c)=3)&&rng c d&&je e):=by
 have hr:=Oh c d;have ht:=lZ e;unfold Ic;simp only [List.cons_append,List.nil_append,List.length_cons,List.length_nil]
 rcases D6 (aA c) with k | k | k | k | k
 ·rw [H7 (by omega),H7 (by omega),k];rfl
 ·rw [JF k,JF k,k];rfl
 ·rw [GN k,GN k,k,Ik _ _ _ _ rfl,Ik _ _ _ _ rfl];rfl
 ·rw [IB k,IB k,k,Ik _ _ _ _ rfl,Ik _ _ _ _ rfl];rfl
 ·have hlo:=I7 (aA c) (by omega);have hhi:=GZ (aA c) (by omega);rw [J6 k,J6 k,k]
  by_cases h:(eX (aA c)<=aA d/\aA d<=eU (aA c))/\(128<=aA e/\aA e<=191)
  ·rw [if_pos (by rw [UL];omega),hr.2 h.1,ht.2 h.2];rfl
  ·rw [if_neg (by omega)];have:(rng c d&&je e)=false:=by
    rw [<- Bool.not_eq_true,Bool.and_eq_true,hr,ht];exact h
   rw [show (decide ((3:Int)=3)&&rng c d&&je e)=(rng c d&&je e) by simp,this];rfl
theorem TQ {s:List UInt8} {r:Int} {n:Nat} (h:dec s=some (r,n)):unit s=(n,true):=by unfold unit;rw [h]
theorem Ot {s:List UInt8} (h:dec s=none):unit s=(mD s,false):=by unfold unit;rw [h]
theorem ahx (s:List UInt8):mD s<=s.length/\mD s<=3/\(s≠[]->1<=mD s):=by
 match s with
 | []=>simp [mD]
 | [_]=>simp [mD]
 | c::d::[]=>simp only [mD,List.length_cons,List.length_nil];split <;> simp
 | c::d::e::t=>simp only [mD,List.length_cons];split <;> (try split) <;> simp <;> omega
theorem JC {s:List UInt8} (hs:s≠[]):1<=(unit s).1/\(unit s).1<=4/\(unit s).1<=s.length:=by
 cases h:dec s with
 | some p =>
  obtain⟨r,n⟩:=p;obtain⟨_,_,h1,h2,h3⟩:=Ey h;rw [TQ h];exact⟨h1,h2,h3⟩
 | none =>
  have:=ahx s;rw [Ot h];exact⟨this.2.2 hs,by omega,this.1⟩
def En:Nat->List UInt8->List (Nat×Bool)
 | 0,_=>[]
 | k+1,s=>if s=[] then [] else unit s::En k (s.drop (unit s).1)
def units (s:List UInt8):List (Nat×Bool):=En s.length s
theorem Yg:∀ (k j:Nat) (s:List UInt8),s.length<=k->s.length<=j->En k s=En j s
 | 0,j,s,h,_=>by
  have:s=[]:=List.eq_nil_of_length_eq_zero (by omega);subst this;cases j <;> rfl
 | k+1,0,s,_,h=>by
  have:s=[]:=List.eq_nil_of_length_eq_zero (by omega);subst this;rfl
 | k+1,j+1,s,h,h'=>by
  simp only [En]
  split
  ·rfl
  ·rename_i hs
   have:=JC hs;rw [Yg k j _ (by rw [List.length_drop];omega) (by rw [List.length_drop];omega)]
theorem aa3 {s:List UInt8} (hs:s≠[]):units s=unit s::units (s.drop (unit s).1):=by
 have h1:=JC hs;unfold units
 cases hl:s.length with
 | zero=>exact absurd (List.eq_nil_of_length_eq_zero hl) hs
 | succ k =>
  simp only [En];rw [if_neg hs,Yg k _ _ (by rw [List.length_drop];omega) (Nat.le_refl _)]
abbrev Place:=Nat×Nat×Bool
def place:Nat->List (Nat×Bool)->List Place
 | _,[]=>[]
 | a,u::us=>(a,u.1,u.2)::place (a+u.1) us
def places (s:List UInt8):List Place:=place 0 (units s)
def rest (s:List UInt8) (a:Nat):List Place:=place a (units (s.drop a))
theorem F9 (s:List UInt8):rest s 0=places s:=by unfold rest places;rw [List.drop_zero]
theorem rest_end (s:List UInt8) (a:Nat) (h:s.length<=a):rest s a=[]:=by unfold rest;rw [List.drop_eq_nil_of_le h];rfl
theorem Cc (s:List UInt8) (a:Nat) (h:a<s.length):rest s a=(a,(unit (s.drop a)).1,(unit (s.drop a)).2)::rest s (a+(unit (s.drop a)).1):=by
 have hs:s.drop a≠[]:=by intro e;rw [List.drop_eq_nil_iff] at e;omega
 unfold rest;rw [aa3 hs,List.drop_drop]
 rfl
def mark:List UInt8:=[239,191,189]
def mended (s:List UInt8) (x:Place):List UInt8:=if x.2.2 then (s.drop x.1).take x.2.1 else mark
def repair (s:List UInt8) (pl:List Place):List UInt8:=pl.flatMap (mended s)
def fwd (pl:List Place) (q:Int):Option Place:=pl.find? λx=>(x.1:Int)==q
def bwd (pl:List Place) (q:Int):Option Place:=pl.find? λx=>((x.1+x.2.1:Nat):Int)==q
end M
namespace M
open U
theorem alv {P:List UInt8->Prop} (h0:P []) (h1:∀ s,s≠[]->P (s.drop (unit s).1)->P s):∀ s,P s:=by
 have key:∀ (k:Nat) (s:List UInt8),s.length<=k->P s:=by
  intro k
  induction k with
  | zero =>
   intro s h;have:s=[]:=List.eq_nil_of_length_eq_zero (by omega);subst this;exact h0
  | succ k ih =>
   intro s h
   by_cases hs:s=[]
   ·subst hs;exact h0
   ·have:=JC hs;exact h1 s hs (ih _ (by rw [List.length_drop];omega))
 exact λs=>key s.length s (Nat.le_refl _)
def shift (a:Nat) (x:Place):Place:=(x.1+a,x.2.1,x.2.2)
theorem ags (us:List (Nat×Bool)):∀ a b,place (a+b) us=(place a us).map (shift b):=by
 induction us with
 | nil=>intro a b;rfl
 | cons u us ih =>
  intro a b;simp only [place,List.map_cons,shift];rw [show a+b+u.1=(a+u.1)+b by omega,ih]
theorem aic (s:List UInt8) (a:Nat):rest s a=(places (s.drop a)).map (shift a):=by
 unfold rest places;have:=ags (units (s.drop a)) 0 a;rw [Nat.zero_add] at this;exact this
theorem ahT (s:List UInt8) (a:Nat) (x:Place):mended s (shift a x)=mended (s.drop a) x:=by
 unfold mended shift;rw [List.drop_drop];simp only [Nat.add_comm]
theorem agj (s:List UInt8) (a:Nat) (pl:List Place):repair s (pl.map (shift a))=repair (s.drop a) pl:=by
 unfold repair;rw [List.flatMap_map]
 congr 1
 exact funext λx=>ahT s a x
def fix (s:List UInt8):List UInt8:=repair s (places s)
theorem places_cons {s:List UInt8} (hs:s≠[]):places s=(0,(unit s).1,(unit s).2)::(places (s.drop (unit s).1)).map (shift (unit s).1):=by
 have hl:0<s.length:=List.length_pos_iff.2 hs;have:=Cc s 0 hl;rw [F9,List.drop_zero,Nat.zero_add,aic] at this;exact this
theorem aaX {s:List UInt8} (hs:s≠[]):fix s=(if (unit s).2 then s.take (unit s).1 else mark)++fix (s.drop (unit s).1):=by
 unfold fix;rw [places_cons hs];show repair s (_::_)=_
 rw [show repair s ((0,(unit s).1,(unit s).2)::(places (s.drop (unit s).1)).map (shift (unit s).1))=mended s (0,(unit s).1,(unit s).2)++repair s ((places (s.drop (unit s).1)).map (shift (unit s).1)) from rfl,agj]
 rfl
theorem amI:mark=enc 65533:=by decide +kernel
theorem aks {s:List UInt8} (h:(unit s).2=true):∃ r,dec s=some (r,(unit s).1):=by
 cases hd:dec s with
 | none=>rw [Ot hd] at h;cases h
 | some p=>obtain⟨r,n⟩:=p;rw [TQ hd];exact⟨r,rfl⟩
theorem abO (s:List UInt8):∃ l,scalars (fix s)=some l/\l.length=(units s).length:=by
 refine alv (P:=λs=>∃ l,scalars (fix s)=some l/\l.length=(units s).length) ⟨[],rfl,rfl⟩ (λs hs ih=>?_) s;obtain⟨l,h1,h2⟩:=ih;have hu:=aa3 hs
 cases hok:(unit s).2 with
 | true =>
  obtain⟨r,hd⟩:=aks hok;obtain⟨hr,he,_⟩:=Ey hd;refine⟨r::l,?_,by rw [hu,List.length_cons,List.length_cons,h2]⟩;rw [aaX hs,hok,if_pos rfl,<- he,UD r hr,h1]
  rfl
 | false =>
  refine⟨65533::l,?_,by rw [hu,List.length_cons,List.length_cons,h2]⟩;rw [aaX hs,hok,if_neg (by simp),amI,UD 65533 (by decide),h1]
  rfl
end M
namespace M
open U
theorem JR {s:List UInt8} {P:Nat->Prop} (h0:∀ a,s.length<=a->P a) (h1:∀ a,a<s.length->P (a+(unit (s.drop a)).1)->P a):∀ a,P a:=by
 have key:∀ (k a:Nat),s.length<=a+k->P a:=by
  intro k
  induction k with
  | zero=>intro a h;exact h0 a (by omega)
  | succ k ih =>
   intro a h
   by_cases hs:s.length<=a
   ·exact h0 a hs
   ·have hne:s.drop a≠[]:=by intro e;rw [List.drop_eq_nil_iff] at e;omega
    have:=JC hne;exact h1 a (by omega) (ih _ (by omega))
 exact λa=>key s.length a (by omega)
theorem I8 {s:List UInt8} {a:Nat} (h:a<s.length):1<=(unit (s.drop a)).1/\(unit (s.drop a)).1<=4/\a+(unit (s.drop a)).1<=s.length:=by
 have hne:s.drop a≠[]:=by intro e;rw [List.drop_eq_nil_iff] at e;omega
 have:=JC hne;rw [List.length_drop] at this;omega
theorem MC (s:List UInt8):∀ a,∀ x∈rest s a,a<=x.1/\x.1<s.length/\(x.2.1,x.2.2)=unit (s.drop x.1)/\x.1+x.2.1<=s.length/\1<=x.2.1/\x.2.1<=4:=by
 refine JR (s:=s) (λa h x hx=>?_) (λa h ih x hx=>?_)
 ·rw [rest_end s a h] at hx;exact absurd hx List.not_mem_nil
 ·rw [Cc s a h] at hx;have hu:=I8 h
  rcases List.mem_cons.1 hx with rfl | hx
  ·exact⟨Nat.le_refl _,h,rfl,hu.2.2,hu.1,hu.2.1⟩
  ·have:=ih x hx;exact⟨by omega,this.2⟩
def U6 (a:Nat) (pl:List Place):List Nat:=a::pl.map λx=>x.1+x.2.1
theorem akA (s:List UInt8):∀ a,a<=s.length->(U6 a (rest s a))[(rest s a).length]?=some s.length:=by
 refine JR (s:=s) (λa h h'=>?_) (λa h ih h'=>?_)
 ·rw [rest_end s a h];show some a=_;congr 1;omega
 ·rw [Cc s a h];exact ih (I8 h).2.2
end M
end Go.Proofs.YtlmdjifffmofeaaGreatDoor
