/- Texts of this claim. -/
import Derived.Lib.OthersKept
import Derived.Test.YtlmdjifffmofeaaGreatDoorH18

set_option maxRecDepth 100000
set_option maxHeartbeats 16000000
namespace Go.Proofs.YtlmdjifffmofeaaGreatDoor
section
namespace dD
def data:List UInt8:=[48,51,65,51,59,83,59,76,117,59,48,59,76,59,59,59,59,59,78,59,59,59,59,48,51,67,51,59,10,48,48,54,49,59,97,59,76,108,59,48,59,76,59,59,59,59,59,78,59,59,59,48,48,52,49,59,59,48,48,52,49,10,48,48,52,49,59,65,59,76,117,59,48,59,76,59,59,59,59,59,78,59,59,59,59,48,48,54,49,59]
def core:List UInt8:=[48,48,52,49,59,67,97,115,101,100,10,48,48,54,49,59,67,97,115,101,100,10,48,51,65,51,59,67,97,115,101,100,10,48,51,67,50,46,46,48,51,67,51,59,67,97,115,101,100,10,48,48,50,55,59,67,97,115,101,95,73,103,110,111,114,97,98,108,101]
def props:List UInt8:=[48,48,52,49,59,76,10,48,48,54,49,59,76,10,48,48,50,55,59,76,10,48,51,65,51,59,76]
def rule:List UInt8:=[76,32,43,32,76]
def names:List (List UInt8):=[[79,116,104,101,114],[76]]
def s1:List UInt8:=[39,97,65,32,39,65,206,163,32,97]
def s2:List UInt8:=[65,206,163,32,255]
def w1:List UInt8:=[39,65,97,32,39,65,207,130,32,65]
def w2:List UInt8:=[97,207,130,32,239,191,189]
def r1:List F.bJ:=[(65,65,1),(97,97,1),(931,931,1),(962,963,1)]
def r2:List F.bJ:=[(39,39,1)]
def r3:List F.bJ:=[(39,39,1),(65,65,1),(97,97,1),(931,931,1)]
def wM:D.Rule:=((false,[(2,0)]),(false,[(2,0)]),false)
def OY:D.dF:=([[0,1,0],[0,1,0]],[0,1])
def lo:List F.Map:=[(65,[97]),(931,[963])]
def ti:List F.Map:=[(97,[65])]
def cs:T.Cs:=⟨lo,ti,F.iR r1,F.iR r2⟩
def tb:Tab:=⟨2,F.iR r3,[wM],OY⟩
attribute [local irreducible] F.iR
theorem He {c:T.Cs} {l:List F.bJ} (h:c.ca=F.iR l) (r:Nat) (hr:r / 256<4352):T.cased c (r:Int)=(F.rF l (r:Int) != 0):=by unfold T.cased;rw [h,F.RP _ _ hr]
theorem Ho {c:T.Cs} {l:List F.bJ} (h:c.ig=F.iR l) (r:Nat) (hr:r / 256<4352):T.aX c (r:Int)=(F.rF l (r:Int) != 0):=by unfold T.aX;rw [h,F.RP _ _ hr]
theorem Kv {t:F.Trie} {l:List F.bJ} (h:t=F.iR l) (r:Nat) (hr:r / 256<4352):F.says t (r:Int)=F.rF l (r:Int):=by rw [h,F.RP _ _ hr]
theorem zO:cs.ca=F.iR r1:=rfl
theorem Ar:cs.ig=F.iR r2:=rfl
theorem Cj:tb.p=F.iR r3:=rfl
theorem recs:∃ rs,F.parse data=some rs/\F.sV rs rs.length=some ([931,97,65],lo,ti):=by
 have h:(match F.parse data with | none=>false | some rs=>decide (F.sV rs rs.length=some ([931,97,65],lo,ti)))=true:=by decide +kernel
 revert h
 cases F.parse data with
 | none=>intro h;exact absurd h (by decide)
 | some rs=>intro h;exact⟨rs,rfl,of_decide_eq_true h⟩
theorem agq:F.Bh core [[78,111],[67,97,115,101,100]] true=some r1:=by decide +kernel
theorem ajR:F.Bh core [[78,111],[67,97,115,101,95,73,103,110,111,114,97,98,108,101]] true=some r2:=by decide +kernel
theorem rb1:F.tX r1=true:=by decide +kernel
theorem rb2:F.tX r2=true:=by decide +kernel
theorem rb3:F.tX r3=true:=by decide +kernel
theorem nb:F.vM names=true:=by decide +kernel
theorem ajY:F.Bh props names false=some r3:=by decide +kernel
theorem VZ:F.split 10 rule=[rule]/\F.trim ((F.split 35 rule).headD [])≠[]/\F.H8 names (F.trim ((F.split 35 rule).headD []))=some wM:=by decide +kernel
theorem aaW:pz wM:=⟨by decide,by decide⟩
theorem UF:zW [wM] 2=0/\xB [wM] 2=OY:=by
 have h1:qP 2 [wM]=true:=by decide +kernel
 have h2:(D.build (lefts [wM]) 2 2).todo.length<=(D.build (lefts [wM]) 2 2).next.length:=by decide +kernel
 have h3:D.build (lefts [wM]) 2 300=D.build (lefts [wM]) 2 2:=D.Xh _ _ (by omega) h2;have h4:D.Bd (lefts [wM]) 2=true:=D.Y8 _ _ (k:=2) (by omega) h2 (by decide +kernel);have h5:Ob (D.build (lefts [wM]) 2 2)=OY:=by decide +kernel
 refine⟨?_,?_⟩
 ·unfold zW;rw [h1,show (2:Int).toNat=2 from rfl,h4];rfl
 ·unfold xB U4;rw [h1,show (2:Int).toNat=2 from rfl,h4,h3,h5];rfl
theorem fine:Vw OY=true:=by decide +kernel
theorem ok1:F.jK cs.ca=true:=by rw [zO];exact F.WT (by decide)
theorem ok2:F.jK cs.ig=true:=by rw [Ar];exact F.WT (by decide)
theorem ok3:F.jK tb.p=true:=by rw [Cj];exact F.WT (by decide)
theorem Bz {t:F.Trie} (l:List F.bJ) (h:t=F.iR l):t.1.length<=100000/\t.2.length<=100000/\∀ r∈t.2,r.length<=256:=by
 have hb:=F.built l 4352;rw [h];unfold F.iR;generalize F.nN l 4352=b at hb;refine⟨?_,?_,λr hr=>?_⟩
 ·have:=hb.len;omega
 ·have:=hb.few;omega
 ·obtain⟨i,-,rfl⟩:=hb.all r hr;unfold F.qL;simp
theorem Le:T.Small cs where
 lo:=by decide
 loA:=by decide
 ti:=by decide
 tiA:=by decide
 c1:=(Bz r1 zO).1
 c2:=(Bz r1 zO).2.1
 c3:=λr hr=>Nat.le_trans ((Bz r1 zO).2.2 r hr) (by decide)
 g3:=λr hr=>Nat.le_trans ((Bz r2 Ar).2.2 r hr) (by decide)
 g1:=(Bz r2 Ar).1
 g2:=(Bz r2 Ar).2.1
theorem Q7:T.cu 600 cs=true:=by
 unfold T.cu;rw [ok1,ok2,show T.iI 600 cs.lo=true by decide +kernel,show T.iI 600 cs.ti=true by decide +kernel]
 rfl
theorem alh:wz tb where
 p1:=(Bz r3 Cj).1
 p2:=(Bz r3 Cj).2.1
 p3:=λr hr=>Nat.le_trans ((Bz r3 Cj).2.2 r hr) (by decide)
 r1:=λx hx=>by rw [List.mem_singleton.1 hx];exact aaW
 r2:=by decide
 m:=⟨by decide,by decide,by decide⟩
theorem al0:rE tb=true:=by
 unfold rE;rw [ok3,show oD tb.r tb.m tb.n=true by decide +kernel]
 rfl
theorem P6:T.cased cs 65=true:=by rw [show (65:Int)=((65:Nat):Int) from rfl,He zO _ (by decide)];decide +kernel
theorem Oa:T.aX cs 65=false:=by rw [show (65:Int)=((65:Nat):Int) from rfl,Ho Ar _ (by decide)];decide +kernel
theorem Ou:T.cased cs 97=true:=by rw [show (97:Int)=((97:Nat):Int) from rfl,He zO _ (by decide)];decide +kernel
theorem Qw:T.aX cs 97=false:=by rw [show (97:Int)=((97:Nat):Int) from rfl,Ho Ar _ (by decide)];decide +kernel
theorem QY:T.cased cs 39=false:=by rw [show (39:Int)=((39:Nat):Int) from rfl,He zO _ (by decide)];decide +kernel
theorem QN:T.aX cs 39=true:=by rw [show (39:Int)=((39:Nat):Int) from rfl,Ho Ar _ (by decide)];decide +kernel
theorem QH:T.cased cs 32=false:=by rw [show (32:Int)=((32:Nat):Int) from rfl,He zO _ (by decide)];decide +kernel
theorem N7:T.aX cs 32=false:=by rw [show (32:Int)=((32:Nat):Int) from rfl,Ho Ar _ (by decide)];decide +kernel
theorem Qj:T.cased cs 931=true:=by rw [show (931:Int)=((931:Nat):Int) from rfl,He zO _ (by decide)];decide +kernel
theorem QB:T.aX cs 931=false:=by rw [show (931:Int)=((931:Nat):Int) from rfl,Ho Ar _ (by decide)];decide +kernel
theorem Ol:T.cased cs 65533=false:=by rw [show (65533:Int)=((65533:Nat):Int) from rfl,He zO _ (by decide)];decide +kernel
theorem Pg:T.aX cs 65533=false:=by rw [show (65533:Int)=((65533:Nat):Int) from rfl,Ho Ar _ (by decide)];decide +kernel
theorem aje:F.says tb.p 65=1:=by rw [show (65:Int)=((65:Nat):Int) from rfl,Kv Cj _ (by decide)];decide +kernel
theorem agW:F.says tb.p 97=1:=by rw [show (97:Int)=((97:Nat):Int) from rfl,Kv Cj _ (by decide)];decide +kernel
theorem aj1:F.says tb.p 39=1:=by rw [show (39:Int)=((39:Nat):Int) from rfl,Kv Cj _ (by decide)];decide +kernel
theorem afn:F.says tb.p 32=0:=by rw [show (32:Int)=((32:Nat):Int) from rfl,Kv Cj _ (by decide)];decide +kernel
theorem afw:F.says tb.p 931=1:=by rw [show (931:Int)=((931:Nat):Int) from rfl,Kv Cj _ (by decide)];decide +kernel
theorem ab1:dw s1=[39,97,65,32,39,65,931,32,97]:=by decide +kernel
theorem afB:dw s2=[65,931,32,65533]:=by decide +kernel
theorem Uz:T.becomes cs.lo 65=[97]/\T.becomes cs.lo 97=[97]/\T.becomes cs.lo 39=[39]/\T.becomes cs.lo 32=[32]/\T.becomes cs.lo 931=[963]/\T.becomes cs.lo 65533=[65533]/\T.becomes cs.ti 97=[65]/\T.becomes cs.ti 65=[65]:=by decide +kernel
theorem VB {l:List Int} (h:l.all U.right=true) (hz:l.length<=2000):T.wrong cs l=0:=T.PU Q7 hz (List.all_eq_true.1 h)
set_option linter.unusedSimpArgs false in
theorem afm:T.final cs [97,39,931] 2=true:=by
 simp [T.final,T.meets,P6,Oa,Ou,Qw,QY,QN,QH,N7,Qj,QB,Ol,Pg]
set_option linter.unusedSimpArgs false in
theorem ane:T.lower cs [97,931,39,97]=[97,963,39,97]:=by
 obtain⟨h1,h2,h3,h4,h5,h6,h7,h8⟩:=Uz;simp [T.lower,T.small,T.final,T.meets,List.range,List.range.loop,h1,h2,h3,h4,h5,h6,P6,Oa,Ou,Qw,QY,QN,QH,N7,Qj,QB,Ol,Pg]
set_option linter.unusedSimpArgs false in
theorem aeQ:T.lower cs [65,931,32,65533]=[97,962,32,65533]:=by
 obtain⟨h1,h2,h3,h4,h5,h6,h7,h8⟩:=Uz;simp [T.lower,T.small,T.final,T.meets,List.range,List.range.loop,h1,h2,h3,h4,h5,h6,P6,Oa,Ou,Qw,QY,QN,QH,N7,Qj,QB,Ol,Pg]
theorem ain:qM tb s1=[0,3,4,7,8,9]:=by
 unfold qM FW jJ;rw [ab1];simp only [List.map_cons,List.map_nil,aje,agW,aj1,afn,afw]
 decide +kernel
set_option linter.unusedSimpArgs false in
theorem ama:T.vG cs tb s1=[39,65,97,32,39,65,962,32,65]:=by
 obtain⟨h1,h2,h3,h4,h5,h6,h7,h8⟩:=Uz;unfold T.vG;rw [ain,ab1];simp [T.qg,T.word,T.uM,T.small,T.final,T.meets,List.range,List.range.loop,h1,h2,h3,h4,h5,h6,h7,h8,P6,Oa,Ou,Qw,QY,QN,QH,N7,Qj,QB,Ol,Pg]
end dD
end
section
open Go.RowKit Go.Shelf
attribute [local go_sem] Oper.semAt_some
theorem ZR (w:World) (xs:List Int) (n:Nat) (t:TypeId) (hn:n=xs.length) (hm:xs.length<=1000):ay (w.alloc (.cells (xs.map (Value.int .i64)).toArray t)) (.slice (some ⟨w.heap.size,0,none⟩) n n) xs:=by
 subst hn;refine .inr ⟨w.heap.size,0,none,xs.length,rfl,Nat.le_refl _,by unfold maxLen;omega,λ_=>⟨rfl,by simp,λi x hx=>?_⟩⟩;rw [cell_of_row _ _ _ _ _ _ (heap_alloc_new w _)];simp [hx]
theorem T.ad5 (c:T.Cs) (xs:List Int):T.wrong c xs=140\/T.wrong c xs=121\/T.wrong c xs=10\/T.wrong c xs=0:=by
 unfold T.wrong
 split
 ·exact .inl rfl
 ·split
  ·exact .inr (.inl rfl)
  ·split
   ·exact .inr (.inr (.inl rfl))
   ·exact .inr (.inr (.inr rfl))
theorem T.ahV (c:T.Cs) (xs pl:List Int):T.fU c xs pl=140\/T.fU c xs pl=121\/T.fU c xs pl=10\/T.fU c xs pl=12\/T.fU c xs pl=0:=by
 unfold T.fU
 split
 ·rename_i h
  rcases T.ad5 c xs with h1 | h1 | h1 | h1
  ·exact .inl h1
  ·exact .inr (.inl h1)
  ·exact .inr (.inr (.inl h1))
  ·exact absurd h1 h
 ·split
  ·exact .inr (.inr (.inr (.inl rfl)))
  ·exact .inr (.inr (.inr (.inr rfl)))
theorem T.Rx {c:T.Cs} {xs pl:List Int} (h:T.fU c xs pl≠0):T.ET (T.fU c xs pl)∈XT/\T.Zg (T.ET (T.fU c xs pl))=T.fU c xs pl:=by
 rcases T.ahV c xs pl with h1 | h1 | h1 | h1 | h1
 ·rw [h1];decide
 ·rw [h1];decide
 ·rw [h1];decide
 ·rw [h1];decide
 ·exact absurd h1 h
theorem T.an9 (c:T.Cs) (xs:List Int) (a:Int):T.fU c xs [0,a,(xs.length:Int)-1]=T.jW c xs a:=by
 unfold T.fU T.jW
 split
 ·rfl
 ·have e:T.vk [0,a,(xs.length:Int)-1]=(decide (0<=a)&&decide (a<=(xs.length:Int)-1)):=by
   unfold T.vk;simp [List.range_succ]
  rw [e]
  by_cases h:0<=a/\a<(xs.length:Int)
  ·rw [if_neg (by rw [Bool.and_eq_false_iff,decide_eq_false_iff_not,decide_eq_false_iff_not];omega),if_pos h]
  ·rw [if_pos (by rw [Bool.and_eq_false_iff,decide_eq_false_iff_not,decide_eq_false_iff_not];omega),if_neg h]
theorem T.akX (c:T.Cs) (xs:List Int) (a b:Int):T.fU c xs [0,a,b,(xs.length:Int)]=T.kK c xs a b:=by
 unfold T.fU T.kK
 split
 ·rfl
 ·have e:T.vk [0,a,b,(xs.length:Int)]=(decide (0<=a)&&(decide (a<=b)&&decide (b<=(xs.length:Int)))):=by
   unfold T.vk;simp [List.range_succ]
  rw [e]
  by_cases h:0<=a/\a<=b/\b<=(xs.length:Int)
  ·rw [if_neg (by simp only [Bool.and_eq_false_iff,decide_eq_false_iff_not];omega),if_pos h]
  ·rw [if_pos (by simp only [Bool.and_eq_false_iff,decide_eq_false_iff_not];omega),if_neg h]
theorem T.aiY (c:T.Cs) (xs:List Int):T.fU c xs []=T.wrong c xs:=by
 unfold T.fU
 split
 ·rfl
 ·rename_i h
  rw [if_neg (by decide)];exact(Decidable.of_not_not h).symm
theorem DY (A:Nat->Addr) (B:Nat) (v aT:Value) (c:T.Cs) (xs:List Int) (a:Int) (w:World) (hv:bC w v c) (hs:T.Small c) (hl:ay w aT xs) (hz:xs.length<=100000) (hE:E A B w) (hB:B<=w.heap.size) :
  Calls Tryz.prog 14 #[v,aT, .int .i64 a] w λe w'=>e = .returned (.tuple #[.bool (T.jL c xs a), .int .i64 (T.jW c xs a)])/\Below w.heap.size w w':=by
 obtain⟨lv,tv,ci,cb,gi,gb,rfl,h1,h2,h3,h4,h5,h6⟩:=hv;obtain⟨V,hV⟩:∃ V,V=w.alloc (.cells #[lv,tv,ci,cb,gi,gb] 28):=⟨_,rfl⟩
 have HB0:=bx (show Below w.heap.size w V by rw [hV];exact aS _ _);have HK:=bx (show ak V w.heap.size 28 #[lv,tv,ci,cb,gi,gb] by rw [hV];exact ak.new _ _ _);have bU:=bx (λW (h:Below w.heap.size w W)=>show bC W (.agg #[lv,tv,ci,cb,gi,gb]) c from⟨lv,tv,ci,cb,gi,gb,rfl,h1.below h,h2.below h,h3.below h,h4.below h,h5.below h,h6.below h⟩);have aB:=bx (λW (h:Below V.heap.size V W)=>HK.o.c6 h);have HV:=bx hV;have iU:=bx (λW (h:Below w.heap.size w W)=>show E A B W from hE.below (h.mono hB));have qC:=bx (λW (h:Below w.heap.size w W)=>hl.below h);obtain⟨la,lc,rfl⟩:=hl.slice;obtain⟨N,hN⟩:∃ N,xs.length=N:=⟨_,rfl⟩
 have HN:=bx hN;obtain⟨V2,hV2⟩:∃ V2,V2=V.alloc (.cells #[.int .i64 0, .int .i64 a, .int .i64 ((xs.length:Int)-1)] 3):=⟨_,rfl⟩
 have eY:=bx hV2;have bG:=bx (show Below V.heap.size V V2 by rw [hV2];exact aS _ _);have HB2:=bx (bt HB0.o bG.o);have nS:=bx (show ay V2 (.slice (some ⟨V.heap.size,0,none⟩) 3 3) [0,a,(xs.length:Int)-1] by rw [hV2];exact ZR V [0,a,(xs.length:Int)-1] _ _ rfl (by simp));clear hV2;have iZ:=bx (iU.o V2 HB2.o);have oC:=bx (Nat.le_trans hB HB2.o.size);have kX:=bx (qC.o V2 HB2.o);have HC2:=bx (bU.o V2 HB2.o);have HRR:=bx (λW (h:Sep [Pc.old V2.heap.size V2] W)=>show bC W (.agg #[lv,tv,ci,cb,gi,gb]) c/\ay W (.slice la xs.length lc) xs from⟨HC2.o.below (h.bel (n:=V2.heap.size) (W0:=V2) (by simp)),kX.o.below (h.bel (n:=V2.heap.size) (W0:=V2) (by simp))⟩);have nZ:=bx (λ(h:T.fU c xs [0,a,(xs.length:Int)-1]≠0)=>PY A B _ _ _ c xs [0,a,(xs.length:Int)-1] V2 HC2.o hs kX.o hz nS.o (by simp) iZ.o oC.o h);have tC:=bx (λ(h:T.fU c xs [0,a,(xs.length:Int)-1]=0)=>OU A B _ _ _ c xs [0,a,(xs.length:Int)-1] V2 HC2.o hs kX.o hz nS.o (by simp) iZ.o oC.o h);have HZ:=bx hz;have uI:=bx hs;have JW:=bx (λW (h:Below V2.heap.size V2 W)=>show E A B W from iZ.o.below (h.mono oC.o));rw [hN] at kX nZ tC HRR hz ⊢;have nJ:=bx (show N<=100000 from hz);clear h1 h2 h3 h4 h5 h6 hs hV hl hE hB;have hoe:=T.an9 c xs a;rw [hN] at eY hoe;have yE:=bx hoe;clear hN hoe;obtain⟨k0,k1,k2,k3,k4,k5,kk⟩:=aB.o V (Below.refl _ _)
 by_cases h0:T.fU c xs [0,a,(N:Int)-1]=0
 ·have HO:=bx (tC.o h0);rw [yE.o] at h0;have HE:=bx h0;clear h0
  go_enter Tryz.func14,Tryz.ntmps14
  go_upto_region 1 with(fail)
  rw [<- HV.o];go_wp2_with fail;rw [<- eY.o];refine HO.o.mono ?_;rintro e w1 ⟨aT,tv',ci',cb',Em,gb',g,km,sF,rfl,hs1⟩;obtain⟨rfl,rfl,rfl,rfl,rfl,rfl⟩:lv=aT/\tv=tv'/\ci=ci'/\cb=cb'/\gi=Em/\gb=gb':=by simpa using sF
  have bQ:=bx hs1;have han:0<=a/\a<N:=by
   have h9:=HE.o;unfold T.jW at h9;rw [HN.o] at h9
   split at h9
   ·rename_i h;exact absurd h9 h
   ·split at h9
    ·assumption
    ·cases h9
  have hwz:T.wrong c xs=0:=by
   have h9:=HE.o;unfold T.jW at h9
   split at h9
   ·rename_i h;exact absurd h9 h
   ·rename_i h;exact Decidable.of_not_not h
  obtain⟨jy,oO,jq⟩:=T.pI hwz;have hfi:=YK g km a.toNat lv tv ci cb gi gb (.slice la N lc) (.slice none 0 0) c uI.o jy [Pc.old V2.heap.size V2] xs jq HZ.o (by rw [HN.o];omega) HRR.o w1 hs1.tail;rw [Int.toNat_of_nonneg han.1] at hfi;have eF:=bx hfi;have fG:=bx (show T.jL c xs a=T.final c xs a.toNat by unfold T.jL;rw [HE.o];simp);have D7:=bx (hs1.bel (n:=V2.heap.size) (W0:=V2) (by simp [outW,wX]));clear hs1 sF han hwz jy oO jq hfi k0 k1 k2 k3 k4 k5 kk;go_wp2_with fail;refine eF.o.mono ?_;rintro e w2 ⟨rfl,ht2,hk2⟩;have HS2:=bx (Py bQ.o ht2 hk2);have HB3:=bx (HB2.o.trans ((HS2.o.bel (n:=V2.heap.size) (W0:=V2) (by simp [outW,wX])).mono HB2.o.size));clear ht2 hk2;go_wp2_with fail;go_ret2
  exact⟨gY (yU fG.o.symm) (fF HE.o.symm),HB3.o⟩
 ·have HO:=bx (nZ.o h0);obtain⟨e1,e2⟩:=T.Rx h0;rw [yE.o] at h0;have HE:=bx h0;generalize T.ET (T.fU c xs [0,a,(N:Int)-1])=eg at HO e1 e2;have oL:=bx (λW (h:Below V2.heap.size V2 W)=>Nv A B eg e1 W (JW.o W h));rw [yE.o] at e2;have HE2:=bx e2;have fG:=bx (show T.jL c xs a=false by unfold T.jL;rw [decide_eq_false HE.o];rfl);clear h0 e1 e2
  go_enter Tryz.func14,Tryz.ntmps14
  go_upto_region 1 with(fail)
  rw [<- HV.o];go_wp2_with fail;rw [<- eY.o];refine HO.o.mono ?_;rintro e w1 ⟨rfl,hb1⟩;have HB3:=bx (bt HB2.o hb1);have oL:=bx (oL.o w1 hb1);clear hb1 k0 k1 k2 k3 k4 k5 kk;unfold kH;go_wp2_with fail;unfold kH at oL;refine oL.o.mono ?_;rintro e w2 ⟨rfl,rfl⟩;go_wp2_with fail;go_ret2
  exact⟨gY (yU fG.o.symm) (fF HE2.o),HB3.o⟩
theorem Gu (A:Nat->Addr) (B:Nat) (v aT:Value) (c:T.Cs) (xs:List Int) (a b:Int) (w:World) (hv:bC w v c) (hs:T.Small c) (hl:ay w aT xs) (hz:xs.length<=100000) (hE:E A B w) (hB:B<=w.heap.size) :
  Calls Tryz.prog 19 #[v,aT, .int .i64 a, .int .i64 b] w λe w'=>(∃ v',e = .returned (.tuple #[v', .int .i64 (T.kK c xs a b)])/\ay w' v' (T.lM c xs a b))/\Below w.heap.size w w':=by
 obtain⟨lv,tv,ci,cb,gi,gb,rfl,h1,h2,h3,h4,h5,h6⟩:=hv;obtain⟨V,hV⟩:∃ V,V=w.alloc (.cells #[lv,tv,ci,cb,gi,gb] 28):=⟨_,rfl⟩
 have HB0:=bx (show Below w.heap.size w V by rw [hV];exact aS _ _);have HK:=bx (show ak V w.heap.size 28 #[lv,tv,ci,cb,gi,gb] by rw [hV];exact ak.new _ _ _);have bU:=bx (λW (h:Below w.heap.size w W)=>show bC W (.agg #[lv,tv,ci,cb,gi,gb]) c from⟨lv,tv,ci,cb,gi,gb,rfl,h1.below h,h2.below h,h3.below h,h4.below h,h5.below h,h6.below h⟩);have aB:=bx (λW (h:Below V.heap.size V W)=>HK.o.c6 h);have HV:=bx hV;have iU:=bx (λW (h:Below w.heap.size w W)=>show E A B W from hE.below (h.mono hB));have qC:=bx (λW (h:Below w.heap.size w W)=>hl.below h);obtain⟨la,lc,rfl⟩:=hl.slice;obtain⟨N,hN⟩:∃ N,xs.length=N:=⟨_,rfl⟩
 have HN:=bx hN;obtain⟨V2,hV2⟩:∃ V2,V2=V.alloc (.cells #[.int .i64 0, .int .i64 a, .int .i64 b, .int .i64 (xs.length:Int)] 3):=⟨_,rfl⟩
 have eY:=bx hV2;have bG:=bx (show Below V.heap.size V V2 by rw [hV2];exact aS _ _);have HB2:=bx (bt HB0.o bG.o);have nS:=bx (show ay V2 (.slice (some ⟨V.heap.size,0,none⟩) 4 4) [0,a,b,(xs.length:Int)] by rw [hV2];exact ZR V [0,a,b,(xs.length:Int)] _ _ rfl (by simp));clear hV2;have iZ:=bx (iU.o V2 HB2.o);have oC:=bx (Nat.le_trans hB HB2.o.size);have kX:=bx (qC.o V2 HB2.o);have HC2:=bx (bU.o V2 HB2.o);have HRR:=bx (λW (h:Sep [Pc.old V2.heap.size V2] W)=>show bC W (.agg #[lv,tv,ci,cb,gi,gb]) c/\ay W (.slice la xs.length lc) xs from⟨HC2.o.below (h.bel (n:=V2.heap.size) (W0:=V2) (by simp)),kX.o.below (h.bel (n:=V2.heap.size) (W0:=V2) (by simp))⟩);have nZ:=bx (λ(h:T.fU c xs [0,a,b,(xs.length:Int)]≠0)=>PY A B _ _ _ c xs [0,a,b,(xs.length:Int)] V2 HC2.o hs kX.o hz nS.o (by simp) iZ.o oC.o h);have tC:=bx (λ(h:T.fU c xs [0,a,b,(xs.length:Int)]=0)=>OU A B _ _ _ c xs [0,a,b,(xs.length:Int)] V2 HC2.o hs kX.o hz nS.o (by simp) iZ.o oC.o h);have HZ:=bx hz;have uI:=bx hs;have JW:=bx (λW (h:Below V2.heap.size V2 W)=>show E A B W from iZ.o.below (h.mono oC.o));rw [hN] at kX nZ tC HRR hz ⊢;have nJ:=bx (show N<=100000 from hz);clear h1 h2 h3 h4 h5 h6 hs hV hl hE hB;have hoe:=T.akX c xs a b;rw [hN] at eY hoe;have yE:=bx hoe;clear hN hoe;obtain⟨k0,k1,k2,k3,k4,k5,kk⟩:=aB.o V (Below.refl _ _)
 by_cases h0:T.fU c xs [0,a,b,(N:Int)]=0
 ·have HO:=bx (tC.o h0);rw [yE.o] at h0;have HE:=bx h0;clear h0
  go_enter Tryz.func19,Tryz.ntmps19
  go_upto_region 1 with(fail)
  rw [<- HV.o];go_wp2_with fail;rw [<- eY.o];refine HO.o.mono ?_;rintro e w1 ⟨aT,tv',ci',cb',Em,gb',g,km,sF,rfl,hs1⟩;obtain⟨rfl,rfl,rfl,rfl,rfl,rfl⟩:lv=aT/\tv=tv'/\ci=ci'/\cb=cb'/\gi=Em/\gb=gb':=by simpa using sF
  have bQ:=bx hs1;have han:0<=a/\a<=b/\b<=N:=by
   have h9:=HE.o;unfold T.kK at h9;rw [HN.o] at h9
   split at h9
   ·rename_i h;exact absurd h9 h
   ·split at h9
    ·assumption
    ·cases h9
  have hwz:T.wrong c xs=0:=by
   have h9:=HE.o;unfold T.kK at h9
   split at h9
   ·rename_i h;exact absurd h9 h
   ·rename_i h;exact Decidable.of_not_not h
  obtain⟨jy,oO,jq⟩:=T.pI hwz;have hfi:=adI V2.heap.size g km a.toNat b.toNat lv tv ci cb gi gb (.slice la N lc) (.slice none 0 0) [] c uI.o jy [Pc.old V2.heap.size V2] xs jq HZ.o (by omega) (by rw [HN.o];omega) (by simp) HRR.o (λW h=>(h.bel (n:=V2.heap.size) (W0:=V2) (by simp)).size) w1 hs1;rw [Int.toNat_of_nonneg han.1,Int.toNat_of_nonneg (by omega),List.nil_append] at hfi;have eF:=bx hfi;have fG:=bx (show T.lM c xs a b=T.word c xs a.toNat b.toNat by unfold T.lM;rw [HE.o,if_pos rfl]);clear hs1 sF han hwz jy oO jq hfi k0 k1 k2 k3 k4 k5 kk;go_wp2_with fail;refine eF.o.mono ?_;rintro e w2 ⟨⟨v2,rfl⟩,ov,hs2⟩;have HB3:=bx (HB2.o.trans ((hs2.bel (n:=V2.heap.size) (W0:=V2) (by simp [outW,wX])).mono HB2.o.size));have HI:=bx (ay.dL (hs2.row 0 rfl) rfl);rw [<- fG.o] at HI;have p8:w2.cell? ⟨g,8,none⟩=some ov:=((hs2.blk 1 rfl).cell 8).trans rfl;have l8:=(hs2.blk 1 rfl).lt;clear hs2;go_wp2_with fail;go_ret2
  exact⟨⟨_,gY rfl (fF HE.o.symm),HI.o⟩,HB3.o⟩
 ·have HO:=bx (nZ.o h0);obtain⟨e1,e2⟩:=T.Rx h0;rw [yE.o] at h0;have HE:=bx h0;generalize T.ET (T.fU c xs [0,a,b,(N:Int)])=eg at HO e1 e2;have oL:=bx (λW (h:Below V2.heap.size V2 W)=>Nv A B eg e1 W (JW.o W h));rw [yE.o] at e2;have HE2:=bx e2;have fG:=bx (show T.lM c xs a b=[] by unfold T.lM;rw [if_neg HE.o]);clear h0 e1 e2
  go_enter Tryz.func19,Tryz.ntmps19
  go_upto_region 1 with(fail)
  rw [<- HV.o];go_wp2_with fail;rw [<- eY.o];refine HO.o.mono ?_;rintro e w1 ⟨rfl,hb1⟩;have HB3:=bx (bt HB2.o hb1);have oL:=bx (oL.o w1 hb1);clear hb1 k0 k1 k2 k3 k4 k5 kk;unfold kH;go_wp2_with fail;unfold kH at oL;refine oL.o.mono ?_;rintro e w2 ⟨rfl,rfl⟩;go_wp2_with fail;go_ret2
  exact⟨⟨_,gY rfl (fF HE2.o),by rw [fG.o];exact .nil⟩,HB3.o⟩
theorem Ij (A:Nat->Addr) (B:Nat) (v aT:Value) (c:T.Cs) (xs:List Int) (w:World) (hv:bC w v c) (hs:T.Small c) (hl:ay w aT xs) (hz:xs.length<=100000) (hE:E A B w) (hB:B<=w.heap.size) :
  Calls Tryz.prog 16 #[v,aT] w λe w'=>(∃ v',e = .returned (.tuple #[v', .int .i64 (T.wrong c xs)])/\ay w' v' (T.gy c xs))/\Below w.heap.size w w':=by
 obtain⟨lv,tv,ci,cb,gi,gb,rfl,h1,h2,h3,h4,h5,h6⟩:=hv;obtain⟨V,hV⟩:∃ V,V=w.alloc (.cells #[lv,tv,ci,cb,gi,gb] 28):=⟨_,rfl⟩
 have HB0:=bx (show Below w.heap.size w V by rw [hV];exact aS _ _);have HK:=bx (show ak V w.heap.size 28 #[lv,tv,ci,cb,gi,gb] by rw [hV];exact ak.new _ _ _);have bU:=bx (λW (h:Below w.heap.size w W)=>show bC W (.agg #[lv,tv,ci,cb,gi,gb]) c from⟨lv,tv,ci,cb,gi,gb,rfl,h1.below h,h2.below h,h3.below h,h4.below h,h5.below h,h6.below h⟩);have aB:=bx (λW (h:Below V.heap.size V W)=>HK.o.c6 h);have HV:=bx hV;have iU:=bx (λW (h:Below w.heap.size w W)=>show E A B W from hE.below (h.mono hB));have qC:=bx (λW (h:Below w.heap.size w W)=>hl.below h);obtain⟨la,lc,rfl⟩:=hl.slice;obtain⟨N,hN⟩:∃ N,xs.length=N:=⟨_,rfl⟩
 have HN:=bx hN;obtain⟨V2,hV2⟩:∃ V2,V2=V:=⟨_,rfl⟩
 have bG:=bx (show Below V.heap.size V V2 by rw [hV2];exact Below.refl _ _);have HB2:=bx (bt HB0.o bG.o);have nS:=bx (show ay V2 (.slice none 0 0) [] from .nil);have HVE:=bx hV2;clear hV2;have iZ:=bx (iU.o V2 HB2.o);have oC:=bx (Nat.le_trans hB HB2.o.size);have kX:=bx (qC.o V2 HB2.o);have HC2:=bx (bU.o V2 HB2.o);have HRR:=bx (λW (h:Sep [Pc.old V2.heap.size V2] W)=>show bC W (.agg #[lv,tv,ci,cb,gi,gb]) c/\ay W (.slice la xs.length lc) xs from⟨HC2.o.below (h.bel (n:=V2.heap.size) (W0:=V2) (by simp)),kX.o.below (h.bel (n:=V2.heap.size) (W0:=V2) (by simp))⟩);have nZ:=bx (λ(h:T.fU c xs []≠0)=>PY A B _ _ _ c xs [] V2 HC2.o hs kX.o hz nS.o (by simp) iZ.o oC.o h);have tC:=bx (λ(h:T.fU c xs []=0)=>OU A B _ _ _ c xs [] V2 HC2.o hs kX.o hz nS.o (by simp) iZ.o oC.o h);have HZ:=bx hz;have uI:=bx hs;have JW:=bx (λW (h:Below V2.heap.size V2 W)=>show E A B W from iZ.o.below (h.mono oC.o));rw [hN] at kX nZ tC HRR hz ⊢;have nJ:=bx (show N<=100000 from hz);clear h1 h2 h3 h4 h5 h6 hs hV hl hE hB;have yE:=bx (T.aiY c xs);clear hN;obtain⟨k0,k1,k2,k3,k4,k5,kk⟩:=aB.o V (Below.refl _ _)
 by_cases h0:T.fU c xs []=0
 ·have HO:=bx (tC.o h0);rw [yE.o] at h0;have HE:=bx h0;rw [HVE.o] at HO HRR;clear h0
  go_enter Tryz.func16,Tryz.ntmps16
  go_upto_region 1 with(fail)
  rw [<- HV.o];go_wp2_with fail;refine HO.o.mono ?_;rintro e w1 ⟨aT,tv',ci',cb',Em,gb',g,km,sF,rfl,hs1⟩;obtain⟨rfl,rfl,rfl,rfl,rfl,rfl⟩:lv=aT/\tv=tv'/\ci=ci'/\cb=cb'/\gi=Em/\gb=gb':=by simpa using sF
  obtain⟨jy,oO,jq⟩:=T.pI HE.o;have bD:=bx (λ(k:Nat) (hk:k<N) ov acc (h1:acc.length<=900000000) W (h:Sep (outW V.heap.size g km lv tv ci cb gi gb (.slice la N lc) ov acc c [Pc.old V.heap.size V]) W)=>Za V.heap.size g km k lv tv ci cb gi gb (.slice la N lc) ov acc c uI.o jy [Pc.old V.heap.size V] xs jq HZ.o (by rw [HN.o];exact hk) h1 HRR.o W (h.bel (n:=V.heap.size) (W0:=V) (by simp [outW,wX])).size h);have HLF:=bx (λk (hk:k<=N)=>show ((List.range k).flatMap (T.small c xs)).length<=3*k from by
   have key:∀ k,k<=N->T.Fine k ((List.range k).flatMap (T.small c xs)):=by
    intro k
    induction k with
    | zero=>intro _;exact T.Fine.nil
    | succ k ih =>
     intro hk;rw [T.Jh];exact(ih (by omega)).append (T.A8 jy jq (by rw [HN.o];omega))
   exact(key k hk).1)
  have sG:=bx (show T.gy c xs=(List.range N).flatMap (T.small c xs) by unfold T.gy T.lower;rw [if_pos HE.o,HN.o]);have bQ:=bx (show Sep (outW V.heap.size g km lv tv ci cb gi gb (.slice la N lc) (.slice none 0 0) ((List.range 0).flatMap (T.small c xs)) c [Pc.old V.heap.size V]) w1 from hs1);clear hs1 sF jy oO jq k0 k1 k2 k3 k4 k5 kk;go_wp2_with fail
  go_loopw [8,21] (λu i wr=>∃ k:Nat,k<=N/\i = .int .i64 k/\∃ ov,Box (Sep (outW V.heap.size g km lv tv ci cb gi gb (.slice la N lc) ov ((List.range k).flatMap (T.small c xs)) c [Pc.old V.heap.size V]) wr)) (λ_ i _=>N-(intOf i).toNat)
  case atStart=>exact⟨0,by omega,rfl,_,bQ⟩
  case round =>
   obtain⟨k,hk,rfl,ov,hsep⟩:=hrel
   by_cases hlt:k<N
   ·have HC:=bx (bD.o k hlt ov _ (by have:=HLF.o k hk;omega) wr hsep.o);have uI:=bx (T.Jh c xs k);go_wp2_with fail;refine HC.o.mono ?_;rintro e w2 ⟨⟨v2,rfl⟩,KX,hs2⟩;rw [<- uI.o] at hs2;have HS2:=bx hs2;clear hs2;go_wp2_with fail
    go_roundw
    case rel=>exact⟨k+1,by omega,by go_num,KX,HS2⟩
    case measure=>simp [intOf];omega
   ·obtain rfl:k=N:=by omega
    have hs2:=hsep.o;rw [<- sG.o] at hs2;have HB3:=bx (HB0.o.trans ((hs2.bel (n:=V.heap.size) (W0:=V) (by simp [outW,wX])).mono HB0.o.size));have HI:=bx (ay.dL (hs2.row 0 rfl) rfl);have p8:wr.cell? ⟨g,8,none⟩=some ov:=((hs2.blk 1 rfl).cell 8).trans rfl;have l8:=(hs2.blk 1 rfl).lt;clear hs2;go_wp2_with fail;go_ret2
    exact⟨⟨_,gY rfl (fF HE.o.symm),HI.o⟩,HB3.o⟩
 ·have HO:=bx (nZ.o h0);obtain⟨e1,e2⟩:=T.Rx h0;rw [yE.o] at h0;have HE:=bx h0;generalize T.ET (T.fU c xs [])=eg at HO e1 e2;have oL:=bx (λW (h:Below V2.heap.size V2 W)=>Nv A B eg e1 W (JW.o W h));rw [yE.o] at e2;rw [HVE.o] at HO oL HB2;have HE2:=bx e2;have fG:=bx (show T.gy c xs=[] by unfold T.gy;rw [if_neg HE.o]);clear h0 e1 e2
  go_enter Tryz.func16,Tryz.ntmps16
  go_upto_region 1 with(fail)
  rw [<- HV.o];go_wp2_with fail;refine HO.o.mono ?_;rintro e w1 ⟨rfl,hb1⟩;have HB3:=bx (bt HB2.o hb1);have oL:=bx (oL.o w1 hb1);clear hb1 k0 k1 k2 k3 k4 k5 kk;unfold kH;go_wp2_with fail;unfold kH at oL;refine oL.o.mono ?_;rintro e w2 ⟨rfl,rfl⟩;go_wp2_with fail;go_ret2
  exact⟨⟨_,gY rfl (fF HE2.o),by rw [fG.o];exact .nil⟩,HB3.o⟩
end
section
open Go.RowKit
def Bl (es:Array MapEntry) (q:Int):Option Value:=match Instr.findNow (.int .i32) (.int .i32 q) es.toList 0 with | some (some p)=>some p.2 | _=>none
def FH (es:Array MapEntry):Prop:=∀ x∈es.toList,∃ k,x.key = .int .i32 k
def xW:Value->Int->Bool
 | .int .i32 k,q=>decide (k=q)
 | _,_=>false
theorem ag2 (v:Value) (q:Int):xW v q=true↔v = .int .i32 q:=by
 constructor
 ·intro h;unfold xW at h
  split at h
  ·simp at h;subst h;rfl
  ·cases h
 ·rintro rfl;simp [xW]
def oP:List MapEntry->Int->Option Value
 | [],_=>none
 | e::es,q=>if xW e.key q=true then some e.val else oP es q
theorem Qx (q:Int):∀ (l:List MapEntry) (i:Nat),(∀ x∈l,∃ k,x.key = .int .i32 k) ->
  (Instr.findNow (.int .i32) (.int .i32 q) l i=some none/\oP l q=none)\/∃ j v,Instr.findNow (.int .i32) (.int .i32 q) l i=some (some (i+j,v))/\oP l q=some v/\∃ e,l[j]?=some e/\e.key = .int .i32 q/\e.val=v
 | [],_,_=>.inl ⟨rfl,rfl⟩
 | e::es,i,h=>by
  obtain⟨k,hk⟩:=h e (List.mem_cons_self ..)
  by_cases hq:q=k
  ·subst hq;refine .inr ⟨0,e.val,?_,?_,e,rfl,hk,rfl⟩
   ·simp [Instr.findNow,Instr.sameNow,hk]
   ·simp [oP,xW,hk]
  ·have hq':(q==k)=false:=by simpa using hq
   have hkq:¬ k=q:=λe=>hq e.symm
   rcases Qx q es (i+1) (λx hx=>h x (List.mem_cons_of_mem _ hx)) with⟨h1,h2⟩ | ⟨j,v,h1,h2,e',h3,h4⟩
   ·exact .inl ⟨by simp [Instr.findNow,Instr.sameNow,hk,hq',h1],by simp [oP,xW,hk,hkq,h2]⟩
   ·exact .inr ⟨j+1,v,by simp [Instr.findNow,Instr.sameNow,hk,hq',h1];omega,by simp [oP,xW,hk,hkq,h2],e',h3,h4⟩
theorem Ir {es:Array MapEntry} (h:FH es) (q:Int):Bl es q=oP es.toList q:=by
 unfold Bl
 rcases Qx q es.toList 0 h with⟨h1,h2⟩ | ⟨j,v,h1,h2,_⟩ <;> rw [h1,h2]
theorem ahs (l:List MapEntry) (e:MapEntry) (k q:Int) (hk:e.key = .int .i32 k) (hn:oP l k=none):oP (l++[e]) q=if q=k then some e.val else oP l q:=by
 induction l with
 | nil =>
  by_cases h:q=k
  ·subst h;simp [oP,xW,hk]
  ·have:¬ k=q:=λe=>h e.symm
   simp [oP,xW,hk,h,this]
 | cons x t ih =>
  simp only [oP] at hn
  split at hn
  ·cases hn
  ·rename_i hx
   simp only [List.cons_append,oP];rw [ih hn]
   by_cases h:q=k
   ·subst h;rw [if_neg hx,if_pos rfl,if_pos rfl]
   ·rw [if_neg h,if_neg h]
theorem ZL (k q:Int) (v:Value):∀ (l:List MapEntry) (j:Nat) (e:MapEntry),l[j]?=some e->e.key = .int .i32 k->oP l k=some e.val->(∀ i x,i<j->l[i]?=some x->x.key≠.int .i32 k) ->
  oP (l.modify j (λe=>{ e with key:=.int .i32 k,val:=v })) q=if q=k then some v else oP l q
 | [],_,_,h,_,_,_=>by simp at h
 | x::t,0,e,h,hk,_,_=>by
  simp at h;subst h;simp only [List.modify_zero_cons,oP]
  by_cases hq:q=k
  ·subst hq;simp [xW]
  ·have:¬ k=q:=λe=>hq e.symm
   simp [hq,this,hk,xW]
 | x::t,j+1,e,h,hk,hl,hf=>by
  have hx:=hf 0 x (by omega) rfl;simp only [List.getElem?_cons_succ] at h;simp only [oP] at hl;have hx':¬ xW x.key k=true:=λe=>hx ((ag2 _ _).mp e)
  rw [if_neg hx'] at hl;have ih:=ZL k q v t j e h hk hl (λi y hi hy=>hf (i+1) y (by omega) (by simpa using hy));simp only [List.modify_succ_cons,oP];rw [ih]
  by_cases hq:q=k
  ·subst hq;rw [if_neg hx',if_pos rfl,if_pos rfl]
  ·rw [if_neg hq,if_neg hq]
theorem acE (k:Int):∀ (l:List MapEntry) (i j:Nat) (v:Value),(∀ x∈l,∃ k,x.key = .int .i32 k)->Instr.findNow (.int .i32) (.int .i32 k) l i=some (some (i+j,v))->∀ m x,m<j->l[m]?=some x->x.key≠.int .i32 k
 | [],_,_,_,_,h=>by simp [Instr.findNow] at h
 | e::es,i,j,v,hk,h=>by
  obtain⟨k',hk'⟩:=hk e (List.mem_cons_self ..)
  by_cases hq:k=k'
  ·subst hq;simp [Instr.findNow,Instr.sameNow,hk'] at h;intro m x hm;omega
  ·have hq':(k==k')=false:=by simpa using hq
   simp [Instr.findNow,Instr.sameNow,hk',hq'] at h;intro m x hm hx
   cases m with
   | zero =>
    simp at hx;subst hx;rw [hk'];intro e;injection e with _ e;exact hq e.symm
   | succ m =>
    exact acE k es (i+1) (j-1) v (λx hx=>hk x (List.mem_cons_of_mem _ hx)) (by rw [h];congr 3;omega) m x (by omega) (by simpa using hx)
section
variable {P:Program} {T K E:TypeId}
theorem am9 (hm:P.underlying T=some (.map K E)) (hk:P.underlying K=some (.int .i32)) (W:World) (es:Array MapEntry) (clk:Nat) (k:Int) (v:Value) (n:Nat) (hg:W.heap[n]?=some (.map es clk)) (hik:FH es) :
  ∃ es' wU,(Instr.mapUpdate T (.map (some n)) (.int .i32 k) v).run P W = .ok () (W.putObj n (.map es' wU))/\FH es'/\∀ q,Bl es' q=if q=k then some v else Bl es q:=by
 have h1:(Instr.checkKey false 10000 K (.int .i32 k)).run P W = .ok () W:=MapKept.run_checkKey hk (by simp [MapKept.IsKey]) false 9999
 rcases Qx k es.toList 0 hik with⟨hf,hl⟩ | ⟨j,v0,hf,hl,e,he,hek,hev⟩
 ·have h2:=MapKept.run_findKey (P:=P) (w:=W) hk hf;have hik':FH (es.push ⟨.int .i32 k,v,clk⟩):=by
   intro x hx;rw [Array.toList_push,List.mem_append,List.mem_singleton] at hx
   rcases hx with hx | rfl
   ·exact hik x hx
   ·exact⟨k,rfl⟩
  refine⟨es.push ⟨.int .i32 k,v,clk⟩,clk+1,?_,hik',λq=>?_⟩
  ·unfold Instr.mapUpdate;simp only [Sem.run_bind,run_underlying hm,Result.andThen,MapKept.run_getObj_map hg,h1,h2,MapKept.run_setObj_map _ hg]
   rfl
  ·rw [Ir hik',Ir hik,Array.toList_push,ahs _ _ k q rfl hl]
 ·have h2:=MapKept.run_findKey (P:=P) (w:=W) hk hf;rw [Nat.zero_add] at hf h2;have hje:es[j]?=some e:=by simpa using he
  have hik':FH (es.modify j (λe=>{ e with key:=.int .i32 k,val:=v })):=by
   intro x hx
   rcases MapFrom.mem_modify hx with hx | ⟨e',_,rfl⟩
   ·exact hik x hx
   ·exact⟨k,rfl⟩
  refine⟨es.modify j (λe=>{ e with key:=.int .i32 k,val:=v }),clk,?_,hik',λq=>?_⟩
  ·unfold Instr.mapUpdate;simp only [Sem.run_bind,run_underlying hm,Result.andThen,MapKept.run_getObj_map hg,h1,h2,hje,Option.map_some,Option.getD_some,hek,MapKept.run_keyThatStays (k:=.int .i32 k) (d:=.int .i32) (by simp [MapKept.IsKey]),MapKept.run_setObj_map _ hg]
   rfl
  ·rw [Ir hik',Ir hik,Array.toList_modify];exact ZL k q v es.toList j e he hek (by rw [hl,hev]) (λi x hi hx=>acE k es.toList 0 j v0 hik (by rw [Nat.zero_add];exact hf) i x hi hx)
end
theorem aiQ {P:Program} {T K E:TypeId} (hm:P.underlying T=some (.map K E)) (hk:P.underlying K=some (.int .i32)) (W:World) (es:Array MapEntry) (clk:Nat) (k:Int) (n:Nat) (hg:W.heap[n]?=some (.map es clk)) (hik:FH es) (z:Value) (hz:(zeroValue E).run P W = .ok z W) :
  (Instr.lookup T (.map (some n)) (.int .i32 k) true).run P W = .ok (.tuple #[(Bl es k).getD z, .bool (Bl es k).isSome]) W:=by
 have h1:(Instr.checkKey es.isEmpty 10000 K (.int .i32 k)).run P W = .ok () W:=MapKept.run_checkKey hk (by simp [MapKept.IsKey]) _ 9999
 rcases Qx k es.toList 0 hik with⟨hf,hl⟩ | ⟨j,v,hf,hl,_⟩
 ·have h2:=MapKept.run_findKey (P:=P) (w:=W) hk hf;unfold Instr.lookup;rw [Ir hik,hl];simp only [Sem.run_bind,run_underlying hm,Result.andThen,MapKept.run_getObj_map hg,h1,h2,Sem.run_pure,if_true,hz,Option.getD_none,Option.isSome_none]
 ·have h2:=MapKept.run_findKey (P:=P) (w:=W) hk hf;unfold Instr.lookup;rw [Ir hik,hl];simp only [Sem.run_bind,run_underlying hm,Result.andThen,MapKept.run_getObj_map hg,h1,h2,Sem.run_pure,if_true,Option.getD_some,Option.isSome_some]
def xJ (W:World) (km:Nat) (t:F.Trie):Prop:=∃ es clk,W.heap[km]?=some (.map es clk)/\FH es/\∀ q v,Bl es q=some v->v = .int .i64 (F.says t q)
theorem xJ.lt {W:World} {km:Nat} {t:F.Trie} (h:xJ W km t):km<W.heap.size:=by
 obtain⟨es,clk,h,-⟩:=h;exact(Array.getElem?_eq_some_iff.1 h).1
theorem xJ.block {W W':World} {km:Nat} {t:F.Trie} (h:xJ W km t) (hb:W'.heap[km]?=W.heap[km]?):xJ W' km t:=by
 obtain⟨es,clk,h1,h2,h3⟩:=h;exact⟨es,clk,hb.trans h1,h2,h3⟩
theorem xJ.turns {own:Nat->Prop} {W W':World} {km:Nat} {t:F.Trie} (h:xJ W km t) (ht:Turns own W W') (ho:¬ own km):xJ W' km t:=h.block (ht.block _ h.lt ho)
def Pc.J9 (km:Nat) (t:F.Trie):Pc where
 fp k:=k=km
 ok W:=xJ W km t
 keep:=λ{_ _ _} h ht ho=>h.turns ht (ho km rfl)
 lt:=λ{_ _} h hk=>hk▸h.lt
theorem ad8 (W:World):(zeroValue 3).run Tryz.prog W = .ok (.int .i64 0) W:=by kernel_rfl
theorem amJ (W:World) (it:Nat) (s:ByteArray) (p:Nat):Turns (λk=>k=it) W (W.iterAt it s p) :=
 ⟨rfl,rfl,rfl,by rw [Lib.iterAt_size];exact Nat.le_refl _,λk _ ho=>Lib.iterAt_other W it k s p (λe=>ho e)⟩
theorem amx {xs:List Int} {k:Nat} {x:Int} (h:xs[k]?=some x):(U.textOf xs).drop (U.textOf (xs.take k)).length=U.enc x++U.textOf (xs.drop (k+1))/\U.textOf (xs.take (k+1))=U.textOf (xs.take k)++U.enc x:=by
 have e:=List.drop_eq_getElem_cons (l:=xs) (i:=k) (List.getElem?_eq_some_iff.1 h).1;rw [(List.getElem?_eq_some_iff.1 h).2] at e;have e2:xs=xs.take k++x::xs.drop (k+1):=by rw [<- e];exact(List.take_append_drop k xs).symm
 constructor
 ·have e3:U.textOf xs=U.textOf (xs.take k)++(U.enc x++U.textOf (xs.drop (k+1))):=by
   have:U.textOf xs=U.textOf (xs.take k++x::xs.drop (k+1)):=by rw [<- e2]
   rw [this];unfold U.textOf;rw [List.flatMap_append,List.flatMap_cons]
  rw [e3,List.drop_left]
 ·unfold U.textOf;rw [List.take_add_one,h,List.flatMap_append];simp
end
section
open Go.RowKit
attribute [local go_sem] Oper.semAt_some
theorem agI (A:Nat->Addr) (B:Nat) (v:Value) (t:Tab) (s:ByteArray) (w:World) (hv:TabAt w v t) (hs:wz t) (hz:s.size<=100000) (hD:Ed A B w) (hG:Eg A B w) (hB:B<=w.heap.size) (he:textE t s.data.toList≠0) :
  Calls Tryz.prog 91 #[v, .string s] w λe w'=>e = .returned (.tuple #[.pointer none, .iface 259 (.agg #[.int .i64 0, .int .i64 (textE t s.data.toList)])])/\Below w.heap.size w w':=by
 obtain⟨pi,pb,rv,nv,fv,rfl,h1,h2,h3,h4,h5⟩:=hv;obtain⟨V,hV⟩:∃ V,V=w.alloc (.cells #[.int .i64 t.n,pi,pb,rv,nv,fv] 46):=⟨_,rfl⟩
 have HB0:=bx (show Below w.heap.size w V by rw [hV];exact aS _ _);have HK:=bx (show ak V w.heap.size 46 #[.int .i64 t.n,pi,pb,rv,nv,fv] by rw [hV];exact ak.new _ _ _);have bW:=bx (λW (h:Below w.heap.size w W)=>show TabAt W (.agg #[.int .i64 t.n,pi,pb,rv,nv,fv]) t from⟨pi,pb,rv,nv,fv,rfl,h1.below h,h2.below h,h3.below h,h4.below h,h5.below h⟩);have aB:=bx (λW (h:Below V.heap.size V W)=>HK.o.c6 h);have HV:=bx hV;have bI:=bx (Ym A B _ t V (bW.o V HB0.o) hs (hD.below (HB0.o.mono hB)) (hG.below (HB0.o.mono hB)) (Nat.le_trans hB HB0.o.size));have mg:=bx (λn (hn:n≠0) W=>aaG 0 n hn W);have lH:=bx (show textE t s.data.toList=if rE t=false then 120 else if 2000<s.size then 121 else 0 by unfold textE;rw [size_eq]);obtain⟨tn,hn⟩:∃ n,n=t.n:=⟨_,rfl⟩
 rw [<- hn] at HV HK bW aB bI ⊢;clear h1 h2 h3 h4 h5 hV hs hn hD hG hB;obtain⟨k0,k1,k2,k3,k4,k5,kk⟩:=aB.o V (Below.refl _ _)
 cases htb:rE t with
 | false =>
  have xU:=bx htb;have HE:=bx (show textE t s.data.toList=120 by rw [lH.o,if_pos htb]);clear htb he
  go_enter Tryz.func91,Tryz.ntmps91
  go_upto_region 1 with(fail)
  rw [<- HV.o];go_wp2_with fail;refine sS 0 rfl ?_;go_wp2_with fail;refine(mg.o 120 (by decide) _).mono ?_;rintro e w1 ⟨rfl,rfl⟩;go_wp2_with fail;refine bI.o.mono ?_;rintro e w2 ⟨rfl,hb2⟩;rw [xU.o];have eY:=bx hb2;have HB2:=bx (bt HB0.o hb2);clear hb2 k0 k1 k2 k3 k4 k5 kk;go_wp2_with fail
  go_step3
  refine⟨rfl,?_⟩;go_wp2_with fail;rw [Exit.noGoto_ret];go_ret2
  exact⟨by rw [HE.o];rfl,HB2.o⟩
 | true =>
  have xU:=bx htb;have rD:2000<s.size:=by
   have h9:=lH.o;rw [htb,if_neg (by simp)] at h9
   rcases Nat.lt_or_ge 2000 s.size with h | h
   ·exact h
   ·exact absurd (h9.trans (if_neg (by omega))) he
  have HE:=bx (show textE t s.data.toList=121 by rw [lH.o,htb,if_neg (by simp),if_pos rD]);have e1:decide ((2000:Int)<(s.size:Int))=true:=decide_eq_true (by omega);clear htb he rD
  go_enter Tryz.func91,Tryz.ntmps91
  go_upto_region 1 with(fail)
  rw [<- HV.o];go_wp2_with fail;refine sS 0 rfl ?_;go_wp2_with fail;refine(mg.o 120 (by decide) _).mono ?_;rintro e w1 ⟨rfl,rfl⟩;go_wp2_with fail;refine bI.o.mono ?_;rintro e w2 ⟨rfl,hb2⟩;rw [xU.o];have eY:=bx hb2;have HB2:=bx (bt HB0.o hb2);clear hb2 k0 k1 k2 k3 k4 k5 kk;go_wp2_with fail;refine(mg.o 121 (by decide) _).mono ?_;rintro e w3 ⟨rfl,rfl⟩;go_wp2_with fail
  go_step3
  refine⟨rfl,?_⟩;go_wp2_with fail;rw [Exit.noGoto_ret];go_ret2
  exact⟨by rw [HE.o];rfl,HB2.o⟩
def wS (n pb km it:Nat) (tn:Int) (pi FB rv nv fv:Value) (s:ByteArray) (pos:Nat) (ov:Value) (acc:List Int) (t:F.Trie) (W0:World):List Pc :=
 [Pc.obj it (.stringIter s pos),Pc.row n 3 1 ov acc.length (acc.map (Value.int .i64)),Pc.blk pb 213 #[.int .i64 tn,pi,FB,rv,nv,fv, .string s,ov],Pc.J9 km t,Pc.old n W0]
theorem aaq {n pg km it:Nat} {tn:Int} {pi FB rv nv fv:Value} {s:ByteArray} {pos:Nat} {ov jg:Value} {acc r:List Int} {y:Int} {t:F.Trie} {W0 W:World}
  (h:Sep ((wS n pg km it tn pi FB rv nv fv s pos ov acc t W0).set 1 (Pc.row n 3 1 jg (acc.length+1) (acc.map (Value.int .i64)++[.int .i64 y]))) W) (hr:r=acc++[y]):Sep (wS n pg km it tn pi FB rv nv fv s pos jg r t W0) (W.setCell ⟨pg,7,none⟩ jg):=by
 subst hr;rw [show acc.map (Value.int .i64)++[.int .i64 y]=(acc++[y]).map (Value.int .i64) by simp,show acc.length+1=(acc++[y]).length by simp] at h;exact h.set 2 rfl 7 jg
theorem ahv (A:Nat->Addr) (B:Nat) (v:Value) (t:Tab) (s:ByteArray) (w:World) (hv:TabAt w v t) (hs:wz t) (hz:s.size<=100000) (hE:E A B w) (hD:Ed A B w) (hG:Eg A B w) (hB:B<=w.heap.size) (he:textE t s.data.toList=0) :
  Calls Tryz.prog 91 #[v, .string s] w λe w'=>∃ pi FB rv nv fv pb ov,v = .agg #[.int .i64 t.n,pi,FB,rv,nv,fv]/\e = .returned (.tuple #[.pointer (some ⟨pb,0,none⟩), .nilIface]) /\
   ak w' pb 213 #[.int .i64 t.n,pi,FB,rv,nv,fv, .string ⟨(M.fix s.data.toList).toArray⟩,ov]/\ay w' ov (jJ t.p (dw s.data.toList))/\Below w.heap.size w w':=by
 obtain⟨pi,pb,rv,nv,fv,rfl,h1,h2,h3,h4,h5⟩:=hv;obtain⟨V,hV⟩:∃ V,V=w.alloc (.cells #[.int .i64 t.n,pi,pb,rv,nv,fv] 46):=⟨_,rfl⟩
 have HB0:=bx (show Below w.heap.size w V by rw [hV];exact aS _ _);have HK:=bx (show ak V w.heap.size 46 #[.int .i64 t.n,pi,pb,rv,nv,fv] by rw [hV];exact ak.new _ _ _);have bW:=bx (λW (h:Below w.heap.size w W)=>show TabAt W (.agg #[.int .i64 t.n,pi,pb,rv,nv,fv]) t from⟨pi,pb,rv,nv,fv,rfl,h1.below h,h2.below h,h3.below h,h4.below h,h5.below h⟩);have aB:=bx (λW (h:Below V.heap.size V W)=>HK.o.c6 h);have HV:=bx hV;have bI:=bx (Ym A B _ t V (bW.o V HB0.o) hs (hD.below (HB0.o.mono hB)) (hG.below (HB0.o.mono hB)) (Nat.le_trans hB HB0.o.size));have mg:=bx (λn (hn:n≠0) W=>aaG 0 n hn W);obtain⟨t1,t2⟩:=Rz he;have t3:=t1;unfold rE at t3;rw [Bool.and_eq_true] at t3;rw [<- size_eq] at t2;have xU:=bx t1;have Uo:=bx (λ(r:Nat) (hr:r<=1114111)=>Il h1 h2 t3.2 r hr);have iU:=bx (λW (h:Below w.heap.size w W)=>AA A B s W hz (hE.below (h.mono hB)) (Nat.le_trans hB h.size));have hfl:=BD s.data.toList;rw [<- size_eq] at hfl;have mO:=bx (uf s.data.toList);have HST:=bx (acT s.data.toList);have hsl:=rM s.data.toList;rw [<- size_eq] at hsl;obtain⟨s',hs'⟩:∃ s':ByteArray,s'=⟨(M.fix s.data.toList).toArray⟩:=⟨_,rfl⟩
 have HSL:=bx (show s'.data.toList=M.fix s.data.toList by rw [hs']);have hsz:s'.size<=8000:=by rw [size_eq,HSL.o];omega
 rw [<- HSL.o] at HST;rw [<- hs'] at iU ⊢;generalize dw s.data.toList=xs at mO HST hsl ⊢;obtain⟨N,hN⟩:∃ N,xs.length=N:=⟨_,rfl⟩
 rw [hN] at hsl;have HN:=bx hN;have e1:decide ((2000:Int)<(s.size:Int))=false:=decide_eq_false (by omega);have hmm:=@run_makeMap Tryz.prog;clear he t1 t3 hs' hN hE hfl;obtain⟨tn,hn⟩:∃ n,n=t.n:=⟨_,rfl⟩
 rw [<- hn] at HV HK bW aB bI ⊢;clear h1 h2 h3 h4 h5 hV hs hn hD hG hB;obtain⟨k0,k1,k2,k3,k4,k5,kk⟩:=aB.o V (Below.refl _ _)
 go_enter Tryz.func91,Tryz.ntmps91
 go_upto_region 1 with(fail)
 rw [<- HV.o];go_wp2_with fail;refine sS 0 rfl ?_;go_wp2_with fail;refine(mg.o 120 (by decide) _).mono ?_;rintro e w1 ⟨rfl,rfl⟩;go_wp2_with fail;refine bI.o.mono ?_;rintro e w2 ⟨rfl,hb2⟩;rw [xU.o];have eY:=bx hb2;have HB2:=bx (bt HB0.o hb2);clear hb2 k0 k1 k2 k3 k4 k5 kk;go_wp2_with fail;refine(mg.o 121 (by decide) _).mono ?_;rintro e w3 ⟨rfl,rfl⟩;go_wp2_with fail;have hk:xJ (w2.alloc (.map #[] 0)) w2.heap.size t.p:=⟨#[],0,World.alloc_heap_new w2 _,λx hx=>by simp at hx,λq v hq=>by simp [Bl,Instr.findNow] at hq⟩
 have hs1:Sep (Pc.J9 w2.heap.size t.p::[Pc.old w.heap.size w]) (w2.alloc (.map #[] 0)):=((Sep.start w).below HB2.o).add (aS w2 (.map #[] 0)) (p:=Pc.J9 w2.heap.size t.p) hk (λk hk=>by rw [show k=w2.heap.size from hk];exact Nat.le_refl _);have bG:=bx (show Below V.heap.size V (w2.alloc (.map #[] 0)).drew from(eY.o.trans ((aS w2 _).mono eY.o.size)).trans ((eu _ 1).mono (eY.o.trans ((aS w2 _).mono eY.o.size)).size));have cZ:=bx (show Sep (Pc.J9 w2.heap.size t.p::[Pc.old w.heap.size w]) (w2.alloc (.map #[] 0)).drew from hs1.drewN 1);have au:=bx (aB.o _ bG.o);clear hk hs1;refine dO 5 (λW'=>W'.cell? ⟨w.heap.size,0,none⟩=some (.int .i64 tn)/\W'.cell? ⟨w.heap.size,1,none⟩=some pi/\W'.cell? ⟨w.heap.size,2,none⟩=some pb/\W'.cell? ⟨w.heap.size,3,none⟩=some rv/\W'.cell? ⟨w.heap.size,4,none⟩=some nv/\W'.cell? ⟨w.heap.size,5,none⟩=some fv/\w.heap.size<W'.heap.size) (by kernel_rfl) ?_;generalize (w2.alloc (.map #[] 0)).drew=WR at bG cZ au ⊢;have SK:=bx (iU.o WR (bt HB0.o bG.o));refine kS 0 ?_ rfl au.o ?_ ?_;rotate_left
 ·rintro w ⟨q1,q2,q3,q4,q5,q6,q7⟩;go_simp;try with_reducible rfl
 refine kS 1 ?_ rfl au.o ?_ ?_;rotate_left
 ·rintro w ⟨q1,q2,q3,q4,q5,q6,q7⟩;go_simp;try with_reducible rfl
 refine kP 2 rfl λKK aj=>?_
 go_simp;refine SK.o.mono ?_;rintro e w4 ⟨rfl,hb4⟩;have dn:=bx (cZ.o.below hb4);have HB4:=bx (bt bG.o hb4);have KH:=bx (aB.o w4 HB4.o);clear hb4;refine aj.out _ _ (λ_=>KH.o) ?_;clear aj KK;refine kP 3 rfl λKK aj=>?_
 go_simp;refine aj.out _ _ (λ_=>KH.o) ?_;clear aj KK;refine kP 4 rfl λKK aj=>?_
 go_simp;refine aj.out _ _ (λ_=>aB.o _ (HB4.o.trans ((aS w4 _).mono HB4.o.size))) ?_;clear aj KK;refine kP 5 rfl λKK aj=>?_
 go_simp;refine aj.out _ _ (λh=>by cases h) ?_;clear aj KK;refine kD ?_ _;have aG:=bx ((dn.o.dh 213 #[.int .i64 tn,pi,pb,rv,nv,fv, .string s', .slice none 0 0]).fP w.heap.size 1 3);have x6:(w4.alloc (.cells #[.int .i64 tn,pi,pb,rv,nv,fv, .string s', .slice none 0 0] 213)).cell? ⟨w4.heap.size,6,none⟩=some (.string s'):=((aG.o.blk 1 rfl).cell 6).trans rfl;have xl:=(aG.o.blk 1 rfl).lt;generalize hw5:w4.alloc (.cells #[.int .i64 tn,pi,pb,rv,nv,fv, .string s', .slice none 0 0] 213)=w5 at aG x6 xl ⊢;clear hw5;generalize w4.heap.size=pg at aG x6 xl ⊢;go_wp2_with fail;have oM:=bx (show Below w5.heap.size w5 (w5.iter s' 0) from aS w5 _);have dA:=bx (show Sep (wS w.heap.size pg w2.heap.size w5.heap.size tn pi pb rv nv fv s' (U.textOf (xs.take 0)).length (.slice none 0 0) (jJ t.p (xs.take 0)) t.p w) (w5.iter s' 0) from
  aG.o.add oM.o (p:=Pc.obj w5.heap.size (.stringIter s' 0)) (World.iter_heap w5 s' 0) (λk hk=>by rw [show k=w5.heap.size from hk];exact Nat.le_refl _))
 clear x6 xl hmm;generalize w5.iter s' 0=w7 at dA oM ⊢;generalize w5.heap.size=it at dA ⊢
 go_loopw [10,11,12] (λu1 u2 u3 wr=>∃ k:Nat,k<=N/\∃ ov,Box (Sep (wS w.heap.size pg w2.heap.size it tn pi pb rv nv fv s' (U.textOf (xs.take k)).length ov (jJ t.p (xs.take k)) t.p w) wr)) (λ_ _ _ wr=>s'.size-wr.iterPos it)
 case atStart=>exact⟨0,by omega,_,dA⟩
 case round =>
  obtain⟨k,hk,u9,hsep⟩:=hrel;obtain⟨pos,hps⟩:∃ pos,pos=(U.textOf (xs.take k)).length:=⟨_,rfl⟩
  rw [<- hps] at hsep;have Qz:=bx hps;have hit:wr.heap[it]?=some (.stringIter s' pos):=hsep.o.at' 0 rfl;have HIT:=bx hit;clear hps
  by_cases hlt:k<N
  ·obtain⟨z,hzx⟩:∃ z,xs[k]?=some z:=⟨_,List.getElem?_eq_getElem (by rw [HN.o];exact hlt)⟩
   have SN:=mO.o z (List.mem_of_getElem? hzx);obtain⟨r,rfl,hrz⟩:=yw SN;obtain⟨hd1,hd2⟩:=amx hzx;rw [HST.o,<- Qz.o] at hd1;have mF:=bx hd2;have hel:=U.KC (r:Int);have hpl:pos+(U.enc (r:Int)).length<=s'.size:=by
    have h9:=congrArg List.length hd1;rw [List.length_drop,List.length_append,<- size_eq] at h9;omega
   have HML:=bx (show pos<s'.size/\1<=(U.enc (r:Int)).length/\pos+(U.enc (r:Int)).length<=s'.size from⟨by omega,hel.1,hpl⟩);have hnx:=λty=>Lib.run_next_any_at (P:=Tryz.prog) wr it s' pos ty hit (by omega)
   rw [anH s' pos r _ SN hd1] at hnx;simp only at hnx;have Qb:=bx (show jJ t.p (xs.take (k+1))=jJ t.p (xs.take k)++[F.says t.p (r:Int)] by unfold jJ;rw [List.take_add_one,hzx,List.map_append];rfl);have jr:=bx (show (jJ t.p (xs.take k)).length<=1000000000 by unfold jJ;rw [List.length_map,List.length_take];omega);obtain⟨w6,hw6⟩:∃ w6,w6=wr.iterAt it s' (pos+(U.enc (r:Int)).length):=⟨_,rfl⟩
   rw [<- hw6] at hnx;have bH:=bx (show Sep (wS w.heap.size pg w2.heap.size it tn pi pb rv nv fv s' (pos+(U.enc (r:Int)).length) u9 (jJ t.p (xs.take k)) t.p w) w6 by
    rw [hw6];exact Sep.upd (ps:=wS w.heap.size pg w2.heap.size it tn pi pb rv nv fv s' pos u9 (jJ t.p (xs.take k)) t.p w) (own:=λq=>q=it) 0 hsep.o rfl (amJ wr it s' _) (λ_ h _=>h) (p':=Pc.obj it (.stringIter s' (pos+(U.enc (r:Int)).length))) (Lib.iterAt_heap wr it s' pos _ hit) (λ_ h=>.inl h))
   obtain⟨es,clk,hm,hik,hes⟩:xJ w6 w2.heap.size t.p:=bH.o.at' 3 rfl;have hlk:=aiQ Tryz.underlying209 Tryz.underlying21 w6 es clk (r:Int) w2.heap.size hm hik _ (ad8 w6);obtain⟨y,hy⟩:∃ y,y=F.says t.p (r:Int):=⟨_,rfl⟩
   rw [<- hy] at Qb;have HY:=bx hy;generalize jJ t.p (xs.take k)=acc at hsep bH Qb jr;clear hit hd1 hd2 SN hzx hw6 hpl hel
   cases hq:Bl es (r:Int) with
   | some v =>
    rw [hq,Option.getD_some,Option.isSome_some,hes _ v hq,<- hy] at hlk;clear hq hes hik hm hy;obtain⟨w9,yj⟩:∃ w9,w9=w6:=⟨_,rfl⟩
    have fE:=bx (show Sep (wS w.heap.size pg w2.heap.size it tn pi pb rv nv fv s' (pos+(U.enc (r:Int)).length) u9 acc t.p w) w9 by rw [yj];exact bH.o);rw [<- yj] at hnx hlk;clear yj;have MX:=bx (show pos+(U.enc (r:Int)).length=(U.textOf (xs.take (k+1))).length by rw [mF.o,List.length_append,<- Qz.o]);rw [MX.o] at fE;have hbs:w.heap.size<=w9.heap.size:=(fE.o.bel (n:=w.heap.size) (W0:=w) (by simp [wS])).size;have p7:w9.cell? ⟨pg,7,none⟩=some u9:=((fE.o.blk 2 rfl).cell 7).trans rfl;have pl:=(fE.o.blk 2 rfl).lt;go_wp2_with (at_builtin;refine lI (u:=.int .i64 y) rfl _ _ 23 rfl mQ fE.o 1 rfl rfl rfl rfl jr.o (by omega) hbs ?_;rintro v7 w8 dW ⟨Fj,FN,rfl,-,-⟩;have dS:=bx dW;have p8:w8.cell? ⟨pg,7,none⟩=some u9:=((dW.blk 2 rfl).cell 7).trans rfl;have f8:=(dW.blk 2 rfl).frozen 7;have l8:=(dW.blk 2 rfl).lt;clear dW p7 pl hbs)
    have gU:=bx (aaq dS.o Qb.o);clear p8 f8 l8
    go_roundw
    case rel=>exact⟨k+1,by omega,_,gU⟩
    case measure =>
     have h1:=gU.o.at' 0 rfl;have h2:=HIT.o;have h3:=HML.o;simp only [World.iterPos];rw [show _=some (Obj.stringIter s' (U.textOf (xs.take (k+1))).length) from h1,h2];simp only;rw [MX.o.symm];omega
   | none =>
    rw [hq,Option.getD_none,Option.isSome_none] at hlk;have VI:=bx hes;obtain⟨g,off,cap,n',g2,off2,cap2,g3,qU,cap3,hi,a2,a3,a4,a5,a6,hb,b2,b3,b4,b5,c2,c3,c4,c5⟩:=Uo.o r hrz;rw [<- hy] at c5;have hbw:=bH.o.bel (n:=w.heap.size) (W0:=w) (by simp [wS]);have p1:w6.cell? ⟨pg,1,none⟩=some (.slice (some ⟨g,off,none⟩) 4352 cap):=((bH.o.blk 2 rfl).cell 1).trans (by rw [hi];rfl);have p2:w6.cell? ⟨pg,2,none⟩=some (.slice (some ⟨g2,off2,none⟩) t.p.2.length cap2):=((bH.o.blk 2 rfl).cell 2).trans (by rw [hb];rfl);have pl0:=(bH.o.blk 2 rfl).lt;obtain⟨d,hd⟩:∃ d,r / 256=d:=⟨_,rfl⟩
    obtain⟨q,UG⟩:∃ q,r % 256=q:=⟨_,rfl⟩
    have hd1:d<4352:=by omega
    have hq1:q<256:=by omega
    rw [hd] at a5;rw [UG] at c5;have d1:w6.cell? ⟨g,off+d,none⟩=some (.int .i64 (n':Nat)):=(hbw.cell (p:=⟨g,off+d,none⟩) a4).trans a5;have d2:w6.cell? ⟨g2,off2+n',none⟩=some (.slice (some ⟨g3,qU,none⟩) 256 cap3):=(hbw.cell (p:=⟨g2,off2+n',none⟩) b4).trans b5;have d3:w6.cell? ⟨g3,qU+q,none⟩=some (.int .i64 y):=(hbw.cell (p:=⟨g3,qU+q,none⟩) c4).trans c5;obtain⟨M,hM⟩:∃ M,M=t.p.2.length:=⟨_,rfl⟩
    rw [<- hM] at p2 a6 b2;have td:(r:Int).tdiv 256=(d:Int):=by rw [<- hd];rfl
    have tm:(r:Int).tmod 256=(q:Int):=by rw [<- UG];rfl
    have wd:IntKind.i64.wrap (d:Int)=(d:Int):=by rw [IntKind.wrap_i64];omega
    have wq:IntKind.i64.wrap (q:Int)=(q:Int):=by rw [IntKind.wrap_i64];omega
    have wr9:IntKind.i64.wrap (r:Int)=(r:Int):=by rw [IntKind.wrap_i64];omega
    have di:(d:Int)<4352:=by omega
    have qi:(q:Int)<256:=by omega
    have ni:(n':Int)<(M:Int):=by omega
    have HM:=bx hm;have Wh:=bx hik;clear hes hik hm hy a4 a5 b4 b5 c4 c5 hd hq UG hi hb hbw hM;go_wp2_with fail
    go_quiet (fail)
    obtain⟨es',wU,hu,hik',hes'⟩:=am9 Tryz.underlying209 Tryz.underlying21 (w6.drewN nq) es clk (r:Int) (.int .i64 y) w2.heap.size HM.o Wh.o;have hkn:xJ ((w6.drewN nq).putObj w2.heap.size (.map es' wU)) w2.heap.size t.p:=⟨es',wU,World.putObj_heap_same (Kz (w:=w6.drewN nq) HM.o),hik',λq v hq=>by
     rw [hes'] at hq
     split at hq
     ·rename_i e;subst e;injection hq with hq;rw [<- hq,HY.o]
     ·exact VI.o q v hq⟩
    have fE:=bx (Sep.upd (ps:=wS w.heap.size pg w2.heap.size it tn pi pb rv nv fv s' (pos+(U.enc (r:Int)).length) u9 acc t.p w) (own:=λq=>q=w2.heap.size) 3 (bH.o.drewN nq) rfl (Turns.putObj (own:=λq=>q=w2.heap.size) _ rfl _) (λ_ h _=>h) (p':=Pc.J9 w2.heap.size t.p) hkn (λ_ h=>.inl h));have fE:=bx (show Sep (wS w.heap.size pg w2.heap.size it tn pi pb rv nv fv s' (pos+(U.enc (r:Int)).length) u9 acc t.p w) ((w6.drewN nq).putObj w2.heap.size (.map es' wU)) from fE.o);obtain⟨w9,yj⟩:∃ w9,w9=(w6.drewN nq).putObj w2.heap.size (.map es' wU):=⟨_,rfl⟩
    rw [<- yj] at fE hu;clear yj hkn hik' hes' hnx hlk p1 p2 pl0 d1 d2 d3 td tm wd wq wr9 di qi ni;have MX:=bx (show pos+(U.enc (r:Int)).length=(U.textOf (xs.take (k+1))).length by rw [mF.o,List.length_append,<- Qz.o]);rw [MX.o] at fE;have hbs:w.heap.size<=w9.heap.size:=(fE.o.bel (n:=w.heap.size) (W0:=w) (by simp [wS])).size;have p7:w9.cell? ⟨pg,7,none⟩=some u9:=((fE.o.blk 2 rfl).cell 7).trans rfl;have pl:=(fE.o.blk 2 rfl).lt;go_wp2_with (at_builtin;refine lI (u:=.int .i64 y) rfl _ _ 23 rfl mQ fE.o 1 rfl rfl rfl rfl jr.o (by omega) hbs ?_;rintro v7 w8 dW ⟨Fj,FN,rfl,-,-⟩;have dS:=bx dW;have p8:w8.cell? ⟨pg,7,none⟩=some u9:=((dW.blk 2 rfl).cell 7).trans rfl;have f8:=(dW.blk 2 rfl).frozen 7;have l8:=(dW.blk 2 rfl).lt;clear dW p7 pl hbs)
    have gU:=bx (aaq dS.o Qb.o);clear p8 f8 l8
    go_roundw
    case rel=>exact⟨k+1,by omega,_,gU⟩
    case measure =>
     have h1:=gU.o.at' 0 rfl;have h2:=HIT.o;have h3:=HML.o;simp only [World.iterPos];rw [show _=some (Obj.stringIter s' (U.textOf (xs.take (k+1))).length) from h1,h2];simp only;rw [MX.o.symm];omega
  ·obtain rfl:k=N:=by omega
   have hpe:¬ pos<s'.size:=by
    have h9:=Qz.o;rw [List.take_of_length_le (by rw [HN.o];exact Nat.le_refl _),HST.o,<- size_eq] at h9;omega
   have hnx:=λty=>Lib.run_next_end_at (P:=Tryz.prog) wr it s' pos ty hit hpe
   have hsp:=hsep.o;rw [List.take_of_length_le (by rw [HN.o];exact Nat.le_refl _)] at hsp;have HI:=bx (ay.dL (hsp.row 1 rfl) rfl);have dR:=bx (hsp.blk 2 rfl);have dJ:=bx (hsp.bel (n:=w.heap.size) (W0:=w) (by simp [wS]));clear hit hpe hsp;go_wp2_with fail;rw [yN];go_ret2
   exact⟨pi,pb,rv,nv,fv,pg,u9,rfl,rfl,dR.o,HI.o,dJ.o⟩
end
end Go.Proofs.YtlmdjifffmofeaaGreatDoor
