/- Texts of this claim. -/
import Derived.Test.YtlmdjifffmofeaaGreatDoorH18
import Derived.Test.YtlmdjifffmofeaaGreatDoorHXTitleTexts3

set_option maxRecDepth 100000
set_option maxHeartbeats 16000000
namespace Go.Proofs.YtlmdjifffmofeaaGreatDoor
section
open Go.RowKit Go.Shelf
attribute [local go_sem] Oper.semAt_some
theorem acA (n:Nat) (w:World) (hn:n<=40) :
  Calls Tryz.prog 144 #[.int .i64 n] w λe w'=>e = .returned (.int .i64 ((2 ^ n:Nat):Int))/\w=w':=by
 go_enter Tryz.func144,Tryz.ntmps144
 go_wp2
 go_loop [4,3] (λi o=>∃ (k:Nat) (x:Int),k<=n/\i = .int .i64 k/\o = .int .i64 x/\0<=x/\x<=1099511627776/\Box (x=2 ^ k)) (λi _=>n-(intOf i).toNat)
 case atStart=>exact⟨0,1,by omega,rfl,rfl,by omega,by omega,⟨rfl⟩⟩
 case round =>
  obtain⟨k,x,hk,rfl,rfl,hx0,hx1,hx⟩:=hrel
  by_cases hlt:k<n
  ·have h2:=QD (k+1) (by omega);have HX:=bx (show 2*x=2 ^ (k+1) by rw [hx.o,Int.pow_succ];omega);have HY:=bx (show 2*x<=1099511627776 by rw [HX.o];exact h2);clear h2
   go_wp2
   go_round
   case rel=>exact⟨k+1,2*x,hlt,by go_num,rfl,by omega,HY.o,HX⟩
   case measure=>simp [intOf];omega
  ·obtain rfl:k=n:=by omega
   go_wp2
   go_ret
   exact⟨by rw [hx.o];simp,rfl⟩
theorem amK (rv:Value) (R:List D.Rule) (mv:Value) (M:D.dF) (n:Int) (w:World) (hR:dP w rv R) (hf:∀ x∈R,pz x) (vV:R.length<=16777216) (hM:nT w mv M) (qX:qZ M) :
  Calls Tryz.prog 142 #[rv,mv, .int .i64 n] w λe w'=>e = .returned (.bool (oD R M n))/\Below w.heap.size w w':=by
 have vZ:=bx (λW (h:Below w.heap.size w W)=>aaR rv R n W hf (hR.below h) vV);have Lm:=bx (λW (h:Below w.heap.size w W)=>aap mv M n W (hM.below h) qX);obtain⟨ro,rc,rfl⟩:=hR.slice;obtain⟨nv,fv,rfl,hra,hia⟩:=hM;obtain⟨na,nc,rfl⟩:=hra.slice;have F7:=bx hia;obtain⟨fo,fc,rfl⟩:=hia.slice;obtain⟨w2,hw2⟩:∃ w2,w2=w.alloc (.cells #[.slice na M.1.length nc, .slice fo M.2.length fc] 44):=⟨_,rfl⟩
 have HW2:=bx hw2;have hb2:Below w.heap.size w w2:=by rw [hw2];exact aS _ _
 have HB2:=bx hb2;have gV:=bx (show ak w2 w.heap.size 44 #[.slice na M.1.length nc, .slice fo M.2.length fc] by rw [hw2];exact ak.new w _ _);clear hra hia hR hf qX hw2 hb2
 cases hr:qP n R with
 | false =>
  have HR:=bx hr;have HA:=bx (show oD R M n=false by unfold oD;rw [hr];rfl);clear hr
  go_enter Tryz.func142,Tryz.ntmps142
  go_upto_region 1 with(fail)
  rw [<- HW2.o];go_wp2_with fail;refine(vZ.o _ HB2.o).mono ?_;rintro e w3 ⟨rfl,hb3⟩;rw [HR.o];have HB3:=bx (bt HB2.o hb3);clear hb3;go_wp2_with fail;go_ret
  exact⟨by rw [HA.o];rfl,HB3.o⟩
 | true =>
  have HR:=bx hr;have FI:=(KE hr).2.2.1
  cases hm:jB n M with
  | false =>
   have HM:=bx hm;have HA:=bx (show oD R M n=false by unfold oD;rw [hm];simp);clear hr hm FI
   go_enter Tryz.func142,Tryz.ntmps142
   go_upto_region 1 with(fail)
   rw [<- HW2.o];go_wp2_with fail;refine(vZ.o _ HB2.o).mono ?_;rintro e w3 ⟨rfl,hb3⟩;rw [HR.o];have HB3:=bx (bt HB2.o hb3);have hba:=gV.o.below hb3 gV.o.lt;have c0:w3.cell? ⟨w.heap.size,0,none⟩=some (.slice na M.1.length nc):=(hba.cell 0).trans rfl;have c1:w3.cell? ⟨w.heap.size,1,none⟩=some (.slice fo M.2.length fc):=(hba.cell 1).trans rfl;have l0:=hba.lt;clear hb3 hba;go_wp2_with fail;refine(Lm.o _ HB3.o).mono ?_;rintro e w4 ⟨rfl,hb4⟩;rw [HM.o];have HB4:=bx (bt HB3.o hb4);clear hb4 c0 c1 l0;go_wp2_with fail;go_ret
   exact⟨by rw [HA.o];rfl,HB4.o⟩
  | true =>
   have HM:=bx hm;have HA:=bx (show oD R M n=M.2.all (inB R.length) by unfold oD;rw [hr,hm];rfl);have HF:=bx (MN hm);obtain⟨-,-,-,ak3,hmm⟩:=Bq hm;have hfl:M.2.length<=300:=by omega
   clear hr hm ak3 hmm
   go_enter Tryz.func142,Tryz.ntmps142
   go_upto_region 1 with(fail)
   rw [<- HW2.o];go_wp2_with fail;refine(vZ.o _ HB2.o).mono ?_;rintro e w3 ⟨rfl,hb3⟩;rw [HR.o];have HB3:=bx (bt HB2.o hb3);have LD:=bx (gV.o.below hb3 gV.o.lt);have c0:w3.cell? ⟨w.heap.size,0,none⟩=some (.slice na M.1.length nc):=(LD.o.cell 0).trans rfl;have c1:w3.cell? ⟨w.heap.size,1,none⟩=some (.slice fo M.2.length fc):=(LD.o.cell 1).trans rfl;have l0:=LD.o.lt;clear hb3;go_wp2_with fail;refine(Lm.o _ HB3.o).mono ?_;rintro e w4 ⟨rfl,hb4⟩;rw [HM.o];have HB4:=bx (bt HB3.o hb4);have ac0:=bx (LD.o.below hb4 LD.o.lt);clear hb4 c0 c1 l0;go_wp2_with fail
   go_loopw [7] (λi wr=>∃ k:Nat,k<=M.2.length/\i = .int .i64 k/\Box ((M.2.take k).all (inB R.length)=true)/\Box (Below w4.heap.size w4 wr)) (λi _=>M.2.length-(intOf i).toNat)
   case atStart=>exact⟨0,by omega,rfl,⟨rfl⟩,⟨Below.refl _ _⟩⟩
   case round =>
    obtain⟨k,hk,rfl,hall,hb⟩:=hrel;have hbr:=ac0.o.below hb.o ac0.o.lt;have c1:wr.cell? ⟨w.heap.size,1,none⟩=some (.slice fo M.2.length fc):=(hbr.cell 1).trans rfl;have l0:=hbr.lt;have HDR:=bx (λm=>HB4.o.trans ((hb.o.trans ((jG wr m).mono hb.o.size)).mono HB4.o.size));have amb:=bx (λm=>hb.o.trans ((jG wr m).mono hb.o.size))
    by_cases hlt:k<M.2.length
    ·obtain⟨x,hx⟩:∃ x,M.2[k]?=some x:=⟨_,List.getElem?_eq_getElem hlt⟩
     obtain⟨g,off,cap2,hg1,hg2,hg3,hg4,hg5⟩:=(F7.o.below (bt HB4.o hb.o)).get (by rintro e;rw [e] at hlt;simp at hlt);obtain⟨rfl,rfl⟩:fo=some ⟨g,off,none⟩/\fc=cap2:=by injection hg1 with h1 h2 h3;exact⟨h1,h3⟩
     have hcx:=hg5 k x hx;have gI:=bx (show (M.2.take (k+1)).all (inB R.length)=inB R.length x by
      rw [List.take_add_one,hx,List.all_append,hall.o];simp)
     have jS:=bx (show inB R.length x=false->M.2.all (inB R.length)=false from λh=>by
      rw [Bool.eq_false_iff];intro ha;rw [List.all_eq_true] at ha;rw [ha x (List.mem_of_getElem? hx)] at h
      cases h)
     have HP:=bx (show ((2 ^ R.length:Nat):Int)=2 ^ R.length from by simp);obtain⟨P,hP⟩:∃ P:Nat,P=2 ^ R.length:=⟨_,rfl⟩
     have vY:=bx (λW=>acA R.length W FI);rw [<- hP] at vY;have aZ:=bx (show inB R.length x=decide (x<(P:Int)) by unfold inB;rw [<- HP.o,<- hP]);unfold maxLen at hg3;clear hg1 hg5 hx hP
     rcases Int.lt_or_le x P with hxp | hxp
     ·have HT:=bx (show (M.2.take (k+1)).all (inB R.length)=true by rw [gI.o,aZ.o];exact decide_eq_true hxp);have d0:decide ((P:Int)<=x)=false:=decide_eq_false (by omega);go_wp2_with fail
      go_quiet ((go_at_call 144;exact fV (vY.o _)))
      go_wp2_with fail
      go_roundw
      case rel=>exact⟨k+1,hlt,by go_num,HT,⟨amb.o _⟩⟩
      case measure=>simp [intOf];omega
     ·have HT:=bx (jS.o (by rw [aZ.o];exact decide_eq_false (by omega)));have d0:decide ((P:Int)<=x)=true:=decide_eq_true hxp;go_wp2_with fail
      go_quiet ((go_at_call 144;exact fV (vY.o _)))
      go_wp2_with fail;go_ret
      exact⟨by rw [HA.o,HT.o];rfl,HDR.o _⟩
    ·have HT:=bx (show M.2.all (inB R.length)=true by have:=hall.o;rwa [List.take_of_length_le (by omega)] at this);go_wp2_with fail;go_ret
     exact⟨by rw [HA.o,HT.o];rfl,bt HB4.o hb.o⟩
theorem aj9 (cs:List Int) (hcz:cs.length<=299) (x:N.Item) (t:List N.Item) (hx2:x.2=0\/x.2=1\/x.2=2) (htz:t.length+1<=16777216) (ih:∀ (v cv fv:Value) (F:List Bool) (w:World),bM w v t->ay w cv cs->qQ w fv F->F.length=cs.length+1 ->
  Calls Tryz.prog 207 #[v,cv,fv] w λe w'=>(∃ v',e = .returned v'/\qQ w' v' (N.uD cs t F))/\Below w.heap.size w w')
  (v cv fv:Value) (F:List Bool) (w:World) (hv:bM w v (x::t)) (hc:ay w cv cs) (hF:qQ w fv F) (Ba:F.length=cs.length+1) :
  Calls Tryz.prog 207 #[v,cv,fv] w λe w'=>(∃ v',e = .returned v'/\qQ w' v' (N.uD cs (x::t) F))/\Below w.heap.size w w':=by
 have HC:=bx hc;have MJ:=bx hF;have HIH:=bx ih;obtain⟨co,cc,rfl⟩:=hc.slice;obtain⟨fo,fc,rfl⟩:=hF.slice;have jP:=bx Ba;have sU:=bx (show qQ w (.slice fo (cs.length+1) fc) F by rw [<- jP.o];exact MJ.o);obtain⟨fg,uV,Xm,f1,f2,f3,f4,f5⟩:=MJ.o.get (by intro e;rw [e] at Ba;simp at Ba);obtain⟨rfl,rfl⟩:fo=some ⟨fg,uV,none⟩/\fc=Xm:=by injection f1 with h1 h2 h3;exact⟨h1,h3⟩
 rw [Ba] at f2 ⊢;have BM:=bx f4;have jI:=bx f5;unfold maxLen at f3;clear f1 f4 f5;obtain⟨b,off,cap,rfl,hb1,hb2,hb3,hb4⟩:=hv.get (by simp);obtain⟨hx0,hx1⟩:=hb4 0 x rfl;have HT:=bx (show ∀ i y,t[i]?=some y->w.cell? ⟨b,off+2+i*2,none⟩=some (.int .i64 y.1)/\w.cell? ⟨b,off+2+i*2+1,none⟩=some (.int .i64 y.2) from λi y hy=>by
  have:=hb4 (i+1) y hy;rw [show off+(i+1)*2=off+2+i*2 by omega] at this;exact this)
 rw [Nat.zero_mul,Nat.add_zero] at hx0 hx1;obtain⟨set,how⟩:=x;simp only at hx0 hx1 hx2;rw [List.length_cons] at hb1 ⊢;unfold maxLen at hb2;obtain⟨V1,hV1⟩:∃ V1,V1=w.alloc (.cells #[.int .i64 set, .int .i64 how] 282):=⟨_,rfl⟩
 have dU:=bx hV1;have s1:V1.heap.size=w.heap.size+1:=by rw [hV1];simp
 have hS1:Sep [Pc.blk w.heap.size 282 #[.int .i64 set, .int .i64 how],Pc.old w.heap.size w] V1:=by rw [hV1];exact(Sep.start w).dh _ _
 have hm1:=Sm cs.length hcz V1;obtain⟨V2,hV2⟩:∃ V2,V2=V1.alloc (.cells (lJ (cs.length+1) λ_=>false) 4):=⟨_,rfl⟩
 have s2:V2.heap.size=w.heap.size+1+1:=by rw [hV2];simp [s1]
 have hS2:=hS1.dh 4 (lJ (cs.length+1) λ_=>false);rw [<- hV2,s1] at hS2;rw [<- hV2,s1] at hm1;have hm2:=Sm cs.length hcz V2;obtain⟨V3,lF⟩:∃ V3,V3=V2.alloc (.cells (lJ (cs.length+1) λ_=>false) 4):=⟨_,rfl⟩
 have hS3:=hS2.dh 4 (lJ (cs.length+1) λ_=>false);rw [<- lF,s2] at hS3;rw [<- lF,s2] at hm2;have aU:=bx (show Sep [Pc.blk (w.heap.size+1+1) 4 (qA (set,how) cs F 0),Pc.blk (w.heap.size+1) 4 (outA (set,how) cs F 0),Pc.blk w.heap.size 282 #[.int .i64 set, .int .i64 how],Pc.old w.heap.size w] V3 by
  rw [anL,anV];exact hS3)
 have fD:=bx hm1;have kZ:=bx hm2;clear hV1 hV2 lF hS1 hS2 hS3 hm1 hm2 s1 s2 hc hF ih hv hb4 Ba MJ
 go_enter Tryz.func207,Tryz.ntmps207
 go_upto_region 4 with(fail)
 rw [<- dU.o];have hm1:=fD.o
 go_upto_region 5 with(fail)
 clear hm1;have hm2:=kZ.o
 go_upto_region 6 with(fail)
 clear hm2 fD kZ dU hx0 hx1;go_wp2_with fail;generalize ((t.length:Int)+1==0)=z13
 go_loopw [10] (λi wr=>∃ k:Nat,k<=cs.length+1/\i = .int .i64 k/\Box (Sep [Pc.blk (w.heap.size+1+1) 4 (qA (set,how) cs F k),Pc.blk (w.heap.size+1) 4 (outA (set,how) cs F k),Pc.blk w.heap.size 282 #[.int .i64 set, .int .i64 how],Pc.old w.heap.size w] wr)) (λi _=>cs.length+1-(intOf i).toNat)
 case atStart=>exact⟨0,by omega,rfl,aU⟩
 case round =>
  obtain⟨k,hk,rfl,hsep⟩:=hrel;have aV:=bx (show Below w.heap.size w wr from hsep.o.bel (by simp));have hbi:=hsep.o.blk 2 rfl
  by_cases hlt:k<cs.length+1
  ·obtain⟨f,hf⟩:∃ f,F[k]?=some f:=⟨_,List.getElem?_eq_getElem (by rw [jP.o];exact hlt)⟩
   have aB:=bx (jI.o k f hf);have hcf:=(aV.o.cell (p:=⟨fg,uV+k,none⟩) BM.o).trans aB.o;have au:=bx (show F.getD k false=f by rw [List.getD_eq_getElem?_getD,hf];rfl);have nD:=hsep.o.blk 1 rfl;have qw:=hsep.o.blk 0 rfl;have hco:=(nD.cell k).trans (ajr (by omega));have hlo:=nD.lt;have hfo:=nD.frozen k;have hci:=(hbi.cell 1).trans (show _=some (Value.int .i64 how) from rfl);obtain⟨o,ho⟩:∃ o,(N.jQ (set,how) cs F k).1=o:=⟨_,rfl⟩
   have Zz:=bx (show N.nP (set,how) cs F k=(o||(f&&decide (how≠0))) by unfold N.nP;rw [ho,au.o]);rw [ho] at hco;have hfc:k<fc:=by omega
   have yB:=bx (show ∀ fv,N.nP (set,how) cs F k=fv->Sep [Pc.blk (w.heap.size+1+1) 4 (qA (set,how) cs F k),Pc.blk (w.heap.size+1) 4 (yF (set,how) cs F k),Pc.blk w.heap.size 282 #[.int .i64 set, .int .i64 how],Pc.old w.heap.size w] (wr.setCell ⟨w.heap.size+1,k,none⟩ (.bool fv)) from λfv h=>by
    have h2:=hsep.o.set 1 rfl k (.bool fv);rw [<- h,af2] at h2;rw [<- h];exact h2)
   clear nD qw hf ho hbi;obtain⟨fv,hfv⟩:∃ fv,(o||(f&&decide (how≠0)))=fv:=⟨_,rfl⟩
   rcases (show (o=true/\fv=true)\/(o=false/\f=false/\fv=false)\/(o=false/\f=true/\how≠0/\fv=true)\/(o=false/\f=true/\how=0/\fv=false) by
    rw [<- hfv]
    cases o <;> cases f <;> by_cases h:how=0 <;> simp [h]) with⟨rfl,rfl⟩ | ⟨rfl,rfl,rfl⟩ | ⟨rfl,rfl,hh,rfl⟩ | ⟨rfl,rfl,hh,rfl⟩
   all_goals
    have P5:=bx (Zz.o.trans hfv);have bQ:=bx (yB.o _ (Zz.o.trans hfv));clear hfv yB hsep
    first | (have hne:(how != 0)=true:=bne_iff_ne.2 hh) | (have hne:(how != 0)=false:=bne_eq_false_iff_eq.2 hh) | skip
    first | (have HHB:=bx hh;clear hh) | skip
    go_upto_region 10 with(fail)
    first | clear hne | skip
    clear hco hfo hlo hci hcf
    first | (have ad7:N.nP (set,how) cs F k=true:=P5.o;clear ad7;generalize wr.setCell ⟨w.heap.size+1,k,none⟩ (.bool true)=W1 at bQ ⊢) | generalize wr.setCell ⟨w.heap.size+1,k,none⟩ (.bool false)=W1 at bQ ⊢
    have acH:=bx (show Below w.heap.size w W1 from bQ.o.bel (by simp));have hbi:=bQ.o.blk 2 rfl;have hi0:=(hbi.cell 0).trans (show _=some (Value.int .i64 set) from rfl);have hi1:=(hbi.cell 1).trans (show _=some (Value.int .i64 how) from rfl);have hil:=hbi.lt;clear hbi
    rcases Nat.lt_or_ge k cs.length with hkl | hkl
    rotate_left
    ·have HN:=bx (λm=>show Sep [Pc.blk (w.heap.size+1+1) 4 (qA (set,how) cs F (k+1)),Pc.blk (w.heap.size+1) 4 (outA (set,how) cs F (k+1)),Pc.blk w.heap.size 282 #[.int .i64 set, .int .i64 how],Pc.old w.heap.size w] (W1.drewN m) by
      have h:=bQ.o.drewN m;rw [aaj (.inl hkl),PD (.inl hkl)] at h;exact h)
     have hke:((k:Int)==(cs.length:Int))=true:=by rw [beq_iff_eq];omega
     go_wp2_with fail
     go_quiet (fail)
     go_wp2_with fail
     go_roundw
     case rel=>exact⟨k+1,hlt,by go_num,⟨HN.o _⟩⟩
     case measure=>simp [intOf];omega
    obtain⟨c,hck⟩:∃ c,cs[k]?=some c:=⟨_,List.getElem?_eq_getElem hkl⟩
    obtain⟨cg,yM,KJ,c1,c2,c3,c4,c5⟩:=(HC.o.below acH.o).get (by rintro rfl;simp at hkl);obtain⟨rfl,rfl⟩:co=some ⟨cg,yM,none⟩/\cc=KJ:=by injection c1 with h1 h2 h3;exact⟨h1,h3⟩
    have hcc:=c5 k c hck;have O1:=bx (ahj (x:=(set,how)) (F:=F) hck);have vP:=bx (λW=>G9 set c W);have hke:((k:Int)==(cs.length:Int))=false:=by rw [beq_eq_false_iff_ne];omega
    have aoW:k<cc:=by omega
    unfold maxLen at c3;clear c1 c5 hck
    cases hhas:N.kU set c with
    | false =>
     have zZ:=bx (show N.jQ (set,how) cs F (k+1)=(false,false) by rw [O1.o];simp only;rw [hhas];rfl);have HN:=bx (λm=>show Sep [Pc.blk (w.heap.size+1+1) 4 (qA (set,how) cs F (k+1)),Pc.blk (w.heap.size+1) 4 (outA (set,how) cs F (k+1)),Pc.blk w.heap.size 282 #[.int .i64 set, .int .i64 how],Pc.old w.heap.size w] (W1.drewN m) by
      have h:=bQ.o.drewN m;rw [aaj (.inr (by rw [zZ.o])),PD (.inr (by rw [zZ.o]))] at h;exact h)
     rw [hhas] at vP;clear hhas;go_wp2_with fail
     go_quiet ((go_at_call 210;exact fV (vP.o _)))
     go_wp2_with fail
     go_roundw
     case rel=>exact⟨k+1,hlt,by go_num,⟨HN.o _⟩⟩
     case measure=>simp [intOf];omega
    | true =>
     rw [hhas] at vP;have nD:=bQ.o.blk 1 rfl;have qw:=bQ.o.blk 0 rfl;have hco:=(nD.cell k).trans (ah4 (by omega));rw [P5.o] at hco;have hch:=(qw.cell k).trans (aiC (by omega));have aoP:=(nD.cell (k+1)).trans (ad2 hkl);have aot:=(qw.cell (k+1)).trans (adW hkl);have hlo:=nD.lt;have hlh:=qw.lt;have hfo:=nD.frozen (k+1);have hfh:=qw.frozen (k+1);have hcf:=(acH.o.cell (p:=⟨fg,uV+k,none⟩) BM.o).trans aB.o;clear nD qw
     rcases hx2 with hw | hw | hw
     ·subst hw;have zZ:=bx (show N.jQ (set,0) cs F (k+1)=(F.getD k false,false) by rw [O1.o];simp only;rw [hhas];rfl);have HN:=bx (λm=>show Sep [Pc.blk (w.heap.size+1+1) 4 (qA (set,0) cs F (k+1)),Pc.blk (w.heap.size+1) 4 (outA (set,0) cs F (k+1)),Pc.blk w.heap.size 282 #[.int .i64 set, .int .i64 0],Pc.old w.heap.size w] ((W1.drewN m).setCell ⟨w.heap.size+1,k+1,none⟩ (.bool (F.getD k false))) by
       have h:=(bQ.o.drewN m).set 1 rfl (k+1) (.bool (N.jQ (set,0) cs F (k+1)).1);rw [Tq] at h;rw [PD (.inr (by rw [zZ.o]))] at h;rw [zZ.o] at h;exact h)
      rw [au.o] at HN;clear hhas;go_wp2_with fail
      go_quiet ((go_at_call 210;exact fV (vP.o _)))
      go_wp2_with fail
      go_roundw
      case rel=>exact⟨k+1,hlt,by go_num,⟨HN.o _⟩⟩
      case measure=>simp [intOf];omega
     ·subst hw;have zZ:=bx (show N.jQ (set,1) cs F (k+1)=(N.nP (set,1) cs F k,false) by rw [O1.o];simp only;rw [hhas];rfl);have HN:=bx (λm=>show Sep [Pc.blk (w.heap.size+1+1) 4 (qA (set,1) cs F (k+1)),Pc.blk (w.heap.size+1) 4 (outA (set,1) cs F (k+1)),Pc.blk w.heap.size 282 #[.int .i64 set, .int .i64 1],Pc.old w.heap.size w] ((W1.drewN m).setCell ⟨w.heap.size+1,k+1,none⟩ (.bool (N.nP (set,1) cs F k))) by
       have h:=(bQ.o.drewN m).set 1 rfl (k+1) (.bool (N.jQ (set,1) cs F (k+1)).1);rw [Tq] at h;rw [PD (.inr (by rw [zZ.o]))] at h;rw [zZ.o] at h;exact h)
      rw [P5.o] at HN;clear hhas;go_wp2_with fail
      go_quiet ((go_at_call 210;exact fV (vP.o _)))
      go_wp2_with fail
      go_roundw
      case rel=>exact⟨k+1,hlt,by go_num,⟨HN.o _⟩⟩
      case measure=>simp [intOf];omega
     ·subst hw;obtain⟨hq,Tv⟩:∃ hq,(N.jQ (set,2) cs F k).2=hq:=⟨_,rfl⟩
      have zZ:=bx (show N.jQ (set,2) cs F (k+1)=((N.jQ (set,2) cs F k).2,N.nP (set,2) cs F k) by rw [O1.o];simp only;rw [hhas];rfl);have HN:=bx (λm=>show Sep [Pc.blk (w.heap.size+1+1) 4 (qA (set,2) cs F (k+1)),Pc.blk (w.heap.size+1) 4 (outA (set,2) cs F (k+1)),Pc.blk w.heap.size 282 #[.int .i64 set, .int .i64 2],Pc.old w.heap.size w] (((W1.drewN m).setCell ⟨w.heap.size+1+1,k+1,none⟩ (.bool (N.nP (set,2) cs F k))).setCell ⟨w.heap.size+1,k+1,none⟩ (.bool (N.jQ (set,2) cs F k).2)) by
       have h:=((bQ.o.drewN m).set 0 rfl (k+1) (.bool (N.jQ (set,2) cs F (k+1)).2)).set 1 rfl (k+1) (.bool (N.jQ (set,2) cs F (k+1)).1);rw [Tq,agG] at h;rw [zZ.o] at h;exact h)
      rw [P5.o,Tv] at HN;rw [Tv] at hch;clear Tv;clear hhas;go_wp2_with fail
      go_quiet ((go_at_call 210;exact fV (vP.o _)))
      go_wp2_with fail
      go_roundw
      case rel=>exact⟨k+1,hlt,by go_num,⟨HN.o _⟩⟩
      case measure=>simp [intOf];omega
  ·obtain rfl:k=cs.length+1:=by omega
   have nD:=hsep.o.blk 1 rfl;rw [ae8] at nD;have jf:=bx (show qQ wr (.slice (some ⟨w.heap.size+1,0,none⟩) (cs.length+1) (cs.length+1)) (N.yA (set,how) cs F) by
    have h:=acL nD (by rw [N.P9];omega);rw [N.P9] at h;exact h)
   clear nD hbi;have HIT:=bx (show ∀ o c,(t=[]\/o=off+2)->t.length<=c->c<=cap->bM w (.slice (some ⟨b,o,none⟩) t.length c) t from λo c ho h1 h2 =>
    .inr ⟨b,o,none,c,rfl,h1,by unfold maxLen;omega,λhn=>⟨rfl,hb3,λi y hy=>by
     rcases ho with ho | ho
     ·exact absurd ho hn
     ·rw [ho];exact HT.o i y hy⟩⟩)
   have sN:=bx (show ∀ o c,(t=[]\/o=off+2)->t.length<=c->c<=cap->_ from λo c ho h1 h2=>HIH.o (.slice (some ⟨b,o,none⟩) t.length c) (.slice co cs.length cc) (.slice (some ⟨w.heap.size+1,0,none⟩) (cs.length+1) (cs.length+1)) (N.yA (set,how) cs F) wr ((HIT.o o c ho h1 h2).below aV.o) (HC.o.below aV.o) jf.o (N.P9 _ _ _))
   rcases Nat.eq_zero_or_pos t.length with ht0 | ht0
   ·have ht:t=[]:=List.eq_nil_of_length_eq_zero ht0;subst ht
    rcases Nat.eq_or_lt_of_le (show 1<=cap from hb1) with hcap | hcap
    ·subst hcap;go_wp2_with fail;refine(sN.o off 0 (.inl (by simp)) (Nat.le_refl _) (by omega)).mono ?_;rintro e w5 ⟨⟨v5,rfl,h5⟩,hb5⟩;have H5:=bx h5;have aP:=bx (wI aV.o hb5);clear h5 hb5;go_wp2_with fail;go_ret
     exact⟨⟨_,rfl,H5.o⟩,aP.o⟩
    ·go_wp2_with fail;refine(sN.o (off+2) (cap-1) (.inl (by simp)) (by simp) (by omega)).mono ?_;rintro e w5 ⟨⟨v5,rfl,h5⟩,hb5⟩;have H5:=bx h5;have aP:=bx (wI aV.o hb5);clear h5 hb5;go_wp2_with fail;go_ret
     exact⟨⟨_,rfl,H5.o⟩,aP.o⟩
   ·go_wp2_with fail;refine(sN.o (off+2) (cap-1) (.inr rfl) (by omega) (by omega)).mono ?_;rintro e w5 ⟨⟨v5,rfl,h5⟩,hb5⟩;have H5:=bx h5;have aP:=bx (wI aV.o hb5);clear h5 hb5;go_wp2_with fail;go_ret
    exact⟨⟨_,rfl,H5.o⟩,aP.o⟩
theorem Y9 (cs:List Int) (hcz:cs.length<=299):∀ (t:List N.Item),(∀ x∈t,x.2=0\/x.2=1\/x.2=2)->t.length<=16777216->∀ (v cv fv:Value) (F:List Bool) (w:World),bM w v t->ay w cv cs->qQ w fv F->F.length=cs.length+1 ->
  Calls Tryz.prog 207 #[v,cv,fv] w λe w'=>(∃ v',e = .returned v'/\qQ w' v' (N.uD cs t F))/\Below w.heap.size w w'
 | [],_,_,v,cv,fv,F,w,hv,hc,hF,Ba=>by
  have HF:=bx hF;obtain⟨a,c,rfl⟩:=hv.slice;clear hv hc hF Ba;rw [List.length_nil]
  go_enter Tryz.func207,Tryz.ntmps207
  go_wp2_with fail;go_ret
  exact⟨⟨_,rfl,HF.o⟩,Below.refl _ _⟩
 | x::t,hx,hz,v,cv,fv,F,w,hv,hc,hF,Ba =>
  aj9 cs hcz x t (hx x (List.mem_cons_self ..)) hz (λv cv fv F w=>Y9 cs hcz t (λy hy=>hx y (List.mem_cons_of_mem _ hy)) (by rw [List.length_cons] at hz;omega) v cv fv F w) v cv fv F w hv hc hF Ba
theorem alU (n p:Nat):(lJ n λ_=>false).setIfInBounds p (.bool true)=((N.vF n p).map Value.bool).toArray:=by
 rw [OO];unfold lJ N.vF;rw [List.map_map]
 rfl
theorem agy (st:Bool) (v:Value) (l:List N.Item) (cv:Value) (cs:List Int) (p:Nat) (w:World) (hv:bM w v l) (hh:∀ x∈l,x.2=0\/x.2=1\/x.2=2) (hz:l.length<=16777216) (hc:ay w cv cs) (hcz:cs.length<=299) (hp:p<=cs.length) :
  Calls Tryz.prog 185 #[.agg #[.bool st,v],cv, .int .i64 p] w λe w'=>(∃ v',e = .returned v'/\qQ w' v' (N.uD cs l (N.vF (cs.length+1) p)))/\Below w.heap.size w w':=by
 obtain⟨ao,cap,rfl⟩:=hv.slice;obtain⟨co,cc,rfl⟩:=hc.slice;obtain⟨V1,hV1⟩:∃ V1,V1=w.alloc (.cells #[.bool st, .slice ao l.length cap] 144):=⟨_,rfl⟩
 have s1:V1.heap.size=w.heap.size+1:=by rw [hV1];simp
 have hS1:Sep [Pc.blk w.heap.size 144 #[.bool st, .slice ao l.length cap],Pc.old w.heap.size w] V1:=by rw [hV1];exact(Sep.start w).dh _ _
 have hm:=Sm cs.length hcz V1;obtain⟨V2,hV2⟩:∃ V2,V2=V1.alloc (.cells (lJ (cs.length+1) λ_=>false) 4):=⟨_,rfl⟩
 have hS2:=hS1.dh 4 (lJ (cs.length+1) λ_=>false);rw [<- hV2,s1] at hS2;rw [<- hV2,s1] at hm;have hb:=hS2.blk 0 rfl;have x1:V2.cell? ⟨w.heap.size+1,p,none⟩=some (.bool false):=(hb.cell p).trans (Je _ (by omega));have x2:=hb.frozen p;have x3:=hb.lt;have hk:=hS2.blk 1 rfl;have y1:V2.cell? ⟨w.heap.size,1,none⟩=some (.slice ao l.length cap):=(hk.cell 1).trans rfl;have y2:=hk.lt;have hS3:=hS2.set 0 rfl p (.bool true);rw [alU] at hS3;have HB3:=bx (show Below w.heap.size w (V2.setCell ⟨w.heap.size+1,p,none⟩ (.bool true)) from hS3.bel (by simp));have HO:=bx (show qQ (V2.setCell ⟨w.heap.size+1,p,none⟩ (.bool true)) (.slice (some ⟨w.heap.size+1,0,none⟩) (cs.length+1) (cs.length+1)) (N.vF (cs.length+1) p) by
  have h:=acL (hS3.blk 0 rfl) (by rw [N.LZ];omega)
  rwa [N.LZ] at h)
 have y3:(V2.setCell ⟨w.heap.size+1,p,none⟩ (.bool true)).cell? ⟨w.heap.size,1,none⟩=some (.slice ao l.length cap):=((hS3.blk 1 rfl).cell 1).trans rfl;have y4:=(hS3.blk 1 rfl).lt;obtain⟨V3,lF⟩:∃ V3,V3=V2.setCell ⟨w.heap.size+1,p,none⟩ (.bool true):=⟨_,rfl⟩
 rw [<- lF] at HB3 HO y3 y4;have HR:=bx (Y9 cs hcz l hh hz (.slice ao l.length cap) (.slice co cs.length cc) _ (N.vF (cs.length+1) p) V3 (hv.below HB3.o) (hc.below HB3.o) HO.o (N.LZ _ _));have dU:=bx hV1;have HM:=bx hm;have nU:=bx lF;clear hv hc hV1 hV2 hm hb hk hS1 hS2 hS3 s1 lF
 go_enter Tryz.func185,Tryz.ntmps185
 go_upto_region 1 with(fail)
 rw [<- dU.o];have hm:=HM.o
 go_upto_region 2 with(fail)
 clear hm;go_wp2_with fail;rw [<- nU.o];clear x1 x2 x3 y1 y2;go_wp2_with fail;refine HR.o.mono ?_;rintro e w4 ⟨⟨v',rfl,h4⟩,hb4⟩;have H4:=bx h4;have HB4:=bx (wI HB3.o hb4);clear h4 hb4;go_wp2_with fail;go_ret
 exact⟨⟨_,rfl,H4.o⟩,HB4.o⟩
theorem aia (st:Bool) (v:Value) (l:List N.Item) (cv:Value) (cs:List Int) (p:Int) (w:World) (hv:bM w v l) (hz:l.length<=16777216) (hc:ay w cv cs) (hcz:cs.length<=299) :
  Calls Tryz.prog 145 #[.agg #[.bool st,v],cv, .int .i64 p] w λe w'=>e = .returned (.bool (wF st l cs p))/\Below w.heap.size w w':=by
 obtain⟨W,hW⟩:∃ W,W=w.alloc (.cells #[.bool st,v] 144):=⟨_,rfl⟩
 have hbW:Below w.heap.size w W:=by rw [hW];exact Gf _ _
 have hbk:ak W w.heap.size 144 #[.bool st,v]:=by rw [hW];exact ak.new _ _ _
 have HP:=bx (LW st v l W (hv.below hbW) hz);have HV:=bx (hv.below hbW);have HC:=bx (hc.below hbW);have dR:=bx hbk;have aJ:=bx hbW;obtain⟨ao,cap,rfl⟩:=hc.slice;have c0:W.cell? ⟨w.heap.size,0,none⟩=some (.bool st):=(hbk.cell 0).trans rfl;have c1:W.cell? ⟨w.heap.size,1,none⟩=some v:=(hbk.cell 1).trans rfl;have HW:=bx hW;clear hv hc hbk hbW hW
 go_enter Tryz.func145,Tryz.ntmps145
 go_upto_region 1 with(fail)
 rw [<- HW.o]
 cases hr:iO l with
 | false =>
  have HR:=bx (show wF st l cs p=false by unfold wF;rw [hr];rfl);have HRR:=bx hr;clear hr;go_wp2_with fail;refine HP.o.mono ?_;rintro e w1 ⟨rfl,hb1⟩;rw [HRR.o];have HB1:=bx hb1;clear hb1;go_wp2_with fail;go_ret
  exact⟨aI HR.o.symm,bt aJ.o HB1.o⟩
 | true =>
  have HRR:=bx hr;clear hr
  rcases Int.lt_or_le p 0 with h0 | h0
  ·have HR:=bx (show wF st l cs p=false by unfold wF;rw [decide_eq_false (by omega:¬ 0<=p),Bool.and_false];rfl);go_wp2_with fail;refine HP.o.mono ?_;rintro e w1 ⟨rfl,hb1⟩;rw [HRR.o];have HB1:=bx hb1;clear hb1;go_wp2_with fail;go_ret
   exact⟨aI HR.o.symm,bt aJ.o HB1.o⟩
  rcases Int.lt_or_le cs.length p with h1 | h1
  ·have HR:=bx (show wF st l cs p=false by unfold wF;rw [decide_eq_false (by omega:¬ p<=cs.length),Bool.and_false];rfl);go_wp2_with fail;refine HP.o.mono ?_;rintro e w1 ⟨rfl,hb1⟩;rw [HRR.o];have HB1:=bx hb1;clear hb1;go_wp2_with fail;go_ret
   exact⟨aI HR.o.symm,bt aJ.o HB1.o⟩
  obtain⟨q,rfl⟩:=Int.eq_ofNat_of_zero_le h0;have hq:q<=cs.length:=by omega
  go_wp2_with fail;refine HP.o.mono ?_;rintro e w1 ⟨rfl,hb1⟩;rw [HRR.o];have hbk1:=dR.o.below hb1 dR.o.lt;have d0:w1.cell? ⟨w.heap.size,0,none⟩=some (.bool st):=(hbk1.cell 0).trans rfl;have d1:w1.cell? ⟨w.heap.size,1,none⟩=some v:=(hbk1.cell 1).trans rfl;have hl1:=hbk1.lt;have HB1:=bx (bt aJ.o hb1);have dU:=bx (HV.o.below hb1);have nV:=bx (HC.o.below hb1);clear hb1 hbk1 c0 c1
  by_cases hs:st=true/\0<q
  ·obtain⟨hs1,hs2⟩:=hs;have HR:=bx (show wF st l cs (q:Int)=false by unfold wF;rw [hs1,decide_eq_true (by omega:(0:Int)<(q:Int))];simp);rw [hs1] at d0;clear hs1;go_wp2_with fail;go_ret
   exact⟨aI HR.o.symm,HB1.o⟩
  ·have Tc:=bx (Ub HRR.o);have qB:=bx (Xt HRR.o);have aiL:=AP HRR.o;obtain⟨X,hX⟩:∃ X,N.uD cs l (N.vF (cs.length+1) q)=X:=⟨_,rfl⟩
   have HX:=bx hX;have zU:=bx (show X.length=cs.length+1 by rw [<- hX];exact N.WQ (N.LZ _ _));have qH:=bx (show ∀ i,i<=cs.length->X.getD i false=true->q<=i from λi hi h=>by
    rw [<- hX] at h;have hr:=N.Ro (l:=l) (cs:=cs) qB.o hq l.length (Nat.le_refl _) i hi;rw [List.take_length] at hr;exact(hr.1 h).le)
   have HR:=bx (show wF st l cs (q:Int)=X.any id by
    unfold wF;rw [HRR.o,decide_eq_true h0,decide_eq_true h1,Int.toNat_natCast,hX]
    rcases Bool.eq_false_or_eq_true st with e | e
    ·have:q=0:=by
      rcases Nat.eq_zero_or_pos q with h | h
      ·exact h
      ·exact absurd ⟨e,h⟩ hs
     subst this;rw [e];simp
    ·rw [e];simp)
   have zk:=bx (agy st v l (.slice ao cs.length cap) cs q w1 dU.o Tc.o hz nV.o hcz hq);clear hX
   rcases Bool.eq_false_or_eq_true st with e | e
   ·have hq0:q=0:=by
     rcases Nat.eq_zero_or_pos q with h | h
     ·exact h
     ·exact absurd ⟨e,h⟩ hs
    rw [e] at d0 zk;subst hq0;clear e hs hq h0 h1;go_wp2_with fail;refine zk.o.mono ?_;rintro e w3 ⟨⟨xv,rfl,hi⟩,hb3⟩;rw [HX.o] at hi;have HI:=bx hi;have HB3:=bx (bt HB1.o hb3);obtain⟨xo,xc,rfl⟩:=hi.slice;rw [zU.o] at HI ⊢;clear hi hb3 d0 d1 hl1;go_wp2_with fail
    go_loopw [8] (λi wr=>∃ k:Nat,0<=k/\k<=cs.length+1/\i = .int .i64 k/\Box (∀ j,0<=j->j<k->X.getD j false=false)/\Box (Below w3.heap.size w3 wr)) (λi _=>cs.length+1-(intOf i).toNat)
    case atStart=>exact⟨0,Nat.le_refl _,by omega,rfl,⟨λj h1 h2=>by omega⟩,⟨Below.refl _ _⟩⟩
    case round =>
     obtain⟨k,hqk,hk,rfl,hno,hb⟩:=hrel
     by_cases hlt:k<=cs.length
     ·obtain⟨f,hf⟩:∃ f,X[k]?=some f:=⟨_,List.getElem?_eq_getElem (by rw [zU.o];omega)⟩
      obtain⟨g,off,cap2,hg1,hg2,hg3,hg4,hg5⟩:=(HI.o.below hb.o).get (by intro e;have:=zU.o;rw [e] at this;simp at this);rw [zU.o] at hg1 hg2;obtain⟨rfl,rfl⟩:xo=some ⟨g,off,none⟩/\xc=cap2:=by injection hg1 with h1 h2 h3;exact⟨h1,h3⟩
      have hcf:=hg5 k f hf;have au:=bx (show X.getD k false=f by rw [List.getD_eq_getElem?_getD,hf];rfl);have Ib:=bx (show f=true->X.any id=true from λh=>List.any_eq_true.2 ⟨f,List.mem_of_getElem? hf,h⟩);have bK:=bx hb.o.size;unfold maxLen at hg3;clear hg1 hg4 hg5 hf
      cases f with
      | true =>
       have HT:=bx (Ib.o rfl);go_wp2_with fail;go_ret
       exact⟨aI (HR.o.trans HT.o).symm,bt HB3.o hb.o⟩
      | false =>
       have jS:=bx (show ∀ j,0<=j->j<k+1->X.getD j false=false from λj h1 h2=>by
        rcases Nat.lt_or_ge j k with h | h
        ·exact hno.o j h1 h
        ·obtain rfl:j=k:=by omega
         exact au.o)
       go_wp2_with fail
       go_roundw
       case rel=>exact⟨k+1,by omega,by omega,by go_num,jS,hb⟩
       case measure=>simp [intOf];omega
     ·have HF:=bx (show X.any id=false by
       rw [Bool.eq_false_iff];intro h;obtain⟨b,hb1,hb2⟩:=List.any_eq_true.1 h;obtain⟨i,hi1,hi2⟩:=List.getElem_of_mem hb1;have hxl:=zU.o;have hg:X.getD i false=true:=by rw [List.getD_eq_getElem?_getD,List.getElem?_eq_getElem hi1,hi2];exact hb2
       have:=qH.o i (by omega) hg;rw [hno.o i this (by omega)] at hg;exact absurd hg Bool.false_ne_true)
      go_wp2_with fail;go_ret
      exact⟨aI (HR.o.trans HF.o).symm,bt HB3.o hb.o⟩
   ·rw [e] at d0 zk;clear e hs h0 h1;go_wp2_with fail;refine zk.o.mono ?_;rintro e w3 ⟨⟨xv,rfl,hi⟩,hb3⟩;rw [HX.o] at hi;have HI:=bx hi;have HB3:=bx (bt HB1.o hb3);obtain⟨xo,xc,rfl⟩:=hi.slice;rw [zU.o] at HI ⊢;clear hi hb3 d0 d1 hl1;go_wp2_with fail
    go_loopw [8] (λi wr=>∃ k:Nat,q<=k/\k<=cs.length+1/\i = .int .i64 k/\Box (∀ j,q<=j->j<k->X.getD j false=false)/\Box (Below w3.heap.size w3 wr)) (λi _=>cs.length+1-(intOf i).toNat)
    case atStart=>exact⟨q,Nat.le_refl _,by omega,rfl,⟨λj h1 h2=>by omega⟩,⟨Below.refl _ _⟩⟩
    case round =>
     obtain⟨k,hqk,hk,rfl,hno,hb⟩:=hrel
     by_cases hlt:k<=cs.length
     ·obtain⟨f,hf⟩:∃ f,X[k]?=some f:=⟨_,List.getElem?_eq_getElem (by rw [zU.o];omega)⟩
      obtain⟨g,off,cap2,hg1,hg2,hg3,hg4,hg5⟩:=(HI.o.below hb.o).get (by intro e;have:=zU.o;rw [e] at this;simp at this);rw [zU.o] at hg1 hg2;obtain⟨rfl,rfl⟩:xo=some ⟨g,off,none⟩/\xc=cap2:=by injection hg1 with h1 h2 h3;exact⟨h1,h3⟩
      have hcf:=hg5 k f hf;have au:=bx (show X.getD k false=f by rw [List.getD_eq_getElem?_getD,hf];rfl);have Ib:=bx (show f=true->X.any id=true from λh=>List.any_eq_true.2 ⟨f,List.mem_of_getElem? hf,h⟩);have bK:=bx hb.o.size;unfold maxLen at hg3;clear hg1 hg4 hg5 hf
      cases f with
      | true =>
       have HT:=bx (Ib.o rfl);go_wp2_with fail;go_ret
       exact⟨aI (HR.o.trans HT.o).symm,bt HB3.o hb.o⟩
      | false =>
       have jS:=bx (show ∀ j,q<=j->j<k+1->X.getD j false=false from λj h1 h2=>by
        rcases Nat.lt_or_ge j k with h | h
        ·exact hno.o j h1 h
        ·obtain rfl:j=k:=by omega
         exact au.o)
       go_wp2_with fail
       go_roundw
       case rel=>exact⟨k+1,by omega,by omega,by go_num,jS,hb⟩
       case measure=>simp [intOf];omega
     ·have HF:=bx (show X.any id=false by
       rw [Bool.eq_false_iff];intro h;obtain⟨b,hb1,hb2⟩:=List.any_eq_true.1 h;obtain⟨i,hi1,hi2⟩:=List.getElem_of_mem hb1;have hxl:=zU.o;have hg:X.getD i false=true:=by rw [List.getD_eq_getElem?_getD,List.getElem?_eq_getElem hi1,hi2];exact hb2
       have:=qH.o i (by omega) hg;rw [hno.o i this (by omega)] at hg;exact absurd hg Bool.false_ne_true)
      go_wp2_with fail;go_ret
      exact⟨aI (HR.o.trans HF.o).symm,bt HB3.o hb.o⟩
theorem alT {n:Nat} {l:List Int} {q:Nat} {c:Int} (h:l[q]?=some c):(D.cuts n (l.take (q+1)))=D.cuts n (l.take q)++[D.cut n c]:=by
 unfold D.cuts;rw [List.take_add_one,h,List.map_append]
 rfl
def uK (R:List D.Rule) (M:D.dF) (nn:Nat) (L:List Int) (p:Nat):Bool:=decide (p=L.length)||cutAt R M nn L p
def qY (R:List D.Rule) (M:D.dF) (nn:Nat) (L:List Int) (k:Nat):List Int:=(0::((List.range k).map (·+1)).filter (uK R M nn L)).map (λn:Nat=>(n:Int))
theorem UA (R:List D.Rule) (M:D.dF) (nn:Nat) (L:List Int) (k:Nat):qY R M nn L (k+1)=qY R M nn L k++if uK R M nn L (k+1)=true then [((k+1:Nat):Int)] else []:=by
 unfold qY;rw [List.range_succ,List.map_append,List.filter_append,<- List.cons_append,List.map_append]
 congr 1
 cases h:uK R M nn L (k+1) <;> simp [h]
theorem Q9 {R:List D.Rule} {M:D.dF} {nn:Nat} {L:List Int} {p:Nat} (hp:1<=p) (h:true=uK R M nn L p):qY R M nn L (p+1-1)=qY R M nn L (p-1)++[(p:Int)]:=by
 obtain⟨k,rfl⟩:∃ k,p=k+1:=⟨p-1,by omega⟩
 rw [show k+1+1-1=k+1 by omega,show k+1-1=k by omega,UA,if_pos h.symm]
theorem SS {R:List D.Rule} {M:D.dF} {nn:Nat} {L:List Int} {p:Nat} (hp:1<=p) (h:false=uK R M nn L p):qY R M nn L (p+1-1)=qY R M nn L (p-1):=by
 obtain⟨k,rfl⟩:∃ k,p=k+1:=⟨p-1,by omega⟩
 rw [show k+1+1-1=k+1 by omega,show k+1-1=k by omega,UA,<- h];simp
theorem amh (R:List D.Rule) (M:D.dF) (nn:Nat) (L:List Int):qY R M nn L L.length=vS R M nn L:=by
 unfold vS
 rcases Nat.eq_zero_or_pos L.length with h | h
 ·rw [if_neg (by omega),h]
  rfl
 ·obtain⟨m,hm⟩:∃ m,L.length=m+1:=⟨L.length-1,by omega⟩
  rw [if_pos h,hm,UA,if_pos (by unfold uK;simp [hm])]
  congr 1
  unfold qY AB
  congr 2
  refine List.filter_congr λp hp=>?_
  obtain⟨i,hi,rfl⟩:=List.mem_map.1 hp;have:=List.mem_range.1 hi;unfold uK;rw [decide_eq_false (by omega),Bool.false_or]
theorem abV (rv:Value) (R:List D.Rule) (mv:Value) (M:D.dF) (n:Int) (lv:Value) (L:List Int) (w:World) (hR:dP w rv R) (hf:∀ x∈R,pz x) (vV:R.length<=16777216) (hM:nT w mv M) (qX:qZ M) (hL:ay w lv L) (hLz:L.length<=299) :
  Calls Tryz.prog 95 #[rv,mv, .int .i64 n,lv] w (Y7 R M n L w):=by
 have HR:=bx hR;have HM:=bx hM;have HL:=bx hL;have HF:=bx hf;have Dw:=bx qX;obtain⟨ro,rc,rfl⟩:=hR.slice;obtain⟨nv,fv,rfl,hra,hia⟩:=hM;obtain⟨na,nc,rfl⟩:=hra.slice;obtain⟨fo,fc,rfl⟩:=hia.slice;obtain⟨lo,lc,rfl⟩:=hL.slice;obtain⟨w2,hw2⟩:∃ w2,w2=w.alloc (.cells #[.slice na M.1.length nc, .slice fo M.2.length fc] 44):=⟨_,rfl⟩
 have HW2:=bx hw2;have hb2:Below w.heap.size w w2:=by rw [hw2];exact aS _ _
 have HB2:=bx hb2;have gV:=bx (show ak w2 w.heap.size 44 #[.slice na M.1.length nc, .slice fo M.2.length fc] by rw [hw2];exact ak.new w _ _);have HIS:=bx (amK _ R _ M n w2 (hR.below hb2) hf vV (HM.o.below hb2) qX);have c0:w2.cell? ⟨w.heap.size,0,none⟩=some (.slice na M.1.length nc):=(gV.o.cell 0).trans rfl;have c1:w2.cell? ⟨w.heap.size,1,none⟩=some (.slice fo M.2.length fc):=(gV.o.cell 1).trans rfl;have l0:=gV.o.lt;clear hra hia hR hL hw2 hb2 hf qX
 rcases Bool.eq_false_or_eq_true (oD R M n) with hy | hy
 rotate_left
 ·have HA:=bx hy;rw [hy] at HIS;clear hy
  go_enter Tryz.func95,Tryz.ntmps95
  go_upto_region 1 with(fail)
  rw [<- HW2.o];go_wp2_with fail;refine HIS.o.mono ?_;rintro e w3 ⟨rfl,hb3⟩;have HB3:=bx (wI HB2.o hb3);clear hb3;go_wp2_with fail;go_ret2
  exact⟨HB3.o, .inr ⟨HA.o,rfl⟩⟩
 obtain⟨hrb,hmr,hai⟩:=ZO hy;obtain⟨n1,n2,Xf,-⟩:=KE hrb;obtain⟨nn,rfl⟩:=Int.eq_ofNat_of_zero_le (show 0<=n by omega);have Bf:=bx hmr;have QK:=bx (show goCode nn M=0 by unfold goCode;rw [hmr];rfl);have dZ:=bx (MN hmr);have HA:=bx hy;rw [hy] at HIS;clear hy hrb hmr hai
 go_enter Tryz.func95,Tryz.ntmps95
 go_upto_region 1 with(fail)
 rw [<- HW2.o];go_wp2_with fail;refine HIS.o.mono ?_;rintro e w3 ⟨rfl,hb3⟩;have HB3:=bx (wI HB2.o hb3);have hba:=gV.o.below hb3 gV.o.lt;have d0:w3.cell? ⟨w.heap.size,0,none⟩=some (.slice na M.1.length nc):=(hba.cell 0).trans rfl;have d1:w3.cell? ⟨w.heap.size,1,none⟩=some (.slice fo M.2.length fc):=(hba.cell 1).trans rfl;have m0:=hba.lt;have gZ:=bx (afQ _ (.slice lo L.length lc) M nn L w3 (HM.o.below HB3.o) Dw.o (HL.o.below HB3.o) (by omega));clear hb3 hba c0 c1 l0;go_wp2_with fail;refine gZ.o.mono ?_;rintro e w4 ⟨hb4,xv,rfl,hfi⟩;rw [QK.o];rw [Bf.o,if_pos rfl,Int.toNat_natCast] at hfi;obtain⟨X,hX⟩:∃ X,J7 nn M L=X:=⟨_,rfl⟩
 have hfl:X.length=L.length+1:=by rw [<- hX];unfold J7 jD;simp
 have Hl:=bx (show ∀ i,i<=L.length->∃ f:Nat,X[i]?=some (f:Int)/\f<1099511627776/\(vw M (stM nn M L i)).toNat=f from λi hi=>by
  have hb:0<=vw M (stM nn M L i)/\vw M (stM nn M L i)<1099511627776:=by
   unfold vw
   cases hq:M.2[stM nn M L i]? with
   | none=>rw [List.getD_eq_getElem?_getD,hq];simp
   | some y=>rw [List.getD_eq_getElem?_getD,hq];exact dZ.o y (List.mem_of_getElem? hq)
  obtain⟨f,hf⟩:=Int.eq_ofNat_of_zero_le hb.1;refine⟨f,?_,by omega,by rw [hf,Int.toNat_natCast]⟩;rw [<- hX,<- hf];unfold J7 jD;rw [List.getElem?_map,List.getElem?_map,List.getElem?_range (by omega)]
  rfl)
 rw [hX] at hfi;have ZE:=hfi;obtain⟨xo,xc,rfl⟩:=ZE.slice;rw [hfl] at hfi ⊢;have eF:=bx hfi;have jP:=bx hfl;have HB4:=bx (wI HB3.o hb4);have aU:=bx ((Sep.start w4).fP w4.heap.size 1 3);have qh:=bx (λW (h:Below w4.heap.size w4 W)=>(HR.o.below HB4.o).below h);have sG:=bx (HL.o.below HB4.o);clear hb4 hfi ZE hfl hX d0 d1 m0;go_wp2_with fail
 go_loopw [13,12] (λi o wr=>∃ (q:Nat) (oo:Option Addr) (oc:Nat),q<=L.length/\i = .int .i64 q/\o = .slice oo q oc/\Box (Sep [Pc.row w4.heap.size 3 1 (.slice oo q oc) q ((D.cuts nn (L.take q)).map (Value.int .i64)),Pc.old w4.heap.size w4] wr)) (λi _ _=>L.length-(intOf i).toNat)
 case atStart=>exact⟨0,none,0,Nat.zero_le _,rfl,rfl,aU⟩
 case round =>
  obtain⟨q,oo,oc,hq,rfl,rfl,hsi⟩:=hrel;have oM:=bx (hsi.o.bel (n:=w4.heap.size) (W0:=w4) (by simp));clear aU
  by_cases hlt:q<L.length
  ·obtain⟨c,hc⟩:∃ c,L[q]?=some c:=⟨_,List.getElem?_eq_getElem hlt⟩
   obtain⟨g,off,cap2,hg1,hg2,hg3,hg4,hg5⟩:=(sG.o.below oM.o).get (by rintro rfl;simp at hlt);obtain⟨rfl,rfl⟩:lo=some ⟨g,off,none⟩/\lc=cap2:=by injection hg1 with h1 h2 h3;exact⟨h1,h3⟩
   have hcx:=hg5 q c hc;have HCT:=bx (alT (n:=nn) hc);have hbi:=oM.o.size;unfold maxLen at hg3;clear hg1 hg5 hc;have fin:∀ x:Int,x=D.cut nn c->∀ v' w',Sep ([Pc.row w4.heap.size 3 1 (.slice oo q oc) q ((D.cuts nn (L.take q)).map (Value.int .i64)),Pc.old w4.heap.size w4].set 0 (Pc.row w4.heap.size 3 1 v' (q+1) ((D.cuts nn (L.take q)).map (Value.int .i64)++[.int .i64 x]))) w' ->
     Sep [Pc.row w4.heap.size 3 1 v' (q+1) ((D.cuts nn (L.take (q+1))).map (Value.int .i64)),Pc.old w4.heap.size w4] w':=λx hx v' w' h=>by
    rw [HCT.o,List.map_append,List.map_singleton,<- hx];exact h
   have FIN:=bx fin;clear fin
   rcases Int.lt_or_le c 0 with h0 | h0
   ·have HX:=bx (show (-1:Int)=D.cut nn c by unfold D.cut;rw [if_pos (.inl h0)]);go_wp2_with (at_builtin;refine lI rfl _ _ 23 rfl mQ hsi.o 0 rfl rfl rfl rfl (by omega) (by omega) hbi ?_;rintro v' w6 hS6 ⟨go',gc',rfl,-,-⟩)
    have dA:=bx (FIN.o _ HX.o _ _ hS6);clear hS6
    go_roundw
    case rel=>exact⟨q+1,_,_,hlt,by go_num,rfl,dA⟩
    case measure=>simp [intOf];omega
   rcases Int.lt_or_le c nn with h1 | h1
   ·have HX:=bx (show c=D.cut nn c by unfold D.cut;rw [if_neg (by omega)]);go_wp2_with (at_builtin;refine lI rfl _ _ 23 rfl mQ hsi.o 0 rfl rfl rfl rfl (by omega) (by omega) hbi ?_;rintro v' w6 hS6 ⟨go',gc',rfl,-,-⟩)
    have dA:=bx (FIN.o _ HX.o _ _ hS6);clear hS6
    go_roundw
    case rel=>exact⟨q+1,_,_,hlt,by go_num,rfl,dA⟩
    case measure=>simp [intOf];omega
   ·have HX:=bx (show (-1:Int)=D.cut nn c by unfold D.cut;rw [if_pos (.inr h1)]);go_wp2_with (at_builtin;refine lI rfl _ _ 23 rfl mQ hsi.o 0 rfl rfl rfl rfl (by omega) (by omega) hbi ?_;rintro v' w6 hS6 ⟨go',gc',rfl,-,-⟩)
    have dA:=bx (FIN.o _ HX.o _ _ hS6);clear hS6
    go_roundw
    case rel=>exact⟨q+1,_,_,hlt,by go_num,rfl,dA⟩
    case measure=>simp [intOf];omega
  obtain rfl:q=L.length:=by omega
  have UJ:=bx (show ay wr (.slice oo L.length oc) (D.cuts nn L) by
   have:=ay.dL (hsi.o.row 0 rfl) (by unfold D.cuts;rw [List.length_map,List.length_take];omega);rw [List.take_length] at this;exact this)
  obtain⟨V4,zN⟩:∃ V4,V4=wr:=⟨_,rfl⟩
  rw [<- zN] at oM UJ ⊢;obtain⟨V5,AX⟩:∃ V5,V5=V4.alloc (.cells #[.int .i64 0] 3):=⟨_,rfl⟩
  have k5:Below V4.heap.size V4 V5:=by rw [AX];exact aS _ _
  have aG:=bx (show Sep [Pc.row V4.heap.size 3 1 (.slice (some ⟨V4.heap.size,0,none⟩) 1 1) 1 ((qY R M nn L (1-1)).map (Value.int .i64)),Pc.old V4.heap.size V4] V5 from(Sep.start V4).got k5 ⟨rfl, .inr ⟨V4.heap.size,1,#[.int .i64 0],rfl,Nat.le_refl _,by rw [AX];exact ak.new _ _ _,Nat.le_refl _,by unfold maxLen;omega,rfl,rfl⟩⟩ (Nat.le_refl _));have HV5:=bx AX;have xG:=bx (λW (h:Below V4.heap.size V4 W)=>qh.o W (wI oM.o h));have fG:=bx (λW (h:Below V4.heap.size V4 W)=>(eF.o.below oM.o).below h);have bG:=bx (wI HB4.o oM.o);clear hsi zN AX k5 hlt hq;go_wp2_with fail;rw [<- HV5.o]
  go_loopw [16,15] (λi o wr=>∃ (p N:Nat) (oo:Option Addr) (oc:Nat),1<=p/\p<=L.length+1/\i = .int .i64 p/\o = .slice oo N oc/\N<=p/\Box (Sep [Pc.row V4.heap.size 3 1 (.slice oo N oc) N ((qY R M nn L (p-1)).map (Value.int .i64)),Pc.old V4.heap.size V4] wr)) (λi _ _=>L.length+1-(intOf i).toNat)
  case atStart=>exact⟨1,1,_,_,Nat.le_refl _,by omega,rfl,rfl,Nat.le_refl _,aG⟩
  case round =>
   obtain⟨p,N,ao,ac,hp1,hp,rfl,rfl,hN,hsp⟩:=hrel;have aV:=bx (hsp.o.bel (n:=V4.heap.size) (W0:=V4) (by simp));obtain⟨W6,Zn⟩:∃ W6,W6=wr:=⟨_,rfl⟩
   rw [<- Zn] at hsp aV ⊢;clear Zn;clear aG
   by_cases hlt:p<L.length+1
   rotate_left
   ·obtain rfl:p=L.length+1:=by omega
    have HO:=bx (show ay W6 (.slice ao N ac) (vS R M nn L) by
     have h:=hsp.o.row 0 rfl;rw [show L.length+1-1=L.length by omega,amh] at h;exact ay.dL h (by have:=h.1;rw [List.length_map] at this;omega))
    have dJ:=bx (wI bG.o aV.o);go_wp2_with fail;go_ret2
    exact⟨dJ.o, .inl ⟨HA.o,_,rfl,HO.o⟩⟩
   obtain⟨f,hf,hfl,hfe⟩:=Hl.o p (by omega);have wQ:=bx (show cutAt R M nn L p=G.Ez R (D.cuts nn L) f (p:Int) by unfold cutAt;rw [hfe]);obtain⟨g,off,cap2,hg1,hg2,hg3,hg4,hg5⟩:=(fG.o _ aV.o).get (by intro e;have:=jP.o;rw [e] at this;simp at this);rw [jP.o] at hg1 hg2;obtain⟨rfl,rfl⟩:xo=some ⟨g,off,none⟩/\xc=cap2:=by injection hg1 with h1 h2 h3;exact⟨h1,h3⟩
   have aB:=bx (show ∀ W,Below W6.heap.size W6 W->W.cell? ⟨g,off+p,none⟩=some (.int .i64 (f:Int)) from λW h=>(h.cell (p:=⟨g,off+p,none⟩) hg4).trans (hg5 p _ hf));have aN:=bx hfe;have yQ:=bx hp1;obtain⟨WU,hm0⟩:∃ b,((p:Int)==(L.length:Int))=b:=⟨_,rfl⟩
   have LJ:=bx (show WU=true↔p=L.length by rw [<- hm0,beq_iff_eq];omega);unfold maxLen at hg3;clear hg1 hg4 hg5 hf hfe;have XP:=bx hlt;go_wp2_with fail;clear hlt;generalize decide (p<=L.length)=z57;clear hm0;have jO:=bx (show ∀ W,Below W6.heap.size W6 W->Sep [Pc.row V4.heap.size 3 1 (.slice ao N ac) N ((qY R M nn L (p-1)).map (Value.int .i64)),Pc.old V4.heap.size V4] W from λW h=>hsp.o.below h);clear hsp
   go_loopw [19,17,18] (λi c m wi=>∃ (q:Nat) (cb mb:Bool),q<=R.length/\i = .int .i64 q/\c = .bool cb/\m = .bool mb/\Box ((mb=true/\cb=uK R M nn L p)\/(mb=false/\cb=true/\p≠L.length/\∀ j,j<q->G.hit R (D.cuts nn L) f (p:Int) j=false))/\Box (Below W6.heap.size W6 wi)) (λi _ _ _=>R.length-(intOf i).toNat)
   case atStart =>
    refine⟨0,true,WU,Nat.zero_le _,rfl,rfl,rfl,⟨?_⟩,⟨Below.refl _ _⟩⟩
    cases hm:WU with
    | true=>exact .inl ⟨rfl,by unfold uK;rw [decide_eq_true (LJ.o.1 hm)];rfl⟩
    | false=>exact .inr ⟨rfl,rfl,λe=>(by have:=LJ.o.2 e;rw [hm] at this;cases this),λj hj=>by omega⟩
   case round =>
    obtain⟨q,cb,mb,hq,rfl,rfl,rfl,hst,hbi⟩:=hrel;have aoc:=XP.o
    rcases Bool.eq_false_or_eq_true mb with hmb | hmb
    ·have BR:=bx (show cb=uK R M nn L p by
      rcases hst.o with h | h
      ·exact h.2
      ·rw [hmb] at h;exact absurd h.1.symm Bool.false_ne_true)
     rw [hmb];clear hmb hst
     rcases Nat.lt_or_ge q R.length with hqr | hqr
     ·clear XP;have nI:=bx (jO.o _ hbi.o);have ES:=bx (nI.o.bel (n:=V4.heap.size) (W0:=V4) (by simp));have hbs:=ES.o.size
      cases cb with
      | true =>
       have mF:=bx (Q9 yQ.o BR.o);go_wp2_with (at_builtin;refine lI rfl _ _ 23 rfl mQ nI.o 0 rfl rfl rfl rfl (by omega) (by omega) hbs ?_;rintro v' w6 hS6 ⟨go',gc',rfl,-,-⟩)
       have dA:=bx (show Sep [Pc.row V4.heap.size 3 1 (.slice (some ⟨go',0,none⟩) (N+1) gc') (N+1) ((qY R M nn L (p+1-1)).map (Value.int .i64)),Pc.old V4.heap.size V4] w6 by
        rw [mF.o,List.map_append];exact hS6)
       clear hS6;go_wp2_with fail
       go_roundw
       case rel=>exact⟨p+1,N+1,_,_,by omega,by omega,by go_num,rfl,by omega,dA⟩
       case measure=>simp [intOf];omega
      | false =>
       have mF:=bx (show Sep [Pc.row V4.heap.size 3 1 (.slice ao N ac) N ((qY R M nn L (p+1-1)).map (Value.int .i64)),Pc.old V4.heap.size V4] wr by
        rw [SS yQ.o BR.o];exact nI.o)
       go_wp2_with fail
       go_roundw
       case rel=>exact⟨p+1,N,_,_,by omega,by omega,by go_num,rfl,by omega,mF⟩
       case measure=>simp [intOf];omega
     ·obtain rfl:q=R.length:=by omega
      have nI:=bx (jO.o _ hbi.o);have ES:=bx (nI.o.bel (n:=V4.heap.size) (W0:=V4) (by simp));have hbs:=ES.o.size
      cases cb with
      | true =>
       have mF:=bx (Q9 yQ.o BR.o);go_wp2_with (at_builtin;refine lI rfl _ _ 23 rfl mQ nI.o 0 rfl rfl rfl rfl (by omega) (by omega) hbs ?_;rintro v' w6 hS6 ⟨go',gc',rfl,-,-⟩)
       have dA:=bx (show Sep [Pc.row V4.heap.size 3 1 (.slice (some ⟨go',0,none⟩) (N+1) gc') (N+1) ((qY R M nn L (p+1-1)).map (Value.int .i64)),Pc.old V4.heap.size V4] w6 by
        rw [mF.o,List.map_append];exact hS6)
       clear hS6;go_wp2_with fail
       go_roundw
       case rel=>exact⟨p+1,N+1,_,_,by omega,by omega,by go_num,rfl,by omega,dA⟩
       case measure=>simp [intOf];omega
      | false =>
       have mF:=bx (show Sep [Pc.row V4.heap.size 3 1 (.slice ao N ac) N ((qY R M nn L (p+1-1)).map (Value.int .i64)),Pc.old V4.heap.size V4] wr by
        rw [SS yQ.o BR.o];exact nI.o)
       go_wp2_with fail
       go_roundw
       case rel=>exact⟨p+1,N,_,_,by omega,by omega,by go_num,rfl,by omega,mF⟩
       case measure=>simp [intOf];omega
    rw [hmb];have HST:=bx (show cb=true/\p≠L.length/\∀ j,j<q->G.hit R (D.cuts nn L) f (p:Int) j=false by
     rcases hst.o with h | h
     ·rw [hmb] at h;exact absurd h.1 Bool.false_ne_true
     ·exact h.2)
    clear hmb hst
    by_cases hqr:q<R.length
    rotate_left
    ·obtain rfl:q=R.length:=by omega
     have BR:=bx (show cb=uK R M nn L p by
      obtain⟨h1,h2,h3⟩:=HST.o;unfold uK;rw [h1,wQ.o,G.adi h3];simp)
     clear hqr;have nI:=bx (jO.o _ hbi.o);have ES:=bx (nI.o.bel (n:=V4.heap.size) (W0:=V4) (by simp));have hbs:=ES.o.size
     cases cb with
     | true =>
      have mF:=bx (Q9 yQ.o BR.o);go_wp2_with (at_builtin;refine lI rfl _ _ 23 rfl mQ nI.o 0 rfl rfl rfl rfl (by omega) (by omega) hbs ?_;rintro v' w6 hS6 ⟨go',gc',rfl,-,-⟩)
      have dA:=bx (show Sep [Pc.row V4.heap.size 3 1 (.slice (some ⟨go',0,none⟩) (N+1) gc') (N+1) ((qY R M nn L (p+1-1)).map (Value.int .i64)),Pc.old V4.heap.size V4] w6 by
       rw [mF.o,List.map_append];exact hS6)
      clear hS6;go_wp2_with fail
      go_roundw
      case rel=>exact⟨p+1,N+1,_,_,by omega,by omega,by go_num,rfl,by omega,dA⟩
      case measure=>simp [intOf];omega
     | false =>
      have mF:=bx (show Sep [Pc.row V4.heap.size 3 1 (.slice ao N ac) N ((qY R M nn L (p+1-1)).map (Value.int .i64)),Pc.old V4.heap.size V4] wr by
       rw [SS yQ.o BR.o];exact nI.o)
      go_wp2_with fail
      go_roundw
      case rel=>exact⟨p+1,N,_,_,by omega,by omega,by go_num,rfl,by omega,mF⟩
      case measure=>simp [intOf];omega
    have hcb:=HST.o.1;subst hcb;obtain⟨x,hx⟩:∃ x,R[q]?=some x:=⟨_,List.getElem?_eq_getElem hqr⟩
    have Zq:=bx (wI aV.o hbi.o);obtain⟨rg,roff,Cm,k1,k2,k3,k4,k5⟩:=(xG.o _ Zq.o).get (by rintro rfl;simp at hqr);obtain⟨rfl,rfl⟩:ro=some ⟨rg,roff,none⟩/\rc=Cm:=by injection k1 with h1 h2 h3;exact⟨h1,h3⟩
    obtain⟨vl,vr,r0,r1,r2,r3,r4,hil,hir⟩:=k5 q x hx;obtain⟨ar,BU,rfl⟩:=hir.slice;have PL:=bx (UJ.o.below Zq.o);have nH:=bx (λ(W:World) (h:Below wr.heap.size wr W)=>ajp x.2.1.1 x.2.1.2 (D.cuts nn L) (p:Int)▸aia x.2.1.1 (.slice ar x.2.1.2.length BU) x.2.1.2 (.slice oo L.length oc) (D.cuts nn L) p W (hir.below h) (HF.o x (List.mem_of_getElem? hx)).2 (PL.o.below h) (by unfold D.cuts;rw [List.length_map];exact hLz));have HX:=bx hx;have hcf:=aB.o _ hbi.o;obtain⟨P,hP⟩:∃ P:Nat,P=2 ^ q:=⟨_,rfl⟩
    have hP0:0<P:=by rw [hP];exact Nat.two_pow_pos q
    have vY:=bx (λW=>acA q W (by omega));rw [<- hP] at vY;obtain⟨e0,e1⟩:=Rl f P;have ht:=VY f q;rw [<- hP] at ht;have jS:=bx (show G.hit R (D.cuts nn L) f (p:Int) q=false->∀ j,j<q+1->G.hit R (D.cuts nn L) f (p:Int) j=false from λh j hj=>by
     rcases Nat.lt_or_ge j q with h1 | h1
     ·exact HST.o.2.2 j h1
     ·obtain rfl:j=q:=by omega
      exact h)
    have tq:=bx HST.o.2.1;have hgl:g<wr.heap.size:=World.block_lt_of_cell? _ _ hcf;unfold maxLen at k3;clear k1 k5 hx hil hir hP
    rcases Bool.eq_false_or_eq_true (f.testBit q) with hbit | hbit
    rotate_left
    ·have HN:=bx (jS.o (QX HX.o (.inl hbit)));have HDR:=bx (λm=>hbi.o.trans ((jG wr m).mono hbi.o.size));rw [hbit] at ht;clear hbit;go_wp2_with fail
     go_quiet ((go_at_call 144;exact fV (vY.o _)))
     go_wp2_with fail
     go_roundw
     case rel=>exact⟨q+1,true,false,hqr,by go_num,rfl,rfl,⟨.inr ⟨rfl,rfl,tq.o,HN.o⟩⟩,⟨HDR.o _⟩⟩
     case measure=>simp [intOf];omega
    rw [hbit] at ht;obtain⟨Inv,hI1,hI2⟩:∃ Inv:World->Prop,(∀ W,Inv W->Below wr.heap.size wr W)/\(∀ W,Below wr.heap.size wr W->Inv W):=⟨_,λ_ h=>h,λ_ h=>h⟩
    have aZ:=bx (show ∀ q:CW Inv,Below wr.heap.size wr q.w from λq=>hI1 _ q.h);have eH:=bx (show ∀ (q:CW Inv) w',Below q.w.heap.size q.w w'->Inv w' from λq w' h=>hI2 _ ((aZ.o q).trans (h.mono (aZ.o q).size)));have q0:∀ q:CW Inv,q.w.cell? ⟨g,off+p,none⟩=some (.int .i64 (f:Int)):=λq=>((aZ.o q).cell (p:=⟨g,off+p,none⟩) hgl).trans hcf
    have q1:∀ c:CW Inv,c.w.cell? ⟨rg,roff+q*5+2,none⟩=some (.bool x.2.1.1):=λc=>((aZ.o c).cell (p:=⟨rg,roff+q*5+2,none⟩) k4).trans r2
    have q2:∀ c:CW Inv,c.w.cell? ⟨rg,roff+q*5+3,none⟩=some (.slice ar x.2.1.2.length BU):=λc=>((aZ.o c).cell (p:=⟨rg,roff+q*5+3,none⟩) k4).trans r3
    have K0:=bx (show ∀ c:CW Inv,Calls Tryz.prog 144 #[.int .i64 q] c.w λe w''=>e = .returned (.int .i64 (P:Int))/\∃ m:CW Inv,w''=m.w from λc=>(vY.o c.w).mono λe w'' h=>⟨h.1,c,h.2.symm⟩);have HDR:=bx (hI2 _ (eu wr 1));have R4:=bx (show ∀ W,Below wr.heap.size wr W->W.cell? ⟨rg,roff+q*5+4,none⟩=some (.bool x.2.2) from λW h=>(h.cell (p:=⟨rg,roff+q*5+4,none⟩) k4).trans r4);have K4:=bx k4
    rcases Bool.eq_false_or_eq_true (nX x.2.1.1 x.2.1.2 (D.cuts nn L) (p:Int)) with hah | hah
    ·have Fp:=bx (show x.2.2=uK R M nn L p by
      unfold uK;rw [decide_eq_false tq.o,wQ.o,Bool.false_or,G.aa1 HX.o (adk HX.o hbit hah) HST.o.2.2])
     have K1:=bx (λc:CW Inv=>ji (nH.o c.w (aZ.o c)) (show Value.bool (nX x.2.1.1 x.2.1.2 (D.cuts nn L) (p:Int)) = .bool true by rw [hah]) (eH.o c));clear hbit hah hI1 hI2 hcf r0 r1 r2 r3 r4 k4;go_wp2_with fail;refine gK Inv (by kernel_rfl) (by kernel_rfl) HDR.o (λhne=>?_)
     repeat (any_goals (first | go_big_quiet_step ((first | (go_at_call 144;exact K0.o _) | (go_at_call 145;exact K1.o _))) | quiet_step ((first | (go_at_call 144;exact K0.o _) | (go_at_call 145;exact K1.o _)))))
     refine wpQuiet_nil ?_;rintro w7 ⟨q7,rfl⟩;have aH:=bx (aZ.o q7);clear q0 q1 q2 hne;have r4:=R4.o _ aH.o;have k4:=Nat.lt_of_lt_of_le K4.o aH.o.size;go_wp2_with fail
     go_roundw
     case rel=>exact⟨q+1,_,true,hqr,by go_num,rfl,rfl,⟨.inl ⟨rfl,Fp.o⟩⟩,⟨wI hbi.o aH.o⟩⟩
     case measure=>simp [intOf];omega
    ·have HN:=bx (jS.o (QX HX.o (.inr hah)));have K1:=bx (λc:CW Inv=>ji (nH.o c.w (aZ.o c)) (show Value.bool (nX x.2.1.1 x.2.1.2 (D.cuts nn L) (p:Int)) = .bool false by rw [hah]) (eH.o c));clear hbit hah hI1 hI2 hcf r0 r1 r2 r3 r4 k4;go_wp2_with fail;refine gK Inv (by kernel_rfl) (by kernel_rfl) HDR.o (λhne=>?_)
     repeat (any_goals (first | go_big_quiet_step ((first | (go_at_call 144;exact K0.o _) | (go_at_call 145;exact K1.o _))) | quiet_step ((first | (go_at_call 144;exact K0.o _) | (go_at_call 145;exact K1.o _)))))
     refine wpQuiet_nil ?_;rintro w7 ⟨q7,rfl⟩;have aH:=bx (aZ.o q7);clear q0 q1 q2 hne;go_wp2_with fail
     go_roundw
     case rel=>exact⟨q+1,true,false,hqr,by go_num,rfl,rfl,⟨.inr ⟨rfl,rfl,tq.o,HN.o⟩⟩,⟨wI hbi.o aH.o⟩⟩
     case measure=>simp [intOf];omega
end
section
open Go.RowKit
attribute [local go_sem] Oper.semAt_some
theorem aiE (v:Value) (t:Tab) (w:World) (hv:TabAt w v t) (hs:wz t) :
  Calls Tryz.prog 141 #[v] w λe w'=>e = .returned (.bool (rE t))/\Below w.heap.size w w':=by
 obtain⟨pi,pb,rv,nv,fv,rfl,h1,h2,h3,h4,h5⟩:=hv;obtain⟨V,hV⟩:∃ V,V=w.alloc (.cells #[.int .i64 t.n,pi,pb,rv,nv,fv] 46):=⟨_,rfl⟩
 have HB0:=bx (show Below w.heap.size w V by rw [hV];exact aS _ _);have HK:=bx (show ak V w.heap.size 46 #[.int .i64 t.n,pi,pb,rv,nv,fv] by rw [hV];exact ak.new _ _ _);have bW:=bx (λW (h:Below w.heap.size w W)=>show TabAt W (.agg #[.int .i64 t.n,pi,pb,rv,nv,fv]) t from⟨pi,pb,rv,nv,fv,rfl,h1.below h,h2.below h,h3.below h,h4.below h,h5.below h⟩);have aB:=bx (λW (h:Below V.heap.size V W)=>HK.o.c6 h);have HV:=bx hV;have gQ:=bx (abV rv t.r (.agg #[nv,fv]) t.m t.n (.slice none 0 0) [] V (h3.below HB0.o) hs.r1 hs.r2 ⟨nv,fv,rfl,h4.below HB0.o,h5.below HB0.o⟩ hs.m .nil (by simp));have nY:=bx (λW (h:Below w.heap.size w W)=>Bg (.agg #[pi,pb]) t.p W ⟨pi,pb,rfl,h1.below h,h2.below h⟩ hs.p1 hs.p2);have lH:=bx (show rE t=(oD t.r t.m t.n&&F.jK t.p) from rfl);obtain⟨n,hn⟩:∃ n,n=t.n:=⟨_,rfl⟩
 rw [<- hn] at HV HK bW aB gQ lH ⊢;generalize rE t=res at lH ⊢;clear h1 h2 h3 h4 h5 hV hs hn;obtain⟨k0,k1,k2,k3,k4,k5,kk⟩:=aB.o V (Below.refl _ _)
 go_enter Tryz.func141,Tryz.ntmps141
 go_upto_region 1 with(fail)
 rw [<- HV.o];go_wp2_with fail;refine gQ.o.mono ?_;rintro e w1 ⟨hb1,⟨ha,v1,rfl,-⟩ | ⟨ha,rfl⟩⟩
 ·have HB1:=bx (bt HB0.o hb1);have nY:=bx (nY.o w1 HB1.o);rw [ha,Bool.true_and] at lH;clear k0 k1 k2 k3 k4 k5 kk;obtain⟨k0,k1,k2,k3,k4,k5,kk⟩:=aB.o w1 hb1;clear hb1 ha;go_wp2_with fail;refine nY.o.mono ?_;rintro e w2 ⟨rfl,hb2⟩;have HB2:=bx (bt HB1.o hb2);clear hb2;go_wp2_with fail;go_ret
  exact⟨aI lH.o.symm,HB2.o⟩
 ·have HB1:=bx (bt HB0.o hb1);rw [ha,Bool.false_and] at lH;clear hb1 ha k0 k1 k2 k3 k4 k5 kk;go_wp2_with fail;go_ret
  exact⟨aI lH.o.symm,HB1.o⟩
end
section
open Go.RowKit Go.Shelf
attribute [local go_sem] Oper.semAt_some
def Ak (l:List UInt8):Value:=.tuple #[.int .i64 ((M.unit l).1:Int), .bool (M.unit l).2]
end
section
open Go.RowKit
theorem Nq {l:List UInt8} {n:Nat} (h:U.dec l=none) (hn:M.mD l=n):Ak l = .tuple #[.int .i64 n, .bool false]:=by
 unfold Ak;rw [M.Ot h,hn]
theorem agT {l:List UInt8} {r:Int} {n:Nat} (h:U.dec l=some (r,n)):Ak l = .tuple #[.int .i64 n, .bool true]:=by
 unfold Ak M.unit;rw [h]
theorem aeO {l:List UInt8} (h:U.dec l=none):oK l = .tuple #[.int .i64 0, .int .i64 0, .bool false]:=by unfold oK;rw [h];rfl
theorem al6 {l:List UInt8} {r:Int} {n:Nat} (h:U.dec l=some (r,n)):oK l = .tuple #[.int .i64 r, .int .i64 n, .bool true]:=by unfold oK;rw [h];rfl
theorem afU {c d:UInt8} (h:¬ (U.eX (U.aA c)<=U.aA d/\U.aA d<=U.eU (U.aA c))) (p:Bool):(p&&M.rng c d)=false:=by
 have:=M.Oh c d
 cases hr:M.rng c d with
 | false=>simp
 | true=>exact absurd (this.1 hr) h
theorem ajN {c d:UInt8} (h:U.eX (U.aA c)<=U.aA d/\U.aA d<=U.eU (U.aA c)) (hk:2<=U.bF (U.aA c)):(decide (2<=U.bF (U.aA c))&&M.rng c d)=true:=by
 rw [(M.Oh c d).2 h,decide_eq_true hk];rfl
theorem alX {e:UInt8} (h:¬ (128<=U.aA e/\U.aA e<=191)) (p:Bool):(p&&U.je e)=false:=by
 cases hr:U.je e with
 | false=>simp
 | true=>exact absurd (U.tail_range hr) h
theorem afK {e:UInt8} (h:128<=U.aA e/\U.aA e<=191):U.je e=true:=(U.lZ e).2 h
theorem abr (s:ByteArray) (w:World) (hs:s.size<=16777216) :
  Calls Tryz.prog 89 #[.string s] w λe w'=>e = .returned (Ak s.data.toList)/\w=w':=by
 have HD:=bx (Xw s w (Nat.le_trans hs (by decide)))
 cases hl:s.data.toList with
 | nil =>
  have hz:=isEmpty_nil hl;have HV:=bx (show Ak [] = .tuple #[.int .i64 0, .bool false] from rfl);clear hl HD
  go_enter Tryz.func89,Tryz.ntmps89
  go_wp2_with fail;go_ret2
  exact⟨by rw [HV.o];rfl,rfl⟩
 | cons c t =>
  have hz:=isEmpty_cons hl;rw [hl] at HD;have i0:=uH Tryz.underlying9 s 0 (d:=c) (by rw [hl];rfl) 0 rfl;have hc0:=U.oZ c;have hc1:=U.qj c;have oz:=bx (QM (U.aA c) hc0 hc1);have hsz:(s.size:Int)=t.length+1:=by rw [size_eq,hl];simp
  cases hd:U.dec (c::t) with
  | some rn =>
   obtain⟨r,n⟩:=rn;have xK:=bx (al6 hd);have HV:=bx (agT hd);clear hl hd i0 oz
   go_enter Tryz.func89,Tryz.ntmps89
   go_wp2_with fail;refine HD.o.mono ?_;rintro e w1 ⟨rfl,rfl⟩;rw [xK.o];go_wp2_with fail;go_ret2
   exact⟨by rw [HV.o];rfl,rfl⟩
  | none =>
   have xK:=bx (aeO hd)
   rcases t with _ | ⟨d,t⟩
   ·have HV:=bx (Nq (n:=1) hd rfl);have hsz1:s.size=1:=by simp at hsz;omega
    clear hl hd hsz;generalize U.aA c=x at *;generalize U.bF x=k at *;generalize U.eX x=lo at *;generalize U.eU x=hi at *
    go_enter Tryz.func89,Tryz.ntmps89
    go_wp2_with fail;refine HD.o.mono ?_;rintro e w1 ⟨rfl,rfl⟩;rw [xK.o];go_wp2_with fail;refine(oz.o _).mono ?_;rintro e w1 ⟨rfl,rfl⟩;go_wp2_with fail
    all_goals go_ret2
    all_goals exact⟨by rw [HV.o];rfl,rfl⟩
   ·have i1:=uH Tryz.underlying9 s 1 (d:=d) (by rw [hl];rfl) 1 rfl;have hd0:=U.oZ d;have hd1:=U.qj d;have hz2:2<=s.size:=by simp at hsz;omega
    by_cases hk:1<=U.bF (U.aA c)/\U.eX (U.aA c)<=U.aA d/\U.aA d<=U.eU (U.aA c)
    ·have hlo:=U.I7 (U.aA c) (by omega);have hhi:=U.GZ (U.aA c) (by omega);have hk2:2<=U.bF (U.aA c):=by
      rcases U.D6 (U.aA c) with e | e | e | e | e
      ·omega
      ·omega
      ·rw [U.GN e,if_pos (by omega)] at hd;cases hd
      ·omega
      ·omega
     have hr:=ajN hk.2 hk2
     rcases t with _ | ⟨e,t⟩
     ·have HV:=bx (Nq (n:=2) hd (M.aaI hr));have hsz1:s.size=2:=by simp at hsz;omega
      clear hl hd hsz hr hlo hhi;generalize U.aA c=x at *;generalize U.aA d=y at *;generalize U.bF x=k at *;generalize U.eX x=lo at *;generalize U.eU x=hi at *;obtain⟨hk,hk3,hk4⟩:=hk
      go_enter Tryz.func89,Tryz.ntmps89
      go_wp2_with fail;refine HD.o.mono ?_;rintro e w1 ⟨rfl,rfl⟩;rw [xK.o];go_wp2_with fail;refine(oz.o _).mono ?_;rintro e w1 ⟨rfl,rfl⟩;go_wp2_with fail
      go_rounds 1
      all_goals go_ret2
      all_goals exact⟨by rw [HV.o];rfl,rfl⟩
     ·have i2:=uH Tryz.underlying9 s 2 (d:=e) (by rw [hl];rfl) 2 rfl;have he0:=U.oZ e;have he1:=U.qj e;have hz3:3<=s.size:=by simp at hsz;omega
      by_cases ht:128<=U.aA e/\U.aA e<=191
      ·have hk3:U.bF (U.aA c)=3:=by
        rcases U.D6 (U.aA c) with e' | e' | e' | e' | e'
        ·omega
        ·omega
        ·omega
        ·rw [U.IB e',if_pos (by omega)] at hd;cases hd
        ·exact e'
       have hb:=M.adQ t hr (by rw [decide_eq_true hk3,afK ht];rfl);have HV:=bx (Nq (n:=3) hd hb)
       rcases t with _ | ⟨g,t⟩
       ·have hsz1:s.size=3:=by simp at hsz;omega
        clear hl hd hsz hr hlo hhi hb;generalize U.aA c=x at *;generalize U.aA d=y at *;generalize U.aA e=z at *;rw [hk3] at oz;generalize U.bF x=k at *;generalize U.eX x=lo at *;generalize U.eU x=hi at *;obtain⟨hk,hk5,hk4⟩:=hk;obtain⟨ht1,ht2⟩:=ht
        go_enter Tryz.func89,Tryz.ntmps89
        go_wp2_with fail;refine HD.o.mono ?_;rintro e w1 ⟨rfl,rfl⟩;rw [xK.o];go_wp2_with fail;refine(oz.o _).mono ?_;rintro e w1 ⟨rfl,rfl⟩;go_wp2_with fail
        go_rounds 2
        all_goals go_ret2
        all_goals exact⟨by rw [HV.o];rfl,rfl⟩
       ·have i3:=uH Tryz.underlying9 s 3 (d:=g) (by rw [hl];rfl) 3 rfl;have hg0:=U.oZ g;have hg1:=U.qj g;have hz4:4<=s.size:=by simp at hsz;omega
        have hng:¬ (128<=U.aA g/\U.aA g<=191):=λh=>by
         rw [U.J6 hk3,if_pos (by omega)] at hd;cases hd
        clear hl hd hsz hr hlo hhi hb;generalize U.aA c=x at *;generalize U.aA d=y at *;generalize U.aA e=z at *;generalize U.aA g=v at *;rw [hk3] at oz;generalize U.bF x=k at *;generalize U.eX x=lo at *;generalize U.eU x=hi at *;obtain⟨hk,hk5,hk4⟩:=hk;obtain⟨ht1,ht2⟩:=ht
        rcases (show v<128\/(128<=v/\191<v) by omega) with hv | ⟨hv,hv2⟩
        ·clear hng
         go_enter Tryz.func89,Tryz.ntmps89
         go_wp2_with fail;refine HD.o.mono ?_;rintro e w1 ⟨rfl,rfl⟩;rw [xK.o];go_wp2_with fail;refine(oz.o _).mono ?_;rintro e w1 ⟨rfl,rfl⟩;go_wp2_with fail
         go_rounds 2
         all_goals go_ret2
         all_goals exact⟨by rw [HV.o];rfl,rfl⟩
        ·clear hng
         go_enter Tryz.func89,Tryz.ntmps89
         go_wp2_with fail;refine HD.o.mono ?_;rintro e w1 ⟨rfl,rfl⟩;rw [xK.o];go_wp2_with fail;refine(oz.o _).mono ?_;rintro e w1 ⟨rfl,rfl⟩;go_wp2_with fail
         go_rounds 2
         all_goals go_ret2
         all_goals exact⟨by rw [HV.o];rfl,rfl⟩
      ·have HV:=bx (Nq (n:=2) hd (M.abT t hr (alX ht _)));clear hl hd hsz hr hlo hhi;generalize U.aA c=x at *;generalize U.aA d=y at *;generalize U.aA e=z at *;generalize U.bF x=k at *;generalize U.eX x=lo at *;generalize U.eU x=hi at *;obtain⟨hk,hk3,hk4⟩:=hk
       rcases (show z<128\/(128<=z/\191<z) by omega) with hv | ⟨hv,hv2⟩
       ·clear ht
        go_enter Tryz.func89,Tryz.ntmps89
        go_wp2_with fail;refine HD.o.mono ?_;rintro e w1 ⟨rfl,rfl⟩;rw [xK.o];go_wp2_with fail;refine(oz.o _).mono ?_;rintro e w1 ⟨rfl,rfl⟩;go_wp2_with fail
        go_rounds 1
        all_goals go_ret2
        all_goals exact⟨by rw [HV.o];rfl,rfl⟩
       ·clear ht
        go_enter Tryz.func89,Tryz.ntmps89
        go_wp2_with fail;refine HD.o.mono ?_;rintro e w1 ⟨rfl,rfl⟩;rw [xK.o];go_wp2_with fail;refine(oz.o _).mono ?_;rintro e w1 ⟨rfl,rfl⟩;go_wp2_with fail
        go_rounds 1
        all_goals go_ret2
        all_goals exact⟨by rw [HV.o];rfl,rfl⟩
    ·have HV:=bx (Nq (n:=1) hd (by
      by_cases hk1:1<=U.bF (U.aA c)
      ·exact M.UW _ (afU (λh=>hk ⟨hk1,h⟩) _)
      ·exact M.UW _ (by rw [decide_eq_false (by omega)];rfl)))
     clear hl hd hsz;generalize U.aA c=x at *;generalize U.aA d=y at *;generalize U.bF x=k at *;generalize U.eX x=lo at *;generalize U.eU x=hi at *
     rcases (show k<1\/(1<=k/\y<lo)\/(1<=k/\lo<=y/\hi<y) by omega) with hq | ⟨hq1,hq2⟩ | ⟨hq1,hq2,hq3⟩
     ·clear hk
      go_enter Tryz.func89,Tryz.ntmps89
      go_wp2_with fail;refine HD.o.mono ?_;rintro e w1 ⟨rfl,rfl⟩;rw [xK.o];go_wp2_with fail;refine(oz.o _).mono ?_;rintro e w1 ⟨rfl,rfl⟩;go_wp2_with fail
      all_goals go_ret2
      all_goals exact⟨by rw [HV.o];rfl,rfl⟩
     ·clear hk
      go_enter Tryz.func89,Tryz.ntmps89
      go_wp2_with fail;refine HD.o.mono ?_;rintro e w1 ⟨rfl,rfl⟩;rw [xK.o];go_wp2_with fail;refine(oz.o _).mono ?_;rintro e w1 ⟨rfl,rfl⟩;go_wp2_with fail
      all_goals go_ret2
      all_goals exact⟨by rw [HV.o];rfl,rfl⟩
     ·clear hk
      go_enter Tryz.func89,Tryz.ntmps89
      go_wp2_with fail;refine HD.o.mono ?_;rintro e w1 ⟨rfl,rfl⟩;rw [xK.o];go_wp2_with fail;refine(oz.o _).mono ?_;rintro e w1 ⟨rfl,rfl⟩;go_wp2_with fail
      all_goals go_ret2
      all_goals exact⟨by rw [HV.o];rfl,rfl⟩
end
section
open Go.RowKit Go.Shelf
attribute [local go_sem] Oper.semAt_some
def Gt (l:List UInt8):List Int:=(M.cuts (M.places l)).map λn:Nat=>(n:Int)
def KQ (pl:List M.Place):List Value:=(M.cuts pl).map λn:Nat=>Value.int .i64 (n:Int)
theorem alN (pre:List M.Place) (x:M.Place):KQ (pre++[x])=KQ pre++[.int .i64 ((x.1:Int)+(x.2.1:Int))]:=by
 unfold KQ M.cuts;simp
end
end Go.Proofs.YtlmdjifffmofeaaGreatDoor
