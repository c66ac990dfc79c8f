/- Texts of this claim. -/
import Derived.ChangeArms
import Derived.Deep.Slices
import Derived.Deep.Strs
import Derived.Test.YtdenoeakcflnmaaGreatDoorH9

set_option maxHeartbeats 2000000
set_option maxRecDepth 100000
namespace Go.Proofs.YtdenoeakcflnmaaGreatDoor
section
open Go.RowKit
theorem Zw {l:List UInt8} (h:U.dec l=none):iY l = .tuple #[.int .i64 0, .int .i64 0, .bool false]:=by unfold iY;rw [h];rfl
theorem SN {l:List UInt8} {r:Int} {n:Nat} (h:U.dec l=some (r,n)):iY l = .tuple #[.int .i64 r, .int .i64 n, .bool true]:=by unfold iY;rw [h];rfl
def hit (p t:List UInt8):Bool:=match U.dec (p++t) with | some (_,n)=>n==p.length+t.length | none=>false
theorem ahg (p:List UInt8):M.Fj p=(hit p [128]||hit p [128,128]):=rfl
theorem abb (p t:List UInt8):(hit p t=false/\iY (p++t) = .tuple #[.int .i64 0, .int .i64 0, .bool false])\/(∃ (r:Int) (n:Nat),hit p t=false/\iY (p++t) = .tuple #[.int .i64 r, .int .i64 n, .bool true]/\((n:Int)==(p.length:Int)+(t.length:Int))=false) \/
  (∃ (r:Int),hit p t=true/\iY (p++t) = .tuple #[.int .i64 r, .int .i64 ((p.length+t.length:Nat):Int), .bool true]):=by
 cases h:U.dec (p++t) with
 | none=>exact .inl ⟨by unfold hit;rw [h],Zw h⟩
 | some q =>
  obtain⟨r,n⟩:=q
  by_cases hn:n=p.length+t.length
  ·subst hn;exact .inr (.inr ⟨r,by unfold hit;rw [h];simp,SN h⟩)
  ·exact .inr (.inl ⟨r,n,by unfold hit;rw [h];simpa using hn,SN h,by rw [beq_eq_false_iff_ne];omega⟩)
theorem aac (s t:ByteArray):(s++t).data.toList=s.data.toList++t.data.toList:=by
 rw [ByteArray.data_append,Array.toList_append]
theorem Ya (s t:ByteArray):(s++t).size=s.size+t.size:=ByteArray.size_append
theorem aad (A:Nat->Addr) (B:Nat) (s:ByteArray) (w:World) (hs:s.size<=16777216) (hE:E A B w) (hB:B<=w.heap.size) :
  Calls Tryz.prog 149 #[.string s] w λe w'=>e = .returned (.bool (M.Fj s.data.toList))/\Below w.heap.size w w':=by
 have hb0:=(Below.refl w.heap.size w).alloc (Nat.le_refl _) (.cells #[.string ⟨#[128]⟩, .string ⟨#[128,128]⟩] 9);have HE:=bx (hE.below (hb0.mono hB));have HB0:=bx hb0;have aU:=bx (size_eq s);have bf:=bx (aj.new w 9 #[.string ⟨#[128]⟩, .string ⟨#[128,128]⟩]);rw [ahg];clear hE hb0
 go_enter Tryz.func149,Tryz.ntmps149
 go_wp2_with fail;refine wp_loop_rounds 3 ?_;rw [rounds_succ];go_wp2_with fail;refine(O4 A B _ _ ?_ HE.o (Nat.le_trans hB HB0.o.size)).mono ?_
 ·rw [Ya];show s.size+1<=maxLen;unfold maxLen;omega
 rintro e w1 ⟨rfl,hb1⟩;rw [aac,show (⟨#[128]⟩:ByteArray).data.toList=[128] from rfl];have HB1:=bx (bt HB0.o hb1);have lq:=bx (HE.o.below (hb1.mono (Nat.le_trans hB HB0.o.size)));have hbk1:=bf.o.below hb1 bf.o.lt;have c1:w1.cell? ⟨w.heap.size,1,none⟩=some (.string ⟨#[128,128]⟩):=(hbk1.cell 1).trans rfl;clear hb1 hbk1;have H1:=bx (abb s.data.toList [128]);have H2:=bx (abb s.data.toList [128,128])
 rcases H1.o with⟨h1,h2⟩ | ⟨r,n,h1,h2,h3⟩ | ⟨r,h1,h2⟩
 case inr.inr =>
  have HV:=bx h2;have HH:=bx h1;have t1:(((s.data.toList.length+1:Nat):Int)==(s.size:Int)+1)=true:=by rw [aU.o,beq_iff_eq];omega
  rw [h2];clear h1 h2 H1 H2;go_wp2_with fail;go_ret
  exact⟨by rw [HH.o];rfl,HB1.o⟩
 all_goals
  have SG:=bx h1;rw [h2]
  first | (have t1:((n:Int)==(s.size:Int)+1)=false:=by rw [aU.o];exact h3) | skip
  clear h1 h2 H1
  try clear h3
  go_wp2_with fail;rw [rounds_succ];go_wp2_with fail;refine(O4 A B _ _ ?_ lq.o (Nat.le_trans hB HB1.o.size)).mono ?_
  ·rw [Ya];show s.size+2<=maxLen;unfold maxLen;omega
  rintro e w2 ⟨rfl,hb2⟩;rw [aac,show (⟨#[128,128]⟩:ByteArray).data.toList=[128,128] from rfl];have HB2:=bx (bt HB1.o hb2);clear hb2 c1
  rcases H2.o with⟨k1,k2⟩ | ⟨r',n',k1,k2,k3⟩ | ⟨r',k1,k2⟩
  ·have IJ:=bx k1;rw [k2];clear k1 k2 H2;go_wp2_with fail;rw [rounds_succ];go_wp2_with fail;go_ret
   exact⟨by rw [SG.o,IJ.o];rfl,HB2.o⟩
  ·have IJ:=bx k1;have t2:((n':Int)==(s.size:Int)+2)=false:=by rw [aU.o];exact k3
   rw [k2];clear k1 k2 k3 H2;go_wp2_with fail;rw [rounds_succ];go_wp2_with fail;go_ret
   exact⟨by rw [SG.o,IJ.o];rfl,HB2.o⟩
  ·have IJ:=bx k1;have t2:(((s.data.toList.length+2:Nat):Int)==(s.size:Int)+2)=true:=by rw [aU.o,beq_iff_eq];omega
   rw [k2];clear k1 k2 H2;go_wp2_with fail;go_ret
   exact⟨by rw [SG.o,IJ.o];rfl,HB2.o⟩
def BR (l:List UInt8):Value:=.agg #[.int .i64 ((M.unit l).1:Int), .bool (M.unit l).2]
theorem YM (s:ByteArray) (a:Nat):(s.extract a s.size).data.toList=s.data.toList.drop a:=Lib.extract_to_end s a
theorem ahc (s:ByteArray) (a:Nat):(s.extract a s.size).size=s.size-a:=by
 rw [size_eq,YM,List.length_drop,<- size_eq]
theorem adM (A:Nat->Addr) (B:Nat) (tb:Nat) (s:ByteArray) (a:Nat) (w:World) (ht:w.cell? ⟨tb,0,none⟩=some (.string s)) (ha:a<=s.size) (hs:s.size<=16777216) (hE:E A B w) (hB:B<=w.heap.size) :
  Calls Tryz.prog 98 #[.pointer (some ⟨tb,0,none⟩), .int .i64 a] w λe w'=>e = .returned (BR (s.data.toList.drop a))/\Below w.heap.size w w':=by
 have htl:=World.block_lt_of_cell? w _ ht;obtain⟨X,hX⟩:∃ X,X=s.extract a s.size:=⟨_,rfl⟩
 have nN:X.data.toList=s.data.toList.drop a:=by rw [hX];exact YM s a
 have vw:X.size<=16777216:=by rw [hX,ahc];omega
 have HX:=bx hX;rw [<- nN];have hb0:=((Below.refl w.heap.size w).alloc (Nat.le_refl _) (.cells #[.int .i64 0, .bool false] 106)).alloc (by simp) (.cells #[.int .i64 1, .bool false] 106);have HE:=bx (hE.below (hb0.mono hB));have HB0:=bx hb0;have bf:=bx ((aj.new w 106 #[.int .i64 0, .bool false]).alloc (.cells #[.int .i64 1, .bool false] 106));have Xw:=bx (show aj ((w.alloc (.cells #[.int .i64 0, .bool false] 106)).alloc (.cells #[.int .i64 1, .bool false] 106)) (w.heap.size+1) 106 #[.int .i64 1, .bool false] by
  have:=aj.new (w.alloc (.cells #[.int .i64 0, .bool false] 106)) 106 #[.int .i64 1, .bool false]
  simpa using this)
 clear hE hb0 hX nN hs
 cases hl:X.data.toList with
 | nil =>
  have hz:=isEmpty_nil hl;rw [HX.o] at hz;have HU:=bx (show BR X.data.toList = .agg #[.int .i64 0, .bool false] by rw [hl];rfl);rw [<- hl];clear hl
  go_enter Tryz.func98,Tryz.ntmps98
  go_wp2_with fail;refine wG 0 rfl ?_;go_wp2_with fail;rw [wC];exact bodyPost_ret (v:=.agg #[.int .i64 0, .bool false]) (by simp [results,Tryz.results98,go_sem]) rfl ⟨by rw [HU.o],HB0.o⟩
 | cons c t =>
  have hz:=isEmpty_cons hl;rw [HX.o] at hz;have HL:=bx hl;rw [<- hl];clear hl;have HD:=bx (O4 A B X _ (by unfold maxLen;omega) HE.o (Nat.le_trans hB HB0.o.size))
  go_enter Tryz.func98,Tryz.ntmps98
  go_wp2_with fail;refine wG 0 rfl ?_;go_wp2_with fail;rw [<- HX.o];refine HD.o.mono ?_;rintro e w1 ⟨rfl,hb1⟩;have HB1:=bx (bt HB0.o hb1);have lq:=bx (HE.o.below (hb1.mono (Nat.le_trans hB HB0.o.size)));have hbk:=bf.o.below hb1 bf.o.lt;have Ro:=Xw.o.below hb1 Xw.o.lt;clear hb1 hz
  cases hd:U.dec X.data.toList with
  | some q =>
   obtain⟨r,n⟩:=q;rw [SN hd];have HU:=bx (show BR X.data.toList = .agg #[.int .i64 n, .bool true] by unfold BR;rw [M.Gs hd]);have c0:w1.cell? ⟨w.heap.size,0,none⟩=some (.int .i64 0):=(hbk.cell 0).trans rfl;have c1:w1.cell? ⟨w.heap.size,1,none⟩=some (.bool false):=(hbk.cell 1).trans rfl;have f0:=hbk.frozen 0;have f1:=hbk.frozen 1;clear hd Ro;have hfin:=(hbk.dh 0 (.int .i64 n)).dh 1 (.bool true);have oO:=(HB1.o.setCell (p:=⟨w.heap.size,0,none⟩) (Nat.le_refl _) (.int .i64 n)).setCell (p:=⟨w.heap.size,1,none⟩) (Nat.le_refl _) (.bool true);have TG:=bx hfin;have afu:=bx oO;clear hfin oO hbk;go_wp2_with fail;rw [wC];have hfin:=TG.o;have oO:=afu.o;generalize (w1.setCell ⟨w.heap.size,0,none⟩ (.int .i64 n)).setCell ⟨w.heap.size,1,none⟩ (.bool true)=W2 at hfin oO ⊢;have d0:W2.cell? ⟨w.heap.size,0,none⟩=some (.int .i64 n):=(hfin.cell 0).trans rfl;have d1:W2.cell? ⟨w.heap.size,1,none⟩=some (.bool true):=(hfin.cell 1).trans rfl;exact bodyPost_ret (v:=.agg #[.int .i64 n, .bool true]) (by simp [results,Tryz.results98,go_sem,d0,d1]) rfl ⟨by rw [HU.o],oO⟩
  | none =>
   rw [Zw hd];have Bz:=bx (show BR X.data.toList = .agg #[.int .i64 (M.lQ X.data.toList), .bool false] by unfold BR;rw [M.LH hd]);clear hd;have HK:=bx hbk;have mD:=bx Ro;have dS:=HB1;have HSL:=bx (size_eq X);clear hbk Ro
   cases ht':t with
   | nil =>
    have aG:=bx (show M.lQ X.data.toList=1 by rw [HL.o,ht'];rfl);have t2:decide ((2:Int)<=(X.size:Int))=false:=by rw [HSL.o,HL.o,ht'];rfl
    clear ht';have c0:w1.cell? ⟨w.heap.size,0,none⟩=some (.int .i64 0):=(HK.o.cell 0).trans rfl;have c1:w1.cell? ⟨w.heap.size,1,none⟩=some (.bool false):=(HK.o.cell 1).trans rfl;have k0:w1.cell? ⟨w.heap.size+1,0,none⟩=some (.int .i64 1):=(mD.o.cell 0).trans rfl;have k1:w1.cell? ⟨w.heap.size+1,1,none⟩=some (.bool false):=(mD.o.cell 1).trans rfl;have f0:=HK.o.frozen 0;have f1:=HK.o.frozen 1;go_wp2_with fail;refine wp_loop_rounds 1 ?_;rw [rounds_succ];go_wp2_with fail
    go_step3
    go_wp2_with fail;rw [wC];have hfin:=(HK.o.dh 0 (.int .i64 1)).dh 1 (.bool false);have oO:=(dS.o.setCell (p:=⟨w.heap.size,0,none⟩) (Nat.le_refl _) (.int .i64 1)).setCell (p:=⟨w.heap.size,1,none⟩) (Nat.le_refl _) (.bool false);generalize (w1.setCell ⟨w.heap.size,0,none⟩ (.int .i64 1)).setCell ⟨w.heap.size,1,none⟩ (.bool false)=W2 at hfin oO ⊢;have d0:W2.cell? ⟨w.heap.size,0,none⟩=some (.int .i64 1):=(hfin.cell 0).trans rfl;have d1:W2.cell? ⟨w.heap.size,1,none⟩=some (.bool false):=(hfin.cell 1).trans rfl;exact bodyPost_ret (v:=.agg #[.int .i64 1, .bool false]) (by simp [results,Tryz.results98,go_sem,d0,d1]) rfl ⟨by rw [Bz.o,aG.o];rfl,oO⟩
   | cons d t' =>
    have hL2:X.data.toList=c::d::t':=by rw [HL.o,ht']
    have hsz2:2<=X.size:=by rw [HSL.o,hL2];simp
    have HL2:=bx hL2;have hx2:(X.extract 0 2).data.toList=[c,d]:=by rw [Lib.extract_data,hL2];rfl
    have ZK:(X.extract 0 2).size=2:=by rw [size_eq,hx2];rfl
    have H7:=bx (aad A B (X.extract 0 2) w1 (by rw [ZK];omega) lq.o (Nat.le_trans hB HB1.o.size));rw [hx2,M.ado] at H7;clear hx2 ZK hL2 ht'
    cases hb2:(decide (2<=U.aN (U.ak c))&&M.rng c d) with
    | false =>
     have aG:=bx (show M.lQ X.data.toList=1 by rw [HL2.o];exact M.KY _ hb2);rw [hb2] at H7;clear hb2;go_wp2_with fail;refine wp_loop_rounds 3 ?_;rw [rounds_succ];go_wp2_with fail;refine H7.o.mono ?_;rintro e w2 ⟨rfl,hb3⟩;have HK:=bx (HK.o.below hb3 HK.o.lt);have mD:=bx (mD.o.below hb3 mD.o.lt);have dS:=bx (bt HB1.o hb3);clear hb3;have c0:w2.cell? ⟨w.heap.size,0,none⟩=some (.int .i64 0):=(HK.o.cell 0).trans rfl;have c1:w2.cell? ⟨w.heap.size,1,none⟩=some (.bool false):=(HK.o.cell 1).trans rfl;have k0:w2.cell? ⟨w.heap.size+1,0,none⟩=some (.int .i64 1):=(mD.o.cell 0).trans rfl;have k1:w2.cell? ⟨w.heap.size+1,1,none⟩=some (.bool false):=(mD.o.cell 1).trans rfl;have f0:=HK.o.frozen 0;have f1:=HK.o.frozen 1;go_wp2_with fail
     go_step3
     refine⟨rfl,?_⟩;go_wp2_with fail;rw [Exit.noGoto_ret];have hfin:=(HK.o.dh 0 (.int .i64 1)).dh 1 (.bool false);have oO:=(dS.o.setCell (p:=⟨w.heap.size,0,none⟩) (Nat.le_refl _) (.int .i64 1)).setCell (p:=⟨w.heap.size,1,none⟩) (Nat.le_refl _) (.bool false);generalize (w2.setCell ⟨w.heap.size,0,none⟩ (.int .i64 1)).setCell ⟨w.heap.size,1,none⟩ (.bool false)=W2 at hfin oO ⊢;have d0:W2.cell? ⟨w.heap.size,0,none⟩=some (.int .i64 1):=(hfin.cell 0).trans rfl;have d1:W2.cell? ⟨w.heap.size,1,none⟩=some (.bool false):=(hfin.cell 1).trans rfl;exact bodyPost_ret (v:=.agg #[.int .i64 1, .bool false]) (by simp [results,Tryz.results98,go_sem,d0,d1]) rfl ⟨by rw [Bz.o,aG.o];rfl,oO⟩
    | true =>
     rw [hb2] at H7;have Ol:=bx hb2;clear hb2;go_wp2_with fail;refine wp_loop_rounds 3 ?_;rw [rounds_succ];go_wp2_with fail;refine H7.o.mono ?_;rintro e w2 ⟨rfl,hb3⟩;have HE2:=bx (lq.o.below (hb3.mono (Nat.le_trans hB HB1.o.size)));have hk6:=mD.o.below hb3 mD.o.lt;have p0:w2.cell? ⟨w.heap.size+1,0,none⟩=some (.int .i64 1):=(hk6.cell 0).trans rfl;have p1:=hk6.frozen 0;have HK:=bx ((HK.o.below hb3 HK.o.lt).far (p:=⟨w.heap.size+1,0,none⟩) (by simp) (.int .i64 2));have mD:=bx (hk6.dh 0 (.int .i64 2));have Xd:=bt HB1.o hb3;have dS:=bx (Xd.setCell (p:=⟨w.heap.size+1,0,none⟩) (by simp) (.int .i64 2));have MI:=bx (HE2.o.below (((Below.refl B w2).setCell (p:=⟨w.heap.size+1,0,none⟩) (by show B<=w.heap.size+1;omega) (.int .i64 2))));have mP:=bx (show (w2.setCell ⟨w.heap.size+1,0,none⟩ (.int .i64 2)).heap.size=w2.heap.size by simp [World.setCell]);have aJ:=bx (show B<=w2.heap.size from Nat.le_trans hB Xd.size);clear hb3 Xd hk6;go_wp2_with fail;generalize w2.setCell ⟨w.heap.size+1,0,none⟩ (.int .i64 2)=w3 at HK mD dS MI mP ⊢;clear p0 p1;rw [rounds_succ]
     cases ht2:t' with
     | nil =>
      have aG:=bx (show M.lQ X.data.toList=2 by rw [HL2.o,ht2];exact M.Pz Ol.o);have t3:decide ((3:Int)<=(X.size:Int))=false:=by rw [HSL.o,HL2.o,ht2];rfl
      clear ht2;have c0:w3.cell? ⟨w.heap.size,0,none⟩=some (.int .i64 0):=(HK.o.cell 0).trans rfl;have c1:w3.cell? ⟨w.heap.size,1,none⟩=some (.bool false):=(HK.o.cell 1).trans rfl;have k0:w3.cell? ⟨w.heap.size+1,0,none⟩=some (.int .i64 2):=(mD.o.cell 0).trans rfl;have k1:w3.cell? ⟨w.heap.size+1,1,none⟩=some (.bool false):=(mD.o.cell 1).trans rfl;have f0:=HK.o.frozen 0;have f1:=HK.o.frozen 1;go_wp2_with fail
      go_step3
      go_wp2_with fail;rw [wC];have hfin:=(HK.o.dh 0 (.int .i64 2)).dh 1 (.bool false);have oO:=(dS.o.setCell (p:=⟨w.heap.size,0,none⟩) (Nat.le_refl _) (.int .i64 2)).setCell (p:=⟨w.heap.size,1,none⟩) (Nat.le_refl _) (.bool false);generalize (w3.setCell ⟨w.heap.size,0,none⟩ (.int .i64 2)).setCell ⟨w.heap.size,1,none⟩ (.bool false)=W2 at hfin oO ⊢;have d0:W2.cell? ⟨w.heap.size,0,none⟩=some (.int .i64 2):=(hfin.cell 0).trans rfl;have d1:W2.cell? ⟨w.heap.size,1,none⟩=some (.bool false):=(hfin.cell 1).trans rfl;exact bodyPost_ret (v:=.agg #[.int .i64 2, .bool false]) (by simp [results,Tryz.results98,go_sem,d0,d1]) rfl ⟨by rw [Bz.o,aG.o];rfl,oO⟩
     | cons e' t2 =>
      have hL3:X.data.toList=c::d::e'::t2:=by rw [HL2.o,ht2]
      have hsz3:3<=X.size:=by rw [HSL.o,hL3];simp
      have Ai:=bx hL3;have hx3:(X.extract 0 3).data.toList=[c,d,e']:=by rw [Lib.extract_data,hL3];rfl
      have aa9:(X.extract 0 3).size=3:=by rw [size_eq,hx3];rfl
      have Gn:=bx (aad A B (X.extract 0 3) w3 (by rw [aa9];omega) MI.o (by rw [mP.o];exact aJ.o));rw [hx3,M.aio] at Gn;clear hx3 aa9 hL3 ht2 hsz2;have JH:=bx (show M.rng c d=true by have:=Ol.o;rw [Bool.and_eq_true] at this;exact this.2);rw [JH.o,Bool.and_true] at Gn
      cases hb5:(decide (U.aN (U.ak c)=3)&&U.gW e') with
      | false =>
       have aG:=bx (show M.lQ X.data.toList=2 by rw [Ai.o];exact M.QU _ Ol.o hb5);rw [hb5] at Gn;clear hb5;go_wp2_with fail;refine Gn.o.mono ?_;rintro e w4 ⟨rfl,hb6⟩;have dS:=bx (bt dS.o hb6);have HK:=bx (HK.o.below hb6 HK.o.lt);have mD:=bx (mD.o.below hb6 mD.o.lt);clear hb6;have c0:w4.cell? ⟨w.heap.size,0,none⟩=some (.int .i64 0):=(HK.o.cell 0).trans rfl;have c1:w4.cell? ⟨w.heap.size,1,none⟩=some (.bool false):=(HK.o.cell 1).trans rfl;have k0:w4.cell? ⟨w.heap.size+1,0,none⟩=some (.int .i64 2):=(mD.o.cell 0).trans rfl;have k1:w4.cell? ⟨w.heap.size+1,1,none⟩=some (.bool false):=(mD.o.cell 1).trans rfl;have f0:=HK.o.frozen 0;have f1:=HK.o.frozen 1;go_wp2_with fail
       go_step3
       refine⟨rfl,?_⟩;go_wp2_with fail;rw [Exit.noGoto_ret];have hfin:=(HK.o.dh 0 (.int .i64 2)).dh 1 (.bool false);have oO:=(dS.o.setCell (p:=⟨w.heap.size,0,none⟩) (Nat.le_refl _) (.int .i64 2)).setCell (p:=⟨w.heap.size,1,none⟩) (Nat.le_refl _) (.bool false);generalize (w4.setCell ⟨w.heap.size,0,none⟩ (.int .i64 2)).setCell ⟨w.heap.size,1,none⟩ (.bool false)=W2 at hfin oO ⊢;have d0:W2.cell? ⟨w.heap.size,0,none⟩=some (.int .i64 2):=(hfin.cell 0).trans rfl;have d1:W2.cell? ⟨w.heap.size,1,none⟩=some (.bool false):=(hfin.cell 1).trans rfl;exact bodyPost_ret (v:=.agg #[.int .i64 2, .bool false]) (by simp [results,Tryz.results98,go_sem,d0,d1]) rfl ⟨by rw [Bz.o,aG.o];rfl,oO⟩
      | true =>
       have aG:=bx (show M.lQ X.data.toList=3 by rw [Ai.o];exact M.WC _ Ol.o hb5);rw [hb5] at Gn;clear hb5;go_wp2_with fail;refine Gn.o.mono ?_;rintro e w4 ⟨rfl,hb6⟩;have Ze:=bt dS.o hb6;have hk6:=mD.o.below hb6 mD.o.lt;have p0:w4.cell? ⟨w.heap.size+1,0,none⟩=some (.int .i64 2):=(hk6.cell 0).trans rfl;have p1:=hk6.frozen 0;have HK:=bx ((HK.o.below hb6 HK.o.lt).far (p:=⟨w.heap.size+1,0,none⟩) (by simp) (.int .i64 3));have mD:=bx (hk6.dh 0 (.int .i64 3));have dS:=bx (Ze.setCell (p:=⟨w.heap.size+1,0,none⟩) (by simp) (.int .i64 3));clear hb6 Ze hk6;go_wp2_with fail;generalize w4.setCell ⟨w.heap.size+1,0,none⟩ (.int .i64 3)=w5 at HK mD dS ⊢;clear p0 p1;rw [rounds_succ];have c0:w5.cell? ⟨w.heap.size,0,none⟩=some (.int .i64 0):=(HK.o.cell 0).trans rfl;have c1:w5.cell? ⟨w.heap.size,1,none⟩=some (.bool false):=(HK.o.cell 1).trans rfl;have k0:w5.cell? ⟨w.heap.size+1,0,none⟩=some (.int .i64 3):=(mD.o.cell 0).trans rfl;have k1:w5.cell? ⟨w.heap.size+1,1,none⟩=some (.bool false):=(mD.o.cell 1).trans rfl;have f0:=HK.o.frozen 0;have f1:=HK.o.frozen 1;go_wp2_with fail
       go_step3
       go_wp2_with fail;rw [wC];have hfin:=(HK.o.dh 0 (.int .i64 3)).dh 1 (.bool false);have oO:=(dS.o.setCell (p:=⟨w.heap.size,0,none⟩) (Nat.le_refl _) (.int .i64 3)).setCell (p:=⟨w.heap.size,1,none⟩) (Nat.le_refl _) (.bool false);generalize (w5.setCell ⟨w.heap.size,0,none⟩ (.int .i64 3)).setCell ⟨w.heap.size,1,none⟩ (.bool false)=W2 at hfin oO ⊢;have d0:W2.cell? ⟨w.heap.size,0,none⟩=some (.int .i64 3):=(hfin.cell 0).trans rfl;have d1:W2.cell? ⟨w.heap.size,1,none⟩=some (.bool false):=(hfin.cell 1).trans rfl;exact bodyPost_ret (v:=.agg #[.int .i64 3, .bool false]) (by simp [results,Tryz.results98,go_sem,d0,d1]) rfl ⟨by rw [Bz.o,aG.o];rfl,oO⟩
def aa5 {α:Type} (n:Nat) (P:Program) (gf:Nat) (lb:Array Value) (encs:α->Array Value) (own keep:Nat->Prop) (ok:List α->α->Prop) (S:List α->World->Prop) (l:Nat) (W1:World):Prop :=
 ∀ (J Jx:List α->World->Prop),(∀ pre W W',J pre W->Turns own W W'->J pre W')->(∀ pre W W',Jx pre W->Turns own W W'->Jx pre W') ->
  (∀ pre x W0 W,J pre W0->Turns own W0 W->ok pre x->YieldAt Fence.wide (n-1) P l (encs x) W λe W'=>(e = .returned (.bool true)/\J (pre++[x]) W'/\Holds (λk=>keep k\/(W0.heap.size<=k/\k<W.heap.size)) W W')\/(e = .returned (.bool false)/\Jx (pre++[x]) W')) ->
  J [] W1->CallsIn Fence.wide n P gf (#[.func (.yield l) #[] #[]]++lb) W1 λe W'=>(∃ v,e = .returned v)/\((∃ xs,S xs W'/\J xs W')\/(∃ pre,Jx pre W'))
theorem afK {α:Type} {P:Program} {n:Nat} {g:Operand} {ps:Array Tmp} {assign body:Code} {Q:Exit->Act->World->Prop} {a:Act} {w:World}
  {gf:Nat} {lb:Array Value} (hg:a.eval g = .func (.func gf) #[] lb) (eg:∀ args w,(callFunc gf args).run P w = .ok (.enter gf args) w)
  {encs:α->Array Value} {own keep:Nat->Prop} {ok:List α->α->Prop} {S:List α->World->Prop} (hown:∀ k,own k\/keep k->k<w.heap.size)
  (hit:∀ W1,Turns (λ_=>False) w W1->aa5 (n-1) P gf lb encs own keep ok S (w.heap.size+1) W1)
  (hps:∀ x,(encs x).size=ps.size)
  (I:List α->World->Prop) (Ix:Code->List α->World->Prop)
  (hI:∀ pre W W',I pre W->Turns (λk=>own k\/k=w.heap.size+1) W W'->I pre W')
  (hIx:∀ c pre W W',Ix c pre W->Turns (λk=>own k\/k=w.heap.size+1) W W'->Ix c pre W')
  (h0:I [] w) (Ax:α->Act->World->Prop) (hAx:∀ x a1 W W',Ax x a1 W->Turns (λk=>k=w.heap.size+1) W W'->Ax x a1 W')
  (hassign:∀ (x:α) (W:World) (K:Act->World->Prop),w.heap.size+2<=W.heap.size->(∀ a1 W1,Turns (λ_=>False) W W1->Ax x a1 W1->K a1 W1) ->
   assign.wpIn (Fence.wide.inRound (w.heap.size+1)) (n-1-1) P (Exit.then K (λ_ _ _=>False)) { tmps:=(ps.zip (encs x)).foldl (λt (p,v)=>t.setIfInBounds p v) a.tmps,defers:=[] } W)
  (hbody:∀ (pre:List α) (x:α) (a1:Act) (W0 W:World) (N:Nat),w.heap.size+2<=W0.heap.size->I pre W0->Turns (λk=>own k\/k=w.heap.size+1) W0 W->N<=W.heap.size->ok pre x->Ax x a1 W ->
   body.wpIn (Fence.wide.inRound (w.heap.size+1)) (n-1-1) P (Xq (λk=>keep k\/(W0.heap.size<=k/\k<N)) I Ix (w.heap.size+1) w.heap.size (pre++[x]) W) a1 W)
  (hdone:∀ (xs:List α) (W:World),w.heap.size+2<=W.heap.size->S xs W->I xs W->W.heap[w.heap.size]?=some (.deferred (some []))->Q .normal { a with defers:={ target:=.collected w.heap.size,args:=#[] }::a.defers } W)
  (hstop:∀ (c:Code) (pre:List α) (W:World),w.heap.size+2<=W.heap.size->Ix c pre W->W.heap[w.heap.size]?=some (.deferred (some []))->c.wpIn Fence.wide n P Q { a with defers:={ target:=.collected w.heap.size,args:=#[] }::a.defers } W)
  (hS:∀ xs W W',S xs W->Turns (λk=>k=w.heap.size+1) W W'->S xs W') :
  (Code.rangeFunc g ps assign body).wpIn Fence.wide n P Q a w:=by
 refine wpIn_rangeFunc ?_;intro fn hfn;obtain⟨rec,hrec⟩:∃ rec:LoopState->Option Code->Loop,rec=λst pe=>{ state:=st,pending:=pe,fn,tmps:=a.tmps,params:=ps,assign,body,defers:=w.heap.size }:=⟨_,rfl⟩
 obtain⟨W1,hW1⟩:∃ W1,(w.alloc (.deferred (some []))).alloc (.loop (rec .ready none))=W1:=⟨_,rfl⟩
 have hL1:W1.heap[w.heap.size+1]?=some (.loop (rec .ready none)):=by
  rw [<- hW1];have:=World.alloc_heap_new (w.alloc (.deferred (some []))) (.loop (rec .ready none));rwa [World.size_alloc] at this
 have hK1:W1.heap[w.heap.size]?=some (.deferred (some [])):=by
  rw [<- hW1];exact(Below.heap_alloc _ _ _ (by simp)).trans (World.alloc_heap_new w _)
 have hT1:∀ o,Turns o w W1:=λo=>by rw [<- hW1];exact(Turns.alloc w _).trans (Turns.alloc _ _)
 have hI1:I [] W1:=hI _ _ _ h0 (hT1 _);refine⟨w.heap.size+1,[{ target:=.collected w.heap.size,args:=#[] }],W1,{ target:=.fn (.func gf) lb,args:=#[.func (.yield (w.heap.size+1)) #[] #[]] },W1,gf,
  #[.func (.yield (w.heap.size+1)) #[] #[]]++lb,W1,?_,?_,?_,?_,λh=>by simp [Fence.wide] at h,?_⟩
 ·rw [<- hW1,hrec];exact run_enterLoop_outer _ _ _ _ _
 ·simp only [resolve,hg];simp [go_sem]
 ·intro f' _;trivial
 ·simp [invoke,go_sem,eg]
 ·have hnl:¬ own (w.heap.size+1):=λh=>by have:=hown _ (.inl h);omega
  have hnd:¬ own w.heap.size:=λh=>by have:=hown _ (.inl h);omega
  refine(hit W1 (hT1 _)
   (λpre W=>I pre W/\W.heap[w.heap.size+1]?=some (.loop (rec .ready none))/\W.heap[w.heap.size]?=some (.deferred (some [])))
   (λpre W=>∃ c,Ix c pre W/\W.heap[w.heap.size+1]?=some (.loop (rec .done (some c)))/\W.heap[w.heap.size]?=some (.deferred (some [])))
   ?_ ?_ ?_ ⟨hI1,hL1,hK1⟩).mono ?_
  ·rintro pre W W' ⟨hi,hl,hk⟩ ht;exact⟨hI _ _ _ hi (ht.mono λk=>.inl),(ht.block _ (Array.getElem?_eq_some_iff.1 hl).1 hnl).trans hl,(ht.block _ (Array.getElem?_eq_some_iff.1 hk).1 hnd).trans hk⟩
  ·rintro pre W W' ⟨c,hi,hl,hk⟩ ht;exact⟨c,hIx _ _ _ _ hi (ht.mono λk=>.inl),(ht.block _ (Array.getElem?_eq_some_iff.1 hl).1 hnl).trans hl,(ht.block _ (Array.getElem?_eq_some_iff.1 hk).1 hnd).trans hk⟩
  ·-- one round
   rintro pre x W0 W ⟨hi,hl0,hk0⟩ ht hok;have hlt0:w.heap.size+1<W0.heap.size:=(Array.getElem?_eq_some_iff.1 hl0).1;have hl:=(ht.block _ hlt0 hnl).trans hl0;have hk:=(ht.block _ (by omega) hnd).trans hk0;have hlt:w.heap.size+1<W.heap.size:=(Array.getElem?_eq_some_iff.1 hl).1;have hy:=run_yield (P:=P) (args:=encs x) hl (by rw [hrec];exact hps x);rw [hrec] at hy;refine⟨fn,_,assign,body,hy,roundIn_of_wpIn hfn (hassign x W _ (by omega) λa1 Wa ha hax=>?_)⟩;have hla:Wa.heap[w.heap.size+1]?=some (.loop (rec .ready none)):=(ha.block _ hlt (λh=>h)).trans hl;have hka:Wa.heap[w.heap.size]?=some (.deferred (some [])):=(ha.block _ (by omega) (λh=>h)).trans hk;have Dk:w.heap.size+1<Wa.heap.size:=(Array.getElem?_eq_some_iff.1 hla).1;refine⟨_,run_beginRound hla (by rw [hrec]),?_⟩;obtain⟨Wb,lK⟩:∃ Wb,Wa.putObj (w.heap.size+1) (.loop { rec .ready none with state:=.busy })=Wb:=⟨_,rfl⟩
   rw [lK];have htb:∀ o:Nat->Prop,o (w.heap.size+1)->Turns o Wa Wb:=λo ho=>by rw [<- lK];exact Turns.putObj _ ho _
   have hlb:Wb.heap[w.heap.size+1]?=some (.loop { rec .ready none with state:=.busy }):=by rw [<- lK];exact World.putObj_heap_same Dk
   have hkb:Wb.heap[w.heap.size]?=some (.deferred (some [])):=by rw [<- lK];exact(World.putObj_heap_other (by omega)).trans hka
   have hsb:Wb.heap.size=Wa.heap.size:=by rw [<- lK];simp
   refine wpIn_mono (hbody pre x a1 W0 Wb W.heap.size (by omega) hi ((ht.mono λ_ h=>.inl h).trans ((ha.mono λ_ h=>h.elim).trans (htb _ (.inr rfl)))) (by have:=ha.size;omega) hok (hAx _ _ _ _ hax (htb _ rfl))) ?_;have fin:∀ (jump:Option Code) (W3:World),Holds (λk=>k=w.heap.size+1\/k=w.heap.size) Wb W3 ->
     (Instr.endRound (w.heap.size+1) jump).run P W3 = .ok (.bool jump.isNone) (W3.putObj (w.heap.size+1) (.loop (rec (if jump.isNone then .ready else .done) jump))) /\
     (W3.putObj (w.heap.size+1) (.loop (rec (if jump.isNone then .ready else .done) jump))).heap[w.heap.size+1]?=some (.loop (rec (if jump.isNone then .ready else .done) jump)) /\
     (W3.putObj (w.heap.size+1) (.loop (rec (if jump.isNone then .ready else .done) jump))).heap[w.heap.size]?=some (.deferred (some [])):=λjump W3 hk3=>by
    have hl3:=(hk3.block _ (.inl rfl)).trans hlb;have:=run_endRound (P:=P) jump hl3;rw [hrec] at this ⊢;exact⟨this,World.putObj_heap_same (Array.getElem?_eq_some_iff.1 hl3).1,(World.putObj_heap_other (by omega)).trans ((hk3.block _ (.inr rfl)).trans hkb)⟩
   rintro e a3 W3 hp
   cases e with
   | normal =>
    obtain⟨hh,hi3⟩:=hp;obtain⟨hr,hl4,hk4⟩:=fin none W3 (hh.mono λ_ h=>.inr h);refine⟨_,_,hr, .inl ⟨rfl,⟨hI _ _ _ hi3 (Turns.putObj _ (.inr rfl) _),hl4,hk4⟩,?_⟩⟩;refine⟨?_,λk ho=>?_⟩
    ·have:=ha.size;have:=hh.size;simp;omega
    ·have hkw:k≠w.heap.size+1/\k<W.heap.size:=by
      rcases ho with h | h
      ·have:=hown k (.inr h);omega
      ·omega
     rw [World.putObj_heap_other (λe=>hkw.1 e),hh.block k (.inl ho),<- lK,World.putObj_heap_other (λe=>hkw.1 e)];exact ha.block k hkw.2 (λh=>h)
   | ret =>
    obtain⟨hh,hi3⟩:=hp;obtain⟨hr,hl4,hk4⟩:=fin (some .ret) W3 hh;exact⟨_,_,hr, .inr ⟨rfl, .ret,hIx _ _ _ _ hi3 (Turns.putObj _ (.inr rfl) _),hl4,hk4⟩⟩
   | exit id =>
    obtain⟨hh,hi3⟩:=hp;obtain⟨hr,hl4,hk4⟩:=fin (some (.exit id)) W3 hh;exact⟨_,_,hr, .inr ⟨rfl, .exit id,hIx _ _ _ _ hi3 (Turns.putObj _ (.inr rfl) _),hl4,hk4⟩⟩
   | goto t =>
    obtain⟨hh,hi3⟩:=hp;obtain⟨hr,hl4,hk4⟩:=fin (some (.goto t)) W3 hh;exact⟨_,_,hr, .inr ⟨rfl, .goto t,hIx _ _ _ _ hi3 (Turns.putObj _ (.inr rfl) _),hl4,hk4⟩⟩
   | panic ch=>exact hp.elim
   | outgrown=>exact hp.elim
  ·-- behind the iterator
   rintro e W2 ⟨⟨v,rfl⟩,(⟨xs,Cm,hi,hl,hk⟩ | ⟨pre,c,hi,hl,hk⟩)⟩
   ·have hlt:=(Array.getElem?_eq_some_iff.1 hl).1;exact⟨none,_,by have:=run_endLoop (P:=P) hl (by rw [hrec];simp);rw [hrec] at this;exact this,
     hdone xs _ (by simp;omega) (hS _ _ _ Cm (Turns.putObj (own:=λk=>k=w.heap.size+1) _ rfl _)) (hI _ _ _ hi (Turns.putObj _ (.inr rfl) _)) ((World.putObj_heap_other (by omega)).trans hk)⟩
   ·have hlt:=(Array.getElem?_eq_some_iff.1 hl).1;exact⟨some c,_,by have:=run_endLoop (P:=P) hl (by rw [hrec];simp);rw [hrec] at this;exact this,
     hstop c pre _ (by simp;omega) (hIx _ _ _ _ hi (Turns.putObj _ (.inr rfl) _)) ((World.putObj_heap_other (by omega)).trans hk)⟩
end
section
open Go.RowKit Go.Shelf
attribute [local go_sem] Oper.semAt_some
def MV (x:M.Place):Array Value:=#[.int .i64 (x.1:Int), .agg #[.int .i64 (x.2.1:Int), .bool x.2.2]]
def NG (l:List UInt8) (pre:List M.Place) (x:M.Place):Prop:=∃ t,pre++x::t=M.places l
theorem amu (p:Option Addr) (w:World) :
  Calls Tryz.prog 51 #[.pointer p] w λe w'=>e = .returned (.func (.func 97) #[] #[.pointer (some ⟨w.heap.size,0,none⟩)])/\w.alloc (.cells #[.pointer p] 99)=w':=by
 go_enter Tryz.func51,Tryz.ntmps51
 go_wp2
 go_ret
 exact⟨rfl,rfl⟩
theorem aed (n:Nat) (A:Nat->Addr) (B b Bn:Nat) (s:ByteArray) (hs:s.size<=16777216) (l:Nat) (W1:World)
  (hE:E A B W1) (hB:B<=b) (hb:aj W1 b 103 #[.string s]) (hBn:aj W1 Bn 99 #[.pointer (some ⟨b,0,none⟩)]) :
  aa5 (n+1) Tryz.prog 97 #[.pointer (some ⟨Bn,0,none⟩)] MV (λ_=>False) (λk=>k=b\/k=Bn\/k<B) (NG s.data.toList) (λxs _=>xs=M.places s.data.toList) l W1:=by
 intro J Jx hJ hJx hY h0;have HY:=bx hY;have HJ:=bx hJ;clear hY hJ;have aU:=bx (size_eq s);refine callsIn_of_wp Tryz.func97 rfl trivial ?_;simp only [Tryz.ntmps97,List.size_toArray,List.length_cons,List.length_nil,Nat.reduceAdd,Nat.reduceSub,Array.replicate_succ,Array.replicate_zero,List.push_toArray,List.append_toArray,List.nil_append,List.cons_append]
 gi_wp2
 refine wpIn_wide.2 (wp_scope_straight ((wpIn_wide (n:=n+1)).1 ?_))
 gi_wp2
 refine wpIn_label ?_
 gi_wp2
 gi_loopw [3] (λv wr=>∃ (a:Nat) (pre:List M.Place),a<=s.size/\v = .int .i64 a/\Box (pre++M.rest s.data.toList a=M.places s.data.toList)/\Box (E A B wr)/\Box (aj wr b 103 #[.string s])/\Box (aj wr Bn 99 #[.pointer (some ⟨b,0,none⟩)])/\Box (J pre wr))
  (λv _=>s.size-(intOf v).toNat)
 case atStart=>exact⟨0,[],by omega,rfl,⟨by rw [M.zC];rfl⟩,⟨hE⟩,⟨hb⟩,⟨hBn⟩,⟨h0⟩⟩
 case round =>
  obtain⟨a,pre,ha,rfl,hp,hEr,hbr,Hz,hj⟩:=hrel;have c0:wr.cell? ⟨b,0,none⟩=some (.string s):=(hbr.o.cell 0).trans rfl;have c1:wr.cell? ⟨Bn,0,none⟩=some (.pointer (some ⟨b,0,none⟩)):=(Hz.o.cell 0).trans rfl;clear hE hb hBn h0
  by_cases hlt:a<s.size
  ·have HA:=bx ((callsIn_wide (n:=n)).2 (adM A B b s a wr c0 ha hs hEr.o (by have:=hbr.o.lt;omega)));have hlt':a<s.data.toList.length:=by rw [<- aU.o];exact hlt
   obtain⟨m,o,hu⟩:∃ m o,M.unit (s.data.toList.drop a)=(m,o):=⟨_,_,rfl⟩
   have oU:=M.Bf hlt';have hrc:=M.uy s.data.toList a hlt';rw [hu] at oU hrc;simp only at oU hrc;have HU:=bx (show BR (s.data.toList.drop a) = .agg #[.int .i64 m, .bool o] by unfold BR;rw [hu]);have HP:=bx (show pre++(a,m,o)::M.rest s.data.toList (a+m)=M.places s.data.toList by rw [<- hrc];exact hp.o);have ham:a+m<=s.size:=by rw [aU.o];exact oU.2.2
   have hm1:=oU.1;have hm4:=oU.2.1;clear hlt' hu oU hrc
   gi_wp2
   refine⟨trivial,HA.o.mono ?_⟩;rintro e w1 ⟨rfl,hb1⟩;rw [HU.o];have hT1:Turns (λ_=>False) wr (w1.alloc (.cells #[.int .i64 m, .bool o] 106)):=(Turns.of_below hb1).trans (Turns.alloc _ _);have HT1:=bx hT1;have hy:=HY.o pre (a,m,o) wr _ hj.o hT1 ⟨_,HP.o⟩;unfold MV at hy;simp only at hy;obtain⟨fn,tmps,assign,body,hy,mX⟩:=hy;have sF:=bx mX;have OB:=hb1.size;clear mX hT1 hb1
   gi_wp2
   refine sF.o.mono ?_;rintro e W3 (⟨rfl,hj3,hk3⟩ | ⟨rfl,hx3⟩)
   ·have HR3:=bx (show Box (E A B W3)/\Box (aj W3 b 103 #[.string s])/\Box (aj W3 Bn 99 #[.pointer (some ⟨b,0,none⟩)])/\Box (J (pre++[(a,m,o)]) W3) from
     ⟨⟨(hEr.o.below (HT1.o.below (by have:=hbr.o.lt;omega) (λ_ h=>h.elim))).holds hk3 (λk hk=>.inl (.inr (.inr hk)))⟩,⟨hk3.blk (HT1.o.blk hbr.o (λh=>h)) (.inl (.inl rfl))⟩,⟨hk3.blk (HT1.o.blk Hz.o (λh=>h)) (.inl (.inr (.inl rfl)))⟩,⟨hj3⟩⟩)
    have hbx:=hk3.blk (aj.new w1 106 #[.int .i64 m, .bool o]) (.inr ⟨OB,by simp⟩);have x0:W3.cell? ⟨w1.heap.size,0,none⟩=some (.int .i64 m):=(hbx.cell 0).trans rfl;clear hj3 hk3 hbx
    gi_wp2
    go_roundw
    case rel=>exact⟨a+m,pre++[(a,m,o)],ham,by go_num,⟨by rw [List.append_assoc];exact HP.o⟩,HR3.o.1,HR3.o.2.1,HR3.o.2.2.1,HR3.o.2.2.2⟩
    case measure=>simp [intOf];omega
   ·gi_wp2
    rw [Exit.noGoto_normal]
    go_end0
    exact⟨⟨_,rfl⟩, .inr ⟨_,hx3⟩⟩
  ·have wP:=bx (show pre=M.places s.data.toList by
    have:=hp.o;rw [M.rest_end _ _ (by rw [<- aU.o];omega),List.append_nil] at this;exact this)
   gi_wp2
   rw [Exit.noGoto_normal]
   go_end0
   exact⟨⟨_,rfl⟩, .inl ⟨pre,wP.o,hj.o⟩⟩
theorem Lu (w:World) (o:Obj):Below w.heap.size w (w.alloc o):=(Below.refl _ _).alloc (Nat.le_refl _) o
theorem sS (l:List UInt8):(M.places l).length<=l.length:=by
 have h:=M.afk l 0 (by omega);have key:∀ (k a:Nat),l.length<=a+k->(M.rest l a).length<=l.length-a:=by
  intro k
  induction k with
  | zero=>intro a h;rw [M.rest_end l a (by omega)];simp
  | succ k ih =>
   intro a h
   by_cases hl:l.length<=a
   ·rw [M.rest_end l a hl];simp
   ·have hu:=M.Bf (s:=l) (a:=a) (by omega);rw [M.uy l a (by omega),List.length_cons];have:=ih (a+(M.unit (l.drop a)).1) (by omega);omega
 have:=key l.length 0 (by omega);rw [M.zC] at this;omega
theorem agU {l:List UInt8} {pre:List M.Place} {x:M.Place} (h:NG l pre x):pre.length<l.length:=by
 obtain⟨t,ht⟩:=h;have h1:=congrArg List.length ht;have h2:=sS l;simp only [List.length_append,List.length_cons] at h1;omega
theorem three (w:World) (cs cs1 cs2:Array Value) (T0 T1 T2:TypeId) :
  aj (((w.alloc (.cells cs T0)).alloc (.cells cs1 T1)).alloc (.cells cs2 T2)) w.heap.size T0 cs/\aj (((w.alloc (.cells cs T0)).alloc (.cells cs1 T1)).alloc (.cells cs2 T2)) (w.heap.size+1) T1 cs1/\aj (((w.alloc (.cells cs T0)).alloc (.cells cs1 T1)).alloc (.cells cs2 T2)) (w.heap.size+1+1) T2 cs2 /\
   Below w.heap.size w (((w.alloc (.cells cs T0)).alloc (.cells cs1 T1)).alloc (.cells cs2 T2))/\(((w.alloc (.cells cs T0)).alloc (.cells cs1 T1)).alloc (.cells cs2 T2)).heap.size=w.heap.size+3:=by
 refine⟨((aj.new w _ _).alloc _).alloc _,?_,?_,(((Below.refl _ _).alloc (Nat.le_refl _) _).alloc (by simp) _).alloc (by simp;omega) _,by simp⟩
 ·have:=(aj.new (w.alloc (.cells cs T0)) T1 cs1).alloc (.cells cs2 T2)
  simpa using this
 ·have:=aj.new ((w.alloc (.cells cs T0)).alloc (.cells cs1 T1)) T2 cs2
  simpa using this
def fN (n:Nat):Nat:=floatOfInt .f64 (n:Int)
end
section
open Go.RowKit
def Sl {α:Type} (n:Nat) (P:Program) (gf:Nat) (lb:Array Value) (encs:α->Array Value) (own keep:Nat->Prop) (ok:List α->α->World->Prop) (S:List α->World->Prop) (l:Nat) (W1:World):Prop :=
 ∀ (J Jx:Nat->List α->World->Prop),(∀ N1 pre W W',J N1 pre W->Turns own W W'->J N1 pre W')->(∀ N1 pre W W',Jx N1 pre W->Turns (λ_=>False) W W'->Jx N1 pre W') ->
  (∀ N1 pre x W0 W,W1.heap.size<=N1->N1<=W.heap.size->J N1 pre W0->Turns own W0 W->ok pre x W->YieldAt Fence.wide (n-1) P l (encs x) W λe W'=>(e = .returned (.bool true)/\J N1 (pre++[x]) W'/\Turns (λk=>¬ (keep k\/(W1.heap.size<=k/\k<N1)\/(W0.heap.size<=k/\k<W.heap.size))) W W')\/(e = .returned (.bool false)/\Jx N1 (pre++[x]) W')) ->
  (∀ N1,W1.heap.size<=N1->J N1 [] W1)->CallsIn Fence.wide n P gf (#[.func (.yield l) #[] #[]]++lb) W1 λe W'=>(∃ v,e = .returned v)/\((∃ N1 xs,S xs W'/\J N1 xs W')\/(∃ N1 pre,Jx N1 pre W'))
theorem JI {α:Type} {P:Program} {n:Nat} {g:Operand} {ps:Array Tmp} {assign body:Code} {Q:Exit->Act->World->Prop} {a:Act} {w:World}
  {gf:Nat} {lb:Array Value} (hg:a.eval g = .func (.func gf) #[] lb) (eg:∀ args w,(callFunc gf args).run P w = .ok (.enter gf args) w)
  {encs:α->Array Value} {own keep:Nat->Prop} {ok:List α->α->World->Prop} {S:List α->World->Prop} (hown:∀ k,own k\/keep k->k<w.heap.size)
  (hit:∀ W1,Turns (λ_=>False) w W1->Sl (n-1) P gf lb encs own keep ok S (w.heap.size+1) W1)
  (hps:∀ x,(encs x).size=ps.size)
  (I:Nat->List α->World->Prop) (Ix:Nat->Code->List α->World->Prop)
  (hI:∀ N1 pre W W',I N1 pre W->Turns (λk=>own k\/k=w.heap.size+1) W W'->I N1 pre W')
  (hIx:∀ N1 c pre W W',Ix N1 c pre W->Turns (λk=>k=w.heap.size+1) W W'->Ix N1 c pre W')
  (hokS:∀ pre x W W',ok pre x W->Turns (λk=>k=w.heap.size+1) W W'->ok pre x W') (h0:∀ N1,w.heap.size+2<=N1->I N1 [] w) (Ax:α->Act->World->Prop) (hAx:∀ x a1 W W',Ax x a1 W->Turns (λk=>k=w.heap.size+1) W W'->Ax x a1 W')
  (hassign:∀ (x:α) (W:World) (K:Act->World->Prop),w.heap.size+2<=W.heap.size->(∀ a1 W1,Turns (λ_=>False) W W1->Ax x a1 W1->K a1 W1) ->
   assign.wpIn (Fence.wide.inRound (w.heap.size+1)) (n-1-1) P (Exit.then K (λ_ _ _=>False)) { tmps:=(ps.zip (encs x)).foldl (λt (p,v)=>t.setIfInBounds p v) a.tmps,defers:=[] } W)
  (hbody:∀ (N1:Nat) (pre:List α) (x:α) (a1:Act) (W0 W:World) (N:Nat),w.heap.size+2<=N1->N1<=N->w.heap.size+2<=W0.heap.size->I N1 pre W0->Turns (λk=>own k\/k=w.heap.size+1) W0 W->N<=W.heap.size->ok pre x W->Ax x a1 W ->
   body.wpIn (Fence.wide.inRound (w.heap.size+1)) (n-1-1) P (aap (λk=>keep k\/(w.heap.size+2<=k/\k<N1)\/(W0.heap.size<=k/\k<N)) (I N1) (Ix N1) (w.heap.size+1) w.heap.size (pre++[x]) W) a1 W)
  (hdone:∀ (N1:Nat) (xs:List α) (W:World),w.heap.size+2<=W.heap.size->S xs W->I N1 xs W->W.heap[w.heap.size]?=some (.deferred (some []))->Q .normal { a with defers:={ target:=.collected w.heap.size,args:=#[] }::a.defers } W)
  (hstop:∀ (N1:Nat) (c:Code) (pre:List α) (W:World),w.heap.size+2<=W.heap.size->Ix N1 c pre W->W.heap[w.heap.size]?=some (.deferred (some []))->c.wpIn Fence.wide n P Q { a with defers:={ target:=.collected w.heap.size,args:=#[] }::a.defers } W)
  (hS:∀ xs W W',S xs W->Turns (λk=>k=w.heap.size+1) W W'->S xs W') :
  (Code.rangeFunc g ps assign body).wpIn Fence.wide n P Q a w:=by
 refine wpIn_rangeFunc ?_;intro fn hfn;obtain⟨rec,hrec⟩:∃ rec:LoopState->Option Code->Loop,rec=λst pe=>{ state:=st,pending:=pe,fn,tmps:=a.tmps,params:=ps,assign,body,defers:=w.heap.size }:=⟨_,rfl⟩
 obtain⟨W1,hW1⟩:∃ W1,(w.alloc (.deferred (some []))).alloc (.loop (rec .ready none))=W1:=⟨_,rfl⟩
 have hL1:W1.heap[w.heap.size+1]?=some (.loop (rec .ready none)):=by
  rw [<- hW1];have:=World.alloc_heap_new (w.alloc (.deferred (some []))) (.loop (rec .ready none));rwa [World.size_alloc] at this
 have hK1:W1.heap[w.heap.size]?=some (.deferred (some [])):=by
  rw [<- hW1];exact(Below.heap_alloc _ _ _ (by simp)).trans (World.alloc_heap_new w _)
 have hT1:∀ o,Turns o w W1:=λo=>by rw [<- hW1];exact(Turns.alloc w _).trans (Turns.alloc _ _)
 have hs1:W1.heap.size=w.heap.size+2:=by rw [<- hW1];simp
 have hI1:∀ N1,W1.heap.size<=N1->I N1 [] W1:=λN1 h=>hI N1 _ _ _ (h0 N1 (by omega)) (hT1 _)
 refine⟨w.heap.size+1,[{ target:=.collected w.heap.size,args:=#[] }],W1,{ target:=.fn (.func gf) lb,args:=#[.func (.yield (w.heap.size+1)) #[] #[]] },W1,gf,
  #[.func (.yield (w.heap.size+1)) #[] #[]]++lb,W1,?_,?_,?_,?_,λh=>by simp [Fence.wide] at h,?_⟩
 ·rw [<- hW1,hrec];exact run_enterLoop_outer _ _ _ _ _
 ·simp only [resolve,hg];simp [go_sem]
 ·intro f' _;trivial
 ·simp [invoke,go_sem,eg]
 ·have hnl:¬ own (w.heap.size+1):=λh=>by have:=hown _ (.inl h);omega
  have hnd:¬ own w.heap.size:=λh=>by have:=hown _ (.inl h);omega
  refine(hit W1 (hT1 _)
   (λN1 pre W=>I N1 pre W/\W.heap[w.heap.size+1]?=some (.loop (rec .ready none))/\W.heap[w.heap.size]?=some (.deferred (some [])))
   (λN1 pre W=>∃ c,Ix N1 c pre W/\W.heap[w.heap.size+1]?=some (.loop (rec .done (some c)))/\W.heap[w.heap.size]?=some (.deferred (some [])))
   ?_ ?_ ?_ (λN1 h=>⟨hI1 N1 h,hL1,hK1⟩)).mono ?_
  ·rintro N1 pre W W' ⟨hi,hl,hk⟩ ht;exact⟨hI _ _ _ _ hi (ht.mono λk=>.inl),(ht.block _ (Array.getElem?_eq_some_iff.1 hl).1 hnl).trans hl,(ht.block _ (Array.getElem?_eq_some_iff.1 hk).1 hnd).trans hk⟩
  ·rintro N1 pre W W' ⟨c,hi,hl,hk⟩ ht;exact⟨c,hIx _ _ _ _ _ hi (ht.mono λk h=>h.elim),(ht.block _ (Array.getElem?_eq_some_iff.1 hl).1 (λh=>h)).trans hl,(ht.block _ (Array.getElem?_eq_some_iff.1 hk).1 (λh=>h)).trans hk⟩
  ·-- one round
   rintro N1 pre x W0 W hN1 F6 ⟨hi,hl0,hk0⟩ ht hok;rw [hs1] at hN1;have hlt0:w.heap.size+1<W0.heap.size:=(Array.getElem?_eq_some_iff.1 hl0).1;have hl:=(ht.block _ hlt0 hnl).trans hl0;have hk:=(ht.block _ (by omega) hnd).trans hk0;have hlt:w.heap.size+1<W.heap.size:=(Array.getElem?_eq_some_iff.1 hl).1;have hy:=run_yield (P:=P) (args:=encs x) hl (by rw [hrec];exact hps x);rw [hrec] at hy;refine⟨fn,_,assign,body,hy,roundIn_of_wpIn hfn (hassign x W _ (by omega) λa1 Wa ha hax=>?_)⟩;have hla:Wa.heap[w.heap.size+1]?=some (.loop (rec .ready none)):=(ha.block _ hlt (λh=>h)).trans hl;have hka:Wa.heap[w.heap.size]?=some (.deferred (some [])):=(ha.block _ (by omega) (λh=>h)).trans hk;have Dk:w.heap.size+1<Wa.heap.size:=(Array.getElem?_eq_some_iff.1 hla).1;refine⟨_,run_beginRound hla (by rw [hrec]),?_⟩;obtain⟨Wb,lK⟩:∃ Wb,Wa.putObj (w.heap.size+1) (.loop { rec .ready none with state:=.busy })=Wb:=⟨_,rfl⟩
   rw [lK];have htb:∀ o:Nat->Prop,o (w.heap.size+1)->Turns o Wa Wb:=λo ho=>by rw [<- lK];exact Turns.putObj _ ho _
   have hlb:Wb.heap[w.heap.size+1]?=some (.loop { rec .ready none with state:=.busy }):=by rw [<- lK];exact World.putObj_heap_same Dk
   have hkb:Wb.heap[w.heap.size]?=some (.deferred (some [])):=by rw [<- lK];exact(World.putObj_heap_other (by omega)).trans hka
   have hsb:Wb.heap.size=Wa.heap.size:=by rw [<- lK];simp
   refine wpIn_mono (hbody N1 pre x a1 W0 Wb W.heap.size hN1 F6 (by omega) hi ((ht.mono λ_ h=>.inl h).trans ((ha.mono λ_ h=>h.elim).trans (htb _ (.inr rfl)))) (by have:=ha.size;omega) (hokS _ _ _ _ hok ((ha.mono λ_ h=>h.elim).trans (htb _ rfl))) (hAx _ _ _ _ hax (htb _ rfl))) ?_;have fin:∀ (jump:Option Code) (W3:World),Holds (λk=>k=w.heap.size+1\/k=w.heap.size) Wb W3 ->
     (Instr.endRound (w.heap.size+1) jump).run P W3 = .ok (.bool jump.isNone) (W3.putObj (w.heap.size+1) (.loop (rec (if jump.isNone then .ready else .done) jump))) /\
     (W3.putObj (w.heap.size+1) (.loop (rec (if jump.isNone then .ready else .done) jump))).heap[w.heap.size+1]?=some (.loop (rec (if jump.isNone then .ready else .done) jump)) /\
     (W3.putObj (w.heap.size+1) (.loop (rec (if jump.isNone then .ready else .done) jump))).heap[w.heap.size]?=some (.deferred (some [])):=λjump W3 hk3=>by
    have hl3:=(hk3.block _ (.inl rfl)).trans hlb;have:=run_endRound (P:=P) jump hl3;rw [hrec] at this ⊢;exact⟨this,World.putObj_heap_same (Array.getElem?_eq_some_iff.1 hl3).1,(World.putObj_heap_other (by omega)).trans ((hk3.block _ (.inr rfl)).trans hkb)⟩
   rintro e a3 W3 hp
   cases e with
   | normal =>
    obtain⟨ht3,hi3⟩:=hp;have hh:Holds (λk=>k=w.heap.size+1\/k=w.heap.size) Wb W3:=Holds.xJ ht3 (λk hk=>by rw [hsb];omega) (λk hk hn=>hn (.inr hk));obtain⟨hr,hl4,hk4⟩:=fin none W3 hh;refine⟨_,_,hr, .inl ⟨rfl,⟨hI _ _ _ _ hi3 (Turns.putObj _ (.inr rfl) _),hl4,hk4⟩,?_⟩⟩;have hnk:¬ (keep (w.heap.size+1)\/(W1.heap.size<=w.heap.size+1/\w.heap.size+1<N1)\/(W0.heap.size<=w.heap.size+1/\w.heap.size+1<W.heap.size)):=by
     rintro(h | h | h)
     ·have:=hown _ (.inr h);omega
     ·omega
     ·omega
    rw [hs1] at hnk ⊢;exact(((ha.mono λ_ h=>h.elim).trans (htb _ hnk)).trans (ht3.mono λk hk hn=>hk (.inl hn))).trans (Turns.putObj _ hnk _)
   | ret =>
    obtain⟨hh,hi3⟩:=hp;obtain⟨hr,hl4,hk4⟩:=fin (some .ret) W3 hh;exact⟨_,_,hr, .inr ⟨rfl, .ret,hIx _ _ _ _ _ hi3 (Turns.putObj (own:=λk=>k=w.heap.size+1) _ rfl _),hl4,hk4⟩⟩
   | exit id =>
    obtain⟨hh,hi3⟩:=hp;obtain⟨hr,hl4,hk4⟩:=fin (some (.exit id)) W3 hh;exact⟨_,_,hr, .inr ⟨rfl, .exit id,hIx _ _ _ _ _ hi3 (Turns.putObj (own:=λk=>k=w.heap.size+1) _ rfl _),hl4,hk4⟩⟩
   | goto t =>
    obtain⟨hh,hi3⟩:=hp;obtain⟨hr,hl4,hk4⟩:=fin (some (.goto t)) W3 hh;exact⟨_,_,hr, .inr ⟨rfl, .goto t,hIx _ _ _ _ _ hi3 (Turns.putObj (own:=λk=>k=w.heap.size+1) _ rfl _),hl4,hk4⟩⟩
   | panic ch=>exact hp.elim
   | outgrown=>exact hp.elim
  ·-- behind the iterator
   rintro e W2 ⟨⟨v,rfl⟩,(⟨N1,xs,Cm,hi,hl,hk⟩ | ⟨N1,pre,c,hi,hl,hk⟩)⟩
   ·have hlt:=(Array.getElem?_eq_some_iff.1 hl).1;exact⟨none,_,by have:=run_endLoop (P:=P) hl (by rw [hrec];simp);rw [hrec] at this;exact this,
     hdone N1 xs _ (by simp;omega) (hS _ _ _ Cm (Turns.putObj (own:=λk=>k=w.heap.size+1) _ rfl _)) (hI _ _ _ _ hi (Turns.putObj _ (.inr rfl) _)) ((World.putObj_heap_other (by omega)).trans hk)⟩
   ·have hlt:=(Array.getElem?_eq_some_iff.1 hl).1;exact⟨some c,_,by have:=run_endLoop (P:=P) hl (by rw [hrec];simp);rw [hrec] at this;exact this,
     hstop N1 c pre _ (by simp;omega) (hIx _ _ _ _ _ hi (Turns.putObj (own:=λk=>k=w.heap.size+1) _ rfl _)) ((World.putObj_heap_other (by omega)).trans hk)⟩
theorem aj.c10 {V W:World} {g:Nat} {t:TypeId} {x0 x1 x2 x3 x4 x5 x6 x7 x8 x9:Value} (H:aj V g t #[x0,x1,x2,x3,x4,x5,x6,x7,x8,x9]) (h:Below V.heap.size V W):W.cell? ⟨g,0,none⟩=some x0/\W.cell? ⟨g,1,none⟩=some x1/\W.cell? ⟨g,2,none⟩=some x2/\W.cell? ⟨g,3,none⟩=some x3/\W.cell? ⟨g,4,none⟩=some x4/\W.cell? ⟨g,5,none⟩=some x5/\W.cell? ⟨g,6,none⟩=some x6/\W.cell? ⟨g,7,none⟩=some x7/\W.cell? ⟨g,8,none⟩=some x8/\W.cell? ⟨g,9,none⟩=some x9/\g<W.heap.size:=⟨((H.below h H.lt).cell 0).trans rfl,((H.below h H.lt).cell 1).trans rfl,((H.below h H.lt).cell 2).trans rfl,((H.below h H.lt).cell 3).trans rfl,((H.below h H.lt).cell 4).trans rfl,((H.below h H.lt).cell 5).trans rfl,((H.below h H.lt).cell 6).trans rfl,((H.below h H.lt).cell 7).trans rfl,((H.below h H.lt).cell 8).trans rfl,((H.below h H.lt).cell 9).trans rfl,(H.below h H.lt).lt⟩
end
section
open Go.RowKit Go.ChangeShapes Go.WideShapes Go.Deep
section
variable {H:Type} {enc:TypeId×Value->H} {W:World}
theorem addr_add (b off i:Nat):(⟨b,off,none⟩:Addr).add i=⟨b,off+i,none⟩:=by
 unfold Addr.add;by_cases h0:i=0 <;> simp [h0]
theorem bQ.open {v:Value} {fuel:Nat} {x:DataW H×List MemPlace} (hf:DataW.trod enc Tryz.prog W 0 (λ_=>true) true fuel 180 [v]=some x):∃ l,bQ W v l:=by
 rcases open_slice_pairs Tryz.underlying180 Tryz.underlying292 (by kernel_rfl) rfl rfl (by kernel_rfl) (by kernel_rfl) hf with⟨h1,_⟩ | ⟨a,len,cap,m,n,V0,V1,D0,D1,P0,P1,h1,_,h2,h3,h4,_,h5⟩
 ·simp only [List.cons.injEq,and_true] at h1;exact⟨[], .inl ⟨h1,rfl⟩⟩
 ·simp only [List.cons.injEq,and_true] at h1;subst h1;simp only [if_true] at h4;subst h4;have key:∀ i,i<m->∃ y:N.Item,W.cell? (a.add (i*2))=some (.int .i64 y.1)/\W.cell? (a.add (i*2+1))=some (.int .i64 y.2):=by
   intro i hi;obtain⟨c0,c1,t0,t1⟩:=h5 i hi;obtain⟨k0,e0,_⟩:=DataW.trod_int Tryz.underlying2 t0;obtain⟨k1,e1,_⟩:=DataW.trod_int Tryz.underlying3 t1;simp only [List.cons.injEq,and_true] at e0 e1;exact⟨(k0,k1),by rw [c0,e0],by rw [c1,e1]⟩
  let g:Nat->N.Item:=λi=>if h:i<m then (key i h).choose else (0,0)
  have hg:∀ i,i<m->W.cell? (a.add (i*2))=some (.int .i64 (g i).1)/\W.cell? (a.add (i*2+1))=some (.int .i64 (g i).2):=by
   intro i hi;have:g i=(key i hi).choose:=by simp [g,hi]
   rw [this];exact(key i hi).choose_spec
  obtain⟨b,off,sp⟩:=a;have hlen:((List.range len).map g).length=len:=by simp
  refine⟨(List.range len).map g, .inr ⟨b,off,sp,m,by rw [hlen],by rw [hlen];exact h2,h3,λhn=>?_⟩⟩;have h0:0<len:=by
   rcases Nat.eq_zero_or_pos len with h | h
   ·subst h;exact absurd rfl hn
   ·exact h
  have hc0:=(hg 0 (by omega)).1;have hsp:sp=none:=World.cell?_spot (a:=(⟨b,off,sp⟩:Addr).add (0*2)) hc0;subst hsp;refine⟨rfl,World.block_lt_of_cell? _ _ hc0,λi y hy=>?_⟩;rw [List.getElem?_map] at hy;obtain⟨j,hj,rfl⟩:=Option.map_eq_some_iff.1 hy;obtain⟨hi,rfl⟩:=List.getElem?_eq_some_iff.1 hj;simp only [List.length_range] at hi;simp only [List.getElem_range];have:=hg i (by omega);rw [addr_add b off,addr_add b off] at this;exact this
end
section
variable {H:Type} {enc:TypeId×Value->H} {W:World}
theorem acB {fuel:Nat} {cs:List Value} {x:DataW H×List MemPlace} (h:DataW.trod enc Tryz.prog W 0 (λ_=>true) true fuel 182 cs=some x) :
  ∃ (st:Bool) (v:Value) (l:List N.Item),cs=[.bool st,v]/\bQ W v l:=by
 obtain⟨y0,y1,n,rfl,hl,h0,h1⟩:=trod_struct2 Tryz.underlying182 h;have hl2:cs.length=2:=hl.trans (by kernel_rfl)
 match cs,hl2 with
 | [c0,c1],_ =>
  obtain⟨st,e0,_⟩:=DataW.trod_bool Tryz.underlying4 h0;obtain⟨l,hli⟩:=bQ.open h1;have e0':[c0]=[.bool st]:=e0;simp only [List.cons.injEq,and_true] at e0';subst e0';exact⟨st,c1,l,rfl,hli⟩
theorem ad4 {fuel:Nat} {cs:List Value} {x:DataW H×List MemPlace} (h:DataW.trod enc Tryz.prog W 0 (λ_=>true) true fuel 184 cs=some x) :
  ∃ (y:D.Rule) (vl vr:Value),cs=[.bool y.1.1,vl, .bool y.2.1.1,vr, .bool y.2.2]/\bQ W vl y.1.2/\bQ W vr y.2.1.2:=by
 obtain⟨y0,y1,y2,n,rfl,hl,h0,h1,h2⟩:=trod_struct3 Tryz.underlying184 h;have hl5:cs.length=5:=hl.trans (by kernel_rfl)
 match cs,hl5 with
 | [c0,c1,c2,c3,c4],_ =>
  obtain⟨sl,vl,ll,e0,hi0⟩:=acB (cs:=[c0,c1]) h0;obtain⟨sr,vr,lr,e1,hi1⟩:=acB (cs:=[c2,c3]) h1;obtain⟨br,e2,_⟩:=DataW.trod_bool Tryz.underlying4 h2;have e2':[c4]=[.bool br]:=e2;simp only [List.cons.injEq,and_true] at e0 e1 e2';obtain⟨rfl,rfl⟩:=e0;obtain⟨rfl,rfl⟩:=e1;subst e2';exact⟨((sl,ll),(sr,lr),br),_,_,rfl,hi0,hi1⟩
theorem fA.open {fuel:Nat} {v:Value} {x:DataW H×List MemPlace} (h:DataW.trod enc Tryz.prog W 0 (λ_=>true) true fuel 26 [v]=some x):∃ l,fA W v l:=by
 have ce:Tryz.prog.cellsOf 184=5:=by kernel_rfl
 rcases open_slice Tryz.underlying26 h with⟨h1,_⟩ | ⟨a,len,cap,m,n,Dd,Pl,h1,_,h2,h3,h4,_,h5⟩
 ·simp only [List.cons.injEq,and_true] at h1;exact⟨[], .inl ⟨h1,rfl⟩⟩
 ·simp only [List.cons.injEq,and_true] at h1;subst h1;simp only [if_true] at h4;subst h4;rw [ce] at h5;have key:∀ i,i<m->∃ q:D.Rule×Value×Value,(∀ j u,[Value.bool q.1.1.1,q.2.1, .bool q.1.2.1.1,q.2.2, .bool q.1.2.2][j]?=some u->W.cell? ((a.add (i*5)).add j)=some u)/\bQ W q.2.1 q.1.1.2/\bQ W q.2.2 q.1.2.1.2:=by
   intro i hi;obtain⟨cs',h6,h7⟩:=h5 i hi;obtain⟨_,hlen,hcell⟩:=World.cells?_some h6;obtain⟨y,vl,vr,rfl,h8,h9⟩:=ad4 h7;refine⟨(y,vl,vr),λj u hu=>?_,h8,h9⟩;have hj:j<5:=(List.getElem?_eq_some_iff.1 hu).1;rw [hcell j hj];exact hu
  obtain⟨q,hq⟩:=choose_lt key;obtain⟨b,off,sp⟩:=a;have hlen:((List.range len).map λi=>(q i).1).length=len:=by simp
  refine⟨(List.range len).map λi=>(q i).1, .inr ⟨b,off,sp,m,by rw [hlen],by rw [hlen];exact h2,h3,λhn=>?_⟩⟩;have h0:0<len:=by
   rcases Nat.eq_zero_or_pos len with h | h
   ·subst h;exact absurd rfl hn
   ·exact h
  have hc0:=(hq 0 (by omega)).1 0 _ rfl;have hsp:sp=none:=World.cell?_spot (a:=((⟨b,off,sp⟩:Addr).add (0*5)).add 0) hc0;subst hsp;refine⟨rfl,World.block_lt_of_cell? _ _ hc0,λi y hy=>?_⟩;rw [List.getElem?_map] at hy;obtain⟨j,hj,rfl⟩:=Option.map_eq_some_iff.1 hy;obtain⟨hi,rfl⟩:=List.getElem?_eq_some_iff.1 hj;simp only [List.length_range] at hi;simp only [List.getElem_range];obtain⟨k1,k2,k3⟩:=hq i (by omega);have hc:∀ j u,[Value.bool (q i).1.1.1,(q i).2.1, .bool (q i).1.2.1.1,(q i).2.2, .bool (q i).1.2.2][j]?=some u->W.cell? ⟨b,off+i*5+j,none⟩=some u:=λj u hu=>by
   have:=k1 j u hu;rw [addr_add b off,addr_add b] at this;exact this
  exact⟨(q i).2.1,(q i).2.2,hc 0 _ rfl,hc 1 _ rfl,hc 2 _ rfl,hc 3 _ rfl,hc 4 _ rfl,k2,k3⟩
theorem Tz {fuel:Nat} {v:Value} {x:DataW H×List MemPlace} {t e:TypeId} (ht:Tryz.prog.underlying t=some (.slice e)) (he:Tryz.prog.underlying e=some (.int .i64)) (hc:Tryz.prog.cellsOf e=1)
  (h:DataW.trod enc Tryz.prog W 0 (λ_=>true) true fuel t [v]=some x):∃ l,aB W v l:=by
 rcases Go.ChangeShapes.open_ints ht he hc h with⟨h1,_⟩ | ⟨a,len,cap,zs,h1,_,h2,h3,h4,_,h5,_⟩
 ·simp only [List.cons.injEq,and_true] at h1;exact⟨[], .inl ⟨h1,rfl⟩⟩
 ·simp only [List.cons.injEq,and_true] at h1;subst h1;simp only [if_true] at h4;have hl:(zs.take len).length=len:=by rw [List.length_take];omega
  obtain⟨b,off,sp⟩:=a;refine⟨zs.take len, .inr ⟨b,off,sp,cap,by rw [hl],by rw [hl];exact h2,h3,λhn=>?_⟩⟩;have h0:0<zs.length:=by
   rcases Nat.eq_zero_or_pos zs.length with h | h
   ·exact absurd (by rw [List.eq_nil_of_length_eq_zero h];simp) hn
   ·exact h
  have hc0:=h5 0 h0;have hsp:sp=none:=World.cell?_spot (a:=(⟨b,off,sp⟩:Addr).add 0) hc0;subst hsp;refine⟨rfl,World.block_lt_of_cell? _ _ hc0,λi x hx=>?_⟩;rw [List.getElem?_take] at hx
  split at hx
  ·have hi:i<zs.length:=(List.getElem?_eq_some_iff.1 hx).1;have:=h5 i hi;rw [show (⟨b,off+i,none⟩:Addr)=(⟨b,off,none⟩:Addr).add i by unfold Addr.add;by_cases h0:i=0 <;> simp [h0],this,List.getD,hx]
   rfl
  ·cases hx
theorem fJ.open {fuel:Nat} {v:Value} {x:DataW H×List MemPlace} (h:DataW.trod enc Tryz.prog W 0 (λ_=>true) true fuel 23 [v]=some x):∃ l,fJ W v l:=by
 rcases open_slice1 Tryz.underlying23 (by kernel_rfl) h with⟨h1,_⟩ | ⟨a,len,cap,m,n,V,Dd,Pl,h1,_,h2,h3,h4,_,h5⟩
 ·simp only [List.cons.injEq,and_true] at h1;exact⟨[], .inl ⟨h1,rfl⟩⟩
 ·simp only [List.cons.injEq,and_true] at h1;subst h1;simp only [if_true] at h4;subst h4;have key:∀ i,i<m->∃ q:List Int,W.cell? (a.add i)=some (V i)/\aB W (V i) q:=λi hi=>by
   obtain⟨k1,k2⟩:=h5 i hi;obtain⟨q,hq⟩:=Tz Tryz.underlying22 Tryz.underlying3 (by kernel_rfl) k2;exact⟨q,k1,hq⟩
  obtain⟨q,hq⟩:=choose_lt key;obtain⟨b,off,sp⟩:=a;have hlen:((List.range len).map q).length=len:=by simp
  refine⟨(List.range len).map q, .inr ⟨b,off,sp,m,by rw [hlen],by rw [hlen];exact h2,h3,λhn=>?_⟩⟩;have h0:0<len:=by
   rcases Nat.eq_zero_or_pos len with h | h
   ·subst h;exact absurd rfl hn
   ·exact h
  have hc0:=(hq 0 (by omega)).1;have hsp:sp=none:=World.cell?_spot (a:=(⟨b,off,sp⟩:Addr).add 0) hc0;subst hsp;refine⟨rfl,World.block_lt_of_cell? _ _ hc0,λi y hy=>?_⟩;rw [List.getElem?_map] at hy;obtain⟨j,hj,rfl⟩:=Option.map_eq_some_iff.1 hy;obtain⟨hi,rfl⟩:=List.getElem?_eq_some_iff.1 hj;simp only [List.length_range] at hi;simp only [List.getElem_range];obtain⟨k1,k2⟩:=hq i (by omega);rw [addr_add b off] at k1;exact⟨_,k1,k2⟩
end
end
end Go.Proofs.YtdenoeakcflnmaaGreatDoor
