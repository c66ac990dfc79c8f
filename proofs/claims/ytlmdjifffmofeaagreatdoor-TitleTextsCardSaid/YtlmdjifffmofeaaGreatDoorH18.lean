/- Texts of this claim. -/
import Derived.Lib.AppendStr
import Derived.Shelf.Strings.Builder1
import Derived.Lib.BufferRead
import Derived.IntWalk
import Derived.Laws.IdiomStrings
import Derived.Laws.BytesArg
import Derived.Test.YtlmdjifffmofeaaGreatDoorH4
import Derived.Test.YtlmdjifffmofeaaGreatDoorH17

set_option maxHeartbeats 4000000
set_option maxRecDepth 100000
namespace Go.Proofs.YtlmdjifffmofeaaGreatDoor
section
open Go.RowKit
theorem YB {l:List UInt8} (h:U.dec l=none):oK l = .tuple #[.int .i64 0, .int .i64 0, .bool false]:=by unfold oK;rw [h];rfl
theorem Tz {l:List UInt8} {r:Int} {n:Nat} (h:U.dec l=some (r,n)):oK l = .tuple #[.int .i64 r, .int .i64 n, .bool true]:=by unfold oK;rw [h];rfl
def hit (p t:List UInt8):Bool:=match U.dec (p++t) with | some (_,n)=>n==p.length+t.length | none=>false
theorem afe (p:List UInt8):M.Ic p=(hit p [128]||hit p [128,128]):=rfl
theorem Ye (p t:List UInt8):(hit p t=false/\oK (p++t) = .tuple #[.int .i64 0, .int .i64 0, .bool false])\/(∃ (r:Int) (n:Nat),hit p t=false/\oK (p++t) = .tuple #[.int .i64 r, .int .i64 n, .bool true]/\((n:Int)==(p.length:Int)+(t.length:Int))=false) \/
  (∃ (r:Int),hit p t=true/\oK (p++t) = .tuple #[.int .i64 r, .int .i64 ((p.length+t.length:Nat):Int), .bool true]):=by
 cases h:U.dec (p++t) with
 | none=>exact .inl ⟨by unfold hit;rw [h],YB h⟩
 | some q =>
  obtain⟨r,n⟩:=q
  by_cases hn:n=p.length+t.length
  ·subst hn;exact .inr (.inr ⟨r,by unfold hit;rw [h];simp,Tz h⟩)
  ·exact .inr (.inl ⟨r,n,by unfold hit;rw [h];simpa using hn,Tz h,by rw [beq_eq_false_iff_ne];omega⟩)
theorem aag (s t:ByteArray):(s++t).data.toList=s.data.toList++t.data.toList:=by
 rw [ByteArray.data_append,Array.toList_append]
theorem Yx (s t:ByteArray):(s++t).size=s.size+t.size:=ByteArray.size_append
theorem aai (A:Nat->Addr) (B:Nat) (s:ByteArray) (w:World) (hs:s.size<=16777216) (hE:E A B w) (hB:B<=w.heap.size) :
  Calls Tryz.prog 151 #[.string s] w λe w'=>e = .returned (.bool (M.Ic s.data.toList))/\Below w.heap.size w w':=by
 have hb0:=(Below.refl w.heap.size w).alloc (Nat.le_refl _) (.cells #[.string ⟨#[128]⟩, .string ⟨#[128,128]⟩] 9);have HE:=bx (hE.below (hb0.mono hB));have HB0:=bx hb0;have bK:=bx (size_eq s);have dR:=bx (ak.new w 9 #[.string ⟨#[128]⟩, .string ⟨#[128,128]⟩]);rw [afe];clear hE hb0
 go_enter Tryz.func151,Tryz.ntmps151
 go_wp2_with fail;refine wp_loop_rounds 3 ?_;rw [rounds_succ];go_wp2_with fail;refine(TD A B _ _ ?_ HE.o (Nat.le_trans hB HB0.o.size)).mono ?_
 ·rw [Yx];show s.size+1<=maxLen;unfold maxLen;omega
 rintro e w1 ⟨rfl,hb1⟩;rw [aag,show (⟨#[128]⟩:ByteArray).data.toList=[128] from rfl];have HB1:=bx (bt HB0.o hb1);have OV:=bx (HE.o.below (hb1.mono (Nat.le_trans hB HB0.o.size)));have hbk1:=dR.o.below hb1 dR.o.lt;have c1:w1.cell? ⟨w.heap.size,1,none⟩=some (.string ⟨#[128,128]⟩):=(hbk1.cell 1).trans rfl;clear hb1 hbk1;have H1:=bx (Ye s.data.toList [128]);have H2:=bx (Ye s.data.toList [128,128])
 rcases H1.o with⟨h1,h2⟩ | ⟨r,n,h1,h2,h3⟩ | ⟨r,h1,h2⟩
 case inr.inr =>
  have HV:=bx h2;have HH:=bx h1;have t1:(((s.data.toList.length+1:Nat):Int)==(s.size:Int)+1)=true:=by rw [bK.o,beq_iff_eq];omega
  rw [h2];clear h1 h2 H1 H2;go_wp2_with fail;go_ret
  exact⟨by rw [HH.o];rfl,HB1.o⟩
 all_goals
  have Tf:=bx h1;rw [h2]
  first | (have t1:((n:Int)==(s.size:Int)+1)=false:=by rw [bK.o];exact h3) | skip
  clear h1 h2 H1
  try clear h3
  go_wp2_with fail;rw [rounds_succ];go_wp2_with fail;refine(TD A B _ _ ?_ OV.o (Nat.le_trans hB HB1.o.size)).mono ?_
  ·rw [Yx];show s.size+2<=maxLen;unfold maxLen;omega
  rintro e w2 ⟨rfl,hb2⟩;rw [aag,show (⟨#[128,128]⟩:ByteArray).data.toList=[128,128] from rfl];have HB2:=bx (bt HB1.o hb2);clear hb2 c1
  rcases H2.o with⟨k1,k2⟩ | ⟨r',n',k1,k2,k3⟩ | ⟨r',k1,k2⟩
  ·have JG:=bx k1;rw [k2];clear k1 k2 H2;go_wp2_with fail;rw [rounds_succ];go_wp2_with fail;go_ret
   exact⟨by rw [Tf.o,JG.o];rfl,HB2.o⟩
  ·have JG:=bx k1;have t2:((n':Int)==(s.size:Int)+2)=false:=by rw [bK.o];exact k3
   rw [k2];clear k1 k2 k3 H2;go_wp2_with fail;rw [rounds_succ];go_wp2_with fail;go_ret
   exact⟨by rw [Tf.o,JG.o];rfl,HB2.o⟩
  ·have JG:=bx k1;have t2:(((s.data.toList.length+2:Nat):Int)==(s.size:Int)+2)=true:=by rw [bK.o,beq_iff_eq];omega
   rw [k2];clear k1 k2 H2;go_wp2_with fail;go_ret
   exact⟨by rw [Tf.o,JG.o];rfl,HB2.o⟩
def EG (l:List UInt8):Value:=.agg #[.int .i64 ((M.unit l).1:Int), .bool (M.unit l).2]
theorem Yf (s:ByteArray) (a:Nat):(s.extract a s.size).data.toList=s.data.toList.drop a:=Lib.extract_to_end s a
theorem amQ (s:ByteArray) (a:Nat):(s.extract a s.size).size=s.size-a:=by
 rw [size_eq,Yf,List.length_drop,<- size_eq]
theorem ajz (A:Nat->Addr) (B:Nat) (tb:Nat) (s:ByteArray) (a:Nat) (w:World) (ht:w.cell? ⟨tb,0,none⟩=some (.string s)) (ha:a<=s.size) (hs:s.size<=16777216) (hE:E A B w) (hB:B<=w.heap.size) :
  Calls Tryz.prog 101 #[.pointer (some ⟨tb,0,none⟩), .int .i64 a] w λe w'=>e = .returned (EG (s.data.toList.drop a))/\Below w.heap.size w w':=by
 have htl:=World.block_lt_of_cell? w _ ht;obtain⟨X,hX⟩:∃ X,X=s.extract a s.size:=⟨_,rfl⟩
 have xP:X.data.toList=s.data.toList.drop a:=by rw [hX];exact Yf s a
 have GR:X.size<=16777216:=by rw [hX,amQ];omega
 have HX:=bx hX;rw [<- xP];have hb0:=((Below.refl w.heap.size w).alloc (Nat.le_refl _) (.cells #[.int .i64 0, .bool false] 110)).alloc (by simp) (.cells #[.int .i64 1, .bool false] 110);have HE:=bx (hE.below (hb0.mono hB));have HB0:=bx hb0;have dR:=bx ((ak.new w 110 #[.int .i64 0, .bool false]).alloc (.cells #[.int .i64 1, .bool false] 110));have aaF:=bx (show ak ((w.alloc (.cells #[.int .i64 0, .bool false] 110)).alloc (.cells #[.int .i64 1, .bool false] 110)) (w.heap.size+1) 110 #[.int .i64 1, .bool false] by
  have:=ak.new (w.alloc (.cells #[.int .i64 0, .bool false] 110)) 110 #[.int .i64 1, .bool false]
  simpa using this)
 clear hE hb0 hX xP hs
 cases hl:X.data.toList with
 | nil =>
  have hz:=isEmpty_nil hl;rw [HX.o] at hz;have HU:=bx (show EG X.data.toList = .agg #[.int .i64 0, .bool false] by rw [hl];rfl);rw [<- hl];clear hl
  go_enter Tryz.func101,Tryz.ntmps101
  go_wp2_with fail;refine sS 0 rfl ?_;go_wp2_with fail;rw [yN];exact bodyPost_ret (v:=.agg #[.int .i64 0, .bool false]) (by simp [results,Tryz.results101,go_sem]) rfl ⟨by rw [HU.o],HB0.o⟩
 | cons c t =>
  have hz:=isEmpty_cons hl;rw [HX.o] at hz;have HL:=bx hl;rw [<- hl];clear hl;have HD:=bx (TD A B X _ (by unfold maxLen;omega) HE.o (Nat.le_trans hB HB0.o.size))
  go_enter Tryz.func101,Tryz.ntmps101
  go_wp2_with fail;refine sS 0 rfl ?_;go_wp2_with fail;rw [<- HX.o];refine HD.o.mono ?_;rintro e w1 ⟨rfl,hb1⟩;have HB1:=bx (bt HB0.o hb1);have OV:=bx (HE.o.below (hb1.mono (Nat.le_trans hB HB0.o.size)));have hbk:=dR.o.below hb1 dR.o.lt;have TW:=aaF.o.below hb1 aaF.o.lt;clear hb1 hz
  cases hd:U.dec X.data.toList with
  | some q =>
   obtain⟨r,n⟩:=q;rw [Tz hd];have HU:=bx (show EG X.data.toList = .agg #[.int .i64 n, .bool true] by unfold EG;rw [M.TQ hd]);have c0:w1.cell? ⟨w.heap.size,0,none⟩=some (.int .i64 0):=(hbk.cell 0).trans rfl;have c1:w1.cell? ⟨w.heap.size,1,none⟩=some (.bool false):=(hbk.cell 1).trans rfl;have f0:=hbk.frozen 0;have f1:=hbk.frozen 1;clear hd TW;have hfin:=(hbk.bP 0 (.int .i64 n)).bP 1 (.bool true);have pq:=(HB1.o.setCell (p:=⟨w.heap.size,0,none⟩) (Nat.le_refl _) (.int .i64 n)).setCell (p:=⟨w.heap.size,1,none⟩) (Nat.le_refl _) (.bool true);have Wv:=bx hfin;have ah5:=bx pq;clear hfin pq hbk;go_wp2_with fail;rw [yN];have hfin:=Wv.o;have pq:=ah5.o;generalize (w1.setCell ⟨w.heap.size,0,none⟩ (.int .i64 n)).setCell ⟨w.heap.size,1,none⟩ (.bool true)=W2 at hfin pq ⊢;have d0:W2.cell? ⟨w.heap.size,0,none⟩=some (.int .i64 n):=(hfin.cell 0).trans rfl;have d1:W2.cell? ⟨w.heap.size,1,none⟩=some (.bool true):=(hfin.cell 1).trans rfl;exact bodyPost_ret (v:=.agg #[.int .i64 n, .bool true]) (by simp [results,Tryz.results101,go_sem,d0,d1]) rfl ⟨by rw [HU.o],pq⟩
  | none =>
   rw [YB hd];have Et:=bx (show EG X.data.toList = .agg #[.int .i64 (M.mD X.data.toList), .bool false] by unfold EG;rw [M.Ot hd]);clear hd;have HK:=bx hbk;have mG:=bx TW;have dX:=HB1;have HSL:=bx (size_eq X);clear hbk TW
   cases ht':t with
   | nil =>
    have jf:=bx (show M.mD X.data.toList=1 by rw [HL.o,ht'];rfl);have t2:decide ((2:Int)<=(X.size:Int))=false:=by rw [HSL.o,HL.o,ht'];rfl
    clear ht';have c0:w1.cell? ⟨w.heap.size,0,none⟩=some (.int .i64 0):=(HK.o.cell 0).trans rfl;have c1:w1.cell? ⟨w.heap.size,1,none⟩=some (.bool false):=(HK.o.cell 1).trans rfl;have k0:w1.cell? ⟨w.heap.size+1,0,none⟩=some (.int .i64 1):=(mG.o.cell 0).trans rfl;have k1:w1.cell? ⟨w.heap.size+1,1,none⟩=some (.bool false):=(mG.o.cell 1).trans rfl;have f0:=HK.o.frozen 0;have f1:=HK.o.frozen 1;go_wp2_with fail;refine wp_loop_rounds 1 ?_;rw [rounds_succ];go_wp2_with fail
    go_step3
    go_wp2_with fail;rw [yN];have hfin:=(HK.o.bP 0 (.int .i64 1)).bP 1 (.bool false);have pq:=(dX.o.setCell (p:=⟨w.heap.size,0,none⟩) (Nat.le_refl _) (.int .i64 1)).setCell (p:=⟨w.heap.size,1,none⟩) (Nat.le_refl _) (.bool false);generalize (w1.setCell ⟨w.heap.size,0,none⟩ (.int .i64 1)).setCell ⟨w.heap.size,1,none⟩ (.bool false)=W2 at hfin pq ⊢;have d0:W2.cell? ⟨w.heap.size,0,none⟩=some (.int .i64 1):=(hfin.cell 0).trans rfl;have d1:W2.cell? ⟨w.heap.size,1,none⟩=some (.bool false):=(hfin.cell 1).trans rfl;exact bodyPost_ret (v:=.agg #[.int .i64 1, .bool false]) (by simp [results,Tryz.results101,go_sem,d0,d1]) rfl ⟨by rw [Et.o,jf.o];rfl,pq⟩
   | cons d t' =>
    have hL2:X.data.toList=c::d::t':=by rw [HL.o,ht']
    have hsz2:2<=X.size:=by rw [HSL.o,hL2];simp
    have HL2:=bx hL2;have hx2:(X.extract 0 2).data.toList=[c,d]:=by rw [Lib.extract_data,hL2];rfl
    have Yq:(X.extract 0 2).size=2:=by rw [size_eq,hx2];rfl
    have GY:=bx (aai A B (X.extract 0 2) w1 (by rw [Yq];omega) OV.o (Nat.le_trans hB HB1.o.size));rw [hx2,M.amS] at GY;clear hx2 Yq hL2 ht'
    cases hb2:(decide (2<=U.bF (U.aA c))&&M.rng c d) with
    | false =>
     have jf:=bx (show M.mD X.data.toList=1 by rw [HL2.o];exact M.UW _ hb2);rw [hb2] at GY;clear hb2;go_wp2_with fail;refine wp_loop_rounds 3 ?_;rw [rounds_succ];go_wp2_with fail;refine GY.o.mono ?_;rintro e w2 ⟨rfl,hb3⟩;have HK:=bx (HK.o.below hb3 HK.o.lt);have mG:=bx (mG.o.below hb3 mG.o.lt);have dX:=bx (bt HB1.o hb3);clear hb3;have c0:w2.cell? ⟨w.heap.size,0,none⟩=some (.int .i64 0):=(HK.o.cell 0).trans rfl;have c1:w2.cell? ⟨w.heap.size,1,none⟩=some (.bool false):=(HK.o.cell 1).trans rfl;have k0:w2.cell? ⟨w.heap.size+1,0,none⟩=some (.int .i64 1):=(mG.o.cell 0).trans rfl;have k1:w2.cell? ⟨w.heap.size+1,1,none⟩=some (.bool false):=(mG.o.cell 1).trans rfl;have f0:=HK.o.frozen 0;have f1:=HK.o.frozen 1;go_wp2_with fail
     go_step3
     refine⟨rfl,?_⟩;go_wp2_with fail;rw [Exit.noGoto_ret];have hfin:=(HK.o.bP 0 (.int .i64 1)).bP 1 (.bool false);have pq:=(dX.o.setCell (p:=⟨w.heap.size,0,none⟩) (Nat.le_refl _) (.int .i64 1)).setCell (p:=⟨w.heap.size,1,none⟩) (Nat.le_refl _) (.bool false);generalize (w2.setCell ⟨w.heap.size,0,none⟩ (.int .i64 1)).setCell ⟨w.heap.size,1,none⟩ (.bool false)=W2 at hfin pq ⊢;have d0:W2.cell? ⟨w.heap.size,0,none⟩=some (.int .i64 1):=(hfin.cell 0).trans rfl;have d1:W2.cell? ⟨w.heap.size,1,none⟩=some (.bool false):=(hfin.cell 1).trans rfl;exact bodyPost_ret (v:=.agg #[.int .i64 1, .bool false]) (by simp [results,Tryz.results101,go_sem,d0,d1]) rfl ⟨by rw [Et.o,jf.o];rfl,pq⟩
    | true =>
     rw [hb2] at GY;have QA:=bx hb2;clear hb2;go_wp2_with fail;refine wp_loop_rounds 3 ?_;rw [rounds_succ];go_wp2_with fail;refine GY.o.mono ?_;rintro e w2 ⟨rfl,hb3⟩;have HE2:=bx (OV.o.below (hb3.mono (Nat.le_trans hB HB1.o.size)));have hk6:=mG.o.below hb3 mG.o.lt;have p0:w2.cell? ⟨w.heap.size+1,0,none⟩=some (.int .i64 1):=(hk6.cell 0).trans rfl;have p1:=hk6.frozen 0;have HK:=bx ((HK.o.below hb3 HK.o.lt).far (p:=⟨w.heap.size+1,0,none⟩) (by simp) (.int .i64 2));have mG:=bx (hk6.bP 0 (.int .i64 2));have SV:=bt HB1.o hb3;have dX:=bx (SV.setCell (p:=⟨w.heap.size+1,0,none⟩) (by simp) (.int .i64 2));have HE3:=bx (HE2.o.below (((Below.refl B w2).setCell (p:=⟨w.heap.size+1,0,none⟩) (by show B<=w.heap.size+1;omega) (.int .i64 2))));have yB:=bx (show (w2.setCell ⟨w.heap.size+1,0,none⟩ (.int .i64 2)).heap.size=w2.heap.size by simp [World.setCell]);have aJ:=bx (show B<=w2.heap.size from Nat.le_trans hB SV.size);clear hb3 SV hk6;go_wp2_with fail;generalize w2.setCell ⟨w.heap.size+1,0,none⟩ (.int .i64 2)=w3 at HK mG dX HE3 yB ⊢;clear p0 p1;rw [rounds_succ]
     cases ht2:t' with
     | nil =>
      have jf:=bx (show M.mD X.data.toList=2 by rw [HL2.o,ht2];exact M.aaI QA.o);have t3:decide ((3:Int)<=(X.size:Int))=false:=by rw [HSL.o,HL2.o,ht2];rfl
      clear ht2;have c0:w3.cell? ⟨w.heap.size,0,none⟩=some (.int .i64 0):=(HK.o.cell 0).trans rfl;have c1:w3.cell? ⟨w.heap.size,1,none⟩=some (.bool false):=(HK.o.cell 1).trans rfl;have k0:w3.cell? ⟨w.heap.size+1,0,none⟩=some (.int .i64 2):=(mG.o.cell 0).trans rfl;have k1:w3.cell? ⟨w.heap.size+1,1,none⟩=some (.bool false):=(mG.o.cell 1).trans rfl;have f0:=HK.o.frozen 0;have f1:=HK.o.frozen 1;go_wp2_with fail
      go_step3
      go_wp2_with fail;rw [yN];have hfin:=(HK.o.bP 0 (.int .i64 2)).bP 1 (.bool false);have pq:=(dX.o.setCell (p:=⟨w.heap.size,0,none⟩) (Nat.le_refl _) (.int .i64 2)).setCell (p:=⟨w.heap.size,1,none⟩) (Nat.le_refl _) (.bool false);generalize (w3.setCell ⟨w.heap.size,0,none⟩ (.int .i64 2)).setCell ⟨w.heap.size,1,none⟩ (.bool false)=W2 at hfin pq ⊢;have d0:W2.cell? ⟨w.heap.size,0,none⟩=some (.int .i64 2):=(hfin.cell 0).trans rfl;have d1:W2.cell? ⟨w.heap.size,1,none⟩=some (.bool false):=(hfin.cell 1).trans rfl;exact bodyPost_ret (v:=.agg #[.int .i64 2, .bool false]) (by simp [results,Tryz.results101,go_sem,d0,d1]) rfl ⟨by rw [Et.o,jf.o];rfl,pq⟩
     | cons e' t2 =>
      have hL3:X.data.toList=c::d::e'::t2:=by rw [HL2.o,ht2]
      have hsz3:3<=X.size:=by rw [HSL.o,hL3];simp
      have qF:=bx hL3;have hx3:(X.extract 0 3).data.toList=[c,d,e']:=by rw [Lib.extract_data,hL3];rfl
      have acs:(X.extract 0 3).size=3:=by rw [size_eq,hx3];rfl
      have Ig:=bx (aai A B (X.extract 0 3) w3 (by rw [acs];omega) HE3.o (by rw [yB.o];exact aJ.o));rw [hx3,M.ak5] at Ig;clear hx3 acs hL3 ht2 hsz2;have Kt:=bx (show M.rng c d=true by have:=QA.o;rw [Bool.and_eq_true] at this;exact this.2);rw [Kt.o,Bool.and_true] at Ig
      cases hb5:(decide (U.bF (U.aA c)=3)&&U.je e') with
      | false =>
       have jf:=bx (show M.mD X.data.toList=2 by rw [qF.o];exact M.abT _ QA.o hb5);rw [hb5] at Ig;clear hb5;go_wp2_with fail;refine Ig.o.mono ?_;rintro e w4 ⟨rfl,hb6⟩;have dX:=bx (bt dX.o hb6);have HK:=bx (HK.o.below hb6 HK.o.lt);have mG:=bx (mG.o.below hb6 mG.o.lt);clear hb6;have c0:w4.cell? ⟨w.heap.size,0,none⟩=some (.int .i64 0):=(HK.o.cell 0).trans rfl;have c1:w4.cell? ⟨w.heap.size,1,none⟩=some (.bool false):=(HK.o.cell 1).trans rfl;have k0:w4.cell? ⟨w.heap.size+1,0,none⟩=some (.int .i64 2):=(mG.o.cell 0).trans rfl;have k1:w4.cell? ⟨w.heap.size+1,1,none⟩=some (.bool false):=(mG.o.cell 1).trans rfl;have f0:=HK.o.frozen 0;have f1:=HK.o.frozen 1;go_wp2_with fail
       go_step3
       refine⟨rfl,?_⟩;go_wp2_with fail;rw [Exit.noGoto_ret];have hfin:=(HK.o.bP 0 (.int .i64 2)).bP 1 (.bool false);have pq:=(dX.o.setCell (p:=⟨w.heap.size,0,none⟩) (Nat.le_refl _) (.int .i64 2)).setCell (p:=⟨w.heap.size,1,none⟩) (Nat.le_refl _) (.bool false);generalize (w4.setCell ⟨w.heap.size,0,none⟩ (.int .i64 2)).setCell ⟨w.heap.size,1,none⟩ (.bool false)=W2 at hfin pq ⊢;have d0:W2.cell? ⟨w.heap.size,0,none⟩=some (.int .i64 2):=(hfin.cell 0).trans rfl;have d1:W2.cell? ⟨w.heap.size,1,none⟩=some (.bool false):=(hfin.cell 1).trans rfl;exact bodyPost_ret (v:=.agg #[.int .i64 2, .bool false]) (by simp [results,Tryz.results101,go_sem,d0,d1]) rfl ⟨by rw [Et.o,jf.o];rfl,pq⟩
      | true =>
       have jf:=bx (show M.mD X.data.toList=3 by rw [qF.o];exact M.adQ _ QA.o hb5);rw [hb5] at Ig;clear hb5;go_wp2_with fail;refine Ig.o.mono ?_;rintro e w4 ⟨rfl,hb6⟩;have XC:=bt dX.o hb6;have hk6:=mG.o.below hb6 mG.o.lt;have p0:w4.cell? ⟨w.heap.size+1,0,none⟩=some (.int .i64 2):=(hk6.cell 0).trans rfl;have p1:=hk6.frozen 0;have HK:=bx ((HK.o.below hb6 HK.o.lt).far (p:=⟨w.heap.size+1,0,none⟩) (by simp) (.int .i64 3));have mG:=bx (hk6.bP 0 (.int .i64 3));have dX:=bx (XC.setCell (p:=⟨w.heap.size+1,0,none⟩) (by simp) (.int .i64 3));clear hb6 XC hk6;go_wp2_with fail;generalize w4.setCell ⟨w.heap.size+1,0,none⟩ (.int .i64 3)=w5 at HK mG dX ⊢;clear p0 p1;rw [rounds_succ];have c0:w5.cell? ⟨w.heap.size,0,none⟩=some (.int .i64 0):=(HK.o.cell 0).trans rfl;have c1:w5.cell? ⟨w.heap.size,1,none⟩=some (.bool false):=(HK.o.cell 1).trans rfl;have k0:w5.cell? ⟨w.heap.size+1,0,none⟩=some (.int .i64 3):=(mG.o.cell 0).trans rfl;have k1:w5.cell? ⟨w.heap.size+1,1,none⟩=some (.bool false):=(mG.o.cell 1).trans rfl;have f0:=HK.o.frozen 0;have f1:=HK.o.frozen 1;go_wp2_with fail
       go_step3
       go_wp2_with fail;rw [yN];have hfin:=(HK.o.bP 0 (.int .i64 3)).bP 1 (.bool false);have pq:=(dX.o.setCell (p:=⟨w.heap.size,0,none⟩) (Nat.le_refl _) (.int .i64 3)).setCell (p:=⟨w.heap.size,1,none⟩) (Nat.le_refl _) (.bool false);generalize (w5.setCell ⟨w.heap.size,0,none⟩ (.int .i64 3)).setCell ⟨w.heap.size,1,none⟩ (.bool false)=W2 at hfin pq ⊢;have d0:W2.cell? ⟨w.heap.size,0,none⟩=some (.int .i64 3):=(hfin.cell 0).trans rfl;have d1:W2.cell? ⟨w.heap.size,1,none⟩=some (.bool false):=(hfin.cell 1).trans rfl;exact bodyPost_ret (v:=.agg #[.int .i64 3, .bool false]) (by simp [results,Tryz.results101,go_sem,d0,d1]) rfl ⟨by rw [Et.o,jf.o];rfl,pq⟩
end
section
open Go.RowKit Go.Shelf
attribute [local go_sem] Oper.semAt_some
def OG (x:M.Place):Array Value:=#[.int .i64 (x.1:Int), .agg #[.int .i64 (x.2.1:Int), .bool x.2.2]]
def PI (l:List UInt8) (pre:List M.Place) (x:M.Place):Prop:=∃ t,pre++x::t=M.places l
theorem ag1 (p:Option Addr) (w:World) :
  Calls Tryz.prog 57 #[.pointer p] w λe w'=>e = .returned (.func (.func 100) #[] #[.pointer (some ⟨w.heap.size,0,none⟩)])/\w.alloc (.cells #[.pointer p] 103)=w':=by
 go_enter Tryz.func57,Tryz.ntmps57
 go_wp2
 go_ret
 exact⟨rfl,rfl⟩
theorem aiJ (n:Nat) (A:Nat->Addr) (B b Bn:Nat) (s:ByteArray) (hs:s.size<=16777216) (l:Nat) (W1:World)
  (hE:E A B W1) (hB:B<=b) (hb:ak W1 b 107 #[.string s]) (hBn:ak W1 Bn 103 #[.pointer (some ⟨b,0,none⟩)]) :
  acY (n+1) Tryz.prog 100 #[.pointer (some ⟨Bn,0,none⟩)] OG (λ_=>False) (λk=>k=b\/k=Bn\/k<B) (PI s.data.toList) (λxs _=>xs=M.places s.data.toList) l W1:=by
 intro J Jx hJ hJx hY h0;have HY:=bx hY;have HJ:=bx hJ;clear hY hJ;have bK:=bx (size_eq s);refine callsIn_of_wp Tryz.func100 rfl trivial ?_;simp only [Tryz.ntmps100,List.size_toArray,List.length_cons,List.length_nil,Nat.reduceAdd,Nat.reduceSub,Array.replicate_succ,Array.replicate_zero,List.push_toArray,List.append_toArray,List.nil_append,List.cons_append]
 gi_wp2
 refine wpIn_wide.2 (wp_scope_straight ((wpIn_wide (n:=n+1)).1 ?_))
 gi_wp2
 refine wpIn_label ?_
 gi_wp2
 gi_loopw [3] (λv wr=>∃ (a:Nat) (pre:List M.Place),a<=s.size/\v = .int .i64 a/\Box (pre++M.rest s.data.toList a=M.places s.data.toList)/\Box (E A B wr)/\Box (ak wr b 107 #[.string s])/\Box (ak wr Bn 103 #[.pointer (some ⟨b,0,none⟩)])/\Box (J pre wr))
  (λv _=>s.size-(intOf v).toNat)
 case atStart=>exact⟨0,[],by omega,rfl,⟨by rw [M.F9];rfl⟩,⟨hE⟩,⟨hb⟩,⟨hBn⟩,⟨h0⟩⟩
 case round =>
  obtain⟨a,pre,ha,rfl,hp,hEr,hbr,IE,hj⟩:=hrel;have c0:wr.cell? ⟨b,0,none⟩=some (.string s):=(hbr.o.cell 0).trans rfl;have c1:wr.cell? ⟨Bn,0,none⟩=some (.pointer (some ⟨b,0,none⟩)):=(IE.o.cell 0).trans rfl;clear hE hb hBn h0
  by_cases hlt:a<s.size
  ·have HA:=bx ((callsIn_wide (n:=n)).2 (ajz A B b s a wr c0 ha hs hEr.o (by have:=hbr.o.lt;omega)));have hlt':a<s.data.toList.length:=by rw [<- bK.o];exact hlt
   obtain⟨m,o,hu⟩:∃ m o,M.unit (s.data.toList.drop a)=(m,o):=⟨_,_,rfl⟩
   have wK:=M.I8 hlt';have hrc:=M.Cc s.data.toList a hlt';rw [hu] at wK hrc;simp only at wK hrc;have HU:=bx (show EG (s.data.toList.drop a) = .agg #[.int .i64 m, .bool o] by unfold EG;rw [hu]);have HP:=bx (show pre++(a,m,o)::M.rest s.data.toList (a+m)=M.places s.data.toList by rw [<- hrc];exact hp.o);have ham:a+m<=s.size:=by rw [bK.o];exact wK.2.2
   have hm1:=wK.1;have hm4:=wK.2.1;clear hlt' hu wK hrc
   gi_wp2
   refine⟨trivial,HA.o.mono ?_⟩;rintro e w1 ⟨rfl,hb1⟩;rw [HU.o];have hT1:Turns (λ_=>False) wr (w1.alloc (.cells #[.int .i64 m, .bool o] 110)):=(Turns.of_below hb1).trans (Turns.alloc _ _);have HT1:=bx hT1;have hy:=HY.o pre (a,m,o) wr _ hj.o hT1 ⟨_,HP.o⟩;unfold OG at hy;simp only at hy;obtain⟨fn,tmps,assign,body,hy,uO⟩:=hy;have Cb:=bx uO;have ac8:=hb1.size;clear uO hT1 hb1
   gi_wp2
   refine Cb.o.mono ?_;rintro e W3 (⟨rfl,hj3,hk3⟩ | ⟨rfl,hx3⟩)
   ·have HR3:=bx (show Box (E A B W3)/\Box (ak W3 b 107 #[.string s])/\Box (ak W3 Bn 103 #[.pointer (some ⟨b,0,none⟩)])/\Box (J (pre++[(a,m,o)]) W3) from
     ⟨⟨(hEr.o.below (HT1.o.below (by have:=hbr.o.lt;omega) (λ_ h=>h.elim))).holds hk3 (λk hk=>.inl (.inr (.inr hk)))⟩,⟨hk3.blk (HT1.o.blk hbr.o (λh=>h)) (.inl (.inl rfl))⟩,⟨hk3.blk (HT1.o.blk IE.o (λh=>h)) (.inl (.inr (.inl rfl)))⟩,⟨hj3⟩⟩)
    have hbx:=hk3.blk (ak.new w1 110 #[.int .i64 m, .bool o]) (.inr ⟨ac8,by simp⟩);have x0:W3.cell? ⟨w1.heap.size,0,none⟩=some (.int .i64 m):=(hbx.cell 0).trans rfl;clear hj3 hk3 hbx
    gi_wp2
    go_roundw
    case rel=>exact⟨a+m,pre++[(a,m,o)],ham,by go_num,⟨by rw [List.append_assoc];exact HP.o⟩,HR3.o.1,HR3.o.2.1,HR3.o.2.2.1,HR3.o.2.2.2⟩
    case measure=>simp [intOf];omega
   ·gi_wp2
    rw [Exit.noGoto_normal]
    go_end0
    exact⟨⟨_,rfl⟩, .inr ⟨_,hx3⟩⟩
  ·have Aw:=bx (show pre=M.places s.data.toList by
    have:=hp.o;rw [M.rest_end _ _ (by rw [<- bK.o];omega),List.append_nil] at this;exact this)
   gi_wp2
   rw [Exit.noGoto_normal]
   go_end0
   exact⟨⟨_,rfl⟩, .inl ⟨pre,Aw.o,hj.o⟩⟩
theorem Oz (w:World) (o:Obj):Below w.heap.size w (w.alloc o):=(Below.refl _ _).alloc (Nat.le_refl _) o
theorem OE (l:List UInt8):(M.places l).length<=l.length:=by
 have h:=M.akA l 0 (by omega);have key:∀ (k a:Nat),l.length<=a+k->(M.rest l a).length<=l.length-a:=by
  intro k
  induction k with
  | zero=>intro a h;rw [M.rest_end l a (by omega)];simp
  | succ k ih =>
   intro a h
   by_cases hl:l.length<=a
   ·rw [M.rest_end l a hl];simp
   ·have hu:=M.I8 (s:=l) (a:=a) (by omega);rw [M.Cc l a (by omega),List.length_cons];have:=ih (a+(M.unit (l.drop a)).1) (by omega);omega
 have:=key l.length 0 (by omega);rw [M.F9] at this;omega
theorem ajq {l:List UInt8} {pre:List M.Place} {x:M.Place} (h:PI l pre x):pre.length<l.length:=by
 obtain⟨t,ht⟩:=h;have h1:=congrArg List.length ht;have h2:=OE l;simp only [List.length_append,List.length_cons] at h1;omega
theorem three (w:World) (cs cs1 cs2:Array Value) (T0 T1 T2:TypeId) :
  ak (((w.alloc (.cells cs T0)).alloc (.cells cs1 T1)).alloc (.cells cs2 T2)) w.heap.size T0 cs/\ak (((w.alloc (.cells cs T0)).alloc (.cells cs1 T1)).alloc (.cells cs2 T2)) (w.heap.size+1) T1 cs1/\ak (((w.alloc (.cells cs T0)).alloc (.cells cs1 T1)).alloc (.cells cs2 T2)) (w.heap.size+1+1) T2 cs2 /\
   Below w.heap.size w (((w.alloc (.cells cs T0)).alloc (.cells cs1 T1)).alloc (.cells cs2 T2))/\(((w.alloc (.cells cs T0)).alloc (.cells cs1 T1)).alloc (.cells cs2 T2)).heap.size=w.heap.size+3:=by
 refine⟨((ak.new w _ _).alloc _).alloc _,?_,?_,(((Below.refl _ _).alloc (Nat.le_refl _) _).alloc (by simp) _).alloc (by simp;omega) _,by simp⟩
 ·have:=(ak.new (w.alloc (.cells cs T0)) T1 cs1).alloc (.cells cs2 T2)
  simpa using this
 ·have:=ak.new ((w.alloc (.cells cs T0)).alloc (.cells cs1 T1)) T2 cs2
  simpa using this
end
section
open Go.RowKit Go.Shelf
def Yi:Go.Shelf.Ren:=⟨fun | 169=>59 | n=>n,fun | 70=>97 | 9=>9 | 0=>0 | 72=>100 | 37=>98 | 127=>166 | 3=>3 | 5=>5 | n=>n,fun | n=>n⟩
theorem lays169:Go.Proofs.Lays.n169 Tryz.prog Yi:={
 mixed:=by kernel_rfl
 f169:=Tryz.func59.trans (congrArg some (by kernel_rfl))
 t0:=Tryz.underlying0
 a0:=Tryz.isAgg0
 z0:=Tryz.sizeOf0
 v0:=Tryz.zeroValue0
 t3:=Tryz.underlying3
 a3:=Tryz.isAgg3
 z3:=Tryz.sizeOf3
 v3:=Tryz.zeroValue3
 t9:=Tryz.underlying9
 a9:=Tryz.isAgg9
 z9:=Tryz.sizeOf9
 v9:=Tryz.zeroValue9
 t37:=Tryz.underlying98
 a37:=Tryz.isAgg98
 z37:=Tryz.sizeOf98
 v37:=Tryz.zeroValue98
 t70:=Tryz.underlying97
 a70:=Tryz.isAgg97
 z70:=Tryz.sizeOf97
 v70:=Tryz.zeroValue97
 t72:=Tryz.underlying100
 a72:=Tryz.isAgg100
 z72:=Tryz.sizeOf100
 v72:=Tryz.zeroValue100
 t127:=Tryz.underlying166
 a127:=Tryz.isAgg166
 z127:=Tryz.sizeOf166
 v127:=Tryz.zeroValue166 }
theorem Ph:Builder.Extra Tryz.prog Yi:={
 sizeBuilder:=by kernel_rfl
 liesBuilder:=by kernel_rfl
 t5:=Tryz.underlying5
 a5:=Tryz.isAgg5
 z5:=Tryz.sizeOf5
 v5:=Tryz.zeroValue5
 infoByte:=by kernel_rfl
 cellsByte:=by kernel_rfl
 sizeByte:=by kernel_rfl
 neB5:=by decide }
theorem akx (B b:Nat) (l:List UInt8) (w:World) (h:Lib.IsBuilder 100 5 B b (Lib.byteCells l) w) (hB:B<=w.heap.size) :
  Calls Tryz.prog 59 #[.pointer (some ⟨b,0,none⟩)] w λe w'=>e = .returned (.string ⟨l.toArray⟩)/\Below B w w' :=
 Any.Builder_String_any lays169 Ph B b l w h hB
theorem bInfo:(Tryz.prog.info? 100).map (·.size)=some 2:=by kernel_rfl
theorem amH:liesAt Tryz.prog Tryz.prog.depth 100 (2 / Tryz.prog.cellsOf 100) 0 100 1=true:=by kernel_rfl
theorem PS:(Tryz.prog.info? 5).map (λi=>(i.zero,i.size,i.bytes))=some (some (.int .u8 0),1,1):=by kernel_rfl
theorem XK (b:Nat) (w:World) (h0:w.cell? ⟨b,0,none⟩=some (.pointer (some ⟨b,0,none⟩))) :
  Calls Tryz.prog 102 #[.pointer (some ⟨b,0,none⟩)] w λe w'=>e = .returned (.tuple #[])/\w=w':=by
 obtain⟨j,hj,_⟩:=Option.map_eq_some_iff.1 bInfo
 go_enter Tryz.func102,Tryz.ntmps102
 go_wp2
 rw [Lib.run_neq_ptr_same w _ Tryz.underlying97 hj]
 go_wp2
 go_end0
 exact⟨rfl,rfl⟩
theorem adt (b:Nat) (w:World) (h0:w.cell? ⟨b,0,none⟩=some (.pointer none)) (hs:w.shape? b=some (100,2)) (hf:w.frozen? ⟨b,0,none⟩=false) :
  Calls Tryz.prog 102 #[.pointer (some ⟨b,0,none⟩)] w λe w'=>e = .returned (.tuple #[])/\w.setCell ⟨b,0,none⟩ (.pointer (some ⟨b,0,none⟩))=w':=by
 obtain⟨j,hj,hjs⟩:=Option.map_eq_some_iff.1 bInfo
 go_enter Tryz.func102,Tryz.ntmps102
 go_wp2
 rw [Lib.run_to_unsafe w ⟨b,0,none⟩ Tryz.underlying97 Tryz.underlying230 hj (by rw [hjs];decide) hs (Nat.zero_lt_succ 1)];simp only [Result.andThen];rw [Oper.upon_value]
 go_wp2
 rw [run_callFunc_extern Tryz.func152 (by kernel_rfl) (by kernel_rfl) (by kernel_rfl) (e:=Extern.AbiNoEscape.same) (by kernel_rfl)];rw [Lib.run_noEscape];simp only [Result.andThen];rw [Oper.upon_value]
 go_wp2
 rw [Lib.run_from_unsafe w ⟨b,0,none⟩ Tryz.underlying230 Tryz.underlying97 hj hs amH];simp only [Result.andThen];rw [Oper.upon_value]
 go_wp2
 go_end0
 exact⟨rfl,rfl⟩
theorem akQ (B b:Nat) (bs:List Value) (w:World) (h:Lib.IsBuilder 100 5 B b bs w) :
  Calls Tryz.prog 102 #[.pointer (some ⟨b,0,none⟩)] w λe w'=>e = .returned (.tuple #[])/\Lib.BuilderAt 100 5 B b (.pointer (some ⟨b,0,none⟩)) bs w'/\Below B w w':=by
 rcases h with h | h
 ·refine(adt b w h.cell0 h.shape h.frozen0).mono ?_;rintro e w' ⟨rfl,rfl⟩;exact⟨rfl,h.used _,(Below.refl B w).setCell (p:=⟨b,0,none⟩) h.1 _⟩
 ·refine(XK b w h.cell0).mono ?_;rintro e w' ⟨rfl,rfl⟩;exact⟨rfl,h,Below.refl B w⟩
theorem aho (B b:Nat) (l:List UInt8) (s:ByteArray) (w:World) (h:Lib.IsBuilder 100 5 B b (Lib.byteCells l) w) (hz:l.length+s.size<=16777216) (hB:B<=w.heap.size) :
  Calls Tryz.prog 58 #[.pointer (some ⟨b,0,none⟩), .string s] w λe w'=>e = .returned (.tuple #[.int .i64 s.size, .nilIface])/\Lib.IsBuilder 100 5 B b (Lib.byteCells (l++s.data.toList)) w'/\Below B w w':=by
 obtain⟨i0,hi,hz0,hz1,hz2⟩:=info_parts PS;have hlen:(Lib.byteCells l).length=l.length:=by simp [Lib.byteCells]
 go_enter Tryz.func58,Tryz.ntmps58
 go_wp2_with (go_at_call 102;refine(akQ B b _ _ h).mono ?_)
 rintro e w1 ⟨rfl,h1,hb1⟩;obtain⟨hB',v,hbk,hown,hne⟩:=h1;have c0:w1.cell? ⟨b,0,none⟩=some (.pointer (some ⟨b,0,none⟩)):=by rw [Lib.cell_of_heap hbk];rfl
 have c1:w1.cell? ⟨b,1,none⟩=some v:=by rw [Lib.cell_of_heap hbk];rfl
 go_wp2_with (at_builtin;refine Lib.wpList_append_own_string _ rfl _ _ 98 9 rfl B 5 i0 Tryz.underlying98 Tryz.underlying9 hi hz0 hz1 hz2 _ _ _ rfl hown s rfl ?c3 ?c4 ?c5 ?_)
 case c3=>unfold maxLen;omega
 case c4=>omega
 case c5=>have:=hb1.size;omega
 intro v' w2 hown' hgrow _;have hlt:b<w1.heap.size:=by
  rcases Nat.lt_or_ge b w1.heap.size with h' | h'
  ·exact h'
  ·simp [Array.getElem?_eq_none h'] at hbk
 have hb2:w2.heap[b]?=some (.cells #[.pointer (some ⟨b,0,none⟩),v] 100 (0,0)):=by
  rw [hgrow.block b hlt (λe=>hne e.symm)];exact hbk
 have d1:w2.cell? ⟨b,1,none⟩=some v:=by rw [Lib.cell_of_heap hb2];rfl
 have f1:w2.frozen? ⟨b,1,none⟩=false:=Lib.frozen_of_heap hb2 1;obtain⟨ao,n',cap,rfl⟩:∃ ao n' cap,v' = .slice ao n' cap:=by
  rcases hown'.2 with⟨hv,_⟩ | ⟨g,cap,cur,hv,_⟩
  ·exact⟨_,_,_,hv⟩
  ·exact⟨_,_,_,hv⟩
 go_wp2
 go_ret2
 refine⟨rfl, .inr ?_,?_⟩
 ·have:=Lib.BuilderAt.put (T:=100) (e:=5) hB' hb2 (bs':=Lib.byteCells l++Lib.strCells s) (by rw [List.length_append,Lib.strCells_length,hlen];exact hown') (by decide);rw [show Lib.byteCells (l++s.data.toList)=Lib.byteCells l++Lib.strCells s by simp [Lib.byteCells,Lib.strCells]];exact this
 ·exact(hb1.grown hgrow (by have:=hb1.size;omega) (λk hk=>(hown.lt k hk).1)).setCell (p:=⟨b,1,none⟩) hB' _
end
section
open Go.RowKit
structure xX (Bar b:Nat) (v:Value) (l:List UInt8) (w:World):Prop where
 blk:ak w b 100 #[.pointer none,v]\/ak w b 100 #[.pointer (some ⟨b,0,none⟩),v]
 own:w.ownsRow Bar 5 1 v l.length (Lib.byteCells l)
 ne:v.ownBlock≠some b
theorem xX.turns {Bar b:Nat} {v:Value} {l:List UInt8} {w w':World} {own:Nat->Prop} (h:xX Bar b v l w) (ht:Turns own w w') (hb:¬ own b) (ho:∀ k,v.ownBlock=some k->¬ own k):xX Bar b v l w' :=
 ⟨h.blk.imp (λk=>ht.blk k hb) (λk=>ht.blk k hb),ht.row h.own ho,h.ne⟩
theorem xX.lt {Bar b:Nat} {v:Value} {l:List UInt8} {w:World} (h:xX Bar b v l w):b<w.heap.size:=by
 rcases h.blk with k | k <;> exact k.lt
theorem Turns.akg {A B:World} {b:Nat} {row:Option Nat} (h:A.grownBy B row):Turns (λk=>k=b\/row=some k) A B :=
 ⟨h.os,h.tape,h.output,h.size,λi hi ho=>h.block i hi (λe=>ho (.inr e.symm))⟩
theorem Yn (Bar b:Nat) (v:Value) (l:List UInt8) (s:ByteArray) (w:World) (h:xX Bar b v l w) (hz:l.length+s.size<=16777216) (hbB:b<Bar) (hB:Bar<=w.heap.size) :
  Calls Tryz.prog 58 #[.pointer (some ⟨b,0,none⟩), .string s] w λe w'=>e = .returned (.tuple #[.int .i64 s.size, .nilIface])/\(∃ v',xX Bar b v' (l++s.data.toList) w')/\Turns (λk=>k=b\/v.ownBlock=some k) w w':=by
 obtain⟨i0,hi,hz0,hz1,hz2⟩:=info_parts PS;have hlen:(Lib.byteCells l).length=l.length:=by simp [Lib.byteCells]
 have hlt:=h.lt;have hcopy:Calls Tryz.prog 102 #[.pointer (some ⟨b,0,none⟩)] w λe w'=>e = .returned (.tuple #[])/\ak w' b 100 #[.pointer (some ⟨b,0,none⟩),v]/\Turns (λk=>k=b) w w':=by
  rcases h.blk with k | k
  ·refine(adt b w ((k.cell 0).trans rfl) (by unfold ak at k;simp [World.shape?,k]) (k.frozen 0)).mono ?_;rintro e w' ⟨rfl,rfl⟩;exact⟨rfl,k.bP 0 _,Turns.setCell (own:=λk=>k=b) w (p:=⟨b,0,none⟩) rfl _⟩
  ·refine(XK b w ((k.cell 0).trans rfl)).mono ?_;rintro e w' ⟨rfl,rfl⟩;exact⟨rfl,k,Turns.refl _ _⟩
 have hown0:=h.own;have hne:=h.ne;clear h
 go_enter Tryz.func58,Tryz.ntmps58
 go_wp2_with (go_at_call 102;refine hcopy.mono ?_)
 rintro e w1 ⟨rfl,hbk,ht1⟩;have hown:=ht1.row hown0 (λk hk e=>by subst e;exact hne hk);have c0:w1.cell? ⟨b,0,none⟩=some (.pointer (some ⟨b,0,none⟩)):=(hbk.cell 0).trans rfl;have c1:w1.cell? ⟨b,1,none⟩=some v:=(hbk.cell 1).trans rfl;have hs1:=ht1.size;clear hown0 hcopy;go_wp2_with (at_builtin;refine Lib.wpList_append_own_string _ rfl _ _ 98 9 rfl Bar 5 i0 Tryz.underlying98 Tryz.underlying9 hi hz0 hz1 hz2 _ _ _ rfl hown s rfl ?c3 ?c4 ?c5 ?_)
 case c3=>unfold maxLen;omega
 case c4=>omega
 case c5=>omega
 intro v' w2 hown' hgrow hnil;have hb2:=hbk.grown hgrow (λe=>hne e.symm);have d1:w2.cell? ⟨b,1,none⟩=some v:=(hb2.cell 1).trans rfl;have f1:=hb2.frozen 1;have hlt':=hown'.lt;obtain⟨ao,n',cap,rfl⟩:∃ ao n' cap,v' = .slice ao n' cap:=by
  rcases hown'.2 with⟨hv,_⟩ | ⟨g,cap,cur,hv,_⟩
  ·exact⟨_,_,_,hv⟩
  ·exact⟨_,_,_,hv⟩
 have hfin:=hb2.bP 1 (.slice ao n' cap);have Wv:=bx hfin;have HB2:=bx hb2;clear hfin hb2 c0 c1
 go_wp2
 go_ret2
 have hT3:Turns (λk=>k=b) w2 (w2.setCell ⟨b,1,none⟩ (.slice ao n' cap)):=Turns.setCell (own:=λk=>k=b) w2 (p:=⟨b,1,none⟩) rfl _;refine⟨rfl,⟨.slice ao n' cap, .inr Wv.o,?_,λe=>by have:=(hlt' b e).1;omega⟩,?_⟩
 ·have:=hT3.row hown' (λk hk e=>by subst e;have:=(hlt' _ hk).1;omega);rw [List.length_append,<- size_eq,show Lib.byteCells (l++s.data.toList)=Lib.byteCells l++Lib.strCells s by simp [Lib.byteCells,Lib.strCells]];exact this
 ·exact((ht1.mono λk hk=>.inl hk).trans (Turns.akg hgrow)).trans (hT3.mono λk hk=>.inl hk)
theorem an2 (w:World) (g n:Nat):Turns (λk=>k=g) w (w.freeze ⟨g,0,none⟩ n):=by
 have hb:=Lib.below_freeze (B:=0) (Below.refl 0 w) (p:=⟨g,0,none⟩) (Nat.zero_le _) n;refine⟨hb.os,hb.tape,hb.output,hb.size,λk hk ho=>?_⟩
 rcases Nat.lt_or_ge k g with h | h
 ·exact(Lib.below_freeze (B:=g) (Below.refl g w) (p:=⟨g,0,none⟩) (Nat.le_refl _) n).block k h
 ·have hgk:g≠k:=λe=>ho e.symm
  unfold World.freeze
  split
  ·rfl
  ·simp only [Array.getElem?_modify];rw [if_neg hgk]
theorem afc (Bar b:Nat) (v:Value) (l:List UInt8) (w:World) (h:xX Bar b v l w) :
  Calls Tryz.prog 59 #[.pointer (some ⟨b,0,none⟩)] w λe w'=>e = .returned (.string ⟨l.toArray⟩)/\Turns (λk=>v.ownBlock=some k) w w':=by
 obtain⟨p,hbk⟩:∃ p,ak w b 100 #[p,v]:=by rcases h.blk with k | k <;> exact⟨_,k⟩
 have hown:=h.own
 by_cases h0:l=[]
 ·subst h0;have key:Calls Tryz.prog 59 #[.pointer (some ⟨b,0,none⟩)] w λe w'=>e = .returned (.string ⟨#[]⟩)/\Below w.heap.size w w':=by
   rcases hown.2 with⟨rfl,_⟩ | ⟨g,cap,cur,rfl,hbg,hg,_⟩
   ·exact Any.Builder_String_nil lays169 Ph w.heap.size b p w hbk
   ·by_cases hc0:cap=0
    ·subst hc0;exact Any.Builder_String_noroom lays169 Ph w.heap.size b g p cur w (Nat.le_refl _) hbk hg
    ·exact Any.Builder_String_room lays169 Ph w.heap.size b g cap p w hc0 hbk
  exact key.mono λe w' ⟨he,hb⟩=>⟨he,Turns.of_below hb⟩
 ·have hl0:l.length≠0:=by simpa using h0
  obtain⟨g,cap,cur,rfl,hbg,hg,hnc,hcm,hcs,htake⟩:∃ g cap cur,v = .slice (some ⟨g,0,none⟩) l.length cap/\Bar<=g/\w.heap[g]?=some (.cells cur 5 (0,0))/\l.length<=cap/\cap<=maxLen/\cur.size=cap*1/\cur.toList.take (l.length*1)=Lib.byteCells l:=by
   rcases hown.2 with⟨_,hz⟩ | ⟨g,cap,cur,hv,r⟩
   ·exact absurd hz hl0
   ·exact⟨g,cap,cur,hv,r⟩
  have c1:w.cell? ⟨b,1,none⟩=some (.slice (some ⟨g,0,none⟩) l.length cap):=(hbk.cell 1).trans rfl;have hSD:(Builtin.unsafeSliceData_ #[98] 166 #[.slice (some ⟨g,0,none⟩) l.length cap]).run Tryz.prog w.drew = .ok (.pointer (some ⟨g,0,none⟩)) w.drew :=
   Lib.run_unsafeSliceData_row _ _ _ _ _ _ (by omega)
  have hUS:(Builtin.unsafeString_ #[166,3] 9 #[.pointer (some ⟨g,0,none⟩), .int .i64 l.length]).run Tryz.prog w.drew = .ok (.string ⟨l.toArray⟩) (w.drew.freeze ⟨g,0,none⟩ l.length):=by
   refine Lib.run_unsafeString_row w.drew 166 3 9 5 Tryz.underlying166 (by kernel_rfl) g cur.size (by have hg':w.drew.heap[g]?=some (.cells cur 5 (0,0)):=hg;simp [World.shape?,hg']) l h0 (by omega) (by unfold maxLen at hcm;omega) ?_;intro j x hx;have:=hown.cells (g:=g) rfl j (.int .u8 x.toNat) (by simp [Lib.byteCells,hx]);exact this
  clear hown htake h0 h hbk
  go_enter Tryz.func59,Tryz.ntmps59
  go_wp2
  go_region
  all_goals
   go_wp2
   go_ret
   refine⟨rfl,(Turns.drew w).trans ((an2 w.drew g l.length).mono λk hk=>by subst hk;rfl)⟩
end
section
open Go.RowKit Go.Shelf
attribute [local go_sem] Oper.semAt_some
theorem aas (l:List UInt8) (pre:List M.Place) (x:M.Place):M.repair l (pre++[x])=M.repair l pre++M.mended l x:=by
 unfold M.repair;rw [List.flatMap_append];simp
theorem alc (l:List UInt8) (x:M.Place) (h:x.2.1<=4):(M.mended l x).length<=4:=by
 unfold M.mended
 split
 ·rw [List.length_take];omega
 ·decide
theorem XQ (l:List UInt8) (pre:List M.Place) (h:∀ x∈pre,x.2.1<=4):(M.repair l pre).length<=4*pre.length:=by
 induction pre with
 | nil=>simp [M.repair]
 | cons x t ih =>
  have h1:=ih (λy hy=>h y (List.mem_cons_of_mem _ hy));have h2:=alc l x (h x (List.mem_cons_self ..));unfold M.repair at h1 ⊢;rw [List.flatMap_cons,List.length_append,List.length_cons];omega
theorem aja {l:List UInt8} {pre:List M.Place} {x:M.Place} (h:PI l pre x):(∀ y∈pre,y.2.1<=4)/\x.2.1<=4/\x.1+x.2.1<=l.length:=by
 obtain⟨t,ht⟩:=h;have key:∀ y∈M.places l,y.2.1<=4/\y.1+y.2.1<=l.length:=by
  intro y hy;rw [<- M.F9] at hy;have:=M.MC l 0 y hy;exact⟨this.2.2.2.2.2,this.2.2.2.1⟩
 refine⟨λy hy=>(key y (by rw [<- ht];simp [hy])).1,(key x (by rw [<- ht];simp)).1,(key x (by rw [<- ht];simp)).2⟩
def mkS:ByteArray:=⟨#[239,191,189]⟩
theorem akF:Ap 65533 = .tuple #[.string mkS, .int .i64 0]:=by
 unfold Ap;rw [if_pos (by decide +kernel),show U.enc 65533=[239,191,189] by decide +kernel]
 rfl
theorem AA (A:Nat->Addr) (B:Nat) (s:ByteArray) (w:World) (hs:s.size<=100000) (hE:E A B w) (hB:B<=w.heap.size) :
  Calls Tryz.prog 28 #[.string s] w λe w'=>e = .returned (.string ⟨(M.fix s.data.toList).toArray⟩)/\Below w.heap.size w w':=by
 have Wx:=Oz w (.cells #[.string s] 9);have zk:=bx (WM A B 65533 _ (hE.below (Wx.mono hB)));have an5:=bx Wx;have aa7:=bx (ak.new w 9 #[.string s]);have HE:=bx hE;have bK:=bx (size_eq s);clear hE Wx;refine(callsIn_wide (n:=9)).1 (callsIn_of_wp_marks Tryz.func28 rfl trivial (wpIn_wide.2 ?_));simp only [Tryz.ntmps28,List.size_toArray,List.length_cons,List.length_nil,Nat.reduceAdd,Nat.reduceSub,Array.replicate_succ,Array.replicate_zero,List.push_toArray,List.append_toArray,List.nil_append,List.cons_append];go_wp2_with fail;refine zk.o.mono ?_;rintro e w1 ⟨rfl,hb1⟩;rw [akF];have HB1:=bx (bt an5.o hb1);have Pn:=aa7.o.below hb1 aa7.o.lt;have c0:w1.cell? ⟨w.heap.size,0,none⟩=some (.string s):=(Pn.cell 0).trans rfl;have l0:=Pn.lt;have adJ:=bx Pn;clear hb1 Pn;go_wp2_with (go_at_call 57;refine(ag1 _ _).mono ?_;rintro e w' ⟨rfl,rfl⟩)
 clear c0;obtain⟨hb0,hb1,hb2,hbL,hsz⟩:=three (w1.alloc (.cells #[.string mkS] 9)) #[.pointer none, .slice none 0 0] #[.string s] #[.pointer (some ⟨w1.heap.size+1+1,0,none⟩)] 100 107 103;have hmk:=(((ak.new w1 9 #[.string mkS]).alloc (.cells #[.pointer none, .slice none 0 0] 100)).alloc (.cells #[.string s] 107)).alloc (.cells #[.pointer (some ⟨w1.heap.size+1+1,0,none⟩)] 103);have hbL:=(Oz w1 (.cells #[.string mkS] 9)).trans (hbL.mono (Oz w1 _).size);rw [show (w1.alloc (.cells #[.string mkS] 9)).heap.size=w1.heap.size+1 from by simp] at hb0 hb1 hb2 hsz;generalize (((w1.alloc (.cells #[.string mkS] 9)).alloc (.cells #[.pointer none, .slice none 0 0] 100)).alloc (.cells #[.string s] 107)).alloc (.cells #[.pointer (some ⟨w1.heap.size+1+1,0,none⟩)] 103)=wL at hb0 hb1 hb2 hbL hsz hmk ⊢;have hw1:=HB1.o.size;have hbs:=adJ.o.below hbL adJ.o.lt;have O5:Below w.heap.size w wL:=bt HB1.o hbL;have EZ:E A B wL:=HE.o.below (O5.mono hB);have Xe:xX (wL.heap.size+2) (w1.heap.size+1) (.slice none 0 0) (M.repair s.data.toList []) wL:=⟨.inl hb0,World.ownsRow_nil _ _ _ _,by simp [Value.ownBlock]⟩
 refine(wpIn_wide (n:=9)).1 (aer (α:=M.Place) (gf:=100) (lb:=#[.pointer (some ⟨w1.heap.size+1+1+1,0,none⟩)]) rfl (enters_of Tryz.func100 (by kernel_rfl) rfl)
  (encs:=OG) (own:=λ_=>False) (keep:=λk=>k=w1.heap.size+1+1\/k=w1.heap.size+1+1+1\/k<B) (ok:=PI s.data.toList) (S:=λxs _=>xs=M.places s.data.toList)
  (λk hk=>by rcases hk with h | h;exact h.elim;omega)
  (λW1 ht=>aiJ 7 A B (w1.heap.size+1+1) (w1.heap.size+1+1+1) s (by omega) _ W1 (EZ.below (ht.below (by omega) (λ_ h=>h.elim))) (by omega) (ht.blk hb1 (λh=>h)) (ht.blk hb2 (λh=>h)))
  (λ_=>rfl)
  (λpre W=>ak W w.heap.size 9 #[.string s]/\ak W w1.heap.size 9 #[.string mkS]/\(∃ v,xX (wL.heap.size+2) (w1.heap.size+1) v (M.repair s.data.toList pre) W)/\Below w.heap.size w W)
  (λ_ _ _=>False) ?hI (λ_ _ _ _ h _=>h) ⟨hbs,hmk,⟨_,Xe⟩,O5⟩
  (λx a1 W=>∃ ub,wL.heap.size+2<=ub/\ak W ub 110 #[.int .i64 (x.2.1:Int), .bool x.2.2]/\a1={ tmps:=#[.string s, .pointer (some ⟨w.heap.size,0,none⟩), .string ⟨#[]⟩, .pointer (some ⟨w1.heap.size,0,none⟩), .int .i64 0, .pointer (some ⟨w1.heap.size+1,0,none⟩), .int .i64 (x.1:Int), .pointer (some ⟨ub,0,none⟩),undef, .tuple #[.string mkS, .int .i64 0], .tuple #[.string mkS, .int .i64 0], .string mkS, .int .i64 0, .string s, .agg #[.string s], .agg #[.string s], .pointer (some ⟨w1.heap.size+1+1,0,none⟩), .func (.func 100) #[] #[.pointer (some ⟨w1.heap.size+1+1+1,0,none⟩)], .int .i64 (x.1:Int), .agg #[.int .i64 (x.2.1:Int), .bool x.2.2],undef,undef,undef,undef,undef,undef,undef,undef,undef,undef,undef,undef,undef,undef,undef,undef,undef],defers:=[] })
  ?hAx ?assign ?body ?done (λ_ _ _ _ h _=>h.elim) (λ_ _ _ h _=>h))
 case hI =>
  rintro pre W W' ⟨h1,h2,⟨v,h3⟩,h4⟩ ht;exact⟨ht.blk h1 (by rintro(h | h);exact h;omega),ht.blk h2 (by rintro(h | h);exact h;omega),⟨v,h3.turns ht (by rintro(h | h);exact h;omega) (λk hk=>by have:=(h3.own.lt k hk).1;rintro(h | h);exact h;omega)⟩,h4.trans (ht.below h4.size (λk hk=>by rcases hk with h | h;exact h.elim;omega))⟩
 case hAx =>
  rintro x a1 W W' ⟨ub,h1,h2,h3⟩ ht;exact⟨ub,h1,ht.blk h2 (by omega),h3⟩
 case assign =>
  intro x W K hW hK;unfold OG
  gi_wp2
  exact hK _ _ (Turns.alloc _ _) ⟨W.heap.size,hW,ak.new _ _ _,rfl⟩
 case body =>
  rintro pre x a1 W0 W N hW0 ⟨h1,h2,⟨v,h3⟩,h4⟩ ht hN hok ⟨ub,hub,hbx,rfl⟩;have hlen:=ajq hok;rw [<- bK.o] at hlen;obtain⟨hm1,hm2,GU⟩:=aja hok;rw [<- bK.o] at GU;have hrl:=XQ s.data.toList pre hm1;have hs1:=ht.size;have k1:=ht.blk h1 (by rintro(h | h);exact h;omega);have k2:=ht.blk h2 (by rintro(h | h);exact h;omega);have k3:=h3.turns ht (by rintro(h | h);exact h;omega) (λk hk=>by have:=(h3.own.lt k hk).1;rintro(h | h);exact h;omega);have k4:=h4.trans (ht.below h4.size (λk hk=>by rcases hk with h | h;exact h.elim;omega));have HOL:=bx h3.own.lt;have x0:W.cell? ⟨ub,0,none⟩=some (.int .i64 (x.2.1:Int)):=(hbx.cell 0).trans rfl;have x1:W.cell? ⟨ub,1,none⟩=some (.bool x.2.2):=(hbx.cell 1).trans rfl;have x2:=hbx.lt;have y0:W.cell? ⟨w.heap.size,0,none⟩=some (.string s):=(k1.cell 0).trans rfl;have y1:W.cell? ⟨w1.heap.size,0,none⟩=some (.string mkS):=(k2.cell 0).trans rfl;have y2:=k1.lt;have y3:=k2.lt;have K1:=bx k1;have K2:=bx k2;have K3:=bx k3;have K4:=bx k4;have gU:=bx (aas s.data.toList pre x);obtain⟨xa,xm,xo⟩:=x;have hxa:xa<=100000:=by have h:xa+xm<=s.size:=GU;omega
  have hxm:xm<=4:=hm2;have hxs:xa+xm<=s.size:=GU;clear h1 h2 h3 h4 k1 k2 k3 k4 hbx hb0 hb1 hb2 hbL EZ hok ht hmk hbs O5 Xe hm1 hm2 GU
  cases xo with
  | true =>
   have hxe:(s.extract xa (xa+xm)).data.toList=(s.data.toList.drop xa).take xm:=by rw [Lib.extract_data];congr 1;omega
   have HXE:=bx hxe;have hxz:(s.extract xa (xa+xm)).size<=4:=by rw [size_eq,hxe,List.length_take];omega
   clear hxe
   gi_wp2
   refine⟨trivial,((callsIn_wide (n:=6)).2 (Yn (wL.heap.size+2) (w1.heap.size+1) v _ (s.extract xa (xa+xm)) _ (K3.o.turns (Turns.alloc (own:=λ_=>False) W _) (λh=>h) (λ_ _ h=>h)) (by omega) (by omega) (by simp;omega))).mono ?_⟩;rintro e w3 ⟨rfl,⟨v',hbv⟩,ht3⟩;have bG:=bx (show xX (wL.heap.size+2) (w1.heap.size+1) v' (M.repair s.data.toList (pre++[(xa,xm,true)])) w3 by
    rw [gU.o];rw [HXE.o] at hbv;exact hbv)
   have hT:=(Turns.alloc (own:=λk=>k=w1.heap.size+1\/v.ownBlock=some k) W (.cells #[.int .i64 xm, .bool true] 110)).trans ht3;have HT:=bx hT;clear hbv ht3 hT
   gi_wp2
   refine⟨Holds.Az HT.o (λk hk=>by omega) (λk hk h=>?_),HT.o.blk K1.o (λh=>?_),HT.o.blk K2.o (λh=>?_),⟨v',bG.o⟩,K4.o.trans (HT.o.below K4.o.size (λk hk=>?_))⟩
   ·rcases h with h | h
    ·omega
    ·have:=HOL.o k h;omega
   ·rcases h with h | h
    ·omega
    ·have:=HOL.o _ h;omega
   ·rcases h with h | h
    ·omega
    ·have:=HOL.o _ h;omega
   ·rcases hk with h | h
    ·omega
    ·have:=HOL.o _ h;omega
  | false =>
   gi_wp2
   refine⟨trivial,((callsIn_wide (n:=6)).2 (Yn (wL.heap.size+2) (w1.heap.size+1) v _ mkS _ (K3.o.turns (Turns.alloc (own:=λ_=>False) W _) (λh=>h) (λ_ _ h=>h)) (by show _+3<=_;omega) (by omega) (by simp;omega))).mono ?_⟩;rintro e w3 ⟨rfl,⟨v',hbv⟩,ht3⟩;have bG:=bx (show xX (wL.heap.size+2) (w1.heap.size+1) v' (M.repair s.data.toList (pre++[(xa,xm,false)])) w3 by
    rw [gU.o]
    skip
    exact hbv)
   have hT:=(Turns.alloc (own:=λk=>k=w1.heap.size+1\/v.ownBlock=some k) W (.cells #[.int .i64 xm, .bool true] 110)).trans ht3;have HT:=bx hT;clear hbv ht3 hT
   gi_wp2
   refine⟨Holds.Az HT.o (λk hk=>by omega) (λk hk h=>?_),HT.o.blk K1.o (λh=>?_),HT.o.blk K2.o (λh=>?_),⟨v',bG.o⟩,K4.o.trans (HT.o.below K4.o.size (λk hk=>?_))⟩
   ·rcases h with h | h
    ·omega
    ·have:=HOL.o k h;omega
   ·rcases h with h | h
    ·omega
    ·have:=HOL.o _ h;omega
   ·rcases h with h | h
    ·omega
    ·have:=HOL.o _ h;omega
   ·rcases hk with h | h
    ·omega
    ·have:=HOL.o _ h;omega
 case done =>
  intro xs W hW hS ⟨h1,h2,⟨v,h3⟩,h4⟩ hD;have ES:=bx (afc (wL.heap.size+2) (w1.heap.size+1) v (M.repair s.data.toList xs) W h3);have HOL:=bx h3.own.lt;have H4:=bx h4;have HD:=bx hD;have HV:=bx (show M.repair s.data.toList xs=M.fix s.data.toList by rw [hS];rfl);have hws:=h4.size;have aok:w1.heap.size+1+3<=wL.heap.size:=by omega
  clear hsz h1 h2 h3 h4 hD hb0 hb1 hb2 hbL EZ hmk hbs O5 Xe hS;go_wp2_with fail;refine ES.o.mono ?_;rintro e w2 ⟨rfl,UM⟩;have HD2:=bx ((UM.block wL.heap.size (by omega) (λh=>by have:=HOL.o _ h;omega)).trans HD.o);have AZ:=bx (H4.o.trans (UM.below H4.o.size (λk hk=>by have:=HOL.o _ hk;omega)));clear UM;go_wp2_with fail;refine⟨by simp, .inl ⟨_,_,rfl,run_takeDeferred HD2.o,?_⟩⟩;refine⟨_,results_tmp rfl _ _ _,?_⟩;exact⟨by rw [<- HV.o];rfl,AZ.o.trans ((Turns.putObj (own:=λk=>k=wL.heap.size) w2 rfl _).below AZ.o.size (λk hk=>by omega))⟩
def fN (n:Nat):Nat:=floatOfInt .f64 (n:Int)
def abq:Option M.Place->Nat
 | none=>0
 | some x=>x.2.1
def cv (pl:List M.Place) (q:Int):Value:=.complex .f64 (fN (abq (M.fwd pl q))) (fN (abq (M.bwd pl q)))
end
section
open Go.RowKit Go.Shelf
attribute [local go_sem] Oper.semAt_some
theorem aeo (P:Program) (w:World) (k:FloatKind) (b:Nat):(Op.unary .neg (.float k b)).run P w = .ok (.float k (Op.negFloat k b)) w:=rfl
attribute [local go_sem] aeo
theorem aex {l:List UInt8} {x:M.Place} (h:x∈M.places l):x.1<l.length/\x.1+x.2.1<=l.length/\1<=x.2.1/\x.2.1<=4:=by
 rw [<- M.F9] at h;have:=M.MC l 0 x h;exact⟨this.2.1,this.2.2.2.1,this.2.2.2.2.1,this.2.2.2.2.2⟩
end
section
open Go.RowKit
section
variable {A:Nat->Addr} {B:Nat} {W0 w w':World}
end
def aoD (s:ByteArray):ByteArray:=if 300<s.size then s.extract 0 300 else s
theorem BD (l:List UInt8):(M.fix l).length<=4*l.length:=by
 have h1:=XQ l (M.places l) (λx hx=>(aex hx).2.2.2);have h2:=OE l;unfold M.fix;omega
theorem abM (r:Int) (h:U.right r=true):Ap r = .tuple #[.string ⟨(U.enc r).toArray⟩, .int .i64 0]:=by unfold Ap;rw [if_pos h]
theorem WE (l:List UInt8):(⟨l.toArray⟩:ByteArray).size=l.length:=by rw [size_eq]
def EI (xs:List Int):Value:=if xs.all U.right=true then .tuple #[.string ⟨(U.textOf xs).toArray⟩, .int .i64 0] else .tuple #[.string ⟨#[]⟩, .int .i64 10]
theorem IU (xs:List Int):(U.textOf xs).length<=4*xs.length:=by
 induction xs with
 | nil=>simp [U.textOf]
 | cons x t ih =>
  have:=U.KC x;simp only [U.textOf,List.flatMap_cons,List.length_append,List.length_cons] at ih ⊢;omega
theorem aad (xs:List Int) (k:Nat) (x:Int) (h:xs[k]?=some x):U.textOf (xs.take (k+1))=U.textOf (xs.take k)++U.enc x:=by
 rw [List.take_add_one,h,U.U9];simp [U.textOf]
theorem YX (xs:List Int) (k:Nat) (x:Int) (h:xs[k]?=some x) (ha:(xs.take k).all U.right=true) (hx:U.right x=true):(xs.take (k+1)).all U.right=true:=by
 rw [List.take_add_one,h,List.all_append,ha];simp [hx]
theorem abb (xs:List Int) (k:Nat) (x:Int) (h:xs[k]?=some x) (hx:U.right x=false):EI xs = .tuple #[.string ⟨#[]⟩, .int .i64 10]:=by
 unfold EI;rw [if_neg];intro ha;rw [List.all_eq_true] at ha;rw [ha x (List.mem_of_getElem? h)] at hx
 cases hx
theorem Vz (xs:List Int) (h:xs.all U.right=true):EI xs = .tuple #[.string ⟨(U.textOf xs).toArray⟩, .int .i64 0]:=by unfold EI;rw [if_pos h]
theorem anc {w w':World} {B b:Nat} {bs:List Value} (h:Lib.IsBuilder 100 5 B b bs w) (hb:Below w.heap.size w w'):Lib.IsBuilder 100 5 B b bs w':=by
 have key:∀ p,Lib.BuilderAt 100 5 B b p bs w->Lib.BuilderAt 100 5 B b p bs w':=by
  rintro p hp;have hlt:=hp.lt;obtain⟨hB,v,hk,ho,hne⟩:=hp;refine⟨hB,v,(hb.block b hlt).trans hk,?_,hne⟩;have hol:=ho.lt;refine⟨ho.1,?_⟩
  rcases ho.2 with h2 | ⟨g,cap,cur,h2,h3,h4,h5⟩
  ·exact .inl h2
  ·exact .inr ⟨g,cap,cur,h2,h3,(hb.block g (hol g (by rw [h2];rfl)).2).trans h4,h5⟩
 rcases h with h | h
 ·exact .inl (key _ h)
 ·exact .inr (key _ h)
theorem QT (A:Nat->Addr) (B:Nat) (v:Value) (xs:List Int) (w:World) (hv:ay w v xs) (hz:xs.length<=1000) (hE:E A B w) (hB:B<=w.heap.size) :
  Calls Tryz.prog 30 #[v] w λe w'=>e = .returned (EI xs)/\Below w.heap.size w w':=by
 have jw:=bx hv;obtain⟨ao,cap,rfl⟩:=hv.slice;clear hv;have HE:=bx hE;clear hE
 go_enter Tryz.func30,Tryz.ntmps30
 go_wp2
 have hW1:Below w.heap.size w (w.alloc (.cells #[.pointer none, .slice none 0 0] 100)):=(Below.refl _ _).alloc (Nat.le_refl _) _;have hF:=Lib.fresh_isBuilder 100 5 w
 go_loopw [11] (λi wr=>∃ k:Nat,k<=xs.length/\i = .int .i64 k/\Box ((xs.take k).all U.right=true)/\Box (Lib.IsBuilder 100 5 w.heap.size w.heap.size (Lib.byteCells (U.textOf (xs.take k))) wr)/\Box (Below w.heap.size w wr))
  (λi _=>xs.length-(intOf i).toNat)
 case atStart=>exact⟨0,by omega,rfl,⟨rfl⟩,⟨hF⟩,⟨hW1⟩⟩
 case round =>
  obtain⟨k,hk,rfl,ha,hib,hb⟩:=hrel;clear hW1 hF
  by_cases hlt:k<xs.length
  ·obtain⟨x,hx⟩:∃ x,xs[k]?=some x:=⟨_,List.getElem?_eq_getElem hlt⟩
   have HX:=bx hx;have HE2:=bx (HE.o.below (hb.o.mono hB));obtain⟨g,off,cap2,hg1,hg2,hg3,hg4,hg5⟩:=(jw.o.below hb.o).get (by rintro rfl;simp at hlt);obtain⟨rfl,rfl⟩:ao=some ⟨g,off,none⟩/\cap=cap2:=by injection hg1 with h1 h2 h3;exact⟨h1,h3⟩
   have hc:=hg5 k x hx;unfold maxLen at hg3;clear hx hg1 hg5
   cases hr:U.right x with
   | true =>
    have HV:=bx (abM x hr);have HA:=bx (YX xs k x HX.o ha.o hr);clear hr;go_wp2_with fail;refine(WM A B x _ HE2.o).mono ?_;rintro e w1 ⟨rfl,hb1⟩;rw [HV.o];have HB1:=bx hb1;have HI1:=bx (anc hib.o hb1);have bQ:=bx (show w.heap.size<=w1.heap.size from Nat.le_trans hb.o.size hb1.size);have lq:=bx (show (U.textOf (xs.take k)).length+(⟨(U.enc x).toArray⟩:ByteArray).size<=16777216 by
     have h1:=IU (xs.take k);have h2:=(U.KC x).2;rw [List.length_take] at h1;rw [WE];omega)
    clear hb1;go_wp2_with fail;refine(aho w.heap.size w.heap.size _ _ _ HI1.o lq.o bQ.o).mono ?_;rintro e w2 ⟨rfl,hi2,hb2⟩;have HI2:=bx (show Lib.IsBuilder 100 5 w.heap.size w.heap.size (Lib.byteCells (U.textOf (xs.take (k+1)))) w2 by rw [aad xs k x HX.o];exact hi2);have ajJ:=bx (show Below w.heap.size w w2 from(bt hb.o HB1.o).trans hb2);clear hi2 hb2;go_wp2_with fail
    go_roundw
    case rel=>exact⟨k+1,hlt,by go_num,HA,HI2,ajJ⟩
    case measure=>simp [intOf];omega
   | false =>
    have HV:=bx (Ov hr);have HT:=bx (abb xs k x HX.o hr);clear hr;go_wp2_with fail;refine(WM A B x _ HE2.o).mono ?_;rintro e w1 ⟨rfl,hb1⟩;rw [HV.o];go_wp2_with fail;go_ret2
    exact⟨by rw [HT.o];rfl,bt hb.o hb1⟩
  ·have HT:=bx (show xs.all U.right=true by have:=ha.o;rwa [List.take_of_length_le (by omega)] at this);have HI:=bx (show Lib.IsBuilder 100 5 w.heap.size w.heap.size (Lib.byteCells (U.textOf xs)) wr by have:=hib.o;rwa [List.take_of_length_le (by omega)] at this);go_wp2_with fail;refine(akx w.heap.size w.heap.size _ _ HI.o hb.o.size).mono ?_;rintro e w1 ⟨rfl,hb1⟩;go_wp2_with fail;go_ret2
   exact⟨by rw [Vz xs HT.o];rfl,hb.o.trans hb1⟩
end
section
open Go.RowKit
attribute [local go_sem] Oper.semAt_some
theorem aae:∀ (k:Nat) (s:List UInt8),(M.En k s).length<=k
 | 0,s=>Nat.le_refl _
 | k+1,s=>by
  simp only [M.En]
  split
  ·simp
  ·rw [List.length_cons];have:=aae k (s.drop (M.unit s).1);omega
theorem rM (s:List UInt8):(dw s).length<=s.length:=by
 obtain⟨l,h,h2⟩:=M.abO s;have:dw s=l:=by unfold dw;rw [h];rfl
 rw [this,h2];exact aae _ _
def textE (t:Tab) (s:List UInt8):Int:=if rE t=false then 120 else if 2000<s.length then 121 else 0
theorem toList_mk (l:List UInt8):(⟨l.toArray⟩:ByteArray).data.toList=l:=rfl
theorem size_mk (l:List UInt8):(⟨l.toArray⟩:ByteArray).size=l.length:=by rw [size_eq,toList_mk]
theorem Rz {t:Tab} {s:List UInt8} (h:textE t s=0):rE t=true/\s.length<=2000:=by
 unfold textE at h
 split at h
 ·cases h
 ·rename_i h1
  split at h
  ·cases h
  ·rename_i h2
   exact⟨by simpa using h1,by omega⟩
def FW (t:Tab) (s:List UInt8):List Int:=vS t.r t.m t.n.toNat (jJ t.p (dw s))
def vH (t:Tab) (s:List UInt8):List Int:=if textE t s=0 then FW t s else []
end
section
structure Hz (N:Nat) (ns:List Nat):Prop where
 up:∀ i,i+1<ns.length->ns.getD i 0<ns.getD (i+1) 0
 le:∀ i,i<ns.length->ns.getD i 0<=N
 ne:0<ns.length
 first:ns.getD 0 0=0
 last:ns.getD (ns.length-1) 0=N
theorem ahU {ns:List Nat} (h:ns.Pairwise (·<·)) (i:Nat) (hi:i+1<ns.length):ns.getD i 0<ns.getD (i+1) 0:=by
 rw [List.getD_eq_getElem?_getD,List.getD_eq_getElem?_getD,List.getElem?_eq_getElem (by omega),List.getElem?_eq_getElem hi,Option.getD_some,Option.getD_some];exact List.pairwise_iff_getElem.1 h i (i+1) (by omega) hi (by omega)
theorem agz (R:List D.Rule) (M:D.dF) (nn:Nat) (L:List Int) (k:Nat):(AB R M nn L k).Pairwise (·<·)/\∀ x∈AB R M nn L k,1<=x/\x<=k:=by
 unfold AB
 constructor
 ·refine List.Pairwise.filter _ ?_;rw [List.pairwise_map];exact List.pairwise_lt_range.imp (λh=>by omega)
 ·intro x hx;obtain⟨y,hy,rfl⟩:=List.mem_map.1 (List.mem_filter.1 hx).1;rw [List.mem_range] at hy;omega
theorem agt (R:List D.Rule) (M:D.dF) (nn:Nat) (L:List Int):∃ ns:List Nat,vS R M nn L=ns.map (λn:Nat=>(n:Int))/\Hz L.length ns:=by
 obtain⟨h1,h2⟩:=agz R M nn L (L.length-1);unfold vS;generalize AB R M nn L (L.length-1)=m at h1 h2
 by_cases h0:0<L.length
 ·refine⟨(0::m)++[L.length],by rw [if_pos h0,List.map_append];rfl,?_⟩;have hp:((0::m)++[L.length]).Pairwise (·<·):=by
   rw [List.pairwise_append];refine⟨List.pairwise_cons.2 ⟨λx hx=>by have:=h2 x hx;omega,h1⟩,List.pairwise_singleton _ _,λx hx y hy=>?_⟩;rw [List.mem_singleton] at hy;subst hy
   rcases List.mem_cons.1 hx with rfl | hx
   ·exact h0
   ·have:=h2 x hx;omega
  refine⟨ahU hp,λi hi=>?_,by simp,rfl,?_⟩
  ·rw [List.getD_eq_getElem?_getD,List.getElem?_eq_getElem hi,Option.getD_some];have hm:=List.getElem_mem hi
   rcases List.mem_append.1 hm with hm | hm
   ·rcases List.mem_cons.1 hm with hm | hm
    ·omega
    ·have:=h2 _ hm;omega
   ·rw [List.mem_singleton] at hm;omega
  ·rw [List.getD_eq_getElem?_getD,List.length_append,List.length_singleton,Nat.add_sub_cancel,List.getElem?_append_right (Nat.le_refl _),Nat.sub_self]
   rfl
 ·have hm:m=[]:=by
   cases m with
   | nil=>rfl
   | cons x t=>have:=h2 x (List.mem_cons_self ..);omega
  refine⟨[0],by rw [if_neg h0,hm];rfl,⟨λi hi=>by simp at hi,λi hi=>?_,by simp,rfl,by simp;omega⟩⟩;simp at hi;subst hi;simp
namespace T
def qg (c:Cs) (l:List Int) (ns:List Nat) (k:Nat):List Int:=(List.range k).flatMap λi=>word c l (ns.getD i 0) (ns.getD (i+1) 0)
theorem OA (c:Cs) (l:List Int) (ns:List Nat) (k:Nat):qg c l ns (k+1)=qg c l ns k++word c l (ns.getD k 0) (ns.getD (k+1) 0):=by
 unfold qg;rw [List.range_succ,List.flatMap_append,List.flatMap_cons,List.flatMap_nil,List.append_nil]
theorem JK {m:Nat} {c:Cs} (h:cu m c=true) {l:List Int} (hl:∀ x∈l,U.right x=true) {ns:List Nat} (hn:Hz l.length ns):∀ k,k+1<=ns.length->Fine (ns.getD k 0) (qg c l ns k)
 | 0,_=>by rw [hn.first];exact Fine.nil
 | k+1,hk=>by
  rw [OA];have h1:=hn.up k (by omega);have h2:=(JK h hl hn k (by omega)).append (NM h hl (ns.getD k 0) (ns.getD (k+1) 0) (hn.le (k+1) (by omega)))
  rwa [show ns.getD k 0+(ns.getD (k+1) 0-ns.getD k 0)=ns.getD (k+1) 0 by omega] at h2
end T
end
section
open Go.RowKit
attribute [local go_sem] Oper.semAt_some
def T.jd (c:T.Cs) (s:List UInt8):Int:=if T.cu 600 c=false then 140 else if 2000<s.length then 121 else 0
def T.jR (c:T.Cs) (s:List UInt8):List UInt8:=if T.jd c s=0 then U.textOf (T.lower c (dw s)) else []
def T.jH (c:T.Cs) (t:Tab) (s:List UInt8):Int:=if T.cu 600 c=false then 140 else textE t s
def qM (t:Tab) (s:List UInt8):List Nat:=(FW t s).map Int.toNat
theorem L6 (t:Tab) (s:List UInt8):FW t s=(qM t s).map (λn:Nat=>(n:Int))/\Hz (dw s).length (qM t s):=by
 obtain⟨ns,h1,h2⟩:=agt t.r t.m t.n.toNat (jJ t.p (dw s))
 have e:qM t s=ns:=by
  unfold qM FW;rw [h1,List.map_map]
  conv=>rhs;rw [<- List.map_id ns]
  exact List.map_congr_left (λx _=>by simp)
 rw [show (jJ t.p (dw s)).length=(dw s).length by unfold jJ;rw [List.length_map]] at h2;rw [e];exact⟨h1,h2⟩
theorem Hz.len {N:Nat} {ns:List Nat} (h:Hz N ns):ns.length<=N+1:=by
 have key:∀ i,i<ns.length->i<=ns.getD i 0:=by
  intro i
  induction i with
  | zero=>intro _;exact Nat.zero_le _
  | succ i ih =>
   intro hi;have h1:=ih (by omega);have h2:=h.up i hi;omega
 have h1:=key (ns.length-1) (by have:=h.ne;omega);rw [h.last] at h1;omega
def T.vG (c:T.Cs) (t:Tab) (s:List UInt8):List Int:=T.qg c (dw s) (qM t s) ((qM t s).length-1)
def T.iJ (c:T.Cs) (t:Tab) (s:List UInt8):List UInt8:=if T.jH c t s=0 then U.textOf (T.vG c t s) else []
theorem Lp {n:Nat} {l:List Int} (h:T.Fine n l):EI l = .tuple #[.string ⟨(U.textOf l).toArray⟩, .int .i64 0]:=Vz l (List.all_eq_true.2 h.2)
theorem T.PU {c:T.Cs} {l:List Int} (h:T.cu 600 c=true) (hz:l.length<=2000) (hl:∀ x∈l,U.right x=true):T.wrong c l=0:=by
 unfold T.wrong;rw [h,if_neg (by simp),if_neg (by omega),if_neg (by rw [List.all_eq_true.2 hl];simp)]
end
end Go.Proofs.YtlmdjifffmofeaaGreatDoor
