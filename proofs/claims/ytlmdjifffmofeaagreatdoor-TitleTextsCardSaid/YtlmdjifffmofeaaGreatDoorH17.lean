/- Texts of this claim. -/
import Derived.Laws.RangeAny
import Derived.Lib.IndexBytes
import Derived.Test.YtlmdjifffmofeaaGreatDoorH16

set_option maxRecDepth 100000
set_option maxHeartbeats 8000000
namespace Go.Proofs.YtlmdjifffmofeaaGreatDoor
section
open Go.RowKit Go.Shelf
attribute [local go_sem] Oper.semAt_some
def oD (R:List D.Rule) (M:D.dF) (n:Int):Bool:=qP n R&&jB n M&&M.2.all (inB R.length)
def Y7 (R:List D.Rule) (M:D.dF) (n:Int) (L:List Int) (w:World) (e:Ending) (w':World):Prop :=
 Below w.heap.size w w'/\((oD R M n=true/\∃ v,e = .returned (.tuple #[v, .int .i64 0])/\ay w' v (vS R M n.toNat L))\/(oD R M n=false/\e = .returned (.tuple #[.slice none 0 0, .int .i64 110])))
theorem adM (w:World) (c0 c1 c2 c3 c4:Array Value) (T0 T1 T2 T3 T4:TypeId) (W:World) (hW:W=((((w.alloc (.cells c0 T0)).alloc (.cells c1 T1)).alloc (.cells c2 T2)).alloc (.cells c3 T3)).alloc (.cells c4 T4)) :
  ak W w.heap.size T0 c0/\ak W (w.heap.size+1) T1 c1/\ak W (w.heap.size+1+1) T2 c2/\ak W (w.heap.size+1+1+1) T3 c3/\ak W (w.heap.size+1+1+1+1) T4 c4/\Below w.heap.size w W/\W.heap.size=w.heap.size+5:=by
 obtain⟨h0,h1,h2,h3,hb,hs⟩:=four w c0 c1 c2 c3 T0 T1 T2 T3;have hn:=ak.new ((((w.alloc (.cells c0 T0)).alloc (.cells c1 T1)).alloc (.cells c2 T2)).alloc (.cells c3 T3)) T4 c4;rw [hs] at hn;subst hW;exact⟨h0.alloc _,h1.alloc _,h2.alloc _,h3.alloc _,hn,hb.alloc hb.size _,by simp⟩
theorem MN {n:Int} {M:D.dF} (h:jB n M=true):∀ x∈M.2,0<=x/\x<1099511627776:=by
 intro x hx;obtain⟨i,hi,e⟩:=List.getElem_of_mem hx;obtain⟨h1,h2,h3,h4,h5⟩:=Bq h;obtain⟨nn,rfl⟩:=Int.eq_ofNat_of_zero_le (show 0<=n by omega);obtain⟨r,-,-,-,f,k1,k2,k3⟩:=Nz h (a:=i) (by omega);rw [List.getElem?_eq_getElem hi,e] at k1
 cases k1;exact⟨k2,k3⟩
theorem aiK (A:Nat->Addr) (B:Nat) (rv:Value) (R:List D.Rule) (mv:Value) (M:D.dF) (n:Int) (lv:Value) (L:List Int) (w:World) (hR:dP w rv R) (hf:∀ x∈R,pz x) (vV:R.length<=16777216) (hM:nT w mv M) (qX:qZ M) (hL:ay w lv L) (_aoe:L.length<=900) (hD:Ed A B w) (hE:Eg A B w) (hB:B<=w.heap.size) (hno:oD R M n=false) :
  Calls Tryz.prog 140 #[rv,mv, .int .i64 n,lv] w λe w'=>e = .returned (.tuple #[.slice none 0 0, .int .i64 110])/\Below w.heap.size w w':=by
 have HR:=bx hR;have HM:=bx hM;have HL:=bx hL;have HD:=bx hD;have HE:=bx hE;have HF:=bx hf;have Dw:=bx qX;obtain⟨ro,rc,rfl⟩:=hR.slice;obtain⟨NV,FV,rfl,hra,hia⟩:=hM;obtain⟨no,nc,rfl⟩:=hra.slice;obtain⟨fo,fc,rfl⟩:=hia.slice;obtain⟨lo,lc,rfl⟩:=hL.slice;have eF:=bx hia;obtain⟨W,hW⟩:∃ W,W=((((w.alloc (.cells #[.slice no M.1.length nc, .slice fo M.2.length fc] 44)).alloc (.cells #[.slice no M.1.length nc, .slice fo M.2.length fc, .slice ro R.length rc, .slice none 0 0] 264)).alloc (.cells #[.pointer (some ⟨w.heap.size+1,0,none⟩)] 262)).alloc (.cells #[.int .i64 0] 3)).alloc (.cells #[.slice (some ⟨w.heap.size+1+1+1,0,none⟩) 1 1] 23):=⟨_,rfl⟩
 obtain⟨h0,h1,h2,h3,h4,hbW,hszW⟩:=adM w _ _ _ _ _ _ _ _ _ _ W hW;have HW:=bx hW;have H0:=bx h0;have H1:=bx h1;have H2:=bx h2;have H3:=bx h3;have H4:=bx h4;have aJ:=bx hbW;have bK:=bx hszW;have HRR:=bx (acZ _ R n W hf (hR.below hbW) vV);have c0:W.cell? ⟨w.heap.size,0,none⟩=some (.slice no M.1.length nc):=(h0.cell 0).trans rfl;have c1:W.cell? ⟨w.heap.size,1,none⟩=some (.slice fo M.2.length fc):=(h0.cell 1).trans rfl;clear hR hra hia hL hD hE hW h0 h1 h2 h3 h4 hbW hszW hf qX;have jS:=bx hno;clear hno
 go_enter Tryz.func140,Tryz.ntmps140
 go_wp2_with fail;refine sS 0 rfl ?_;go_wp2_with fail;rw [<- HW.o];refine HRR.o.mono ?_;rintro e w1 ⟨rfl,hb1⟩;have HB1:=bx (bt aJ.o hb1);have k0:=H0.o.below hb1 H0.o.lt;have K0:=bx k0;have K1:=bx (H1.o.below hb1 H1.o.lt);have K2:=bx (H2.o.below hb1 H2.o.lt);have d0:w1.cell? ⟨w.heap.size,0,none⟩=some (.slice no M.1.length nc):=(k0.cell 0).trans rfl;have d1:w1.cell? ⟨w.heap.size,1,none⟩=some (.slice fo M.2.length fc):=(k0.cell 1).trans rfl;clear hb1 c0 c1 k0
 cases hr:qP n R with
 | false =>
  have hg:=(HE.o.below (HB1.o.mono hB)).cell;have HT:=bx (UR A B w1 (HE.o.below (HB1.o.mono hB)));unfold Jr kH at HT;clear hr;go_wp2_with fail
  go_step3
  refine⟨rfl,?_⟩;go_wp2_with fail;refine HT.o.mono ?_;rintro e w2 ⟨rfl,rfl⟩;go_wp2_with fail;rw [Exit.noGoto_ret];go_ret2
  exact⟨rfl,HB1.o⟩
 | true =>
  have xG:=bx hr;clear hr;have Bf:=bx (Vd _ M n w1 (HM.o.below HB1.o) Dw.o);go_wp2_with fail;refine Bf.o.mono ?_;rintro e w2 ⟨rfl,hb2⟩;have HB2:=bx (bt HB1.o hb2);have k1:=K1.o.below hb2 K1.o.lt;have k2:=K2.o.below hb2 K2.o.lt;have e1:w2.cell? ⟨w.heap.size+1,1,none⟩=some (.slice fo M.2.length fc):=(k1.cell 1).trans rfl;have e2:w2.cell? ⟨w.heap.size+1+1,0,none⟩=some (.pointer (some ⟨w.heap.size+1,0,none⟩)):=(k2.cell 0).trans rfl;have l1:=k1.lt;clear d0 d1 hb2 k1 k2
  cases hm:jB n M with
  | false =>
   have hg:=(HE.o.below (HB2.o.mono hB)).cell;have HT:=bx (UR A B w2 (HE.o.below (HB2.o.mono hB)));unfold Jr kH at HT;clear hm;go_wp2_with fail
   go_step3
   refine⟨rfl,?_⟩;go_wp2_with fail;refine HT.o.mono ?_;rintro e w3 ⟨rfl,rfl⟩;go_wp2_with fail;rw [Exit.noGoto_ret];go_ret2
   exact⟨rfl,HB2.o⟩
  | true =>
   have Uj:=bx (acP (.slice fo M.2.length fc) M.2 (MN hm) ro R.length rc (KE xG.o).2.2.1 w2 (eF.o.below HB2.o) (by have:=(Bq hm);omega));have RX:=bx (show M.2.all (inB R.length)=false by
    have:=jS.o;unfold oD at this;rw [xG.o,hm] at this
    simpa using this)
   clear hm;go_wp2_with fail;refine Uj.o.mono ?_;rintro e w3 ⟨rfl,hb3⟩;rw [RX.o];have HB3:=bx (bt HB2.o hb3);clear hb3;have hg:=(HE.o.below (HB3.o.mono hB)).cell;have HT:=bx (UR A B w3 (HE.o.below (HB3.o.mono hB)));unfold Jr kH at HT;go_wp2_with fail
   go_step3
   refine⟨rfl,?_⟩;go_wp2_with fail;refine HT.o.mono ?_;rintro e w4 ⟨rfl,rfl⟩;go_wp2_with fail;rw [Exit.noGoto_ret];go_ret2
   exact⟨rfl,HB3.o⟩
theorem Turns.narrow {own own':Nat->Prop} {A B:World} (h:Turns own A B) (hm:∀ k,own k->k<A.heap.size->own' k):Turns own' A B:=⟨h.os,h.tape,h.output,h.size,λi hi ho=>h.block i hi (λe=>ho (hm i e hi))⟩
theorem ZO {R:List D.Rule} {M:D.dF} {n:Int} (h:oD R M n=true):qP n R=true/\jB n M=true/\M.2.all (inB R.length)=true:=by
 unfold oD at h;simp only [Bool.and_eq_true] at h;exact⟨h.1.1,h.1.2,h.2⟩
theorem XL (A:Nat->Addr) (B:Nat) (rv:Value) (R:List D.Rule) (mv:Value) (M:D.dF) (n:Int) (lv:Value) (L:List Int) (w:World) (hR:dP w rv R) (hf:∀ x∈R,pz x) (vV:R.length<=16777216) (hM:nT w mv M) (qX:qZ M) (hL:ay w lv L) (hLz:L.length<=900) (hD:Ed A B w) (hE:Eg A B w) (hB:B<=w.heap.size) (hyes:oD R M n=true) :
  Calls Tryz.prog 140 #[rv,mv, .int .i64 n,lv] w λe w'=>(∃ v,e = .returned (.tuple #[v, .int .i64 0])/\ay w' v (vS R M n.toNat L))/\Below w.heap.size w w':=by
 obtain⟨hrb,hmr,hai⟩:=ZO hyes;obtain⟨n1,n2,Xf,-⟩:=KE hrb;obtain⟨nn,rfl⟩:=Int.eq_ofNat_of_zero_le (show 0<=n by omega);have HR:=bx hR;have HM:=bx hM;have HL:=bx hL;have HD:=bx hD;have HE:=bx hE;have HF:=bx hf;have Dw:=bx qX;obtain⟨ro,rc,rfl⟩:=hR.slice;obtain⟨NV,FV,rfl,hra,hia⟩:=hM;obtain⟨no,nc,rfl⟩:=hra.slice;obtain⟨fo,fc,rfl⟩:=hia.slice;obtain⟨lo,lc,rfl⟩:=hL.slice;have eF:=bx hia;obtain⟨W,hW⟩:∃ W,W=((((w.alloc (.cells #[.slice no M.1.length nc, .slice fo M.2.length fc] 44)).alloc (.cells #[.slice no M.1.length nc, .slice fo M.2.length fc, .slice ro R.length rc, .slice none 0 0] 264)).alloc (.cells #[.pointer (some ⟨w.heap.size+1,0,none⟩)] 262)).alloc (.cells #[.int .i64 0] 3)).alloc (.cells #[.slice (some ⟨w.heap.size+1+1+1,0,none⟩) 1 1] 23):=⟨_,rfl⟩
 obtain⟨h0,h1,h2,h3,h4,hbW,hszW⟩:=adM w _ _ _ _ _ _ _ _ _ _ W hW;have HW:=bx hW;have H0:=bx h0;have H1:=bx h1;have H2:=bx h2;have H3:=bx h3;have H4:=bx h4;have aJ:=bx hbW;have bK:=bx hszW;have HRR:=bx (acZ _ R (nn:Int) W hf (hR.below hbW) vV);have c0:W.cell? ⟨w.heap.size,0,none⟩=some (.slice no M.1.length nc):=(h0.cell 0).trans rfl;have c1:W.cell? ⟨w.heap.size,1,none⟩=some (.slice fo M.2.length fc):=(h0.cell 1).trans rfl;clear hR hra hia hL hD hE hW h0 h1 h2 h3 h4 hbW hszW hf qX;have xG:=bx hrb;have Eh:=bx hmr;have amu:=bx hai;clear hyes hrb hmr hai;refine(callsIn_wide (n:=9)).1 (callsIn_of_wp_marks Tryz.func140 rfl trivial (wpIn_wide.2 ?_));simp only [Tryz.ntmps140,List.size_toArray,List.length_cons,List.length_nil,Nat.reduceAdd,Nat.reduceSub,Array.replicate_succ,Array.replicate_zero,List.push_toArray,List.append_toArray,List.nil_append,List.cons_append];go_wp2_with fail;refine sS 0 rfl ?_;go_wp2_with fail;rw [<- HW.o];refine HRR.o.mono ?_;rintro e w1 ⟨rfl,hb1⟩;rw [xG.o];have HB1:=bx (bt aJ.o hb1);have k0:=H0.o.below hb1 H0.o.lt;have K0:=bx k0;have K1:=bx (H1.o.below hb1 H1.o.lt);have K2:=bx (H2.o.below hb1 H2.o.lt);have K3:=bx (H3.o.below hb1 H3.o.lt);have K4:=bx (H4.o.below hb1 H4.o.lt);have d0:w1.cell? ⟨w.heap.size,0,none⟩=some (.slice no M.1.length nc):=(k0.cell 0).trans rfl;have d1:w1.cell? ⟨w.heap.size,1,none⟩=some (.slice fo M.2.length fc):=(k0.cell 1).trans rfl;have Bf:=bx (Vd _ M nn w1 (HM.o.below HB1.o) Dw.o);clear hb1 c0 c1 k0;go_wp2_with fail;refine Bf.o.mono ?_;rintro e w2 ⟨rfl,hb2⟩;rw [Eh.o];have HB2:=bx (bt HB1.o hb2);have k1:=K1.o.below hb2 K1.o.lt;have k2:=K2.o.below hb2 K2.o.lt;have e1:w2.cell? ⟨w.heap.size+1,1,none⟩=some (.slice fo M.2.length fc):=(k1.cell 1).trans rfl;have e2:w2.cell? ⟨w.heap.size+1+1,0,none⟩=some (.pointer (some ⟨w.heap.size+1,0,none⟩)):=(k2.cell 0).trans rfl;have l1:=k1.lt;have J0:=bx (K0.o.below hb2 K0.o.lt);have J1:=bx k1;have J2:=bx k2;have J3:=bx (K3.o.below hb2 K3.o.lt);have J4:=bx (K4.o.below hb2 K4.o.lt);have Uj:=bx (acP (.slice fo M.2.length fc) M.2 (MN Eh.o) ro R.length rc Xf w2 (eF.o.below HB2.o) (by have:=(Bq Eh.o);omega));clear d0 d1 hb2 k1 k2;go_wp2_with fail;refine Uj.o.mono ?_;rintro e w3 ⟨rfl,hb3⟩;rw [amu.o];have HB3:=bx (bt HB2.o hb3);have I0:=bx (J0.o.below hb3 J0.o.lt);have I1:=bx (J1.o.below hb3 J1.o.lt);have I2:=bx (J2.o.below hb3 J2.o.lt);have I3:=bx (J3.o.below hb3 J3.o.lt);have I4:=bx (J4.o.below hb3 J4.o.lt);have f2:w3.cell? ⟨w.heap.size+1+1,0,none⟩=some (.pointer (some ⟨w.heap.size+1,0,none⟩)):=(I2.o.cell 0).trans rfl;have l3:=I1.o.lt;have BK:=bx (λ(W:World) (h:Below w3.heap.size w3 W)=>ak9 (.slice lo L.length lc) L nn W ((HL.o.below HB3.o).below h) (by omega));clear hb3 e1 e2 l1
 go_upto_region 5 with(fail)
 go_cut [] from 40 to 45 (λwx=>∃ kg:Nat,w3.heap.size<=kg/\Box (ak wx kg 3 ((D.cuts nn L).map (Value.int .i64)).toArray)/\Box (ak wx (w.heap.size+1) 264 #[.slice no M.1.length nc, .slice fo M.2.length fc, .slice ro R.length rc, .slice (some ⟨kg,0,none⟩) L.length L.length])/\Box (Turns (λk=>k=w.heap.size+1) w3 wx))
 case first =>
  have HDR:=bx (show Below w3.heap.size w3 w3.drew from eu w3 1);have aC:=bx (show w3.drew.cell? ⟨w.heap.size+1+1,0,none⟩=some (.pointer (some ⟨w.heap.size+1,0,none⟩)) from(HDR.o.cell (p:=⟨w.heap.size+1+1,0,none⟩) I2.o.lt).trans f2);refine dO 4 (λW=>W.cell? ⟨w.heap.size+1+1,0,none⟩=some (.pointer (some ⟨w.heap.size+1,0,none⟩))) (by kernel_rfl) ?_;have uZ:=bx (BK.o _ HDR.o);generalize w3.drew=WR at HDR aC uZ ⊢;refine kS 0 ?_ rfl aC.o ?_ ?_;rotate_left
  ·intro w q1;go_simp;try with_reducible rfl
  refine kS 1 ?_ rfl aC.o ?_ ?_;rotate_left
  ·intro w q1;go_simp;try with_reducible rfl
  refine kS 2 ?_ rfl aC.o ?_ ?_;rotate_left
  ·intro w q1;go_simp;try with_reducible rfl
  refine kP 3 rfl λKK aj=>?_
  go_simp;go_wp2_with (go_at_call 178;refine uZ.o.mono ?_;rintro e w4 ⟨rfl,hk4,hb4⟩)
  have HB4:=bx (show Below w3.heap.size w3 w4 from bt HDR.o hb4);have BN:=bx hk4;have g4:=(I1.o.below HB4.o I1.o.lt).frozen 3;have x4:=((I1.o.below HB4.o I1.o.lt).cell 3).trans (show _=some (Value.slice none 0 0) from rfl);have l4:=(I1.o.below HB4.o I1.o.lt).lt;have nR:=bx HDR.o.size;clear hb4 hk4;refine aj.out _ _ (λ_=>(HB4.o.cell (p:=⟨w.heap.size+1+1,0,none⟩) I2.o.lt).trans f2) ?_;clear aj KK;refine kP 4 rfl λKK aj=>?_
  go_simp;refine aj.out _ _ (λh=>by cases h) ?_;clear aj KK;refine kP 5 rfl λKK aj=>?_
  go_simp;refine aj.out _ _ (λh=>by cases h) ?_;clear aj KK;refine kP 6 rfl λKK aj=>?_
  go_simp;refine aj.out _ _ (λh=>by cases h) ?_;clear aj KK;refine kD ?_ _;go_wp2_with fail
  go_meet
  have hT:=Turns.setCell (own:=λk=>k=w.heap.size+1) w4 (p:=⟨w.heap.size+1,3,none⟩) rfl (.slice (some ⟨WR.heap.size,0,none⟩) L.length L.length);exact⟨WR.heap.size,nR.o,⟨hT.blk BN.o (by have:=I1.o.lt;have:=nR.o;omega)⟩,⟨(I1.o.below HB4.o I1.o.lt).bP 3 _⟩,⟨(Turns.of_below HB4.o).trans hT⟩⟩
 case rest =>
  obtain⟨kg,hkg,hkb,hcb,hT⟩:=hcut;have C0:=bx (hT.o.blk I0.o (by omega));have C2:=bx (hT.o.blk I2.o (by omega));have C3:=bx (hT.o.blk I3.o (by omega));have C4:=bx (hT.o.blk I4.o (by omega));have jU:=bx (show Below w.heap.size w wc from HB3.o.trans (hT.o.below HB3.o.size (λk hk=>by omega)));have d0:wc.cell? ⟨w.heap.size,0,none⟩=some (.slice no M.1.length nc):=(C0.o.cell 0).trans rfl;have d1:wc.cell? ⟨w.heap.size,1,none⟩=some (.slice fo M.2.length fc):=(C0.o.cell 1).trans rfl;have sN:=bx (ajl A B _ (.slice lo L.length lc) M nn L wc (HM.o.below jU.o) Dw.o (HL.o.below jU.o) (by omega) (HD.o.below (jU.o.mono hB)) (Nat.le_trans hB jU.o.size));have akD:=C4.o.lt;have amc:=hkb.o.lt;clear f2 l3 hT;go_wp2_with fail;refine sN.o.mono ?_;rintro e w5 ⟨hb5,gv,rfl,hown⟩;rw [show goCode nn M=0 by unfold goCode;rw [Eh.o];rfl];rw [Eh.o,if_pos rfl,if_pos rfl,Int.toNat_natCast] at hown;have hlt:=hown.lt;obtain⟨sg,sc,rfl⟩:=ownsRow_succ hown;have YP:=bx hown;have anW:=hlt sg rfl;have D0:=bx (C0.o.below hb5 C0.o.lt);have D1:=bx (hcb.o.below hb5 hcb.o.lt);have D2:=bx (C2.o.below hb5 C2.o.lt);have D3:=bx (C3.o.below hb5 C3.o.lt);have D4:=bx (C4.o.below hb5 C4.o.lt);have DK:=bx (hkb.o.below hb5 hkb.o.lt);have aF:=bx (show Below w.heap.size w w5 from bt jU.o hb5);have h5s:=hb5.size;have f2:w5.cell? ⟨w.heap.size+1+1,0,none⟩=some (.pointer (some ⟨w.heap.size+1,0,none⟩)):=(D2.o.cell 0).trans rfl;clear d0 d1 hb5 hown hlt;go_wp2_with (go_at_call 180;refine(alZ _ _ _ ⟨_,_,_,rfl⟩).mono ?_;rintro e w' ⟨rfl,rfl⟩)
  clear f2;obtain⟨wL,Iy⟩:∃ wL,wL=(w5.alloc (.cells #[.pointer (some ⟨w.heap.size+1,0,none⟩)] 262)).alloc (.cells #[.slice (some ⟨sg,0,none⟩) (L.length+1) sc] 23):=⟨_,rfl⟩
  rw [<- Iy];have am7:wL.heap.size=w5.heap.size+2:=by rw [Iy];simp
  have hbL:Below w5.heap.size w5 wL:=by rw [Iy];exact((Below.refl _ _).alloc (Nat.le_refl _) _).alloc (by simp) _
  have hxb:ak wL w5.heap.size 262 #[.pointer (some ⟨w.heap.size+1,0,none⟩)]:=by rw [Iy];exact(ak.new w5 _ _).alloc _
  have hsb:ak wL (w5.heap.size+1) 23 #[.slice (some ⟨sg,0,none⟩) (L.length+1) sc]:=by
   rw [Iy];have:=ak.new (w5.alloc (.cells #[.pointer (some ⟨w.heap.size+1,0,none⟩)] 262)) 23 #[.slice (some ⟨sg,0,none⟩) (L.length+1) sc]
   simpa using this
  obtain⟨SL,fB⟩:∃ SL,SL=(jD nn M L).map λx:Nat=>(x:Int):=⟨_,rfl⟩
  have hSl:SL.length=L.length+1:=by rw [fB];unfold jD;simp
  obtain⟨m1,m2,m3,m4,m5⟩:=Bq Eh.o;obtain⟨fg,uV,Xm,kf1,kf2,kf3,kf4,kf5⟩:=(eF.o.below (bt aF.o hbL)).get (by intro e;rw [e] at m5;simp at m5;omega);obtain⟨rfl,rfl⟩:fo=some ⟨fg,uV,none⟩/\fc=Xm:=by injection kf1 with h1 h2 h3;exact⟨h1,h3⟩
  have hfg:fg<w.heap.size:=by
   obtain⟨fg',aoz,apc,q1,q2,q3,q4,q5⟩:=eF.o.get (by intro e;rw [e] at m5;simp at m5;omega);injection q1 with h1 h2 h3;injection h1 with h1;injection h1 with h1 h4 h5;rw [h1];exact q4
  have V6:=own_below YP.o hbL;have Y6:I9 (w.heap.size+1) (w5.heap.size+1) w5.heap.size sg 0 sc fg uV fc L.length L.length (some ⟨kg,0,none⟩) (.slice no M.1.length nc) (.slice ro R.length rc) SL M.2 wL:=by
   refine⟨D1.o.below hbL D1.o.lt,by rw [hSl];exact hsb,hxb,λi v hi=>?_,kf5⟩;have hc:=V6.cells (g:=sg) rfl i (.int .i64 v) (by
    rw [fB] at hi;rw [List.getElem?_map] at hi ⊢
    cases hgi:(jD nn M L)[i]? with
    | none=>rw [hgi] at hi;cases hi
    | some y=>rw [hgi] at hi;cases hi;rfl)
   rw [show (⟨sg,0+i,none⟩:Addr)=(⟨sg,0,none⟩:Addr).add i by unfold Addr.add;by_cases h0:i=0 <;> simp [h0]];exact hc
  have ZM:L.length+1<=sc/\sc<=9223372036854775807:=by
   rcases V6.2 with⟨h1,h2⟩ | ⟨g',cap',cur',h1,h2,h3,h4,h5,h6⟩
   ·cases h1
   ·injection h1 with h7 h8 h9;subst h9;unfold maxLen at h5;exact⟨h4,by omega⟩
  have Jl:∀ x∈SL,0<=x/\x<M.2.length:=by
   intro x hx;rw [fB] at hx;obtain⟨y,hy,rfl⟩:=List.mem_map.1 hx;unfold jD at hy;obtain⟨i,-,rfl⟩:=List.mem_map.1 hy;have:=Qs Eh.o L i;omega
  have aaD:∀ x,x<=L.length->AO SL M.2 x=vw M (stM nn M L x):=by
   intro x hx;unfold AO vw;have:SL[x]?=some ((stM nn M L x:Nat):Int):=by
    rw [fB];unfold jD;rw [List.getElem?_map,List.getElem?_map,List.getElem?_range (by omega)]
    rfl
   rw [show SL.getD x 0=((stM nn M L x:Nat):Int) by rw [List.getD_eq_getElem?_getD,this];rfl,Int.toNat_natCast]
  have wZ:=bx aaD;have L2:=bx (D2.o.below hbL D2.o.lt);have L3:=bx (D3.o.below hbL D3.o.lt);have L4:=bx (D4.o.below hbL D4.o.lt);have LK:=bx (DK.o.below hbL DK.o.lt);have jf:=bx (show Below w.heap.size w wL from bt aF.o hbL);have hr0:wL.ownsRow (w.heap.size+1+1+1) 3 1 (.slice (some ⟨w.heap.size+1+1+1,0,none⟩) 1 1) 1 [.int .i64 0] :=
   ⟨rfl, .inr ⟨w.heap.size+1+1+1,1,#[.int .i64 0],rfl,Nat.le_refl _,L3.o,Nat.le_refl _,by unfold maxLen;omega,rfl,rfl⟩⟩
  have adH:w3.heap.size<=kg/\kg<wL.heap.size:=⟨hkg,LK.o.lt⟩
  have hw3:=HB3.o.size;have hsz3:=bK.o;have hi4:=I4.o.lt;have hwc:=jU.o.size;have KB:=bx (show ∀ g,g<w.heap.size\/g=w.heap.size+1\/w3.heap.size<=g->g≠w.heap.size+1+1+1/\g≠w.heap.size+1+1+1+1 from λg h=>by omega);have aly:wc.heap.size<=w5.heap.size:=h5s;have ahC:w3.heap.size<=wc.heap.size:=by omega
  have aj:∀ g,g<wL.heap.size->(g<w.heap.size\/g=w.heap.size+1\/w3.heap.size<=g)->g<wL.heap.size/\g≠w.heap.size+1+1+1/\g≠w.heap.size+1+1+1+1:=λg h1 h2=>⟨h1,KB.o g h2⟩
  have HK:=bx (show (w.heap.size+1<wL.heap.size/\w.heap.size+1≠w.heap.size+1+1+1/\w.heap.size+1≠w.heap.size+1+1+1+1)/\(w5.heap.size+1<wL.heap.size/\w5.heap.size+1≠w.heap.size+1+1+1/\w5.heap.size+1≠w.heap.size+1+1+1+1)/\(w5.heap.size<wL.heap.size/\w5.heap.size≠w.heap.size+1+1+1/\w5.heap.size≠w.heap.size+1+1+1+1)/\(sg<wL.heap.size/\sg≠w.heap.size+1+1+1/\sg≠w.heap.size+1+1+1+1)/\(fg<wL.heap.size/\fg≠w.heap.size+1+1+1/\fg≠w.heap.size+1+1+1+1) from
   ⟨aj _ (by omega) (by omega),aj _ (by omega) (by omega),aj _ (by omega) (by omega),aj _ (by omega) (by omega),aj _ (by omega) (by omega)⟩)
  have YN:=bx Y6;have HR0:=bx hr0;have ZV:=bx adH;have dZ:=bx (MN Eh.o);have afp:=bx Jl;have Iz:=bx (HR.o.below jf.o);have hLb:w.heap.size+1+1+1+1+1<=wL.heap.size:=by omega
  have KD:=bx m5;have HSL:=bx fB;have HSl:=bx hSl;unfold maxLen at kf3;clear m5 fB hSl Jl m1 m2 m3 m4 Iy hbL hxb hsb V6 Y6 hr0 adH aj aaD hwc aly ahC hsz3 hi4 hw3 anW h5s akD amc kf1 kf5 kf4 hfg hkg hkb hcb am7;refine(wpIn_wide (n:=9)).1 (Jo (α:=Nat) (gf:=205) (lb:=#[.pointer (some ⟨w5.heap.size+1,0,none⟩), .pointer (some ⟨w5.heap.size,0,none⟩)]) rfl (enters_of Tryz.func205 (by kernel_rfl) rfl)
   (encs:=λx:Nat=>#[.int .i64 x, .int .i64 (AO SL M.2 x)]) (own:=λ_=>False) (keep:=λk=>k<wL.heap.size/\k≠w.heap.size+1+1+1/\k≠w.heap.size+1+1+1+1) (ok:=λpre x=>x=pre.length+1/\x<L.length) (S:=λxs _=>xs=wu L.length (L.length+1))
   (λk hk=>by rcases hk with h | h;exact h.elim;exact h.1)
   (λW1 ht=>akC 7 _ (w.heap.size+1) (w5.heap.size+1) w5.heap.size sg 0 sc fg uV fc L.length L.length (some ⟨kg,0,none⟩) (.slice no M.1.length nc) (.slice ro R.length rc) SL M.2 HSl.o ⟨by rw [HSl.o];exact ZM.1,ZM.2⟩ ⟨kf2,by omega⟩ (by omega) afp.o HK.o _ W1
    (YN.o.same (K:=λk=>k<wL.heap.size) ⟨HK.o.1.1,HK.o.2.1.1,HK.o.2.2.1.1,HK.o.2.2.2.1.1,HK.o.2.2.2.2.1⟩ (λk hk=>ht.block k hk (λh=>h))))
   (λ_=>rfl)
   (λpre W=>(∃ v,ak W (w.heap.size+1+1+1+1) 23 #[v]/\W.ownsRow (w.heap.size+1+1+1) 3 1 v ((pre.filter (cutAt R M nn L)).length+1) (CO (0::pre.filter (cutAt R M nn L)))/\∀ g,v.ownBlock=some g->g=w.heap.size+1+1+1\/wL.heap.size+2<=g)/\Turns (λk=>k=w.heap.size+1+1+1\/k=w.heap.size+1+1+1+1) wL W)
   (λ_ _ _=>False) ?hI (λ_ _ _ _ h _=>h) ⟨⟨_,L4.o,HR0.o,λg hg=>by cases hg;exact .inl rfl⟩,Turns.refl _ _⟩
   (λx a1 _=>a1={ tmps:=#[Value.slice ro R.length rc,Value.agg #[Value.slice no M.fst.length nc,Value.slice (some ⟨fg,uV,none⟩) M.snd.length fc],Value.int IntKind.i64 (nn:Int),Value.slice lo L.length lc,undef,Value.pointer (some ⟨w.heap.size,0,none⟩),undef,undef,Value.slice none 0 0,Value.int IntKind.i64 0,Value.pointer (some ⟨w.heap.size+1+1,0,none⟩),Value.pointer (some ⟨w.heap.size+1+1+1+1,0,none⟩),Value.slice (some ⟨sg,0,none⟩) (L.length+1) sc, .int .i64 (x:Int), .int .i64 (AO SL M.2 x),Value.agg #[Value.slice no M.fst.length nc,Value.slice (some ⟨fg,uV,none⟩) M.snd.length fc],Value.slice ro R.length rc,Value.agg #[Value.slice no M.fst.length nc,Value.slice (some ⟨fg,uV,none⟩) M.snd.length fc,Value.slice ro R.length rc,Value.slice none 0 0],Value.pointer (some ⟨w.heap.size+1,0,none⟩),Value.slice (some ⟨w.heap.size+1+1+1,0,none⟩) 1 1,Value.slice ro R.length rc,Value.int IntKind.i64 (nn:Int),Value.bool true,Value.bool false,Value.bool false,Value.agg #[Value.slice no M.fst.length nc,Value.slice (some ⟨fg,uV,none⟩) M.snd.length fc],Value.int IntKind.i64 (nn:Int),Value.bool true,Value.bool false,Value.bool false,Value.bool false,Value.pointer (some ⟨w.heap.size+1,0,none⟩),Value.pointer (some ⟨w.heap.size+1,0,none⟩),Value.pointer (some ⟨w.heap.size+1,0,none⟩),Value.pointer (some ⟨w.heap.size+1,1,none⟩),Value.slice (some ⟨fg,uV,none⟩) M.snd.length fc,Value.slice ro R.length rc,Value.bool true,Value.bool false,Value.bool false,u40,u41,u42,u43,u44,u45,Value.tuple #[Value.slice (some ⟨sg,0,none⟩) (L.length+1) sc,Value.int IntKind.i64 0],Value.agg #[Value.slice no M.fst.length nc,Value.slice (some ⟨fg,uV,none⟩) M.snd.length fc],Value.int IntKind.i64 (nn:Int),Value.slice lo L.length lc,Value.tuple #[Value.slice (some ⟨sg,0,none⟩) (L.length+1) sc,Value.int IntKind.i64 0],Value.slice (some ⟨sg,0,none⟩) (L.length+1) sc,Value.int IntKind.i64 0,Value.pointer (some ⟨w.heap.size+1,0,none⟩),Value.slice (some ⟨sg,0,none⟩) (L.length+1) sc,Value.func (Fn.func 205) #[] #[Value.pointer (some ⟨w5.heap.size+1,0,none⟩),Value.pointer (some ⟨w5.heap.size,0,none⟩)], .int .i64 (x:Int), .int .i64 (AO SL M.2 x),undef,undef,undef,undef,undef,undef,undef,undef,undef,undef,undef,undef,undef,undef,undef,undef,undef,undef,undef],defers:=[] })
   (λ_ _ _ _ h _=>h) ?assign ?body ?done (λ_ _ _ _ h _=>h.elim) (λ_ _ _ h _=>h))
  case hI =>
   rintro pre W W' ⟨⟨v,h1,h2,h3⟩,h4⟩ ht;have h5:Turns (λk=>k=w.heap.size+1+1+1\/k=w.heap.size+1+1+1+1\/k=wL.heap.size+1) wL W':=(h4.mono λk hk=>by
    rcases hk with h | h
    ·exact .inl h
    ·exact .inr (.inl h)).trans (ht.mono λk hk=>by
    rcases hk with h | h
    ·exact h.elim
    ·exact .inr (.inr h))
   exact⟨⟨v,ht.blk h1 (by rintro(h | h);exact h;omega),ht.row h2 (λk hk=>by have:=h3 k hk;rintro(h | h);exact h;omega),h3⟩,h5.narrow λk hk hl=>by
    rcases hk with h | h | h
    ·exact .inl h
    ·exact .inr h
    ·omega⟩
  case assign =>
   intro x W K _ hK
   gi_wp2
   exact hK _ _ (Turns.refl _ _) rfl
  case body =>
   rintro pre x a1 W hW ⟨⟨v,h1,h2,h3⟩,h4⟩ ⟨hx,hxl⟩ rfl;obtain⟨f0,f1⟩:0<=AO SL M.2 x/\AO SL M.2 x<1099511627776:=by
    rw [wZ.o x (by omega)];unfold vw
    cases hq:M.2[stM nn M L x]? with
    | none=>rw [List.getD_eq_getElem?_getD,hq];simp
    | some y=>rw [List.getD_eq_getElem?_getD,hq];exact dZ.o y (List.mem_of_getElem? hq)
   obtain⟨fN,Qe⟩:=Int.eq_ofNat_of_zero_le f0;have hfl:fN<1099511627776:=by omega
   have EL:=bx (show cutAt R M nn L x=G.Ez R (D.cuts nn L) fN (x:Int) by
    unfold cutAt;rw [<- wZ.o x (by omega),Qe,Int.toNat_natCast])
   rw [Qe];have hkk:∀ k,k<wL.heap.size/\k≠w.heap.size+1+1+1/\k≠w.heap.size+1+1+1+1->W.heap[k]?=wL.heap[k]?:=λk hk=>h4.block k hk.1 (λe=>by rcases e with e | e;exact hk.2.1 e;exact hk.2.2 e)
   have hkl:∀ k t cs,k<wL.heap.size/\k≠w.heap.size+1+1+1/\k≠w.heap.size+1+1+1+1->ak wL k t cs->ak W k t cs:=λk t cs hk hb=>(hkk k hk).trans hb
   have h2b:w.heap.size+1+1+1<=wL.heap.size:=by omega
   have hBW2:Below w.heap.size w W:=jf.o.trans (h4.below jf.o.size (λk hk=>by omega));have HIC:=bx ((callsIn_wide (n:=9-1-1-1)).2 (afG (w.heap.size+1) (.slice no M.1.length nc) (.slice (some ⟨fg,uV,none⟩) M.2.length fc) (.slice ro R.length rc) (.slice (some ⟨kg,0,none⟩) L.length L.length) R (D.cuts nn L) (x:Int) fN W
    (hkl _ _ _ HK.o.1 YN.o.c) (HR.o.below hBW2)
    (by
     have hb:=hkl kg _ _ ⟨ZV.o.2,KB.o kg (.inr (.inr ZV.o.1))⟩ LK.o;have hl:(D.cuts nn L).length=L.length:=by unfold D.cuts;rw [List.length_map]
     have:=alx hb (by rw [hl];omega)
     rwa [hl] at this) HF.o (by unfold D.cuts;rw [List.length_map];exact hLz) hfl Xf))
   have c2:W.cell? ⟨w.heap.size+1+1,0,none⟩=some (.pointer (some ⟨w.heap.size+1,0,none⟩)):=((hkl (w.heap.size+1+1) _ _ ⟨by omega,by omega,by omega⟩ L2.o).cell 0).trans rfl;have hlt:=h2.lt;have hs4:=h4.size;have hpl:(pre.filter (cutAt R M nn L)).length<1000000:=by
    have:=List.length_filter_le (cutAt R M nn L) pre;omega
   have HX:=bx hx;have H1:=bx h1;have H2:=bx h2;have H3:=bx h3;have H4:=bx h4;have HL0:=bx hlt;have aom:=bx Qe;clear h1 h2 h3 h4 hx Qe f0 f1 hkk hkl hBW2 hlt
   gi_wp2
   refine⟨trivial,HIC.o.mono ?_⟩;rintro e w4 ⟨rfl,hb4⟩;rw [<- EL.o];have HB4:=bx hb4;have aoS:=hb4.size;clear c2 hb4
   cases hcv:cutAt R M nn L x with
   | false =>
    have U3:=bx (show (pre++[x]).filter (cutAt R M nn L)=pre.filter (cutAt R M nn L) by rw [List.filter_append];simp [hcv]);clear hcv
    gi_wp2
    have CJ:Turns (λ_=>False) W w4:=Turns.of_below HB4.o;refine⟨Holds.Az (own:=λk=>(k<wL.heap.size/\k≠w.heap.size+1+1+1/\k≠w.heap.size+1+1+1+1)\/k=wL.heap.size+1\/k=wL.heap.size) CJ (λk hk=>by omega) (λk hk h=>h),⟨v,CJ.blk H1.o (λh=>h),?_,H3.o⟩,H4.o.trans (CJ.mono λ_ h=>h.elim)⟩;rw [U3.o];exact CJ.row H2.o (λ_ _ h=>h)
   | true =>
    have U3:=bx (show (pre++[x]).filter (cutAt R M nn L)=pre.filter (cutAt R M nn L)++[x] by rw [List.filter_append];simp [hcv]);have gU:=bx (VR (0::pre.filter (cutAt R M nn L)) x);clear hcv;have CJ:Turns (λ_=>False) W w4:=Turns.of_below HB4.o;have hrow4:=CJ.row H2.o (λ_ _ h=>h);have O0:=CJ.blk H1.o (λh=>h);have hc:w4.cell? ⟨w.heap.size+1+1+1+1,0,none⟩=some v:=(O0.cell 0).trans rfl;have hf:=O0.frozen 0;obtain⟨i0,hi,hz0,hz1,hz2⟩:=info_parts O8;have fM:=bx (show v.ownBlock≠some (w.heap.size+1+1+1+1) from λe=>by rcases H3.o _ e with h | h <;> omega);have HV:=bx O0;have HRW:=bx hrow4;have HT4:=bx CJ;have kM:=bx hrow4.lt;obtain⟨og,oc,rfl⟩:=ownsRow_succ hrow4;clear hrow4 O0 CJ
    gi_wp2_with (gi_at_builtin;refine wpListIn_append_own_at _ rfl _ _ 23 rfl (w.heap.size+1+1+1) 3 i0 (.int .i64 0) 1 8 Tryz.underlying23 hi hz0 hz1 hz2 rfl (by decide) (.slice (some ⟨og,0,none⟩) ((pre.filter (cutAt R M nn L)).length+1) oc) _ _ rfl (HRW.o.alloc _) ⟨w4.heap.size,0,none⟩ 1 1 [.int .i64 (x:Int)] rfl rfl (cell_one_new _ _ _) (by simp [Value.oneCell']) (by unfold maxLen;omega) (by omega) (by simp;omega) ?_;intro v' w1 hown' hgrow _ hat;obtain⟨g',cap',rfl⟩:=ownsRow_succ hown';have hv1:=(HV.o.alloc _).grown hgrow (Ne.symm fM.o);have hc1:=hv1.cell 0;have hf1:=hv1.frozen 0;simp at hc1)
    have hg':g'=og\/g'=w4.heap.size+1:=by
     rcases hat with h | h
     ·left;simpa [Value.ownBlock] using h
     ·right;simpa [Value.ownBlock] using h
    have hog:=H3.o og rfl;have Vu:=(kM.o og rfl).2;have hT:Turns (λk=>k=og\/k=w.heap.size+1+1+1+1) W (w1.setCell ⟨w.heap.size+1+1+1+1,0,none⟩ (.slice (some ⟨g',0,none⟩) ((pre.filter (cutAt R M nn L)).length+1+1) cap')) :=
     (((HT4.o.mono λ_ h=>h.elim).trans (Turns.alloc w4 _)).trans (Hu hgrow (λk hk=>.inl (by simpa [Value.ownBlock] using hk.symm)))).trans (Turns.setCell _ (.inr rfl) _)
    refine⟨Holds.Az (own:=λk=>(k<wL.heap.size/\k≠w.heap.size+1+1+1/\k≠w.heap.size+1+1+1+1)\/k=wL.heap.size+1\/k=wL.heap.size) hT (λk hk=>by omega) (λk hk h=>by omega),⟨_,hv1.bP 0 _,?_,λg hg=>?_⟩,(H4.o.mono (own':=λk=>k=w.heap.size+1+1+1\/k=w.heap.size+1+1+1+1\/k=og) (λk hk=>by omega)).trans (hT.mono (λk hk=>by omega)) |>.narrow (λk hk hl=>by omega)⟩
    ·rw [U3.o,<- List.cons_append,gU.o];have:=(Turns.setCell (own:=λk=>k=w.heap.size+1+1+1+1) w1 (p:=⟨w.heap.size+1+1+1+1,0,none⟩) rfl (.slice (some ⟨g',0,none⟩) ((pre.filter (cutAt R M nn L)).length+1+1) cap')).row hown' (λk hk=>by simp [Value.ownBlock] at hk;omega)
     simpa using this
    ·have:g=g':=by simpa [Value.ownBlock] using hg.symm
     omega
  case done =>
   intro xs W hW hS ⟨⟨v,h1,h2,h3⟩,h4⟩ hD;have hxs:xs.filter (cutAt R M nn L)=AB R M nn L (L.length-1):=by
    rw [hS];unfold wu AB;rw [show min (L.length+1-1) (L.length-1)=L.length-1 by omega]
   rw [hxs] at h2;obtain⟨Q,hQ⟩:∃ Q,AB R M nn L (L.length-1)=Q:=⟨_,rfl⟩
   have Xo:Q.length<=900:=by
    rw [<- hQ];unfold AB;have:=List.length_filter_le (cutAt R M nn L) ((List.range (L.length-1)).map (·+1));simp only [List.length_map,List.length_range] at this;omega
   rw [hQ] at h2;have lC:=bx (show vS R M nn L=(0::Q).map (λn:Nat=>(n:Int))++if 0<L.length then [(L.length:Int)] else [] by unfold vS;rw [hQ]);have c0:W.cell? ⟨w.heap.size+1+1+1+1,0,none⟩=some v:=(h1.cell 0).trans rfl;have cf:=h1.frozen 0;have cl:=h1.lt;have hlt:=h2.lt;have hs4:=h4.size;have H1:=bx h1;have H2:=bx h2;have H3:=bx h3;have H4:=bx h4;have HD2:=bx hD;have kM:=bx hlt;have Qm:=bx (show Below w.heap.size w W from jf.o.trans (h4.below jf.o.size (λk hk=>by omega)));clear h1 h2 h3 h4 hD hlt hxs hQ hS
   by_cases h0:0<L.length
   ·obtain⟨i0,hi,hz0,hz1,hz2⟩:=info_parts O8;have fM:=bx (show v.ownBlock≠some (w.heap.size+1+1+1+1) from λe=>by rcases H3.o _ e with h | h <;> omega);obtain⟨og,oc,rfl⟩:=ownsRow_succ H2.o;go_wp2_with (at_builtin;refine wpList_append_own_at _ rfl _ _ 23 rfl (w.heap.size+1+1+1) 3 i0 (.int .i64 0) 1 8 Tryz.underlying23 hi hz0 hz1 hz2 rfl (by decide) (.slice (some ⟨og,0,none⟩) (Q.length+1) oc) _ _ rfl (H2.o.alloc _) ⟨W.heap.size,0,none⟩ 1 1 [.int .i64 (L.length:Int)] rfl rfl (cell_one_new _ _ _) (by simp [Value.oneCell']) (by unfold maxLen;omega) (by omega) (by simp;omega) ?_;intro v' w1 hown' hgrow _ hat;obtain⟨g',cap',rfl⟩:=ownsRow_succ hown';have hv1:=(H1.o.alloc _).grown hgrow (Ne.symm fM.o);have hc1:=hv1.cell 0;have hf1:=hv1.frozen 0;have hl1:=hv1.lt;simp at hc1)
    rw [yN];have hg':g'=og\/g'=W.heap.size+1:=by
     rcases hat with h | h
     ·left;simpa [Value.ownBlock] using h
     ·right;simpa [Value.ownBlock] using h
    have hog:=H3.o og rfl;have Vu:=(kM.o og rfl).2;have hT:Turns (λk=>k=og\/k=w.heap.size+1+1+1+1) W (w1.setCell ⟨w.heap.size+1+1+1+1,0,none⟩ (.slice (some ⟨g',0,none⟩) (Q.length+1+1) cap')) :=
     ((Turns.alloc W _).trans (Hu hgrow (λk hk=>.inl (by simpa [Value.ownBlock] using hk.symm)))).trans (Turns.setCell _ (.inr rfl) _)
    have abD:=(Turns.setCell (own:=λk=>k=w.heap.size+1+1+1+1) w1 (p:=⟨w.heap.size+1+1+1+1,0,none⟩) rfl (.slice (some ⟨g',0,none⟩) (Q.length+1+1) cap')).row hown' (λk hk=>by simp [Value.ownBlock] at hk;omega);have Rn:=Qm.o.trans (hT.below Qm.o.size (λk hk=>by omega));generalize hWf:w1.setCell ⟨w.heap.size+1+1+1+1,0,none⟩ (.slice (some ⟨g',0,none⟩) (Q.length+1+1) cap')=Wf at hT abD Rn ⊢;have hDf:=(hT.block wL.heap.size (by omega) (by omega)).trans HD2.o;refine⟨by simp, .inl ⟨_,_,rfl,run_takeDeferred hDf,?_⟩⟩;refine⟨_,results_tmp2 rfl _ _ _,?_⟩;have Ku:Turns (λk=>k=wL.heap.size) Wf (Wf.putObj wL.heap.size (.deferred none)):=Turns.putObj (own:=λk=>k=wL.heap.size) Wf rfl (.deferred none);have TG:=Ku.row abD (λk hk=>by simp [Value.ownBlock] at hk;omega);refine⟨⟨.slice (some ⟨g',0,none⟩) (Q.length+1+1) cap',rfl,?_⟩,Rn.trans (Ku.below Rn.size (λk hk=>by omega))⟩;rw [show ((nn:Int)).toNat=nn from Int.toNat_natCast nn,lC.o,if_pos h0];refine ay.dL (n:=Q.length+1+1) (T:=3) (base:=w.heap.size+1+1+1) ?_ (by simp);have e:((0::Q).map (λn:Nat=>(n:Int))++[(L.length:Int)]).map (Value.int .i64)=CO (0::Q)++[.int .i64 (L.length:Int)]:=by
     unfold CO;rw [List.map_append,List.map_map]
     rfl
    rw [e];exact TG
   ·obtain⟨og,oc,rfl⟩:=ownsRow_succ H2.o;go_wp2_with fail;rw [yN];have hog:=H3.o og rfl;refine⟨by simp, .inl ⟨_,_,rfl,run_takeDeferred HD2.o,?_⟩⟩;refine⟨_,results_tmp2 rfl _ _ _,?_⟩;have Ku:Turns (λk=>k=wL.heap.size) W (W.putObj wL.heap.size (.deferred none)):=Turns.putObj (own:=λk=>k=wL.heap.size) W rfl (.deferred none);have TG:=Ku.row H2.o (λk hk=>by simp [Value.ownBlock] at hk;omega);refine⟨⟨.slice (some ⟨og,0,none⟩) (Q.length+1) oc,rfl,?_⟩,Qm.o.trans (Ku.below Qm.o.size (λk hk=>by omega))⟩;rw [show ((nn:Int)).toNat=nn from Int.toNat_natCast nn,lC.o,if_neg h0,List.append_nil];exact Ru TG (by simp)
theorem vT {w:World} {ao:Option Addr} {cap:Nat} {xs:List Int} (h:ay w (.slice ao xs.length cap) xs) (n:Nat):ay w (.slice ao (xs.take n).length cap) (xs.take n):=by
 rcases h with⟨h1,rfl⟩ | ⟨b,off,sp,cap,h1,h2,h3,h4⟩
 ·injection h1 with h1 h2 h3;subst h1 h3;simp [ay]
 ·injection h1 with h1 h2' h3';subst h1 h3';refine .inr ⟨b,off,sp,_,rfl,by rw [List.length_take];omega,h3,λhn=>?_⟩;have hn':xs≠[]:=by rintro rfl;simp at hn
  refine⟨(h4 hn').1,(h4 hn').2.1,λi x hx=>(h4 hn').2.2 i x ?_⟩;rw [List.getElem?_take] at hx
  split at hx
  ·exact hx
  ·cases hx
theorem vO {w:World} {ao:Option Addr} {cap n:Nat} {xs:List Int} (h:ay w (.slice ao n cap) xs):xs.length<=cap/\cap<=9223372036854775807:=by
 rcases h with⟨h1,rfl⟩ | ⟨b,off,sp,cap,h1,h2,h3,h4⟩
 ·injection h1 with h1 h2 h3;subst h3;simp
 ·injection h1 with h1 h2' h3';subst h3';unfold maxLen at h3;omega
theorem alg {W:World} {base n:Nat} {T:TypeId} {v:Value} {vs:List Value} {L:List (List Int)} (h:W.ownsRow base T 1 v n vs) (hn:n=L.length) (hV:∀ (i:Nat) (r:List Int),L[i]?=some r->∃ x,vs[i]?=some x/\ay W x r):iq W v L:=by
 subst hn
 rcases h.2 with⟨h1,h2⟩ | ⟨g,cap,cur,h1,h2,h3,h4,h5,h6,h7⟩
 ·rw [List.eq_nil_of_length_eq_zero h2];exact .inl ⟨h1,rfl⟩
 ·refine .inr ⟨g,0,none,cap,h1,h4,h5,λhn=>⟨rfl,(Array.getElem?_eq_some_iff.1 h3).1,λi r hr=>?_⟩⟩;obtain⟨x,hx,hi⟩:=hV i r hr;refine⟨x,?_,hi⟩;have h8:=h.cells (g:=g) (by rw [h1];rfl) i x hx;rw [show (⟨g,0,none⟩:Addr).add i=⟨g,0+i,none⟩ by unfold Addr.add;split <;> simp_all] at h8;exact h8
def pF (W:World) (vs:List Value) (L:List (List Int)):Prop:=vs.length=L.length/\∀ (i:Nat) (r:List Int),L[i]?=some r->∃ x,vs[i]?=some x/\ay W x r
theorem pF.snoc {W:World} {vs:List Value} {L:List (List Int)} (h:pF W vs L) {x:Value} {r:List Int} (hx:ay W x r):pF W (vs++[x]) (L++[r]):=by
 refine⟨by rw [List.length_append,List.length_append,h.1];rfl,λi q hq=>?_⟩
 rcases Nat.lt_or_ge i L.length with hl | hl
 ·rw [List.getElem?_append_left hl] at hq;obtain⟨y,hy,h2⟩:=h.2 i q hq;exact⟨y,by rw [List.getElem?_append_left (by rw [h.1];exact hl)];exact hy,h2⟩
 ·rw [List.getElem?_append_right hl] at hq;have hi0:i-L.length=0:=by have:=(List.getElem?_eq_some_iff.1 hq).1;simp at this;omega
  rw [hi0] at hq;simp only [List.getElem?_cons_zero,Option.some.injEq] at hq;subst hq;exact⟨x,by rw [List.getElem?_append_right (by rw [h.1];exact hl),h.1,hi0];rfl,hx⟩
theorem ai1 (A:Nat->Addr) (B:Nat) (rv:Value) (R:List D.Rule) (mv:Value) (M:D.dF) (n:Int) (lv:Value) (L:List Int) (w:World) (hR:dP w rv R) (hf:∀ x∈R,pz x) (vV:R.length<=16777216) (hM:nT w mv M) (qX:qZ M) (hL:ay w lv L) (hLz:L.length<=900) (hD:Ed A B w) (hE:Eg A B w) (hB:B<=w.heap.size) :
  Calls Tryz.prog 140 #[rv,mv, .int .i64 n,lv] w (Y7 R M n L w):=by
 cases h:oD R M n with
 | true =>
  refine(XL A B rv R mv M n lv L w hR hf vV hM qX hL hLz hD hE hB h).mono ?_;rintro e w' ⟨h1,h2⟩;exact⟨h2, .inl ⟨h,h1⟩⟩
 | false =>
  refine(aiK A B rv R mv M n lv L w hR hf vV hM qX hL hLz hD hE hB h).mono ?_;rintro e w' ⟨h1,h2⟩;exact⟨h2, .inr ⟨h,h1⟩⟩
end
section
open Go.RowKit
attribute [local go_sem] Oper.semAt_some
def rE (t:Tab):Bool:=oD t.r t.m t.n&&F.jK t.p
structure wz (t:Tab):Prop where
 p1:t.p.1.length<=100000
 p2:t.p.2.length<=100000
 p3:∀ r∈t.p.2,r.length<=16777216
 r1:∀ x∈t.r,pz x
 r2:t.r.length<=16777216
 m:qZ t.m
theorem Ym (A:Nat->Addr) (B:Nat) (v:Value) (t:Tab) (w:World) (hv:TabAt w v t) (hs:wz t) (hD:Ed A B w) (hE:Eg A B w) (hB:B<=w.heap.size) :
  Calls Tryz.prog 138 #[v] w λe w'=>e = .returned (.bool (rE t))/\Below w.heap.size w w':=by
 obtain⟨pi,pb,rv,nv,fv,rfl,h1,h2,h3,h4,h5⟩:=hv;obtain⟨V,hV⟩:∃ V,V=w.alloc (.cells #[.int .i64 t.n,pi,pb,rv,nv,fv] 46):=⟨_,rfl⟩
 have HB0:=bx (show Below w.heap.size w V by rw [hV];exact aS _ _);have HK:=bx (show ak V w.heap.size 46 #[.int .i64 t.n,pi,pb,rv,nv,fv] by rw [hV];exact ak.new _ _ _);have bW:=bx (λW (h:Below w.heap.size w W)=>show TabAt W (.agg #[.int .i64 t.n,pi,pb,rv,nv,fv]) t from⟨pi,pb,rv,nv,fv,rfl,h1.below h,h2.below h,h3.below h,h4.below h,h5.below h⟩);have aB:=bx (λW (h:Below V.heap.size V W)=>HK.o.c6 h);have HV:=bx hV;have gQ:=bx (ai1 A B rv t.r (.agg #[nv,fv]) t.m t.n (.slice none 0 0) [] V (h3.below HB0.o) hs.r1 hs.r2 ⟨nv,fv,rfl,h4.below HB0.o,h5.below HB0.o⟩ hs.m .nil (by simp) (hD.below (HB0.o.mono hB)) (hE.below (HB0.o.mono hB)) (Nat.le_trans hB HB0.o.size));have nY:=bx (λW (h:Below w.heap.size w W)=>OB (.agg #[pi,pb]) t.p W ⟨pi,pb,rfl,h1.below h,h2.below h⟩ hs.p1 hs.p2 hs.p3);have lH:=bx (show rE t=(oD t.r t.m t.n&&F.jK t.p) from rfl);obtain⟨n,hn⟩:∃ n,n=t.n:=⟨_,rfl⟩
 rw [<- hn] at HV HK bW aB gQ lH ⊢;generalize rE t=res at lH ⊢;clear h1 h2 h3 h4 h5 hV hs hn hD hE hB;obtain⟨k0,k1,k2,k3,k4,k5,kk⟩:=aB.o V (Below.refl _ _)
 go_enter Tryz.func138,Tryz.ntmps138
 go_upto_region 1 with(fail)
 rw [<- HV.o];go_wp2_with fail;refine gQ.o.mono ?_;rintro e w1 ⟨hb1,⟨ha,v1,rfl,-⟩ | ⟨ha,rfl⟩⟩
 ·have HB1:=bx (bt HB0.o hb1);have nY:=bx (nY.o w1 HB1.o);rw [ha,Bool.true_and] at lH;clear k0 k1 k2 k3 k4 k5 kk;obtain⟨k0,k1,k2,k3,k4,k5,kk⟩:=aB.o w1 hb1;clear hb1 ha;go_wp2_with fail;refine nY.o.mono ?_;rintro e w2 ⟨rfl,hb2⟩;have HB2:=bx (bt HB1.o hb2);clear hb2;go_wp2_with fail;go_ret
  exact⟨aI lH.o.symm,HB2.o⟩
 ·have HB1:=bx (bt HB0.o hb1);rw [ha,Bool.false_and] at lH;clear hb1 ha k0 k1 k2 k3 k4 k5 kk;go_wp2_with fail;go_ret
  exact⟨aI lH.o.symm,HB1.o⟩
end
section
open Go
theorem aeh (s:ByteArray) (i k:Nat) (d:UInt8) (h:(s.data.toList.drop i)[k]?=some d):(s.get! (i+k)).toNat=d.toNat/\i+k<s.size:=by
 rw [List.getElem?_drop] at h;obtain⟨h1,h2⟩:=List.getElem?_eq_some_iff.1 h;have h3:i+k<s.size:=by rw [<- ByteArray.size_data,<- Array.length_toList];exact h1
 refine⟨?_,h3⟩;have e:s.get! (i+k)=s[i+k]'h3:=by
  show s.get! (i+k)=_
  simp [ByteArray.get!,getElem!_pos,h3]
  rfl
 rw [e]
 congr 1
theorem Qi (n:Nat) (h:n<256):(U.byte (n:Int)).toNat=n:=by
 have:=U.xq (n:Int) (by omega) (by omega);unfold U.aA at this;omega
def CQ (b0 b1 b2 b3:Nat) (c1 c2 c3:Bool):Nat×Nat :=
 if b0<128 then (b0,1)
 else if (b0 / 32==6&&c1)=true then (if b0 % 32*64+b1 % 64≥128 then (b0 % 32*64+b1 % 64,2) else (Utf8.runeError,1))
 else if (b0 / 16==14&&c1&&c2)=true then (if (decide (b0 % 16*4096+b1 % 64*64+b2 % 64≥2048)&&Utf8.valid ((b0 % 16*4096+b1 % 64*64+b2 % 64:Nat):Int))=true then (b0 % 16*4096+b1 % 64*64+b2 % 64,3) else (Utf8.runeError,1))
 else if (b0 / 8==30&&c1&&c2&&c3)=true then (if (decide (b0 % 8*262144+b1 % 64*4096+b2 % 64*64+b3 % 64≥65536)&&Utf8.valid ((b0 % 8*262144+b1 % 64*4096+b2 % 64*64+b3 % 64:Nat):Int))=true then (b0 % 8*262144+b1 % 64*4096+b2 % 64*64+b3 % 64,4) else (Utf8.runeError,1))
 else (Utf8.runeError,1)
theorem alf (s:ByteArray) (i:Nat):Utf8.decode s i=CQ (s.get! (i+0)).toNat (s.get! (i+1)).toNat (s.get! (i+2)).toNat (s.get! (i+3)).toNat
  (decide (i+1<s.size)&&(s.get! (i+1)).toNat / 64==2) (decide (i+2<s.size)&&(s.get! (i+2)).toNat / 64==2) (decide (i+3<s.size)&&(s.get! (i+3)).toNat / 64==2):=rfl
theorem ad4 (n b1 b2 b3:Nat) (c1 c2 c3:Bool) (h:n<128):CQ n b1 b2 b3 c1 c2 c3=(n,1):=by unfold CQ;rw [if_pos h]
theorem afo (n b2 b3:Nat) (c2 c3:Bool) (h:128<=n) (h2:n<2048):CQ (192+n / 64) (128+n % 64) b2 b3 true c2 c3=(n,2):=by
 unfold CQ;have e:(192+n / 64) % 32*64+(128+n % 64) % 64=n:=by omega
 have e2:(192+n / 64) / 32=6:=by omega
 rw [e,e2,if_neg (by omega),if_pos (by rfl),if_pos h]
theorem aes (n b3:Nat) (c3:Bool) (h:2048<=n) (h2:n<65536) (hv:Utf8.valid (n:Int)=true):CQ (224+n / 4096) (128+n / 64 % 64) (128+n % 64) b3 true true c3=(n,3):=by
 unfold CQ;have e:(224+n / 4096) % 16*4096+(128+n / 64 % 64) % 64*64+(128+n % 64) % 64=n:=by omega
 have e1:((224+n / 4096) / 32==6)=false:=by rw [beq_eq_false_iff_ne];omega
 have e2:(224+n / 4096) / 16=14:=by omega
 rw [e,e1,e2,if_neg (by omega),if_neg (by simp),if_pos (by rfl),if_pos (by rw [hv,decide_eq_true h];rfl)]
theorem ae7 (n:Nat) (h:65536<=n) (h2:n<1114112) (hv:Utf8.valid (n:Int)=true):CQ (240+n / 262144) (128+n / 4096 % 64) (128+n / 64 % 64) (128+n % 64) true true true=(n,4):=by
 unfold CQ;have e:(240+n / 262144) % 8*262144+(128+n / 4096 % 64) % 64*4096+(128+n / 64 % 64) % 64*64+(128+n % 64) % 64=n:=by omega
 have e1:((240+n / 262144) / 32==6)=false:=by rw [beq_eq_false_iff_ne];omega
 have e2:((240+n / 262144) / 16==14)=false:=by rw [beq_eq_false_iff_ne];omega
 have e3:(240+n / 262144) / 8=30:=by omega
 rw [e,e1,e2,e3,if_neg (by omega),if_neg (by simp),if_neg (by simp),if_pos (by rfl),if_pos (by rw [hv,decide_eq_true h];rfl)]
theorem aiA (n:Nat) (hr:U.right (n:Int)=true):Utf8.valid (n:Int)=true:=by
 rw [U.CB] at hr;simp [Utf8.valid];omega
theorem anH (s:ByteArray) (i n:Nat) (t:List UInt8) (hr:U.right (n:Int)=true) (h:s.data.toList.drop i=U.enc (n:Int)++t):Utf8.decode s i=(n,(U.enc (n:Int)).length):=by
 have hv:=aiA n hr;rw [U.CB] at hr;have key:∀ k d,(U.enc (n:Int))[k]?=some d->(s.get! (i+k)).toNat=d.toNat/\i+k<s.size:=λk d hk=>aeh s i k d (by
  rw [h,List.getElem?_append_left (List.getElem?_eq_some_iff.1 hk).1];exact hk)
 have cont:∀ m,m / 64=2->∀ k,i+k<s.size->(decide (i+k<s.size)&&m / 64==2)=true:=λm hm k hk=>by rw [decide_eq_true hk,hm];rfl
 rw [alf]
 by_cases h1:n<128
 ·have e:U.enc (n:Int)=[U.byte (n:Int)]:=by unfold U.enc;rw [if_pos (by omega)]
  rw [e] at key ⊢;have k0:=(key 0 _ rfl).1;rw [Qi n (by omega)] at k0;rw [k0,ad4 _ _ _ _ _ _ _ h1]
  rfl
 ·by_cases h2:n<2048
  ·have e:U.enc (n:Int)=[U.byte ((192+n / 64:Nat):Int),U.byte ((128+n % 64:Nat):Int)]:=by
    unfold U.enc;rw [if_neg (by omega),if_pos (by omega)];rfl
   rw [e] at key ⊢;have k0:=(key 0 _ rfl).1;obtain⟨k1,s1⟩:=key 1 _ rfl;rw [Qi _ (by omega)] at k0 k1;rw [k0,k1,cont _ (by omega) 1 s1,afo _ _ _ _ _ (by omega) h2]
   rfl
  ·by_cases h3:n<65536
   ·have e:U.enc (n:Int)=[U.byte ((224+n / 4096:Nat):Int),U.byte ((128+n / 64 % 64:Nat):Int),U.byte ((128+n % 64:Nat):Int)]:=by
     unfold U.enc;rw [if_neg (by omega),if_neg (by omega),if_pos (by omega)];rfl
    rw [e] at key ⊢;have k0:=(key 0 _ rfl).1;obtain⟨k1,s1⟩:=key 1 _ rfl;obtain⟨k2,s2⟩:=key 2 _ rfl;rw [Qi _ (by omega)] at k0 k1 k2;rw [k0,k1,k2,cont _ (by omega) 1 s1,cont _ (by omega) 2 s2,aes _ _ _ (by omega) h3 hv]
    rfl
   ·have e:U.enc (n:Int)=[U.byte ((240+n / 262144:Nat):Int),U.byte ((128+n / 4096 % 64:Nat):Int),U.byte ((128+n / 64 % 64:Nat):Int),U.byte ((128+n % 64:Nat):Int)]:=by
     unfold U.enc;rw [if_neg (by omega),if_neg (by omega),if_neg (by omega)];rfl
    rw [e] at key ⊢;have k0:=(key 0 _ rfl).1;obtain⟨k1,s1⟩:=key 1 _ rfl;obtain⟨k2,s2⟩:=key 2 _ rfl;obtain⟨k3,s3⟩:=key 3 _ rfl;rw [Qi _ (by omega)] at k0 k1 k2 k3;rw [k0,k1,k2,k3,cont _ (by omega) 1 s1,cont _ (by omega) 2 s2,cont _ (by omega) 3 s3,ae7 _ (by omega) (by omega) hv]
    rfl
def dw (s:List UInt8):List Int:=(U.scalars (M.fix s)).getD []
theorem zT (s:List UInt8):U.scalars (M.fix s)=some (dw s):=by
 obtain⟨l,h,-⟩:=M.abO s;unfold dw;rw [h]
 rfl
theorem uf (s:List UInt8):∀ r∈dw s,U.right r=true:=((U.BG _ _).1 (zT s)).2
theorem acT (s:List UInt8):U.textOf (dw s)=M.fix s:=((U.BG _ _).1 (zT s)).1
def jJ (t:F.Trie) (l:List Int):List Int:=l.map (F.says t)
end
section
open Go.RowKit Go.Shelf
attribute [local go_sem] Oper.semAt_some
def Pv (s:ByteArray) (A:Nat->Addr) (b:Nat) (xs:List Int) (W:World):Prop :=
 (U.scalars s.data.toList=some xs/\∃ s',ak W b 92 #[.string s', .nilIface])\/(U.scalars s.data.toList=none/\∃ s',ak W b 92 #[.string s',kH A 5])
theorem aga (l:List Int):l.length<=(U.textOf l).length:=by
 induction l with
 | nil=>simp
 | cons r l ih =>
  have:=U.KC r;show l.length+1<=(U.enc r++U.textOf l).length
  rw [List.length_append];omega
theorem E.holds {A:Nat->Addr} {B:Nat} {w w':World} (h:E A B w) {own:Nat->Prop} (hh:Holds own w w') (hB:∀ k,k<B->own k):E A B w' where
 var g hg:=(World.cell?_of_block (hh.block g (hB _ (h.lt g hg).1))).trans (h.var g hg)
 row g hg:=by
  obtain⟨c,t,hr⟩:=h.row g hg;exact⟨c,t,(hh.block _ (hB _ (h.lt g hg).2)).trans hr⟩
 lt:=h.lt
 ne:=h.ne
theorem Holds.blk {own:Nat->Prop} {A B:World} (h:Holds own A B) {g:Nat} {t:TypeId} {cs:Array Value} (hb:ak A g t cs) (hg:own g):ak B g t cs:=(h.block g hg).trans hb
theorem E.only {A:Nat->Addr} {B:Nat} {w w':World} {b:Nat} (h:E A B w) (hg:w.grownBy w' (some b)) (hB:B<=b) (hB2:B<=w.heap.size):E A B w':=h.below (GH hg hB hB2)
theorem amm (n:Nat) (A:Nat->Addr) (B b Bn:Nat) (s:ByteArray) (hs:s.size<=maxLen) (l:Nat) (W1:World)
  (hE:E A B W1) (hB:B<=b) (hB2:B<=Bn) (hne:b≠Bn) (hb:ak W1 b 92 #[.string s, .nilIface]) (hBn:ak W1 Bn 88 #[.pointer (some ⟨b,0,none⟩)]) :
  Qk (n+1) Tryz.prog 97 #[.pointer (some ⟨Bn,0,none⟩)] (λx:Int=>#[.int .i64 x]) (λk=>k=b) (λk=>k=b\/k=Bn\/k<B) (λpre _=>pre.length<s.size) (Pv s A b) l W1:=by
 intro J Jx hJ hJx hY h0;have HY:=bx hY;have HJ:=bx hJ;clear hY hJ;refine callsIn_of_wp Tryz.func97 rfl trivial ?_;simp only [Tryz.ntmps97,List.size_toArray,List.length_cons,List.length_nil,Nat.reduceAdd,Nat.reduceSub,Array.replicate_succ,Array.replicate_zero,List.push_toArray,List.append_toArray,List.nil_append,List.cons_append]
 gi_wp2
 refine wpIn_wide.2 (wp_scope_straight ((wpIn_wide (n:=n+1)).1 ?_))
 gi_wp2
 refine wpIn_label ?_
 gi_wp2
 gi_loopw [3] (λv wr=>∃ (pre:List Int) (rest:ByteArray),rest.size<=s.size/\Box (U.textOf pre++rest.data.toList=s.data.toList/\∀ r∈pre,U.right r=true)/\E A B wr/\ak wr b 92 #[.string rest, .nilIface]/\ak wr Bn 88 #[.pointer (some ⟨b,0,none⟩)]/\J pre wr)
  (λ_ wr=>match wr.cell? ⟨b,0,none⟩ with | some (.string r)=>r.size | _=>0)
 case atStart=>exact⟨[],s,Nat.le_refl _,⟨⟨rfl,λr hr=>by cases hr⟩⟩,hE,hb,hBn,h0⟩
 case round =>
  obtain⟨pre,rest,hrs,hp,hEr,hbr,IE,hj⟩:=hrel;have c0:wr.cell? ⟨b,0,none⟩=some (.string rest):=(hbr.cell 0).trans rfl;have c1:wr.cell? ⟨Bn,0,none⟩=some (.pointer (some ⟨b,0,none⟩)):=(IE.cell 0).trans rfl
  cases hl:rest.data.toList with
  | nil =>
   have hz:=isEmpty_nil hl;have HS:=bx (show Pv s A b pre wr from .inl ⟨(U.BG _ _).2 ⟨by rw [<- hp.o.1,hl,List.append_nil],hp.o.2⟩,rest,hbr⟩);clear hl
   gi_wp2
   rw [Exit.noGoto_normal]
   go_end0
   exact⟨⟨_,rfl⟩, .inl ⟨pre,HS.o,hj⟩⟩
  | cons c t =>
   have hz:=isEmpty_cons hl;have HN:=bx ((callsIn_wide (n:=n)).2 (next_any A B b .nilIface rest wr (by omega) hEr hB hbr));have hsz:B<=wr.heap.size:=by have:=hbr.lt;omega
   have HEr:=bx hEr;have HBn:=bx IE;have XW:=bx hj;have HL:=bx hl;clear hEr hbr IE hj hl
   gi_wp2
   refine⟨trivial,HN.o.mono ?_⟩;intro e w2 hN;unfold EX at hN
   cases hd:U.dec rest.data.toList with
   | none =>
    rw [hd] at hN;obtain⟨rfl,hb2,hg2⟩:=hN;have HS:=bx (show Pv s A b pre w2 from .inr ⟨by
     rw [<- hp.o.1,U.Sj _ hp.o.2,U.UY (by rw [HL.o];simp) hd];rfl,rest,hb2⟩)
    have HJ2:=bx (HJ.o _ _ _ XW.o (Turns.abG hg2 rfl));clear hd hb2 hg2
    gi_wp2
    refine⟨λ_ h=>(by cases h),?_⟩
    gi_wp2
    rw [Exit.noGoto_normal]
    go_end0
    exact⟨⟨_,rfl⟩, .inl ⟨pre,HS.o,HJ2.o⟩⟩
   | some p =>
    obtain⟨r,m⟩:=p;rw [hd] at hN;obtain⟨rfl,hb2,hg2⟩:=hN;obtain⟨hr,he,hm1,_,hm⟩:=U.Ey hd;have hj2:=HJ.o _ _ _ XW.o (Turns.abG hg2 rfl);have hE2:=HEr.o.only hg2 hB hsz;have acn:ak w2 Bn 88 #[.pointer (some ⟨b,0,none⟩)]:=HBn.o.grown hg2 (by intro e;cases e;exact hne rfl);have HB2:=bx hb2;have HE2:=bx hE2;have ahb:=bx acn;have hsr:rest.size=rest.data.toList.length:=size_eq rest;have HP:=bx (show (rest.extract m rest.size).size<=s.size/\(rest.extract m rest.size).size<rest.size/\U.textOf (pre++[r])++(rest.extract m rest.size).data.toList=s.data.toList/\∀ x∈pre++[r],U.right x=true by
     have hx:(rest.extract m rest.size).data.toList=rest.data.toList.drop m:=Lib.extract_to_end rest m;have hx2:(rest.extract m rest.size).size=rest.size-m:=by rw [size_eq,hx,List.length_drop,<- hsr]
     refine⟨by omega,by omega,?_,?_⟩
     ·rw [U.U9,hx,List.append_assoc,<- hp.o.1]
      congr 1
      show U.enc r++[]++_=_
      rw [he,List.append_nil,List.take_append_drop]
     ·intro x hx
      rcases List.mem_append.1 hx with hx | hx
      ·exact hp.o.2 x hx
      ·simp at hx;rw [hx];exact hr)
    have HLEN:=bx (show pre.length<s.size by
     have h1:=congrArg List.length hp.o.1;have h2:=aga pre;rw [List.length_append,<- size_eq,<- size_eq] at h1;omega)
    obtain⟨fn,tmps,assign,body,hy,hR⟩:=HY.o pre r w2 hj2 HLEN.o;have HR:=bx hR;have hm0:((m:Int)==0)=false:=by rw [beq_eq_false_iff_ne];omega
    clear hd hb2 hg2 hE2 acn hj2 hR he hr hsr
    gi_wp2
    refine HR.o.mono ?_;rintro e W3 (⟨rfl,hj3,hk3⟩ | ⟨rfl,hx3⟩)
    ·have hb3:=hk3.blk HB2.o (.inl rfl);have HR3:=bx (show ∃ (pre:List Int) (rest:ByteArray),rest.size<=s.size/\Box (U.textOf pre++rest.data.toList=s.data.toList/\∀ r∈pre,U.right r=true)/\E A B W3/\ak W3 b 92 #[.string rest, .nilIface]/\ak W3 Bn 88 #[.pointer (some ⟨b,0,none⟩)]/\J pre W3 from
      ⟨pre++[r],_,HP.o.1,⟨HP.o.2.2⟩,HE2.o.holds hk3 (λk hk=>.inr (.inr hk)),hb3,hk3.blk ahb.o (.inr (.inl rfl)),hj3⟩)
     have c3:W3.cell? ⟨b,0,none⟩=some (.string (rest.extract m rest.size)):=(hb3.cell 0).trans rfl;have fA:=bx c3;have HC0:=bx c0;clear hb3 hj3 hk3 c3 c0 c1
     gi_wp2
     go_roundw
     case rel=>exact HR3.o
     case measure=>rw [fA.o,HC0.o];exact HP.o.2.1
    ·gi_wp2
     rw [Exit.noGoto_normal]
     go_end0
     exact⟨⟨_,rfl⟩, .inr ⟨_,hx3⟩⟩
theorem ai0 (p:Option Addr) (w:World) :
  Calls Tryz.prog 54 #[.pointer p] w λe w'=>e = .returned (.func (.func 97) #[] #[.pointer (some ⟨w.heap.size,0,none⟩)])/\w.alloc (.cells #[.pointer p] 88)=w':=by
 go_enter Tryz.func54,Tryz.ntmps54
 go_wp2
 go_ret
 exact⟨rfl,rfl⟩
theorem Turns.ai5 {own:Nat->Prop} {A B:World} {row:Option Nat} (h:A.grownBy B row) (hr:∀ k,row=some k->own k):Turns own A B :=
 ⟨h.os,h.tape,h.output,h.size,λi hi ho=>h.block i hi (λe=>ho (hr i e.symm))⟩
theorem aeP {w:World} {base base':Nat} {e:TypeId} {size:Nat} {v:Value} {n:Nat} {xs:List Value} (h:w.ownsRow base e size v n xs) (hb:base'<=base):w.ownsRow base' e size v n xs:=by
 refine⟨h.1,?_⟩
 rcases h.2 with h | ⟨g,cap,cur,h1,h2,h3⟩
 ·exact .inl h
 ·exact .inr ⟨g,cap,cur,h1,by omega,h3⟩
def NP (s:ByteArray) (w:World) (e:Ending) (w':World):Prop :=
 Below w.heap.size w w'/\match U.scalars s.data.toList with
 | none=>e = .returned (.tuple #[.slice none 0 0, .int .i64 11])
 | some xs=>∃ v,e = .returned (.tuple #[v, .int .i64 0])/\w'.ownsRow w.heap.size 3 1 v xs.length (xs.map (Value.int .i64))
theorem VH:(Tryz.prog.info? 3).map (λi=>(i.zero,i.size,i.bytes))=some (some (.int .i64 0),1,8):=by kernel_rfl
theorem sH (A:Nat->Addr) (B:Nat) (s:ByteArray) (w:World) (hs:s.size<=16777216) (hE:E A B w) (hB:B<=w.heap.size) :
  Calls Tryz.prog 27 #[.string s] w (NP s w):=by
 have HE:=bx hE;have hEv:=bx hE;clear hE;refine(callsIn_wide (n:=9)).1 (callsIn_of_wp_marks Tryz.func27 rfl trivial (wpIn_wide.2 ?_));simp only [Tryz.ntmps27,List.size_toArray,List.length_cons,List.length_nil,Nat.reduceAdd,Nat.reduceSub,Array.replicate_succ,Array.replicate_zero,List.push_toArray,List.append_toArray,List.nil_append,List.cons_append];go_wp2_with (go_at_call 54;refine(ai0 _ _).mono ?_;rintro e w' ⟨rfl,rfl⟩)
 have hb:ak (((w.alloc (.cells #[.string s, .nilIface] 92)).alloc (.cells #[.slice none 0 0] 23)).alloc (.cells #[.pointer (some ⟨w.heap.size,0,none⟩)] 88)) w.heap.size 92 #[.string s, .nilIface]:=((ak.new w _ _).alloc _).alloc _;have ho:ak (((w.alloc (.cells #[.string s, .nilIface] 92)).alloc (.cells #[.slice none 0 0] 23)).alloc (.cells #[.pointer (some ⟨w.heap.size,0,none⟩)] 88)) (w.heap.size+1) 23 #[.slice none 0 0]:=by
  have:=(ak.new (w.alloc (.cells #[.string s, .nilIface] 92)) 23 #[.slice none 0 0]).alloc (.cells #[.pointer (some ⟨w.heap.size,0,none⟩)] 88)
  simpa using this
 have hn:ak (((w.alloc (.cells #[.string s, .nilIface] 92)).alloc (.cells #[.slice none 0 0] 23)).alloc (.cells #[.pointer (some ⟨w.heap.size,0,none⟩)] 88)) (w.heap.size+1+1) 88 #[.pointer (some ⟨w.heap.size,0,none⟩)]:=by
  have:=ak.new ((w.alloc (.cells #[.string s, .nilIface] 92)).alloc (.cells #[.slice none 0 0] 23)) 88 #[.pointer (some ⟨w.heap.size,0,none⟩)]
  simpa using this
 have hbw:Below w.heap.size w (((w.alloc (.cells #[.string s, .nilIface] 92)).alloc (.cells #[.slice none 0 0] 23)).alloc (.cells #[.pointer (some ⟨w.heap.size,0,none⟩)] 88)) :=
  (((Below.refl _ _).alloc (Nat.le_refl _) _).alloc (by simp) _).alloc (by simp;omega) _
 have hsz:(((w.alloc (.cells #[.string s, .nilIface] 92)).alloc (.cells #[.slice none 0 0] 23)).alloc (.cells #[.pointer (some ⟨w.heap.size,0,none⟩)] 88)).heap.size=w.heap.size+3:=by simp
 generalize ((w.alloc (.cells #[.string s, .nilIface] 92)).alloc (.cells #[.slice none 0 0] 23)).alloc (.cells #[.pointer (some ⟨w.heap.size,0,none⟩)] 88)=wL at hb ho hn hbw hsz ⊢;have EZ:E A B wL:=HE.o.below (hbw.mono hB);refine(wpIn_wide (n:=9)).1 (Jo (α:=Int) (gf:=97) (lb:=#[.pointer (some ⟨w.heap.size+1+1,0,none⟩)]) rfl (enters_of Tryz.func97 (by kernel_rfl) rfl)
  (encs:=λx=>#[.int .i64 x]) (own:=λk=>k=w.heap.size) (keep:=λk=>k=w.heap.size\/k=w.heap.size+1+1\/k<B) (ok:=λpre _=>pre.length<s.size) (S:=Pv s A w.heap.size)
  (λk hk=>by omega)
  (λW1 ht=>amm 7 A B w.heap.size (w.heap.size+1+1) s (by unfold maxLen;omega) _ W1 (EZ.below (ht.below (by omega) (λ_ h=>h.elim))) hB (by omega) (by omega) (ht.blk hb (λh=>h)) (ht.blk hn (λh=>h)))
  (λ_=>rfl)
  (λpre W=>(∃ v,ak W (w.heap.size+1) 23 #[v]/\W.ownsRow (wL.heap.size+2) 3 1 v pre.length (pre.map (Value.int .i64)))/\Below w.heap.size w W)
  (λ_ _ _=>False) ?hI (λ_ _ _ _ h _=>h) ⟨⟨_,ho,World.ownsRow_nil _ _ _ _⟩,hbw⟩
  (λx a1 _=>a1={ tmps:=#[.string s,undef, .slice none 0 0, .int .i64 0, .pointer (some ⟨w.heap.size,0,none⟩), .pointer (some ⟨w.heap.size+1,0,none⟩), .int .i64 x, .string s, .agg #[.string s], .agg #[.string s, .nilIface], .pointer (some ⟨w.heap.size,0,none⟩), .pointer (some ⟨w.heap.size,0,none⟩), .func (.func 97) #[] #[.pointer (some ⟨w.heap.size+1+1,0,none⟩)], .int .i64 x,undef,undef,undef,undef,undef,undef,undef,undef,undef,undef,undef,undef,undef,undef,undef],defers:=[] })
  (λ_ _ _ _ h _=>h) ?assign ?body ?done (λ_ _ _ _ h _=>h.elim) ?hS)
 case hI =>
  rintro pre W W' ⟨⟨v,hv,hr⟩,hB'⟩ ht;refine⟨⟨v,ht.blk hv (by omega),ht.row hr (λk hk=>by have:=(hr.lt k hk).1;omega)⟩,hB'.trans (ht.below hB'.size (λk hk=>by omega))⟩
 case assign =>
  intro x W K _ hK
  gi_wp2
  exact hK _ _ (Turns.refl _ _) rfl
 case hS =>
  rintro xs W W' (⟨h1,s',h2⟩ | ⟨h1,s',h2⟩) ht
  ·exact .inl ⟨h1,s',ht.blk h2 (by omega)⟩
  ·exact .inr ⟨h1,s',ht.blk h2 (by omega)⟩
 case body =>
  rintro pre x a1 W hW ⟨⟨v,hv,hr⟩,hB'⟩ hlen rfl;obtain⟨i0,hi,hz0,hz1,hz2⟩:=info_parts VH;have hc:W.cell? ⟨w.heap.size+1,0,none⟩=some v:=(hv.cell 0).trans rfl;have hf:=hv.frozen 0;have HV:=bx hv;have hlt:=hv.lt;have hsz':=hB'.size;clear hv;have hnb:v.ownBlock≠some (w.heap.size+1):=λe=>by have:=(hr.lt _ e).1;omega
  have fM:=bx hnb;have bK:=bx hsz;clear hnb hsz EZ hbw hb ho hn
  gi_wp2_with (gi_at_builtin;refine wpListIn_append_own _ rfl _ _ 23 rfl (wL.heap.size+2) 3 i0 (.int .i64 0) 1 8 Tryz.underlying23 hi hz0 hz1 hz2 rfl (by decide) _ _ _ rfl (hr.alloc _) ⟨W.heap.size,0,none⟩ 1 1 [.int .i64 x] rfl rfl (cell_one_new _ _ _) (by simp [Value.oneCell']) (by unfold maxLen;omega) (by omega) (by simp;omega) ?_;intro v' w1 hown' hgrow _;obtain⟨g',cap',rfl⟩:=ownsRow_succ hown';have hv1:=(HV.o.alloc _).grown hgrow (Ne.symm fM.o);have hc1:=hv1.cell 0;have hf1:=hv1.frozen 0;simp at hc1)
  have hlt':=λk (hk:v.ownBlock=some k)=>hr.lt k hk
  have hT:Turns (λk=>v.ownBlock=some k\/k=w.heap.size+1) W (w1.setCell ⟨w.heap.size+1,0,none⟩ (.slice (some ⟨g',0,none⟩) (pre.length+1) cap')) :=
   ((Turns.alloc W _).trans (Turns.ai5 hgrow (λk hk=>.inl hk))).trans (Turns.setCell _ (.inr rfl) _)
  have hz:=bK.o;have hg':=(hown'.lt g' rfl).1;have hn1:=fM.o;refine⟨Holds.Az hT (λk hk=>by omega) (λk hk h=>?_),⟨_,hv1.bP 0 _,?_⟩,hB'.trans (hT.below hB'.size (λk hk=>?_))⟩
  ·rcases h with h | h
   ·have:=(hlt' k h).1;omega
   ·omega
  ·have:=(Turns.setCell (own:=λk=>k=w.heap.size+1) w1 (p:=⟨w.heap.size+1,0,none⟩) rfl (.slice (some ⟨g',0,none⟩) (pre.length+1) cap')).row hown' (λk hk=>by simp [Value.ownBlock] at hk;omega)
   simpa using this
  ·rcases hk with hk | hk
   ·have:=(hlt' k hk).1;omega
   ·omega
 case done =>
  intro xs W hW hS ⟨⟨v,hv,hr⟩,hB'⟩ hD;have HV:=bx hv;have hc:W.cell? ⟨w.heap.size+1,0,none⟩=some v:=(hv.cell 0).trans rfl;have HR:=bx hr;have HD:=bx hD;have bK:=bx hsz;clear hr hD hsz hv EZ hbw hb ho hn
  rcases hS with⟨h1,s',h2⟩ | ⟨h1,s',h2⟩
  ·have e1:W.cell? ⟨w.heap.size,1,none⟩=some .nilIface:=(h2.cell 1).trans rfl;have HS:=bx h1;clear h1 h2;go_wp2_with fail;refine⟨by simp, .inl ⟨_,_,rfl,run_takeDeferred HD.o,?_⟩⟩;refine⟨_,results_tmp2 rfl _ _ _,?_⟩;have hz:=bK.o;unfold NP;rw [HS.o];refine⟨hB'.trans ((Turns.putObj (own:=λk=>k=wL.heap.size) W rfl _).below hB'.size (λk hk=>by omega)),v,rfl,?_⟩;have hr:=(Turns.putObj (own:=λk=>k=wL.heap.size) W rfl (.deferred none)).row HR.o (λk hk=>by have:=(HR.o.lt k hk).1;omega);exact aeP hr (by omega)
  ·have e1:W.cell? ⟨w.heap.size,1,none⟩=some (kH A 5):=(h2.cell 1).trans rfl;unfold kH at e1;have HS:=bx h1;have HT:=bx (alH A B W (HE.o.below (hB'.mono hB)));clear h1 h2;go_wp2_with (go_at_call 55;refine HT.o.mono ?_;rintro e w' ⟨rfl,rfl⟩)
   refine⟨by simp, .inl ⟨_,_,rfl,run_takeDeferred HD.o,?_⟩⟩;refine⟨_,results_tmp2 rfl _ _ _,?_⟩;have hz:=bK.o;unfold NP;rw [HS.o];exact⟨hB'.trans ((Turns.putObj (own:=λk=>k=wL.heap.size) W rfl _).below hB'.size (λk hk=>by omega)),rfl⟩
end
end Go.Proofs.YtlmdjifffmofeaaGreatDoor
