/- Texts of this claim. -/
import Derived.OrdersIn
import Derived.Test.YtdenoeakcflnmaaGreatDoorH20

set_option maxHeartbeats 16000000
set_option maxRecDepth 100000
namespace Go.Proofs.YtdenoeakcflnmaaGreatDoor
section
open Go.RowKit
attribute [local go_sem] Oper.semAt_some
theorem ajO (A:Nat->Addr) (B:Nat) (s:List UInt8) (w:World) (hz:s.length<=16777216) (hs:U.valid s=true) (hE:E A B w) (hB:B<=w.heap.size) :
  Calls Tryz.prog 105 #[.string (bs s)] w λe w'=>e = .returned (.bool false)/\Below w.heap.size w w':=by
 have HV:=bx (show Calls Tryz.prog 158 #[.string (bs s)] w λe w'=>e = .returned (.bool true)/\Below w.heap.size w w' by
  have h:=ahr A B (bs s) w (by rw [eU];exact hz) hE hB;rw [qP,hs] at h;exact h)
 clear hE hs
 go_enter Tryz.func105,Tryz.ntmps105
 go_wp2_with fail;refine HV.o.mono ?_;rintro e w1 ⟨rfl,hb1⟩;go_wp2_with fail;go_ret
 exact⟨rfl,hb1⟩
theorem ae1 (A:Nat->Addr) (B:Nat) (v:Value) (ls:List (List UInt8)) (w:World) (hv:dI w v ls) (hz:ls.length<=16777216) (hal:∀ s∈ls,U.valid s=true/\s.length<=16777216) (hE:E A B w) (hB:B<=w.heap.size) :
  Calls Tryz.prog 157 #[v, .func (.func 105) #[] #[]] w λe w'=>e = .returned (.int .i64 (-1))/\Below w.heap.size w w':=by
 have HO:=bx (λW (h:Below w.heap.size w W) s (hs:s∈ls)=>ajO A B s W (hal s hs).2 (hal s hs).1 (hE.below (h.mono hB)) (Nat.le_trans hB h.size));have HV:=bx hv;obtain⟨N,hN⟩:∃ N,ls.length=N:=⟨_,rfl⟩
 obtain⟨ao,cap,rfl,-⟩:=hv.slice;rw [hN] at hz HV ⊢;have HN:=bx hN;clear hv hal hE hB hN
 go_enter Tryz.func157,Tryz.ntmps157
 go_wp2_with fail
 go_loopw [8] (λi wr=>∃ k:Nat,k<=N/\i = .int .i64 k/\Box (Below w.heap.size w wr)) (λi _=>N-(intOf i).toNat)
 case atStart=>exact⟨0,by omega,rfl,⟨Below.refl _ _⟩⟩
 case round =>
  obtain⟨k,hk,rfl,hb⟩:=hrel
  by_cases hlt:k<N
  ·obtain⟨x,hx⟩:∃ x,ls[k]?=some x:=⟨_,List.getElem?_eq_getElem (by rw [HN.o];exact hlt)⟩
   obtain⟨g,off,cap2,hg1,hg2,hg3,hg4,hg5⟩:=HV.o.get (by rintro rfl;simp at hx);rw [HN.o] at hg1 hg2;obtain⟨rfl,rfl⟩:ao=some ⟨g,off,none⟩/\cap=cap2:=by injection hg1 with h1 h2 h3;exact⟨h1,h3⟩
   have cx:=(hb.o.cell (p:=⟨g,off+k,none⟩) hg4).trans (hg5 k x hx);have wK:=bx (HO.o wr hb.o x (List.mem_of_getElem? hx));unfold maxLen at hg3;clear hx hg1 hg4 hg5;go_wp2_with fail;refine wK.o.mono ?_;rintro e w1 ⟨rfl,hb1⟩;have HB1:=bx (bt hb.o hb1);clear hb1 cx;go_wp2_with fail
   go_roundw
   case rel=>exact⟨k+1,by omega,by go_num,HB1⟩
   case measure=>simp [intOf];omega
  ·go_wp2_with fail;go_ret
   exact⟨rfl,hb.o⟩
theorem aeT (A:Nat->Addr) (B:Nat) (v:Value) (ls:List (List UInt8)) (w:World) (hv:dI w v ls) (hz:ls.length<=16777216) (hal:∀ s∈ls,U.valid s=true/\s.length<=16777216) (hE:E A B w) (hB:B<=w.heap.size) :
  Calls Tryz.prog 104 #[v, .func (.func 105) #[] #[]] w λe w'=>e = .returned (.bool false)/\Below w.heap.size w w':=by
 have HI:=bx (ae1 A B v ls w hv hz hal hE hB);clear hv hal hE hB
 go_enter Tryz.func104,Tryz.ntmps104
 go_wp2_with fail;refine HI.o.mono ?_;rintro e w1 ⟨rfl,hb1⟩;have HB1:=bx hb1;clear hb1;go_wp2_with fail;go_ret
 exact⟨rfl,HB1.o⟩
theorem Zt (A:Nat->Addr) (B:Nat) (v lv:Value) (c:C.Wd) (ls:List (List UInt8)) (w:World) (hv:WideAt w v c) (hs:fF c) (hc:C.kL c=true) (hl:dI w lv ls) (hz:ls.length<=16777216) (hal:∀ s∈ls,U.valid s=true/\s.length<=16777216) (hE:E A B w) (hB:B<=w.heap.size) :
  Calls Tryz.prog 61 #[v,lv] w λe w'=>∃ iv bv rg km,v = .agg #[iv,bv, .bool c.wide]/\e = .returned (.tuple #[.pointer (some ⟨rg,0,none⟩), .nilIface])/\Sep (qM rg km iv bv c [Pc.old w.heap.size w]) w':=by
 obtain⟨iv,bv,rfl,hi,hb⟩:=hv;obtain⟨V,hV⟩:∃ V,V=w.alloc (.cells #[iv,bv, .bool c.wide] 33):=⟨_,rfl⟩
 have HB0:=bx (show Below w.heap.size w V by rw [hV];exact aO _ _);have HK:=bx (show aj V w.heap.size 33 #[iv,bv, .bool c.wide] by rw [hV];exact aj.new _ _ _);have tH:=bx (λW (h:Below w.heap.size w W)=>show WideAt W (.agg #[iv,bv, .bool c.wide]) c from⟨iv,bv,rfl,hi.below h,hb.below h⟩);obtain⟨wd,hwd⟩:∃ b,b=c.wide:=⟨_,rfl⟩
 rw [<- hwd] at HK hV tH;have qR:=bx hwd;have HV:=bx hV;have ay:=bx (λW (h:Below V.heap.size V W)=>show W.cell? ⟨w.heap.size,0,none⟩=some iv/\W.cell? ⟨w.heap.size,1,none⟩=some bv/\W.cell? ⟨w.heap.size,2,none⟩=some (.bool wd)/\w.heap.size<W.heap.size from
  ⟨((HK.o.below h HK.o.lt).cell 0).trans rfl,((HK.o.below h HK.o.lt).cell 1).trans rfl,((HK.o.below h HK.o.lt).cell 2).trans rfl,(HK.o.below h HK.o.lt).lt⟩)
 clear hV hwd hi hb;have yx:=bx (show Calls Tryz.prog 46 #[.agg #[iv,bv, .bool wd]] V λe w'=>e = .returned (.bool true)/\Below V.heap.size V w' by
  have h:=acX _ c V (tH.o V HB0.o) hs;rw [hc] at h;exact h)
 have rG:=bx (λW (h:Below w.heap.size w W)=>aeT A B lv ls W (hl.below h) hz hal (hE.below (h.mono hB)) (Nat.le_trans hB h.size));have kK:=bx (λW (h:Below w.heap.size w W)=>show W.cell? ⟨3,0,none⟩=some (.iface 354 (.pointer (some (A 3))))/\W.cell? ⟨4,0,none⟩=some (.iface 354 (.pointer (some (A 4)))) from
  ⟨(hE.below (h.mono hB)).cell 3 (by decide),(hE.below (h.mono hB)).cell 4 (by decide)⟩)
 rw [<- qR.o];obtain⟨la,lc,rfl,-⟩:=hl.slice;generalize ls.length=Q at rG hz ⊢;have hmm:=@run_makeMap Tryz.prog;obtain⟨k0,k1,k2,kk⟩:=ay.o V (Below.refl _ _);obtain⟨g0,g1⟩:=kK.o V HB0.o;clear hs hc hl hz hal hE hB
 go_enter Tryz.func61,Tryz.ntmps61
 go_upto_region 1 with(fail)
 rw [<- HV.o];go_wp2_with fail;refine wG 0 rfl ?_;go_wp2_with fail;refine yx.o.mono ?_;rintro e w1 ⟨rfl,hb1⟩;have fH:=bx hb1;have HB1:=bx (bt HB0.o hb1);clear k0 k1 k2 kk g0 g1 hb1;obtain⟨g0,g1⟩:=kK.o w1 HB1.o;go_wp2_with fail;refine(rG.o w1 HB1.o).mono ?_;rintro e w2 ⟨rfl,hb2⟩;have iV:=bx (bt fH.o hb2);have HB2:=bx (bt HB1.o hb2);obtain⟨k0,k1,k2,kk⟩:=ay.o w2 iV.o;have hk:pY (w2.alloc (.map #[] 0)) w2.heap.size c:=⟨#[],0,World.alloc_heap_new w2 _,λx hx=>by simp at hx,λq v hq=>by simp [sV,Instr.findNow] at hq⟩
 have hs1:Sep (Pc.Ep w2.heap.size c::[Pc.old w.heap.size w]) (w2.alloc (.map #[] 0)):=((Sep.start w).below HB2.o).add (aO w2 (.map #[] 0)) (p:=Pc.Ep w2.heap.size c) hk (λk hk=>by rw [show k=w2.heap.size from hk];exact Nat.le_refl _);have HS2:=bx (show Sep (Pc.blk (w2.heap.size+1) 166 #[iv,bv, .bool wd, .map (some w2.heap.size)]::Pc.Ep w2.heap.size c::[Pc.old w.heap.size w]) ((w2.alloc (.map #[] 0)).alloc (.cells #[iv,bv, .bool wd, .map (some w2.heap.size)] 166)) by
  have h:=hs1.bM 166 #[iv,bv, .bool wd, .map (some w2.heap.size)];rw [World.size_alloc] at h;exact h)
 clear hk hs1 hb2 g0 g1;go_wp2_with fail;rw [wC];go_ret2
 exact⟨iv,bv,_,w2.heap.size,rfl,rfl,by unfold qM;rw [<- qR.o];exact HS2.o⟩
theorem aaH (rg km:Nat) (iv bv:Value) (c:C.Wd) (ps:List Pc) (s:ByteArray) (xs:List Int) (w:World) (hs:fF c) (ht:F.iw c.p=true) (hx:U.scalars s.data.toList=some xs) (hz:s.size<=8000) (hR:∀ W,Sep ps W->aB W iv c.p.1/\fJ W bv c.p.2) (hS:Sep (qM rg km iv bv c ps) w) :
  Calls Tryz.prog 107 #[.pointer (some ⟨rg,0,none⟩), .string s] w λe w'=>e = .returned (.int .i64 (C.fZ c xs))/\Turns (λk=>k=km) w w'/\pY w' km c:=by
 have mQ:=bx ((U.qK _ _).1 hx).2;have HST:=bx ((U.qK _ _).1 hx).1;have ng:=bx (show C.fZ c xs=if (C.emoji xs&&decide (0<C.most c xs))=true then 2 else C.most c xs from rfl);have Me:=bx (λ(r:Nat) (hr:r<=1114111) W (h:Sep (qM rg km iv bv c ps) W)=>adz rg km iv bv c ps r hr W hs ht hR h);obtain⟨N,hN⟩:∃ N,xs.length=N:=⟨_,rfl⟩
 have hNz:N<=8000:=by
  have h1:=JU xs;rw [HST.o,<- size_eq] at h1;omega
 have HN:=bx hN;have jl:=bx (show Below w.heap.size w (w.iter s 0) from aO w _);have aW:=bx (show Sep (Pc.obj w.heap.size (.stringIter s (U.textOf (xs.take 0)).length)::qM rg km iv bv c ps) (w.iter s 0) from
  hS.add jl.o (p:=Pc.obj w.heap.size (.stringIter s 0)) (World.iter_heap w s 0) (λk hk=>by rw [show k=w.heap.size from hk];exact Nat.le_refl _))
 have yA:=bx (show km<w.heap.size from(hS.at' 1 rfl:pY w km c).lt);clear hx hs ht hR hS hN
 go_enter Tryz.func107,Tryz.ntmps107
 go_wp2_with fail;have Iq:=bx (Turns.of_below (own:=λk=>k=km\/k=w.heap.size) jl.o);generalize w.iter s 0=w7 at aW Iq ⊢;obtain⟨it,hit0⟩:∃ it,it=w.heap.size:=⟨_,rfl⟩
 rw [<- hit0] at aW Iq ⊢;have aib:=bx hit0;clear jl hit0
 go_loopw [5,6,7,8] (λn em u3 u4 wr=>∃ k:Nat,k<=N/\n = .int .i64 (C.most c (xs.take k))/\em = .bool (C.emoji (xs.take k))/\Box (Sep (Pc.obj it (.stringIter s (U.textOf (xs.take k)).length)::qM rg km iv bv c ps) wr)/\Box (Turns (λk=>k=km\/k=it) w wr)) (λ_ _ _ _ wr=>s.size-wr.iterPos it)
 case atStart=>exact⟨0,by omega,rfl,rfl,aW,Iq⟩
 case round =>
  obtain⟨k,hk,rfl,rfl,hsep,htr⟩:=hrel;obtain⟨pos,hps⟩:∃ pos,pos=(U.textOf (xs.take k)).length:=⟨_,rfl⟩
  rw [<- hps] at hsep;have zS:=bx hps;have hit:wr.heap[it]?=some (.stringIter s pos):=hsep.o.at' 0 rfl;have HIT:=bx hit;clear hps
  by_cases hlt:k<N
  ·obtain⟨z,hzx⟩:∃ z,xs[k]?=some z:=⟨_,List.getElem?_eq_getElem (by rw [HN.o];exact hlt)⟩
   have EO:=mQ.o z (List.mem_of_getElem? hzx);obtain⟨r,rfl,hrz⟩:=GY EO;obtain⟨hd1,hd2⟩:=acU hzx;rw [HST.o,<- zS.o] at hd1;have iL:=bx hd2;have hel:=U.Kz (r:Int);have hpl:pos+(U.enc (r:Int)).length<=s.size:=by
    have h9:=congrArg List.length hd1;rw [List.length_drop,List.length_append,<- size_eq] at h9;omega
   have iO:=bx (show pos<s.size/\1<=(U.enc (r:Int)).length/\pos+(U.enc (r:Int)).length<=s.size from⟨by omega,hel.1,hpl⟩);have hnx:=λty=>Lib.run_next_any_at (P:=Tryz.prog) wr it s pos ty hit (by omega)
   rw [Yk s pos r _ EO hd1] at hnx;simp only at hnx;have qg:=bx (WM (c:=c) hzx);have qF:=bx (Vj hzx);obtain⟨mo,hmo⟩:∃ m,C.most c (xs.take k)=m:=⟨_,rfl⟩
   obtain⟨em,hem⟩:∃ m,C.emoji (xs.take k)=m:=⟨_,rfl⟩
   rw [hmo] at qg;rw [hem] at qF;rw [hmo,hem];have HP0:=bx (show (0<pos)=(0<k) by
    rw [zS.o]
    apply propext
    constructor
    ·intro h
     rcases Nat.eq_zero_or_pos k with h0 | h0
     ·subst h0;simp [U.textOf] at h
     ·exact h0
    ·intro h;exact C.O8 (by intro h0;have:=congrArg List.length h0;rw [List.length_take,HN.o] at this;simp at this;omega))
   obtain⟨w6,hw6⟩:∃ w6,w6=wr.iterAt it s (pos+(U.enc (r:Int)).length):=⟨_,rfl⟩
   rw [<- hw6] at hnx;have dX:=bx (show Sep (Pc.obj it (.stringIter s (pos+(U.enc (r:Int)).length))::qM rg km iv bv c ps) w6 by
    rw [hw6];exact Sep.upd (ps:=Pc.obj it (.stringIter s pos)::qM rg km iv bv c ps) (own:=λq=>q=it) 0 hsep.o rfl (Sz wr it s _) (λ_ h _=>h) (p':=Pc.obj it (.stringIter s (pos+(U.enc (r:Int)).length))) (Lib.iterAt_heap wr it s pos _ hit) (λ_ h=>.inl h))
   have Iz:=bx (show Turns (λk=>k=km\/k=it) w w6 by
    rw [hw6];exact htr.o.trans ((Sz wr it s _).mono (λq h=>.inr h)))
   have BK:=bx (show pos+(U.enc (r:Int)).length=(U.textOf (xs.take (k+1))).length by rw [iL.o,List.length_append,<- zS.o]);rw [BK.o] at dX;have sQ:=bx (show s.size-(U.textOf (xs.take (k+1))).length<s.size-pos by have:=iO.o;rw [<- BK.o];omega);have MQ:=bx (show wr.iterPos it=pos by simp only [World.iterPos];rw [hit]);have wK:=bx (Me.o r hrz w6 dX.o.tail);have aoy:pos<=8000:=by omega
   clear hit hd1 hd2 EO hzx hw6 hpl hel hmo hem;go_wp2_with fail;refine wK.o.mono ?_;rintro e w8 ⟨rfl,Xa,hk8⟩;have kM:=bx (Sep.upd (ps:=Pc.obj it (.stringIter s (U.textOf (xs.take (k+1))).length)::qM rg km iv bv c ps) (own:=λq=>q=km) 2 dX.o rfl Xa (λ_ h _=>h) (p':=Pc.Ep km c) hk8 (λ_ h=>.inl h));have kM:=bx (show Sep (Pc.obj it (.stringIter s (U.textOf (xs.take (k+1))).length)::qM rg km iv bv c ps) w8 from kM.o);have Oh:=bx (Iz.o.trans (Xa.mono (λq h=>.inl h)));have OY:=bx (show w8.iterPos it=(U.textOf (xs.take (k+1))).length by
    have h:=kM.o.at' 0 rfl;simp only [World.iterPos];rw [show _=some (Obj.stringIter s (U.textOf (xs.take (k+1))).length) from h])
   clear Xa hk8 hnx
   cases em with
   | true =>
    have lq:=bx (show C.emoji (xs.take (k+1))=true by rw [qF.o];rfl);go_wp2_with fail
    go_roundw
    case rel=>exact⟨k+1,by omega,by rw [qg.o],by rw [lq.o],kM,Oh⟩
    case measure=>rw [OY.o,MQ.o];exact sQ.o
   | false =>
    by_cases h0:0<pos
    ·have d0:decide ((0:Int)<(pos:Int))=true:=decide_eq_true (by omega);have d1:decide (0<pos)=true:=decide_eq_true h0;have hI:(0:Int)<(pos:Int):=by omega
     have hk0:0<k:=by rw [<- HP0.o];exact h0
     cases BG:((r:Int)==65039) with
     | true =>
      have lq:=bx (show C.emoji (xs.take (k+1))=true by rw [qF.o,BG,decide_eq_true hk0];rfl);go_wp2_with fail
      go_roundw
      case rel=>exact⟨k+1,by omega,by rw [qg.o],by rw [lq.o],kM,Oh⟩
      case measure=>rw [OY.o,MQ.o];exact sQ.o
     | false =>
      have lq:=bx (show C.emoji (xs.take (k+1))=false by rw [qF.o,BG];simp);go_wp2_with fail
      go_roundw
      case rel=>exact⟨k+1,by omega,by rw [qg.o],by rw [lq.o],kM,Oh⟩
      case measure=>rw [OY.o,MQ.o];exact sQ.o
    ·have d0:decide ((0:Int)<(pos:Int))=false:=decide_eq_false (by omega);have d1:decide (0<pos)=false:=decide_eq_false h0;have hI:¬ (0:Int)<(pos:Int):=by omega
     have lq:=bx (show C.emoji (xs.take (k+1))=false by rw [qF.o,decide_eq_false (by rw [<- HP0.o];exact h0)];rfl);go_wp2_with fail
     go_roundw
     case rel=>exact⟨k+1,by omega,by rw [qg.o],by rw [lq.o],kM,Oh⟩
     case measure=>rw [OY.o,MQ.o];exact sQ.o
  ·obtain rfl:k=N:=by omega
   have hpe:¬ pos<s.size:=by
    have h9:=zS.o;rw [List.take_of_length_le (by rw [HN.o];exact Nat.le_refl _),HST.o,<- size_eq] at h9;omega
   have hnx:=λty=>Lib.run_next_end_at (P:=Tryz.prog) wr it s pos ty hit hpe
   rw [List.take_of_length_le (by rw [HN.o];exact Nat.le_refl _)];have sO:=bx (show pY wr km c from hsep.o.at' 2 rfl);have aX:=bx (show Turns (λk=>k=km) w wr from aec htr.o (λq h1 h2=>by
    rcases h1 with h1 | h1
    ·exact h1
    ·have:=aib.o;omega))
   generalize C.emoji xs=em at ng ⊢;generalize C.most c xs=mo at ng ⊢;clear hit hpe
   cases em with
   | false =>
    go_wp2_with fail;go_ret
    exact⟨iF (by rw [ng.o];simp),aX.o,sO.o⟩
   | true =>
    by_cases h:0<mo
    ·have d0:=decide_eq_true h;have HR:=bx (show C.fZ c xs=2 by rw [ng.o,d0];rfl);clear h;go_wp2_with fail;go_ret
     exact⟨iF HR.o.symm,aX.o,sO.o⟩
    ·have d0:=decide_eq_false h;have HR:=bx (show C.fZ c xs=mo by rw [ng.o,d0];rfl);clear h;go_wp2_with fail;go_ret
     exact⟨iF HR.o.symm,aX.o,sO.o⟩
theorem amA (A:Nat->Addr) (B:Nat) (v:Value) (c:C.Wd) (s:List UInt8) (xs:List Int) (w:World) (hv:WideAt w v c) (hs:fF c) (hc:C.kL c=true) (hx:U.scalars s=some xs) (hz:s.length<=8000) (hE:E A B w) (hB:B<=w.heap.size) :
  Calls Tryz.prog 126 #[v, .string (bs s)] w λe w'=>e = .returned (.tuple #[.int .i64 (C.fZ c xs), .int .i64 0])/\Below w.heap.size w w':=by
 have hti:F.iw c.p=true:=by
  unfold C.kL at hc;rw [Bool.and_eq_true] at hc;exact hc.1
 obtain⟨iv,bv,rfl,hi,hb⟩:=hv;obtain⟨V,hV⟩:∃ V,V=w.alloc (.cells #[iv,bv, .bool c.wide] 33):=⟨_,rfl⟩
 have HB0:=bx (show Below w.heap.size w V by rw [hV];exact aO _ _);have HK:=bx (show aj V w.heap.size 33 #[iv,bv, .bool c.wide] by rw [hV];exact aj.new _ _ _);have tH:=bx (λW (h:Below w.heap.size w W)=>show WideAt W (.agg #[iv,bv, .bool c.wide]) c from⟨iv,bv,rfl,hi.below h,hb.below h⟩);obtain⟨wd,hwd⟩:∃ b,b=c.wide:=⟨_,rfl⟩
 rw [<- hwd] at HK hV tH;have qR:=bx hwd;have HV:=bx hV;have ay:=bx (λW (h:Below V.heap.size V W)=>show W.cell? ⟨w.heap.size,0,none⟩=some iv/\W.cell? ⟨w.heap.size,1,none⟩=some bv/\W.cell? ⟨w.heap.size,2,none⟩=some (.bool wd)/\w.heap.size<W.heap.size from
  ⟨((HK.o.below h HK.o.lt).cell 0).trans rfl,((HK.o.below h HK.o.lt).cell 1).trans rfl,((HK.o.below h HK.o.lt).cell 2).trans rfl,(HK.o.below h HK.o.lt).lt⟩)
 clear hV hwd hi hb;have hval:U.valid s=true:=by unfold U.valid;rw [hx];rfl
 have gY:=bx (λW (h:Below w.heap.size w W) (lv:Value) (hl:dI W lv [s])=>Zt A B _ lv c [s] W (tH.o W h) hs hc hl (by simp) (λq hq=>by rw [List.mem_singleton.1 hq];exact⟨hval,by omega⟩) (hE.below (h.mono hB)) (Nat.le_trans hB h.size));have gB:=bx (λrg km iH iJ (W0 W:World) (h0:Below w.heap.size w W0) (he:(.agg #[iv,bv, .bool wd]:Value) = .agg #[iH,iJ, .bool c.wide]) (h:Sep (qM rg km iH iJ c [Pc.old W0.heap.size W0]) W)=>aaH rg km iH iJ c [Pc.old W0.heap.size W0] (bs s) xs W hs hti (by rw [qP];exact hx) (by rw [eU];exact hz) (λW' h'=>by
  have hb':=h'.bel (n:=W0.heap.size) (W0:=W0) (by simp);obtain⟨i',b',e1,e2,e3⟩:=tH.o W' (h0.trans (hb'.mono h0.size));rw [he] at e1;injection e1 with e1;simp only [Array.mk.injEq,List.cons.injEq,and_true] at e1;obtain⟨rfl,rfl,-⟩:=e1;exact⟨e2,e3⟩) h)
 generalize C.fZ c xs=res at gB ⊢;rw [<- qR.o];obtain⟨k0,k1,k2,kk⟩:=ay.o V (Below.refl _ _);clear hs hc hx hE hB hval hti
 go_enter Tryz.func126,Tryz.ntmps126
 go_upto_region 1 with(fail)
 rw [<- HV.o];have aG:=bx (HB0.o.trans ((aO V (.cells #[.string (bs s)] 9)).mono HB0.o.size));have Du:=bx (show dI (V.alloc (.cells #[.string (bs s)] 9)) (.slice (some ⟨V.heap.size,0,none⟩) 1 1) [s] from ig.Uu (xs:=[s].map jK) (aj.new V 9 #[.string (bs s)]) (by simp));have Eb:=bx (gY.o _ aG.o _ Du.o);go_wp2_with fail;refine Eb.o.mono ?_;rintro e w1 ⟨iH,iJ,rg,km,he,rfl,hs1⟩;have jQ:=bx (gB.o rg km iH iJ _ w1 aG.o he hs1);have HB1:=bx (aG.o.trans ((hs1.bel (n:=(V.alloc (.cells #[.string (bs s)] 9)).heap.size) (W0:=V.alloc (.cells #[.string (bs s)] 9)) (by simp [qM])).mono aG.o.size));have HKF:=bx (show (V.alloc (.cells #[.string (bs s)] 9)).heap.size<=km from Nat.not_lt.1 (hs1.tail.apart (q:=Pc.old (V.alloc (.cells #[.string (bs s)] 9)).heap.size (V.alloc (.cells #[.string (bs s)] 9))) (by simp) (k:=km) rfl));clear hs1 he k0 k1 k2 kk;go_wp2_with fail;refine jQ.o.mono ?_;rintro e w2 ⟨rfl,ht2,-⟩;have HB2:=bx (HB1.o.trans (ht2.below HB1.o.size (λq hq=>by have h1:=HKF.o;have h2:=aG.o.size;omega)));clear ht2;go_wp2_with fail;go_ret2
 exact⟨rfl,HB2.o⟩
theorem abp (A:Nat->Addr) (B pg:Nat) (tn:Int) (pi pb rv nv fv sv ov:Value) (R:List D.Rule) (M:D.bH) (L:List Int) (w:World) (hb:aj w pg 150 #[.int .i64 tn,pi,pb,rv,nv,fv,sv,ov]) (hR:fA w rv R) (hf:∀ x∈R,nX x) (oI:R.length<=16777216) (hM:kQ w (.agg #[nv,fv]) M) (kF:oN M) (hL:aB w ov L) (hLz:L.length<=900) (hD:Ed A B w) (hG:Eg A B w) (hB:B<=w.heap.size) (hyes:jd R M tn=true) :
  Calls Tryz.prog 92 #[.pointer (some ⟨pg,0,none⟩)] w λe w'=>(∃ v,e = .returned v/\aB w' v (pz R M tn.toNat L)/\∀ g,v.ownBlock=some g->w.heap.size<=g)/\Below w.heap.size w w':=by
 have ay:=bx (λW (h:Below w.heap.size w W)=>show W.cell? ⟨pg,0,none⟩=some (.int .i64 tn)/\W.cell? ⟨pg,3,none⟩=some rv/\W.cell? ⟨pg,4,none⟩=some nv/\W.cell? ⟨pg,5,none⟩=some fv/\W.cell? ⟨pg,7,none⟩=some ov/\pg<W.heap.size from
  ⟨((hb.below h hb.lt).cell 0).trans rfl,((hb.below h hb.lt).cell 3).trans rfl,((hb.below h hb.lt).cell 4).trans rfl,((hb.below h hb.lt).cell 5).trans rfl,((hb.below h hb.lt).cell 7).trans rfl,(hb.below h hb.lt).lt⟩)
 have lH:=bx (λW (h:Below w.heap.size w W)=>ab2 A B rv R (.agg #[nv,fv]) M tn ov L W (hR.below h) hf oI (hM.below h) kF (hL.below h) hLz (hD.below (h.mono hB)) (hG.below (h.mono hB)) (Nat.le_trans hB h.size) hyes);clear hb hR hf oI hM kF hL hLz hD hG hB hyes
 go_enter Tryz.func92,Tryz.ntmps92
 go_wp2_with fail;have aF:=bx (show Below w.heap.size w w.drew from iD w 1);have au:=bx (ay.o w.drew aF.o);refine fP 24 (λW'=>W'.cell? ⟨pg,0,none⟩=some (.int .i64 tn)/\W'.cell? ⟨pg,3,none⟩=some rv/\W'.cell? ⟨pg,4,none⟩=some nv/\W'.cell? ⟨pg,5,none⟩=some fv/\W'.cell? ⟨pg,7,none⟩=some ov/\pg<W'.heap.size) (by kernel_rfl) ?_;generalize w.drew=WR at aF au ⊢;refine kS 0 ?_ rfl au.o ?_ ?_;rotate_left
 ·rintro w ⟨q1,q2,q3,q4,q5,q6⟩;go_simp;try with_reducible rfl
 refine kS 1 ?_ rfl au.o ?_ ?_;rotate_left
 ·rintro w ⟨q1,q2,q3,q4,q5,q6⟩;go_simp;try with_reducible rfl
 refine kS 2 ?_ rfl au.o ?_ ?_;rotate_left
 ·rintro w ⟨q1,q2,q3,q4,q5,q6⟩;go_simp;try with_reducible rfl
 refine kS 3 ?_ rfl au.o ?_ ?_;rotate_left
 ·rintro w ⟨q1,q2,q3,q4,q5,q6⟩;go_simp;try with_reducible rfl
 refine kS 4 ?_ rfl au.o ?_ ?_;rotate_left
 ·rintro w ⟨q1,q2,q3,q4,q5,q6⟩;go_simp;try with_reducible rfl
 refine kS 5 ?_ rfl au.o ?_ ?_;rotate_left
 ·rintro w ⟨q1,q2,q3,q4,q5,q6⟩;go_simp;try with_reducible rfl
 refine kS 6 ?_ rfl au.o ?_ ?_;rotate_left
 ·rintro w ⟨q1,q2,q3,q4,q5,q6⟩;go_simp;try with_reducible rfl
 refine kS 7 ?_ rfl au.o ?_ ?_;rotate_left
 ·rintro w ⟨q1,q2,q3,q4,q5,q6⟩;go_simp;try with_reducible rfl
 refine kS 8 ?_ rfl au.o ?_ ?_;rotate_left
 ·rintro w ⟨q1,q2,q3,q4,q5,q6⟩;go_simp;try with_reducible rfl
 refine kS 9 ?_ rfl au.o ?_ ?_;rotate_left
 ·rintro w ⟨q1,q2,q3,q4,q5,q6⟩;go_simp;try with_reducible rfl
 refine kS 10 ?_ rfl au.o ?_ ?_;rotate_left
 ·rintro w ⟨q1,q2,q3,q4,q5,q6⟩;go_simp;try with_reducible rfl
 refine kS 11 ?_ rfl au.o ?_ ?_;rotate_left
 ·rintro w ⟨q1,q2,q3,q4,q5,q6⟩;go_simp;try with_reducible rfl
 refine kS 12 ?_ rfl au.o ?_ ?_;rotate_left
 ·rintro w ⟨q1,q2,q3,q4,q5,q6⟩;go_simp;try with_reducible rfl
 refine kS 13 ?_ rfl au.o ?_ ?_;rotate_left
 ·rintro w ⟨q1,q2,q3,q4,q5,q6⟩;go_simp;try with_reducible rfl
 refine kS 14 ?_ rfl au.o ?_ ?_;rotate_left
 ·rintro w ⟨q1,q2,q3,q4,q5,q6⟩;go_simp;try with_reducible rfl
 refine kS 15 ?_ rfl au.o ?_ ?_;rotate_left
 ·rintro w ⟨q1,q2,q3,q4,q5,q6⟩;go_simp;try with_reducible rfl
 refine kS 16 ?_ rfl au.o ?_ ?_;rotate_left
 ·rintro w ⟨q1,q2,q3,q4,q5,q6⟩;go_simp;try with_reducible rfl
 refine kS 17 ?_ rfl au.o ?_ ?_;rotate_left
 ·rintro w ⟨q1,q2,q3,q4,q5,q6⟩;go_simp;try with_reducible rfl
 refine kS 18 ?_ rfl au.o ?_ ?_;rotate_left
 ·rintro w ⟨q1,q2,q3,q4,q5,q6⟩;go_simp;try with_reducible rfl
 refine kP 19 rfl λKK ah=>?_
 go_simp;refine(lH.o WR aF.o).mono ?_;rintro e w6 ⟨⟨v6,rfl,hv6,hf6⟩,hb6⟩;have HFR:=bx (λg hg=>Nat.le_trans aF.o.size (hf6 g hg));have pO:=bx hv6;have dO:=bx (bt aF.o hb6);have HF6:=bx (ay.o w6 dO.o);clear hv6 hb6 hf6;refine ah.out _ _ (λ_=>HF6.o) ?_;clear ah KK;refine kP 20 rfl λKK ah=>?_
 go_simp;refine ah.out _ _ (λ_=>HF6.o) ?_;clear ah KK;refine kS 21 ?_ rfl HF6.o ?_ ?_;rotate_left
 ·rintro w ⟨q1,q2,q3,q4,q5,q6⟩;go_simp;try with_reducible rfl
 refine kS 22 ?_ rfl HF6.o ?_ ?_;rotate_left
 ·rintro w ⟨q1,q2,q3,q4,q5,q6⟩;go_simp;try with_reducible rfl
 refine kP 23 rfl λKK ah=>?_
 go_simp;refine ah.out _ _ (λ_=>HF6.o) ?_;clear ah KK;refine kP 24 rfl λKK ah=>?_
 go_simp;refine ah.out _ _ (λh=>by cases h) ?_;clear ah KK;refine kD ?_ _;go_wp2_with fail;go_ret
 exact⟨⟨_,rfl,pO.o,HFR.o⟩,dO.o⟩
end
section
namespace C
def items (xs:List Int) (ns:List Nat):List (Nat×List UInt8):=(List.range (ns.length-1)).map λi=>(dA xs (ns.getD i 0),piece xs ns i)
theorem zf (xs:List Int) (ns:List Nat):(items xs ns).length=ns.length-1:=by unfold items;rw [List.length_map,List.length_range]
theorem RF (xs:List Int) (ns:List Nat) {i:Nat} (h:i+1<ns.length):(items xs ns)[i]?=some (dA xs (ns.getD i 0),piece xs ns i):=by
 unfold items;rw [List.getElem?_map,List.getElem?_range (by omega)]
 rfl
theorem aiq (xs:List Int) (ns:List Nat) {i:Nat} (h:i+1<ns.length):items xs ns=(items xs ns).take i++(dA xs (ns.getD i 0),piece xs ns i)::(items xs ns).drop (i+1):=by
 have hl:i<(items xs ns).length:=by rw [zf];omega
 have e:=List.drop_eq_getElem_cons (l:=items xs ns) (i:=i) hl;have e2:=RF xs ns h;rw [List.getElem?_eq_getElem hl] at e2;injection e2 with e2;rw [e2] at e;rw [<- e];exact(List.take_append_drop i _).symm
theorem amr (xs:List Int) (ns:List Nat) {i:Nat} (h:i+1<ns.length):(items xs ns).take (i+1)=(items xs ns).take i++[(dA xs (ns.getD i 0),piece xs ns i)]:=by
 rw [List.take_add_one,RF xs ns h]
 rfl
end C
open Go.RowKit
attribute [local go_sem] Oper.semAt_some
theorem aao (p:Option Addr) (w:World) :
  Calls Tryz.prog 49 #[.pointer p] w λe w'=>e = .returned (.func (.func 91) #[] #[.pointer (some ⟨w.heap.size,0,none⟩)])/\w.alloc (.cells #[.pointer p] 86)=w':=by
 go_enter Tryz.func49,Tryz.ntmps49
 go_wp2
 go_ret
 exact⟨rfl,rfl⟩
theorem ZC (n:Nat) (A:Nat->Addr) (B ob m Ea pg:Nat) (c0 c1 c2 c3 c4 c5 c7:Value) (fx:List UInt8) (xs:List Int) (ns:List Nat) (l:Nat) (W1:World)
  (hm:m<=W1.heap.size) (hBo:B<=ob) (hom:ob<m) (hE:E A B W1) (hpx:aj W1 Ea 86 #[.pointer (some ⟨pg,0,none⟩)]) (hpg:aj W1 pg 150 #[c0,c1,c2,c3,c4,c5, .string (bs fx),c7])
  (hpm:Ea<m/\pg<m/\Ea≠ob/\pg≠ob)
  (hcut:Calls Tryz.prog 92 #[.pointer (some ⟨pg,0,none⟩)] W1 λe w'=>(∃ v,e = .returned v/\aB w' v (ns.map λn:Nat=>(n:Int))/\∀ g,v.ownBlock=some g->W1.heap.size<=g)/\Below W1.heap.size W1 w')
  (hfx:fx=U.textOf xs) (hxr:∀ x∈xs,U.right x=true) (hr:tJ xs.length ns) (hz:fx.length<=8000) :
  Sl (n+1) Tryz.prog 91 #[.pointer (some ⟨Ea,0,none⟩)] (λx:Nat×List UInt8=>#[.int .i64 (x.1:Int), .string (bs x.2)]) (λ_=>False) (λk=>k<m/\k≠ob)
   (λpre x _=>∃ rest,C.items xs ns=pre++x::rest) (λys _=>ys=C.items xs ns) l W1:=by
 intro J Jx hJ hJx hY h0;have HY:=bx hY;have H0:=bx h0;have HJ:=bx hJ;have AA:=bx hfx;have wS:=bx hxr;have eH:=bx hr;have UK:=bx (λ(s:ByteArray) W (hs:s.size<=maxLen) (hE:E A B W) (hB:B<=W.heap.size)=>(callsIn_wide (n:=n)).2 (O4 A B s W hs hE hB));obtain⟨Q,hQ⟩:∃ Q,ns.length=Q:=⟨_,rfl⟩
 have HQ:=bx hQ;have PW:0<Q:=by rw [<- hQ];exact hr.ne
 have hxl:xs.length<=8000:=by have:=JU xs;rw [<- hfx] at this;omega
 have pG:Q<=8001:=by have:=hr.len;omega
 have gq:=bx (show ∀ k,C.dA xs k<=fx.length from λk=>by rw [hfx];exact C.abU xs k);have HEW:=bx hE;have HPX:=bx hpx;have HPG:=bx hpg;have O0:=bx hpm;have HC:=bx ((callsIn_wide (n:=n)).2 hcut);have p0:W1.cell? ⟨Ea,0,none⟩=some (.pointer (some ⟨pg,0,none⟩)):=(hpx.cell 0).trans rfl;have p6:W1.cell? ⟨pg,6,none⟩=some (.string (bs fx)):=(hpg.cell 6).trans rfl;clear hY h0 hJ hJx hfx hxr hr hQ hE hpx hpg hpm hcut;refine callsIn_of_wp Tryz.func91 rfl trivial ?_;simp only [Tryz.ntmps91,List.size_toArray,List.length_cons,List.length_nil,Nat.reduceAdd,Nat.reduceSub,Array.replicate_succ,Array.replicate_zero,List.push_toArray,List.append_toArray,List.nil_append,List.cons_append]
 gi_wp2
 refine wpIn_wide.2 (wp_scope_straight ((wpIn_wide (n:=n+1)).1 ?_))
 gi_wp2
 refine⟨trivial,HC.o.mono ?_⟩;rintro e w1 ⟨⟨v1,rfl,hv1,hfr⟩,hb1⟩;obtain⟨cg,dK,rY,hcv,e2,e3,e4,e5⟩:=hv1.get (by intro h;have:=congrArg List.length h;rw [List.length_map,HQ.o] at this;simp at this;omega);subst hcv;rw [List.length_map,HQ.o] at e2 ⊢;have HE5:=bx e5;have acR:W1.heap.size<=cg:=hfr cg rfl;have EN:=bx (show cg<w1.heap.size/\W1.heap.size<=cg from⟨e4,acR⟩);have HB1:=bx hb1;have lq:=bx (HEW.o.below (hb1.mono (by omega)));have oG:=bx (HPX.o.below hb1 HPX.o.lt);have lG:=bx (HPG.o.below hb1 HPG.o.lt);have Np:=bx (HJ.o w1.heap.size [] W1 w1 (H0.o w1.heap.size hb1.size) (Turns.of_below hb1));have hws:=hb1.size;unfold maxLen at e3;clear hv1 e5 hb1 acR hfr p0 p6
 by_cases hc1:rY=1
 ·subst hc1;obtain rfl:Q=1:=by omega
  have mF:=bx (show C.items xs ns=[] by
   have h:=C.zf xs ns;rw [HQ.o] at h;exact List.eq_nil_of_length_eq_zero h)
  gi_wp2
  refine wpIn_label ?_
  gi_wp2
  gi_loopw [19] (λiv wr=>iv = .int .i64 0/\wr=w1) (λ_ _=>0)
  case atStart=>exact⟨rfl,rfl⟩
  case round =>
   obtain⟨rfl,rfl⟩:=hrel
   gi_wp2
   rw [Exit.noGoto_normal]
   go_end0
   exact⟨⟨_,rfl⟩, .inl ⟨_,_,mF.o.symm,Np.o⟩⟩
 gi_wp2
 refine wpIn_label ?_
 gi_wp2
 gi_loopw [3,19] (λrv iv wr=>∃ k:Nat,k+1<=Q/\rv = .string (bs (fx.drop (C.dA xs (ns.getD k 0))))/\iv = .int .i64 k/\Box (w1.heap.size<=wr.heap.size)/\Box (E A B wr)/\Box (aj wr Ea 86 #[.pointer (some ⟨pg,0,none⟩)])/\Box (aj wr pg 150 #[c0,c1,c2,c3,c4,c5, .string (bs fx),c7]) /\
  Box (∀ (i:Nat) (x:Int),(ns.map λn:Nat=>(n:Int))[i]?=some x->wr.cell? ⟨cg,dK+i,none⟩=some (.int .i64 x))/\Box (J w1.heap.size ((C.items xs ns).take k) wr)) (λ_ iv _=>Q-(intOf iv).toNat)
 case atStart=>exact⟨0,PW,by rw [eH.o.first,C.QO,List.drop_zero],rfl,⟨Nat.le_refl _⟩,lq,oG,lG,HE5,by rw [List.take_zero];exact Np⟩
 case round =>
  obtain⟨k,hk,rfl,rfl,hsz,hEr,hpr,hgr,hcr,hj⟩:=hrel;obtain⟨WO,rfl⟩:∃ W,W=wr:=⟨_,rfl⟩
  by_cases hlt:k+1<Q
  ·obtain⟨a,ha⟩:∃ a,ns[k]?=some a:=⟨_,List.getElem?_eq_getElem (by rw [HQ.o];omega)⟩
   obtain⟨b,hb⟩:∃ b,ns[k+1]?=some b:=⟨_,List.getElem?_eq_getElem (by rw [HQ.o];omega)⟩
   have hga:ns.getD k 0=a:=by rw [List.getD_eq_getElem?_getD,ha,Option.getD_some]
   have hgb:ns.getD (k+1) 0=b:=by rw [List.getD_eq_getElem?_getD,hb,Option.getD_some]
   have hab:a<b:=by have:=eH.o.up k (by rw [HQ.o];exact hlt);rw [hga,hgb] at this;exact this
   have hbN:b<=xs.length:=by have:=eH.o.le (k+1) (by rw [HQ.o];exact hlt);rw [hgb] at this;exact this
   have HIS:=bx (C.aiq xs ns (i:=k) (by rw [HQ.o];exact hlt));have HIT:=bx (C.amr xs ns (i:=k) (by rw [HQ.o];exact hlt));have LZ:=bx (show C.piece xs ns k=(fx.drop (C.dA xs a)).take (C.dA xs b-C.dA xs a) by
    unfold C.piece;rw [hga,hgb,AA.o,C.ab6 xs (Nat.le_of_lt hab)])
   rw [hga] at HIS HIT ⊢;have LD:=bx hgb;have ca1:=hcr.o k (a:Int) (by rw [List.getElem?_map,ha];rfl);have cb1:=hcr.o (k+1) (b:Int) (by rw [List.getElem?_map,hb];rfl);have cu:=bx (λW (h:Below WO.heap.size WO W)=>show W.cell? ⟨cg,dK+k,none⟩=some (.int .i64 (a:Nat))/\W.cell? ⟨cg,dK+(k+1),none⟩=some (.int .i64 (b:Nat)) from⟨(h.cell (p:=⟨cg,dK+k,none⟩) (Nat.lt_of_lt_of_le EN.o.1 hsz.o)).trans ca1,(h.cell (p:=⟨cg,dK+(k+1),none⟩) (Nat.lt_of_lt_of_le EN.o.1 hsz.o)).trans cb1⟩);have hcl:cg<WO.heap.size:=Nat.lt_of_lt_of_le EN.o.1 hsz.o;have e20:decide (k<Q-1)=true:=decide_eq_true (by omega);have e21:decide ((k:Int)<((Q-1:Nat):Int))=true:=decide_eq_true (by omega);have EG:(k:Int)<(Q:Int):=by omega
   have UM:(k:Int)+1<(Q:Int):=by omega
   have hk1:IntKind.i64.wrap ((k:Int)+1)=(k:Int)+1:=by rw [IntKind.wrap_i64];omega
   have hk2:(0:Int)<=(k:Int)+1:=by omega
   have hk3:((k:Int)+1).toNat=k+1:=by omega
   clear ha hb hga hgb
   gi_wp2
   refine wpIn_wide.2 ?_
   go_quiet (fail)
   have aF:=bx (jW WO nq);generalize WO.drewN nq=WR at aF ⊢;clear ca1 cb1;clear hk1 hk2 hk3;obtain⟨A0,hA0⟩:∃ A0,A0=C.dA xs a:=⟨_,rfl⟩
   obtain⟨B0,hB0⟩:∃ B0,B0=C.dA xs b:=⟨_,rfl⟩
   rw [<- hA0,<- hB0] at LZ;rw [<- hA0] at HIS HIT ⊢;have RI:=bx hA0;have HB0:=bx hB0;obtain⟨R,hR⟩:∃ R,R=fx.drop A0:=⟨_,rfl⟩
   have HR:=bx hR;rw [<- hR] at LZ ⊢;have hmn:=C.Xp xs (Nat.le_of_lt hab);rw [<- hA0,<- hB0] at hmn;have hfl:=gq.o b;rw [<- hB0] at hfl;have BA:=bx (show R.length=fx.length-A0 by rw [hR,List.length_drop]);have Ot:=bx (show ∀ q,a+q<=b->C.dA xs (a+q)-A0<=B0-A0/\A0<=C.dA xs (a+q) from λq hq=>by
    have h1:=C.Xp xs hq;have h2:=C.Xp xs (Nat.le_add_right a q);rw [<- RI.o] at h2;rw [<- HB0.o] at h1;omega)
   have Xk:=bx hmn;have oI:R.length<=8000:=by rw [BA.o];omega
   have Q7:B0-A0<=R.length:=by rw [BA.o];omega
   obtain⟨D,hD⟩:∃ D,b=a+D:=Nat.exists_eq_add_of_le (Nat.le_of_lt hab);have Xu:(b:Int)-(a:Int)=(D:Int):=by omega
   have aoq:D<=8000:=by omega
   have KP:=bx hD;have HER:=bx (hEr.o.below (aF.o.mono (by have:=hsz.o;omega)));have HDE:=bx (show ∀ q,q<D->∃ d:Nat,iY (R.drop (C.dA xs (a+q)-A0)) = .tuple #[.int .i64 (xs.getD (a+q) 0), .int .i64 (d:Int), .bool true]/\C.dA xs (a+(q+1))-A0=(C.dA xs (a+q)-A0)+d from λq hq=>by
    have hk:a+q<xs.length:=by have:=KP.o;omega
    have h1:=C.aj2 xs wS.o hk;have h2:=Ot.o q (by have:=KP.o;omega);have h4:=C.alM xs hk;refine⟨(U.enc (xs.getD (a+q) 0)).length,?_,by rw [show a+(q+1)=a+q+1 by omega];omega⟩;rw [HR.o,List.drop_drop,show A0+(C.dA xs (a+q)-A0)=C.dA xs (a+q) by omega,AA.o];unfold iY;rw [h1]
    rfl)
   rw [Xu];clear hA0 hB0 hR hmn hfl Xu hD
   gi_wp2
   gi_loopw [6,32] (λnv jv wx=>∃ q:Nat,q<=D/\nv = .int .i64 ((C.dA xs (a+q)-A0:Nat):Int)/\jv = .int .i64 q/\Box (Below WR.heap.size WR wx)) (λ_ jv _=>(D)-(intOf jv).toNat)
   case atStart=>exact⟨0,Nat.zero_le _,by rw [Nat.add_zero,<- RI.o,Nat.sub_self];rfl,rfl,⟨Below.refl _ _⟩⟩
   case round =>
    obtain⟨q,hq,rfl,rfl,hbx⟩:=hrel
    by_cases tY:q<D
    ·obtain⟨d,hdv,hd⟩:=HDE.o q tY;have hn1:=(Ot.o q (by have:=KP.o;omega)).1;have hn2:=(Ot.o (q+1) (by have:=KP.o;omega)).1;have HD2:=bx hd;obtain⟨nq,hnq⟩:∃ nq,nq=C.dA xs (a+q)-A0:=⟨_,rfl⟩
     rw [<- hnq] at hdv hd hn1 ⊢;have kR:=bx hdv;have hsl:=Md (P:=Tryz.prog) (T:=9) Tryz.underlying9 R nq nq rfl (by omega);have HEX:=bx (UK.o (bs (R.drop nq)) wr (by rw [eU,List.length_drop];unfold maxLen;omega) (HER.o.below (hbx.o.mono (by have:=aF.o.size;have:=hsz.o;omega))) (by have:=hbx.o.size;have:=aF.o.size;have:=hsz.o;omega));have hds:nq+d<=8000:=by rw [<- hd];omega
     have HD2:=bx hd;clear hdv hd hn1 hn2 hnq
     gi_wp2
     refine⟨trivial,HEX.o.mono ?_⟩;rintro e w5 ⟨rfl,hb5⟩;rw [qP,kR.o];have aK:=bx (bt hbx.o hb5);clear hb5 hsl
     gi_wp2
     go_roundw
     case rel=>exact⟨q+1,by omega,kG (by have:=HD2.o;omega),by go_num,aK⟩
     case measure=>simp [intOf];omega
    ·obtain rfl:q=D:=by omega
     have hpl:C.dA xs (a+q)-A0=B0-A0:=by rw [<- KP.o,<- HB0.o]
     rw [hpl];obtain⟨PL,QD⟩:∃ PL,PL=B0-A0:=⟨_,rfl⟩
     have eY:=bx QD;rw [<- QD] at LZ Q7 ⊢;obtain⟨X,hX⟩:∃ X,X=R.take PL:=⟨_,rfl⟩
     have hup:=DN (P:=Tryz.prog) (T:=9) Tryz.underlying9 R PL PL rfl Q7;rw [<- hX] at LZ hup;rw [LZ.o] at HIS HIT;have Zh:=bx (bt aF.o hbx.o);clear hpl QD hX
     gi_wp2
     refine wpIn_region_any (by kernel_rfl) ?_;show wpAnyIn _ _ _ _ _ _ _ _ _ wr.drew
     have iG:=bx (show Below WO.heap.size WO wr.drew from Zh.o.trans ((iD wr 1).mono Zh.o.size));have CU:=bx (hpr.o.below iG.o hpr.o.lt);have Lh:=bx (hgr.o.below iG.o hgr.o.lt);have p0:wr.drew.cell? ⟨Ea,0,none⟩=some (.pointer (some ⟨pg,0,none⟩)):=(CU.o.cell 0).trans rfl;have p6:wr.drew.cell? ⟨pg,6,none⟩=some (.string (bs fx)):=(Lh.o.cell 6).trans rfl;generalize wr.drew=WD at iG CU Lh p0 p6 ⊢;have z1:(bs fx).size=fx.length:=eU fx;have z2:(bs R).size=R.length:=eU R;have z3:=BA.o;have z4:=gq.o b;have z5:A0<=fx.length:=by have:=Ot.o 0 (by omega);have:=gq.o a;rw [<- RI.o] at this;exact this
     have aja:fx.length<=8000:=hz;refine wpAnyIn_take (i:=0) (v:=.func (.yield l) #[] #[]) rfl rfl (by kernel_rfl) (by kernel_rfl) (by kernel_rfl) (λ_ _ _ h=>h) ⟨Or.inl ⟨by kernel_rfl,?_⟩,λ_=>rfl⟩ ?_
     ·intro w;rfl
     refine wpAnyIn_take (i:=6) (v:=.string (bs R)) rfl rfl (by kernel_rfl) (by kernel_rfl) (by kernel_rfl) (λ_ _ _ h=>h) ⟨Or.inl ⟨by kernel_rfl,?_⟩,λ_=>rfl⟩ ?_
     ·intro w;rfl
     refine wpAnyIn_take (i:=7) (v:=.int .i64 ((bs R).size:Int)) rfl rfl (by kernel_rfl) (by kernel_rfl) (by kernel_rfl) (λ_ _ _ h=>h) ⟨Or.inl ⟨by kernel_rfl,?_⟩,λ_=>rfl⟩ ?_
     ·intro w;go_simp
     refine wpAnyIn_take (i:=9) (v:=.string (bs R)) rfl rfl (by kernel_rfl) (by kernel_rfl) (by kernel_rfl) (λ_ _ _ h=>h) ⟨Or.inl ⟨by kernel_rfl,?_⟩,λ_=>rfl⟩ ?_
     ·intro w;rfl
     refine wpAnyIn_take (i:=10) (v:=.int .i64 (PL:Nat)) rfl rfl (by kernel_rfl) (by kernel_rfl) (by kernel_rfl) (λ_ _ _ h=>h) ⟨Or.inl ⟨by kernel_rfl,?_⟩,λ_=>rfl⟩ ?_
     ·intro w;rfl
     refine wpAnyIn_take (i:=11) (v:=.string (bs X)) rfl rfl (by kernel_rfl) (by kernel_rfl) (by kernel_rfl) (λ_ _ _ h=>h) ⟨Or.inl ⟨by kernel_rfl,?_⟩,λ_=>rfl⟩ ?_
     ·intro w;have q1:=hup w;go_simp
     refine wpAnyIn_ready (rs:=[1]) (by kernel_rfl) (by simp) (AllReadyIn.cons rfl (λKK hK=>?_) AllReadyIn.nil);have ah:=bx hK;clear hK;go_simp;refine ah.o _ _ ?_;clear ah KK;refine wpAnyIn_ready (rs:=[2]) (by kernel_rfl) (by simp) (AllReadyIn.cons rfl (λKK hK=>?_) AllReadyIn.nil);have ah:=bx hK;clear hK;go_simp;refine ah.o _ _ ?_;clear ah KK;refine wpAnyIn_ready (rs:=[3]) (by kernel_rfl) (by simp) (AllReadyIn.cons rfl (λKK hK=>?_) AllReadyIn.nil);have ah:=bx hK;clear hK;go_simp;refine ah.o _ _ ?_;clear ah KK;refine wpAnyIn_ready (rs:=[4]) (by kernel_rfl) (by simp) (AllReadyIn.cons rfl (λKK hK=>?_) AllReadyIn.nil);have ah:=bx hK;clear hK;go_simp;refine ah.o _ _ ?_;clear ah KK;refine wpAnyIn_ready (rs:=[5]) (by kernel_rfl) (by simp) (AllReadyIn.cons rfl (λKK hK=>?_) AllReadyIn.nil);have ah:=bx hK;clear hK;go_simp;refine ah.o _ _ ?_;clear ah KK;refine wpAnyIn_ready (rs:=[8]) (by kernel_rfl) (by simp) (AllReadyIn.cons rfl (λKK hK=>?_) AllReadyIn.nil);have ah:=bx hK;clear hK;go_simp;refine ah.o _ _ ?_;clear ah KK;have e54:IntKind.i64.wrap ((fx.length:Int)-((fx.length-A0:Nat):Int))=(A0:Int):=by rw [IntKind.wrap_i64];omega
     rw [e54];have hy0:=HY.o w1.heap.size _ (A0,X) WO WD hws (Nat.le_trans hsz.o iG.o.size) hj.o (Turns.of_below iG.o) ⟨_,HIS.o⟩;obtain⟨fn,tmps,assign,body,hy,mX⟩:=hy0;have sF:=bx mX;clear mX p0 p6 z1 z2 z3 z4 z5 aja e54;refine wpAnyIn_ready (rs:=[12]) (by kernel_rfl) (by simp) (AllReadyIn.cons rfl (λKK hK=>?_) AllReadyIn.nil);have ah:=bx hK;clear hK;go_simp;refine sF.o.mono ?_;rintro e W3 (⟨rfl,hj3,ht3⟩ | ⟨rfl,hx3⟩)
     ·have uY:=bx hj3;have hwd:=iG.o.size;have hso:=hsz.o;have HB3:=bx (show Below B WD W3 from ht3.below (by omega) (λq hq=>Nat.le_of_not_lt (λhlt=>hq (.inl ⟨by omega,by omega⟩))));have MI:=bx (show E A B W3 from(hEr.o.below (iG.o.mono (by omega))).below HB3.o);have VD:=bx (ht3.blk CU.o (λhn=>hn (.inl ⟨O0.o.1,O0.o.2.2.1⟩)));have mZ:=bx (ht3.blk Lh.o (λhn=>hn (.inl ⟨O0.o.2.1,O0.o.2.2.2⟩)));have dN:=bx (show ∀ (i:Nat) (x:Int),(ns.map λn:Nat=>(n:Int))[i]?=some x->W3.cell? ⟨cg,dK+i,none⟩=some (.int .i64 x) from λi x hx =>
       (World.cell?_of_block (ht3.block cg (by have:=EN.o.1;omega) (λhn=>hn (.inr (.inl ⟨EN.o.2,EN.o.1⟩))))).trans ((iG.o.cell (p:=⟨cg,dK+i,none⟩) (by have:=EN.o.1;omega)).trans (hcr.o i x hx)))
      have aC:=bx (show w1.heap.size<=W3.heap.size from Nat.le_trans (Nat.le_trans hso hwd) ht3.size);have hdr:=Md (P:=Tryz.prog) (T:=9) Tryz.underlying9 R PL PL rfl Q7;have HRN:=bx (show R.drop PL=fx.drop (C.dA xs (ns.getD (k+1) 0)) by rw [HR.o,List.drop_drop,LD.o,<- HB0.o,eY.o];congr 1;have:=Xk.o;omega);clear hj3 ht3 hy hwd hso hup;refine ah.o _ _ ?_;clear ah KK;refine wpAnyIn_ready (rs:=[13]) (by kernel_rfl) (by simp) (AllReadyIn.cons rfl (λKK hK=>?_) AllReadyIn.nil);have ah:=bx hK;clear hK;go_simp;refine ah.o _ _ ?_;clear ah KK;refine wpAnyIn_done (by kernel_rfl) ?_ _
      gi_wp2
      go_roundw
      case rel=>exact⟨k+1,by omega,by rw [HRN.o],by go_num,aC,MI,VD,mZ,dN,by rw [HIT.o];exact uY⟩
      case measure=>simp [intOf];omega
     ·have nS:=bx hx3;clear hx3 hy hup;refine ah.o _ _ ?_;clear ah KK;refine wpAnyIn_ready (rs:=[13]) (by kernel_rfl) (by simp) (AllReadyIn.cons rfl (λKK hK=>?_) AllReadyIn.nil);have ah:=bx hK;clear hK;go_simp;refine ah.o _ _ ?_;clear ah KK;refine wpAnyIn_done (by kernel_rfl) ?_ _
      gi_wp2
      rw [Exit.noGoto_normal]
      go_end0
      exact⟨⟨_,rfl⟩, .inr ⟨_,_,nS.o⟩⟩
  ·obtain rfl:k+1=Q:=by omega
   have mF:=bx (show (C.items xs ns).take k=C.items xs ns from List.take_of_length_le (by rw [C.zf,HQ.o];omega));rw [mF.o] at hj;have e20:decide (k<k+1-1)=false:=decide_eq_false (by omega);have e21:decide ((k:Int)<((k+1-1:Nat):Int))=false:=decide_eq_false (by omega)
   gi_wp2
   rw [Exit.noGoto_normal]
   go_end0
   exact⟨⟨_,rfl⟩, .inl ⟨_,_,rfl,hj.o⟩⟩
end
section
open Go.RowKit Go.Shelf
attribute [local go_sem] Oper.semAt_some
theorem P8 {P:Program} {F:Fence} {nF:Nat} {ops:Array Oper} {rest:List Oper} {o:Oper} {a:Act} {Q:Exit->Act->World->Prop} {w0:World} (hgd:o.guard=none) (s x:Operand) (t:TypeId)
  (ho:o.op = .call { callee:=.builtin .append,args:=#[s,x],argTypes:=#[t,t] }) {base:Nat} {e te:TypeId} {bytes:Nat} (hP:Pushes P t e bytes) {ps:List Pc} (hS:Sep ps w0) (k:Nat) {v u:Value} {n:Nat} {xs:List Value}
  (hk:ps[k]?=some (Pc.row base e 1 v n xs)) (hs:a.eval s=v) (hx:a.eval x = .slice (some ⟨w0.heap.size,0,none⟩) 1 1) (h1:u.oneCell'=true) (hn:n<=1000000000) (hby:bytes<=1000) (hbase:base<=w0.heap.size)
  (h:∀ v' w',Sep (ps.set k (Pc.row base e 1 v' (n+1) (xs++[u]))) w'->(∃ g c,v' = .slice (some ⟨g,0,none⟩) (n+1) c/\n+1<=c/\c<=9223372036854775807)->Turns (λq=>v.ownBlock=some q) w0 w'->(v'.ownBlock=v.ownBlock\/v'.ownBlock=some (w0.heap.size+1))->wpListIn F nF P ops Q rest (a.put o.dst v') w') :
  wpListIn F nF P ops Q (o::rest) a (w0.alloc (.cells #[u] te)):=by
 obtain⟨i,z,ht,hi,hz0,hz1,hz2,hz3⟩:=hP.o;have hb:(n+1)*bytes<=1000000001*1000:=Nat.mul_le_mul (by omega) hby;refine wpListIn_append_own_at _ hgd s x t ho base e i z 1 bytes ht hi hz0 hz1 hz2 hz3 (by decide) v n xs hs ((hS.row k hk).alloc _) ⟨w0.heap.size,0,none⟩ 1 1 [u] hx rfl (cell_one_new _ _ _) (by simpa using h1) (by unfold maxLen;omega) (by omega) (by simp;omega) ?_;intro v' w' hown hgrow _ hat
 have hS':=(hS.alloc (.cells #[u] te)).grow k hk hgrow hown (by
  rcases hat with e1 | e1
  ·exact .inl e1
  ·exact .inr (λq hq=>by rw [e1] at hq;simp only [Option.some.injEq] at hq;omega))
 refine h v' w' hS' ?_ ((Turns.alloc w0 (.cells #[u] te)).trans (D6 hgrow (λ_ hq=>hq))) (by simpa using hat)
 rcases hown.2 with⟨_,h2⟩ | ⟨g,cap,cur,h2,_,_,h3,h4,_⟩
 ·omega
 ·exact⟨g,cap,h2,h3,by unfold maxLen at h4;omega⟩
def AV (ob:Nat) (W0:World) (v:Value) (l:List (List UInt8)):List Pc:=Pc.blk ob 48 #[v]::lD ob W0 v l
theorem PS {ob:Nat} {W0 W W':World} {v:Value} {l:List (List UInt8)} {own:Nat->Prop} (h:Sep (AV ob W0 v l) W) (ht:Turns own W W') (h1:¬ own ob) (h2:∀ g,v.ownBlock=some g->¬ own g) (h3:∀ k,k<ob->¬ own k):Sep (AV ob W0 v l) W':=h.keep ht (λp hp k hk=>by
 unfold AV lD at hp;simp only [List.mem_cons,List.mem_nil_iff,or_false] at hp
 rcases hp with rfl | rfl | rfl
 ·rw [show k=ob from hk];exact h1
 ·exact h2 k hk
 ·exact h3 k hk)
theorem Jt (A:Nat->Addr) (B:Nat) (v:Value) (t:Tab) (s:ByteArray) (w:World) (hv:TabAt w v t) (hs:dZ t) (hz:s.size<=800) (hE:E A B w) (hD:Ed A B w) (hG:Eg A B w) (hB:B<=w.heap.size) (he:textE t s.data.toList=0) :
  Calls Tryz.prog 19 #[v, .string s] w λe w'=>(∃ v',e = .returned (.tuple #[v', .int .i64 0])/\dI w' v' (C.cZ t s.data.toList)/\∀ g,v'.ownBlock=some g->w.heap.size<=g)/\Below w.heap.size w w':=by
 obtain⟨pi,pb,rv,nv,fv,rfl,h1,h2,h3,h4,h5⟩:=hv;obtain⟨V,hV⟩:∃ V,V=w.alloc (.cells #[.int .i64 t.n,pi,pb,rv,nv,fv] 31):=⟨_,rfl⟩
 have HB0:=bx (show Below w.heap.size w V by rw [hV];exact aO _ _);have HK:=bx (show aj V w.heap.size 31 #[.int .i64 t.n,pi,pb,rv,nv,fv] by rw [hV];exact aj.new _ _ _);have bD:=bx (λW (h:Below w.heap.size w W)=>show TabAt W (.agg #[.int .i64 t.n,pi,pb,rv,nv,fv]) t from⟨pi,pb,rv,nv,fv,rfl,h1.below h,h2.below h,h3.below h,h4.below h,h5.below h⟩);have ay:=bx (λW (h:Below V.heap.size V W)=>HK.o.c6 h);have HV:=bx hV;have wW:=bx hs;have kK:=bx (λW (h:Below w.heap.size w W)=>show E A B W/\Ed A B W/\Eg A B W/\B<=W.heap.size from⟨hE.below (h.mono hB),hD.below (h.mono hB),hG.below (h.mono hB),Nat.le_trans hB h.size⟩);have HO:=bx (Zj A B _ t s V (bD.o V HB0.o) hs (by omega) (kK.o V HB0.o).1 (kK.o V HB0.o).2.1 (kK.o V HB0.o).2.2.1 (kK.o V HB0.o).2.2.2 he);have xX:=bx (λW (h:Below w.heap.size w W)=>show fA W rv t.r/\kQ W (.agg #[nv,fv]) t.m from⟨h3.below h,nv,fv,rfl,h4.below h,h5.below h⟩);have HSL:=bx (show (dW t.p (aT s.data.toList)).length<=900 by unfold dW;rw [List.length_map];have:=lM s.data.toList;rw [<- size_eq] at this;omega);have xP:=bx (show jd t.r t.m t.n=true by
  have h:=(JA he).1;unfold jy at h;rw [Bool.and_eq_true] at h;exact h.1)
 have zQ:=bx (show pz t.r t.m t.n.toNat (dW t.p (aT s.data.toList))=(bK t s.data.toList).map (λn:Nat=>(n:Int)) from(iq t s.data.toList).1);have eH:=bx (iq t s.data.toList).2;have wS:=bx (AB s.data.toList);have AA:=bx (C.qp s.data.toList);have gq:=bx (show (M.fix s.data.toList).length<=8000 by have:=C.sG s.data.toList;rw [<- size_eq] at this;omega);have jX:=bx (show (C.items (aT s.data.toList) (bK t s.data.toList)).map (·.2)=C.cZ t s.data.toList by
  unfold C.items C.cZ C.pieces;rw [if_pos he,List.map_map]
  rfl)
 have F8:=bx (show (C.items (aT s.data.toList) (bK t s.data.toList)).length<=1000000 by
  rw [C.zf];have h1:=(iq t s.data.toList).2.len;have h2:=lM s.data.toList;rw [<- size_eq] at h2;omega)
 clear h1 h2 h3 h4 h5 hV hs he hE hD hG hB;obtain⟨tn,hn⟩:∃ n,n=t.n:=⟨_,rfl⟩
 rw [<- hn] at HV HK bD ay HO xP zQ ⊢;clear hn;obtain⟨k0,k1,k2,k3,k4,k5,kk⟩:=ay.o V (Below.refl _ _);refine(callsIn_wide (n:=9)).1 (callsIn_of_wp_marks Tryz.func19 rfl trivial (wpIn_wide.2 ?_));simp only [Tryz.ntmps19,List.size_toArray,List.length_cons,List.length_nil,Nat.reduceAdd,Nat.reduceSub,Array.replicate_succ,Array.replicate_zero,List.push_toArray,List.append_toArray,List.nil_append,List.cons_append]
 go_upto_region 1 with(fail)
 rw [<- HV.o];go_wp2_with fail;refine HO.o.mono ?_;rintro e w1 ⟨qB,pb',rv',qj,qx,pg,ov,JC,rfl,hbk,hov,hb1⟩;obtain⟨rfl,rfl,rfl,rfl,rfl⟩:pi=qB/\pb=pb'/\rv=rv'/\nv=qj/\fv=qx:=by simpa using JC
 have bf:=bx hbk;have Ql:=bx hov;have HB1:=bx (bt HB0.o hb1);clear JC hbk hov hb1 k0 k1 k2 k3 k4 k5 kk;go_wp2_with fail;refine(aao _ _).mono ?_;rintro e w2 ⟨rfl,rfl⟩;go_wp2_with fail;have aQ:=bx (show Sep (Pc.blk (w1.heap.size+1) 86 #[.pointer (some ⟨pg,0,none⟩)]::AV w1.heap.size w1 (.slice none 0 0) []) ((w1.alloc (.cells #[.slice none 0 0] 48)).alloc (.cells #[.pointer (some ⟨pg,0,none⟩)] 86)) by
  have h:=((Sep.start w1).bM 48 #[.slice none 0 0]).iW w1.heap.size 1 9;have h2:=(Sep.perm (List.Perm.swap _ _ _) h).bM 86 #[.pointer (some ⟨pg,0,none⟩)];rw [World.size_alloc] at h2;exact h2)
 have oJ:((w1.alloc (.cells #[.slice none 0 0] 48)).alloc (.cells #[.pointer (some ⟨pg,0,none⟩)] 86)).heap.size=w1.heap.size+2:=by simp
 generalize (w1.alloc (.cells #[.slice none 0 0] 48)).alloc (.cells #[.pointer (some ⟨pg,0,none⟩)] 86)=wL at aQ oJ ⊢;have aU:=bx oJ;have aG:=bx (show Below w1.heap.size w1 wL from aQ.o.tail.bel (n:=w1.heap.size) (W0:=w1) (by simp [AV,lD]));have aJ:=bx (bt HB1.o aG.o);have hbz:=bf.o.lt;have OB:=HB1.o.size;have Qv:=bx (kK.o w1 HB1.o).2.2.2;refine(wpIn_wide (n:=9)).1 (JI (α:=Nat×List UInt8) (gf:=91) (lb:=#[.pointer (some ⟨w1.heap.size+1,0,none⟩)]) rfl (enters_of Tryz.func91 (by kernel_rfl) rfl)
  (encs:=λx:Nat×List UInt8=>#[.int .i64 (x.1:Int), .string (bs x.2)]) (own:=λ_=>False) (keep:=λk=>k<wL.heap.size/\k≠w1.heap.size) (ok:=λpre x _=>∃ rest,C.items (aT s.data.toList) (bK t s.data.toList)=pre++x::rest) (S:=λys _=>ys=C.items (aT s.data.toList) (bK t s.data.toList))
  (λk hk=>by rcases hk with h | h;exact h.elim;exact h.1)
  (λW1 ht=>by
   have hwl:=ht.below (Nat.le_refl _) (λ_ h=>h.elim);have hbw:=bt aJ.o hwl;have Ew:=bt aG.o hwl;have hcut:=abp A B pg tn pi pb rv nv fv (.string (bs (M.fix s.data.toList))) ov t.r t.m _ W1 (bf.o.below Ew bf.o.lt) (xX.o W1 hbw).1 wW.o.r1 wW.o.r2 (xX.o W1 hbw).2 wW.o.m (Ql.o.below Ew) HSL.o (kK.o W1 hbw).2.1 (kK.o W1 hbw).2.2.1 (kK.o W1 hbw).2.2.2 xP.o;rw [zQ.o] at hcut;exact ZC 7 A B w1.heap.size wL.heap.size (w1.heap.size+1) pg _ _ _ _ _ _ _ _ _ _ _ W1 ht.size Qv.o (by omega) (kK.o W1 hbw).1 ((aQ.o.blk 0 rfl).below hwl (aQ.o.blk 0 rfl).lt) (bf.o.below Ew bf.o.lt) ⟨by omega,by omega,by omega,by omega⟩ hcut AA.o wS.o eH.o gq.o)
  (λ_=>rfl)
  (λN1 pre W=>∃ v,Sep (AV w1.heap.size w1 v (pre.map (·.2))) W/\(∀ g,v.ownBlock=some g->N1<=g)/\wL.heap.size+2<=N1)
  (λ_ _ _ _=>False) ?hI (λ_ _ _ _ _ h _=>h) (λ_ _ _ _ h _=>h) (λN1 h=>⟨.slice none 0 0,aQ.o.tail,λg hg=>(by cases hg),h⟩)
  (λx a1 W=>a1={ tmps:=#[.agg #[.int .i64 tn,pi,pb,rv,nv,fv], .string s, .pointer (some ⟨w.heap.size,0,none⟩),undef, .slice none 0 0, .int .i64 0, .pointer (some ⟨pg,0,none⟩), .nilIface, .pointer (some ⟨w1.heap.size,0,none⟩),undef, .string (bs x.2), .tuple #[.pointer (some ⟨pg,0,none⟩), .nilIface], .agg #[.int .i64 tn,pi,pb,rv,nv,fv], .string s, .tuple #[.pointer (some ⟨pg,0,none⟩), .nilIface], .pointer (some ⟨pg,0,none⟩), .nilIface, .nilIface, .bool false,undef,undef, .pointer (some ⟨pg,0,none⟩), .func (.func 91) #[] #[.pointer (some ⟨w1.heap.size+1,0,none⟩)], .int .i64 (x.1:Int), .string (bs x.2),undef,undef,undef,undef,undef],defers:=[] })
  (λ_ _ _ _ h _=>h) ?assign ?body ?done (λ_ _ _ _ _ h _=>h.elim) (λ_ _ _ h _=>h))
 case hI =>
  rintro N1 pre W W' ⟨v,h1,h2,h3⟩ ht;exact⟨v,PS h1 ht (by rintro(h | h);exact h;omega) (λg hg=>by have:=h2 g hg;rintro(h | h);exact h;omega) (λk hk=>by rintro(h | h);exact h;omega),h2,h3⟩
 case assign =>
  intro x W K hW hK
  gi_wp2
  exact hK _ _ (Turns.refl _ _) rfl
 case body =>
  rintro N1 pre x a1 W0 W N hN1 F6 hW0 ⟨v,h1,h2,h3⟩ ht hN ⟨rest,hok⟩ rfl;have hts:=ht.size;have hlt1:∀ g,v.ownBlock=some g->g<W0.heap.size:=λg hg=>((h1.row 1 rfl).lt g hg).2
  have lu:=bx (PS h1 ht (by rintro(h | h);exact h;omega) (λg hg=>by have:=h2 g hg;rintro(h | h);exact h;omega) (λk hk=>by rintro(h | h);exact h;omega));have HH:=bx (λg hg=>show N1<=g/\g<W0.heap.size from⟨h2 g hg,hlt1 g hg⟩);have c0:W.cell? ⟨w1.heap.size,0,none⟩=some v:=((lu.o.blk 0 rfl).cell 0).trans rfl;have f0:=(lu.o.blk 0 rfl).frozen 0;have l0:=(lu.o.blk 0 rfl).lt;have hln:(pre.map (·.2)).length<=1000000000:=by
   have h:=F8.o;rw [hok,List.length_append,List.length_cons] at h;rw [List.length_map];omega
  have mV:=bx hok;have HT0:=bx ht;clear h1 h2 ht hok hlt1
  gi_wp2_with (gi_at_builtin;refine P8 (u:=jK x.2) rfl _ _ 48 rfl Gu lu.o 1 rfl rfl rfl rfl hln (by omega) (by omega) ?_;rintro v' w3 hS3 ⟨g',c',rfl,-,-⟩ xA BZ;have aC:=bx hS3;have HT3:=bx xA;have JQ:=bx BZ;have c3:w3.cell? ⟨w1.heap.size,0,none⟩=some v:=((hS3.blk 0 rfl).cell 0).trans rfl;have f3:=(hS3.blk 0 rfl).frozen 0;have l3:=(hS3.blk 0 rfl).lt;clear hS3 xA BZ)
  have hT:=(HT3.o.mono (own':=λk=>v.ownBlock=some k\/k=w1.heap.size) (λk h=>Or.inl h)).trans ((Turns.setCell (own:=λq=>q=w1.heap.size) w3 (p:=⟨w1.heap.size,0,none⟩) rfl (.slice (some ⟨g',0,none⟩) (pre.length+1) c')).mono (λk h=>Or.inr h));refine⟨hT.mono (λk hk hh=>?_), .slice (some ⟨g',0,none⟩) ((pre.map (·.2)).length+1) c',?_,λg hg=>?_,h3⟩
  ·rcases hk with hk | hk
   ·have h9:=HH.o k hk
    rcases hh with(h | h | h) | h | h <;> omega
   ·subst hk
    rcases hh with(h | h | h) | h | h
    ·exact h.2 rfl
    all_goals omega
  ·have h:=aC.o.set 0 rfl 0 (.slice (some ⟨g',0,none⟩) (pre.length+1) c');have e:(pre++[x]).map (·.2)=pre.map (·.2)++[x.2]:=by simp
   rw [e];unfold AV lD;rw [List.length_append,List.map_append];simp only [List.length_map,List.length_cons,List.length_nil] at h ⊢;exact h
  ·rcases JQ.o with h | h
   ·rw [h] at hg;exact(HH.o g hg).1
   ·rw [h] at hg;injection hg with hg;omega
 case done =>
  intro N1 xs W hW hS ⟨v,h1,h2,h3⟩ hD;have c0:W.cell? ⟨w1.heap.size,0,none⟩=some v:=((h1.blk 0 rfl).cell 0).trans rfl;have HD:=bx hD;have HW:=bx (show Sep (AV w1.heap.size w1 v (C.cZ t s.data.toList)) W by
   rw [<- jX.o,<- hS];exact h1)
  have H2:=bx h2;clear h1 h2 hD hS;go_wp2_with fail;refine⟨by simp, .inl ⟨_,_,rfl,run_takeDeferred HD.o,?_⟩⟩;refine⟨_,results_tmp2 rfl _ _ _,?_⟩;have uH:Turns (λk=>k=wL.heap.size) W (W.putObj wL.heap.size (.deferred none)):=Turns.putObj (own:=λk=>k=wL.heap.size) W rfl (.deferred none);have kY:=PS HW.o uH (by omega) (λg hg=>by have:=H2.o g hg;omega) (λk hk=>by omega);exact⟨⟨v,rfl,V8 kY.tail,λg hg=>by have:=H2.o g hg;have:=aJ.o.size;omega⟩,HB1.o.trans ((kY.tail.bel (n:=w1.heap.size) (W0:=w1) (by simp [lD])).mono HB1.o.size)⟩
end
end Go.Proofs.YtdenoeakcflnmaaGreatDoor
