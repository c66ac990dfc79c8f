/- Texts of this claim. -/
import Derived.Test.YtdenoeakcflnmaaGreatDoorH9
import Derived.Test.YtdenoeakcflnmaaGreatDoorH16

set_option maxRecDepth 100000
set_option maxHeartbeats 8000000
namespace Go.Proofs.YtdenoeakcflnmaaGreatDoor
section
open Go.RowKit
attribute [local go_sem] Oper.semAt_some
structure Tab where
 n:Int
 p:F.Trie
 r:List D.Rule
 m:D.bH
def TabAt (w:World) (v:Value) (t:Tab):Prop:=∃ pi pb rv nv fv,v = .agg #[.int .i64 t.n,pi,pb,rv,nv,fv]/\aB w pi t.p.1/\fJ w pb t.p.2/\fA w rv t.r/\fJ w nv t.m.1/\aB w fv t.m.2
theorem TabAt.below {w w':World} {v:Value} {t:Tab} (h:TabAt w v t) (hb:Below w.heap.size w w'):TabAt w' v t:=by
 obtain⟨pi,pb,rv,nv,fv,h0,h1,h2,h3,h4,h5⟩:=h;exact⟨pi,pb,rv,nv,fv,h0,h1.below hb,h2.below hb,h3.below hb,h4.below hb,h5.below hb⟩
theorem akd {w:World} {n:Int} {p:F.Trie} {r:List D.Rule} {m:D.bH} {pi pb rv nv fv:Value} (h1:aB w pi p.1) (h2:fJ w pb p.2) (h3:fA w rv r) (h4:fJ w nv m.1) (h5:aB w fv m.2):TabAt w (.agg #[.int .i64 n,pi,pb,rv,nv,fv]) ⟨n,p,r,m⟩:=⟨pi,pb,rv,nv,fv,rfl,h1,h2,h3,h4,h5⟩
theorem abn:(Tryz.prog.info? 31).map (·.size)=some 6:=by kernel_rfl
section
variable {W W':World} {R:Nat} {T:TypeId}
def EC:Array Value:=#[.int .i64 0, .slice none 0 0, .slice none 0 0, .slice none 0 0, .slice none 0 0, .slice none 0 0]
theorem Iw {j:Nat} {u:Value} (h:aj W R T EC) (hu:W.cell? ⟨R,j,none⟩=some u):(j=0/\u = .int .i64 0)\/(0<j/\u = .slice none 0 0):=by
 rw [h.cell j] at hu;unfold EC at hu
 match j with
 | 0=>left;exact⟨rfl,by simpa using hu.symm⟩
 | 1 | 2 | 3 | 4 | 5=>right;exact⟨by omega,by simpa using hu.symm⟩
 | j+6=>simp at hu
def Hu (xs:List Int):Bool:=decide (2<=xs.length)||(!xs.isEmpty&&xs.headD 0 != 0)
theorem Rx {v:Value} {xs:List Int} (hb:aj W R T EC) (ht:Turns (λq=>q=R) W W') (h:aB W v xs) (h2:Hu xs=true):aB W' v xs:=by
 obtain⟨b,off,cap,rfl,h3,h4,h5,h6⟩:=h.get (by rintro rfl;simp [Hu] at h2);have hne:b≠R:=by
  rintro rfl;unfold Hu at h2;rw [Bool.or_eq_true] at h2
  rcases h2 with h2 | h2
  ·have h2:=of_decide_eq_true h2;have e1:=h6 1 xs[1] (List.getElem?_eq_getElem (by omega))
   rcases Iw hb e1 with⟨h7,-⟩ | ⟨-,h7⟩
   ·omega
   ·cases h7
  ·match xs,h2 with
   | x::t,h2 =>
    have e1:=h6 0 x rfl
    rcases Iw hb e1 with⟨-,h7⟩ | ⟨-,h7⟩
    ·injection h7 with _ h7;subst h7;simp at h2
    ·cases h7
 exact Vk h ht.size (λg hg=>by simp [Value.ownBlock] at hg;subst hg;exact ht.block _ h5 hne)
theorem abh {v:Value} {rows:List (List Int)} (hb:aj W R T EC) (ht:Turns (λq=>q=R) W W') (h:fJ W v rows) (hn:rows≠[]) (h2:∀ r∈rows,2<=r.length):fJ W' v rows:=by
 obtain⟨b,off,cap,rfl,h3,h4,h5,h6⟩:=h.get hn;have hne:b≠R:=by
  rintro rfl;obtain⟨r0,hr0⟩:∃ r0,rows[0]?=some r0:=⟨_,List.getElem?_eq_getElem (List.length_pos_iff.2 hn)⟩
  obtain⟨x,hx,hi⟩:=h6 0 r0 hr0;have h7:=h2 r0 (List.mem_of_getElem? hr0)
  rcases Iw hb hx with⟨-,rfl⟩ | ⟨-,rfl⟩
  ·rcases hi with⟨h8,-⟩ | ⟨_,_,_,_,h8,-⟩ <;> cases h8
  ·rcases hi with⟨-,rfl⟩ | ⟨_,_,_,_,h8,-⟩
   ·simp at h7
   ·injection h8 with h8;cases h8
 refine .inr ⟨b,off,none,cap,rfl,h3,h4,λ_=>⟨rfl,Nat.lt_of_lt_of_le h5 ht.size,λi r hr=>?_⟩⟩;obtain⟨x,hx,hi⟩:=h6 i r hr;exact⟨x,(World.cell?_of_block (ht.block b h5 hne)).trans hx,Rx hb ht hi (by unfold Hu;rw [decide_eq_true (h2 r (List.mem_of_getElem? hr))];rfl)⟩
theorem aaI {v:Value} {l:List N.Item} (hb:aj W R T EC) (ht:Turns (λq=>q=R) W W') (h:bQ W v l):bQ W' v l:=by
 rcases h with h | ⟨b,off,sp,cap,rfl,h3,h4,h5⟩
 ·exact .inl h
 ·refine .inr ⟨b,off,sp,cap,rfl,h3,h4,λhn=>?_⟩;obtain⟨rfl,h6,h7⟩:=h5 hn;have hne:b≠R:=by
   rintro rfl;obtain⟨x,hx⟩:∃ x,l[0]?=some x:=⟨_,List.getElem?_eq_getElem (List.length_pos_iff.2 hn)⟩
   rcases Iw hb (h7 0 x hx).2 with⟨h8,-⟩ | ⟨-,h8⟩
   ·omega
   ·cases h8
  exact⟨rfl,Nat.lt_of_lt_of_le h6 ht.size,λi x hx=>⟨(World.cell?_of_block (ht.block b h6 hne)).trans (h7 i x hx).1,(World.cell?_of_block (ht.block b h6 hne)).trans (h7 i x hx).2⟩⟩
theorem afh {v:Value} {l:List D.Rule} (hb:aj W R T EC) (ht:Turns (λq=>q=R) W W') (h:fA W v l) (hn:l≠[]):fA W' v l:=by
 obtain⟨b,off,cap,rfl,h3,h4,h5,h6⟩:=h.get hn;have hne:b≠R:=by
  rintro rfl;obtain⟨x,hx⟩:∃ x,l[0]?=some x:=⟨_,List.getElem?_eq_getElem (List.length_pos_iff.2 hn)⟩
  obtain⟨vl,vr,h7,-⟩:=h6 0 x hx
  rcases Iw hb h7 with⟨-,h8⟩ | ⟨-,h8⟩ <;> cases h8
 refine .inr ⟨b,off,none,cap,rfl,h3,h4,λ_=>⟨rfl,Nat.lt_of_lt_of_le h5 ht.size,λi x hx=>?_⟩⟩;obtain⟨vl,vr,k0,k1,k2,k3,k4,k5,k6⟩:=h6 i x hx;have hc:∀ (j:Nat) (u:Value),W.cell? ⟨b,j,none⟩=some u->W'.cell? ⟨b,j,none⟩=some u:=λj u h=>(World.cell?_of_block (ht.block b h5 hne)).trans h
 exact⟨vl,vr,hc _ _ k0,hc _ _ k1,hc _ _ k2,hc _ _ k3,hc _ _ k4,aaI hb ht k5,aaI hb ht k6⟩
end
def TJ (m:D.bH):Bool:=decide (m.1≠[])&&m.1.all (λr=>decide (2<=r.length))&&Hu m.2
theorem F.XE (l:List F.aV):(F.jP l).2≠[]:=by
 intro h;obtain⟨n,-,h2⟩:=(F.built l 4352).at' 0 (by omega);have e:(F.nR l 4352).2=[]:=h;rw [e] at h2;simp at h2
theorem ams (props rules:List UInt8) (nv:Value) (names:List (List UInt8)) (t:List F.aV) (r:D.Rule) (w:World) (hn:dI w nv names) (hnb:F.vF names=true) (hp:F.GR props names false=some t) (ht:F.vP t=true)
  (hnl:F.split 10 rules=[rules]) (hne:F.trim ((F.split 35 rules).headD [])≠[]) (hok:F.H9 names (F.trim ((F.split 35 rules).headD []))=some r) (hz:rules.length<=20000) (hf:nX r) (hc:yK [r] (names.length:Int)=0) (hmf:TJ (vG [r] (names.length:Int))=true) :
  Calls Tryz.prog 31 #[.string (bs props), .string (bs rules),nv] w λe w'=>(∃ v,e = .returned (.tuple #[v, .int .i64 0, .int .i64 0])/\TabAt w' v ⟨names.length,F.jP t,[r],vG [r] names.length⟩)/\Below w.heap.size w w':=by
 obtain⟨TT,zG⟩:∃ TT,F.jP t=TT:=⟨_,rfl⟩
 obtain⟨MM,OU⟩:∃ MM,vG [r] (names.length:Int)=MM:=⟨_,rfl⟩
 have xu:=bx (show TT.1.length=4352/\TT.2≠[]/\∀ x∈TT.2,x.length=256 from zG▸⟨(F.FU t 4352).1,F.XE t,(F.FU t 4352).2.2⟩);rw [zG,OU];rw [OU] at hmf;obtain⟨na,nc,rfl,hc1,hc2⟩:=hn.slice;have hb0:=aO w (.cells #[.int .i64 0, .slice none 0 0, .slice none 0 0, .slice none 0 0, .slice none 0 0, .slice none 0 0] 31);have gQ:=bx (acZ props _ names false t _ (hn.below hb0) hnb hp);have nJ:=bx (λW (hb:Below w.heap.size w W)=>ag1 rules _ names r W (hn.below hb) hnb hnl hne hok hz);have rG:=bx (λrv W (hr:fA W rv [r])=>show Calls Tryz.prog 66 #[rv, .int .i64 (names.length:Int)] W λe w'=>Below W.heap.size W w'/\∃ mv,e = .returned (.tuple #[mv, .int .i64 0])/\kQ w' mv MM by
  have h9:=alB rv [r] (names.length:Int) W (λx hx=>by rw [List.mem_singleton.1 hx];exact hf) hr (by simp);unfold Yj at h9;rw [hc,OU] at h9;exact h9)
 have Ji:=bx (λlv W (hl:iM W lv t)=>zG▸XD lv t W hl ht);have HB0:=bx hb0;have HR0:=bx (aj.new w 31 #[.int .i64 0, .slice none 0 0, .slice none 0 0, .slice none 0 0, .slice none 0 0, .slice none 0 0]);have yh:=bx hmf;clear hn hb0 hnb hp ht hnl hne hok hf hc hmf zG OU
 go_enter Tryz.func31,Tryz.ntmps31
 go_wp2_with fail;refine gQ.o.mono ?_;rintro e w1 ⟨⟨lv,rfl,hlv⟩,hb1⟩;have HB1:=bx (bt HB0.o hb1);have HR1:=bx (HR0.o.below hb1 HR0.o.lt);have Jg:=bx hlv;clear hb1 hlv;go_wp2_with fail;refine(nJ.o _ HB1.o).mono ?_;rintro e w2 ⟨⟨rv,rfl,GV⟩,hb2⟩;have HB2:=bx (bt HB1.o hb2);have HR2:=bx (HR1.o.below hb2 HR1.o.lt);have HL2:=bx (Jg.o.below hb2);have D9:=bx GV;clear hb2 GV;go_wp2_with fail;obtain⟨ra,rc,rfl⟩:=D9.o.slice;refine(rG.o _ w2 D9.o).mono ?_;rintro e w3 ⟨hb3,mv,rfl,hmv⟩;have HB3:=bx (bt HB2.o hb3);have HR3:=bx (HR2.o.below hb3 HR2.o.lt);have Ai:=bx (HL2.o.below hb3);have rX:=bx (D9.o.below hb3);have Aw:=bx hmv;obtain⟨mn,mf,rfl,hmn,Q5⟩:=hmv;obtain⟨ma,mc,rfl⟩:=hmn.slice;obtain⟨fa,fc,rfl⟩:=Q5.slice;clear hb3 hmn Q5;go_wp2_with fail;have k4:=aO w3 (.cells #[.slice ma (MM).1.length mc, .slice fa (MM).2.length fc] 29);have jF:=bx (aj.new w3 29 #[.slice ma (MM).1.length mc, .slice fa (MM).2.length fc]);have HB4:=bx (bt HB3.o k4);have HR4:=bx (HR3.o.below k4 HR3.o.lt);have Xb:=bx (Ai.o.below k4);have He:=bx (rX.o.below k4);have Rj:=bx (Aw.o.below k4);clear k4;obtain⟨M,hM⟩:∃ M,w3.heap.size=M:=⟨_,rfl⟩
 rw [hM] at jF ⊢;generalize w3.alloc (.cells #[.slice ma (MM).1.length mc, .slice fa (MM).2.length fc] 29)=w4 at jF HB4 HR4 Xb He Rj ⊢;clear hM;refine(Ji.o lv w4 Xb.o).mono ?_;rintro e w5 ⟨⟨tv,rfl,Ip⟩,hb5⟩;have aK:=bx (bt HB4.o hb5);have LU:=bx (HR4.o.below hb5 HR4.o.lt);have yH:=bx (jF.o.below hb5 jF.o.lt);have HV5:=bx (He.o.below hb5);have HM5:=bx (Rj.o.below hb5);have BL:=bx Ip;obtain⟨iv,bv,rfl,hiv,hbv⟩:=Ip;obtain⟨ia,ic,rfl⟩:=hiv.slice;obtain⟨ba,bc,rfl⟩:=hbv.slice;clear hb5 hiv hbv;clear rG Ji nJ gQ Aw Rj jF HR0 HR1 HR2 HR3 HR4 HB0 HB1 HB2 HB3 HB4 HL2 Ai Xb Jg D9 rX He;have k6:=aO w5 (.cells #[.slice ia TT.1.length ic, .slice ba TT.2.length bc] 25);have dO:=bx (bt aK.o k6);have lS:=bx (LU.o.below k6 LU.o.lt);have pO:=bx (HV5.o.below k6);have HM6:=bx (HM5.o.below k6);have Iz:=bx (BL.o.below k6);have hk:=yH.o.below k6 yH.o.lt;have m0:=(hk.cell 0).trans (show _=some (Value.slice ma MM.1.length mc) from rfl);have m1:=(hk.cell 1).trans (show _=some (Value.slice fa MM.2.length fc) from rfl);have ml:=hk.lt;have r0:=(lS.o.cell 0).trans (show _=some (Value.int .i64 0) from rfl);have r1:=(lS.o.cell 1).trans (show _=some (Value.slice none 0 0) from rfl);have r2:=(lS.o.cell 2).trans (show _=some (Value.slice none 0 0) from rfl);have r3:=(lS.o.cell 3).trans (show _=some (Value.slice none 0 0) from rfl);have r4:=(lS.o.cell 4).trans (show _=some (Value.slice none 0 0) from rfl);have r5:=(lS.o.cell 5).trans (show _=some (Value.slice none 0 0) from rfl);have f0:=lS.o.frozen 0;have f1:=lS.o.frozen 1;have f2:=lS.o.frozen 2;have f3:=lS.o.frozen 3;have f4:=lS.o.frozen 4;have f5:=lS.o.frozen 5;have rl:=lS.o.lt;clear k6 hk;go_wp2_with fail;have hT:Turns (λq=>q=w.heap.size) (w5.alloc (.cells #[.slice ia TT.1.length ic, .slice ba TT.2.length bc] 25)) (((((((w5.alloc (.cells #[.slice ia TT.1.length ic, .slice ba TT.2.length bc] 25)).setCell ⟨w.heap.size,0,none⟩ (.int .i64 ↑names.length)).setCell ⟨w.heap.size,1,none⟩ (.slice ia TT.1.length ic)).setCell ⟨w.heap.size,2,none⟩ (.slice ba TT.2.length bc)).setCell ⟨w.heap.size,3,none⟩ (.slice ra 1 rc)).setCell ⟨w.heap.size,4,none⟩ (.slice ma MM.1.length mc)).setCell ⟨w.heap.size,5,none⟩ (.slice fa MM.2.length fc)):=((((((Turns.setCell (own:=λq=>q=w.heap.size) _ (p:=⟨w.heap.size,0,none⟩) rfl _).trans (Turns.setCell (own:=λq=>q=w.heap.size) _ (p:=⟨w.heap.size,1,none⟩) rfl _)).trans (Turns.setCell (own:=λq=>q=w.heap.size) _ (p:=⟨w.heap.size,2,none⟩) rfl _)).trans (Turns.setCell (own:=λq=>q=w.heap.size) _ (p:=⟨w.heap.size,3,none⟩) rfl _)).trans (Turns.setCell (own:=λq=>q=w.heap.size) _ (p:=⟨w.heap.size,4,none⟩) rfl _)).trans (Turns.setCell (own:=λq=>q=w.heap.size) _ (p:=⟨w.heap.size,5,none⟩) rfl _))
 have Wp:=yh.o;unfold TJ at Wp;simp only [Bool.and_eq_true,decide_eq_true_eq,List.all_eq_true] at Wp;obtain⟨⟨hm1,hm2⟩,Gy⟩:=Wp;obtain⟨iv,bv,e1,ht1,ht2⟩:=Iz.o;injection e1 with e1;simp only [Array.mk.injEq,List.cons.injEq,and_true] at e1;obtain⟨rfl,rfl⟩:=e1;obtain⟨iv,bv,e2,hq1,hq2⟩:=HM6.o;injection e2 with e2;simp only [Array.mk.injEq,List.cons.injEq,and_true] at e2;obtain⟨rfl,rfl⟩:=e2;have hres:aj (w5.alloc (.cells #[.slice ia TT.1.length ic, .slice ba TT.2.length bc] 25)) w.heap.size 31 EC:=lS.o;have q1:=Rx hres hT ht1 (by unfold Hu;rw [xu.o.1];rfl);have q2:=abh hres hT ht2 xu.o.2.1 (λx hx=>by have:=xu.o.2.2 x hx;omega);have q3:=afh hres hT pO.o (by simp);have q4:=abh hres hT hq1 hm1 hm2;have q5:=Rx hres hT hq2 Gy;have afT:TabAt (((((((w5.alloc (.cells #[.slice ia TT.1.length ic, .slice ba TT.2.length bc] 25)).setCell ⟨w.heap.size,0,none⟩ (.int .i64 ↑names.length)).setCell ⟨w.heap.size,1,none⟩ (.slice ia TT.1.length ic)).setCell ⟨w.heap.size,2,none⟩ (.slice ba TT.2.length bc)).setCell ⟨w.heap.size,3,none⟩ (.slice ra 1 rc)).setCell ⟨w.heap.size,4,none⟩ (.slice ma MM.1.length mc)).setCell ⟨w.heap.size,5,none⟩ (.slice fa MM.2.length fc)) (.agg #[.int .i64 ↑names.length, .slice ia TT.1.length ic, .slice ba TT.2.length bc, .slice ra 1 rc, .slice ma MM.1.length mc, .slice fa MM.2.length fc]) ⟨↑names.length,TT,[r],MM⟩:=akd q1 q2 q3 q4 q5;refine bodyPost_ret (v:=.tuple #[.agg #[.int .i64 ↑names.length, .slice ia TT.1.length ic, .slice ba TT.2.length bc, .slice ra 1 rc, .slice ma MM.1.length mc, .slice fa MM.2.length fc], .int .i64 0, .int .i64 0]) (NI Tryz.results31 _ _ w.heap.size 31 #[.int .i64 ↑names.length, .slice ia TT.1.length ic, .slice ba TT.2.length bc, .slice ra 1 rc, .slice ma MM.1.length mc, .slice fa MM.2.length fc] (0,0) _ rfl ((((((lS.o.dh 0 (.int .i64 ↑names.length)).dh 1 (.slice ia TT.1.length ic)).dh 2 (.slice ba TT.2.length bc)).dh 3 (.slice ra 1 rc)).dh 4 (.slice ma MM.1.length mc)).dh 5 (.slice fa MM.2.length fc)) Tryz.underlying31 rfl abn) rfl
  ⟨⟨_,rfl,afT⟩,((((((dO.o.setCell (Nat.le_refl _) _).setCell (Nat.le_refl _) _).setCell (Nat.le_refl _) _).setCell (Nat.le_refl _) _).setCell (Nat.le_refl _) _).setCell (Nat.le_refl _) _)⟩
theorem alD (W:World) (a b:List UInt8) (T:TypeId):dI (W.alloc (.cells #[.string (bs a), .string (bs b)] T)) (.slice (some ⟨W.heap.size,0,none⟩) 2 2) [a,b] :=
 ig.Uu (xs:=[a,b].map jK) (T:=T) (aj.new W T #[.string (bs a), .string (bs b)]) (by simp)
def F.gX (b:List Int):Bool:=decide (b.length=256)&&b.all λv=>decide (0<=v)&&decide (v<=31)
theorem F.Jo (t:F.Trie):F.iw t=(decide (t.1.length=4352)&&t.1.all (λn=>decide (0<=n)&&decide (n<t.2.length))&&t.2.all F.gX):=rfl
end
section
open Go.RowKit Go.Shelf
attribute [local go_sem] Oper.semAt_some
theorem OJ {W W':World} {base s n:Nat} {e:TypeId} {v:Value} {xs:List Value} (h:W.ownsRow base e s v n xs) (ht:Turns (λq=>q<base) W W'):W'.ownsRow base e s v n xs:=ht.row h (λk hk ho=>absurd (h.lt k hk).1 (by omega))
theorem PY {W w:World} {base n:Nat} {T:TypeId} {v:Value} {vs:List Value} {L:List (List Int)} (h:W.ownsRow base T 1 v n vs) (hn:n=vs.length) (hV:vZ w vs L) (hb:Below w.heap.size w W):fJ W v L :=
 alZ h (by rw [hn,hV.1]) (λi r hr=>by
  obtain⟨x,hx,hi⟩:=hV.2 i r hr;exact⟨x,hx,hi.below hb⟩)
def bV (t:Tab):Tab:=⟨t.n,qh t.p,(Ej t.r).take 12,Ae t.m⟩
theorem ana {W w:World} {base n:Nat} {v:Value} {L:List (D.Rule×Value×Value)} {l:List D.Rule} (h:W.ownsRow base 184 5 v n (L.flatMap vI)) (hn:n=L.length) (hV:G9 w L) (hb:Below w.heap.size w W) (hl:L.map (·.1)=l):fA W v l :=
 hl▸abm h hn (λy hy=>⟨(hV y hy).1.below hb,(hV y hy).2.below hb⟩)
theorem afV (v:Value) (t:Tab) (w0 w:World) (hv:TabAt w0 v t) (hb0:Below w0.heap.size w0 w) :
  Calls Tryz.prog 33 #[v] w λe w'=>Below w.heap.size w w'/\∃ v',e = .returned v'/\∀ W',Turns (λq=>q<w.heap.size) w' W'->Below w0.heap.size w0 W'->TabAt W' v' (bV t):=by
 obtain⟨pi,pb,rv,nv,fv,rfl,h1,h2,h3,h4,h5⟩:=hv;obtain⟨V,hV⟩:∃ V,V=(w.alloc (.cells #[.int .i64 t.n,pi,pb,rv,nv,fv] 31)).alloc (.cells #[.int .i64 0, .slice none 0 0, .slice none 0 0, .slice none 0 0, .slice none 0 0, .slice none 0 0] 31):=⟨_,rfl⟩
 have aQ:=bx (show Sep [Pc.blk (w.heap.size+1) 31 #[.int .i64 0, .slice none 0 0, .slice none 0 0, .slice none 0 0, .slice none 0 0, .slice none 0 0],Pc.blk w.heap.size 31 #[.int .i64 t.n,pi,pb,rv,nv,fv],Pc.old w.heap.size w] V by
  rw [hV];have h:=((Sep.start w).bM 31 #[.int .i64 t.n,pi,pb,rv,nv,fv]).bM 31 #[.int .i64 0, .slice none 0 0, .slice none 0 0, .slice none 0 0, .slice none 0 0, .slice none 0 0]
  simpa using h)
 have HB0:=bx hb0;have bI:=bx (show Below w.heap.size w V from aQ.o.bel (by simp));have dJ:=bx (aQ.o.blk 1 rfl);have dV:=bx (λW (h:Below w.heap.size w W)=>akP rv t.r w0 W h3 (bt HB0.o h));have HC2:=bx (λW (h:Below w.heap.size w W)=>aci pb pi t.p w0 W h1 h2 (bt HB0.o h));have dN:=bx (λW (h:Below w.heap.size w W)=>amb (.agg #[nv,fv]) t.m w0 W ⟨nv,fv,rfl,h4,h5⟩ (bt HB0.o h));have lC:=bx (show ∀ W,Below V.heap.size V W->W.cell? ⟨w.heap.size,0,none⟩=some (.int .i64 t.n)/\W.cell? ⟨w.heap.size,1,none⟩=some (pi)/\W.cell? ⟨w.heap.size,2,none⟩=some (pb)/\W.cell? ⟨w.heap.size,3,none⟩=some (rv)/\W.cell? ⟨w.heap.size,4,none⟩=some (nv)/\W.cell? ⟨w.heap.size,5,none⟩=some (fv)/\w.heap.size<W.heap.size from λW h=>⟨((dJ.o.below h dJ.o.lt).cell 0).trans rfl,((dJ.o.below h dJ.o.lt).cell 1).trans rfl,((dJ.o.below h dJ.o.lt).cell 2).trans rfl,((dJ.o.below h dJ.o.lt).cell 3).trans rfl,((dJ.o.below h dJ.o.lt).cell 4).trans rfl,((dJ.o.below h dJ.o.lt).cell 5).trans rfl,(dJ.o.below h dJ.o.lt).lt⟩);have HV:=bx hV;have rD:=bx (show V.heap.size=w.heap.size+1+1 by rw [hV];simp);clear h1 h2 h3 h4 h5 hV hb0
 go_enter Tryz.func33,Tryz.ntmps33
 go_upto_region 1 with(fail)
 rw [<- HV.o];obtain⟨c0,c1,c2,c3,c4,c5,cl⟩:=lC.o V (Below.refl _ _);go_wp2_with fail;refine(dV.o _ bI.o).mono ?_;rintro e w1 ⟨hb1,v1,rfl,L1,hL1,hV1,ho1⟩;clear c0 c1 c2 c3 c4 c5 cl;obtain⟨ro,rc,rfl,hr1,hr2⟩:=iU ho1;have HB1:=bx hb1;have an0:=bx (bt bI.o hb1);have bG:=bx (aQ.o.got (base:=w.heap.size) hb1 ho1 bI.o.size);have iQ:=bx hL1;have fH:=bx hV1;clear hb1 hL1 hV1 ho1;obtain⟨m1,hm1⟩:∃ m,L1.length=m:=⟨_,rfl⟩
 rw [hm1] at bG hr1 ⊢;have jf:=bx hm1;have HZ1:=bx (show L1.length=(Ej t.r).length by rw [<- iQ.o,List.length_map]);clear hm1;have aF:=bx (show Below V.heap.size V w1.drew from HB1.o.trans (show Below V.heap.size w1 w1.drew from⟨rfl,rfl,rfl,Nat.le_refl _,λ_ _=>rfl⟩));have dY:=bx bG.o.drew
 go_upto_region 2 with(fail)
 obtain⟨m2,hm2⟩:∃ m,(min (m1:Int) 12).toNat=m:=⟨_,rfl⟩
 have anv:(min (m1:Int) 12)<=(rc:Int):=by omega
 have amL:(0:Int)<=min (m1:Int) 12:=by omega
 have vK:=bx (show m2=min m1 12 by omega);refine fP 14 (λW=>W.cell? ⟨w.heap.size,0,none⟩=some (.int .i64 t.n)/\W.cell? ⟨w.heap.size,1,none⟩=some (pi)/\W.cell? ⟨w.heap.size,2,none⟩=some (pb)/\W.cell? ⟨w.heap.size,3,none⟩=some (rv)/\W.cell? ⟨w.heap.size,4,none⟩=some (nv)/\W.cell? ⟨w.heap.size,5,none⟩=some (fv)) (by kernel_rfl) ?_;have o7:=bx (show ∀ W,Below V.heap.size V W->W.cell? ⟨w.heap.size,0,none⟩=some (.int .i64 t.n)/\W.cell? ⟨w.heap.size,1,none⟩=some (pi)/\W.cell? ⟨w.heap.size,2,none⟩=some (pb)/\W.cell? ⟨w.heap.size,3,none⟩=some (rv)/\W.cell? ⟨w.heap.size,4,none⟩=some (nv)/\W.cell? ⟨w.heap.size,5,none⟩=some (fv) from λW h=>by
  obtain⟨q0,q1,q2,q3,q4,q5,-⟩:=lC.o W h;exact⟨q0,q1,q2,q3,q4,q5⟩)
 have aA:=bx (o7.o _ aF.o);have aJ:=bx (bt bI.o aF.o);have zx:=bx (show w.heap.size<=w1.drew.heap.size from aJ.o.size);generalize w1.drew=WR at *;refine kS 0 ?_ rfl aA.o ?_ ?_;rotate_left
 ·rintro w ⟨q1,q2,q3,q4,q5,q6⟩;go_simp;try with_reducible rfl
 refine kS 1 ?_ rfl aA.o ?_ ?_;rotate_left
 ·rintro w ⟨q1,q2,q3,q4,q5,q6⟩;go_simp;try with_reducible rfl
 refine kS 2 ?_ rfl aA.o ?_ ?_;rotate_left
 ·rintro w ⟨q1,q2,q3,q4,q5,q6⟩;go_simp;try with_reducible rfl
 refine kS 3 ?_ rfl aA.o ?_ ?_;rotate_left
 ·rintro w ⟨q1,q2,q3,q4,q5,q6⟩;go_simp;try with_reducible rfl
 refine kS 5 ?_ rfl aA.o ?_ ?_;rotate_left
 ·rintro w ⟨q1,q2,q3,q4,q5,q6⟩;go_simp;try with_reducible rfl
 refine kS 6 ?_ rfl aA.o ?_ ?_;rotate_left
 ·rintro w ⟨q1,q2,q3,q4,q5,q6⟩;go_simp;try with_reducible rfl
 refine kS 7 ?_ rfl aA.o ?_ ?_;rotate_left
 ·rintro w ⟨q1,q2,q3,q4,q5,q6⟩;go_simp;try with_reducible rfl
 refine kS 8 ?_ rfl aA.o ?_ ?_;rotate_left
 ·rintro w ⟨q1,q2,q3,q4,q5,q6⟩;go_simp;try with_reducible rfl
 refine kS 9 ?_ rfl aA.o ?_ ?_;rotate_left
 ·rintro w ⟨q1,q2,q3,q4,q5,q6⟩;go_simp;try with_reducible rfl
 refine kS 10 ?_ rfl aA.o ?_ ?_;rotate_left
 ·rintro w ⟨q1,q2,q3,q4,q5,q6⟩;go_simp;try with_reducible rfl
 refine kS 11 ?_ rfl aA.o ?_ ?_;rotate_left
 ·rintro w ⟨q1,q2,q3,q4,q5,q6⟩;go_simp;try with_reducible rfl
 refine kP 4 rfl λKK ah=>?_
 go_simp;go_wp2_with (go_at_call 70;refine(HC2.o _ aJ.o).mono ?_;rintro e w2 ⟨hb2,f2,v2,L2,rfl,hi2,hV2,ho2⟩)
 have HB2:=bx (show Below V.heap.size V w2 from bt aF.o hb2);have jh:=bx (bt aJ.o hb2);have HS2:=bx (dY.o.got (base:=w.heap.size) hb2 ho2 zx.o);have qH:=bx (show w.heap.size<=w2.heap.size from jh.o.size);obtain⟨F9,Am,rfl,-,-⟩:=iU ho2;obtain⟨fa2,DR,rfl⟩:=hi2.slice;have HI2:=bx hi2;have iV:=bx hV2;clear hb2 hV2 ho2 aJ zx hi2;have aJ:=jh;have zx:=qH;clear jh qH;refine ah.out _ _ (λ_=>o7.o _ HB2.o) ?_;clear ah KK;refine kP 12 rfl λKK ah=>?_
 go_simp;go_wp2_with (go_at_call 71;refine(dN.o _ aJ.o).mono ?_;rintro e w3 ⟨hb3,v3,f3,L3,rfl,lX,ho3,hi3⟩)
 have HB3:=bx (show Below V.heap.size V w3 from bt HB2.o hb3);have jh:=bx (bt aJ.o hb3);have aC:=bx (HS2.o.got (base:=w.heap.size) hb3 ho3 zx.o);have qH:=bx (show w.heap.size<=w3.heap.size from jh.o.size);obtain⟨oa3,Xy,rfl,-,-⟩:=iU ho3;obtain⟨fa3,YL,rfl⟩:=hi3.slice;have HI3:=bx hi3;have rX:=bx lX;clear hb3 lX ho3 aJ zx hi3;have aJ:=jh;have zx:=qH;clear jh qH;refine ah.out _ _ (λ_=>o7.o _ HB3.o) ?_;clear ah KK;refine kP 13 rfl λKK ah=>?_
 go_simp;refine ah.out _ _ (λ_=>o7.o _ HB3.o) ?_;clear ah KK;have HG:=bx (aC.o.blk 3 rfl);have y0:=(HG.o.cell 0).trans (show _=some (Value.int .i64 0) from rfl);have e0:=HG.o.frozen 0;have y1:=(HG.o.cell 1).trans (show _=some (Value.slice none 0 0) from rfl);have e1:=HG.o.frozen 1;have y2:=(HG.o.cell 2).trans (show _=some (Value.slice none 0 0) from rfl);have e2:=HG.o.frozen 2;have y3:=(HG.o.cell 3).trans (show _=some (Value.slice none 0 0) from rfl);have e3:=HG.o.frozen 3;have y4:=(HG.o.cell 4).trans (show _=some (Value.slice none 0 0) from rfl);have e4:=HG.o.frozen 4;have y5:=(HG.o.cell 5).trans (show _=some (Value.slice none 0 0) from rfl);have e5:=HG.o.frozen 5;have yl:=HG.o.lt;have bU:=bx ((((((aC.o.set 3 rfl 0 (.int .i64 t.n)).set 3 rfl 1 (.slice fa2 (qh t.p).1.length DR)).set 3 rfl 2 (.slice F9 L2.length Am)).set 3 rfl 3 (.slice ro m2 rc)).set 3 rfl 4 (.slice oa3 L3.length Xy)).set 3 rfl 5 (.slice fa3 (Ae t.m).2.length YL));refine kP 14 rfl λKK ah=>?_
 go_simp;refine ah.out _ _ (λh=>by cases h) ?_;clear ah KK;refine kD ?_ _;go_wp2_with fail;have tC:=bU.o.bel (n:=w.heap.size) (W0:=w) (by simp);refine bodyPost_ret (v:=.agg #[.int .i64 t.n, .slice fa2 (qh t.p).1.length DR, .slice F9 L2.length Am, .slice ro m2 rc, .slice oa3 L3.length Xy, .slice fa3 (Ae t.m).2.length YL]) (results_cell_row Tryz.results33 _ _ (w.heap.size+1) 31 _ (0,0) _ rfl (bU.o.blk 3 rfl) Tryz.underlying31 rfl abn) rfl ⟨tC,_,rfl,λW' ht hbw=>⟨_,_,_,_,_,rfl,?_,?_,?_,?_,?_⟩⟩
 ·exact HI2.o.below hbw
 ·exact PY (OJ (bU.o.row 1 rfl) ht) rfl iV.o hbw
 ·have hr:=ana (OJ (bU.o.row 2 rfl) ht) jf.o.symm fH.o hbw iQ.o;rw [<- jf.o,HZ1.o] at hr;have hk:=hr.take 12 (cap':=rc) (by rw [List.length_take];have:=HZ1.o;have:=jf.o;omega) (Nat.le_refl _);rw [show ((Ej t.r).take 12).length=m2 by rw [List.length_take,vK.o,<- jf.o,HZ1.o];omega] at hk;exact hk
 ·exact PY (OJ (bU.o.row 0 rfl) ht) rfl rX.o hbw
 ·exact HI3.o.below hbw
end
section
open Go.RowKit
attribute [local go_sem] Oper.semAt_some
theorem ag2 (t:Int) (w:World):Calls Tryz.prog 183 #[.int .i64 t] w λe w'=>e = .returned (.bool (decide (t<0)||decide (31<t)))/\w=w':=by
 go_enter Tryz.func183,Tryz.ntmps183
 go_wp2_with fail
 all_goals go_returns
 all_goals exact⟨aI (by first | rfl | (rw [Bool.eq_iff_iff];simp;done) | (rw [Bool.eq_iff_iff];simp;omega)),rfl⟩
theorem ah5 (t:Int) (bm:Nat) (na:Option Addr) (L nc:Nat) (w:World) (hc:w.cell? ⟨bm,1,none⟩=some (.slice na L nc)/\bm<w.heap.size) :
  Calls Tryz.prog 142 #[.int .i64 t, .pointer (some ⟨bm,0,none⟩)] w λe w'=>e = .returned (.bool (decide (t<0)||decide ((L:Int)<=t)))/\w=w':=by
 obtain⟨hc,hlt⟩:=hc
 go_enter Tryz.func142,Tryz.ntmps142
 rcases Int.lt_or_le t 0 with h | h
 ·go_wp2_with fail;go_ret
  exact⟨aI (by simp [h]),rfl⟩
 ·have e0:decide (t<0)=false:=decide_eq_false (by omega);clear h;go_wp2_with fail;go_ret
  exact⟨aI (by rw [e0,Bool.false_or]),rfl⟩
theorem adF (v:Value) (xs:List Int) (w:World) (hv:aB w v xs) (hz:xs.length<=16777216) :
  Calls Tryz.prog 182 #[v, .func (.func 183) #[] #[]] w λe w'=>(∃ i:Int,e = .returned (.int .i64 i)/\decide (0<=i)=xs.any (λt=>decide (t<0)||decide (31<t)))/\w=w':=by
 have oz:=bx hv;obtain⟨ao,cap,rfl⟩:=hv.slice;have HO:=bx (λt=>ag2 t w);clear hv
 go_enter Tryz.func182,Tryz.ntmps182
 go_wp2_with fail
 go_loop [8] (λi=>∃ k:Nat,k<=xs.length/\i = .int .i64 k/\Box ((xs.take k).any (λt=>decide (t<0)||decide (31<t))=false)) (λi=>xs.length-(intOf i).toNat)
 case atStart=>exact⟨0,by omega,rfl,⟨rfl⟩⟩
 case round =>
  obtain⟨k,hk,rfl,ha⟩:=hrel
  by_cases hlt':k<xs.length
  ·obtain⟨x,hx⟩:∃ x,xs[k]?=some x:=⟨_,List.getElem?_eq_getElem hlt'⟩
   obtain⟨g,off,cap2,hg1,hg2,hg3,hg4,hg5⟩:=oz.o.get (by rintro rfl;simp at hlt');obtain⟨rfl,rfl⟩:ao=some ⟨g,off,none⟩/\cap=cap2:=by injection hg1 with h1 h2 h3;exact⟨h1,h3⟩
   have hcx:=hg5 k x hx;have HX:=bx hx;unfold maxLen at hg3;clear hx hg1 hg5
   cases hi:(λt=>decide (t<0)||decide (31<t)) x with
   | false =>
    have HT:=bx (show (xs.take (k+1)).any (λt=>decide (t<0)||decide (31<t))=false by rw [List.take_add_one,HX.o,List.any_append,ha.o,Option.toList_some,List.any_cons,List.any_nil,Bool.or_false,Bool.false_or];exact hi);have HI:=bx hi;clear hi;go_wp2_with fail;refine(HO.o x).mono ?_;rintro e w1 ⟨rfl,rfl⟩;rw [HI.o];go_wp2_with fail
    go_round
    case rel=>exact⟨k+1,hlt',by go_num,HT⟩
    case measure=>simp [intOf];omega
   | true =>
    have HT:=bx (show xs.any (λt=>decide (t<0)||decide (31<t))=true by rw [List.any_eq_true];exact⟨x,List.mem_of_getElem? HX.o,hi⟩);have HI:=bx hi;clear hi;go_wp2_with fail;refine(HO.o x).mono ?_;rintro e w1 ⟨rfl,rfl⟩;rw [HI.o];go_wp2_with fail;go_ret
    exact⟨⟨k,rfl,by rw [HT.o];simp⟩,rfl⟩
  ·have HT:=bx (show xs.any (λt=>decide (t<0)||decide (31<t))=false by have:=ha.o;rwa [List.take_of_length_le (by omega)] at this);go_wp2_with fail;go_ret
   exact⟨⟨-1,rfl,by rw [HT.o];rfl⟩,rfl⟩
theorem anw (v:Value) (xs:List Int) (w:World) (hv:aB w v xs) (hz:xs.length<=16777216) :
  Calls Tryz.prog 143 #[v, .func (.func 183) #[] #[]] w λe w'=>e = .returned (.bool (xs.any (λt=>decide (t<0)||decide (31<t))))/\w=w':=by
 have HI:=bx (adF v xs w hv hz);clear hv
 go_enter Tryz.func143,Tryz.ntmps143
 go_wp2_with fail;refine HI.o.mono ?_;rintro e w1 ⟨⟨i,rfl,hi⟩,rfl⟩;have HX:=bx hi;clear hi;go_wp2_with fail;go_ret
 exact⟨aI (by simpa using HX.o),rfl⟩
theorem aiC (v:Value) (xs:List Int) (bm:Nat) (na:Option Addr) (L nc:Nat) (w:World) (hv:aB w v xs) (hz:xs.length<=16777216) (hc:w.cell? ⟨bm,1,none⟩=some (.slice na L nc)/\bm<w.heap.size) :
  Calls Tryz.prog 182 #[v, .func (.func 142) #[] #[.pointer (some ⟨bm,0,none⟩)]] w λe w'=>(∃ i:Int,e = .returned (.int .i64 i)/\decide (0<=i)=xs.any (λt=>decide (t<0)||decide ((L:Int)<=t)))/\w=w':=by
 have oz:=bx hv;obtain⟨ao,cap,rfl⟩:=hv.slice;have HO:=bx (λt=>ah5 t bm na L nc w hc);clear hv hc
 go_enter Tryz.func182,Tryz.ntmps182
 go_wp2_with fail
 go_loop [8] (λi=>∃ k:Nat,k<=xs.length/\i = .int .i64 k/\Box ((xs.take k).any (λt=>decide (t<0)||decide ((L:Int)<=t))=false)) (λi=>xs.length-(intOf i).toNat)
 case atStart=>exact⟨0,by omega,rfl,⟨rfl⟩⟩
 case round =>
  obtain⟨k,hk,rfl,ha⟩:=hrel
  by_cases hlt':k<xs.length
  ·obtain⟨x,hx⟩:∃ x,xs[k]?=some x:=⟨_,List.getElem?_eq_getElem hlt'⟩
   obtain⟨g,off,cap2,hg1,hg2,hg3,hg4,hg5⟩:=oz.o.get (by rintro rfl;simp at hlt');obtain⟨rfl,rfl⟩:ao=some ⟨g,off,none⟩/\cap=cap2:=by injection hg1 with h1 h2 h3;exact⟨h1,h3⟩
   have hcx:=hg5 k x hx;have HX:=bx hx;unfold maxLen at hg3;clear hx hg1 hg5
   cases hi:(λt=>decide (t<0)||decide ((L:Int)<=t)) x with
   | false =>
    have HT:=bx (show (xs.take (k+1)).any (λt=>decide (t<0)||decide ((L:Int)<=t))=false by rw [List.take_add_one,HX.o,List.any_append,ha.o,Option.toList_some,List.any_cons,List.any_nil,Bool.or_false,Bool.false_or];exact hi);have HI:=bx hi;clear hi;go_wp2_with fail;refine(HO.o x).mono ?_;rintro e w1 ⟨rfl,rfl⟩;rw [HI.o];go_wp2_with fail
    go_round
    case rel=>exact⟨k+1,hlt',by go_num,HT⟩
    case measure=>simp [intOf];omega
   | true =>
    have HT:=bx (show xs.any (λt=>decide (t<0)||decide ((L:Int)<=t))=true by rw [List.any_eq_true];exact⟨x,List.mem_of_getElem? HX.o,hi⟩);have HI:=bx hi;clear hi;go_wp2_with fail;refine(HO.o x).mono ?_;rintro e w1 ⟨rfl,rfl⟩;rw [HI.o];go_wp2_with fail;go_ret
    exact⟨⟨k,rfl,by rw [HT.o];simp⟩,rfl⟩
  ·have HT:=bx (show xs.any (λt=>decide (t<0)||decide ((L:Int)<=t))=false by have:=ha.o;rwa [List.take_of_length_le (by omega)] at this);go_wp2_with fail;go_ret
   exact⟨⟨-1,rfl,by rw [HT.o];rfl⟩,rfl⟩
theorem anu (v:Value) (xs:List Int) (bm:Nat) (na:Option Addr) (L nc:Nat) (w:World) (hv:aB w v xs) (hz:xs.length<=16777216) (hc:w.cell? ⟨bm,1,none⟩=some (.slice na L nc)/\bm<w.heap.size) :
  Calls Tryz.prog 143 #[v, .func (.func 142) #[] #[.pointer (some ⟨bm,0,none⟩)]] w λe w'=>e = .returned (.bool (xs.any (λt=>decide (t<0)||decide ((L:Int)<=t))))/\w=w':=by
 have HI:=bx (aiC v xs bm na L nc w hv hz hc);clear hv hc
 go_enter Tryz.func143,Tryz.ntmps143
 go_wp2_with fail;refine HI.o.mono ?_;rintro e w1 ⟨⟨i,rfl,hi⟩,rfl⟩;have HX:=bx hi;clear hi;go_wp2_with fail;go_ret
 exact⟨aI (by simpa using HX.o),rfl⟩
theorem MW {α:Type} {p q:α->Bool} (h:∀ x,p x=!q x) (l:List α):(!l.any p)=l.all q:=by
 induction l with
 | nil=>rfl
 | cons x t ih=>rw [List.any_cons,List.all_cons,Bool.not_or,ih,h,Bool.not_not]
theorem adr (v:Value) (xs:List Int) (w:World) (hv:aB w v xs) (hz:xs.length<=16777216) :
  Calls Tryz.prog 145 #[v] w λe w'=>e = .returned (.bool (F.gX xs))/\w=w':=by
 have HC:=bx (anw v xs w hv hz);have HA:=bx (MW (p:=λt:Int=>decide (t<0)||decide (31<t)) (q:=λv=>decide (0<=v)&&decide (v<=31)) (λx=>by rw [Bool.eq_iff_iff];simp <;> omega) xs);obtain⟨a,cap,rfl⟩:=hv.slice;obtain⟨N,hN⟩:∃ N,xs.length=N:=⟨_,rfl⟩
 rw [hN] at HC ⊢;have HN:=bx hN;generalize xs.any (λt:Int=>decide (t<0)||decide (31<t))=b at HC HA;clear hv hN
 by_cases h:N=256
 ·have e1:((N:Int)==256)=true:=by rw [beq_iff_eq];omega
  have HB:=bx (show F.gX xs=!b by unfold F.gX;rw [HA.o,HN.o,decide_eq_true h,Bool.true_and]);clear h
  go_enter Tryz.func145,Tryz.ntmps145
  go_wp2_with fail;refine HC.o.mono ?_;rintro e w1 ⟨rfl,rfl⟩;go_wp2_with fail;go_ret
  exact⟨aI (by rw [HB.o]),rfl⟩
 ·have e1:((N:Int)==256)=false:=by rw [beq_eq_false_iff_ne];omega
  have HB:=bx (show F.gX xs=false by unfold F.gX;rw [HN.o,decide_eq_false h,Bool.false_and]);clear h
  go_enter Tryz.func145,Tryz.ntmps145
  go_wp2_with fail;go_ret
  exact⟨aI HB.o.symm,rfl⟩
theorem akO (v:Value) (xs:List Int) (w:World) (hv:aB w v xs) (hz:xs.length<=16777216) :
  Calls Tryz.prog 144 #[v] w λe w'=>e = .returned (.bool (!F.gX xs))/\w=w':=by
 have HC:=bx (adr v xs w hv hz);clear hv
 go_enter Tryz.func144,Tryz.ntmps144
 go_wp2_with fail;refine HC.o.mono ?_;rintro e w1 ⟨rfl,rfl⟩;go_wp2_with fail;go_ret
 exact⟨rfl,rfl⟩
theorem amk (v:Value) (bl:List (List Int)) (w:World) (hv:fJ w v bl) (hz:bl.length<=16777216) (hzz:∀ r∈bl,r.length<=16777216) :
  Calls Tryz.prog 146 #[v, .func (.func 144) #[] #[]] w λe w'=>(∃ i:Int,e = .returned (.int .i64 i)/\decide (0<=i)=bl.any (λr=>!F.gX r))/\w=w':=by
 have oz:=bx hv;obtain⟨ao,cap,rfl⟩:=hv.slice;have HO:=bx (λu r (h:aB w u r) (hr:r∈bl)=>akO u r w h (hzz r hr));clear hv hzz
 go_enter Tryz.func146,Tryz.ntmps146
 go_wp2_with fail
 go_loop [8] (λi=>∃ k:Nat,k<=bl.length/\i = .int .i64 k/\Box ((bl.take k).any (λr=>!F.gX r)=false)) (λi=>bl.length-(intOf i).toNat)
 case atStart=>exact⟨0,by omega,rfl,⟨rfl⟩⟩
 case round =>
  obtain⟨k,hk,rfl,ha⟩:=hrel
  by_cases hlt':k<bl.length
  ·obtain⟨x,hx⟩:∃ x,bl[k]?=some x:=⟨_,List.getElem?_eq_getElem hlt'⟩
   obtain⟨g,off,cap2,hg1,hg2,hg3,hg4,hg5⟩:=oz.o.get (by rintro rfl;simp at hlt');obtain⟨rfl,rfl⟩:ao=some ⟨g,off,none⟩/\cap=cap2:=by injection hg1 with h1 h2 h3;exact⟨h1,h3⟩
   obtain⟨u,hcx,L6⟩:=hg5 k x hx;have HX:=bx hx;have wK:=bx (HO.o u x L6 (List.mem_of_getElem? hx));unfold maxLen at hg3;clear hx hg1 hg5 L6
   cases hi:F.gX x with
   | true =>
    have HT:=bx (show (bl.take (k+1)).any (λr=>!F.gX r)=false by rw [List.take_add_one,HX.o,List.any_append,ha.o,Option.toList_some,List.any_cons,hi];rfl);have HI:=bx hi;clear hi;go_wp2_with fail;refine wK.o.mono ?_;rintro e w1 ⟨rfl,rfl⟩;rw [HI.o];go_wp2_with fail
    go_round
    case rel=>exact⟨k+1,hlt',by go_num,HT⟩
    case measure=>simp [intOf];omega
   | false =>
    have HT:=bx (show bl.any (λr=>!F.gX r)=true by rw [List.any_eq_true];exact⟨x,List.mem_of_getElem? HX.o,by rw [hi];rfl⟩);have HI:=bx hi;clear hi;go_wp2_with fail;refine wK.o.mono ?_;rintro e w1 ⟨rfl,rfl⟩;rw [HI.o];go_wp2_with fail;go_ret
    exact⟨⟨k,rfl,by rw [HT.o];simp⟩,rfl⟩
  ·have HT:=bx (show bl.any (λr=>!F.gX r)=false by have:=ha.o;rwa [List.take_of_length_le (by omega)] at this);go_wp2_with fail;go_ret
   exact⟨⟨-1,rfl,by rw [HT.o];rfl⟩,rfl⟩
theorem aju (v:Value) (bl:List (List Int)) (w:World) (hv:fJ w v bl) (hz:bl.length<=16777216) (hzz:∀ r∈bl,r.length<=16777216) :
  Calls Tryz.prog 88 #[v, .func (.func 144) #[] #[]] w λe w'=>e = .returned (.bool (bl.any (λr=>!F.gX r)))/\w=w':=by
 have HI:=bx (amk v bl w hv hz hzz);clear hv hzz
 go_enter Tryz.func88,Tryz.ntmps88
 go_wp2_with fail;refine HI.o.mono ?_;rintro e w1 ⟨⟨i,rfl,hi⟩,rfl⟩;have HX:=bx hi;clear hi;go_wp2_with fail;go_ret
 exact⟨aI (by simpa using HX.o),rfl⟩
theorem Ue (v:Value) (t:F.Trie) (w:World) (hv:yN w v t) (h1:t.1.length<=100000) (h2:t.2.length<=100000) (hzz:∀ r∈t.2,r.length<=16777216) :
  Calls Tryz.prog 85 #[v] w λe w'=>e = .returned (.bool (F.iw t))/\Below w.heap.size w w':=by
 rw [F.Jo];obtain⟨xs,bl⟩:=t;obtain⟨iv,bv,rfl,hiv,hbv⟩:=hv;simp only at hiv hbv h1 h2 hzz ⊢;obtain⟨ia,ic,rfl⟩:=hiv.slice;obtain⟨ba,bc,rfl⟩:=hbv.slice;obtain⟨N,hN⟩:∃ N,xs.length=N:=⟨_,rfl⟩
 obtain⟨M,hM⟩:∃ M,bl.length=M:=⟨_,rfl⟩
 obtain⟨V,hV⟩:∃ V,V=w.alloc (.cells #[.slice ia N ic, .slice ba M bc] 25):=⟨_,rfl⟩
 have bI:=bx (show Below w.heap.size w V by rw [hV];exact aO _ _);have hkk:aj V w.heap.size 25 #[.slice ia N ic, .slice ba M bc]:=by rw [hV];exact aj.new _ _ _
 rw [hN] at hiv ⊢;rw [hM] at hbv ⊢;have c0:V.cell? ⟨w.heap.size,0,none⟩=some (.slice ia N ic):=(hkk.cell 0).trans rfl;have c1:V.cell? ⟨w.heap.size,1,none⟩=some (.slice ba M bc):=(hkk.cell 1).trans rfl;have cl:=hkk.lt;have xH:=bx (anu (.slice ia N ic) xs w.heap.size ba M bc V (hiv.below bI.o) (by omega) ⟨c1,cl⟩);have qU:=bx (aju (.slice ba M bc) bl V (hbv.below bI.o) (by omega) hzz);have HA1:=bx (MW (p:=λt:Int=>decide (t<0)||decide ((M:Int)<=t)) (q:=λn=>decide (0<=n)&&decide (n<(M:Int))) (λx=>by rw [Bool.eq_iff_iff];simp <;> omega) xs);have HA2:=bx (MW (p:=λr=>!F.gX r) (q:=F.gX) (λ_=>rfl) bl);rw [<- HA1.o,<- HA2.o];generalize xs.any (λt:Int=>decide (t<0)||decide ((M:Int)<=t))=p1 at xH ⊢;generalize bl.any (λr=>!F.gX r)=p2 at qU ⊢;have HV:=bx hV;clear hiv hbv hN hM hV hkk hzz
 by_cases h:N=4352
 ·have e1:((N:Int)==4352)=true:=by rw [beq_iff_eq];omega
  rw [decide_eq_true h,Bool.true_and];clear h
  go_enter Tryz.func85,Tryz.ntmps85
  go_upto_region 1 with(fail)
  rw [<- HV.o];go_wp2_with fail;refine xH.o.mono ?_;rintro e w1 ⟨rfl,rfl⟩
  cases p1 with
  | true =>
   go_wp2_with fail;go_ret
   exact⟨rfl,bI.o⟩
  | false =>
   go_wp2_with fail;refine qU.o.mono ?_;rintro e w2 ⟨rfl,rfl⟩;go_wp2_with fail;go_ret
   exact⟨aI (by simp),bI.o⟩
 ·have e1:((N:Int)==4352)=false:=by rw [beq_eq_false_iff_ne];omega
  rw [decide_eq_false h,Bool.false_and,Bool.false_and];clear h
  go_enter Tryz.func85,Tryz.ntmps85
  go_upto_region 1 with(fail)
  rw [<- HV.o];go_wp2_with fail;go_ret
  exact⟨rfl,bI.o⟩
theorem ais {r:Int} (h:U.right r=true):0<=r:=by
 unfold U.right at h;simp only [Bool.and_eq_true,decide_eq_true_eq,Bool.or_eq_true] at h;omega
theorem GN {w:World} {iv bv:Value} {t:F.Trie} (hi:aB w iv t.1) (hb:fJ w bv t.2) (ht:F.iw t=true) (r:Nat) (hr:r<=1114111) :
  ∃ g off cap n g2 off2 cap2 g3 nH cap3,iv = .slice (some ⟨g,off,none⟩) 4352 cap/\4352<=cap/\cap<=9223372036854775807/\g<w.heap.size/\w.cell? ⟨g,off+r / 256,none⟩=some (.int .i64 (n:Nat))/\n<t.2.length /\
   bv = .slice (some ⟨g2,off2,none⟩) t.2.length cap2/\t.2.length<=cap2/\cap2<=9223372036854775807/\g2<w.heap.size/\w.cell? ⟨g2,off2+n,none⟩=some (.slice (some ⟨g3,nH,none⟩) 256 cap3)/\256<=cap3/\cap3<=9223372036854775807/\g3<w.heap.size/\w.cell? ⟨g3,nH+r % 256,none⟩=some (.int .i64 (F.says t (r:Int))):=by
 rw [F.Jo] at ht;simp only [Bool.and_eq_true,decide_eq_true_eq,List.all_eq_true] at ht;obtain⟨⟨h1,h2⟩,h3⟩:=ht;have hd:r / 256<4352:=by omega
 obtain⟨z,hz⟩:∃ z,t.1[r / 256]?=some z:=⟨_,List.getElem?_eq_getElem (by omega)⟩
 obtain⟨z0,z1⟩:=h2 z (List.mem_of_getElem? hz);obtain⟨n,rfl⟩:=Int.eq_ofNat_of_zero_le z0;have hn:n<t.2.length:=by omega
 obtain⟨b,hbn⟩:∃ b,t.2[n]?=some b:=⟨_,List.getElem?_eq_getElem hn⟩
 have hbb:=h3 b (List.mem_of_getElem? hbn);unfold F.gX at hbb;rw [Bool.and_eq_true,decide_eq_true_eq] at hbb;obtain⟨y,hy⟩:∃ y,b[r % 256]?=some y:=⟨_,List.getElem?_eq_getElem (by rw [hbb.1];omega)⟩
 have ad8:F.says t (r:Int)=y:=by
  unfold F.says;rw [Int.toNat_natCast,List.getD_eq_getElem?_getD (l:=t.1),hz,Option.getD_some,Int.toNat_natCast,List.getD_eq_getElem?_getD (l:=t.2),hbn,Option.getD_some,List.getD_eq_getElem?_getD,hy,Option.getD_some]
 obtain⟨g,off,cap,a1,a2,a3,a4,a5⟩:=hi.get (by rintro e;rw [e] at h1;simp at h1);obtain⟨g2,off2,cap2,b1,b2,b3,b4,b5⟩:=hb.get (by rintro e;rw [e] at hn;simp at hn);obtain⟨x,hx,hxi⟩:=b5 n b hbn;obtain⟨g3,nH,cap3,c1,c2,c3,c4,c5⟩:=hxi.get (by rintro rfl;simp at hbb);unfold maxLen at a3 b3 c3;rw [h1] at a1 a2;rw [hbb.1] at c1 c2;exact⟨g,off,cap,n,g2,off2,cap2,g3,nH,cap3,a1,a2,by omega,a4,a5 _ _ hz,hn,b1,b2,by omega,b4,by rw [hx,c1],c2,by omega,c4,by rw [ad8];exact c5 _ _ hy⟩
theorem adq (v:Value) (t:F.Trie) (r:Nat) (w:World) (hv:yN w v t) (hs:t.1.length<=100000/\t.2.length<=100000/\∀ r∈t.2,r.length<=16777216) (ht:F.iw t=true) (hr:r<=1114111) :
  Calls Tryz.prog 196 #[v, .int .i64 (r:Int)] w λe w'=>e = .returned (.int .i64 (F.says t (r:Int)))/\Below w.heap.size w w':=by
 obtain⟨iv,bv,rfl,hi,hb⟩:=hv;obtain⟨V,hV⟩:∃ V,V=w.alloc (.cells #[iv,bv] 25):=⟨_,rfl⟩
 have HB0:=bx (show Below w.heap.size w V by rw [hV];exact aO _ _);have HK:=bx (show aj V w.heap.size 25 #[iv,bv] by rw [hV];exact aj.new _ _ _);have fE:=bx (λW (h:Below w.heap.size w W)=>show Calls Tryz.prog 85 #[.agg #[iv,bv]] W λe w'=>e = .returned (.bool true)/\Below W.heap.size W w' by
  have h9:=Ue (.agg #[iv,bv]) t W ⟨iv,bv,rfl,hi.below h,hb.below h⟩ hs.1 hs.2.1 hs.2.2;rw [ht] at h9;exact h9)
 have vJ:=bx (λW (h:Below w.heap.size w W)=>GN (hi.below h) (hb.below h) ht r hr);have HV:=bx hV;have k0:=(HK.o.cell 0).trans (show _=some iv from rfl);have k1:=(HK.o.cell 1).trans (show _=some bv from rfl);have kl:=HK.o.lt;generalize F.says t (r:Int)=y at vJ ⊢;generalize t.2.length=M at vJ;have e0:decide ((r:Int)<0)=false:=decide_eq_false (by omega);have e1:decide ((1114111:Int)<(r:Int))=false:=decide_eq_false (by omega);clear hi hb hs ht hV
 go_enter Tryz.func196,Tryz.ntmps196
 go_upto_region 1 with(fail)
 rw [<- HV.o];go_wp2_with fail;refine(fE.o _ HB0.o).mono ?_;rintro e w1 ⟨rfl,hb1⟩;have HB1:=bx (bt HB0.o hb1);obtain⟨g,off,cap,n,g2,off2,cap2,g3,nH,cap3,rfl,a2,a3,a4,a5,a6,rfl,b2,b3,b4,b5,c2,c3,c4,c5⟩:=vJ.o w1 HB1.o;have hk:=HK.o.below hb1 HK.o.lt;have m0:=(hk.cell 0).trans (show _=some (Value.slice (some ⟨g,off,none⟩) 4352 cap) from rfl);have m1:=(hk.cell 1).trans (show _=some (Value.slice (some ⟨g2,off2,none⟩) M cap2) from rfl);have ml:=hk.lt;clear hk hb1 k0 k1 kl;obtain⟨d,hd⟩:∃ d,r / 256=d:=⟨_,rfl⟩
 obtain⟨q,hq⟩:∃ q,r % 256=q:=⟨_,rfl⟩
 have hd1:d<4352:=by omega
 have hq1:q<256:=by omega
 have td:(r:Int).tdiv 256=(d:Int):=by rw [<- hd];rfl
 have tm:(r:Int).tmod 256=(q:Int):=by rw [<- hq];rfl
 rw [hd] at a5;rw [hq] at c5;clear hd hq;go_wp2_with fail;have HDR:=bx (λm=>HB1.o.trans ((jW w1 m).mono HB1.o.size))
 go_quiet (fail)
 go_wp2_with fail;go_ret
 exact⟨rfl,HDR.o _⟩
end
section
structure tJ (N:Nat) (ns:List Nat):Prop where
 up:∀ i,i+1<ns.length->ns.getD i 0<ns.getD (i+1) 0
 le:∀ i,i<ns.length->ns.getD i 0<=N
 ne:0<ns.length
 first:ns.getD 0 0=0
 last:ns.getD (ns.length-1) 0=N
theorem ahA {ns:List Nat} (h:ns.Pairwise (·<·)) (i:Nat) (hi:i+1<ns.length):ns.getD i 0<ns.getD (i+1) 0:=by
 rw [List.getD_eq_getElem?_getD,List.getD_eq_getElem?_getD,List.getElem?_eq_getElem (by omega),List.getElem?_eq_getElem hi,Option.getD_some,Option.getD_some];exact List.pairwise_iff_getElem.1 h i (i+1) (by omega) hi (by omega)
theorem ajp (R:List D.Rule) (M:D.bH) (nn:Nat) (L:List Int) (k:Nat):(wU R M nn L k).Pairwise (·<·)/\∀ x∈wU R M nn L k,1<=x/\x<=k:=by
 unfold wU
 constructor
 ·refine List.Pairwise.filter _ ?_;rw [List.pairwise_map];exact List.pairwise_lt_range.imp (λh=>by omega)
 ·intro x hx;obtain⟨y,hy,rfl⟩:=List.mem_map.1 (List.mem_filter.1 hx).1;rw [List.mem_range] at hy;omega
theorem aeh (R:List D.Rule) (M:D.bH) (nn:Nat) (L:List Int):∃ ns:List Nat,pz R M nn L=ns.map (λn:Nat=>(n:Int))/\tJ L.length ns:=by
 obtain⟨h1,h2⟩:=ajp R M nn L (L.length-1);unfold pz;generalize wU R M nn L (L.length-1)=m at h1 h2
 by_cases h0:0<L.length
 ·refine⟨(0::m)++[L.length],by rw [if_pos h0,List.map_append];rfl,?_⟩;have hp:((0::m)++[L.length]).Pairwise (·<·):=by
   rw [List.pairwise_append];refine⟨List.pairwise_cons.2 ⟨λx hx=>by have:=h2 x hx;omega,h1⟩,List.pairwise_singleton _ _,λx hx y hy=>?_⟩;rw [List.mem_singleton] at hy;subst hy
   rcases List.mem_cons.1 hx with rfl | hx
   ·exact h0
   ·have:=h2 x hx;omega
  refine⟨ahA hp,λi hi=>?_,by simp,rfl,?_⟩
  ·rw [List.getD_eq_getElem?_getD,List.getElem?_eq_getElem hi,Option.getD_some];have hm:=List.getElem_mem hi
   rcases List.mem_append.1 hm with hm | hm
   ·rcases List.mem_cons.1 hm with hm | hm
    ·omega
    ·have:=h2 _ hm;omega
   ·rw [List.mem_singleton] at hm;omega
  ·rw [List.getD_eq_getElem?_getD,List.length_append,List.length_singleton,Nat.add_sub_cancel,List.getElem?_append_right (Nat.le_refl _),Nat.sub_self]
   rfl
 ·have hm:m=[]:=by
   cases m with
   | nil=>rfl
   | cons x t=>have:=h2 x (List.mem_cons_self ..);omega
  refine⟨[0],by rw [if_neg h0,hm];rfl,⟨λi hi=>by simp at hi,λi hi=>?_,by simp,rfl,by simp;omega⟩⟩;simp at hi;subst hi;simp
namespace T
end T
end
namespace C
open Go.Proofs.YtdenoeakcflnmaaGreatDoor
def dA (xs:List Int) (k:Nat):Nat:=(U.textOf (xs.take k)).length
theorem QO (xs:List Int):dA xs 0=0:=rfl
theorem aiX (xs:List Int):dA xs xs.length=(U.textOf xs).length:=by unfold dA;rw [List.take_length]
theorem acE (xs:List Int) (k:Nat):U.textOf xs=U.textOf (xs.take k)++U.textOf (xs.drop k):=by rw [<- U.I9,List.take_append_drop]
theorem Zr (xs:List Int) (k:Nat):(U.textOf xs).drop (dA xs k)=U.textOf (xs.drop k):=by
 unfold dA
 conv=>lhs;rw [acE xs k]
 rw [List.drop_append,List.drop_length,Nat.sub_self]
 rfl
theorem Yw (xs:List Int) (k:Nat):(U.textOf xs).take (dA xs k)=U.textOf (xs.take k):=by
 unfold dA
 conv=>lhs;rw [acE xs k]
 rw [List.take_append,List.take_length,Nat.sub_self,List.take_zero,List.append_nil]
theorem Ie (xs:List Int) (a n:Nat):dA xs (a+n)=dA xs a+(U.textOf (T.part xs a n)).length:=by
 unfold dA T.part;rw [List.take_add,U.I9,List.length_append]
theorem Xp (xs:List Int) {a b:Nat} (h:a<=b):dA xs a<=dA xs b:=by
 obtain⟨n,rfl⟩:=Nat.exists_eq_add_of_le h;rw [Ie];omega
theorem abU (xs:List Int) (k:Nat):dA xs k<=(U.textOf xs).length:=by
 have:=Yw xs k;have h:=congrArg List.length this;rw [List.length_take] at h;unfold dA at *;omega
theorem O8 {l:List Int} (h:l≠[]):1<=(U.textOf l).length:=by
 cases l with
 | nil=>exact absurd rfl h
 | cons x t =>
  unfold U.textOf;rw [List.flatMap_cons,List.length_append];have:=(U.Kz x).1;omega
theorem aiM (xs:List Int) {a b:Nat} (h:a<b) (hb:b<=xs.length):dA xs a<dA xs b:=by
 obtain⟨n,rfl⟩:=Nat.exists_eq_add_of_le (Nat.le_of_lt h);rw [Ie];have:=O8 (l:=T.part xs a n) (by
  intro h0;have:=congrArg List.length h0;unfold T.part at this;rw [List.length_take,List.length_drop,List.length_nil] at this;omega)
 omega
theorem ab6 (xs:List Int) {a b:Nat} (h:a<=b):((U.textOf xs).drop (dA xs a)).take (dA xs b-dA xs a)=U.textOf (T.part xs a (b-a)):=by
 rw [Zr];obtain⟨n,rfl⟩:=Nat.exists_eq_add_of_le h;rw [Ie,Nat.add_sub_cancel_left,Nat.add_sub_cancel_left];unfold T.part;have:=Yw (xs.drop a) n;unfold dA at this;exact this
theorem aj2 (xs:List Int) (hx:∀ x∈xs,U.right x=true) {k:Nat} (hk:k<xs.length):U.dec ((U.textOf xs).drop (dA xs k))=some (xs.getD k 0,(U.enc (xs.getD k 0)).length):=by
 rw [Zr,List.drop_eq_getElem_cons hk];unfold U.textOf;rw [List.flatMap_cons,List.getD_eq_getElem?_getD,List.getElem?_eq_getElem hk,Option.getD_some];exact U.Oa _ (hx _ (List.getElem_mem hk)) _
theorem alM (xs:List Int) {k:Nat} (hk:k<xs.length):dA xs (k+1)=dA xs k+(U.enc (xs.getD k 0)).length:=by
 rw [Ie];unfold T.part;rw [List.drop_eq_getElem_cons hk,List.take_succ_cons,List.take_zero,List.getD_eq_getElem?_getD,List.getElem?_eq_getElem hk,Option.getD_some];unfold U.textOf;rw [List.flatMap_cons,List.flatMap_nil,List.append_nil]
def places (xs:List Int) (ns:List Nat):List Nat:=ns.map (dA xs)
def piece (xs:List Int) (ns:List Nat) (i:Nat):List UInt8:=U.textOf (T.part xs (ns.getD i 0) (ns.getD (i+1) 0-ns.getD i 0))
def pieces (xs:List Int) (ns:List Nat):List (List UInt8):=(List.range (ns.length-1)).map (piece xs ns)
theorem tu (xs:List Int) (ns:List Nat):(places xs ns).length=ns.length:=by unfold places;rw [List.length_map]
theorem pieces_len (xs:List Int) (ns:List Nat):(pieces xs ns).length=ns.length-1:=by unfold pieces;rw [List.length_map,List.length_range]
theorem yU (xs:List Int) (ns:List Nat) {i:Nat} (h:i<ns.length):(places xs ns).getD i 0=dA xs (ns.getD i 0):=by
 unfold places;rw [List.getD_eq_getElem?_getD,List.getElem?_map,List.getElem?_eq_getElem h,Option.map_some,Option.getD_some,List.getD_eq_getElem?_getD,List.getElem?_eq_getElem h,Option.getD_some]
theorem Vd (xs:List Int) (ns:List Nat) {i:Nat} (h:i+1<ns.length):(pieces xs ns).getD i []=piece xs ns i:=by
 unfold pieces;rw [List.getD_eq_getElem?_getD,List.getElem?_map,List.getElem?_range (by omega)]
 rfl
theorem WL {xs:List Int} {ns:List Nat} (hr:tJ xs.length ns) {i:Nat} (h:i+1<ns.length) :
  piece xs ns i=((U.textOf xs).drop ((places xs ns).getD i 0)).take ((places xs ns).getD (i+1) 0-(places xs ns).getD i 0):=by
 rw [yU xs ns (i:=i) (by omega),yU xs ns h,ab6 xs (Nat.le_of_lt (hr.up i h))]
 rfl
theorem NU {xs:List Int} {ns:List Nat} (hr:tJ xs.length ns) {i:Nat} (h:i+1<ns.length):(piece xs ns i).length=(places xs ns).getD (i+1) 0-(places xs ns).getD i 0:=by
 have h1:=hr.up i h;rw [yU xs ns (i:=i) (by omega),yU xs ns h];unfold piece;have:=Ie xs (ns.getD i 0) (ns.getD (i+1) 0-ns.getD i 0);rw [show ns.getD i 0+(ns.getD (i+1) 0-ns.getD i 0)=ns.getD (i+1) 0 by omega] at this;omega
theorem XF {xs:List Int} {ns:List Nat} (hr:tJ xs.length ns):(places xs ns).getD 0 0=0:=by rw [yU xs ns hr.ne,hr.first];rfl
theorem Zv {xs:List Int} {ns:List Nat} (hr:tJ xs.length ns):(places xs ns).getD (ns.length-1) 0=(U.textOf xs).length:=by
 rw [yU xs ns (by have:=hr.ne;omega),hr.last,aiX]
theorem Oe {xs:List Int} {ns:List Nat} (hr:tJ xs.length ns) {i:Nat} (h:i+1<ns.length):(places xs ns).getD i 0<(places xs ns).getD (i+1) 0:=by
 rw [yU xs ns (i:=i) (by omega),yU xs ns h];exact aiM xs (hr.up i h) (hr.le (i+1) h)
theorem sS {xs:List Int} {ns:List Nat} {i:Nat} (h:i<ns.length):(places xs ns).getD i 0<=(U.textOf xs).length:=by
 rw [yU xs ns h];exact abU xs _
theorem N7 {xs:List Int} {ns:List Nat} (hr:tJ xs.length ns):∀ k,k<ns.length->((pieces xs ns).take k).flatten=(U.textOf xs).take ((places xs ns).getD k 0)
 | 0,_=>by rw [XF hr];rfl
 | k+1,h=>by
  have ih:=N7 hr k (by omega);have hl:k<(pieces xs ns).length:=by rw [pieces_len];omega
  rw [List.take_succ_eq_append_getElem hl,List.flatten_append,ih];have hp:(pieces xs ns)[k]=piece xs ns k:=by
   have:=Vd xs ns h;rw [List.getD_eq_getElem?_getD,List.getElem?_eq_getElem hl,Option.getD_some] at this;exact this
  have hup:=Oe hr h;rw [hp,WL hr h,List.flatten_cons,List.flatten_nil,List.append_nil];have:=List.take_add (l:=U.textOf xs) (i:=(places xs ns).getD k 0) (j:=(places xs ns).getD (k+1) 0-(places xs ns).getD k 0);rw [show (places xs ns).getD k 0+((places xs ns).getD (k+1) 0-(places xs ns).getD k 0)=(places xs ns).getD (k+1) 0 by omega] at this;exact this.symm
theorem Yh {xs:List Int} {ns:List Nat} (hr:tJ xs.length ns):(pieces xs ns).flatten=U.textOf xs:=by
 have:=N7 hr (ns.length-1) (by have:=hr.ne;omega);rw [Zv hr,List.take_length,<- pieces_len xs ns,List.take_length] at this;exact this
theorem ad6 {xs:List Int} (hx:∀ x∈xs,U.right x=true) (a n:Nat):∀ x∈T.part xs a n,U.right x=true:=λx hx2=>by
 unfold T.part at hx2;exact hx x (List.mem_of_mem_drop (List.mem_of_mem_take hx2))
theorem akx {xs:List Int} (hx:∀ x∈xs,U.right x=true) (ns:List Nat) (i:Nat):U.scalars (piece xs ns i)=some (T.part xs (ns.getD i 0) (ns.getD (i+1) 0-ns.getD i 0)) :=
 (U.qK _ _).2 ⟨rfl,ad6 hx _ _⟩
theorem agH {xs:List Int} {ns:List Nat} (hr:tJ xs.length ns) {i:Nat} (h:i+1<ns.length):1<=(piece xs ns i).length:=by
 rw [NU hr h];have:=Oe hr h;omega
theorem sG:∀ s:List UInt8,(M.fix s).length<=3*s.length:=by
 refine M.WG (by simp [M.alg]) (λs hs ih=>?_);have hu:=M.Fh hs;rw [M.Ny hs,List.length_append];rw [List.length_drop] at ih
 split
 ·rw [List.length_take];omega
 ·rw [show M.mark.length=3 from rfl];omega
end C
section
open Go.RowKit
attribute [local go_sem] Oper.semAt_some
theorem GY {r:Int} (h:U.right r=true):∃ n:Nat,r=(n:Int)/\n<=1114111:=by
 have h0:=ais h;unfold U.right at h;simp only [Bool.and_eq_true,decide_eq_true_eq,Bool.or_eq_true] at h;exact⟨r.toNat,by omega,by omega⟩
def fK (n:Nat) (W0:World) (ov:Value) (l:List Int):List Pc:=[Pc.row n 3 1 ov l.length (l.map (Value.int .i64)),Pc.old n W0]
theorem zL {n:Nat} {W0 w:World} {ov:Value} {l:List Int} (h:Sep (fK n W0 ov l) w):aB w ov l/\∀ g,ov.ownBlock=some g->n<=g/\g<w.heap.size :=
 ⟨aB.gK (h.row 0 rfl) rfl,(h.row 0 rfl).lt⟩
theorem abl {w:World} {k:Nat} {o:Obj} (h:w.heap[k]?=some o):k<w.heap.size:=(Array.getElem?_eq_some_iff.1 h).1
theorem aec {own own':Nat->Prop} {A B:World} (h:Turns own A B) (hm:∀ k,own k->k<A.heap.size->own' k):Turns own' A B:=⟨h.os,h.tape,h.output,h.size,λi hi ho=>h.block i hi (λe=>ho (hm i e hi))⟩
end
section
open Go.RowKit Go.Extern.Stop Go.Stop Go.Extern
attribute [local go_sem] Oper.semAt_some
def Qr (w:World):Prop:=w.cell? ⟨9,0,none⟩=some (.iface 258 (.agg #[.pointer (some ⟨12,70,none⟩)]))
theorem amE (l n:Int) (hn:n≠0) (w:World) :
  Calls Tryz.prog 89 #[.int .i64 l, .int .i64 n] w λe w'=>e = .returned (.iface 222 (.agg #[.int .i64 l, .int .i64 n]))/\w=w':=by
 have h1:(n != 0)=true:=by rw [bne_iff_ne];exact hn
 clear hn
 go_enter Tryz.func89,Tryz.ntmps89
 go_wp2
 go_ret
 exact⟨rfl,rfl⟩
end
end Go.Proofs.YtdenoeakcflnmaaGreatDoor
