/- Texts of this claim. -/
import Derived.Shelf.Slices.ReverseS
import Derived.Sort.OwnSorted
import Derived.Test.YtdponihkpomheaaGreatDoorH17

set_option maxRecDepth 100000
set_option maxHeartbeats 8000000
namespace Go.Proofs.YtdponihkpomheaaGreatDoor
open Go.RowKit
open Tryz
section
attribute [local go_sem] Oper.semAt_some
theorem Sep.write {ps:List Pc} {W W':World} {g:Nat} {t:TypeId} {cs cs':Array Value} (h:Sep ps W) (i:Nat) (hi:ps[i]?=some (Pc.blk g t cs)) (ht:Turns (λq=>q=g) W W') (hb:aC W' g t cs'):Sep (ps.set i (Pc.blk g t cs')) W' :=
 h.upd i hi ht (λ_ hq _=>hq) hb (λ_ hk=>.inl hk)
theorem ai8 {w:World} {n:Nat} {T:TypeId} {v:Value} {L:List lJ} {B:List (Value×List Int)} (h:w.ownsRow n T 2 v (L.map pr).length ((L.map pr).flatMap fK)) (hb:(Pc.jQ qO B).ok w) (hi:sU L B):rF w v (L.map (·.1)) :=
 ⟨L,rfl,Ve h,λy hy=>(hb _ (hi y hy).1).1⟩
theorem aqP (a c:List UInt8) (rs:List F.Rec) (met:List Int) (lo ti:List F.Map) (t1 t2:List F.bI) (w:World) (hp:F.parse a=some rs) (hd:F.vX rs rs.length=some (met,lo,ti))
  (h1:F.BI c [[78,111],[67,97,115,101,100]] true=some t1) (hr1:F.uy t1=true) (h2:F.BI c [[78,111],[67,97,115,101,95,73,103,110,111,114,97,98,108,101]] true=some t2) (hr2:F.uy t2=true) :
  Calls prog 49 #[.string (bs a), .string (bs []), .string (bs c)] w λe w'=>(∃ v,e = .returned (.tuple #[v, ah 0, ah 0, ah 0])/\o8 w' v ⟨lo,ti,F.iC t1,F.iC t2⟩)/\ak w w':=by
 obtain⟨CS,hT1⟩:∃ TT,F.iC t1=TT:=⟨_,rfl⟩
 obtain⟨ES,hT2⟩:∃ TT,F.iC t2=TT:=⟨_,rfl⟩
 rw [hT1,hT2];obtain⟨V,hV⟩:∃ V,V=w.alloc (.cells #[aj, aj, aj, aj, aj, aj] 36):=⟨_,rfl⟩
 have bQ:=bx (show Sep [Pc.blk w.heap.size 36 #[aj, aj, aj, aj, aj, aj],Pc.old w.heap.size w] V by rw [hV];exact(Sep.start w).eu 36 #[aj, aj, aj, aj, aj, aj]);have Nq:=bx (amb a rs met lo ti V hp hd);have pU:=bx (λW=>hT1▸agW c [67,97,115,101,100] t1 W (by decide +kernel) h1 hr1);have HC2:=bx (λW=>hT2▸agW c [67,97,115,101,95,73,103,110,111,114,97,98,108,101] t2 W (by decide +kernel) h2 hr2);have hn1:bs [67,97,115,101,100]={ data:=#[67,97,115,101,100] }:=rfl;have hn2:bs [67,97,115,101,95,73,103,110,111,114,97,98,108,101]={ data:=#[67,97,115,101,95,73,103,110,111,114,97,98,108,101] }:=rfl;rw [hn1] at pU;rw [hn2] at HC2;have HV:=bx hV;clear hp hd h1 hr1 h2 hr2 hT1 hT2 hV hn1 hn2
 go_in
 go_upto_region 1 with(fail)
 rw [<- HV.o];obtain⟨n,hn⟩:∃ n,w.heap.size=n:=⟨_,rfl⟩
 rw [hn] at bQ ⊢;have ku:=bx hn;clear hn HV;go_wp2_with fail;refine Nq.o.mono ?_;rintro e w1 ⟨lv,tv,LO,TI,B,rfl,hLO,hTI,hiL,hiT,hS1⟩;have um:=bx hLO;have wU:=bx hTI;have zq:=bx hiL;have HIT:=bx hiT;have WJ:=bQ.o.frame (qs:=[_,_,_]) hS1;obtain⟨la,lc,rfl,-,-⟩:=gI (hS1.row 0 rfl);obtain⟨ta,tc,rfl,-,-⟩:=gI (hS1.row 1 rfl);obtain⟨ln,hln⟩:∃ ln,(LO.map pr).length=ln:=⟨_,rfl⟩
 obtain⟨tn,htn⟩:∃ tn,(TI.map pr).length=tn:=⟨_,rfl⟩
 have F8:=bx hln;have HTN:=bx htn;rw [hln,htn] at WJ ⊢;have HS2:=bx (WJ.eu 36 #[.slice la ln lc, .slice ta tn tc, aj, aj, aj, aj]);clear hLO hTI hiL hiT hS1 WJ hln htn
 go_upto_region 2 with(fail)
 obtain⟨X,hX⟩:∃ X,w1.heap.size=X:=⟨_,rfl⟩
 rw [hX] at HS2 ⊢;generalize w1.alloc (.cells #[.slice la ln lc, .slice ta tn tc, aj, aj, aj, aj] 36)=w2 at HS2 ⊢;clear hX;have hxx:=HS2.o.blk 0 rfl;have x0:w2.cell? ⟨X,0,none⟩=some (.slice la ln lc):=(hxx.cell 0).trans rfl;have x1:w2.cell? ⟨X,1,none⟩=some (.slice ta tn tc):=(hxx.cell 1).trans rfl;have x2:w2.cell? ⟨X,2,none⟩=some (aj):=(hxx.cell 2).trans rfl;have x3:w2.cell? ⟨X,3,none⟩=some (aj):=(hxx.cell 3).trans rfl;have x4:w2.cell? ⟨X,4,none⟩=some (aj):=(hxx.cell 4).trans rfl;have x5:w2.cell? ⟨X,5,none⟩=some (aj):=(hxx.cell 5).trans rfl;have xl:=hxx.lt;clear hxx;go_wp2_with fail;refine aT (apx la ta ln lc tn tc w2) λw3 hb3=>?_
 have aS:=bx (HS2.o.below hb3);clear hb3;clear x0 x1 x2 x3 x4 x5 xl;have hxx:=aS.o.blk 0 rfl;have x0:w3.cell? ⟨X,0,none⟩=some (.slice la ln lc):=(hxx.cell 0).trans rfl;have xf0:=hxx.frozen 0;have x1:w3.cell? ⟨X,1,none⟩=some (.slice ta tn tc):=(hxx.cell 1).trans rfl;have xf1:=hxx.frozen 1;have x2:w3.cell? ⟨X,2,none⟩=some (aj):=(hxx.cell 2).trans rfl;have NK:=hxx.frozen 2;have x3:w3.cell? ⟨X,3,none⟩=some (aj):=(hxx.cell 3).trans rfl;have NH:=hxx.frozen 3;have x4:w3.cell? ⟨X,4,none⟩=some (aj):=(hxx.cell 4).trans rfl;have MS:=hxx.frozen 4;have x5:w3.cell? ⟨X,5,none⟩=some (aj):=(hxx.cell 5).trans rfl;have Px:=hxx.frozen 5;have xl:=hxx.lt;clear hxx;have dJ:=bx (aS.o.write (cs':=#[.slice la ln lc, .slice ta tn tc, aj, aj, aj, aj]) (W':=((((((w3.setCell ⟨X,0,none⟩ (.slice la ln lc)).setCell ⟨X,1,none⟩ (.slice ta tn tc)).setCell ⟨X,2,none⟩ (aj)).setCell ⟨X,3,none⟩ (aj)).setCell ⟨X,4,none⟩ (aj)).setCell ⟨X,5,none⟩ (aj))) 0 rfl ((((((Turns.setCell (own:=λq=>q=X) _ (p:=⟨X,0,none⟩) rfl _).trans (Turns.setCell (own:=λq=>q=X) _ (p:=⟨X,1,none⟩) rfl _)).trans (Turns.setCell (own:=λq=>q=X) _ (p:=⟨X,2,none⟩) rfl _)).trans (Turns.setCell (own:=λq=>q=X) _ (p:=⟨X,3,none⟩) rfl _)).trans (Turns.setCell (own:=λq=>q=X) _ (p:=⟨X,4,none⟩) rfl _)).trans (Turns.setCell (own:=λq=>q=X) _ (p:=⟨X,5,none⟩) rfl _)) (((((((aS.o.blk 0 rfl).bJ 0 (.slice la ln lc)).bJ 1 (.slice ta tn tc)).bJ 2 (aj)).bJ 3 (aj)).bJ 4 (aj)).bJ 5 (aj)))
 go_upto_region 5 with(fail)
 generalize ((((((w3.setCell ⟨X,0,none⟩ (.slice la ln lc)).setCell ⟨X,1,none⟩ (.slice ta tn tc)).setCell ⟨X,2,none⟩ (aj)).setCell ⟨X,3,none⟩ (aj)).setCell ⟨X,4,none⟩ (aj)).setCell ⟨X,5,none⟩ (aj))=w4 at dJ ⊢;clear x0 x1 x2 x3 x4 x5 xf0 xf1 NK NH MS Px xl;go_wp2_with fail;refine(pU.o w4).mono ?_;rintro e w5 ⟨iv,bv,L1,rfl,hL1,hS5⟩;have nM:=bx hL1;obtain⟨ia,ic,rfl,-,-⟩:=gI (hS5.row 0 rfl);obtain⟨ba,bc,rfl,-,-⟩:=gI (hS5.row 1 rfl);have bG:=bx (dJ.o.frame (qs:=[_,_,_]) hS5);clear hL1 hS5;have hxx:=bG.o.blk 3 rfl;have x0:w5.cell? ⟨X,0,none⟩=some (.slice la ln lc):=(hxx.cell 0).trans rfl;have xf0:=hxx.frozen 0;have x1:w5.cell? ⟨X,1,none⟩=some (.slice ta tn tc):=(hxx.cell 1).trans rfl;have xf1:=hxx.frozen 1;have x2:w5.cell? ⟨X,2,none⟩=some (aj):=(hxx.cell 2).trans rfl;have NK:=hxx.frozen 2;have x3:w5.cell? ⟨X,3,none⟩=some (aj):=(hxx.cell 3).trans rfl;have NH:=hxx.frozen 3;have x4:w5.cell? ⟨X,4,none⟩=some (aj):=(hxx.cell 4).trans rfl;have MS:=hxx.frozen 4;have x5:w5.cell? ⟨X,5,none⟩=some (aj):=(hxx.cell 5).trans rfl;have Px:=hxx.frozen 5;have xl:=hxx.lt;clear hxx;have dV:=bx (bG.o.write (cs':=#[.slice la ln lc, .slice ta tn tc, .slice ia CS.1.length ic, .slice ba L1.length bc, aj, aj]) (W':=((w5.setCell ⟨X,2,none⟩ (.slice ia CS.1.length ic)).setCell ⟨X,3,none⟩ (.slice ba L1.length bc))) 3 rfl ((Turns.setCell (own:=λq=>q=X) _ (p:=⟨X,2,none⟩) rfl _).trans (Turns.setCell (own:=λq=>q=X) _ (p:=⟨X,3,none⟩) rfl _)) (((bG.o.blk 3 rfl).bJ 2 (.slice ia CS.1.length ic)).bJ 3 (.slice ba L1.length bc)))
 go_upto_region 8 with(fail)
 generalize ((w5.setCell ⟨X,2,none⟩ (.slice ia CS.1.length ic)).setCell ⟨X,3,none⟩ (.slice ba L1.length bc))=w6 at dV ⊢;clear x0 x1 x2 x3 x4 x5 xf0 xf1 NK NH MS Px xl;go_wp2_with fail;refine(HC2.o w6).mono ?_;rintro e w7 ⟨gv,dv,L2,rfl,hL2,hS7⟩;have HL2:=bx hL2;obtain⟨ja,jc,rfl,-,-⟩:=gI (hS7.row 0 rfl);obtain⟨da,dc,rfl,-,-⟩:=gI (hS7.row 1 rfl);have cO:=bx (dV.o.frame (qs:=[_,_,_]) hS7);clear hL2 hS7;have hxx:=cO.o.blk 6 rfl;have x0:w7.cell? ⟨X,0,none⟩=some (.slice la ln lc):=(hxx.cell 0).trans rfl;have xf0:=hxx.frozen 0;have x1:w7.cell? ⟨X,1,none⟩=some (.slice ta tn tc):=(hxx.cell 1).trans rfl;have xf1:=hxx.frozen 1;have x2:w7.cell? ⟨X,2,none⟩=some (.slice ia CS.1.length ic):=(hxx.cell 2).trans rfl;have NK:=hxx.frozen 2;have x3:w7.cell? ⟨X,3,none⟩=some (.slice ba L1.length bc):=(hxx.cell 3).trans rfl;have NH:=hxx.frozen 3;have x4:w7.cell? ⟨X,4,none⟩=some (aj):=(hxx.cell 4).trans rfl;have MS:=hxx.frozen 4;have x5:w7.cell? ⟨X,5,none⟩=some (aj):=(hxx.cell 5).trans rfl;have Px:=hxx.frozen 5;have xl:=hxx.lt;clear hxx;have fM:=bx (cO.o.write (cs':=#[.slice la ln lc, .slice ta tn tc, .slice ia CS.1.length ic, .slice ba L1.length bc, .slice ja ES.1.length jc, .slice da L2.length dc]) (W':=((w7.setCell ⟨X,4,none⟩ (.slice ja ES.1.length jc)).setCell ⟨X,5,none⟩ (.slice da L2.length dc))) 6 rfl ((Turns.setCell (own:=λq=>q=X) _ (p:=⟨X,4,none⟩) rfl _).trans (Turns.setCell (own:=λq=>q=X) _ (p:=⟨X,5,none⟩) rfl _)) (((cO.o.blk 6 rfl).bJ 4 (.slice ja ES.1.length jc)).bJ 5 (.slice da L2.length dc)))
 go_upto_region 10 with(fail)
 generalize ((w7.setCell ⟨X,4,none⟩ (.slice ja ES.1.length jc)).setCell ⟨X,5,none⟩ (.slice da L2.length dc))=w8 at fM ⊢;clear x0 x1 x2 x3 x4 x5 xf0 xf1 NK NH MS Px xl;have hxx:=fM.o.blk 6 rfl;have x0:w8.cell? ⟨X,0,none⟩=some (.slice la ln lc):=(hxx.cell 0).trans rfl;have x1:w8.cell? ⟨X,1,none⟩=some (.slice ta tn tc):=(hxx.cell 1).trans rfl;have x2:w8.cell? ⟨X,2,none⟩=some (.slice ia CS.1.length ic):=(hxx.cell 2).trans rfl;have x3:w8.cell? ⟨X,3,none⟩=some (.slice ba L1.length bc):=(hxx.cell 3).trans rfl;have x4:w8.cell? ⟨X,4,none⟩=some (.slice ja ES.1.length jc):=(hxx.cell 4).trans rfl;have x5:w8.cell? ⟨X,5,none⟩=some (.slice da L2.length dc):=(hxx.cell 5).trans rfl;have xl:=hxx.lt;clear hxx;have hrx:=fM.o.blk 10 rfl;have r0:w8.cell? ⟨n,0,none⟩=some (aj):=(hrx.cell 0).trans rfl;have IK:=hrx.frozen 0;have r1:w8.cell? ⟨n,1,none⟩=some (aj):=(hrx.cell 1).trans rfl;have Ig:=hrx.frozen 1;have r2:w8.cell? ⟨n,2,none⟩=some (aj):=(hrx.cell 2).trans rfl;have rf2:=hrx.frozen 2;have r3:w8.cell? ⟨n,3,none⟩=some (aj):=(hrx.cell 3).trans rfl;have rf3:=hrx.frozen 3;have r4:w8.cell? ⟨n,4,none⟩=some (aj):=(hrx.cell 4).trans rfl;have rf4:=hrx.frozen 4;have r5:w8.cell? ⟨n,5,none⟩=some (aj):=(hrx.cell 5).trans rfl;have rf5:=hrx.frozen 5;have rl:=hrx.lt;clear hrx;go_wp2_with fail;have hT:Turns (λq=>q=n) w8 ((((((w8.setCell ⟨n,0,none⟩ (.slice la ln lc)).setCell ⟨n,1,none⟩ (.slice ta tn tc)).setCell ⟨n,2,none⟩ (.slice ia CS.1.length ic)).setCell ⟨n,3,none⟩ (.slice ba L1.length bc)).setCell ⟨n,4,none⟩ (.slice ja ES.1.length jc)).setCell ⟨n,5,none⟩ (.slice da L2.length dc)):=((((((Turns.setCell (own:=λq=>q=n) _ (p:=⟨n,0,none⟩) rfl _).trans (Turns.setCell (own:=λq=>q=n) _ (p:=⟨n,1,none⟩) rfl _)).trans (Turns.setCell (own:=λq=>q=n) _ (p:=⟨n,2,none⟩) rfl _)).trans (Turns.setCell (own:=λq=>q=n) _ (p:=⟨n,3,none⟩) rfl _)).trans (Turns.setCell (own:=λq=>q=n) _ (p:=⟨n,4,none⟩) rfl _)).trans (Turns.setCell (own:=λq=>q=n) _ (p:=⟨n,5,none⟩) rfl _))
 have hk:=fM.o.lone 10 rfl hT;have hbl:aC w8 n 36 #[aj, aj, aj, aj, aj, aj]:=fM.o.blk 10 rfl;have q1:=ai8 (L:=LO) (by rw [F8.o];exact hk.row 7 rfl) (hk.at' 9 (p:=Pc.jQ qO B) rfl) zq.o;have q2:=ai8 (L:=TI) (by rw [HTN.o];exact hk.row 8 rfl) (hk.at' 9 (p:=Pc.jQ qO B) rfl) HIT.o;rw [um.o] at q1;rw [wU.o] at q2;have q3:=aN.iy (hk.row 3 rfl) rfl;have q4:=Vu (hk.row 4 rfl) (λy hy=>(hk.jQ 5 rfl y hy).1);have q5:=aN.iy (hk.row 0 rfl) rfl;have q6:=Vu (hk.row 1 rfl) (λy hy=>(hk.jQ 2 rfl y hy).1);rw [nM.o] at q4;rw [HL2.o] at q6;exact bodyPost_ret (v:=.tuple #[.agg #[.slice la ln lc, .slice ta tn tc, .slice ia CS.1.length ic, .slice ba L1.length bc, .slice ja ES.1.length jc, .slice da L2.length dc], ah 0, ah 0, ah 0]) (arb results49 _ _ n 36 #[.slice la ln lc, .slice ta tn tc, .slice ia CS.1.length ic, .slice ba L1.length bc, .slice ja ES.1.length jc, .slice da L2.length dc] (0,0) _ rfl ((((((hbl.bJ 0 (.slice la ln lc)).bJ 1 (.slice ta tn tc)).bJ 2 (.slice ia CS.1.length ic)).bJ 3 (.slice ba L1.length bc)).bJ 4 (.slice ja ES.1.length jc)).bJ 5 (.slice da L2.length dc)) underlying36 rfl TM) rfl
  ⟨⟨_,rfl,_,_,_,_,_,_,rfl,q1,q2,q3,q4,q5,q6⟩,by (try unfold ak);rw [ku.o];exact hk.bel (n:=n) (W0:=w) (by simp)⟩
end
section
open Go.Extern.Stop Go.Stop Go.Extern
namespace Ao
abbrev VP (a:Addr):Value:=.agg #[.pointer (some ⟨16,183,none⟩), .pointer (some a), .int .u64 150]
theorem X8 (t:Addr) (w:World):(ReflectliteValue.unpack (.iface 183 (.pointer (some t)))).run prog w
  = .ok (VP ⟨w.heap.size,0,none⟩) (w.alloc (.cells #[.pointer (some t)] 183)):=by kernel_rfl
theorem VT (a:Addr) (w:World):(ReflectliteValue.methodAny (ReflectliteValue.valueError "reflectlite.Value.Type" 0) (λt _ _ _=>ReflectliteType.toType t) #[VP a]).run prog w
  = .ok (.iface 351 (.agg #[.pointer (some ⟨16,183,none⟩)])) w:=by kernel_rfl
theorem ZJ (w:World):((ReflectliteType.abiMethod λt=>(λa:Nat=>Value.int IntKind.u8 (a:Int)) <$> Rtype.kind t) #[.pointer (some ⟨16,183,none⟩)]).run prog w = .ok (.int .u8 22) w:=by kernel_rfl
theorem WV (w:World):((ReflectliteType.abiMethod λt=>(λa:Nat=>Value.int IntKind.u8 (a:Int)) <$> Rtype.kind t) #[.pointer (some ⟨16,91,none⟩)]).run prog w = .ok (.int .u8 25) w:=by kernel_rfl
theorem aan (w:World):(ReflectliteType.method ReflectliteType.elem #[.agg #[.pointer (some ⟨16,183,none⟩)]]).run prog w = .ok (.iface 351 (.agg #[.pointer (some ⟨16,91,none⟩)])) w:=by kernel_rfl
theorem WC (w:World):(ReflectliteType.relation "Implements" ReflectliteType.implements_ #[.agg #[.pointer (some ⟨16,91,none⟩)], .iface 351 (.agg #[.pointer (some ⟨16,87,none⟩)])]).run prog w = .ok (.bool true) w:=by kernel_rfl
theorem ZW (v:Value) (w:World):(ReflectliteType.typeOf #[.iface 91 v]).run prog w = .ok (.iface 351 (.agg #[.pointer (some ⟨16,91,none⟩)])) w:=by kernel_rfl
theorem VH (w:World):(ReflectliteType.relation "AssignableTo" ReflectliteType.assignableTo #[.agg #[.pointer (some ⟨16,91,none⟩)], .iface 351 (.agg #[.pointer (some ⟨16,91,none⟩)])]).run prog w = .ok (.bool true) w:=by kernel_rfl
theorem Ym (x:Value) (w:World):(ReflectliteValue.unpack (.iface 91 (.agg #[x]))).run prog w
  = .ok (.agg #[.pointer (some ⟨16,91,none⟩), aA (w.heap.size), .int .u64 153]) (w.alloc (.cells #[x] 91)):=by kernel_rfl
theorem NM (a:Addr) (w:World):(ReflectliteValue.parts (VP a)).run prog w = .ok (some (183,a,150)) w:=by kernel_rfl
theorem XU (a p:Addr) (W:World) (ha:W.cell? a=some (.pointer (some p))) :
  (ReflectliteValue.method (ReflectliteValue.valueError "reflectlite.Value.IsNil" 0) ReflectliteValue.isNil #[VP a]).run prog W = .ok (.bool false) W:=by
 rw [As.rlm];simp only [Sem.run_bind,NM,Result.andThen];simp [ReflectliteValue.isNil,loadVar,isAgg,underlying,underlying183,ha,Result.andThen]
theorem Xp (w:World):(Rtype.elem? 183).run prog w = .ok (some 91) w:=by kernel_rfl
abbrev VW (p:Addr) (fl:Int):Value:=.agg #[.pointer (some ⟨16,91,none⟩), .pointer (some p), .int .u64 fl]
theorem Zu (p:Addr) (w:World):(ReflectliteValue.mk 91 p ReflectliteValue.flagAddr).run prog w = .ok (VW p 409) w:=by kernel_rfl
theorem elemV (a p:Addr) (W:World) (ha:W.cell? a=some (.pointer (some p))) :
  (ReflectliteValue.method (ReflectliteValue.valueError "reflectlite.Value.Elem" 0) ReflectliteValue.elem #[VP a]).run prog W = .ok (VW p 409) W:=by
 rw [As.rlm];simp only [Sem.run_bind,NM,Result.andThen];simp [ReflectliteValue.elem,loadVar,isAgg,underlying,underlying183,ha,Result.andThen,Xp,Zu]
theorem YT (a:Addr) (w:World):(ReflectliteValue.parts (VW a 409)).run prog w = .ok (some (91,a,409)) w:=by kernel_rfl
theorem VI (a:Addr) (w:World):(ReflectliteValue.parts (VW a 153)).run prog w = .ok (some (91,a,153)) w:=by kernel_rfl
theorem Yn (w:World):(Rtype.directlyAssignable 91 91).run prog w = .ok true w:=by kernel_rfl
theorem ade:(prog.info? 91).map (·.size)=some 1:=by kernel_rfl
theorem setW (ta b:Nat) (x o1:Value) (W:World) (hb:aC W b 91 #[x]) (ht:aC W ta 91 #[o1]) (h1:x.oneCell'=true) :
  (ReflectliteValue.set #[VW ⟨ta,0,none⟩ 409,VW ⟨b,0,none⟩ 153]).run prog W = .ok (.tuple #[]) (W.setRow ta #[x]):=by
 rw [As.rls];simp only [Sem.run_bind,YT,VI,Result.andThen];simp [ReflectliteValue.flagAddr,run_loadVar_row W b 91 91 _ (0,0) _ hb underlying91 rfl ade,Result.andThen,Yn];rw [run_storeVar_row W ta 91 91 #[o1] #[x] ht ade rfl (by simp [h1])]
end Ao
theorem atD (n:Int) (tb:Nat) (o1:Value) (w:World) (hg:zW w) (ht:aC w tb 91 #[o1]) :
  Calls prog 114 #[.iface 91 (.agg #[ah n]), .iface 183 (aA tb)] w λe w'=>e = .returned (.bool true)/\aC w' tb 91 #[ah n]/\Turns (λk=>k=tb) w w':=by
 have h6:=@run_callFunc_extern prog 198 _ (λargs=>ReflectliteValue.unpack (args.getD 0 (.tuple #[]))) func198 (by kernel_rfl) (by kernel_rfl) (by kernel_rfl) (by kernel_rfl);have h7:=@run_callFunc_extern prog 199 _ (ReflectliteValue.methodAny (ReflectliteValue.valueError "reflectlite.Value.Type" 0) (λt _ _ _=>ReflectliteType.toType t)) func199 (by kernel_rfl) (by kernel_rfl) (by kernel_rfl) (by kernel_rfl);have h8:=@run_callFunc_extern prog 200 _ (ReflectliteValue.method (ReflectliteValue.valueError "reflectlite.Value.IsNil" 0) ReflectliteValue.isNil) func200 (by kernel_rfl) (by kernel_rfl) (by kernel_rfl) (by kernel_rfl);have h27:=@run_callFunc_extern prog 371 _ (ReflectliteType.abiMethod λt=>do pure (.int .u8 (<- Rtype.kind t))) func371 (by kernel_rfl) (by kernel_rfl) (by kernel_rfl) (by kernel_rfl);have h37:=@run_callFunc_extern prog 383 _ (ReflectliteType.method ReflectliteType.elem) func383 (by kernel_rfl) (by kernel_rfl) (by kernel_rfl) (by kernel_rfl);have h38:=@run_callFunc_extern prog 384 _ (ReflectliteType.relation "Implements" ReflectliteType.implements_) func384 (by kernel_rfl) (by kernel_rfl) (by kernel_rfl) (by kernel_rfl);have h10:=@run_callFunc_extern prog 232 _ ReflectliteType.typeOf func232 (by kernel_rfl) (by kernel_rfl) (by kernel_rfl) (by kernel_rfl);have h35:=@run_callFunc_extern prog 381 _ (ReflectliteType.relation "AssignableTo" ReflectliteType.assignableTo) func381 (by kernel_rfl) (by kernel_rfl) (by kernel_rfl) (by kernel_rfl);have h11:=@run_callFunc_extern prog 268 _ (ReflectliteValue.method (ReflectliteValue.valueError "reflectlite.Value.Elem" 0) ReflectliteValue.elem) func268 (by kernel_rfl) (by kernel_rfl) (by kernel_rfl) (by kernel_rfl);have h12:=@run_callFunc_extern prog 269 _ ReflectliteValue.set func269 (by kernel_rfl) (by kernel_rfl) (by kernel_rfl) (by kernel_rfl);have tO:=Ao.ZW;have mA:=As.methodAssignableTo;have aW:=Ao.VH;have vW:=Ao.Ym;have f6:=Ao.X8;have f7:=Ao.VT;have mK:=As.methodKind;have mE:=As.methodElem;have mI:=As.methodImplements;have kP:=Ao.ZJ;have kW:=Ao.WV;have eP:=Ao.aan;have iW:=Ao.WC;obtain⟨W1,hW1⟩:∃ W1,W1=w.alloc (.cells #[aA tb] 183):=⟨_,rfl⟩
 obtain⟨W2,hW2⟩:∃ W2,W2=W1.alloc (.cells #[.pointer (some ⟨16,183,none⟩), aA (w.heap.size), .int .u64 150] 276):=⟨_,rfl⟩
 obtain⟨W3,hW3⟩:∃ W3,W3=W2.alloc (.cells #[.pointer (some ⟨16,183,none⟩), aA (w.heap.size), .int .u64 150] 276):=⟨_,rfl⟩
 obtain⟨W4,Ee⟩:∃ W4,W4=W3.alloc (.cells #[ah n] 91):=⟨_,rfl⟩
 have b1:ak w W1:=by rw [hW1];exact dA _ _
 have b2:ak W1 W2:=by rw [hW2];exact dA _ _
 have b3:ak W2 W3:=by rw [hW3];exact dA _ _
 have b4:ak W3 W4:=by rw [Ee];exact dA _ _
 have k1:aC W1 w.heap.size 183 #[aA tb]:=by rw [hW1];exact aC.new _ _ _
 have k4:aC W4 W3.heap.size 91 #[ah n]:=by rw [Ee];exact aC.new _ _ _
 have t1:=ht.below b1 ht.lt;have t2:=t1.below b2 t1.lt;have t3:=t2.below b3 t2.lt;have t4:=t3.below b4 t3.lt;have hg0:6<w.heap.size:=World.block_lt_of_cell? w _ hg;have n8:=Ao.XU ⟨w.heap.size,0,none⟩ ⟨tb,0,none⟩ W2 (((k1.below b2 k1.lt).cell 0).trans rfl);have hg2:W2.cell? ⟨6,0,none⟩=some (.iface 351 (.agg #[.pointer (some ⟨16,87,none⟩)])):=(b2.cell (p:=⟨6,0,none⟩) (fC hg0 b1.size)).trans ((b1.cell (p:=⟨6,0,none⟩) hg0).trans hg);have el:=Ao.elemV ⟨w.heap.size,0,none⟩ ⟨tb,0,none⟩ W3 ((((k1.below b2 k1.lt).below b3 (k1.below b2 k1.lt).lt).cell 0).trans rfl);have st:=Ao.setW tb W3.heap.size (ah n) o1 W4 k4 t4 rfl;have xk:=bx (show Turns (λk=>k=tb) w (W4.setRow tb #[ah n]) from
  (Turns.of_below (b1.trans ((b2.trans ((bt b3 b4).mono b2.size)).mono b1.size))).trans (aiP W4 tb _))
 have yZ:=bx (t4.setRow #[ah n]);rw [Ee,hW3,hW2,hW1] at xk yZ st;rw [hW3,hW2,hW1] at el;rw [hW2,hW1] at hg2 n8;clear b1 b2 b3 b4 k1 k4 t1 t2 t3 t4 hW1 hW2 hW3 Ee hg hg0 ht;simp only [World.size_alloc] at st
 go_in
 go_wp2
 refine wp_loop_rounds 1 ?_;rw [rounds_succ]
 go_wp2
 go_ret
 exact⟨rfl,yZ.o,xk.o⟩
theorem yA (n:Int) (w:World) (hg:zW w) :
  Calls prog 54 #[.iface 91 (.agg #[ah n])] w λe w'=>e = .returned (ah n)/\ak w w':=by
 obtain⟨V,hV⟩:∃ V,V=w.alloc (.cells #[ah 0] 91):=⟨_,rfl⟩
 have HB:=bx (aB hV);have HK:=bx (aK hV);have HV:=bx hV;have HA:=bx (atD n w.heap.size (ah 0) V ((HB.o.cell (p:=⟨6,0,none⟩) (World.block_lt_of_cell? w _ hg)).trans hg) HK.o);clear hV hg
 go_in
 go_upto_region 2 with(fail)
 rw [<- HV.o];go_wp2_with fail;refine HA.o.mono ?_;rintro e w1 ⟨rfl,hk1,ht1⟩;have HB1:=bx (HB.o.trans (ht1.below HB.o.size (λk hk=>by omega)));have x0:w1.cell? ⟨w.heap.size,0,none⟩=some (ah n):=(hk1.cell 0).trans rfl;clear hk1 ht1
 go_wp2
 go_ret
 exact⟨rfl,HB1.o⟩
end
section
open Go.Shelf Go.Proofs
def aj0:Go.Shelf.Ren:=⟨fun | 17=>72 | n=>n,fun | 0=>0 | 3=>3 | 4=>4 | 9=>9 | 24=>49 | n=>n,fun | n=>n⟩
theorem adV:Go.Proofs.Lays2.n17 prog aj0:={
 mixed:=by kernel_rfl
 f17:=func72.trans (congrArg some (by kernel_rfl))
 t0:=underlying0
 a0:=isAgg0
 z0:=sizeOf0
 v0:=zeroValue0
 t3:=underlying3
 a3:=isAgg3
 z3:=sizeOf3
 v3:=zeroValue3
 t4:=underlying4
 a4:=isAgg4
 z4:=sizeOf4
 v4:=zeroValue4
 t9:=underlying9
 a9:=isAgg9
 z9:=sizeOf9
 v9:=zeroValue9
 t24:=underlying49
 a24:=isAgg49
 z24:=sizeOf49
 v24:=zeroValue49 }
open Go.Lib Go.Sort in
theorem aoP (blk off cap:Nat) (zs:List (List UInt8)) (w:World) (hH:Go.Sort.Holds encStr w blk off zs.toArray) (hsz:zs.length<=9223372036854775807) :
  Calls prog 72 #[.slice (some ⟨blk,off,none⟩) zs.length cap] w λe w'=>e = .returned (.tuple #[])/\∃ n,w'=putRow encStr (Sort.ahead w n) blk off zs.reverse.toArray:=Any.slices_Reverse_string adV blk off cap zs w hH hsz
open Go.Lib Go.Sort in
theorem apM (a:Option Addr) (cap:Nat) (w:World) :
  Calls prog 72 #[.slice a 0 cap] w λe w'=>e = .returned (.tuple #[])/\w'=w:=Any.slices_Reverse_string_empty adV a cap w
end
theorem akg (base:Nat) (v:Value) (ls:List (List UInt8)) (w:World) (hv:w.ownsRow base 9 1 v ls.length (ls.map gW)) (hz:ls.length<=1000000) :
  Calls prog 72 #[v] w λe w'=>e = .returned (.tuple #[])/\w'.ownsRow base 9 1 v ls.length (ls.reverse.map gW)/\w.grownBy w' v.ownBlock:=by
 rcases hv.2 with⟨rfl,h2⟩ | ⟨g,cap,cur,rfl,hb,hg,h3,h4,h5,h6⟩
 ·have hz0:ls=[]:=nR h2;subst hz0;refine(apM none 0 w).mono ?_;rintro e' W' ⟨rfl,rfl⟩;exact⟨rfl,hv,⟨rfl,rfl,rfl,bK _,λ_ _ _=>rfl⟩⟩
 rw [Nat.mul_one] at h6;refine(aoP g 0 cap ls w (Go.holds_of_block hg h6) (by omega)).mono ?_;rintro e' W' ⟨rfl,q,rfl⟩;have hgb:=Go.grownBy_sorted (w:=w) (g:=g) (n:=q) (os:=#[]) ls.reverse.toArray;have hro:=Go.ownsRow_sorted (n:=q) (os:=#[]) (ts:=ls.reverse) (by simp) hb hg h3 h4 h5;have hg0:∀ w:World,Go.Sort.grow w #[]=w:=λw=>by simp [Go.Sort.grow]
 rw [hg0] at hgb hro;exact⟨rfl,hro,hgb⟩
end Go.Proofs.YtdponihkpomheaaGreatDoor
