/- Texts of this claim. -/
import Derived.Shelf.Slices.ReverseS
import Derived.Sort.OwnSorted
import Derived.Test.YtdponihkpomheaaGreatDoorK18

set_option maxRecDepth 100000
set_option maxHeartbeats 8000000
namespace Go.Proofs.YtdponihkpomheaaGreatDoor
open Go.RowKit
open Tryz
section
attribute[local go_sem] Oper.semAt_some
theorem Sep.write{ps:List Pc}{W W':World}{g:Nat}{t:TypeId}{cs cs':Array Value}(h:Sep ps W)(i:Nat)(hi:ps[i]?=some (Pc.blk g t cs))(ZM:Turns (λq=>q=g) W W')(Z8:Zv W' g t cs'):Sep (ps.set i (Pc.blk g t cs')) W' :=
 h.upd i hi ZM (λ_ Zs _=>Zs) Z8 (λ_ Z3=>.inl Z3)
theorem acn{w:World}{n:Nat}{T:TypeId}{v:Value}{L:List QP}{B:List (Value×List Int)}(h:w.ownsRow n T 2 v (L.map Tl).length ((L.map Tl).flatMap UR))(Z8:(Pc.aL Nw B).ok w)(hi:Mf L B):NR w v (L.map (·.1)):=
 ⟨L,rfl,mh h,λy ZJ=>(Z8 _ (hi y ZJ).1).1⟩
theorem arJ(a c:List UInt8)(rs:List F.Rec)(met:List Int)(lo ti:List F.Map)(t1 t2:List F.ag)(w:World)(hp:F.parse a=some rs)(Zm:F.bP rs rs.length=some (met,lo,ti))(Z7:F.cx c [[78,111],[67,97,115,101,100]] true=some t1)(QY:F.bB t1=true)(Z5:F.cx c [[78,111],[67,97,115,101,95,73,103,110,111,114,97,98,108,101]] true=some t2)(Pf:F.bB t2=true):
  Calls prog 49 #[.string (bs a),.string (bs []),.string (bs c)] w λe w'=>(∃v,e=.returned (.tuple #[v,Z9 0,Z9 0,Z9 0])/\Sq w' v ⟨lo,ti,F.aC t1,F.aC t2⟩)/\Z6 w w':=by
 obtain⟨Ek,F8⟩:∃Vw,F.aC t1=Vw:=⟨_,rfl⟩
 obtain⟨Co,uo⟩:∃Vw,F.aC t2=Vw:=⟨_,rfl⟩
 rw[F8,uo];obtain⟨V,ZO⟩:∃V,V=w.alloc (.cells #[Z1,Z1,Z1,Z1,Z1,Z1] 36):=⟨_,rfl⟩
 have XI:=bx (show Sep [Pc.blk w.heap.size 36 #[Z1,Z1,Z1,Z1,Z1,Z1],Pc.old w.heap.size w] V by rw[ZO];exact(Sep.start w).ak 36 #[Z1,Z1,Z1,Z1,Z1,Z1]);have uR:=bx (aqa a rs met lo ti V hp Zm);have UH:=bx (λW=>F8▸abE c [67,97,115,101,100] t1 W (by rfl) Z7 QY);have UA:=bx (λW=>uo▸abE c [67,97,115,101,95,73,103,110,111,114,97,98,108,101] t2 W (by rfl) Z5 Pf);have LD:bs [67,97,115,101,100]={data:=#[67,97,115,101,100]}:=rfl;have FX:bs [67,97,115,101,95,73,103,110,111,114,97,98,108,101]={data:=#[67,97,115,101,95,73,103,110,111,114,97,98,108,101]}:=rfl;rw[LD]at UH;rw[FX]at UA;have ZN:=bx ZO;clear hp Zm Z7 QY Z5 Pf F8 uo ZO LD FX
 go_in
 go_upto_region 1 with(fail)
 rw[<-ZN.o];obtain⟨n,ZP⟩:∃n,w.heap.size=n:=⟨_,rfl⟩
 rw[ZP]at XI⊢;have SG:=bx ZP;clear ZP ZN;go_wp2_with fail;refine uR.o.mono ?_;rintro e ZV ⟨Zc,YI,Ti,Th,B,rfl,afT,af1,agl,agm,Pz⟩;have O9:=bx afT;have Pr:=bx af1;have Iz:=bx agl;have MN:=bx agm;have mO:=XI.o.frame (qs:=[_,_,_]) Pz;obtain⟨Yr,lc,rfl,-,-⟩:=UG (Pz.row 0 rfl);obtain⟨VR,Ub,rfl,-,-⟩:=UG (Pz.row 1 rfl);obtain⟨QF,Kb⟩:∃QF,(Ti.map Tl).length=QF:=⟨_,rfl⟩
 obtain⟨Yk,zH⟩:∃Yk,(Th.map Tl).length=Yk:=⟨_,rfl⟩
 have PW:=bx Kb;have aiT:=bx zH;rw[Kb,zH]at mO⊢;have V1:=bx (mO.ak 36 #[.slice Yr QF lc,.slice VR Yk Ub,Z1,Z1,Z1,Z1]);clear afT af1 agl agm Pz mO Kb zH
 go_upto_region 2 with(fail)
 obtain⟨X,TM⟩:∃X,ZV.heap.size=X:=⟨_,rfl⟩
 rw[TM]at V1⊢;generalize ZV.alloc (.cells #[.slice Yr QF lc,.slice VR Yk Ub,Z1,Z1,Z1,Z1] 36)=ZB at V1⊢;clear TM;have VL:=V1.o.blk 0 rfl;have Ws:=VL.q0;have XX:=VL.q1;have V2:=VL.q2;have V4:=VL.q3;have UO:=VL.q4;have T1:=VL.q5;have Sm:=VL.lt;clear VL;go_wp2_with fail;refine Y3 (asd Yr VR QF lc Yk Ub ZB) λZh Zb=>?_
 have WT:=bx (V1.o.below Zb);clear Zb;clear Ws XX V2 V4 UO T1 Sm;have VL:=WT.o.blk 0 rfl;have Ws:=VL.q0;have tm:=VL.frozen 0;have XX:=VL.q1;have tl:=VL.frozen 1;have V2:=VL.q2;have uM:=VL.frozen 2;have V4:=VL.q3;have wV:=VL.frozen 3;have UO:=VL.q4;have vf:=VL.frozen 4;have T1:=VL.q5;have vs:=VL.frozen 5;have Sm:=VL.lt;clear VL;have Wp:=bx (WT.o.write (cs':=#[.slice Yr QF lc,.slice VR Yk Ub,Z1,Z1,Z1,Z1]) (W':=((((((Zh.setCell ⟨X,0,none⟩ (.slice Yr QF lc)).setCell ⟨X,1,none⟩ (.slice VR Yk Ub)).setCell ⟨X,2,none⟩ (Z1)).setCell ⟨X,3,none⟩ (Z1)).setCell ⟨X,4,none⟩ (Z1)).setCell ⟨X,5,none⟩ (Z1))) 0 rfl ((((((Turns.setCell (own:=λq=>q=X) _ (p:=⟨X,0,none⟩) rfl _).trans (Turns.setCell (own:=λq=>q=X) _ (p:=⟨X,1,none⟩) rfl _)).trans (Turns.setCell (own:=λq=>q=X) _ (p:=⟨X,2,none⟩) rfl _)).trans (Turns.setCell (own:=λq=>q=X) _ (p:=⟨X,3,none⟩) rfl _)).trans (Turns.setCell (own:=λq=>q=X) _ (p:=⟨X,4,none⟩) rfl _)).trans (Turns.setCell (own:=λq=>q=X) _ (p:=⟨X,5,none⟩) rfl _)) (((((((WT.o.blk 0 rfl).ai 0 (.slice Yr QF lc)).ai 1 (.slice VR Yk Ub)).ai 2 Z1).ai 3 Z1).ai 4 Z1).ai 5 Z1))
 go_upto_region 5 with(fail)
 generalize((((((Zh.setCell ⟨X,0,none⟩ (.slice Yr QF lc)).setCell ⟨X,1,none⟩ (.slice VR Yk Ub)).setCell ⟨X,2,none⟩ (Z1)).setCell ⟨X,3,none⟩ (Z1)).setCell ⟨X,4,none⟩ (Z1)).setCell ⟨X,5,none⟩ (Z1))=YL at Wp⊢;clear Ws XX V2 V4 UO T1 tm tl uM wV vf vs Sm;go_wp2_with fail;refine(UH.o YL).mono ?_;rintro e YK ⟨ZD,bv,Kq,rfl,K9,OX⟩;have Xg:=bx K9;obtain⟨U0,UQ,rfl,-,-⟩:=UG (OX.row 0 rfl);obtain⟨XD,Wm,rfl,-,-⟩:=UG (OX.row 1 rfl);have XO:=bx (Wp.o.frame (qs:=[_,_,_]) OX);clear K9 OX;have VL:=XO.o.blk 3 rfl;have Ws:=VL.q0;have tm:=VL.frozen 0;have XX:=VL.q1;have tl:=VL.frozen 1;have V2:=VL.q2;have uM:=VL.frozen 2;have V4:=VL.q3;have wV:=VL.frozen 3;have UO:=VL.q4;have vf:=VL.frozen 4;have T1:=VL.q5;have vs:=VL.frozen 5;have Sm:=VL.lt;clear VL;have WQ:=bx (XO.o.write (cs':=#[.slice Yr QF lc,.slice VR Yk Ub,.slice U0 Ek.1.length UQ,.slice XD Kq.length Wm,Z1,Z1]) (W':=((YK.setCell ⟨X,2,none⟩ (.slice U0 Ek.1.length UQ)).setCell ⟨X,3,none⟩ (.slice XD Kq.length Wm))) 3 rfl ((Turns.setCell (own:=λq=>q=X) _ (p:=⟨X,2,none⟩) rfl _).trans (Turns.setCell (own:=λq=>q=X) _ (p:=⟨X,3,none⟩) rfl _)) (((XO.o.blk 3 rfl).ai 2 (.slice U0 Ek.1.length UQ)).ai 3 (.slice XD Kq.length Wm)))
 go_upto_region 8 with(fail)
 generalize((YK.setCell ⟨X,2,none⟩ (.slice U0 Ek.1.length UQ)).setCell ⟨X,3,none⟩ (.slice XD Kq.length Wm))=XA at WQ⊢;clear Ws XX V2 V4 UO T1 tm tl uM wV vf vs Sm;go_wp2_with fail;refine(UA.o XA).mono ?_;rintro e Xi ⟨k2,EO,Np,rfl,Kj,Wl⟩;have UI:=bx Kj;obtain⟨EC,EB,rfl,-,-⟩:=UG (Wl.row 0 rfl);obtain⟨BS,BR,rfl,-,-⟩:=UG (Wl.row 1 rfl);have Wb:=bx (WQ.o.frame (qs:=[_,_,_]) Wl);clear Kj Wl;have VL:=Wb.o.blk 6 rfl;have Ws:=VL.q0;have tm:=VL.frozen 0;have XX:=VL.q1;have tl:=VL.frozen 1;have V2:=VL.q2;have uM:=VL.frozen 2;have V4:=VL.q3;have wV:=VL.frozen 3;have UO:=VL.q4;have vf:=VL.frozen 4;have T1:=VL.q5;have vs:=VL.frozen 5;have Sm:=VL.lt;clear VL;have TS:=bx (Wb.o.write (cs':=#[.slice Yr QF lc,.slice VR Yk Ub,.slice U0 Ek.1.length UQ,.slice XD Kq.length Wm,.slice EC Co.1.length EB,.slice BS Np.length BR]) (W':=((Xi.setCell ⟨X,4,none⟩ (.slice EC Co.1.length EB)).setCell ⟨X,5,none⟩ (.slice BS Np.length BR))) 6 rfl ((Turns.setCell (own:=λq=>q=X) _ (p:=⟨X,4,none⟩) rfl _).trans (Turns.setCell (own:=λq=>q=X) _ (p:=⟨X,5,none⟩) rfl _)) (((Wb.o.blk 6 rfl).ai 4 (.slice EC Co.1.length EB)).ai 5 (.slice BS Np.length BR)))
 go_upto_region 10 with(fail)
 generalize((Xi.setCell ⟨X,4,none⟩ (.slice EC Co.1.length EB)).setCell ⟨X,5,none⟩ (.slice BS Np.length BR))=Va at TS⊢;clear Ws XX V2 V4 UO T1 tm tl uM wV vf vs Sm;have VL:=TS.o.blk 6 rfl;have Ws:=VL.q0;have XX:=VL.q1;have V2:=VL.q2;have V4:=VL.q3;have UO:=VL.q4;have T1:=VL.q5;have Sm:=VL.lt;clear VL;have Tx:=TS.o.blk 10 rfl;have S2:=Tx.q0;have AS:=Tx.frozen 0;have r1:=Tx.q1;have A5:=Tx.frozen 1;have r2:=Tx.q2;have axZ:=Tx.frozen 2;have r3:=Tx.q3;have ax0:=Tx.frozen 3;have r4:=Tx.q4;have ax1:=Tx.frozen 4;have Tu:=Tx.q5;have ax2:=Tx.frozen 5;have rl:=Tx.lt;clear Tx;go_wp2_with fail;have Yo:Turns (λq=>q=n) Va ((((((Va.setCell ⟨n,0,none⟩ (.slice Yr QF lc)).setCell ⟨n,1,none⟩ (.slice VR Yk Ub)).setCell ⟨n,2,none⟩ (.slice U0 Ek.1.length UQ)).setCell ⟨n,3,none⟩ (.slice XD Kq.length Wm)).setCell ⟨n,4,none⟩ (.slice EC Co.1.length EB)).setCell ⟨n,5,none⟩ (.slice BS Np.length BR)):=((((((Turns.setCell (own:=λq=>q=n) _ (p:=⟨n,0,none⟩) rfl _).trans (Turns.setCell (own:=λq=>q=n) _ (p:=⟨n,1,none⟩) rfl _)).trans (Turns.setCell (own:=λq=>q=n) _ (p:=⟨n,2,none⟩) rfl _)).trans (Turns.setCell (own:=λq=>q=n) _ (p:=⟨n,3,none⟩) rfl _)).trans (Turns.setCell (own:=λq=>q=n) _ (p:=⟨n,4,none⟩) rfl _)).trans (Turns.setCell (own:=λq=>q=n) _ (p:=⟨n,5,none⟩) rfl _))
 have Z3:=TS.o.lone 10 rfl Yo;have Ur:=TS.o.blk 10 rfl;have q1:=acn (L:=Ti) (by rw[PW.o];exact Z3.row 7 rfl) (Z3.at' 9 (p:=Pc.aL Nw B) rfl) Iz.o;have q2:=acn (L:=Th) (by rw[aiT.o];exact Z3.row 8 rfl) (Z3.at' 9 (p:=Pc.aL Nw B) rfl) MN.o;rw[O9.o]at q1;rw[Pr.o]at q2;have q3:=Y6.au (Z3.row 3 rfl) rfl;have q4:=l1 (Z3.row 4 rfl) (λy ZJ=>(Z3.aL 5 rfl y ZJ).1);have q5:=Y6.au (Z3.row 0 rfl) rfl;have q6:=l1 (Z3.row 1 rfl) (λy ZJ=>(Z3.aL 2 rfl y ZJ).1);rw[Xg.o]at q4;rw[UI.o]at q6;exact bodyPost_ret (v:=.tuple #[.agg #[.slice Yr QF lc,.slice VR Yk Ub,.slice U0 Ek.1.length UQ,.slice XD Kq.length Wm,.slice EC Co.1.length EB,.slice BS Np.length BR],Z9 0,Z9 0,Z9 0]) (aod results49 _ _ n 36 #[.slice Yr QF lc,.slice VR Yk Ub,.slice U0 Ek.1.length UQ,.slice XD Kq.length Wm,.slice EC Co.1.length EB,.slice BS Np.length BR] (0,0) _ rfl ((((((Ur.ai 0 (.slice Yr QF lc)).ai 1 (.slice VR Yk Ub)).ai 2 (.slice U0 Ek.1.length UQ)).ai 3 (.slice XD Kq.length Wm)).ai 4 (.slice EC Co.1.length EB)).ai 5 (.slice BS Np.length BR)) underlying36 rfl sO) rfl
  ⟨⟨_,rfl,_,_,_,_,_,_,rfl,q1,q2,q3,q4,q5,q6⟩,by (try unfold Z6);rw[SG.o];exact Z3.bel (n:=n) (W0:=w) (by simp)⟩
end
section
open Go.Extern.Stop Go.Stop Go.Extern
namespace Ao
abbrev VP(a:Addr):Value:=.agg #[.pointer (some ⟨16,183,none⟩),.pointer (some a),.int .u64 150]
theorem eZ(t:Addr)(w:World):(ReflectliteValue.unpack (.iface 183 (.pointer (some t)))).run prog w
  = .ok (VP ⟨w.heap.size,0,none⟩) (w.alloc (.cells #[.pointer (some t)] 183)):=by rfl
theorem e1(a:Addr)(w:World):(ReflectliteValue.methodAny (ReflectliteValue.valueError "reflectlite.Value.Type" 0) (λt _ _ _=>ReflectliteType.toType t) #[VP a]).run prog w
  = .ok (.iface 351 (.agg #[.pointer (some ⟨16,183,none⟩)])) w:=by rfl
theorem fe(w:World):((ReflectliteType.abiMethod λt=>(λa:Nat=>Value.int IntKind.u8 (a:Int)) <$> Rtype.kind t) #[.pointer (some ⟨16,183,none⟩)]).run prog w=.ok (.int .u8 22) w:=by kernel_rfl
theorem eX(w:World):((ReflectliteType.abiMethod λt=>(λa:Nat=>Value.int IntKind.u8 (a:Int)) <$> Rtype.kind t) #[.pointer (some ⟨16,91,none⟩)]).run prog w=.ok (.int .u8 25) w:=by kernel_rfl
theorem fC(w:World):(ReflectliteType.method ReflectliteType.elem #[.agg #[.pointer (some ⟨16,183,none⟩)]]).run prog w=.ok (.iface 351 (.agg #[.pointer (some ⟨16,91,none⟩)])) w:=by kernel_rfl
theorem fh(w:World):(ReflectliteType.relation "Implements" ReflectliteType.implements_ #[.agg #[.pointer (some ⟨16,91,none⟩)],.iface 351 (.agg #[.pointer (some ⟨16,87,none⟩)])]).run prog w=.ok (.bool true) w:=by kernel_rfl
theorem fx(v:Value)(w:World):(ReflectliteType.typeOf #[.iface 91 v]).run prog w=.ok (.iface 351 (.agg #[.pointer (some ⟨16,91,none⟩)])) w:=by rfl
theorem fG(w:World):(ReflectliteType.relation "AssignableTo" ReflectliteType.assignableTo #[.agg #[.pointer (some ⟨16,91,none⟩)],.iface 351 (.agg #[.pointer (some ⟨16,91,none⟩)])]).run prog w=.ok (.bool true) w:=by kernel_rfl
theorem fj(x:Value)(w:World):(ReflectliteValue.unpack (.iface 91 (.agg #[x]))).run prog w
  = .ok (.agg #[.pointer (some ⟨16,91,none⟩),Zn (w.heap.size),.int .u64 153]) (w.alloc (.cells #[x] 91)):=by rfl
theorem wZ(a:Addr)(w:World):(ReflectliteValue.parts (VP a)).run prog w=.ok (some (183,a,150)) w:=by kernel_rfl
theorem eU(a p:Addr)(W:World)(YZ:W.cell? a=some (.pointer (some p))):
  (ReflectliteValue.method (ReflectliteValue.valueError "reflectlite.Value.IsNil" 0) ReflectliteValue.isNil #[VP a]).run prog W=.ok (.bool false) W:=by
 rw[As.rlm];simp only[Sem.run_bind,wZ,Result.andThen];simp[ReflectliteValue.isNil,loadVar,isAgg,underlying,underlying183,YZ,Result.andThen]
theorem ni(w:World):(Rtype.elem? 183).run prog w=.ok (some 91) w:=by rfl
abbrev VW(p:Addr)(Pk:Int):Value:=.agg #[.pointer (some ⟨16,91,none⟩),.pointer (some p),.int .u64 Pk]
theorem mkW(p:Addr)(w:World):(ReflectliteValue.mk 91 p ReflectliteValue.flagAddr).run prog w=.ok (VW p 409) w:=by rfl
theorem elemV(a p:Addr)(W:World)(YZ:W.cell? a=some (.pointer (some p))):
  (ReflectliteValue.method (ReflectliteValue.valueError "reflectlite.Value.Elem" 0) ReflectliteValue.elem #[VP a]).run prog W=.ok (VW p 409) W:=by
 rw[As.rlm];simp only[Sem.run_bind,wZ,Result.andThen];simp[ReflectliteValue.elem,loadVar,isAgg,underlying,underlying183,YZ,Result.andThen,ni,mkW]
theorem mV(a:Addr)(w:World):(ReflectliteValue.parts (VW a 409)).run prog w=.ok (some (91,a,409)) w:=by kernel_rfl
theorem mE(a:Addr)(w:World):(ReflectliteValue.parts (VW a 153)).run prog w=.ok (some (91,a,153)) w:=by kernel_rfl
theorem lW(w:World):(Rtype.directlyAssignable 91 91).run prog w=.ok true w:=by rfl
theorem ab6:(prog.info? 91).map (·.size)=some 1:=by rfl
theorem setW(VR b:Nat)(x S3:Value)(W:World)(Z8:Zv W b 91 #[x])(ZM:Zv W VR 91 #[S3])(Z7:x.oneCell'=true):
  (ReflectliteValue.set #[VW ⟨VR,0,none⟩ 409,VW ⟨b,0,none⟩ 153]).run prog W=.ok (.tuple #[]) (W.setRow VR #[x]):=by
 rw[As.rls];simp only[Sem.run_bind,mV,mE,Result.andThen];simp[ReflectliteValue.flagAddr,run_loadVar_row W b 91 91 _ (0,0) _ Z8 underlying91 rfl ab6,Result.andThen,lW];rw[run_storeVar_row W VR 91 91 #[S3] #[x] ZM ab6 rfl (by simp[Z7])]
end Ao
theorem ap9(n:Int)(tb:Nat)(S3:Value)(w:World)(ZH:H5 w)(ZM:Zv w tb 91 #[S3]):
  Calls prog 114 #[.iface 91 (.agg #[Z9 n]),.iface 183 (Zn tb)] w λe w'=>e=.returned (.bool true)/\Zv w' tb 91 #[Z9 n]/\Turns (λk=>k=tb) w w':=by
 have Yu:=@run_callFunc_extern prog 198 _ (λargs=>ReflectliteValue.unpack (args.getD 0 (.tuple #[]))) func198 (by rfl) (by rfl) (by rfl) (by kernel_rfl);have VV:=@run_callFunc_extern prog 199 _ (ReflectliteValue.methodAny (ReflectliteValue.valueError "reflectlite.Value.Type" 0) (λt _ _ _=>ReflectliteType.toType t)) func199 (by rfl) (by rfl) (by rfl) (by kernel_rfl);have Vz:=@run_callFunc_extern prog 200 _ (ReflectliteValue.method (ReflectliteValue.valueError "reflectlite.Value.IsNil" 0) ReflectliteValue.isNil) func200 (by rfl) (by rfl) (by rfl) (by kernel_rfl);have awy:=@run_callFunc_extern prog 371 _ (ReflectliteType.abiMethod λt=>do pure (.int .u8 (<-Rtype.kind t))) func371 (by rfl) (by rfl) (by rfl) (by rfl);have awA:=@run_callFunc_extern prog 383 _ (ReflectliteType.method ReflectliteType.elem) func383 (by rfl) (by rfl) (by rfl) (by rfl);have awB:=@run_callFunc_extern prog 384 _ (ReflectliteType.relation "Implements" ReflectliteType.implements_) func384 (by rfl) (by rfl) (by rfl) (by rfl);have k1:=@run_callFunc_extern prog 232 _ ReflectliteType.typeOf func232 (by rfl) (by rfl) (by rfl) (by kernel_rfl);have awz:=@run_callFunc_extern prog 381 _ (ReflectliteType.relation "AssignableTo" ReflectliteType.assignableTo) func381 (by rfl) (by rfl) (by rfl) (by rfl);have k0:=@run_callFunc_extern prog 268 _ (ReflectliteValue.method (ReflectliteValue.valueError "reflectlite.Value.Elem" 0) ReflectliteValue.elem) func268 (by rfl) (by rfl) (by rfl) (by kernel_rfl);have kZ:=@run_callFunc_extern prog 269 _ ReflectliteValue.set func269 (by rfl) (by rfl) (by rfl) (by kernel_rfl);have ax5:=Ao.fx;have axN:=As.methodAssignableTo;have alL:=Ao.fG;have ax9:=Ao.fj;have f6:=Ao.eZ;have f7:=Ao.e1;have axQ:=As.methodKind;have axO:=As.methodElem;have axP:=As.methodImplements;have Y1:=Ao.fe;have EA:=Ao.eX;have awx:=Ao.fC;have axu:=Ao.fh;obtain⟨YH,ND⟩:∃YH,YH=w.alloc (.cells #[Zn tb] 183):=⟨_,rfl⟩
 obtain⟨UF,Nm⟩:∃UF,UF=YH.alloc (.cells #[.pointer (some ⟨16,183,none⟩),Zn (w.heap.size),.int .u64 150] 276):=⟨_,rfl⟩
 obtain⟨XE,Dg⟩:∃XE,XE=UF.alloc (.cells #[.pointer (some ⟨16,183,none⟩),Zn (w.heap.size),.int .u64 150] 276):=⟨_,rfl⟩
 obtain⟨NG,DI⟩:∃NG,NG=XE.alloc (.cells #[Z9 n] 91):=⟨_,rfl⟩
 have Wx:Z6 w YH:=by rw[ND];exact Xl _ _
 have Xd:Z6 YH UF:=by rw[Nm];exact Xl _ _
 have Wk:Z6 UF XE:=by rw[Dg];exact Xl _ _
 have UY:Z6 XE NG:=by rw[DI];exact Xl _ _
 have Zx:Zv YH w.heap.size 183 #[Zn tb]:=by rw[ND];exact Zv.new _ _ _
 have Zl:Zv NG XE.heap.size 91 #[Z9 n]:=by rw[DI];exact Zv.new _ _ _
 have t1:=ZM.below Wx ZM.lt;have t2:=t1.below Xd t1.lt;have t3:=t2.below Wk t2.lt;have t4:=t3.below UY t3.lt;have Jd:6<w.heap.size:=World.block_lt_of_cell? w _ ZH;have xw:=Ao.eU ⟨w.heap.size,0,none⟩ ⟨tb,0,none⟩ UF ((Zx.below Xd Zx.lt).q0);have XL:=(Xd.cell (p:=⟨6,0,none⟩) (Vh Jd Wx.size)).trans ((Wx.cell (p:=⟨6,0,none⟩) Jd).trans ZH);have el:=Ao.elemV ⟨w.heap.size,0,none⟩ ⟨tb,0,none⟩ XE (((Zx.below Xd Zx.lt).below Wk (Zx.below Xd Zx.lt).lt).q0);have st:=Ao.setW tb XE.heap.size (Z9 n) S3 NG Zl t4 rfl;have JI:=bx (show Turns (λk=>k=tb) w (NG.setRow tb #[Z9 n])from
  (Turns.of_below (Wx.trans ((Xd.trans ((bt Wk UY).mono Xd.size)).mono Wx.size))).trans (gS NG tb _))
 have IR:=bx (t4.setRow #[Z9 n]);rw[DI,Dg,Nm,ND]at JI IR st;rw[Dg,Nm,ND]at el;rw[Nm,ND]at XL xw;clear Wx Xd Wk UY Zx Zl t1 t2 t3 t4 ND Nm Dg DI ZH Jd ZM;simp only[World.size_alloc]at st
 go_in
 go_wp2
 refine wp_loop_rounds 1 ?_;rw[rounds_succ]
 go_wp2
 go_ret
 exact⟨rfl,IR.o,JI.o⟩
theorem JM(n:Int)(w:World)(ZH:H5 w):
  Calls prog 54 #[.iface 91 (.agg #[Z9 n])] w λe w'=>e=.returned (Z9 n)/\Z6 w w':=by
 obtain⟨V,ZO⟩:∃V,V=w.alloc (.cells #[Z9 0] 91):=⟨_,rfl⟩
 have V3:=bx (aB ZO);have Ze:=bx (aK ZO);have ZN:=bx ZO;have WO:=bx (ap9 n w.heap.size (Z9 0) V ((V3.o.cell (p:=⟨6,0,none⟩) (World.block_lt_of_cell? w _ ZH)).trans ZH) Ze.o);clear ZO ZH
 go_in
 go_upto_region 2 with(fail)
 rw[<-ZN.o];go_wp2_with fail;refine WO.o.mono ?_;rintro e ZV ⟨rfl,TT,Sg⟩;have ZW:=bx (V3.o.trans (Sg.below V3.o.size (λ_ _=>by omega)));have Ws:=TT.q0;clear TT Sg
 go_wp2
 go_ret
 exact⟨rfl,ZW.o⟩
end
section
open Go.Shelf Go.Proofs
def apy:Go.Shelf.Ren:=⟨fun|17=>72|n=>n,fun|0=>0|3=>3|4=>4|9=>9|24=>49|n=>n,fun|n=>n⟩
theorem gB:Go.Proofs.Lays2.n17 prog apy:={
 mixed:=by rfl
 f17:=func72.trans (congrArg some (by rfl))
 t0:=underlying0
 a0:=isAgg0
 z0:=sizeOf0
 v0:=zeroValue0
 t3:=underlying3
 a3:=isAgg3
 z3:=sizeOf3
 v3:=zeroValue3
 t4:=underlying4
 a4:=isAgg4
 z4:=sizeOf4
 v4:=zeroValue4
 t9:=underlying9
 a9:=isAgg9
 z9:=sizeOf9
 v9:=zeroValue9
 t24:=underlying49
 a24:=isAgg49
 z24:=sizeOf49
 v24:=zeroValue49}
open Go.Lib Go.Sort in
theorem atC(blk off ZU:Nat)(zs:List (List UInt8))(w:World)(uq:Go.Sort.Holds encStr w blk off zs.toArray)(W1:zs.length<=9223372036854775807):
  Calls prog 72 #[.slice (some ⟨blk,off,none⟩) zs.length ZU] w λe w'=>e=.returned (.tuple #[])/\∃n,w'=putRow encStr (Sort.ahead w n) blk off zs.reverse.toArray:=Any.slices_Reverse_string gB blk off ZU zs w uq W1
open Go.Lib Go.Sort in
theorem akG(a:Option Addr)(ZU:Nat)(w:World):
  Calls prog 72 #[.slice a 0 ZU] w λe w'=>e=.returned (.tuple #[])/\w'=w:=Any.slices_Reverse_string_empty gB a ZU w
end
theorem akT(base:Nat)(v:Value)(ls:List (List UInt8))(w:World)(Z2:w.ownsRow base 9 1 v ls.length (ls.map Vu))(_:ls.length<=1000000):
  Calls prog 72 #[v] w λe w'=>e=.returned (.tuple #[])/\w'.ownsRow base 9 1 v ls.length (ls.reverse.map Vu)/\w.grownBy w' v.ownBlock:=by
 rcases Z2.2 with⟨rfl,Z5⟩|⟨g,ZU,VY,rfl,Z8,ZH,ZS,ZG,Zi,Yu⟩
 ·have Vs:=L4 Z5;subst Vs;refine(akG none 0 w).mono ?_;rintro R8 W' ⟨rfl,rfl⟩;exact⟨rfl,Z2,⟨rfl,rfl,rfl,Wq _,λ_ _ _=>rfl⟩⟩
 rw[Nat.mul_one]at Yu;refine(atC g 0 ZU ls w (Go.holds_of_block ZH Yu) (by omega)).mono ?_;rintro R8 W' ⟨rfl,q,rfl⟩;have WG:=Go.grownBy_sorted (w:=w) (g:=g) (n:=q) (os:=#[]) ls.reverse.toArray;have BD:=Go.ownsRow_sorted (n:=q) (os:=#[]) (ts:=ls.reverse) (by simp) Z8 ZH ZS ZG Zi;have Jd:∀w:World,Go.Sort.grow w #[]=w:=λw=>by rfl
 rw[Jd]at WG BD;exact⟨rfl,BD,WG⟩
