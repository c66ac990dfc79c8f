/-
  What is truncated: the program's answers are the document's.
-/
import Derived.Test.YtdponihkpomheaaGreatDoorKXOpsTruncates3

set_option maxRecDepth 100000
set_option maxHeartbeats 8000000
namespace Go.Proofs.YtdponihkpomheaaGreatDoor.cOpsTruncates
open Go.Proofs.Tryz
open Go.ChangeShapes Go.WideShapes Go.ChangeAt Go.RowKit Go.Proofs.YtdponihkpomheaaGreatDoor

theorem andI{a b:Bool}(h:a=true)(k:b=true):(a&&b)=true:=by rw[h,k];rfl
theorem laidOut:laidOutB prog=true:=by kernel_rfl
theorem contract(H:Type)(enc:TypeId×Value->H)(W:World)(base:Nat)(args:Array Value)(Sj gs:List (DataW H))(before:List MemPlace)(Sf:∀(j:Nat) t v,f3.params[j]?=some t->args[j]?=some v->Value.okWide prog W .any base t v)(Yj:DataW.Whole enc prog f3.params.toList Rows.opsTruncatesSpec.vars false W args.toList Sj gs before)(WE:laidMetH prog Rows.opsTruncatesRow.laid W):
  Calls prog 3 args W λe W'=>∃v,e=.returned v/\Rows.opsTruncatesSpec.post enc prog f3 false true false false W args v W':=by
 have EL:=Yj;obtain⟨p,q,It,ZO,rfl,tW,BI⟩:=Yj;have PA:DataW.TrodAll enc prog W 0 (λ_=>true) true f3.params.toList args.toList Sj p:=It;rw[params3]at PA Sf;obtain⟨v0,jy,d0,lh,p0,q0,Wz,rfl,rfl,ZI,S2⟩:=trodAll_cons PA;obtain⟨v1,jx,d1,lg,p1,q1,Zq,rfl,rfl,Z7,r1⟩:=trodAll_cons S2;obtain⟨v2,jw,d2,lf,p2,q2,YP,rfl,rfl,Z5,r2⟩:=trodAll_cons r1;obtain⟨v3,jv,d3,ld,p3,q3,Yb,rfl,rfl,ZS,r3⟩:=trodAll_cons r2;obtain⟨v4,ahT,d4,afF,Ve,q4,WW,rfl,rfl,ZG,r4⟩:=trodAll_cons r3;obtain⟨rfl,rfl,rfl⟩:=trodAll_nil r4;subst WW;subst Yb;subst YP;subst Zq;obtain rfl:args=#[v0,v1,v2,v3,v4]:=by cases args;simp_all
 obtain⟨rfl,rfl⟩:=trodVars_none ZO;obtain⟨Ws,g0⟩:=sB (Sf 0 38 v0 rfl rfl) ZI;obtain⟨XX,rfl,-,-,g1⟩:=open_int underlying3 (Sf 1 3 v1 rfl rfl) Z7;obtain⟨V2,rfl,-,-,g2⟩:=Go.ChangeMaps.open_string underlying9 (Sf 2 9 v2 rfl rfl) Z5;obtain⟨V4,rfl,-,-,g3⟩:=open_int underlying3 (Sf 3 3 v3 rfl rfl) ZS;obtain⟨UO,rfl,-,-,g4⟩:=Go.ChangeMaps.open_string underlying9 (Sf 4 9 v4 rfl rfl) ZG;obtain⟨A,YN⟩:=sj WE;refine(aoc A W.heap.size v0 Ws XX V2 V4 UO W g0 g2 g4 YN).mono λe W' ⟨he,Z8⟩=>?_
 exact⟨_,he,rV (tb:=4) laidOut rfl EL Z8 underlying4 (by kernel_rfl) (by intro t ZM;rw[params3]at ZM;simp only[T7,J0,or_false]at ZM;rcases ZM with rfl|rfl|rfl|rfl|rfl <;> exact⟨by kernel_rfl,of_decide_eq_true (by kernel_rfl)⟩) rfl⟩

theorem reads(os:Os){H:Type}(enc:TypeId×Value->H):∃places,DataW.whole enc prog ((laidWorld os).forCall (λ_ _=>0) ⟨#[],#[.agg #[Z9 0,Z1,Z1,Z1,Z1,Z1,Z9 0,Z1,Z1,Z1,Z1,Z1,Z1,Z1,.bool false,Z1,Z1,Z1,Z1,Z1,Z1],Z9 0,.string ⟨#[]⟩,Z9 0,.string ⟨#[]⟩],[]⟩).memory f3.params.toList Rows.opsTruncatesSpec.vars false #[.agg #[Z9 0,Z1,Z1,Z1,Z1,Z1,Z9 0,Z1,Z1,Z1,Z1,Z1,Z1,Z1,.bool false,Z1,Z1,Z1,Z1,Z1,Z1],Z9 0,.string ⟨#[]⟩,Z9 0,.string ⟨#[]⟩].toList 8=some ([.agg [.agg [.lit (.int .i64 0),.agg [.nil,.nil],.nil,.agg [.nil,.nil]],.agg [.lit (.int .i64 0),.agg [.nil,.nil],.nil,.agg [.nil,.nil]],.agg [.agg [.nil,.nil],.lit (.bool false)],.agg [.nil,.nil,.agg [.nil,.nil],.agg [.nil,.nil]]],.lit (.int .i64 0),.lit (.string []),.lit (.int .i64 0),.lit (.string [])],[],places):=
 ⟨[],by kernel_rfl⟩

theorem lifted(os:Os)(started:os.Started)(H:Type)(enc:TypeId×Value->H)(F:Stop.Interp):
  ReturnsInHanded {} Tryz.checked os 3 .any ((OpenSpec.ofChange Rows.opsTruncatesSpec).preRow enc prog f3 Rows.opsTruncatesRow.domain false Rows.opsTruncatesRow.laid) (((OpenSpec.ofChange Rows.opsTruncatesSpec).at F).post enc prog f3 false true false false):=by
 obtain⟨places,Z4⟩:=reads os enc;refine returnsInHanded_of_row (C:=Tryz.checked) (s:=OpenSpec.ofChange Rows.opsTruncatesSpec) own started (by kernel_rfl) func3
  (witness_row_at (enc:=enc) (C:=Tryz.checked) false (laidWorld os) #[.agg #[Z9 0,Z1,Z1,Z1,Z1,Z1,Z9 0,Z1,Z1,Z1,Z1,Z1,Z1,Z1,.bool false,Z1,Z1,Z1,Z1,Z1,Z1],Z9 0,.string ⟨#[]⟩,Z9 0,.string ⟨#[]⟩] rfl (by kernel_rfl) (by kernel_rfl) (by kernel_rfl)
   (OpenSpec.preRow_of_cond 8 Z4 (by kernel_rfl) (λk Z3=>by cases Z3) (by kernel_rfl) (laid_met os _))) ?_
 intro W base args Sj gs before Sf Yj _ _ _ WE _ _;exact contract H enc W base args Sj gs before Sf Yj WE

theorem closed:joinedFacts Tryz.pinned.checked.prog 3 f3 (OpenSpec.ofChange Rows.opsTruncatesSpec).bare Rows.opsTruncatesRow=true:=by
 unfold joinedFacts
 iterate 31 (refine andI ?_ ?_)
 all_goals (as_aux_lemma=>kernel_rfl)

theorem said:Rows.OpsTruncatesSaid:=
 OpenClaim.holds_of_cond 3 f3 rfl rfl rfl rfl rfl rfl rfl ⟨rfl,rfl,rfl,rfl,rfl⟩ rfl rfl rfl rfl rfl (by kernel_rfl) func3 closed
  (of_decide_eq_true (by kernel_rfl)) (by unfold Func.isWrapper;first|(rw[Y0 (by decide +kernel)];kernel_rfl)|(rw[Y4 (by decide +kernel)];exact⟨rfl,rfl⟩))
  (λos started H enc _ F=>by rw[OpenClaim.pre_eq_preRow];exact lifted os started H enc F)

theorem plain(f:FuncId)(fn:Func) (Yz:Tryz.pinned.checked.prog.funcNamed "virama/viramalaw19.OpsTruncates" = some f) (C9:Tryz.pinned.checked.prog.funcs[f]?=some fn):
  true=Tryz.pinned.checked.prog.looks []/\∀(j:Nat) t,fn.params[j]?=some t->Tryz.pinned.checked.prog.wantsStandIn t=false:=by
 obtain rfl:f=3:=Option.some.inj ((show prog.funcNamed "virama/viramalaw19.OpsTruncates" = some 3 by kernel_rfl).symm.trans Yz) |>.symm
 obtain rfl:fn=f3:=(Option.some.inj (func3.symm.trans C9)).symm;refine⟨by kernel_rfl,λj t ZM=>?_⟩;rw[params3]at ZM;have hm:=Array.mem_of_getElem? ZM;simp only[List.mem_toArray,T7,J0,or_false]at hm
 rcases hm with rfl|rfl|rfl|rfl|rfl
 ·exact(show prog.wantsStandIn 38=false by kernel_rfl)
 ·exact(show prog.wantsStandIn 3=false by kernel_rfl)
 ·exact(show prog.wantsStandIn 9=false by kernel_rfl)
 ·exact(show prog.wantsStandIn 3=false by kernel_rfl)
 exact(show prog.wantsStandIn 9=false by kernel_rfl)

theorem card:Rows.OpsTruncatesCardSaid:=
 Claim7.holds_tied_plain_at .later [] _ _ _ _ said (λ_ h=>by cases h) (by kernel_rfl) (λ_ h=>by cases h) opsTruncates_row_tie rfl ⟨rfl,rfl⟩ (by as_aux_lemma=>kernel_rfl) rfl plain (by as_aux_lemma=>kernel_rfl)
end Go.Proofs.YtdponihkpomheaaGreatDoor.cOpsTruncates
