/-
  Pieces joined by their separator are the text mended, and each ends where a cluster does.
-/
import Derived.Test.YtdponihkpomheaaGreatDoorHXOpsBack2

set_option maxRecDepth 100000
set_option maxHeartbeats 8000000
namespace Go.Proofs.YtdponihkpomheaaGreatDoor.cOpsBack
open Go.Proofs.Tryz
open Go.ChangeShapes Go.WideShapes Go.ChangeAt Go.RowKit Go.Proofs.YtdponihkpomheaaGreatDoor

theorem andI {a b:Bool} (h:a=true) (k:b=true):(a&&b)=true:=by rw [h,k];rfl
theorem laidOut:laidOutB prog=true:=by kernel_rfl
theorem contract (H:Type) (enc:TypeId×Value->H) (W:World) (base:Nat) (args:Array Value) (ds gs:List (DataW H)) (before:List MemPlace)
  (hval:∀ (j:Nat) t v,f10.params[j]?=some t->args[j]?=some v->Value.okWide prog W .any base t v)
  (hW:DataW.Whole enc prog f10.params.toList Rows.opsBackSpec.vars false W args.toList ds gs before) (hL:laidMetH prog Rows.opsBackRow.laid W) :
  Calls prog 10 args W λe W'=>∃ v,e = .returned v/\Rows.opsBackSpec.post enc prog f10 false true false false W args v W':=by
 have hW':=hW;obtain⟨p,q,hA0,hV,rfl,hfz,hnd⟩:=hW;have hA:DataW.TrodAll enc prog W 0 (λ_=>true) true f10.params.toList args.toList ds p:=hA0;rw [params10] at hA hval;obtain⟨v0,Pq,d0,ds0,p0,q0,e0,rfl,rfl,h0,r0⟩:=trodAll_cons hA;obtain⟨v1,vs1,d1,ds1,p1,q1,e1,rfl,rfl,h1,r1⟩:=trodAll_cons r0;obtain⟨v2,vs2,d2,ds2,p2,q2,e2,rfl,rfl,h2,r2⟩:=trodAll_cons r1;obtain⟨rfl,rfl,rfl⟩:=trodAll_nil r2;subst e2;subst e1;obtain rfl:args=#[v0,v1,v2]:=by cases args;simp_all
 obtain⟨rfl,rfl⟩:=trodVars_none hV;obtain⟨x0,g0⟩:=KJ (hval 0 38 v0 rfl rfl) h0;obtain⟨x1,rfl,-,-,g1⟩:=Go.ChangeMaps.open_string underlying9 (hval 1 9 v1 rfl rfl) h1;obtain⟨x2,rfl,-,-,g2⟩:=Go.ChangeMaps.open_string underlying9 (hval 2 9 v2 rfl rfl) h2;obtain⟨A,hE⟩:=LC hL;refine(aqT A W.heap.size v0 x0 x1 x2 W g0 g1 g2 hE).mono λe W' ⟨he,hb⟩=>?_
 exact⟨_,he,KO (tb:=4) laidOut rfl hW' hb underlying4 (by kernel_rfl) (by intro t ht;rw [params10] at ht;simp only [fB,qV,or_false] at ht;rcases ht with rfl | rfl | rfl <;> exact⟨by kernel_rfl,of_decide_eq_true (by kernel_rfl)⟩) rfl⟩

theorem reads (os:Os) {H:Type} (enc:TypeId×Value->H):∃ places,DataW.whole enc prog ((laidWorld os).forCall (λ_ _=>0) ⟨#[],#[.agg #[ah 0, aj, aj, aj, aj, aj, ah 0, aj, aj, aj, aj, aj, aj, aj, .bool false, aj, aj, aj, aj, aj, aj], .string ⟨#[]⟩, .string ⟨#[]⟩],[]⟩).memory f10.params.toList Rows.opsBackSpec.vars false #[.agg #[ah 0, aj, aj, aj, aj, aj, ah 0, aj, aj, aj, aj, aj, aj, aj, .bool false, aj, aj, aj, aj, aj, aj], .string ⟨#[]⟩, .string ⟨#[]⟩].toList 8=some ([.agg [.agg [.lit (.int .i64 0), .agg [.nil, .nil], .nil, .agg [.nil, .nil]], .agg [.lit (.int .i64 0), .agg [.nil, .nil], .nil, .agg [.nil, .nil]], .agg [.agg [.nil, .nil], .lit (.bool false)], .agg [.nil, .nil, .agg [.nil, .nil], .agg [.nil, .nil]]], .lit (.string []), .lit (.string [])],[],places) :=
 ⟨[],by kernel_rfl⟩

theorem lifted (os:Os) (started:os.Started) (H:Type) (enc:TypeId×Value->H) (F:Stop.Interp) :
  ReturnsInHanded {} Tryz.checked os 10 .any ((OpenSpec.ofChange Rows.opsBackSpec).preRow enc prog f10 Rows.opsBackRow.domain false Rows.opsBackRow.laid) (((OpenSpec.ofChange Rows.opsBackSpec).at F).post enc prog f10 false true false false):=by
 obtain⟨places,hx⟩:=reads os enc;refine returnsInHanded_of_row (C:=Tryz.checked) (s:=OpenSpec.ofChange Rows.opsBackSpec) own started (by kernel_rfl) func10
  (witness_row_at (enc:=enc) (C:=Tryz.checked) false (laidWorld os) #[.agg #[ah 0, aj, aj, aj, aj, aj, ah 0, aj, aj, aj, aj, aj, aj, aj, .bool false, aj, aj, aj, aj, aj, aj], .string ⟨#[]⟩, .string ⟨#[]⟩] rfl (by kernel_rfl) (by kernel_rfl) (by kernel_rfl)
   (OpenSpec.preRow_of_cond 8 hx (by kernel_rfl) (λk hk=>by cases hk) (by kernel_rfl) (laid_met os _))) ?_
 intro W base args ds gs before hval hW _ _ _ hL _ _;exact contract H enc W base args ds gs before hval hW hL

theorem closed:joinedFacts Tryz.pinned.checked.prog 10 f10 (OpenSpec.ofChange Rows.opsBackSpec).bare Rows.opsBackRow=true:=by
 unfold joinedFacts
 iterate 31 (refine andI ?_ ?_)
 all_goals (as_aux_lemma=>kernel_rfl)

theorem said:Rows.OpsBackSaid :=
 OpenClaim.holds_of_cond 10 f10 rfl rfl rfl rfl rfl rfl rfl ⟨rfl,rfl,rfl,rfl,rfl⟩ rfl rfl rfl rfl rfl (by kernel_rfl) func10 closed
  (of_decide_eq_true (by kernel_rfl)) (by unfold Func.isWrapper;first | (rw [aG (by decide +kernel)];kernel_rfl) | (rw [aF (by decide +kernel)];exact⟨rfl,rfl⟩))
  (λos started H enc _ F=>by rw [OpenClaim.pre_eq_preRow];exact lifted os started H enc F)

theorem plain (f:FuncId) (fn:Func) (hf:Tryz.pinned.checked.prog.funcNamed "virama/viramalaw19.OpsBack" = some f) (hfn:Tryz.pinned.checked.prog.funcs[f]?=some fn) :
  true=Tryz.pinned.checked.prog.looks []/\∀ (j:Nat) t,fn.params[j]?=some t->Tryz.pinned.checked.prog.wantsStandIn t=false:=by
 obtain rfl:f=10:=Option.some.inj ((show prog.funcNamed "virama/viramalaw19.OpsBack" = some 10 by kernel_rfl).symm.trans hf) |>.symm
 obtain rfl:fn=f10:=(Option.some.inj (func10.symm.trans hfn)).symm;refine⟨by kernel_rfl,λj t ht=>?_⟩;rw [params10] at ht;have hm:=Array.mem_of_getElem? ht;simp only [List.mem_toArray,fB,qV,or_false] at hm
 rcases hm with rfl | rfl | rfl
 ·exact(show prog.wantsStandIn 38=false by kernel_rfl)
 ·exact(show prog.wantsStandIn 9=false by kernel_rfl)
 exact(show prog.wantsStandIn 9=false by kernel_rfl)

theorem card:Rows.OpsBackCardSaid :=
 Claim7.holds_tied_plain_at .later [] _ _ _ _ said (λ_ h=>by cases h) (by kernel_rfl) (λ_ h=>by cases h) opsBack_row_tie rfl ⟨rfl,rfl⟩ (by as_aux_lemma=>kernel_rfl) rfl plain (by as_aux_lemma=>kernel_rfl)
end Go.Proofs.YtdponihkpomheaaGreatDoor.cOpsBack
