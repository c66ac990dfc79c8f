/-
  Clipped by bytes alone a text is what is cut by bytes; by scalars, too, it is a head of that.
-/
import Derived.Test.YtdponihkpomheaaGreatDoorHXOpsClips2

set_option maxRecDepth 100000
set_option maxHeartbeats 8000000
namespace Go.Proofs.YtdponihkpomheaaGreatDoor.cOpsClips
open Go.Proofs.Tryz
open Go.ChangeShapes Go.WideShapes Go.ChangeAt Go.RowKit Go.Proofs.YtdponihkpomheaaGreatDoor

theorem andI {a b:Bool} (h:a=true) (k:b=true):(a&&b)=true:=by rw [h,k];rfl
theorem laidOut:laidOutB prog=true:=by kernel_rfl
theorem contract (H:Type) (enc:TypeId×Value->H) (W:World) (base:Nat) (args:Array Value) (ds gs:List (DataW H)) (before:List MemPlace)
  (hval:∀ (j:Nat) t v,f11.params[j]?=some t->args[j]?=some v->Value.okWide prog W .any base t v)
  (hW:DataW.Whole enc prog f11.params.toList Rows.opsClipsSpec.vars false W args.toList ds gs before) (hL:laidMetH prog Rows.opsClipsRow.laid W) :
  Calls prog 11 args W λe W'=>∃ v,e = .returned v/\Rows.opsClipsSpec.post enc prog f11 false true false false W args v W':=by
 have hW':=hW;obtain⟨p,q,hA0,hV,rfl,hfz,hnd⟩:=hW;have hA:DataW.TrodAll enc prog W 0 (λ_=>true) true f11.params.toList args.toList ds p:=hA0;rw [params11] at hA hval;obtain⟨v0,Pq,d0,ds0,p0,q0,e0,rfl,rfl,h0,r0⟩:=trodAll_cons hA;obtain⟨v1,vs1,d1,ds1,p1,q1,e1,rfl,rfl,h1,r1⟩:=trodAll_cons r0;obtain⟨v2,vs2,d2,ds2,p2,q2,e2,rfl,rfl,h2,r2⟩:=trodAll_cons r1;obtain⟨v3,vs3,d3,ds3,p3,q3,e3,rfl,rfl,h3,r3⟩:=trodAll_cons r2;obtain⟨rfl,rfl,rfl⟩:=trodAll_nil r3;subst e3;subst e2;subst e1;obtain rfl:args=#[v0,v1,v2,v3]:=by cases args;simp_all
 obtain⟨rfl,rfl⟩:=trodVars_none hV;obtain⟨x0,g0⟩:=KJ (hval 0 38 v0 rfl rfl) h0;obtain⟨x1,rfl,-,-,g1⟩:=Go.ChangeMaps.open_string underlying9 (hval 1 9 v1 rfl rfl) h1;obtain⟨x2,rfl,-,-,g2⟩:=open_int underlying3 (hval 2 3 v2 rfl rfl) h2;obtain⟨x3,rfl,-,-,g3⟩:=open_int underlying3 (hval 3 3 v3 rfl rfl) h3;obtain⟨A,hE⟩:=LC hL;refine(aoH A W.heap.size v0 x0 x1 x2 x3 W g0 g1 (abU g2) (abU g3) hE).mono λe W' ⟨he,hb⟩=>?_
 exact⟨_,he,KO (tb:=4) laidOut rfl hW' hb underlying4 (by kernel_rfl) (by intro t ht;rw [params11] at ht;simp only [fB,qV,or_false] at ht;rcases ht with rfl | rfl | rfl | rfl <;> exact⟨by kernel_rfl,of_decide_eq_true (by kernel_rfl)⟩) rfl⟩

theorem reads (os:Os) {H:Type} (enc:TypeId×Value->H):∃ places,DataW.whole enc prog ((laidWorld os).forCall (λ_ _=>0) ⟨#[],#[.agg #[ah 0, aj, aj, aj, aj, aj, ah 0, aj, aj, aj, aj, aj, aj, aj, .bool false, aj, aj, aj, aj, aj, aj], .string ⟨#[]⟩, ah 0, ah 0],[]⟩).memory f11.params.toList Rows.opsClipsSpec.vars false #[.agg #[ah 0, aj, aj, aj, aj, aj, ah 0, aj, aj, aj, aj, aj, aj, aj, .bool false, aj, aj, aj, aj, aj, aj], .string ⟨#[]⟩, ah 0, ah 0].toList 8=some ([.agg [.agg [.lit (.int .i64 0), .agg [.nil, .nil], .nil, .agg [.nil, .nil]], .agg [.lit (.int .i64 0), .agg [.nil, .nil], .nil, .agg [.nil, .nil]], .agg [.agg [.nil, .nil], .lit (.bool false)], .agg [.nil, .nil, .agg [.nil, .nil], .agg [.nil, .nil]]], .lit (.string []), .lit (.int .i64 0), .lit (.int .i64 0)],[],places) :=
 ⟨[],by kernel_rfl⟩

theorem lifted (os:Os) (started:os.Started) (H:Type) (enc:TypeId×Value->H) (F:Stop.Interp) :
  ReturnsInHanded {} Tryz.checked os 11 .any ((OpenSpec.ofChange Rows.opsClipsSpec).preRow enc prog f11 Rows.opsClipsRow.domain false Rows.opsClipsRow.laid) (((OpenSpec.ofChange Rows.opsClipsSpec).at F).post enc prog f11 false true false false):=by
 obtain⟨places,hx⟩:=reads os enc;refine returnsInHanded_of_row (C:=Tryz.checked) (s:=OpenSpec.ofChange Rows.opsClipsSpec) own started (by kernel_rfl) func11
  (witness_row_at (enc:=enc) (C:=Tryz.checked) false (laidWorld os) #[.agg #[ah 0, aj, aj, aj, aj, aj, ah 0, aj, aj, aj, aj, aj, aj, aj, .bool false, aj, aj, aj, aj, aj, aj], .string ⟨#[]⟩, ah 0, ah 0] rfl (by kernel_rfl) (by kernel_rfl) (by kernel_rfl)
   (OpenSpec.preRow_of_cond 8 hx (by kernel_rfl) (λk hk=>by cases hk) (by kernel_rfl) (laid_met os _))) ?_
 intro W base args ds gs before hval hW _ _ _ hL _ _;exact contract H enc W base args ds gs before hval hW hL

theorem closed:joinedFacts Tryz.pinned.checked.prog 11 f11 (OpenSpec.ofChange Rows.opsClipsSpec).bare Rows.opsClipsRow=true:=by
 unfold joinedFacts
 iterate 31 (refine andI ?_ ?_)
 all_goals (as_aux_lemma=>kernel_rfl)

theorem said:Rows.OpsClipsSaid :=
 OpenClaim.holds_of_cond 11 f11 rfl rfl rfl rfl rfl rfl rfl ⟨rfl,rfl,rfl,rfl,rfl⟩ rfl rfl rfl rfl rfl (by kernel_rfl) func11 closed
  (of_decide_eq_true (by kernel_rfl)) (by unfold Func.isWrapper;first | (rw [aG (by decide +kernel)];kernel_rfl) | (rw [aF (by decide +kernel)];exact⟨rfl,rfl⟩))
  (λos started H enc _ F=>by rw [OpenClaim.pre_eq_preRow];exact lifted os started H enc F)

theorem plain (f:FuncId) (fn:Func) (hf:Tryz.pinned.checked.prog.funcNamed "virama/viramalaw19.OpsClips" = some f) (hfn:Tryz.pinned.checked.prog.funcs[f]?=some fn) :
  true=Tryz.pinned.checked.prog.looks []/\∀ (j:Nat) t,fn.params[j]?=some t->Tryz.pinned.checked.prog.wantsStandIn t=false:=by
 obtain rfl:f=11:=Option.some.inj ((show prog.funcNamed "virama/viramalaw19.OpsClips" = some 11 by kernel_rfl).symm.trans hf) |>.symm
 obtain rfl:fn=f11:=(Option.some.inj (func11.symm.trans hfn)).symm;refine⟨by kernel_rfl,λj t ht=>?_⟩;rw [params11] at ht;have hm:=Array.mem_of_getElem? ht;simp only [List.mem_toArray,fB,qV,or_false] at hm
 rcases hm with rfl | rfl | rfl | rfl
 ·exact(show prog.wantsStandIn 38=false by kernel_rfl)
 ·exact(show prog.wantsStandIn 9=false by kernel_rfl)
 ·exact(show prog.wantsStandIn 3=false by kernel_rfl)
 exact(show prog.wantsStandIn 3=false by kernel_rfl)

theorem card:Rows.OpsClipsCardSaid :=
 Claim7.holds_tied_plain_at .later [] _ _ _ _ said (λ_ h=>by cases h) (by kernel_rfl) (λ_ h=>by cases h) opsClips_row_tie rfl ⟨rfl,rfl⟩ (by as_aux_lemma=>kernel_rfl) rfl plain (by as_aux_lemma=>kernel_rfl)
end Go.Proofs.YtdponihkpomheaaGreatDoor.cOpsClips
