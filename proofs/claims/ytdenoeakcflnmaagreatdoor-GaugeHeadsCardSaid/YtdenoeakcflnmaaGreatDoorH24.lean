/- Texts of this claim. -/
import Derived.Test.YtdenoeakcflnmaaGreatDoorCards
import Derived.Test.YtdenoeakcflnmaaGreatDoorTie
import Derived.OpenShut
import Derived.Deep.DeepHandedRow
import Derived.Deep.DeepWitnessRowRef
import Derived.Below
import Derived.ChangeSame
import Derived.WideKeyArgs
import Derived.Test.YtdenoeakcflnmaaGreatDoorH23

set_option maxRecDepth 100000
set_option maxHeartbeats 16000000
namespace Go.Proofs.YtdenoeakcflnmaaGreatDoor
section
open Go.ChangeShapes Go.WideShapes Go.ChangeAt Go.RowKit
section
variable {H:Type} {enc:TypeId×Value->H} {P:Program}
theorem ajx {f:Func} {s:ChangeSpec} {apart fresh handsOn again:Bool} {W W':World} {args:Array Value} {v:Value} {ds gs:List (DataW H)} {before pa pv:List MemPlace}
  (hW:DataW.Whole enc P f.params.toList s.vars apart W args.toList ds gs before)
  (hres:∀ (b:Nat) (sp:Nat->Bool) (hd:Bool),DataW.TrodAll enc P W' b sp hd f.resultTypes.toList (v.resultList f.resultTypes.size) (s.fn H (ds++gs)).results [])
  (hargs:∀ sp:Nat->Bool,(∀ p∈before,sp p.block=true)->DataW.TrodAll enc P W' 0 sp true f.params.toList args.toList (s.fn H (ds++gs)).args pa)
  (hvars:∀ sp:Nat->Bool,(∀ p∈before,sp p.block=true)->DataW.TrodVars enc P W' sp s.vars (s.fn H (ds++gs)).vars pv)
  (hps:before=pa++pv) (hb:Below W.heap.size W W')
  (hok:∀ (j:Nat) (t:TypeId) (r:Value),f.resultTypes[j]?=some t->(v.resultList f.resultTypes.size)[j]?=some r->Value.okWide P W' .any 0 t r) :
  s.post enc P f apart fresh handsOn again W args v W':=by
 have hlt:∀ p∈before,p.block<W.heap.size:=λp hp=>hW.lt p hp
 have hold:∀ p∈before,(λb=>decide (b<W.heap.size)) p.block=true:=λp hp=>by simpa using hlt p hp
 refine⟨ds,gs,before,[],pa,pv,hW,hres _ _ _,hargs _ hold,hvars _ hold,World.keptBut_mono (λp hp=>⟨hp,?_⟩) (hb.frame (·∈before)),λ_=>?_⟩
 ·rw [hps,List.mem_append] at hp;exact Or.inr hp
 ·obtain⟨_,_,_,_,_,hz,hn⟩:=hW;refine⟨hok,_,_,([]++pa)++pv,⟨[]++pa,pv,trodAll_append (hargs _ (λ_ _=>rfl)) (hres _ _ _),hvars _ (λ_ _=>rfl),rfl,?_,?_⟩,?_⟩
  ·intro b off hp;have hin:MemPlace.cell b off∈before:=by rw [hps];simpa using hp
   rw [hb.frozen (hlt _ hin)];exact hz b off hin
  ·intro ha;have:=hn ha;rw [hps] at this
   simpa using this
  ·intro p hp _;rw [hps]
   simpa using hp
end
theorem own:ownKnob Tryz.prog.godebug=none:=by kernel_rfl
theorem aiZ:Tryz.prog.cellsOf 373=1:=by kernel_rfl
theorem adO:Tryz.prog.cellsOf 9=1:=by kernel_rfl
theorem adi : "*" ++ "errors.errorString" = "*errors.errorString" := by decide
theorem alp (u:TypeId) (h:Tryz.prog.typeName? 3 u=some "*errors.errorString"):u=354 :=
 typeName_ptr_named (nm := "errors.errorString") (by rw [adi];kernel_rfl) (by kernel_rfl) (by decide) u (by rw [adi];exact h)
theorem gN0:Tryz.prog.globalNamed "virama/scalar.errScalar" = some 2/\(Tryz.prog.globals[2]?).map (·.type)=some 70:=⟨by kernel_rfl,by kernel_rfl⟩
theorem gN1:Tryz.prog.globalNamed "virama/scalar.errUtf" = some 7/\(Tryz.prog.globals[7]?).map (·.type)=some 70:=⟨by kernel_rfl,by kernel_rfl⟩
theorem gN2:Tryz.prog.globalNamed "virama/dfa.errRule" = some 11/\(Tryz.prog.globals[11]?).map (·.type)=some 70:=⟨by kernel_rfl,by kernel_rfl⟩
theorem gN3:Tryz.prog.globalNamed "virama/dfa.errMachine" = some 8/\(Tryz.prog.globals[8]?).map (·.type)=some 70:=⟨by kernel_rfl,by kernel_rfl⟩
theorem gN4:Tryz.prog.globalNamed "virama/seg.errCut" = some 6/\(Tryz.prog.globals[6]?).map (·.type)=some 70:=⟨by kernel_rfl,by kernel_rfl⟩
theorem gN5:Tryz.prog.globalNamed "virama/width.errWidth" = some 3/\(Tryz.prog.globals[3]?).map (·.type)=some 70:=⟨by kernel_rfl,by kernel_rfl⟩
theorem gN6:Tryz.prog.globalNamed "virama/width.errScalar" = some 5/\(Tryz.prog.globals[5]?).map (·.type)=some 70:=⟨by kernel_rfl,by kernel_rfl⟩
theorem gN7:Tryz.prog.globalNamed "virama/width.errUtf" = some 4/\(Tryz.prog.globals[4]?).map (·.type)=some 70:=⟨by kernel_rfl,by kernel_rfl⟩
theorem gN8:Tryz.prog.globalNamed "virama/gauge.errGauge" = some 0/\(Tryz.prog.globals[0]?).map (·.type)=some 70:=⟨by kernel_rfl,by kernel_rfl⟩
theorem gN9:Tryz.prog.globalNamed "virama/gauge.errText" = some 1/\(Tryz.prog.globals[1]?).map (·.type)=some 70:=⟨by kernel_rfl,by kernel_rfl⟩
def Td:List Sent:=[("virama/scalar.errScalar",2,[110,111,32,115,99,97,108,97,114]),("virama/scalar.errUtf",7,[110,111,116,32,119,101,108,108,45,102,111,114,109,101,100]),("virama/dfa.errRule",11,[110,111,32,114,117,108,101,115]),("virama/dfa.errMachine",8,[110,111,32,109,97,99,104,105,110,101]),("virama/seg.errCut",6,[110,111,32,99,117,116,115]),("virama/width.errWidth",3,[110,111,32,119,105,100,116,104,115]),("virama/width.errScalar",5,[110,111,32,115,99,97,108,97,114]),("virama/width.errUtf",4,[110,111,116,32,119,101,108,108,45,102,111,114,109,101,100]),("virama/gauge.errGauge",0,[110,111,32,103,97,117,103,101]),("virama/gauge.errText",1,[116,111,111,32,108,111,110,103])]
noncomputable def low:Nat:=(World.holding Tryz.prog default ⟨#[],#[],[]⟩).heap.size
noncomputable def laidWorld (os:Os):World :=
 let w0:=World.holding Tryz.prog os ⟨#[(.cells #[.string { data:=#[110,111,32,115,99,97,108,97,114] }] 373:Obj),(.cells #[.string { data:=#[110,111,116,32,119,101,108,108,45,102,111,114,109,101,100] }] 373:Obj),(.cells #[.string { data:=#[110,111,32,114,117,108,101,115] }] 373:Obj),(.cells #[.string { data:=#[110,111,32,109,97,99,104,105,110,101] }] 373:Obj),(.cells #[.string { data:=#[110,111,32,99,117,116,115] }] 373:Obj),(.cells #[.string { data:=#[110,111,32,119,105,100,116,104,115] }] 373:Obj),(.cells #[.string { data:=#[110,111,32,115,99,97,108,97,114] }] 373:Obj),(.cells #[.string { data:=#[110,111,116,32,119,101,108,108,45,102,111,114,109,101,100] }] 373:Obj),(.cells #[.string { data:=#[110,111,32,103,97,117,103,101] }] 373:Obj),(.cells #[.string { data:=#[116,111,111,32,108,111,110,103] }] 373:Obj)],#[],[]⟩
 { w0 with heap:=(((((((((((w0.heap.modify 2 fun
   | .cells _ t frozen=>.cells #[.iface 354 (.pointer (some ⟨low+0,0,none⟩))] t frozen
   | o=>o).modify 7 fun
   | .cells _ t frozen=>.cells #[.iface 354 (.pointer (some ⟨low+1,0,none⟩))] t frozen
   | o=>o).modify 11 fun
   | .cells _ t frozen=>.cells #[.iface 354 (.pointer (some ⟨low+2,0,none⟩))] t frozen
   | o=>o).modify 8 fun
   | .cells _ t frozen=>.cells #[.iface 354 (.pointer (some ⟨low+3,0,none⟩))] t frozen
   | o=>o).modify 6 fun
   | .cells _ t frozen=>.cells #[.iface 354 (.pointer (some ⟨low+4,0,none⟩))] t frozen
   | o=>o).modify 3 fun
   | .cells _ t frozen=>.cells #[.iface 354 (.pointer (some ⟨low+5,0,none⟩))] t frozen
   | o=>o).modify 5 fun
   | .cells _ t frozen=>.cells #[.iface 354 (.pointer (some ⟨low+6,0,none⟩))] t frozen
   | o=>o).modify 4 fun
   | .cells _ t frozen=>.cells #[.iface 354 (.pointer (some ⟨low+7,0,none⟩))] t frozen
   | o=>o).modify 0 fun
   | .cells _ t frozen=>.cells #[.iface 354 (.pointer (some ⟨low+8,0,none⟩))] t frozen
   | o=>o).modify 1 fun
   | .cells _ t frozen=>.cells #[.iface 354 (.pointer (some ⟨low+9,0,none⟩))] t frozen
   | o=>o).modify 9 fun
   | .cells _ t frozen=>.cells #[.iface 258 (.agg #[.pointer (some ⟨12,70,none⟩)])] t frozen
   | o=>o) }
theorem et:Tryz.prog.globalNamed "errors.errorType" = some 9:=by kernel_rfl
theorem rt:(Tryz.prog.cutTypes.find? (·.1 == "internal/reflectlite.rtype")).map (·.2)=some 258:=by kernel_rfl
theorem oneRow:((List.range Tryz.prog.types.size).filter λt=>Tryz.prog.rowNamed t [101,114,114,111,114])=[70]:=by kernel_rfl
theorem laid_met (os:Os) (args:Array Value):laidMetH Tryz.prog Rows.gaugeWithRow.laid ((laidWorld os).forCall (λ_ _=>0) ⟨#[],args,[]⟩).memory :=
 laidMetH_of_parts (laidMet_of_run (ps:=[.cell 2 0, .cell (low+0) 0, .cell 7 0, .cell (low+1) 0, .cell 11 0, .cell (low+2) 0, .cell 8 0, .cell (low+3) 0, .cell 6 0, .cell (low+4) 0, .cell 3 0, .cell (low+5) 0, .cell 5 0, .cell (low+6) 0, .cell 4 0, .cell (low+7) 0, .cell 0 0, .cell (low+8) 0, .cell 1 0, .cell (low+9) 0]) 8 (by kernel_rfl) (by kernel_rfl) (by kernel_rfl)) (by kernel_rfl)
theorem amV {W:World} (hL:laidMetH Tryz.prog Rows.gaugeWithRow.laid W):(∃ A:Nat->Addr,Env (Td.map (·.2.1)) 354 A W.heap.size W)/\Qr W:=by
 have h':laidMet Tryz.prog (Td.map (Ud "*errors.errorString")) W/\handlesMet Tryz.prog [("errors.errorType",Rows.laid_errors_errorType)] W:=hL;refine⟨af6 Tryz.underlying70 alp Tryz.underlying354 Tryz.underlying373 rfl rfl Tryz.underlying9 aiZ adO Td
  (List.forall_mem_cons.2 ⟨gN0,List.forall_mem_cons.2 ⟨gN1,List.forall_mem_cons.2 ⟨gN2,List.forall_mem_cons.2 ⟨gN3,List.forall_mem_cons.2 ⟨gN4,List.forall_mem_cons.2 ⟨gN5,List.forall_mem_cons.2 ⟨gN6,List.forall_mem_cons.2 ⟨gN7,List.forall_mem_cons.2 ⟨gN8,List.forall_mem_cons.2 ⟨gN9,λ_ h=>absurd h List.not_mem_nil⟩⟩⟩⟩⟩⟩⟩⟩⟩⟩) h'.1,?_⟩
 obtain⟨name,u,ty,e1,e2,e3,e4,e5⟩:=h'.2 _ (List.mem_singleton.2 rfl);have en:name=[101,114,114,111,114]:=(Option.some.inj e1).symm;subst en;obtain rfl:=Option.some.inj (rt.symm.trans e2);have hm:ty∈(List.range Tryz.prog.types.size).filter λt=>Tryz.prog.rowNamed t [101,114,114,111,114]:=List.mem_filter.2 ⟨List.mem_range.2 e3,e4⟩
 rw [oneRow] at hm;obtain rfl:=List.mem_singleton.1 hm;have hh:typeHandle Tryz.prog 70 = .pointer (some ⟨12,70,none⟩):=by kernel_rfl
 rw [hh] at e5;unfold Qr
 simpa using World.var?_cell et e5 0
theorem Bo {W:World} (hL:laidMetH Tryz.prog Rows.gaugeWithRow.laid W):∃ A:Nat->Addr,Sw A W.heap.size W:=by
 obtain⟨⟨A,h⟩,ht⟩:=amV hL;exact⟨A,Uk h (by decide),Uk h (by decide),Uk h (by decide),ht,Nat.le_refl _⟩
section
variable {H:Type} {enc:TypeId×Value->H} {P:Program}
theorem abk (hl:laidOutB P=true) {W W':World} (hb:Below W.heap.size W W'):∀ (ts:List TypeId) {vs:List Value} {ds:List (DataW H)} {ps:List MemPlace},(∀ t∈ts,P.readableRec t=true/\t<P.types.size) ->
  DataW.TrodAll enc P W 0 (λ_=>true) true ts vs ds ps->(∀ p∈ps,p.block<W.heap.size)->∀ sp:Nat->Bool,(∀ p∈ps,sp p.block=true)->DataW.TrodAll enc P W' 0 sp true ts vs ds ps
 | [],vs,ds,ps,_,h,_,sp,_=>by
  obtain⟨rfl,rfl,rfl⟩:=trodAll_nil h;exact trodAll_mk0
 | t::ts,vs,ds,ps,hr,h,hlt,sp,hs=>by
  obtain⟨v,vs',d,ds',p,q,rfl,rfl,rfl,h1,h2⟩:=trodAll_cons h;have ht:=hr t (List.mem_cons_self ..);exact trodAll_cons_mk (WideElems.Trod_stays hl ht.1 ht.2 h1 (λx hx=>hb.same (hlt x (List.mem_append_left _ hx))) (λx hx=>hs x (List.mem_append_left _ hx)))
   (abk hl hb ts (λt' h'=>hr t' (List.mem_cons_of_mem _ h')) h2 (λx hx=>hlt x (List.mem_append_right _ hx)) sp (λx hx=>hs x (List.mem_append_right _ hx)))
theorem Cc {f:Func} {s:ChangeSpec} {apart fresh handsOn again:Bool} {W W':World} {args:Array Value} {ds:List (DataW H)} {before:List MemPlace} {tb:TypeId} (hl:laidOutB P=true)
  (hv:s.vars=[]) (hW:DataW.Whole enc P f.params.toList s.vars apart W args.toList ds [] before) (hb:Below W.heap.size W W') (htb:P.underlying tb=some .bool) (hr:f.resultTypes=#[tb])
  (hread:∀ t∈f.params.toList,P.readableRec t=true/\t<P.types.size) (hs:s.fn H ds={ results:=[.lit (.bool true)],args:=ds }) :
  s.post enc P f apart fresh handsOn again W args (.bool true) W':=by
 have hW':=hW;obtain⟨p,q,hA,hV,he,hfz,hnd⟩:=hW;rw [hv] at hV;obtain⟨-,rfl⟩:=trodVars_none hV;rw [List.append_nil] at he;subst he;have hlt:∀ x∈before,x.block<W.heap.size:=λx hx=>hW'.lt x hx
 have hs':s.fn H (ds++[])={ results:=[.lit (.bool true)],args:=ds }:=by rw [List.append_nil];exact hs
 refine ajx (pa:=before) (pv:=[]) hW' ?_ ?_ ?_ (by simp) hb (ok_one hr rfl (okWide_bool_mk htb _))
 ·intro b sp hd;rw [hs',hr];exact trodAll_mk1 (shut_bool htb _)
 ·intro sp hsp;rw [hs'];exact abk hl hb _ hread hA hlt sp hsp
 ·intro sp _;rw [hs',hv]
  rfl
end
end
section
open Go.RowKit Go.ChangeShapes Go.WideShapes Go.Deep
section
variable {H:Type} {enc:TypeId×Value->H} {W:World}
theorem afP {fuel:Nat} {cs:List Value} {x:DataW H×List MemPlace} (h:DataW.trod enc Tryz.prog W 0 (λ_=>true) true fuel 31 cs=some x) :
  ∃ (t:Tab) (pi pb rv nv fv:Value),cs=[.int .i64 t.n,pi,pb,rv,nv,fv]/\TabAt W (.agg #[.int .i64 t.n,pi,pb,rv,nv,fv]) t:=by
 obtain⟨y0,y1,y2,y3,n,-,hl,h0,h1,h2,h3⟩:=Go.Joins.trod_struct4 Tryz.underlying31 h;obtain⟨c0,c1,c2,c3,c4,c5,rfl⟩:=ajR (l:=cs) (hl.trans (by kernel_rfl));obtain⟨k,e0,_⟩:=DataW.trod_int Tryz.underlying3 h0;have e0':[c0]=[.int .i64 k]:=e0;simp only [List.cons.injEq,and_true] at e0';subst e0';obtain⟨a2,b2,t2,e2,k1,k2⟩:=Zz (cs:=[c1,c2]) h1;obtain⟨l1,hl1⟩:=fA.open (v:=c3) h2;obtain⟨a3,b3,t3,e3,k3,k4⟩:=aeu (cs:=[c4,c5]) h3;simp only [List.cons.injEq,and_true] at e2 e3;obtain⟨rfl,rfl⟩:=e2;obtain⟨rfl,rfl⟩:=e3;exact⟨⟨k,t2,l1,t3⟩,_,_,_,_,_,rfl,_,_,_,_,_,rfl,k1,k2,hl1,k3,k4⟩
theorem ahv {α:Type} {l:List α} (h:l.length=3):∃ a b c,l=[a,b,c]:=by
 match l,h with
 | [a,b,c],_=>exact⟨a,b,c,rfl⟩
theorem ae3 {α:Type} {l:List α} (h:l.length=10):∃ a b c d e f g i j k,l=[a,b,c,d,e,f,g,i,j,k]:=by
 match l,h with
 | [a,b,c,d,e,f,g,i,j,k],_=>exact⟨a,b,c,d,e,f,g,i,j,k,rfl⟩
theorem ang {fuel:Nat} {cs:List Value} {x:DataW H×List MemPlace} (h:DataW.trod enc Tryz.prog W 0 (λ_=>true) true fuel 33 cs=some x) :
  ∃ (c:C.Wd) (iv bv:Value),cs=[iv,bv, .bool c.wide]/\WideAt W (.agg #[iv,bv, .bool c.wide]) c:=by
 obtain⟨y0,y1,n,-,hl,h0,h1⟩:=trod_struct2 Tryz.underlying33 h;obtain⟨c0,c1,c2,rfl⟩:=ahv (l:=cs) (hl.trans (by kernel_rfl));obtain⟨a2,b2,t2,e2,k1,k2⟩:=Zz (cs:=[c0,c1]) h0;simp only [List.cons.injEq,and_true] at e2;obtain⟨rfl,rfl⟩:=e2;obtain⟨b,e0⟩:=DataW.trod_bool Tryz.underlying4 h1;have e0':[c2]=[.bool b]:=e0.1;simp only [List.cons.injEq,and_true] at e0';subst e0';exact⟨⟨t2,b⟩,_,_,rfl,_,_,rfl,k1,k2⟩
theorem AO {base:Nat} {v:Value} {d:DataW H} {p:List MemPlace} (hv:Value.okWide Tryz.prog W .any base 35 v) (h:DataW.Trod enc Tryz.prog W 0 (λ_=>true) true 35 v d p) :
  ∃ g:C.Ga,dR W v g:=by
 obtain⟨cs,rfl,hsz⟩:=okWide_struct Tryz.underlying35 hv;obtain⟨fuel,hf⟩:=h;obtain⟨y0,y1,y2,n,-,-,h0,h1,h2⟩:=trod_struct3 Tryz.underlying35 hf;obtain⟨cs⟩:=cs;obtain⟨c0,c1,c2,c3,c4,c5,c6,c7,c8,c9,rfl⟩:=ae3 (l:=cs) (hsz.trans (by kernel_rfl));obtain⟨t,pi,pb,rv,nv,fv,e1,hT⟩:=afP (cs:=[c0,c1,c2,c3,c4,c5]) h0;obtain⟨c,iv,bv,e2,hW⟩:=ang (cs:=[c6,c7,c8]) h1;obtain⟨k,e3,_⟩:=DataW.trod_int Tryz.underlying3 h2;have e3':[c9]=[.int .i64 k]:=e3;simp only [List.cons.injEq,and_true] at e1 e2 e3';obtain⟨rfl,rfl,rfl,rfl,rfl,rfl⟩:=e1;obtain⟨rfl,rfl,rfl⟩:=e2;subst e3';exact⟨⟨t,c,k⟩,_,_,_,_,_,_,_,rfl,hT,hW⟩
end
end
section
namespace bC
def props:List UInt8:=[48,51,48,49,59,69,120,116,101,110,100]
def rule:List UInt8:=[43,32,69,120,116,101,110,100]
def names:List (List UInt8):=[[79,116,104,101,114],[69,120,116,101,110,100]]
def abo:List UInt8:=[52,69,50,68,59,87,10,48,51,48,49,59,90]
def r3:List F.aV:=[(769,769,1)]
def r4:List F.aV:=[(769,769,6),(20013,20013,3)]
def uD:D.Rule:=((false,[]),(false,[(2,0)]),false)
def NH:D.bH:=([[0,0,0]],[1])
def tb:Tab:=⟨2,F.jP r3,[uD],NH⟩
def wd:C.Wd:=⟨F.jP r4,false⟩
def ga (k:Int):C.Ga:=⟨tb,wd,k⟩
attribute [local irreducible] F.jP
theorem xZ {t:F.Trie} {l:List F.aV} (h:t=F.jP l) (r:Nat) (hr:r / 256<4352):F.says t (r:Int)=F.qC l (r:Int):=by rw [h,F.ah2 _ _ hr]
theorem zo:tb.p=F.jP r3:=rfl
theorem yG:wd.p=F.jP r4:=rfl
theorem rb3:F.vP r3=true:=by decide +kernel
theorem rb4:F.vP r4=true:=by decide +kernel
theorem nb:F.vF names=true:=by decide +kernel
theorem aeG:F.GR props names false=some r3:=by decide +kernel
theorem ajm:F.GR abo FY false=some r4:=by decide +kernel
theorem SK:F.split 10 rule=[rule]/\F.trim ((F.split 35 rule).headD [])≠[]/\F.H9 names (F.trim ((F.split 35 rule).headD []))=some uD:=by decide +kernel
theorem adk:nX uD:=⟨by decide,by decide⟩
theorem Ry:yK [uD] 2=0/\vG [uD] 2=NH:=by
 have h1:pX 2 [uD]=true:=by decide +kernel
 have h2:(D.build (lefts [uD]) 2 2).todo.length<=(D.build (lefts [uD]) 2 2).next.length:=by decide +kernel
 have h3:D.build (lefts [uD]) 2 300=D.build (lefts [uD]) 2 2:=D.Qo _ _ (by omega) h2;have h4:D.zZ (lefts [uD]) 2=true:=D.Zx _ _ (k:=2) (by omega) h2 (by decide +kernel);have h5:Nj (D.build (lefts [uD]) 2 2)=NH:=by decide +kernel
 refine⟨?_,?_⟩
 ·unfold yK;rw [h1,show (2:Int).toNat=2 from rfl,h4];rfl
 ·unfold vG Qb;rw [h1,show (2:Int).toNat=2 from rfl,h4,h3,h5];rfl
theorem fine:TJ NH=true:=by decide +kernel
theorem ok3:F.iw tb.p=true:=by rw [zo];exact F.acw (by decide)
theorem Fq {t:F.Trie} (l:List F.aV) (h:t=F.jP l):t.1.length<=100000/\t.2.length<=100000/\∀ r∈t.2,r.length<=256:=by
 have hb:=F.built l 4352;rw [h];unfold F.jP;generalize F.nR l 4352=b at hb;refine⟨?_,?_,λr hr=>?_⟩
 ·have:=hb.len;omega
 ·have:=hb.few;omega
 ·obtain⟨i,-,rfl⟩:=hb.all r hr;unfold F.oL;simp
theorem GL:dZ tb where
 p1:=(Fq r3 zo).1
 p2:=(Fq r3 zo).2.1
 p3:=λr hr=>Nat.le_trans ((Fq r3 zo).2.2 r hr) (by decide)
 r1:=λx hx=>by rw [List.mem_singleton.1 hx];exact adk
 r2:=by decide
 m:=⟨by decide +kernel,by decide +kernel,by decide +kernel⟩
theorem FC:fF wd where
 p1:=(Fq r4 yG).1
 p2:=(Fq r4 yG).2.1
 p3:=λr hr=>Nat.le_trans ((Fq r4 yG).2.2 r hr) (by decide)
theorem afO:jy tb=true:=by
 unfold jy;rw [ok3,show jd tb.r tb.m tb.n=true by decide +kernel]
 rfl
theorem ahK {l:List F.aV} (h:∀ x∈l,x.2.2<=6) (r:Int):F.qC l r<=6:=by
 unfold F.qC
 split
 ·rename_i x hx
  exact h x (List.mem_reverse.1 (List.mem_of_find?_eq_some hx))
 ·decide
theorem afy:C.kL wd=true:=by
 unfold C.kL;rw [show F.iw wd.p=true by rw [yG];exact F.acw (by decide),Bool.true_and,List.all_eq_true];intro b hb;rw [List.all_eq_true];intro x hx;rw [yG] at hb;unfold F.jP at hb;obtain⟨i,-,rfl⟩:=(F.built r4 4352).all b hb;unfold F.oL at hx;obtain⟨j,-,rfl⟩:=List.mem_map.1 hx;exact decide_eq_true (ahK (by decide) _)
theorem xY {k:Int} (h0:0<=k) (h1:k<=2):C.bF (ga k)=true:=by
 unfold C.bF;rw [show jy (ga k).t=true from afO,show C.kL (ga k).w=true from afy,show decide (0<=(ga k).k)=true from decide_eq_true h0,show decide ((ga k).k<=2)=true from decide_eq_true h1]
 rfl
theorem adY:C.bF (ga 3)=false:=by
 unfold C.bF;rw [show decide ((ga 3).k<=2)=false by decide,Bool.and_false]
theorem H6:F.says tb.p 97=0:=by rw [show (97:Int)=((97:Nat):Int) from rfl,xZ zo _ (by decide)];decide +kernel
theorem aga:C.jB wd 97=1:=by unfold C.jB;rw [show F.says wd.p 97=0 by rw [show (97:Int)=((97:Nat):Int) from rfl,xZ yG _ (by decide)];decide +kernel];decide
theorem Gg:F.says tb.p 769=1:=by rw [show (769:Int)=((769:Nat):Int) from rfl,xZ zo _ (by decide)];decide +kernel
theorem Y6:C.jB wd 769=0:=by unfold C.jB;rw [show F.says wd.p 769=6 by rw [show (769:Int)=((769:Nat):Int) from rfl,xZ yG _ (by decide)];decide +kernel];decide
theorem KO:F.says tb.p 20013=0:=by rw [show (20013:Int)=((20013:Nat):Int) from rfl,xZ zo _ (by decide)];decide +kernel
theorem ald:C.jB wd 20013=2:=by unfold C.jB;rw [show F.says wd.p 20013=3 by rw [show (20013:Int)=((20013:Nat):Int) from rfl,xZ yG _ (by decide)];decide +kernel];decide
theorem aaU:F.says tb.p 98=0:=by rw [show (98:Int)=((98:Nat):Int) from rfl,xZ zo _ (by decide)];decide +kernel
theorem afs:C.jB wd 98=1:=by unfold C.jB;rw [show F.says wd.p 98=0 by rw [show (98:Int)=((98:Nat):Int) from rfl,xZ yG _ (by decide)];decide +kernel];decide
theorem QN:F.says tb.p 46=0:=by rw [show (46:Int)=((46:Nat):Int) from rfl,xZ zo _ (by decide)];decide +kernel
theorem aeP:C.jB wd 46=1:=by unfold C.jB;rw [show F.says wd.p 46=0 by rw [show (46:Int)=((46:Nat):Int) from rfl,xZ yG _ (by decide)];decide +kernel];decide
theorem Fe:C.meas (ga 2) [97,769]=1:=by
 unfold C.meas;rw [if_neg (show ¬ (ga 2).k=0 by decide),if_neg (show ¬ (ga 2).k=1 by decide)];show C.fZ wd [97,769]=_
 simp [C.fZ,C.emoji,C.most,aga,Y6] <;> decide
theorem Gh:C.meas (ga 2) [20013]=2:=by
 unfold C.meas;rw [if_neg (show ¬ (ga 2).k=0 by decide),if_neg (show ¬ (ga 2).k=1 by decide)];show C.fZ wd [20013]=_
 simp [C.fZ,C.emoji,C.most,ald] <;> decide
theorem UU:C.meas (ga 2) [98]=1:=by
 unfold C.meas;rw [if_neg (show ¬ (ga 2).k=0 by decide),if_neg (show ¬ (ga 2).k=1 by decide)];show C.fZ wd [98]=_
 simp [C.fZ,C.emoji,C.most,afs] <;> decide
theorem VI:C.meas (ga 2) [46]=1:=by
 unfold C.meas;rw [if_neg (show ¬ (ga 2).k=0 by decide),if_neg (show ¬ (ga 2).k=1 by decide)];show C.fZ wd [46]=_
 simp [C.fZ,C.emoji,C.most,aeP] <;> decide
theorem ae5:C.meas (ga 2) [769]=0:=by
 unfold C.meas;rw [if_neg (show ¬ (ga 2).k=0 by decide),if_neg (show ¬ (ga 2).k=1 by decide)];show C.fZ wd [769]=_
 simp [C.fZ,C.emoji,C.most,Y6] <;> decide
def t1:List UInt8:=[97,204,129,228,184,173,98]
theorem Tj:aT t1=[97,769,20013,98]:=by decide +kernel
theorem YP:bK tb t1=[0,2,3,4]:=by
 unfold bK qI dW;rw [Tj];simp only [List.map_cons,List.map_nil,H6,aaU,Gg,KO]
 decide +kernel
theorem SB:C.aH tb t1=[[97,769],[20013],[98]]:=by unfold C.aH;rw [YP,Tj];rfl
theorem aeN:C.aS (ga 2) (C.aH tb t1) (C.aH tb t1).length=4:=by
 rw [SB];simp [C.aS,Fe,UU,Gh]
theorem Fv {k:Int} (h0:0<=k) (h1:k<=2):C.bJ (ga k) t1=0:=C.jL (xY h0 h1) (by decide)
theorem ajW:C.eG (ga 2) t1=4:=by
 unfold C.eG;rw [if_pos (Fv (by decide) (by decide))];exact aeN
theorem te1:textE tb t1=0:=C.nC (g:=ga 2) (xY (by decide) (by decide)) (by decide)
def t2:List UInt8:=[97,204,129,228,184,173,98,46]
theorem YJ:aT t2=[97,769,20013,98,46]:=by decide +kernel
theorem aiG:bK tb t2=[0,2,3,4,5]:=by
 unfold bK qI dW;rw [YJ];simp only [List.map_cons,List.map_nil,QN,H6,aaU,Gg,KO]
 decide +kernel
theorem agE:C.aH tb t2=[[97,769],[20013],[98],[46]]:=by unfold C.aH;rw [aiG,YJ];rfl
theorem agS:C.aS (ga 2) (C.aH tb t2) (C.aH tb t2).length=5:=by
 rw [agE];simp [C.aS,VI,Fe,UU,Gh]
theorem ge2 {k:Int} (h0:0<=k) (h1:k<=2):C.bJ (ga k) t2=0:=C.jL (xY h0 h1) (by decide)
theorem aj3:C.eG (ga 2) t2=5:=by
 unfold C.eG;rw [if_pos (ge2 (by decide) (by decide))];exact agS
def t3:List UInt8:=[97,204,129,228,184,173,46]
theorem Zl:aT t3=[97,769,20013,46]:=by decide +kernel
theorem air:bK tb t3=[0,2,3,4]:=by
 unfold bK qI dW;rw [Zl];simp only [List.map_cons,List.map_nil,QN,H6,Gg,KO]
 decide +kernel
theorem ah9:C.aH tb t3=[[97,769],[20013],[46]]:=by unfold C.aH;rw [air,Zl];rfl
theorem sum3:C.aS (ga 2) (C.aH tb t3) (C.aH tb t3).length=4:=by
 rw [ah9];simp [C.aS,VI,Fe,Gh]
theorem ge3 {k:Int} (h0:0<=k) (h1:k<=2):C.bJ (ga k) t3=0:=C.jL (xY h0 h1) (by decide)
theorem agl:C.eG (ga 2) t3=4:=by
 unfold C.eG;rw [if_pos (ge3 (by decide) (by decide))];exact sum3
def t4:List UInt8:=[97,204,129,46]
theorem SH:aT t4=[97,769,46]:=by decide +kernel
theorem abu:bK tb t4=[0,2,3]:=by
 unfold bK qI dW;rw [SH];simp only [List.map_cons,List.map_nil,QN,H6,Gg]
 decide +kernel
theorem ai1:C.aH tb t4=[[97,769],[46]]:=by unfold C.aH;rw [abu,SH];rfl
theorem agX:C.aS (ga 2) (C.aH tb t4) (C.aH tb t4).length=2:=by
 rw [ai1];simp [C.aS,VI,Fe]
theorem ge4 {k:Int} (h0:0<=k) (h1:k<=2):C.bJ (ga k) t4=0:=C.jL (xY h0 h1) (by decide)
theorem aiY:C.eG (ga 2) t4=2:=by
 unfold C.eG;rw [if_pos (ge4 (by decide) (by decide))];exact agX
theorem te4:textE tb t4=0:=C.nC (g:=ga 2) (xY (by decide) (by decide)) (by decide)
def t5:List UInt8:=[97,204,129,228,184,173]
theorem YN:aT t5=[97,769,20013]:=by decide +kernel
theorem ahj:bK tb t5=[0,2,3]:=by
 unfold bK qI dW;rw [YN];simp only [List.map_cons,List.map_nil,H6,Gg,KO]
 decide +kernel
theorem te5:textE tb t5=0:=C.nC (g:=ga 2) (xY (by decide) (by decide)) (by decide)
def t6:List UInt8:=[204,129,228,184,173]
theorem aae:aT t6=[769,20013]:=by decide +kernel
theorem agz:bK tb t6=[0,1,2]:=by
 unfold bK qI dW;rw [aae];simp only [List.map_cons,List.map_nil,Gg,KO]
 decide +kernel
theorem ag3:C.aH tb t6=[[769],[20013]]:=by unfold C.aH;rw [agz,aae];rfl
theorem agR:C.aS (ga 2) (C.aH tb t6) (C.aH tb t6).length=2:=by
 rw [ag3];simp [C.aS,ae5,Gh]
theorem ge6 {k:Int} (h0:0<=k) (h1:k<=2):C.bJ (ga k) t6=0:=C.jL (xY h0 h1) (by decide)
theorem anA:C.eG (ga 2) t6=2:=by
 unfold C.eG;rw [if_pos (ge6 (by decide) (by decide))];exact agR
def t7:List UInt8:=[97]
theorem abC:aT t7=[97]:=by decide +kernel
theorem ajo:bK tb t7=[0,1]:=by
 unfold bK qI dW;rw [abC];simp only [List.map_cons,List.map_nil,H6]
 decide +kernel
theorem te7:textE tb t7=0:=C.nC (g:=ga 2) (xY (by decide) (by decide)) (by decide)
def t8:List UInt8:=[46]
theorem aes:C.jO (ga 0) t1=[0,3,6,7]:=by
 unfold C.jO;rw [if_pos (Fv (by decide) (by decide)),show (ga 0).t=tb from rfl,SB]
 decide +kernel
theorem amF:C.qm (ga 2) t1 3=t5:=by
 unfold C.qm;rw [if_pos (Fv (by decide) (by decide)),show (ga 2).t=tb from rfl,SB];have h:C.dD (ga 2) [[97,769],[20013],[98]] 3 3=2:=by
  have e3:C.aS (ga 2) [[97,769],[20013],[98]] 3=4:=by simp [C.aS,Fe,Gh,UU]
  have e2:C.aS (ga 2) [[97,769],[20013],[98]] 2=3:=by simp [C.aS,Fe,Gh]
  simp [C.dD,e3,e2]
 rw [show ([[97,769],[20013],[98]]:List (List Int)).length=3 from rfl,h]
 decide +kernel
theorem Nl:C.cZ tb t1=[[97,204,129],[228,184,173],[98]]:=by
 unfold C.cZ;rw [if_pos te1,YP,Tj]
 decide +kernel
theorem ac8:C.cZ tb t7=[[97]]:=by
 unfold C.cZ;rw [if_pos te7,ajo,abC]
 decide +kernel
theorem aiW:C.isA tb t4 3=true:=by
 unfold C.isA C.eX;rw [if_pos te4,abu,SH]
 decide +kernel
theorem akB:C.isA tb t5 1=false:=by
 unfold C.isA C.eX;rw [if_pos te5,ahj,YN]
 decide +kernel
theorem Rz {h t:List UInt8} {n m:Int} (hm:C.eG (ga 2) (h++t)=m) (hn:n<m):C.gV (ga 2) h t n=false:=by
 unfold C.gV;rw [hm,decide_eq_false (by omega),Bool.and_false]
theorem Y8:C.jI (ga 2) t1 t8=0/\C.gu (ga 2) t1 t8 3=some 1:=by
 have h0:C.jI (ga 2) t1 t8=0:=by
  unfold C.jI;rw [xY (by decide) (by decide)]
  decide
 refine⟨h0,?_⟩;unfold C.gu;rw [if_pos h0,show (ga 2).t=tb from rfl,Nl];have g3:C.gV (ga 2) (C.headA tb t1 3) t8 3=false:=by
  unfold C.headA;rw [Nl];exact Rz (m:=5) aj3 (by decide)
 have g2:C.gV (ga 2) (C.headA tb t1 2) t8 3=false:=by
  unfold C.headA;rw [Nl];exact Rz (m:=4) agl (by decide)
 have g1:C.gV (ga 2) (C.headA tb t1 1) t8 3=true:=by
  unfold C.headA;rw [Nl];show C.gV (ga 2) [97,204,129] [46] 3=true
  unfold C.gV;rw [show [97,204,129]++[46]=t4 from rfl,aiY,show (ga 2).t=tb from rfl,show (([97,204,129]:List UInt8).length:Int)=3 from rfl,aiW]
  rfl
 simp only [List.length_cons,List.length_nil,C.qN,show (ga 2).t=tb from rfl,g3,g2,g1,show M.fix t8=t8 by decide +kernel]
 rfl
theorem abx:C.jI (ga 2) t7 t6=0/\C.gu (ga 2) t7 t6 1=none:=by
 have h0:C.jI (ga 2) t7 t6=0:=by
  unfold C.jI;rw [xY (by decide) (by decide)]
  decide
 refine⟨h0,?_⟩;unfold C.gu;rw [if_pos h0,show (ga 2).t=tb from rfl,ac8];have g1:C.gV (ga 2) (C.headA tb t7 1) t6 1=false:=by
  unfold C.headA;rw [ac8];show C.gV (ga 2) [97] t6 1=false
  unfold C.gV;rw [show [97]++t6=t5 from rfl,show (ga 2).t=tb from rfl,show (([97]:List UInt8).length:Int)=1 from rfl,akB]
  rfl
 have g0:C.gV (ga 2) (C.headA tb t7 0) t6 1=false:=by
  unfold C.headA;exact Rz (m:=2) anA (by decide)
 simp only [List.length_cons,List.length_nil,C.qN,show (ga 2).t=tb from rfl,g1,g0,show M.fix t6=t6 by decide +kernel]
 rfl
theorem three:C.bJ (ga 3) []=150:=by unfold C.bJ;rw [if_pos adY]
theorem aij:C.eG (ga 3) []=0:=by unfold C.eG;rw [three,if_neg (by decide)]
end bC
end
section
open Go.RowKit
attribute [local go_sem] Oper.semAt_some
attribute [local irreducible] F.jP
theorem Bd (A:Nat->Addr) (B:Nat) (w:World) (hS:Sw A B w) :
  Calls Tryz.prog 11 #[] w λe w'=>e = .returned (.bool true)/\Below w.heap.size w w':=by
 have HS:=bx hS;clear hS;obtain⟨V1,hV1⟩:∃ V,V=w.alloc (.cells #[.string { data:=#[79,116,104,101,114] }, .string { data:=#[69,120,116,101,110,100] }] 9):=⟨_,rfl⟩
 have HB1:=bx (show Below w.heap.size w V1 by rw [hV1];exact aO _ _);have qy:=bx (show dI V1 (.slice (some ⟨w.heap.size,0,none⟩) 2 2) bC.names by rw [hV1];exact alD w _ _ _);have hm:=ams bC.props bC.rule _ bC.names bC.r3 bC.uD V1 qy.o bC.nb bC.aeG bC.rb3 bC.SK.1 bC.SK.2.1 bC.SK.2.2 (by decide) bC.adk bC.Ry.1 (by rw [show ((bC.names.length:Nat):Int)=2 from rfl,bC.Ry.2];exact bC.fine);rw [show ((bC.names.length:Nat):Int)=2 from rfl,bC.Ry.2] at hm;have aa8:=bx hm;have fH:=bx hV1;clear hm hV1
 go_enter Tryz.func11,Tryz.ntmps11
 go_wp2_with fail;have hx:w.alloc (.cells #[.string { data:=#[79,116,104,101,114] }, .string { data:=#[69,120,116,101,110,100] }] 9)=V1:=fH.o.symm;rw [hx];clear hx;refine aa8.o.mono ?_;rintro e w2 ⟨⟨xv,rfl,hxv⟩,hb2⟩;have MR:=bx (show TabAt w2 xv bC.tb from hxv);have HB2:=bx (bT HB1.o hb2);clear hxv hb2 aa8 qy fH HB1;obtain⟨pi,pb,rv,nv,fv,rfl,t1,t2,t3,t4,t5⟩:=MR.o;obtain⟨b1,d1,rfl⟩:=t1.slice;obtain⟨b2,d2,rfl⟩:=t2.slice;obtain⟨b3,d3,rfl⟩:=t3.slice;obtain⟨b4,d4,rfl⟩:=t4.slice;obtain⟨b5,d5,rfl⟩:=t5.slice;clear t1 t2 t3 t4 t5;obtain⟨p1,hp1⟩:∃ q,bC.tb.p.1.length=q:=⟨_,rfl⟩
 obtain⟨p2,hp2⟩:∃ q,bC.tb.p.2.length=q:=⟨_,rfl⟩
 obtain⟨p3,hp3⟩:∃ q,bC.tb.r.length=q:=⟨_,rfl⟩
 obtain⟨p4,hp4⟩:∃ q,bC.tb.m.1.length=q:=⟨_,rfl⟩
 obtain⟨p5,Zn⟩:∃ q,bC.tb.m.2.length=q:=⟨_,rfl⟩
 rw [hp1,hp2,hp3,hp4,Zn,show bC.tb.n=2 from rfl] at MR ⊢;clear hp1 hp2 hp3 hp4 Zn;obtain⟨V2,hV2⟩:∃ V,V=w2.alloc (.cells #[.int .i64 2, .slice b1 p1 d1, .slice b2 p2 d2, .slice b3 p3 d3, .slice b4 p4 d4, .slice b5 p5 d5] 31):=⟨_,rfl⟩
 have mJ:=bx (show aj V2 w2.heap.size 31 #[.int .i64 2, .slice b1 p1 d1, .slice b2 p2 d2, .slice b3 p3 d3, .slice b4 p4 d4, .slice b5 p5 d5] by rw [hV2];exact aj.new _ _ _);have k2:Below w2.heap.size w2 V2:=by rw [hV2];exact aO _ _
 have HB2:=bx (bT HB2.o k2);have zy:=bx (MR.o.below k2);have IZ:=bx (λW (h:Below V2.heap.size V2 W)=>mJ.o.c6 h);have ZM:=bx (adG bC.abo false bC.r4 V2 bC.ajm bC.rb4);have iV:=bx hV2;clear hV2 k2 MR;go_wp2_with fail;rw [<- iV.o];refine ZM.o.mono ?_;rintro e w3 ⟨⟨wv,rfl,hwv⟩,hb3⟩;have Bl:=bx (show WideAt w3 wv bC.wd from hwv);have HB3:=bx (bT HB2.o hb3);have nS:=bx (zy.o.below hb3);have HD3:=bx hb3;clear hwv hb3 ZM HB2 zy iV;obtain⟨iv,bv,rfl,t6,t7⟩:=Bl.o;obtain⟨b6,d6,rfl⟩:=t6.slice;obtain⟨b7,d7,rfl⟩:=t7.slice;clear t6 t7;obtain⟨p6,hp6⟩:∃ q,bC.wd.p.1.length=q:=⟨_,rfl⟩
 obtain⟨p7,Zq⟩:∃ q,bC.wd.p.2.length=q:=⟨_,rfl⟩
 rw [hp6,Zq,show bC.wd.wide=false from rfl] at Bl ⊢;clear hp6 Zq;obtain⟨V3,lX⟩:∃ V,V=w3.alloc (.cells #[.slice b6 p6 d6, .slice b7 p7 d7, .bool false] 33):=⟨_,rfl⟩
 have uj:=bx (show aj V3 w3.heap.size 33 #[.slice b6 p6 d6, .slice b7 p7 d7, .bool false] by rw [lX];exact aj.new _ _ _);have k3:Below w3.heap.size w3 V3:=by rw [lX];exact aO _ _
 have s3:V3.heap.size=w3.heap.size+1:=by rw [lX];simp
 have aC:=bx s3;have HB3:=bx (bT HB3.o k3);have nS:=bx (nS.o.below k3);have HW3:=bx (Bl.o.below k3);have HD3:=bx (bT HD3.o k3);have II:=bx (λW (h:Below V3.heap.size V3 W)=>show W.cell? ⟨w3.heap.size,0,none⟩=some (.slice b6 p6 d6)/\W.cell? ⟨w3.heap.size,1,none⟩=some (.slice b7 p7 d7)/\W.cell? ⟨w3.heap.size,2,none⟩=some (.bool false)/\w3.heap.size<W.heap.size from⟨((uj.o.below h uj.o.lt).cell 0).trans rfl,((uj.o.below h uj.o.lt).cell 1).trans rfl,((uj.o.below h uj.o.lt).cell 2).trans rfl,(uj.o.below h uj.o.lt).lt⟩);have rX:=bx lX;clear lX k3 s3 Bl
 go_upto_region 3 with(fail)
 rw [<- rX.o];obtain⟨e0,e1,e2,e3,e4,e5,el⟩:=IZ.o V3 HD3.o;obtain⟨f0,f1,f2,fl⟩:=II.o V3 (Below.refl _ _);obtain⟨V4,yO⟩:∃ V,V=V3.alloc (.cells #[.int .i64 2, .slice b1 p1 d1, .slice b2 p2 d2, .slice b3 p3 d3, .slice b4 p4 d4, .slice b5 p5 d5, .slice b6 p6 d6, .slice b7 p7 d7, .bool false, .int .i64 2] 35):=⟨_,rfl⟩
 have jF:=bx (show aj V4 V3.heap.size 35 #[.int .i64 2, .slice b1 p1 d1, .slice b2 p2 d2, .slice b3 p3 d3, .slice b4 p4 d4, .slice b5 p5 d5, .slice b6 p6 d6, .slice b7 p7 d7, .bool false, .int .i64 2] by rw [yO];exact aj.new _ _ _);have k4:Below V3.heap.size V3 V4:=by rw [yO];exact aO _ _
 have HB4:=bx (bT HB3.o k4);have Ef:=bx (nS.o.below k4);have HW4:=bx (HW3.o.below k4);have HD4:=bx (bT HD3.o k4);have HE4:=bx k4;have o7:=bx (λW (h:Below V4.heap.size V4 W)=>show W.cell? ⟨V3.heap.size,0,none⟩=some (.int .i64 2)/\W.cell? ⟨V3.heap.size,1,none⟩=some (.slice b1 p1 d1)/\W.cell? ⟨V3.heap.size,2,none⟩=some (.slice b2 p2 d2)/\W.cell? ⟨V3.heap.size,3,none⟩=some (.slice b3 p3 d3)/\W.cell? ⟨V3.heap.size,4,none⟩=some (.slice b4 p4 d4)/\W.cell? ⟨V3.heap.size,5,none⟩=some (.slice b5 p5 d5)/\W.cell? ⟨V3.heap.size,6,none⟩=some (.slice b6 p6 d6)/\W.cell? ⟨V3.heap.size,7,none⟩=some (.slice b7 p7 d7)/\W.cell? ⟨V3.heap.size,8,none⟩=some (.bool false)/\W.cell? ⟨V3.heap.size,9,none⟩=some (.int .i64 2)/\V3.heap.size<W.heap.size from⟨((jF.o.below h jF.o.lt).cell 0).trans rfl,((jF.o.below h jF.o.lt).cell 1).trans rfl,((jF.o.below h jF.o.lt).cell 2).trans rfl,((jF.o.below h jF.o.lt).cell 3).trans rfl,((jF.o.below h jF.o.lt).cell 4).trans rfl,((jF.o.below h jF.o.lt).cell 5).trans rfl,((jF.o.below h jF.o.lt).cell 6).trans rfl,((jF.o.below h jF.o.lt).cell 7).trans rfl,((jF.o.below h jF.o.lt).cell 8).trans rfl,((jF.o.below h jF.o.lt).cell 9).trans rfl,(jF.o.below h jF.o.lt).lt⟩);have He:=bx yO;clear yO k4
 go_upto_region 4 with(fail)
 rw [<- He.o];clear e0 e1 e2 e3 e4 e5 el f0 f1 f2 fl;have FT:=bx (λ(k:Int) W (h:Below V4.heap.size V4 W)=>show dR W (.agg #[.int .i64 2, .slice b1 p1 d1, .slice b2 p2 d2, .slice b3 p3 d3, .slice b4 p4 d4, .slice b5 p5 d5, .slice b6 p6 d6, .slice b7 p7 d7, .bool false, .int .i64 k]) (bC.ga k) from⟨_,_,_,_,_,_,_,rfl,Ef.o.below h,HW4.o.below h⟩);have IZ:=bx (λW (h:Below V4.heap.size V4 W)=>IZ.o W (bT HD4.o h));have II:=bx (λW (h:Below V4.heap.size V4 W)=>II.o W (bT HE4.o h));have aY:=bx (λW (h:Below V4.heap.size V4 W)=>HS.o.below (bT HB4.o h));generalize V3.heap.size=gb at o7 ⊢;clear mJ uj jF nS Ef HW3 HW4 HD3 HD4 HE4 rX He HB3 HS aC;have hx:=Dh A B _ (bC.ga 2) (bs bC.t1) V4 (FT.o 2 V4 (Below.refl _ V4)) bC.GL bC.FC (by decide) (aY.o V4 (Below.refl _ V4)).e (aY.o V4 (Below.refl _ V4)).d (aY.o V4 (Below.refl _ V4)).g (aY.o V4 (Below.refl _ V4)).le;rw [show (bs bC.t1).data.toList=bC.t1 from rfl,bC.ajW,bC.Fv (by decide) (by decide)] at hx;have HF:=bx (show Calls Tryz.prog 17 #[.agg #[.int .i64 2, .slice b1 p1 d1, .slice b2 p2 d2, .slice b3 p3 d3, .slice b4 p4 d4, .slice b5 p5 d5, .slice b6 p6 d6, .slice b7 p7 d7, .bool false, .int .i64 2], .string { data:=#[97,204,129,228,184,173,98] }] V4 λe w'=>e = .returned (.tuple #[.int .i64 4, .int .i64 0])/\Below V4.heap.size V4 w' from hx);obtain⟨e0,e1,e2,e3,e4,e5,e6,e7,e8,e9,el⟩:=o7.o V4 (Below.refl _ V4);clear hx;go_wp2_with fail;refine HF.o.mono ?_;rintro e w5 ⟨rfl,hb⟩;have lG:=bx (bT (Below.refl _ V4) hb);clear e0 e1 e2 e3 e4 e5 e6 e7 e8 e9 el hb HF;have hx:=Nz A B _ (bC.ga 0) (bs bC.t1) w5 (FT.o 0 w5 lG.o) bC.GL bC.FC (by decide) (aY.o w5 lG.o).e (aY.o w5 lG.o).d (aY.o w5 lG.o).g (aY.o w5 lG.o).le;rw [show (bs bC.t1).data.toList=bC.t1 from rfl,bC.aes,bC.Fv (by decide) (by decide)] at hx;have hx:Calls Tryz.prog 16 #[.agg #[.int .i64 2, .slice b1 p1 d1, .slice b2 p2 d2, .slice b3 p3 d3, .slice b4 p4 d4, .slice b5 p5 d5, .slice b6 p6 d6, .slice b7 p7 d7, .bool false, .int .i64 0], .string { data:=#[97,204,129,228,184,173,98] }] w5 λe w'=>(∃ v',e = .returned (.tuple #[v', .int .i64 0])/\aB w' v' [0,3,6,7])/\Below w5.heap.size w5 w':=hx
 have HF:=bx hx;obtain⟨e0,e1,e2,e3,e4,e5,el⟩:=IZ.o w5 lG.o;obtain⟨f0,f1,f2,fl⟩:=II.o w5 lG.o;clear hx;go_wp2_with fail;refine HF.o.mono ?_;rintro e w6 ⟨⟨mv,rfl,hmv⟩,hb⟩;have HG2:=bx (bT lG.o hb);obtain⟨ma,mc,rfl⟩:∃ ma mc,mv = .slice ma 4 mc:=hmv.slice;have pK:=bx hmv;clear hmv;clear e0 e1 e2 e3 e4 e5 el f0 f1 f2 fl hb HF;have hx:=Gi A B _ (bC.ga 2) (bs bC.t1) (bs bC.t8) 3 w6 (FT.o 2 w6 HG2.o) bC.GL bC.FC (by decide) (by decide) (aY.o w6 HG2.o).e (aY.o w6 HG2.o).d (aY.o w6 HG2.o).g (aY.o w6 HG2.o).le;rw [show (bs bC.t1).data.toList=bC.t1 from rfl,show (bs bC.t8).data.toList=bC.t8 from rfl,bC.Y8.1,bC.Y8.2] at hx;have HF:=bx (show Calls Tryz.prog 13 #[.agg #[.int .i64 2, .slice b1 p1 d1, .slice b2 p2 d2, .slice b3 p3 d3, .slice b4 p4 d4, .slice b5 p5 d5, .slice b6 p6 d6, .slice b7 p7 d7, .bool false, .int .i64 2], .string { data:=#[97,204,129,228,184,173,98] }, .string { data:=#[46] }, .int .i64 3] w6 λe w'=>e = .returned (.tuple #[.int .i64 1, .bool true, .int .i64 0])/\Below w6.heap.size w6 w' from hx);obtain⟨e0,e1,e2,e3,e4,e5,e6,e7,e8,e9,el⟩:=o7.o w6 HG2.o;clear hx;go_wp2_with fail;refine HF.o.mono ?_;rintro e w7 ⟨rfl,hb⟩;have mZ:=bx (bT HG2.o hb);have pK:=bx (pK.o.below hb);clear e0 e1 e2 e3 e4 e5 e6 e7 e8 e9 el hb HF;have hx:=Vl A B _ (bC.ga 2) (bs bC.t1) 3 w7 (FT.o 2 w7 mZ.o) bC.GL bC.FC (by decide) (aY.o w7 mZ.o).e (aY.o w7 mZ.o).d (aY.o w7 mZ.o).g (aY.o w7 mZ.o).le;rw [show (bs bC.t1).data.toList=bC.t1 from rfl,bC.amF,bC.Fv (by decide) (by decide)] at hx;have HF:=bx (show Calls Tryz.prog 26 #[.agg #[.int .i64 2, .slice b1 p1 d1, .slice b2 p2 d2, .slice b3 p3 d3, .slice b4 p4 d4, .slice b5 p5 d5, .slice b6 p6 d6, .slice b7 p7 d7, .bool false, .int .i64 2], .string { data:=#[97,204,129,228,184,173,98] }, .int .i64 3] w7 λe w'=>e = .returned (.tuple #[.string { data:=#[97,204,129,228,184,173] }, .int .i64 0])/\Below w7.heap.size w7 w' from hx);obtain⟨e0,e1,e2,e3,e4,e5,e6,e7,e8,e9,el⟩:=o7.o w7 mZ.o;clear hx;go_wp2_with fail;refine HF.o.mono ?_;rintro e w8 ⟨rfl,hb⟩;have Ag:=bx (bT mZ.o hb);have pK:=bx (pK.o.below hb);clear e0 e1 e2 e3 e4 e5 e6 e7 e8 e9 el hb HF;have hx:=Dh A B _ (bC.ga 3) (bs []) w8 (FT.o 3 w8 Ag.o) bC.GL bC.FC (by decide) (aY.o w8 Ag.o).e (aY.o w8 Ag.o).d (aY.o w8 Ag.o).g (aY.o w8 Ag.o).le;rw [show (bs []).data.toList=[] from rfl,bC.three,bC.aij] at hx;have HF:=bx (show Calls Tryz.prog 17 #[.agg #[.int .i64 2, .slice b1 p1 d1, .slice b2 p2 d2, .slice b3 p3 d3, .slice b4 p4 d4, .slice b5 p5 d5, .slice b6 p6 d6, .slice b7 p7 d7, .bool false, .int .i64 3], .string { data:=#[] }] w8 λe w'=>e = .returned (.tuple #[.int .i64 0, .int .i64 150])/\Below w8.heap.size w8 w' from hx);obtain⟨e0,e1,e2,e3,e4,e5,el⟩:=IZ.o w8 Ag.o;obtain⟨f0,f1,f2,fl⟩:=II.o w8 Ag.o;clear hx;go_wp2_with fail;refine HF.o.mono ?_;rintro e w9 ⟨rfl,hb⟩;have kH:=bx (bT Ag.o hb);have pK:=bx (pK.o.below hb);clear e0 e1 e2 e3 e4 e5 el f0 f1 f2 fl hb HF;have hx:=Gi A B _ (bC.ga 2) (bs bC.t7) (bs bC.t6) 1 w9 (FT.o 2 w9 kH.o) bC.GL bC.FC (by decide) (by decide) (aY.o w9 kH.o).e (aY.o w9 kH.o).d (aY.o w9 kH.o).g (aY.o w9 kH.o).le;rw [show (bs bC.t7).data.toList=bC.t7 from rfl,show (bs bC.t6).data.toList=bC.t6 from rfl,bC.abx.1,bC.abx.2] at hx;have HF:=bx (show Calls Tryz.prog 13 #[.agg #[.int .i64 2, .slice b1 p1 d1, .slice b2 p2 d2, .slice b3 p3 d3, .slice b4 p4 d4, .slice b5 p5 d5, .slice b6 p6 d6, .slice b7 p7 d7, .bool false, .int .i64 2], .string { data:=#[97] }, .string { data:=#[204,129,228,184,173] }, .int .i64 1] w9 λe w'=>e = .returned (.tuple #[.int .i64 0, .bool false, .int .i64 0])/\Below w9.heap.size w9 w' from hx);obtain⟨e0,e1,e2,e3,e4,e5,e6,e7,e8,e9,el⟩:=o7.o w9 kH.o;clear hx;go_wp2_with fail;refine HF.o.mono ?_;rintro e w10 ⟨rfl,hb⟩;have HG6:=bx (bT kH.o hb);have pK:=bx (pK.o.below hb);clear e0 e1 e2 e3 e4 e5 e6 e7 e8 e9 el hb HF;obtain⟨V5,tN⟩:∃ V,V=w10.alloc (.cells #[.int .i64 0, .int .i64 3, .int .i64 6, .int .i64 7] 3):=⟨_,rfl⟩
 have k5:Below w10.heap.size w10 V5:=by rw [tN];exact aO _ _
 have i5:aB V5 (.slice (some ⟨w10.heap.size,0,none⟩) 4 4) [0,3,6,7]:=by rw [tN];exact ahu w10 [0,3,6,7] 3 4 rfl (by omega) _ rfl
 have h5:=RV _ _ [0,3,6,7] [0,3,6,7] V5 (pK.o.below k5) i5 (by simp) (by simp);rw [show decide (([0,3,6,7]:List Int)=[0,3,6,7])=true from rfl] at h5;have fB:=bx h5;have aK:=bx (bT HG6.o k5);have HV5:=bx tN;clear h5 i5 k5 tN;go_wp2_with fail;rw [<- HV5.o];refine fB.o.mono ?_;rintro e wX ⟨rfl,hb⟩;have HG9:=bx (bT HB4.o (bT aK.o hb));clear hb;go_wp2_with fail;go_ret
 exact⟨rfl,HG9.o⟩
end
end Go.Proofs.YtdenoeakcflnmaaGreatDoor
