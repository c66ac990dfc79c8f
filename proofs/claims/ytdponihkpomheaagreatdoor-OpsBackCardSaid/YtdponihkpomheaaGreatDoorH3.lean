/- Texts of this claim. -/
import Derived.Stop.RegionWithIn
import Derived.WideKeyArr
import Derived.Deep.AppendLies
import Derived.Deep.RegionLaw
import Derived.Great.BuildSlice
import Derived.Deep.MidRow
import Derived.Carry
import Derived.Maps.OwnIn
import Derived.Test.YtdponihkpomheaaGreatDoorH2

set_option maxHeartbeats 4000000
set_option maxRecDepth 100000
namespace Go.Proofs.YtdponihkpomheaaGreatDoor
open Go.RowKit
open Tryz
section
section
variable {P:Program} {ops:Array Oper} {Q:Exit->Act->World->Prop} {md:Region.Mode} {k:Nat} {F:World->Prop}
def Closed (md:Region.Mode) (ops:Array Oper) (l:Array Bool):Prop :=
 ∀ j oj,ops[j]?=some oj->l.getD j true=true->∀ e∈oj.after,Region.binds md e=true->l.getD e.on true=true
def Qb (md:Region.Mode) (ops:Array Oper) (l:Array Bool):Bool :=
 (List.range ops.size).all λj=>!l.getD j true||match ops[j]? with
  | some oj=>oj.after.all λe=>!Region.binds md e||l.getD e.on true
  | none=>true
theorem apI {l:Array Bool} (h:Qb md ops l=true):Closed md ops l:=by
 intro j oj hj hl e he hb;unfold Qb at h;rw [jG] at h;have h1:=h j (oM.2 (fF.1 hj).1);rw [hl,hj] at h1;simp only [Bool.not_true,Bool.false_or] at h1;have h2:=Array.all_eq_true'.1 h1 e he;rw [hb] at h2
 simpa using h2
theorem aum {l:Array Bool} {i:Nat} (h:Closed md ops l) (hr:i∈Region.ready md ops l):Closed md ops (l.setIfInBounds i true):=by
 obtain⟨hun,oi,hoi,hall⟩:=mem_ready.1 hr;have up:∀ j,l.getD j true=true->(l.setIfInBounds i true).getD j true=true:=by
  intro j hj
  by_cases e:i=j
  ·subst e;rw [Array.getD_eq_getD_getElem?,Array.getElem?_setIfInBounds];simp
   split <;> rfl
  rw [getD_set_ne true e];exact hj
 intro j oj hj hl e he hb
 by_cases hij:i=j
 ·subst hij;rw [hoi] at hj
  cases hj;exact up _ (by
   have h1:=hall e he hb
   rcases gZ e.on l.size with h' | h'
   ·simp [h'] at h1 ⊢;exact h1
   simp [Array.getElem?_eq_none h'])
 rw [getD_set_ne true hij] at hl;exact up _ (h j oj hj hl e he hb)
def FP (md:Region.Mode) (ops:Array Oper) (i:Nat):Nat->Nat->Bool
 | 0,_=>false
 | f+1,k=>match ops[k]? with
  | some ok=>ok.after.any λe=>Region.binds md e&&(e.on==i||FP md ops i f e.on)
  | none=>false
theorem U4 {l:Array Bool} {i:Nat} (hc:Closed md ops l) (hi:l.getD i true=false):∀ (f k:Nat),FP md ops i f k=true->l.getD k true=false
 | 0,_,h=>by simp [FP] at h
 | f+1,k,h=>by
  unfold FP at h
  cases hk:ops[k]? with
  | none=>rw [hk] at h;cases h
  | some ok =>
   rw [hk] at h;obtain⟨e,he,hb⟩:=Array.any_eq_true'.1 h;simp only [dD,Bool.or_eq_true,lN] at hb
   cases hl:l.getD k true with
   | false=>rfl
   | true =>
    have h1:=hc k ok hk hl e he hb.1
    rcases hb.2 with e1 | e1
    ·rw [e1,hi] at h1;cases h1
    rw [U4 hc hi f e.on e1] at h1;cases h1
def lX (P:Program) (md:Region.Mode) (ops:Array Oper) (Q:Exit->Act->World->Prop) (k:Nat) (F:World->Prop):Nat->Array Bool->Act->World->Prop
 | 0,listed,a,w=>Region.ready md ops listed=[]/\Q .normal a w
 | fuel+1,listed,a,w =>
  (Region.ready md ops listed=[]->Q .normal a w) /\
  ∀ i∈Region.ready md ops listed,wpOp P ops Q i (λa' w'=>((listed.setIfInBounds i true).getD k true=false->F w')/\lX P md ops Q k F fuel (listed.setIfInBounds i true) a' w') a w
theorem aaP:∀ (fuel:Nat) (listed:Array Bool) (a:Act) (w:World),lX P md ops Q k F fuel listed a w->wpAny P md ops Q fuel listed a w
 | 0,_,_,_,h=>h
 | fuel+1,_,_,_,h=>⟨h.1,λi hi=>wpOp_mono (λa' w' h'=>aaP fuel _ a' w' h'.2) (h.2 i hi)⟩
theorem amH {i f:Nat} {oi:Oper} {v:Value} (hi:ops[i]?=some oi) (hsel:∀ (j:Nat) (o:Oper) cs b,ops[j]?=some o->o.op≠.select cs b)
  (hQ:∀ c a w,Q (.panic c) (a.put oi.dst v) w->Q (.panic c) a w) (hik:i≠k) (hwt:FP md ops i f k=true) :
  ∀ (fuel:Nat) (listed:Array Bool) (a:Act) (w:World),
   (∀ j oj,ops[j]?=some oj->j≠i->listed.getD j true=false->(∀ e∈oj.after,Region.binds md e=true->e.on≠i)->oi.apart ops oj=true) ->
   i∈Region.ready md ops listed->Closed md ops listed->YieldsIf P ops F oi v a->(listed.getD k true=false->F w) ->
   lX P md ops Q k F fuel (listed.setIfInBounds i true) (a.put oi.dst v) w->lX P md ops Q k F (fuel+1) listed a w:=by
 intro fuel
 induction fuel with
 | zero =>
  intro listed a w _ hr hc hy hS H;refine⟨λh=>(by rw [h] at hr;cases hr),λj hj=>?_⟩;have hF:F w:=hS (U4 hc (mem_ready.1 hr).1 f k hwt)
  by_cases hji:j=i
  ·subst hji;exact YieldsIf.wpOp hi hy hF ⟨λ_=>hF,H⟩
  have:=ready_mono hj hji;rw [H.1] at this
  cases this
 | succ fuel ih =>
  intro listed a w hfree hr hc hy hS H;have hF:F w:=hS (U4 hc (mem_ready.1 hr).1 f k hwt);refine⟨λh=>(by rw [h] at hr;cases hr),λj hj=>?_⟩
  by_cases hji:j=i
  ·subst hji;exact YieldsIf.wpOp hi hy hF ⟨λ_=>hF,H⟩
  have h1:=H.2 j (ready_mono hj hji);obtain⟨hjun,oj,hoj,hall⟩:=mem_ready.1 hj;have hnot:∀ e∈oj.after,Region.binds md e=true->e.on≠i:=λe he hb heq=>by
   have h1:=hall e he hb;have h0:=(mem_ready.1 hr).1;rw [heq] at h1
   rcases gZ i listed.size with h' | h'
   ·simp [h'] at h0 h1;rw [h0] at h1;cases h1
   simp [Array.getElem?_eq_none h'] at h1
  have h2:=wpOp_putIf hoj (hfree j oj hoj hji hjun hnot) (λcs b=>hsel i oi cs b hi) (λcs b=>hsel j oj cs b hoj) hQ hy h1;have hfree':∀ k ok,ops[k]?=some ok->k≠i->(listed.setIfInBounds j true).getD k true=false ->
    (∀ e∈ok.after,Region.binds md e=true->e.on≠i)->oi.apart ops ok=true:=λk ok hk hki hun hno=>by
   refine hfree k ok hk hki ?_ hno
   by_cases hjk:j=k
   ·subst hjk;exact hjun
   rw [getD_set_ne true hjk] at hun;exact hun
  refine wpOp_mono (λa' w' h3=>?_) h2;have hS':(listed.setIfInBounds j true).getD k true=false->F w':=λh=>h3.2.1 (by
   rw [Array.setIfInBounds_comm _ _ (Ne.symm hji),getD_set_ne true hik];exact h)
  refine⟨hS',ih (listed.setIfInBounds j true) a' w' hfree' (ready_mono hr (Ne.symm hji)) (aum hc hj) h3.1 hS' ?_⟩;rw [Array.setIfInBounds_comm _ _ hji];exact h3.2.2
theorem kT {i:Nat} {oi:Oper} {v:Value} {fuel:Nat} {listed:Array Bool} {a:Act} {w:World} (hi:ops[i]?=some oi)
  (hs:(Region.noSelect ops&&Region.free md ops listed i&&(Region.ready md ops listed).contains i&&Qb md ops listed&&FP md ops i ops.size k&&!(i==k))=true)
  (hQ:∀ c a w,Q (.panic c) (a.put oi.dst v) w->Q (.panic c) a w) (hy:YieldsIf P ops F oi v a) (hS:F w)
  (h:lX P md ops Q k F fuel (listed.setIfInBounds i true) (a.put oi.dst v) w):lX P md ops Q k F (fuel+1) listed a w:=by
 simp only [dD,Bool.not_eq_true',fG] at hs;obtain⟨⟨⟨⟨⟨h1,h2⟩,h3⟩,h4⟩,h5⟩,h6⟩:=hs;exact amH hi (Region.noSelect_spec h1) hQ h6 h5 fuel listed a w (Region.free_spec hi h2) (by simpa using h3) (apI h4) hy (λ_=>hS) h
def rD (P:Program) (md:Region.Mode) (ops:Array Oper) (Q:Exit->Act->World->Prop) (k:Nat) (F:World->Prop) (fuel:Nat) (listed:Array Bool) (a:Act) (w:World) (rs:List Nat):Prop :=
 ∀ i∈rs,wpOp P ops Q i (λa' w'=>((listed.setIfInBounds i true).getD k true=false->F w')/\lX P md ops Q k F fuel (listed.setIfInBounds i true) a' w') a w
theorem rD.nil {fuel:Nat} {listed:Array Bool} {a:Act} {w:World}:rD P md ops Q k F fuel listed a w []:=λ_ h=>by cases h
theorem rD.cons {fuel:Nat} {listed:Array Bool} {a:Act} {w:World} {i:Nat} {o:Oper} {rs:List Nat} (ho:ops[i]?=some o)
  (h:∀ K':Act->World->Prop,Shut (∀ a w,((listed.setIfInBounds i true).getD k true=false->F w)->lX P md ops Q k F fuel (listed.setIfInBounds i true) a w->K' a w)->if Region.wanted o (yielded ops a.tmps)=true then Oper.wp P o a w K' Q else K' (a.put o.dst undef) w)
  (hs:rD P md ops Q k F fuel listed a w rs):rD P md ops Q k F fuel listed a w (i::rs):=λj hj=>by
 rcases fB.1 hj with rfl | hj
 ·exact wpOp_step ho (λK' hK=>h K' (λa w hS hW=>hK a w ⟨hS,hW⟩))
 exact hs j hj
theorem Qg {rs:List Nat} {fuel:Nat} {listed:Array Bool} {a:Act} {w:World} (hr:Region.ready md ops listed=rs) (hne:rs≠[])
  (h:rD P md ops Q k F fuel listed a w rs):lX P md ops Q k F (fuel+1) listed a w:=⟨λh0=>absurd (hr▸h0) hne,hr▸h⟩
theorem kO {i:Nat} {o:Oper} {fuel:Nat} {listed:Array Bool} {a:Act} {w:World} (hr:Region.ready md ops listed=[i]) (ho:ops[i]?=some o)
  (h:∀ K':Act->World->Prop,Shut (∀ a w,((listed.setIfInBounds i true).getD k true=false->F w)->lX P md ops Q k F fuel (listed.setIfInBounds i true) a w->K' a w)->if Region.wanted o (yielded ops a.tmps)=true then Oper.wp P o a w K' Q else K' (a.put o.dst undef) w) :
  lX P md ops Q k F (fuel+1) listed a w:=Qg hr (by simp) (rD.cons ho h rD.nil)
theorem kS (i:Nat) {oi:Oper} (v:Value) {Q:Exit->Act->World->Prop} {fuel:Nat} {listed:Array Bool} {a:Act} {w:World} (hi:ops[i]?=some oi) (hS:F w)
  (hy:∀ w,F w->(execOp a.eval oi).run P w = .ok (.value v) w) (h:lX P md ops (NoPanic Q) k F fuel (listed.setIfInBounds i true) (a.put oi.dst v) w)
  (hs:(Region.noSelect ops&&Region.free md ops listed i&&(Region.ready md ops listed).contains i&&Qb md ops listed&&FP md ops i ops.size k&&!(i==k))=true:=by kernel_rfl)
  (hw:Region.wanted oi (yielded ops a.tmps)=true:=by kernel_rfl):lX P md ops (NoPanic Q) k F (fuel+1) listed a w :=
 kT hi hs (λ_ _ _ h=>h) (Or.inl ⟨hw,hy⟩) hS h
def Kl (_:List Nat) (X:Prop):Prop:=X
theorem jB {X:Prop} (is:List Nat) (h:Kl is X):X:=h
theorem jA {i:Nat} {is:List Nat} {oi:Oper} (v:Value) {Q:Exit->Act->World->Prop} {fuel:Nat} {listed:Array Bool} {a:Act} {w:World} (hi:ops[i]?=some oi) (hS:F w)
  (hy:∀ w,F w->(execOp a.eval oi).run P w = .ok (.value v) w) (h:Kl is (lX P md ops (NoPanic Q) k F fuel (listed.setIfInBounds i true) (a.put oi.dst v) w))
  (hs:(Region.noSelect ops&&Region.free md ops listed i&&(Region.ready md ops listed).contains i&&Qb md ops listed&&FP md ops i ops.size k&&!(i==k))=true:=by kernel_rfl)
  (hw:Region.wanted oi (yielded ops a.tmps)=true:=by kernel_rfl):Kl (i::is) (lX P md ops (NoPanic Q) k F (fuel+1) listed a w) :=
 kS i v hi hS hy h hs hw
theorem jr {X:Prop} (h:X):Kl [] X:=h
theorem kP (i:Nat) {o:Oper} {fuel:Nat} {listed:Array Bool} {a:Act} {w:World} (ho:ops[i]?=some o)
  (h:∀ K':Act->World->Prop,Shut (∀ a w,((listed.setIfInBounds i true).getD k true=false->F w)->lX P md ops Q k F fuel (listed.setIfInBounds i true) a w->K' a w)->if Region.wanted o (yielded ops a.tmps)=true then Oper.wp P o a w K' Q else K' (a.put o.dst undef) w)
  (hr:Region.ready md ops listed=[i]:=by kernel_rfl):lX P md ops Q k F (fuel+1) listed a w:=kO hr ho h
theorem ak2 {listed:Array Bool} {a:Act} {w:World} (hr:Region.ready md ops listed=[]) (h:Q .normal a w) :
  ∀ fuel,lX P md ops Q k F fuel listed a w
 | 0=>⟨hr,h⟩
 | _+1=>⟨λ_=>h,by rw [hr];simp⟩
theorem kD {listed:Array Bool} {a:Act} {w:World} {Q:Exit->Act->World->Prop} (h:Q .normal a w) (fuel:Nat) (hr:Region.ready md ops listed=[]:=by kernel_rfl):lX P md ops (NoPanic Q) k F fuel listed a w:=ak2 hr (NoPanic.normal h) fuel
theorem jl {id:Nat} {a:Act} {w:World} (k:Nat) (F:World->Prop) (hm:P.follows .mixedOrders=true)
  (h:lX P .any ops (NoPanic Q) k F ops.size (Array.replicate ops.size false) a w.drew):(Code.region id ops true).wp P Q a w :=
 wp_region_noPanic (wp_region_any hm (aaP _ _ _ _ h))
end
section
variable {P:Program} {w0:World} {o:Oper} {a:Act} {K:Act->World->Prop} {Q:Exit->Act->World->Prop} {E':Prop} {ops:Array Oper}
theorem KU (hgd:o.guard=none) (s x:Operand) (t:TypeId)
  (ho:o.op = .call { callee:=.builtin .append,args:=#[s,x],argTypes:=#[t,t] }) {base:Nat} {e te:TypeId} {bytes:Nat} (hP:Pushes P t e bytes) {ps:List Pc} (hS:Sep ps w0) (k:Nat) {v u:Value} {n:Nat} {xs:List Value}
  (hk:ps[k]?=some (Pc.row base e 1 v n xs)) (hs:a.eval s=v) (hx:a.eval x = .slice (some ⟨w0.heap.size,0,none⟩) 1 1) (h1:u.oneCell'=true) (hn:n<=1000000000) (hby:bytes<=1000) (hbase:base<=w0.heap.size)
  (h:∀ v' w',Sep (ps.set k (Pc.row base e 1 v' (n+1) (xs++[u]))) w'->(∃ g c,v' = .slice (some ⟨g,0,none⟩) (n+1) c/\n+1<=c/\c<=9223372036854775807)->K (a.put o.dst v') w') :
  if Region.wanted o (yielded ops a.tmps)=true then Oper.wp P o a (w0.alloc (.cells #[u] te)) K Q else E':=by
 obtain⟨i,z,ht,hi,hz0,hz1,hz2,hz3⟩:=hP.o;have hb:(n+1)*bytes<=1000000001*1000:=zA (by omega) hby;rw [aG (by simp [Region.wanted,hgd])];obtain⟨v',w',hr,hown,hgrow,-,hat⟩:=run_append_own_at (P:=P) (w0.alloc (.cells #[u] te)) base t o.type e i z 1 bytes ht hi hz0 hz1 hz2 hz3 (by decide) v n xs ((hS.row k hk).alloc _) ⟨w0.heap.size,0,none⟩ 1 1 [u] rfl (cell_one_new _ _ _) (by simpa using h1) (by unfold maxLen;omega) (by omega) (by simp;omega);unfold Oper.wp execOp;simp only [ho,resolve,invoke,builtin,Sem.run_bind,Sem.run_pure,Result.andThen_ok,List.map_toArray,iR,oV,hs,hx,hr];have hS':=(hS.alloc (.cells #[u] te)).grow k hk hgrow hown (by
  rcases hat with e1 | e1
  ·exact .inl e1
  exact .inr (λq hq=>by rw [e1] at hq;simp only [iQ] at hq;omega))
 refine h v' w' hS' ?_
 rcases hown.2 with⟨_,h2⟩ | ⟨g,cap,cur,h2,_,_,h3,h4,_⟩
 ·omega
 exact⟨g,cap,h2,h3,by unfold maxLen at h4;omega⟩
end
structure zk (P:Program) (t e:TypeId) (s bytes:Nat):Prop where
 o:∃ (i:TypeInfo) (z:Value),P.underlying t=some (.slice e)/\P.info? e=some i/\i.zero=some z/\i.size=s/\i.bytes=bytes/\z.cells.size=s
theorem zk.mk' {P:Program} {t e:TypeId} {s bytes:Nat} {z:Value} (ht:P.underlying t=some (.slice e)) (h:(P.info? e).map (λi=>(i.zero,i.size,i.bytes))=some (some z,s,bytes)) (hz:z.cells.size=s):zk P t e s bytes:=by
 cases hi:P.info? e with
 | none=>rw [hi] at h;cases h
 | some i =>
  rw [hi] at h;simp only [Option.map_some,iQ,Prod.mk.injEq] at h;exact⟨i,z,ht,hi,h.1,h.2.1,h.2.2,hz⟩
theorem avT (w:World) (cs:List Value) (t:TypeId):∀ j u,cs[j]?=some u->(w.alloc (.cells cs.toArray t)).cell? ((⟨w.heap.size,0,none⟩:Addr).add j)=some u:=by
 intro j u hj
 (try unfold ay at *);rw [show (⟨w.heap.size,0,none⟩:Addr).add j=⟨w.heap.size,j,none⟩ by unfold Addr.add;by_cases h0:j=0 <;> simp [h0]]
 rw [cell_of_row _ _ _ _ _ _ (heap_alloc_new w _)]
 simpa using hj
section
variable {P:Program} {w0:World} {o:Oper} {a:Act} {K:Act->World->Prop} {Q:Exit->Act->World->Prop} {E':Prop} {ops:Array Oper}
theorem agS {t:TypeId} {base:Nat} {e te:TypeId} {sz bytes:Nat} (hP:zk P t e sz bytes) (hsz:0<sz) {ps:List Pc} (hS:Sep ps w0) (k:Nat) {v:Value} {cs:List Value} {n:Nat} {xs:List Value}
  (hk:ps[k]?=some (Pc.row base e sz v n xs)) (hc:cs.length=sz) (h1:∀ u∈cs,u.oneCell'=true) (hn:n<=1000000000) (hby:bytes<=10000) (hbase:base<=w0.heap.size) (ty:TypeId) :
  ∃ v' w',(Builtin.append_ #[t,t] ty #[v, .slice (some ⟨w0.heap.size,0,none⟩) 1 1]).run P (w0.alloc (.cells cs.toArray te)) = .ok v' w'/\Sep (ps.set k (Pc.row base e sz v' (n+1) (xs++cs))) w'/\(∃ g c,v' = .slice (some ⟨g,0,none⟩) (n+1) c/\n+1<=c/\c<=9223372036854775807):=by
 obtain⟨i,z,ht,hi,hz0,hz1,hz2,hz3⟩:=hP.o;have hb:(n+1)*bytes<=1000000001*10000:=zA (by omega) hby;obtain⟨v',w',hr,hown,hgrow,-,hat⟩:=run_append_own_at (P:=P) (w0.alloc (.cells cs.toArray te)) base t ty e i z sz bytes ht hi hz0 hz1 hz2 hz3 hsz v n xs ((hS.row k hk).alloc _) ⟨w0.heap.size,0,none⟩ 1 1 cs (by omega) (avT _ _ _) h1 (by unfold maxLen;omega) (by omega) (by simp;omega);refine⟨v',w',hr,(hS.alloc (.cells cs.toArray te)).grow k hk hgrow hown (by
  rcases hat with e1 | e1
  ·exact .inl e1
  exact .inr (λq hq=>by rw [e1] at hq;simp only [iQ] at hq;omega)),?_⟩
 rcases hown.2 with⟨_,h2⟩ | ⟨g,cap,cur,h2,_,_,h3,h4,_⟩
 ·omega
 exact⟨g,cap,h2,h3,by unfold maxLen at h4;omega⟩
theorem aaZ (hgd:o.guard=none) (s x:Operand) (t:TypeId)
  (ho:o.op = .call { callee:=.builtin .append,args:=#[s,x],argTypes:=#[t,t] }) {base:Nat} {e te:TypeId} {sz bytes:Nat} (hP:zk P t e sz bytes) (hsz:0<sz) {ps:List Pc} (hS:Sep ps w0) (k:Nat) {v:Value} {cs:List Value} {n:Nat} {xs:List Value}
  (hk:ps[k]?=some (Pc.row base e sz v n xs)) (hs:a.eval s=v) (hx:a.eval x = .slice (some ⟨w0.heap.size,0,none⟩) 1 1) (hc:cs.length=sz) (h1:∀ u∈cs,u.oneCell'=true) (hn:n<=1000000000) (hby:bytes<=10000) (hbase:base<=w0.heap.size)
  (h:∀ v' w',Sep (ps.set k (Pc.row base e sz v' (n+1) (xs++cs))) w'->(∃ g c,v' = .slice (some ⟨g,0,none⟩) (n+1) c/\n+1<=c/\c<=9223372036854775807)->K (a.put o.dst v') w') :
  if Region.wanted o (yielded ops a.tmps)=true then Oper.wp P o a (w0.alloc (.cells cs.toArray te)) K Q else E':=by
 rw [aG (by simp [Region.wanted,hgd])];obtain⟨v',w',hr,h2,h3⟩:=agS (P:=P) hP hsz hS k hk hc h1 hn hby hbase o.type (te:=te);unfold Oper.wp execOp;simp only [ho,resolve,invoke,builtin,Sem.run_bind,Sem.run_pure,Result.andThen_ok,List.map_toArray,iR,oV,hs,hx,hr];exact h v' w' h2 h3
theorem Bh {rest:List Oper} (hgd:o.guard=none) (s x:Operand) (t:TypeId)
  (ho:o.op = .call { callee:=.builtin .append,args:=#[s,x],argTypes:=#[t,t] }) {base:Nat} {e te:TypeId} {sz bytes:Nat} (hP:zk P t e sz bytes) (hsz:0<sz) {ps:List Pc} (hS:Sep ps w0) (k:Nat) {v:Value} {cs:List Value} {n:Nat} {xs:List Value}
  (hk:ps[k]?=some (Pc.row base e sz v n xs)) (hs:a.eval s=v) (hx:a.eval x = .slice (some ⟨w0.heap.size,0,none⟩) 1 1) (hc:cs.length=sz) (h1:∀ u∈cs,u.oneCell'=true) (hn:n<=1000000000) (hby:bytes<=10000) (hbase:base<=w0.heap.size)
  (h:∀ v' w',Sep (ps.set k (Pc.row base e sz v' (n+1) (xs++cs))) w'->(∃ g c,v' = .slice (some ⟨g,0,none⟩) (n+1) c/\n+1<=c/\c<=9223372036854775807)->wpList P ops Q rest (a.put o.dst v') w') :
  wpList P ops Q (o::rest) a (w0.alloc (.cells cs.toArray te)):=by
 refine wpList_plain hgd λK hK=>?_
 obtain⟨v',w',hr,h2,h3⟩:=agS (P:=P) hP hsz hS k hk hc h1 hn hby hbase o.type (te:=te);unfold Oper.wp execOp;simp only [ho,resolve,invoke,builtin,Sem.run_bind,Sem.run_pure,Result.andThen_ok,List.map_toArray,iR,oV,hs,hx,hr];exact hK _ _ (h v' w' h2 h3)
end
theorem flat_get {α β:Type} (f:α->List β) (s:Nat):∀ (L:List α) (i j:Nat) (x:α),(∀ y∈L,(f y).length=s)->L[i]?=some x->j<s->(L.flatMap f)[i*s+j]?=(f x)[j]?
 | [],i,_,_,_,h,_=>by simp at h
 | y::L,0,j,x,hl,h,hj=>by
  simp only [rQ,iQ] at h;subst h;rw [pq,Nat.zero_mul,Nat.zero_add,zU (by rw [hl y (jZ ..)];exact hj)]
 | y::L,i+1,j,x,hl,h,hj=>by
  rw [List.getElem?_cons_succ] at h;have hy:=hl y (jZ ..);rw [pq,yD (by rw [hy,Nat.succ_mul];omega),hy,show (i+1)*s+j-s=i*s+j by rw [Nat.succ_mul];omega];exact flat_get f s L i j x (λz hz=>hl z (mZ _ hz)) h hj
theorem aeu (k:Nat):(2:Int) ^ k=((2 ^ k:Nat):Int):=by simp
theorem aui (S m k:Nat) (hS:S<2 ^ k) (hm:m<k):S ||| 2 ^ m<2 ^ k:=Nat.or_lt_two_pow hS (Nat.pow_lt_pow_right (by omega) hm)
theorem arJ (S k:Nat) (hS:S<2 ^ k) (hk:k<=40):S<1099511627776:=by
 have:2 ^ k<=2 ^ 40:=Nat.pow_le_pow_right (by omega) hk;omega
structure Agree (W0 w:World):Prop where
 size:W0.heap.size<=w.heap.size
 block:∀ k,k<W0.heap.size->w.heap[k]?=W0.heap[k]?
theorem Agree.of_below {W0 w:World} (h:ak W0 w):Agree W0 w:=⟨h.size,h.block⟩
theorem Agree.turns {A B C:World} {own:Nat->Prop} (h:Agree A B) (k:Turns own B C) (ho:∀ i,own i->A.heap.size<=i):Agree A C :=
 ⟨bP h.size k.size,λi hi=>(k.block i (fC hi h.size) (λe=>by have:=ho i e;omega)).trans (h.block i hi)⟩
theorem Agree.holds {A B C:World} {own:Nat->Prop} (h:Agree A B) (k:Holds own B C) (ho:∀ i,i<A.heap.size->own i):Agree A C :=
 ⟨bP h.size k.size,λi hi=>(k.block i (ho i hi)).trans (h.block i hi)⟩
theorem YX {P:Program} {T K E:TypeId} {q:IntKind} (hm:P.underlying T=some (.map K E)) (hk:P.underlying K=some (.int q)) (W:World) (es:Array MapEntry) (clk:Nat) (k:Int) (n:Nat) (hg:W.heap[n]?=some (.map es clk))
  (i:Nat) (v:Value) (hf:Instr.findNow (.int q) (.int q k) es.toList 0=some (some (i,v))) :
  (Instr.lookup T (.map (some n)) (.int q k) false).run P W = .ok v W:=by
 have h1:(Instr.checkKey es.isEmpty 10000 K (.int q k)).run P W = .ok () W:=MapKept.run_checkKey hk (by simp [MapKept.IsKey]) _ 9999;have h2:=MapKept.run_findKey (P:=P) (w:=W) hk hf;unfold Instr.lookup;simp only [Sem.run_bind,run_underlying hm,Result.andThen,MapKept.run_getObj_map hg,h1,h2,Sem.run_pure,Bool.false_eq_true,if_false]
theorem RQ {P:Program} {f:FuncId} {args:Array Value} {w:World} {n:Nat} {v:Value}
  (h:Calls P f args (w.drewN n) λe w'=>e = .returned v/\w.drewN n=w'):Calls P f args (w.drewN n) λe w''=>e = .returned v/\∃ m,w''=w.drewN m :=
 h.mono λ_ _ ⟨he,hm⟩=>⟨he,n,hm.symm⟩
theorem ail {l:List N.Item} (h:kL l=true) {i:Nat} {x:N.Item} (hx:l[i]?=some x):0<=x.2/\x.2<=2:=by
 unfold kL at h;rw [dD,jG] at h;have:=h.2 x (dB hx);unfold nY at this;simp only [dD,fD] at this;exact⟨this.1.2,this.2⟩
def Cj (W0:World) (Br Bs Bc:Nat) (k:Nat):Prop:=k<W0.heap.size\/k=Br\/k=Bs\/k=Bc
def LQ (l:List N.Item):Int:=if kL l=true then (N.most l:Int) else 0
def RG (l:List N.Item):Value:=if kL l=true then .tuple #[ah (N.clo l 0), ah 0] else .tuple #[ah 0, ah 80]
def xg (l:List N.Item) (x:Int):Bool:=kL l&&decide (0<=x)&&decide (x<=N.most l)
def PS (l:List N.Item) (st:Bool) (x c:Int):Value:=if xg l x=true then .tuple #[ah (N.step l st x.toNat c), ah 0] else .tuple #[ah 0, ah 80]
def Tf (l:List N.Item) (x:Int):Bool:=xg l x&&N.XY l x.toNat
theorem dA (w:World) (o:Obj):ak w (w.alloc o):=aZ.alloc aU o
theorem aB {V w:World} {o:Obj} (h:V=w.alloc o):ak w V:=h▸dA w o
theorem aK {V w:World} {cs:Array Value} {t:TypeId} (h:V=w.alloc (.cells cs t)):aC V w.heap.size t cs:=h▸aC.new w t cs
theorem ahc (l:List N.Item) (h:l.length<=10):N.most l<4611686018427387904:=by
 have:2 ^ (2*l.length+1)<=2 ^ 21:=Nat.pow_le_pow_right (by omega) (by omega);unfold N.most;omega
theorem FI {l:List N.Item} (h:kL l=true):l.length<=10:=by
 unfold kL at h;rw [dD] at h;exact of_decide_eq_true h.1
end
section
open Go.Shelf
attribute [local go_sem] Oper.semAt_some
def Ik (x:D.Rule):D.Rule:=((x.1.1,x.1.2.take 12),(x.2.1.1,x.2.1.2.take 12),x.2.2)
def Ic (l:List D.Rule):List D.Rule:=(l.take 42).map Ik
theorem QB {α:Type} (xs:List α) (k:Nat) (x:α) (h:xs[k]?=some x):xs.take (k+1)=xs.take k++[x]:=by rw [jw,h];rfl
def Ag (y:D.Rule×Value×Value):List Value:=[.bool y.1.1.1,y.2.1, .bool y.1.2.1.1,y.2.2, .bool y.1.2.2]
theorem adh:zk prog 26 254 5 72:=.mk' (z:=.agg #[.bool false, aj, .bool false, aj, .bool false]) underlying26 (by kernel_rfl) rfl
def JV (W:World) (L:List (D.Rule×Value×Value)):Prop:=∀ y∈L,fE W y.2.1 y.1.1.2/\fE W y.2.2 y.1.2.1.2
theorem afs {W:World} {base n:Nat} {v:Value} {L:List (D.Rule×Value×Value)} (h:W.ownsRow base 254 5 v n (L.flatMap Ag)) (hn:n=L.length) (hV:JV W L):iD W v (L.map (·.1)):=by
 subst hn
 rcases h.2 with⟨h1,h2⟩ | ⟨g,cap,cur,h1,h2,h3,h4,h5,h6,h7⟩
 ·rw [nR h2];exact .inl ⟨h1,rfl⟩
 refine .inr ⟨g,0,none,cap,by rw [h1,aV],by rw [aV];exact h4,h5,λhn=>⟨rfl,(fF.1 h3).1,λi x hx=>?_⟩⟩;rw [eX] at hx;obtain⟨y,hy,rfl⟩:=rC.1 hx;have hc:∀ (j:Nat) (u:Value),j<5->(Ag y)[j]?=some u->ay W g (0+i*5+j)=some u:=by
  intro j u hj hu;have h8:=h.cells (g:=g) (by rw [h1];rfl) (i*5+j) u (by rw [flat_get Ag 5 L i j y (λz _=>rfl) hy hj];exact hu)
  (try unfold ay at *);rw [show (⟨g,0,none⟩:Addr).add (i*5+j)=⟨g,0+i*5+j,none⟩ by unfold Addr.add;split <;> simp_all] at h8
  exact h8
 obtain⟨k1,k2⟩:=hV y (dB hy);exact⟨y.2.1,y.2.2,hc 0 _ (by omega) rfl,hc 1 _ (by omega) rfl,hc 2 _ (by omega) rfl,hc 3 _ (by omega) rfl,hc 4 _ (by omega) rfl,k1,k2⟩
end
theorem own_below {w w':World} {B:Nat} {T:TypeId} {v:Value} {n:Nat} {bs:List Value} (h:w.ownsRow B T 1 v n bs) (hb:ak w w'):w'.ownsRow B T 1 v n bs:=by
 have hl:=h.lt;refine⟨h.1,?_⟩
 rcases h.2 with h2 | ⟨g,cap,cur,h2,h3,h4,h5⟩
 ·exact .inl h2
 exact .inr ⟨g,cap,cur,h2,h3,(hb.block g (hl g (by rw [h2];rfl)).2).trans h4,h5⟩
def kH (n:Nat):Value:=ah n
theorem ownsRow_shape {w:World} {base:Nat} {e:TypeId} {size:Nat} {v:Value} {n:Nat} {xs:List Value} (h:w.ownsRow base e size v n xs):∃ a c,v = .slice a n c:=by
 rcases h.2 with⟨rfl,rfl⟩ | ⟨g,cap,cur,rfl,_⟩
 ·exact⟨_,_,rfl⟩
 exact⟨_,_,rfl⟩
theorem aC.setRow {w:World} {g:Nat} {t:TypeId} {cs:Array Value} (h:aC w g t cs) (cs':Array Value):aC (w.setRow g cs') g t cs':=setRow_heap w g cs cs' t (0,0) h
section
open Go.WideMaps
def Small (s:D.Sets):Prop:=∀ x∈s,x<4611686018427387904
structure Fine (n:Nat) (t:List D.Sets):Prop where
 n40:n<=40
 len:∀ s∈t,s.length=n
 small:∀ s∈t,Small s
 once:t.Nodup
end
theorem amd (S n:Nat) (h:S.testBit n=false):S+2 ^ n=S ||| 2 ^ n:=by
 have hp:2 ^ (n+1)=2*2 ^ n:=by rw [Nat.pow_succ];omega
 have hpos:0<2 ^ n:=Nat.two_pow_pos n;rw [Nat.testBit_eq_decide_div_mod_eq,yX] at h;have hb:S % 2 ^ (n+1)<2 ^ n:=by
  rw [hp,Nat.mul_comm,Nat.mod_mul];have:S / 2 ^ n % 2=0:=by omega
  rw [this];have:=Nat.mod_lt S hpos;omega
 have hS:2 ^ (n+1)*(S / 2 ^ (n+1))+S % 2 ^ (n+1)=S:=Nat.div_add_mod _ _;generalize S / 2 ^ (n+1)=a at hS;generalize S % 2 ^ (n+1)=b at hS hb;have h1:2 ^ (n+1)*a+b=2 ^ (n+1)*a ||| b:=Nat.two_pow_add_eq_or_of_lt (by omega) a
 have h2:2 ^ n*1+b=2 ^ n*1 ||| b:=Nat.two_pow_add_eq_or_of_lt hb 1
 have h3:2 ^ (n+1)*a+(2 ^ n*1+b)=2 ^ (n+1)*a ||| (2 ^ n*1+b):=Nat.two_pow_add_eq_or_of_lt (by omega) a
 rw [Nat.mul_one] at h2 h3;rw [<- hS,show 2 ^ (n+1)*a+b+2 ^ n=2 ^ (n+1)*a+(2 ^ n+b) by omega,h3,h2,h1,Nat.or_assoc,Nat.or_comm b]
theorem amr (S n:Nat) (h:S.testBit n=true):S ||| 2 ^ n=S:=by
 apply Nat.eq_of_testBit_eq
 intro i;rw [Nat.testBit_or,Nat.testBit_two_pow]
 by_cases e:n=i
 ·subst e;rw [h];rfl
 simp [e]
theorem YA (st:Bool) (v:Value) (l:List N.Item) (hl:l.length<=12):∀ (d n S:Nat) (w:World),2*l.length+2-n<=d->n<=2*l.length->S<2 ^ (2*l.length+1)->fE w v l ->
  Calls prog 261 #[.agg #[.bool st,v], ah S, ah n] w λe w'=>e = .returned (ah ((S ||| N.clo l n:Nat):Int))/\ak w w':=by
 intro d
 induction d with
 | zero=>intro n S w hd hn hS hv;omega
 | succ d ih =>
  intro n S w hd hn hS hv;have IH:=bx ih;have HV:=bx hv;have HB0:=bx (aC.new w 252 #[.bool st,v]);have HW0:=bx (dA w (.cells #[.bool st,v] 252));have HS:=bx hS;have hS2:S<1099511627776:=arJ _ _ hS (by omega);obtain⟨ao,cap,rfl⟩:=hv.slice;obtain⟨q,hq⟩:∃ q,2 ^ n=q:=⟨_,rfl⟩
  have hq1:q<=1099511627776:=by rw [<- hq];exact Nat.pow_le_pow_right (n:=2) (by omega) (show n<=40 by omega)
  have HQ:=bx hq;have HD:=bx hd;clear hv ih hS hq hd
  go_in
  go_wp2_with fail;refine aP (GI S n _ (by omega) (by omega)) ?_
  go_upto_if 10 with(fail)
  go_cut [1] from 9 to 14 (λs wx=>s = ah ((S ||| 2 ^ n:Nat):Int)/\Box (ak w wx)/\Box (aC wx w.heap.size 252 #[.bool st, .slice ao l.length cap]))
  case first =>
   cases hb:S.testBit n with
   | true =>
    have HO:=bx (amr S n hb);clear hb;go_wp2_with fail
    go_meet
    exact⟨by rw [HO.o],HW0,HB0⟩
   | false =>
    have HO:=bx (amd S n hb);clear hb;go_wp2_with fail;refine aP (aai n _ (by omega)) ?_;rw [HQ.o];go_wp2_with fail
    go_meet
    exact⟨Dy (by rw [<- HO.o,HQ.o];simp),HW0,HB0⟩
  case rest =>
   obtain⟨rfl,hb,hbk⟩:=hcut;have c0:wc.cell? ⟨w.heap.size,0,none⟩=some (.bool st):=(hbk.o.cell 0).trans rfl;have c1:wc.cell? ⟨w.heap.size,1,none⟩=some (.slice ao l.length cap):=(hbk.o.cell 1).trans rfl
   by_cases hodd:n % 2=1
   ·have HC:=bx (N.aoS l n hodd);have t1:((n:Int) % 2==0)=false:=by rw [fG];omega
    clear hodd
    go_wp2
    go_ret
    exact⟨by rw [HC.o];rfl,hb.o⟩
   have t1:((n:Int) % 2==0)=true:=by rw [lN];omega
   by_cases hend:l.length<=n / 2
   ·have HC:=bx (N.ajc l n hend);have t2:decide ((n:Int) / 2<(l.length:Int))=false:=by rw [yX];omega
    clear hodd
    go_wp2
    go_ret
    exact⟨by rw [HC.o];rfl,hb.o⟩
   have t2:decide ((n:Int) / 2<(l.length:Int))=true:=by rw [fD];omega
   obtain⟨x,hx⟩:=bV l (n / 2) (by omega);obtain⟨g,off,cap2,hg1,hg2,hg3,hg4,hg5⟩:=(HV.o.below hb.o).get (by rintro rfl;simp at hend);obtain⟨rfl,rfl⟩:=dQ hg1;obtain⟨hc1,hc2⟩:=hg5 _ x hx;have HH:=bx (show N.DF l (n / 2)=x.2 by unfold N.DF;simp [List.getD,hx]);unfold maxLen at hg3;have hlt:n / 2<l.length:=by omega
   obtain⟨set,how⟩:=x
   by_cases h0:how=0
   ·have HC:=bx (N.atO l n (HH.o.trans h0));subst h0;clear hx hg1 hg5 hodd hend
    go_wp2
    go_ret
    exact⟨by rw [HC.o];rfl,hb.o⟩
   have HC:=bx (N.amN l n (by omega) hlt (by rw [HH.o];exact h0));have t3:(how==0)=false:=by rw [fG];exact h0
   have HI:=bx (IH.o (n+2) (S ||| 2 ^ n) wc (by have:=HD.o;omega) (by omega) (aui S n _ HS.o (by omega)) (HV.o.below hb.o));have HN:=bx (show ((n:Int)+2)=((n+2:Nat):Int) by omega);clear hx hg1 hg5 hodd hend;go_wp2_with fail;rw [HN.o];refine dI HI.o hb.o λw2 HB2=>?_
   go_wp2
   go_ret
   exact⟨by rw [HC.o,<- Nat.or_assoc];rfl,HB2.o⟩
theorem avZ (l:List N.Item) (S:Nat) (c:Int) (k:Nat) (hk:k<=2*l.length):N.fill l S c 0 k<2 ^ (2*l.length+1):=N.aau l S c 0 (Nat.two_pow_pos _) k hk
theorem aj2 (st:Bool) (v:Value) (l:List N.Item) (hr:kL l=true) (S:Nat) (hS:S<4611686018427387904) (c:Int) (w:World) (hv:fE w v l) :
  Calls prog 302 #[.agg #[.bool st,v], ah S, ah c] w λe w'=>e = .returned (ah (N.step l st S c))/\ak w w':=by
 have hl:=FI hr;have iU:=bx hr;have HV:=bx hv;have HB0:=bx (aC.new w 252 #[.bool st,v]);have HW0:=bx (dA w (.cells #[.bool st,v] 252));obtain⟨ao,cap,rfl⟩:=hv.slice;clear hv hr
 go_in
 go_wp2_with fail
 go_loopw [7,8] (λo i wr=>∃ k:Nat,k<=2*l.length/\i = ah k/\o = ah (N.fill l S c 0 k)/\Box (aC wr w.heap.size 252 #[.bool st, .slice ao l.length cap])/\Box (ak w wr)) (λ_ i _=>2*l.length-(intOf i).toNat)
 ·exact⟨0,by omega,rfl,rfl,HB0,HW0⟩
 obtain⟨k,hk,rfl,rfl,hbk,hb⟩:=hrel;have c0:wr.cell? ⟨w.heap.size,0,none⟩=some (.bool st):=(hbk.o.cell 0).trans rfl;have c1:wr.cell? ⟨w.heap.size,1,none⟩=some (.slice ao l.length cap):=(hbk.o.cell 1).trans rfl;have l0:=hbk.o.lt;have HF:=bx (avZ l S c k hk)
 by_cases hlt:k<2*l.length
 ·obtain⟨x,hx⟩:=bV l (k / 2) (by omega);obtain⟨g,off,cap2,hg1,hg2,hg3,hg4,hg5⟩:=(HV.o.below hb.o).get (by rintro rfl;simp at hlt);obtain⟨rfl,rfl⟩:=dQ hg1;obtain⟨hc1,hc2⟩:=hg5 _ x hx;obtain⟨hw0,hw1⟩:=ail iU.o hx;have HH:=bx (show N.DF l (k / 2)=x.2/\N.setAt l (k / 2)=x.1 by unfold N.DF N.setAt;simp [List.getD,hx]);unfold maxLen at hg3;have hlt2:k / 2<l.length:=by omega
  have qL:=bx (N.SC l S c 0 k);obtain⟨set,how⟩:=x;have kX:=bx (show ak w (wr.alloc (.cells #[ah set, ah how] 389)) from hb.o.alloc hb.o.size _);have JR:=bx (hbk.o.alloc (.cells #[ah set, ah how] 389));have HA:=bx (λn hn=>YA st (.slice (some ⟨g,off,none⟩) l.length cap) l (by omega) _ n (N.fill l S c 0 k) (wr.alloc (.cells #[ah set, ah how] 389)) aU hn HF.o (HV.o.below kX.o));have Oj:=bx (N.abp l k hlt);clear hx hg1 hg5
  cases hbit:S.testBit k with
  | false =>
   have yZ:=bx hbit;have HG:=bx (show N.fill l S c 0 (k+1)=N.fill l S c 0 k by rw [qL.o,aF];unfold N.goes;rw [hbit];simp);clear hbit;go_wp2_with fail;refine aP (GI S k _ (by omega) hS) ?_;rw [yZ.o]
   go_wp2
   go_roundw
   ·exact⟨k+1,hlt,by go_num,by rw [HG.o],JR,kX⟩
   simp [intOf];omega
  | true =>
   have yZ:=bx hbit
   cases hhas:N.uK set c with
   | false =>
    have MO:=bx hhas;have HG:=bx (show N.fill l S c 0 (k+1)=N.fill l S c 0 k by rw [qL.o,aF];unfold N.goes;rw [hbit,HH.o.2,hhas];simp);clear hbit hhas;go_wp2_with fail;refine aP (GI S k _ (by omega) hS) ?_;rw [yZ.o];go_wp2_with fail;refine aP (Qi set c _) ?_;rw [MO.o]
    go_wp2
    go_roundw
    ·exact⟨k+1,hlt,by go_num,by rw [HG.o],JR,kX⟩
    simp [intOf];omega
   | true =>
    have MO:=bx hhas;have HG:=bx (show N.fill l S c 0 (k+1)=N.fill l S c 0 k ||| N.clo l (N.goto l k) by rw [qL.o,aG];unfold N.goes;rw [hbit,HH.o.2,hhas];rfl);clear hbit hhas
    by_cases hodd:k % 2=1
    ·have t1:((k:Int) % 2==1)=true:=by rw [lN];omega
     have AL:=bx (show N.goto l k=k-1 by unfold N.goto;rw [aG hodd]);have HN:=bx (show ((k:Int)-1)=((k-1:Nat):Int) by omega);have k1:1<=k:=by omega
     clear hodd;go_wp2_with fail;refine aP (GI S k _ (by omega) hS) ?_;rw [yZ.o];go_wp2_with fail;refine aP (Qi set c _) ?_;rw [MO.o];go_wp2_with fail;rw [HN.o];refine aT (HA.o (k-1) (by omega)) λw1 hb1=>?_
     have HB1:=aJ kX hb1;have fJ:=JR.ub hb1;clear hb1
     go_wp2
     go_roundw
     ·exact⟨k+1,hlt,by go_num,by rw [HG.o,AL.o],fJ,HB1⟩
     simp [intOf];omega
    have t1:((k:Int) % 2==1)=false:=by rw [fG];omega
    rcases (show how=0\/how=1\/how=2 by omega) with rfl | rfl | rfl
    ·have AL:=bx (show N.goto l k=k+2 by unfold N.goto;rw [aF hodd,aG HH.o.1]);have hev:k % 2=0:=by omega
     have HN:=bx (show ((k:Int)+2)=((k+2:Nat):Int) by omega);clear hodd;go_wp2_with fail;refine aP (GI S k _ (by omega) hS) ?_;rw [yZ.o];go_wp2_with fail;refine aP (Qi set c _) ?_;rw [MO.o];go_wp2_with fail;rw [HN.o];refine aT (HA.o (k+2) (by omega)) λw1 hb1=>?_
     have HB1:=aJ kX hb1;have fJ:=JR.ub hb1;clear hb1
     go_wp2
     go_roundw
     ·exact⟨k+1,hlt,by go_num,by rw [HG.o,AL.o],fJ,HB1⟩
     simp [intOf];omega
    ·have AL:=bx (show N.goto l k=k by unfold N.goto;rw [aF hodd,aF (by rw [HH.o.1];simp),aG HH.o.1]);have hev:k % 2=0:=by omega
     clear hodd;go_wp2_with fail;refine aP (GI S k _ (by omega) hS) ?_;rw [yZ.o];go_wp2_with fail;refine aP (Qi set c _) ?_;rw [MO.o];go_wp2_with fail;refine aT (HA.o (k) (by omega)) λw1 hb1=>?_
     have HB1:=aJ kX hb1;have fJ:=JR.ub hb1;clear hb1
     go_wp2
     go_roundw
     ·exact⟨k+1,hlt,by go_num,by rw [HG.o,AL.o],fJ,HB1⟩
     simp [intOf];omega
    have AL:=bx (show N.goto l k=k+1 by unfold N.goto;rw [aF hodd,aF (by rw [HH.o.1];simp),aF (by rw [HH.o.1];simp)]);have hev:k % 2=0:=by omega
    have HN:=bx (show ((k:Int)+1)=((k+1:Nat):Int) by omega);clear hodd;go_wp2_with fail;refine aP (GI S k _ (by omega) hS) ?_;rw [yZ.o];go_wp2_with fail;refine aP (Qi set c _) ?_;rw [MO.o];go_wp2_with fail;rw [HN.o];refine aT (HA.o (k+1) (by omega)) λw1 hb1=>?_
    have HB1:=aJ kX hb1;have fJ:=JR.ub hb1;clear hb1
    go_wp2
    go_roundw
    ·exact⟨k+1,hlt,by go_num,by rw [HG.o,AL.o],fJ,HB1⟩
    simp [intOf];omega
 obtain rfl:k=2*l.length:=by omega
 have hbw:=hb.o;have HA:=bx (YA st (.slice ao l.length cap) l (by omega) _ 0 (N.fill l S c 0 (2*l.length)) wr aU (by omega) HF.o (HV.o.below hbw));clear hbw
 cases st with
 | true =>
  go_wp2
  go_ret
  exact⟨by rfl,hb.o⟩
 | false =>
  have lG:=bx (N.avq l S c (N.clo l 0) (2*l.length));go_wp2_with fail;refine dI HA.o hb.o λw1 HB1=>?_
  go_wp2
  go_ret
  exact⟨by rw [lG.o];rfl,HB1.o⟩
theorem aty (l:List N.Item):(2:Int)*((2 ^ (2*l.length):Nat):Int)-1=(N.most l:Int):=by
 unfold N.most;have h:2 ^ (2*l.length+1)=2*2 ^ (2*l.length):=by rw [Nat.pow_succ];omega
 have:0<2 ^ (2*l.length):=Nat.two_pow_pos _;rw [h];omega
theorem QA (st:Bool) (v:Value) (l:List N.Item) (w:World) (hv:fE w v l) (hz:l.length<=16777216) :
  Calls prog 301 #[.agg #[.bool st,v]] w λe w'=>e = .returned (ah (LQ l))/\ak w w':=by
 have hb0:=dA w (.cells #[.bool st,v] 252);have HP:=bx (SK st v l _ (hv.below hb0) hz);have HB0:=bx hb0;have dn:=bx (aC.new w 252 #[.bool st,v]);unfold LQ;obtain⟨ao,cap,rfl⟩:=hv.slice;clear hb0 hv
 cases hr:kL l with
 | true =>
  have iU:=bx hr;have hl:=FI hr;obtain⟨q,hq⟩:∃ q,2 ^ (2*l.length)=q:=⟨_,rfl⟩
  have hq1:q<=1099511627776:=by rw [<- hq];exact Nat.pow_le_pow_right (n:=2) (by omega) (show 2*l.length<=40 by omega)
  have HQ:=bx hq;have HM:=bx (aty l);clear hr hq
  go_in
  go_wp2_with fail;refine HP.o.mono ?_;rintro e w1 ⟨rfl,hb1⟩;rw [iU.o];have fJ:=dn.o.below hb1 dn.o.lt;have c1:w1.cell? ⟨w.heap.size,1,none⟩=some (.slice ao l.length cap):=(fJ.cell 1).trans rfl;have HB1:=bx hb1;clear hb1 fJ;go_wp2_with fail;have HN:=bx (show (2*(l.length:Int))=((2*l.length:Nat):Int) by omega);rw [HN.o];refine aP (aai (2*l.length) _ (by omega)) ?_;rw [HQ.o]
  go_wp2
  go_ret
  exact⟨Bv (by rw [<- HM.o,HQ.o]),bt HB0.o HB1.o⟩
 | false =>
  have iU:=bx hr;clear hr
  go_in
  go_wp2_with fail;refine HP.o.mono ?_;rintro e w1 ⟨rfl,hb1⟩;rw [iU.o];have HB1:=bx hb1;clear hb1
  go_wp2
  go_ret
  exact⟨rfl,bt HB0.o HB1.o⟩
theorem ak1 (st:Bool) (v:Value) (l:List N.Item) (w:World) (hv:fE w v l) (hz:l.length<=16777216) :
  Calls prog 184 #[.agg #[.bool st,v]] w λe w'=>e = .returned (RG l)/\ak w w':=by
 have hb0:=dA w (.cells #[.bool st,v] 252);have HP:=bx (SK st v l _ (hv.below hb0) hz);have HB0:=bx hb0;have HV:=bx hv;have dn:=bx (aC.new w 252 #[.bool st,v]);unfold RG
 cases hr:kL l with
 | true =>
  have iU:=bx hr;have hl:=FI hr;clear hr hb0 hv
  go_in
  go_wp2_with fail;refine HP.o.mono ?_;rintro e w1 ⟨rfl,hb1⟩;rw [iU.o];have fJ:=dn.o.below hb1 dn.o.lt;have c0:w1.cell? ⟨w.heap.size,0,none⟩=some (.bool st):=(fJ.cell 0).trans rfl;have c1:w1.cell? ⟨w.heap.size,1,none⟩=some v:=(fJ.cell 1).trans rfl;have HB1:=aJ HB0 hb1;have HA:=bx (YA st v l (by omega) _ 0 0 w1 aU (by omega) (Nat.two_pow_pos _) (HV.o.below HB1.o));have HZ:=bx (Nat.zero_or (N.clo l 0));clear hb1 fJ;go_wp2_with fail;refine HA.o.mono ?_;rintro e w2 ⟨rfl,hb2⟩;rw [HZ.o];have HB2:=aJ HB1 hb2;clear hb2
  go_wp2
  go_ret2
  exact⟨rfl,HB2.o⟩
 | false =>
  have iU:=bx hr;clear hr hb0 hv
  go_in
  go_wp2_with fail;refine HP.o.mono ?_;rintro e w1 ⟨rfl,hb1⟩;rw [iU.o];have HB1:=aJ HB0 hb1;clear hb1
  go_wp2
  go_ret2
  exact⟨rfl,HB1.o⟩
theorem adL {l:List N.Item} {x:Int} (hr:kL l=true) (h:xg l x=false):x<0\/(0<=x/\(N.most l:Int)<x):=by
 unfold xg at h;rw [hr] at h;simp at h;omega
theorem ab9 {l:List N.Item} {x:Int} (h:xg l x=true):kL l=true/\0<=x/\x<=N.most l:=by
 unfold xg at h;simp only [dD,fD] at h;exact⟨h.1.1,h.1.2,h.2⟩
theorem akn (st:Bool) (v:Value) (l:List N.Item) (x c:Int) (w:World) (hv:fE w v l) (hz:l.length<=16777216) :
  Calls prog 262 #[.agg #[.bool st,v], ah x, ah c] w λe w'=>e = .returned (PS l st x c)/\ak w w':=by
 have hb0:=dA w (.cells #[.bool st,v] 252);have HP:=bx (SK st v l _ (hv.below hb0) hz);have HB0:=bx hb0;have HV:=bx hv;have dn:=bx (aC.new w 252 #[.bool st,v]);unfold PS
 cases hr:kL l with
 | false =>
  have iU:=bx hr;rw [show xg l x=false by unfold xg;rw [hr];rfl];clear hr hb0 hv
  go_in
  go_wp2_with fail;refine HP.o.mono ?_;rintro e w1 ⟨rfl,hb1⟩;rw [iU.o];have HB1:=aJ HB0 hb1;clear hb1
  go_wp2
  go_ret2
  exact⟨rfl,HB1.o⟩
 | true =>
  have iU:=bx hr;have hl:=FI hr;have hm:=ahc l hl;have oC:=bx (show LQ l=(N.most l:Int) by unfold LQ;rw [hr];rfl)
  cases hok:xg l x with
  | true =>
   obtain⟨-,h0,h1⟩:=ab9 hok;obtain⟨S,rfl⟩:=oJ h0;have h1':¬ ((N.most l:Int)<(S:Int)):=by omega
   clear hr hb0 hv hok
   go_in
   go_wp2_with fail;refine HP.o.mono ?_;rintro e w1 ⟨rfl,hb1⟩;rw [iU.o];have fJ:=dn.o.below hb1 dn.o.lt;have c0:w1.cell? ⟨w.heap.size,0,none⟩=some (.bool st):=(fJ.cell 0).trans rfl;have c1:w1.cell? ⟨w.heap.size,1,none⟩=some v:=(fJ.cell 1).trans rfl;have HB1:=aJ HB0 hb1;have fJ:=bx fJ;clear hb1;go_wp2_with fail;refine(QA st v l _ (HV.o.below HB1.o) hz).mono ?_;rintro e w2 ⟨rfl,hb2⟩;rw [oC.o];have Lj:=fJ.o.below hb2 fJ.o.lt;have d0:w2.cell? ⟨w.heap.size,0,none⟩=some (.bool st):=(Lj.cell 0).trans rfl;have d1:w2.cell? ⟨w.heap.size,1,none⟩=some v:=(Lj.cell 1).trans rfl;have HB2:=aJ HB1 hb2;clear hb2 Lj c0 c1;go_wp2_with fail;refine dI (aj2 st v l iU.o S (by omega) c _ (HV.o.below HB2.o)) HB2.o λw3 HB3=>?_
   go_wp2
   go_ret2
   exact⟨by simp,HB3.o⟩
  | false =>
   have h:=adL hr hok;clear hr hb0 hv hok
   go_in
   go_wp2_with fail;refine HP.o.mono ?_;rintro e w1 ⟨rfl,hb1⟩;rw [iU.o];have fJ:=dn.o.below hb1 dn.o.lt;have c0:w1.cell? ⟨w.heap.size,0,none⟩=some (.bool st):=(fJ.cell 0).trans rfl;have c1:w1.cell? ⟨w.heap.size,1,none⟩=some v:=(fJ.cell 1).trans rfl;have HB1:=aJ HB0 hb1;clear hb1 fJ
   rcases h with h | ⟨h,h'⟩
   ·go_wp2
    go_ret2
    exact⟨rfl,HB1.o⟩
   go_wp2_with fail;refine(QA st v l _ (HV.o.below HB1.o) hz).mono ?_;rintro e w2 ⟨rfl,hb2⟩;rw [oC.o];have HB2:=aJ HB1 hb2;clear hb2
   go_wp2
   go_ret2
   exact⟨rfl,HB2.o⟩
theorem aow (st:Bool) (v:Value) (l:List N.Item) (x:Int) (w:World) (hv:fE w v l) (hz:l.length<=16777216) :
  Calls prog 264 #[.agg #[.bool st,v], ah x] w λe w'=>e = .returned (.bool (Tf l x))/\ak w w':=by
 have hb0:=dA w (.cells #[.bool st,v] 252);have HP:=bx (SK st v l _ (hv.below hb0) hz);have HB0:=bx hb0;have HV:=bx hv;have dn:=bx (aC.new w 252 #[.bool st,v]);unfold Tf
 cases hr:kL l with
 | false =>
  have iU:=bx hr;have nX:=bx (show xg l x=false by unfold xg;rw [hr];rfl);clear hr hb0 hv
  go_in
  go_wp2_with fail;refine HP.o.mono ?_;rintro e w1 ⟨rfl,hb1⟩;rw [iU.o];have HB1:=aJ HB0 hb1;clear hb1
  go_wp2
  go_ret
  exact⟨by rw [nX.o];rfl,HB1.o⟩
 | true =>
  have iU:=bx hr;have hl:=FI hr;have hm:=ahc l hl;have oC:=bx (show LQ l=(N.most l:Int) by unfold LQ;rw [hr];rfl)
  cases hok:xg l x with
  | true =>
   obtain⟨-,h0,h1⟩:=ab9 hok;obtain⟨S,rfl⟩:=oJ h0;obtain⟨ao,cap,rfl⟩:=hv.slice;have HN:=bx (show (2*(l.length:Int))=((2*l.length:Nat):Int) by omega);clear hr hb0 hv hok
   go_in
   go_wp2_with fail;refine HP.o.mono ?_;rintro e w1 ⟨rfl,hb1⟩;rw [iU.o];have fJ:=dn.o.below hb1 dn.o.lt;have c0:w1.cell? ⟨w.heap.size,0,none⟩=some (.bool st):=(fJ.cell 0).trans rfl;have c1:w1.cell? ⟨w.heap.size,1,none⟩=some (.slice ao l.length cap):=(fJ.cell 1).trans rfl;have HB1:=aJ HB0 hb1;have fJ:=bx fJ;clear hb1;go_wp2_with fail;refine(QA st (.slice ao l.length cap) l _ (HV.o.below HB1.o) hz).mono ?_;rintro e w2 ⟨rfl,hb2⟩;rw [oC.o];have Lj:=fJ.o.below hb2 fJ.o.lt;have d1:w2.cell? ⟨w.heap.size,1,none⟩=some (.slice ao l.length cap):=(Lj.cell 1).trans rfl;have HB2:=aJ HB1 hb2;clear hb2 Lj c0 c1;go_wp2_with fail;rw [HN.o];refine aP (GI S (2*l.length) _ (by omega) (by omega)) ?_
   go_wp2
   go_ret
   exact⟨by simp [N.XY],HB2.o⟩
  | false =>
   have h:=adL hr hok;clear hr hb0 hv hok
   go_in
   go_wp2_with fail;refine HP.o.mono ?_;rintro e w1 ⟨rfl,hb1⟩;rw [iU.o];have fJ:=dn.o.below hb1 dn.o.lt;have c0:w1.cell? ⟨w.heap.size,0,none⟩=some (.bool st):=(fJ.cell 0).trans rfl;have c1:w1.cell? ⟨w.heap.size,1,none⟩=some v:=(fJ.cell 1).trans rfl;have HB1:=aJ HB0 hb1;clear hb1 fJ
   rcases h with h | ⟨h,h'⟩
   ·go_wp2
    go_ret
    exact⟨rfl,HB1.o⟩
   go_wp2_with fail;refine(QA st v l _ (HV.o.below HB1.o) hz).mono ?_;rintro e w2 ⟨rfl,hb2⟩;rw [oC.o];have HB2:=aJ HB1 hb2;clear hb2
   go_wp2
   go_ret
   exact⟨rfl,HB2.o⟩
theorem jg (w:World) (n:Nat):ak w (w.drewN n):=below_drewN aZ n
section
variable {A:Nat->Addr} {B:Nat} {W0 w w':World}
end
theorem as2 {l:List N.Item} {st:Bool} {x c:Int} (h:xg l x=true):PS l st x c = .tuple #[ah (N.step l st x.toNat c), ah 0]:=by unfold PS;rw [h];rfl
theorem abe {l:List N.Item} {S:Nat} (hr:kL l=true) (h:S<2 ^ (2*l.length+1)):xg l (S:Int)=true:=by
 unfold xg N.most;rw [hr];simp only [Bool.true_and,dD,fD];omega
section
open Go.Shelf
attribute [local go_sem] Oper.semAt_some
def lefts (rs:List D.Rule):List D.Side:=rs.map (·.1)
theorem Bo (rs:List D.Rule):(lefts rs).length=rs.length:=by simp [lefts]
theorem Nb {rs:List D.Rule} {i:Nat} {x:D.Rule} (h:rs[i]?=some x):D.Fb (lefts rs) i=x.1:=D.ao6 (by unfold lefts;rw [eX,h];rfl)
theorem take_snoc' {α:Type} (xs:List α) (k:Nat) (x:α) (h:xs[k]?=some x):xs.take (k+1)=xs.take k++[x]:=by rw [jw,h];rfl
theorem an5 {w:World} {base n:Nat} {T:TypeId} {v:Value} {xs:List Nat} (h:w.ownsRow base T 1 v n (xs.map kH)) (hn:n=xs.length):aN w v (xs.map λx:Nat=>(x:Int)) :=
 aN.iy (n:=n) (by rw [EX];exact h) (by rw [aV];exact hn)
end
def iF (w:World) (v:Value) (rows:List (List Int)):Prop :=
 (v = aj/\rows=[])\/∃ b off sp cap,v = .slice (some ⟨b,off,sp⟩) rows.length cap/\rows.length<=cap/\cap<=maxLen/\(rows≠[]->sp=none/\b<w.heap.size/\∀ i r,rows[i]?=some r->∃ x,w.cell? ⟨b,off+i,none⟩=some x/\aN w x r)
theorem iF.nil {w:World}:iF w (aj) []:=.inl ⟨rfl,rfl⟩
theorem iF.below {w w':World} {v:Value} {rows:List (List Int)} (h:iF w v rows) (hb:ak w w'):iF w' v rows:=by
 rcases h with h | ⟨b,off,sp,cap,h1,h2,h3,h4⟩
 ·exact .inl h
 refine .inr ⟨b,off,sp,cap,h1,h2,h3,λhn=>⟨(h4 hn).1,fC (h4 hn).2.1 hb.size,λi r hr=>?_⟩⟩;obtain⟨x,hx,hi⟩:=(h4 hn).2.2 i r hr;exact⟨x,(hb.cell (p:=⟨b,off+i,none⟩) (h4 hn).2.1).trans hx,hi.below hb⟩
theorem iF.get {w:World} {v:Value} {rows:List (List Int)} (h:iF w v rows) (hn:rows≠[]) :
  ∃ b off cap,v = .slice (some ⟨b,off,none⟩) rows.length cap/\rows.length<=cap/\cap<=maxLen/\b<w.heap.size/\∀ i r,rows[i]?=some r->∃ x,w.cell? ⟨b,off+i,none⟩=some x/\aN w x r:=by
 rcases h with⟨_,h⟩ | ⟨b,off,sp,cap,h1,h2,h3,h4⟩
 ·exact absurd h hn
 obtain⟨rfl,h5,h6⟩:=h4 hn;exact⟨b,off,cap,h1,h2,h3,h5,h6⟩
theorem iF.slice {w:World} {v:Value} {rows:List (List Int)} (h:iF w v rows):∃ a cap,v = .slice a rows.length cap:=by
 rcases h with⟨rfl,rfl⟩ | ⟨b,off,sp,cap,rfl,_⟩
 ·exact⟨_,_,rfl⟩
 exact⟨_,_,rfl⟩
abbrev D.gJ:=List (List Int)×List Int
def tZ (w:World) (v:Value) (M:D.gJ):Prop:=∃ nv fv,v = .agg #[nv,fv]/\iF w nv M.1/\aN w fv M.2
theorem tZ.below {w w':World} {v:Value} {M:D.gJ} (h:tZ w v M) (hb:ak w w'):tZ w' v M:=by
 obtain⟨nv,fv,h1,h2,h3⟩:=h;exact⟨nv,fv,h1,h2.below hb,h3.below hb⟩
section
variable {w0 w w':World} {b m n k:Nat} {rv:Value} {t:List D.Sets} {next:List (List Nat)} {fits:List Nat} {nv fv tv:Value} {vs:List Value}
end
section
open Go.Shelf
attribute [local go_sem] Oper.semAt_some
def asV (rs:List D.Rule):Prop:=∀ x∈rs,kL x.1.2=true
def VQ:List Nat:=[14,10]
def Ed (A:Nat->Addr) (B:Nat) (w:World):Prop:=Env VQ 448 A B w
theorem Ed.below {A:Nat->Addr} {B:Nat} {w w':World} (h:Ed A B w) (hb:Below B w w'):Ed A B w':=Env.below h hb
def akm (g:Nat):Int:=if g=14 then 90 else 100
theorem awj (A:Nat->Addr) (B:Nat) (g:Nat) (hg:g∈VQ) (w:World) (hE:Ed A B w) :
  Calls prog 276 #[oZ A g] w λe w'=>e = .returned (ah (akm g))/\w=w':=by
 have h0:=hE.var 14 (by decide);have h1:=hE.var 10 (by decide);have HI:=bx (λk (hk:k∈VQ)=>SA hE g k hg hk);clear hE;unfold oZ
 rcases fB.1 hg with rfl | hg
 ·go_in
  go_wp2_with fail;refine aP (HI.o 14 (by decide)) ?_
  go_wp2
  go_ret
  exact⟨rfl,rfl⟩
 obtain rfl:g=10:=by simpa using hg
 go_in
 go_wp2_with fail;refine aP (HI.o 14 (by decide)) ?_;go_wp2_with fail;refine aP (HI.o 10 (by decide)) ?_
 go_wp2
 go_ret
 exact⟨rfl,rfl⟩
theorem Ei {P:Program} {fn:Func} {p u:Tmp} {ty:TypeId} (h:fn.results=#[.cell p ty, .tmp u]) (tmps:Array Value) (w:World) (g:Nat) (t:TypeId) (cs:Array Value) (fr:Nat×Nat) (d:TypeDesc)
  (hp:tmps.getD p undef = aA g) (hg:w.heap[g]?=some (.cells cs t fr)) (hu:P.underlying ty=some d) (hd:(match d with | .struct _ | .array _ _=>true | _=>false)=true) (hi:(P.info? ty).map (·.size)=some cs.size) :
  (results fn tmps).run P w = .ok (.tuple #[.agg cs,tmps.getD u undef]) w:=by
 rw [results_cell_tmp h,hp];simp [asAddr,run_loadVar_row w g t ty cs fr d hg hu hd hi,Result.andThen]
theorem Rt:(prog.info? 29).map (·.size)=some 2:=by kernel_rfl
def Tj (b:D.zK):D.gJ:=(b.next.map λr=>r.map λx:Nat=>(x:Int),b.fits.map λx:Nat=>(x:Int))
def Xi (sd:List D.Side) (n:Nat):D.gJ:=Tj (D.build sd n 300)
theorem alA {w:World} {nv fv:Value} {b:D.zK} (h1:iF w nv (b.next.map λr=>r.map λx:Nat=>(x:Int))) (h2:aN w fv (b.fits.map λx:Nat=>(x:Int))):tZ w (.agg #[nv,fv]) (Tj b):=⟨nv,fv,rfl,h1,h2⟩
def D8 (rs:List D.Rule) (n:Int):Int:=if uN n rs=true then (if D.EI (lefts rs) n.toNat=true then 0 else 100) else 90
def Aj (rs:List D.Rule) (n:Int):D.gJ:=if (uN n rs&&D.EI (lefts rs) n.toNat)=true then Xi (lefts rs) n.toNat else ([],[])
def ac7 (rs:List D.Rule) (n:Int) (w:World) (e:Ending) (w':World):Prop:=ak w w'/\∃ mv,e = .returned (.tuple #[mv, ah (D8 rs n)])/\tZ w' mv (Aj rs n)
theorem ahT (w:World):tZ w (.agg #[aj, aj]) ([],[]):=⟨_,_,rfl,iF.nil,aN.nil⟩
theorem Zc {n:Int} {rs:List D.Rule} (h:uN n rs=true):1<=n/\n<=32/\rs.length<=40/\asV rs:=by
 unfold uN at h;simp only [dD,fD] at h;exact⟨h.1.1.1,h.1.1.2,h.1.2,λx hx=>aoR (aoV (jG.1 h.2 x hx))⟩
end
theorem uT (w:World) (n:Nat):ak w (w.drewN n):=⟨rfl,rfl,rfl,bK _,λ_ _=>rfl⟩
theorem afK {xs ys:List Int} {k:Nat} {x:Int} (h:xs.take k=ys.take k) (hx:xs[k]?=some x) (hy:ys[k]?=some x):xs.take (k+1)=ys.take (k+1):=by
 rw [jw,jw,h,hx,hy]
theorem adw {xs ys:List Int} {k:Nat} {x y:Int} (hx:xs[k]?=some x) (hy:ys[k]?=some y) (h:x≠y):decide (xs=ys)=false:=by
 rw [yX];rintro rfl;rw [hx] at hy;exact h (by simpa using hy)
theorem afR {xs ys:List Int} (h:xs.length≠ys.length):decide (xs=ys)=false:=by
 rw [yX];rintro rfl;exact h rfl
theorem anK (a b:Value) (xs ys:List Int) (w:World) (ha:aN w a xs) (hb:aN w b ys) (hz:xs.length<=16777216) (_hz':ys.length<=16777216) :
  Calls prog 266 #[a,b] w λe w'=>e = .returned (.bool (decide (xs=ys)))/\ak w w':=by
 by_cases hlen:xs.length=ys.length
 ·have NT:=bx ha;have NC:=bx hb;obtain⟨ao,ca,rfl⟩:=ha.slice;obtain⟨bo,cb,hv⟩:=hb.slice;rw [<- hlen] at hv;subst hv;have HLEN:=bx hlen;clear ha hb hlen _hz'
  go_in
  go_wp2
  go_loopw [5] (λi wr=>∃ k n:Nat,k<=xs.length/\i = ah k/\wr=w.drewN n/\Box (xs.take k=ys.take k)) (λi _=>xs.length-(intOf i).toNat)
  ·exact⟨0,0,by omega,rfl,rfl,⟨rfl⟩⟩
  obtain⟨k,n,hk,rfl,rfl,hE⟩:=hrel
  by_cases hlt:k<xs.length
  ·obtain⟨x,hx⟩:=bV xs k hlt;obtain⟨y,hy⟩:=bV ys k (by rw [<- HLEN.o];exact hlt);obtain⟨ba,oa,ca',ha0,ha1,ha2,pK,kQ⟩:=NT.o.get (by rintro rfl;simp at hlt);obtain⟨rfl,rfl⟩:=dQ ha0;obtain⟨bb,ob,cb',hb0,hb1,hb2,hb3,hb4⟩:=NC.o.get (by rintro rfl;simp at hy);obtain⟨rfl,rfl⟩:=dQ hb0;have c1:=kQ k x hx;have c2:=hb4 k y hy;have HX:=bx hx;have HY:=bx hy;rw [<- HLEN.o] at hb1;unfold maxLen at ha2 hb2;clear ha0 kQ hb0 hb4 hx hy
   by_cases hxy:x=y
   ·subst hxy
    go_wp2
    go_region
    go_wp2
    go_roundw
    ·exact⟨k+1,n+1,hlt,by go_num,rfl,⟨afK hE.o HX.o HY.o⟩⟩
    simp [intOf];omega
   have HF:=bx (adw HX.o HY.o hxy);have hq:(x==y)=false:=fG.2 hxy
   go_wp2
   go_region
   go_wp2
   all_goals go_ret
   all_goals exact⟨aY (by rw [HF.o]),uT w (n+1)⟩
  obtain rfl:k=xs.length:=by omega
  have HT:=bx (show decide (xs=ys)=true by rw [decide_eq_true_iff];have:=hE.o;rwa [mQ,HLEN.o,mQ] at this)
  go_wp2
  go_ret
  exact⟨aY (by rw [HT.o]),uT w n⟩
 have HF:=bx (afR hlen);obtain⟨ao,ca,rfl⟩:=ha.slice;obtain⟨bo,cb,rfl⟩:=hb.slice;have hq:((xs.length:Int)==(ys.length:Int))=false:=fG.2 (by omega);clear ha hb
 go_in
 go_wp2
 all_goals go_ret
 all_goals exact⟨aY (by rw [HF.o]),uT w 0⟩
theorem awO (a b:Value) (xs ys:List Int) (w:World) (ha:aN w a xs) (hb:aN w b ys) (hz:xs.length<=16777216) (_hz':ys.length<=16777216) :
  Calls prog 263 #[a,b] w λe w'=>e = .returned (.bool (decide (xs=ys)))/\ak w w':=by
 by_cases hlen:xs.length=ys.length
 ·have NT:=bx ha;have NC:=bx hb;obtain⟨ao,ca,rfl⟩:=ha.slice;obtain⟨bo,cb,hv⟩:=hb.slice;rw [<- hlen] at hv;subst hv;have HLEN:=bx hlen;clear ha hb hlen _hz'
  go_in
  go_wp2
  go_loopw [5] (λi wr=>∃ k n:Nat,k<=xs.length/\i = ah k/\wr=w.drewN n/\Box (xs.take k=ys.take k)) (λi _=>xs.length-(intOf i).toNat)
  ·exact⟨0,0,by omega,rfl,rfl,⟨rfl⟩⟩
  obtain⟨k,n,hk,rfl,rfl,hE⟩:=hrel
  by_cases hlt:k<xs.length
  ·obtain⟨x,hx⟩:=bV xs k hlt;obtain⟨y,hy⟩:=bV ys k (by rw [<- HLEN.o];exact hlt);obtain⟨ba,oa,ca',ha0,ha1,ha2,pK,kQ⟩:=NT.o.get (by rintro rfl;simp at hlt);obtain⟨rfl,rfl⟩:=dQ ha0;obtain⟨bb,ob,cb',hb0,hb1,hb2,hb3,hb4⟩:=NC.o.get (by rintro rfl;simp at hy);obtain⟨rfl,rfl⟩:=dQ hb0;have c1:=kQ k x hx;have c2:=hb4 k y hy;have HX:=bx hx;have HY:=bx hy;rw [<- HLEN.o] at hb1;unfold maxLen at ha2 hb2;clear ha0 kQ hb0 hb4 hx hy
   by_cases hxy:x=y
   ·subst hxy
    go_wp2
    go_region
    go_wp2
    go_roundw
    ·exact⟨k+1,n+1,hlt,by go_num,rfl,⟨afK hE.o HX.o HY.o⟩⟩
    simp [intOf];omega
   have HF:=bx (adw HX.o HY.o hxy);have hq:(x==y)=false:=fG.2 hxy
   go_wp2
   go_region
   go_wp2
   all_goals go_ret
   all_goals exact⟨aY (by rw [HF.o]),uT w (n+1)⟩
  obtain rfl:k=xs.length:=by omega
  have HT:=bx (show decide (xs=ys)=true by rw [decide_eq_true_iff];have:=hE.o;rwa [mQ,HLEN.o,mQ] at this)
  go_wp2
  go_ret
  exact⟨aY (by rw [HT.o]),uT w n⟩
 have HF:=bx (afR hlen);obtain⟨ao,ca,rfl⟩:=ha.slice;obtain⟨bo,cb,rfl⟩:=hb.slice;have hq:((xs.length:Int)==(ys.length:Int))=false:=fG.2 (by omega);clear ha hb
 go_in
 go_wp2
 all_goals go_ret
 all_goals exact⟨aY (by rw [HF.o]),uT w 0⟩
section
open Go.Shelf
attribute [local go_sem] Oper.semAt_some
def xA (n:Nat) (c:Int):Nat:=if 0<=c/\c<n then c.toNat else n
theorem UF (n:Nat) (c:Int):xA n c<=n:=by unfold xA;split <;> omega
theorem avm (b:Nat) (hb:b<9223372036854775808):bits .xor .i64 0 (b:Int)=(b:Int):=by
 show IntKind.i64.wrap ((BitVec.ofInt 64 (0:Int) ^^^ BitVec.ofInt 64 (b:Int)).toNat:Int)=_
 rw [BitVec.toNat_xor,Ot b hb,show (BitVec.ofInt 64 0).toNat=0 from rfl,Nat.zero_xor,yC];omega
theorem aw6 (n:Nat) (c:Int) (h:n<=32):N.uK ((2 ^ n-1:Nat):Int) c=decide (0<=c/\c<n):=by
 unfold N.uK;have h1:2 ^ n<=2 ^ 32:=Nat.pow_le_pow_right (by omega) h;have h2:0<2 ^ n:=Nat.two_pow_pos n;rw [ny];simp only [dD,fD,mG,Nat.testBit_two_pow_sub_one]
 constructor
 ·rintro⟨⟨⟨⟨-,-⟩,h3⟩,-⟩,h4⟩;exact⟨h3,by omega⟩
 rintro⟨h3,h4⟩;exact⟨⟨⟨⟨by omega,by omega⟩,h3⟩,by omega⟩,by omega⟩
theorem auv (n:Nat) (w:World) (h1:1<=n) (h2:n<=32) :
  Calls prog 308 #[ah 0, ah n] w λe w'=>e = .returned (ah ((2 ^ n-1:Nat):Int))/\w=w':=by
 have hb:2 ^ n<=2 ^ 32:=Nat.pow_le_pow_right (by omega) h2;have hp:0<2 ^ n:=Nat.two_pow_pos n;have HS:=bx (show xE (n:Int) 0=true by rw [show (0:Int)=((0:Nat):Int) from rfl,ZC n 0 h1 h2];exact bD hp);have HW:=bx (show wrap64 ((2:Int) ^ n)=(2:Int) ^ n by rw [aeu];generalize 2 ^ n=z at hb hp ⊢;exact IntWalk.wrap64_in _ (by omega));have HW2:=bx (show wrap64 ((2:Int) ^ n-1)=((2 ^ n-1:Nat):Int) by rw [aeu];generalize 2 ^ n=z at hb hp ⊢;rw [show ((z:Int)-1)=((z-1:Nat):Int) by omega];exact IntWalk.wrap64_in _ (by omega));have HX:=bx (avm (2 ^ n-1) (by omega));clear hb hp
 go_in
 go_wp2_with (go_at_call 324;refine aP (acv _ _ _) ?_;rw [HS.o])
 go_ret
 refine⟨Bv ?_,rfl⟩;rw [HW.o,HW2.o,HX.o]
theorem apt (c:Int) (n:Nat) (w:World) (h1:1<=n) (h2:n<=32) :
  Calls prog 275 #[ah c, ah n] w λe w'=>e = .returned (ah (xA n c))/\w=w':=by
 have HN:=bx (auv n w h1 h2);have hh:=aw6 n c h2
 by_cases hc:0<=c/\c<n
 ·have HH:=bx (hh.trans (bD hc));have HC:=bx (show c=(xA n c:Int) by unfold xA;rw [aG hc];omega);clear hh hc
  go_in
  go_wp2_with fail;refine aP HN.o ?_;go_wp2_with (go_at_call 309;refine aP (V7 _ _ _) ?_;rw [HH.o])
  go_ret
  exact⟨Bv HC.o,rfl⟩
 have HH:=bx (hh.trans (dh hc));have HC:=bx (show (n:Int)=(xA n c:Int) by unfold xA;rw [aF hc]);clear hh hc
 go_in
 go_wp2_with fail;refine aP HN.o ?_;go_wp2_with (go_at_call 309;refine aP (V7 _ _ _) ?_;rw [HH.o])
 go_ret
 exact⟨Bv HC.o,rfl⟩
theorem atx (n:Nat) (w:World) (hn:n<=40) :
  Calls prog 265 #[ah n] w λe w'=>e = .returned (ah ((2 ^ n:Nat):Int))/\w=w':=by
 go_in
 go_wp2
 go_loop [4,3] (λi o=>∃ (k:Nat) (x:Int),k<=n/\i = ah k/\o = ah x/\0<=x/\x<=1099511627776/\Box (x=2 ^ k)) (λi _=>n-(intOf i).toNat)
 ·exact⟨0,1,by omega,rfl,rfl,by omega,by omega,⟨rfl⟩⟩
 obtain⟨k,x,hk,rfl,rfl,hx0,hx1,hx⟩:=hrel
 by_cases hlt:k<n
 ·have h2:=Xt (k+1) (by omega);have HX:=bx (show 2*x=2 ^ (k+1) by rw [hx.o,Int.pow_succ];omega);have HY:=bx (show 2*x<=1099511627776 by rw [HX.o];exact h2);clear h2
  go_wp2
  go_round
  ·exact⟨k+1,2*x,hlt,by go_num,rfl,by omega,HY.o,HX⟩
  simp [intOf];omega
 obtain rfl:k=n:=by omega
 go_wp2
 go_ret
 exact⟨by rw [hx.o];simp,rfl⟩
def zs (S:List Nat):List Int:=S.map λx:Nat=>(x:Int)
theorem Gv (S:List Nat):(zs S).length=S.length:=by simp [zs]
theorem acU {S:List Nat} {i x:Nat} (h:S[i]?=some x):(zs S)[i]?=some (x:Int):=by unfold zs;rw [eX,h];rfl
theorem akd {S T:List Nat} (h:zs S=zs T):S=T:=by
 unfold zs at h;exact List.map_inj_right (λa b h=>by omega) |>.1 h
theorem aie (rs:List D.Side) (S:D.Sets) (k:Nat) (h:k<=40):D.pI rs S k<=1099511627776:=by
 have:=D.VO rs S k;have h2:2 ^ k<=2 ^ 40:=Nat.pow_le_pow_right (by omega) h;omega
theorem aq9 (rv sv:Value) (rs:List D.Rule) (S:D.Sets) (w:World) (hR:iD w rv rs) (hl:rs.length<=40) (hr:∀ x∈rs,kL x.1.2=true) (hS:D.Good (lefts rs) S) (hv:aN w sv (zs S)) :
  Calls prog 187 #[rv,sv] w λe w'=>e = .returned (ah (D.pI (lefts rs) S rs.length))/\ak w w':=by
 have HR:=bx hR;have jX:=bx hr;have HS:=bx hS;have HV:=bx hv;have hsl:S.length=rs.length:=by rw [hS.1,Bo]
 obtain⟨ao,cap,rfl⟩:=hR.slice;obtain⟨so,scap,rfl⟩:=hv.slice;rw [Gv,hsl] at HV ⊢;clear hR hr hS hv
 go_in
 go_wp2_with fail
 go_loopw [5,6] (λo i wr=>∃ k:Nat,k<=rs.length/\i = ah k/\o = ah (D.pI (lefts rs) S k)/\Box (ak w wr)) (λ_ i _=>rs.length-(intOf i).toNat)
 ·exact⟨0,by omega,rfl,rfl,⟨Below.refl _ _⟩⟩
 obtain⟨k,hk,rfl,rfl,hbr⟩:=hrel
 by_cases hlt:k<rs.length
 ·obtain⟨x,hx⟩:=bV rs k hlt;obtain⟨bg,off,cap2,hg1,hg2,hg3,hg4,hg5⟩:=(HR.o.below hbr.o).get (by rintro rfl;simp at hlt);obtain⟨rfl,rfl⟩:=dQ hg1;obtain⟨vl,vr,hc0,hc1,hc2,hc3,hc4,hil,hir⟩:=hg5 k x hx;have hrx:=jX.o x (dB hx);have hgood:=HS.o.2 k (by rw [Bo];exact hlt);rw [Nb hx] at hgood;have Iu:S[k]?=some (S.getD k 0):=by
   have:k<S.length:=by omega
   rw [List.getD,dW this];rfl
  obtain⟨sg,apS,aoA,Ii,YO,ks3,ks4,Oa⟩:=(HV.o.below hbr.o).get (by intro e;have:=congrArg List.length e;rw [Gv] at this;simp at this;subst this;simp at Iu);rw [Gv,hsl] at Ii YO;obtain⟨rfl,rfl⟩:=dQ Ii;have cs:=Oa k _ (acU Iu);have Nq:=bx (show Tf x.1.2 (S.getD k 0:Nat)=D.TY (lefts rs) S k by unfold Tf D.TY;rw [abe hrx hgood,mG,Nb hx];rfl);have MQ:=bx (λW (h:ak wr W)=>aow x.1.1 vl x.1.2 (S.getD k 0:Nat) W (hil.below h) (by have:=FI hrx;omega));obtain⟨al,cl,rfl⟩:=hil.slice;obtain⟨ar,cr,rfl⟩:=hir.slice;generalize S.getD k 0=sk at *;unfold maxLen at hg3 ks3;obtain⟨⟨vV,il⟩,⟨str,ir⟩,br⟩:=x;simp only at hc0 hc1 hc2 hc3 hc4 Nq MQ;clear hx hg1 hg5 hil hir hrx hgood Iu Ii Oa;have aga:k<40:=by omega
  have hd1:=aie (lefts rs) S k (by omega);have hd2:=aie (lefts rs) S (k+1) (by omega)
  cases hd:D.TY (lefts rs) S k with
  | true =>
   have HD:=bx hd;have nO:=bx (show D.pI (lefts rs) S k+2 ^ k=D.pI (lefts rs) S (k+1) by rw [D.auu];unfold D.pI;rw [aG hd];cases k <;> rfl);clear hd;go_wp2_with fail
   go_region_with ((go_at_call 264;refine(MQ.o _ ?_).mono ?_;exact below_drewN aZ _;rintro e w3 ⟨rfl,hb3⟩;rw [Nq.o,HD.o];have HB3:=bx (show ak wr w3 from Below.mono ⟨hb3.os,hb3.tape,hb3.output,hb3.size,hb3.block⟩ aU);clear hb3))
   all_goals
    have Yk:=bx (show ak w w3 from bt hbr.o HB3.o);go_wp2_with (go_at_call 265;refine aP (atx k _ (by omega)) ?_)
    have arP:=bx (show (D.pI (lefts rs) S k:Int)+2 ^ k=(D.pI (lefts rs) S (k+1):Int) by rw [<- nO.o];simp)
    go_roundw
    ·exact⟨k+1,hlt,by go_num,by rw [arP.o];exact Dy (IntWalk.wrap64_in _ (by omega)),Yk⟩
    simp [intOf];omega
  | false =>
   have HD:=bx hd;have nO:=bx (show D.pI (lefts rs) S (k+1)=D.pI (lefts rs) S k by rw [D.pI,aF (by rw [hd];decide)]);clear hd;go_wp2_with fail
   go_region_with ((go_at_call 264;refine(MQ.o _ ?_).mono ?_;exact below_drewN aZ _;rintro e w3 ⟨rfl,hb3⟩;rw [Nq.o,HD.o];have HB3:=bx (show ak wr w3 from Below.mono ⟨hb3.os,hb3.tape,hb3.output,hb3.size,hb3.block⟩ aU);clear hb3))
   all_goals
    have Yk:=bx (show ak w w3 from bt hbr.o HB3.o)
    go_wp2
    go_roundw
    ·exact⟨k+1,hlt,by go_num,by rw [nO.o],Yk⟩
    simp [intOf];omega
 obtain rfl:k=rs.length:=by omega
 go_wp2
 go_ret
 exact⟨rfl,hbr.o⟩
theorem WG:Pushes prog 27 2 8:=.mk' (z:=ah 0) underlying27 (by kernel_rfl) rfl
theorem yO:Pushes prog 22 3 8:=.mk' (z:=ah 0) underlying22 (by kernel_rfl) rfl
theorem Vt {w:World} {base n:Nat} {T:TypeId} {v:Value} {S:List Nat} (h:w.ownsRow base T 1 v n (S.map kH)) (hn:n=S.length):aN w v (zs S):=an5 h hn
theorem atv {rs:List D.Side} {S:D.Sets} {c:Int} {k:Nat} (h:k<rs.length):(D.wI rs S c).take (k+1)=(D.wI rs S c).take k++[D.OL rs S c k]:=take_snoc' _ _ _ (D.amC rs S c k h)
theorem alM (rv sv:Value) (rs:List D.Rule) (S:D.Sets) (c:Int) (w:World) (hR:iD w rv rs) (hl:rs.length<=40) (hr:∀ x∈rs,kL x.1.2=true) (hS:D.Good (lefts rs) S) (hv:aN w sv (zs S)) :
  Calls prog 185 #[rv,sv, ah c] w λe w'=>ak w w'/\∃ v,e = .returned v/\w'.ownsRow w.heap.size 2 1 v rs.length ((D.wI (lefts rs) S c).map kH):=by
 have HR:=bx hR;have jX:=bx hr;have HS:=bx hS;have HV:=bx hv;have hsl:S.length=rs.length:=by rw [hS.1,Bo]
 obtain⟨ao,cap,rfl⟩:=hR.slice;obtain⟨so,scap,rfl⟩:=hv.slice;rw [Gv,hsl] at HV ⊢;obtain⟨T,hT⟩:∃ T,D.wI (lefts rs) S c=T:=⟨_,rfl⟩
 have HT:=bx (λ(k:Nat) (h:k<rs.length)=>show (T.take (k+1)).map kH=(T.take k).map kH++[kH (D.OL (lefts rs) S c k)] by rw [<- hT,atv (by rw [Bo];exact h),gX];rfl);have qC:=bx (show T.length=rs.length by rw [<- hT,D.abA,Bo]);rw [hT];clear hR hr hS hv hT;have anq:=bx ((Sep.start w).kV w.heap.size 1 2)
 go_in
 go_wp2_with fail
 go_loopw [7,8] (λo i wr=>∃ k:Nat,k<=rs.length/\i = ah k/\Box (Sep [Pc.row w.heap.size 2 1 o k ((T.take k).map kH),Pc.old w.heap.size w] wr)) (λ_ i _=>rs.length-(intOf i).toNat)
 ·exact⟨0,by omega,rfl,anq⟩
 obtain⟨k,hk,rfl,hsep⟩:=hrel;have dL:=bx (show ak w wr from hsep.o.bel (by simp))
 by_cases hlt:k<rs.length
 ·obtain⟨x,hx⟩:=bV rs k hlt;obtain⟨bg,off,cap2,hg1,hg2,hg3,hg4,hg5⟩:=(HR.o.below dL.o).get (by rintro rfl;simp at hlt);obtain⟨rfl,rfl⟩:=dQ hg1;obtain⟨vl,vr,hc0,hc1,hc2,hc3,hc4,hil,hir⟩:=hg5 k x hx;have hrx:=jX.o x (dB hx);have hgood:=HS.o.2 k (by rw [Bo];exact hlt);rw [Nb hx] at hgood;have Iu:S[k]?=some (S.getD k 0):=by
   have:k<S.length:=by omega
   rw [List.getD,dW this];rfl
  obtain⟨sg,apS,aoA,Ii,YO,ks3,ks4,Oa⟩:=(HV.o.below dL.o).get (by intro e;have:=congrArg List.length e;rw [Gv] at this;simp at this;subst this;simp at Iu);rw [Gv,hsl] at Ii YO;obtain⟨rfl,rfl⟩:=dQ Ii;have cs:=Oa k _ (acU Iu);have nH:=bx (show (T.take (k+1)).map kH=(T.take k).map kH++[Value.int .i64 ((N.step x.1.2 x.1.1 (S.getD k 0) c:Nat):Int)] by
   rw [HT.o k hlt];unfold D.OL;rw [Nb hx];rfl)
  have iV:=bx (show PS x.1.2 x.1.1 (S.getD k 0:Nat) c = .tuple #[ah (N.step x.1.2 x.1.1 (S.getD k 0) c), ah 0] by rw [as2 (abe hrx hgood),mG]);have HST:=bx (λW (h:ak wr W)=>akn x.1.1 vl x.1.2 (S.getD k 0:Nat) c W (hil.below h) (by have:=FI hrx;omega));obtain⟨al,cl,rfl⟩:=hil.slice;obtain⟨ar,cr,rfl⟩:=hir.slice;generalize S.getD k 0=sk at *;unfold maxLen at hg3 ks3;obtain⟨⟨vV,il⟩,⟨str,ir⟩,br⟩:=x;simp only at hc0 hc1 hc2 hc3 hc4 nH iV HST;clear hx hg1 hg5 hil hir hrx hgood Iu Ii Oa;go_wp2_with fail
  go_region_with ((go_at_call 262;refine(HST.o _ ?_).mono ?_;exact below_drewN aZ _;rintro e w3 ⟨rfl,hb3⟩;rw [iV.o];have HB3:=bx (show ak wr w3 from Below.mono ⟨hb3.os,hb3.tape,hb3.output,hb3.size,hb3.block⟩ aU);clear hb3))
  all_goals
   have aS:=bx (hsep.o.below HB3.o);have hlb:w.heap.size<=w3.heap.size:=bP dL.o.size HB3.o.size;go_wp2_with (at_builtin;refine vM rfl _ _ 27 rfl WG aS.o 0 rfl rfl rfl rfl (by omega) (by omega) hlb ?_;rintro v' w4 hS4 -)
   rw [<- nH.o] at hS4;have dJ:=bx hS4;clear hS4
   go_wp2
   go_roundw
   ·exact⟨k+1,hlt,by go_num,dJ⟩
   simp [intOf];omega
 obtain rfl:k=rs.length:=by omega
 have HF:=bx (show T.take rs.length=T by rw [<- qC.o,mQ])
 go_wp2
 go_ret
 refine⟨dL.o,_,rfl,?_⟩;have:=hsep.o.row 0 rfl
 rwa [HF.o] at this
theorem axp {t:List D.Sets} {s:D.Sets} {k:Nat} (h:s∉t.take k) (hk:t[k]?=some s):D.place t s=k:=by
 unfold D.place;have hlt:=(dO hk).1;have h1:List.idxOf s t<=k:=by
  rcases gZ k (List.idxOf s t) with h3 | h3
  ·exfalso
   unfold List.idxOf at h3;have h4:=List.not_of_lt_findIdx h3;rw [(dO hk).2] at h4;simp at h4
  exact h3
 rcases gZ (List.idxOf s t) k with h2 | h2
 ·exfalso
  apply h
  have hm:s∈t:=dB hk;have:=List.getElem_idxOf (List.idxOf_lt_length_of_mem hm);rw [<- this];rw [List.mem_take_iff_getElem];exact⟨List.idxOf s t,by have:=List.idxOf_lt_length_of_mem hm;omega,rfl⟩
 omega
theorem avD (av sv:Value) (t:List D.Sets) (s:D.Sets) (w:World) (hA:iF w av (t.map zs)) (hz:t.length<=16777216) (hzt:∀ x∈t,x.length<=40) (hs:s.length<=40) (hv:aN w sv (zs s)) :
  Calls prog 186 #[av,sv] w λe w'=>e = .returned (ah (D.place t s))/\ak w w':=by
 have HA:=bx hA;have HV:=bx hv;have HZ:=bx hzt;obtain⟨ao,cap,rfl⟩:=hA.slice;obtain⟨so,scap,rfl⟩:=hv.slice;rw [aV] at HA ⊢;clear hA hv hzt
 go_in
 go_wp2_with fail
 go_loopw [5] (λi wr=>∃ k:Nat,k<=t.length/\i = ah k/\Box (s∉t.take k)/\Box (ak w wr)) (λi _=>t.length-(intOf i).toNat)
 ·exact⟨0,by omega,rfl,⟨by simp⟩,⟨Below.refl _ _⟩⟩
 obtain⟨k,hk,rfl,hn,hbr⟩:=hrel
 by_cases hlt:k<t.length
 ·obtain⟨x,hx⟩:=bV t k hlt;obtain⟨bg,off,cap2,hg1,hg2,hg3,hg4,hg5⟩:=(HA.o.below hbr.o).get (by intro e;have:=congrArg List.length e;simp at this;subst this;simp at hlt);rw [aV] at hg1 hg2;obtain⟨rfl,rfl⟩:=dQ hg1;obtain⟨xv,hc,hxi⟩:=hg5 k (zs x) (by rw [eX,hx];rfl);have CQ:=bx (awO xv _ (zs x) (zs s) wr hxi (HV.o.below hbr.o) (by have:=HZ.o x (dB hx);rw [Gv];omega) (by rw [Gv];omega));have HX:=bx hx;unfold maxLen at hg3;clear hx hg1 hg5 hxi
  by_cases hxs:x=s
  ·subst hxs;have HD:=bx (show decide (zs x=zs x)=true by simp);have HP:=bx (axp hn.o HX.o);go_wp2_with (go_at_call 263;refine CQ.o.mono ?_;rintro e w1 ⟨rfl,hb1⟩;rw [HD.o])
   go_ret
   exact⟨Bv (by rw [HP.o]),bt hbr.o hb1⟩
  have HD:=bx (show decide (zs x=zs s)=false by rw [yX];exact λe=>hxs (akd e));have HN:=bx (show s∉t.take (k+1) by rw [take_snoc' _ _ _ HX.o,lM];rintro(h | h);exact hn.o h;exact hxs (fU.1 h).symm);go_wp2_with (go_at_call 263;refine CQ.o.mono ?_;rintro e w1 ⟨rfl,hb1⟩;rw [HD.o])
  go_roundw
  ·exact⟨k+1,hlt,by go_num,HN,⟨bt hbr.o hb1⟩⟩
  simp [intOf];omega
 obtain rfl:k=t.length:=by omega
 have HP:=bx (show D.place t s=t.length from D.YL (by have:=hn.o;rwa [mQ] at this))
 go_wp2
 go_ret
 exact⟨Bv (by rw [HP.o]),hbr.o⟩
end
end Go.Proofs.YtdponihkpomheaaGreatDoor
