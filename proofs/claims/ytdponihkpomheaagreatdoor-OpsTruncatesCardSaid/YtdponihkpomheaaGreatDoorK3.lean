/- Texts of this claim. -/
import Derived.Stop.RegionWithIn
import Derived.WideKeyArr
import Derived.Deep.AppendLies
import Derived.Deep.RegionLaw
import Derived.Great.BuildSlice
import Derived.Deep.MidRow
import Derived.Carry
import Derived.Maps.OwnIn
import Derived.Test.YtdponihkpomheaaGreatDoorK2

set_option maxHeartbeats 4000000
set_option maxRecDepth 100000
namespace Go.Proofs.YtdponihkpomheaaGreatDoor
open Go.RowKit
open Tryz
section
section
variable {P:Program} {ops:Array Oper} {Q:Exit->Act->World->Prop} {md:Region.Mode} {k:Nat} {F:World->Prop}
def Closed(md:Region.Mode)(ops:Array Oper)(l:Array Bool):Prop:=
 ∀j Ol,ops[j]?=some Ol->l.getD j true=true->∀e∈Ol.after,Region.binds md e=true->l.getD e.on true=true
def uY(md:Region.Mode)(ops:Array Oper)(l:Array Bool):Bool:=
 (List.range ops.size).all λj=>!l.getD j true||match ops[j]? with
  |some Ol=>Ol.after.all λe=>!Region.binds md e||l.getD e.on true
  |none=>true
theorem akb{l:Array Bool}(h:uY md ops l=true):Closed md ops l:=by
 intro j Ol YO hl e he Z8;unfold uY at h;rw[QG]at h;have Z7:=h j (Ly.2 (J4.1 YO).1);rw[hl,YO]at Z7;simp only[Bool.not_true,Bool.false_or]at Z7;have Z5:=Array.all_eq_true'.1 Z7 e he;grind
theorem ap0{l:Array Bool}{i:Nat}(h:Closed md ops l)(ZT:i∈Region.ready md ops l):Closed md ops (l.setIfInBounds i true):=by
 obtain⟨ag4,Sc,aAo,S9⟩:=mem_ready.1 ZT;have up:∀j,l.getD j true=true->(l.setIfInBounds i true).getD j true=true:=by
  intro j YO
  by_cases e:i=j
  ·grind
  simp_all
 intro j Ol YO hl e he Z8
 by_cases LJ:i=j
 ·grind
 rw[getD_set_ne true LJ]at hl;exact up _ (h j Ol YO hl e he Z8)
def CC(md:Region.Mode)(ops:Array Oper)(i:Nat):Nat->Nat->Bool
 |0,_=>false
 |f+1,k=>match ops[k]? with
  |some ok=>ok.after.any λe=>Region.binds md e&&(e.on==i||CC md ops i f e.on)
  |none=>false
theorem nM{l:Array Bool}{i:Nat}(ZL:Closed md ops l)(hi:l.getD i true=false):∀(f k:Nat),CC md ops i f k=true->l.getD k true=false
 |0,_,h=>by simp[CC]at h
 |f+1,k,h=>by
  unfold CC at h
  cases Z3:ops[k]? with
  |none=>grind
  |some ok=>
   rw[Z3]at h;obtain⟨e,he,Z8⟩:=Array.any_eq_true'.1 h;simp only[Vm,Bool.or_eq_true,Lz]at Z8
   cases hl:l.getD k true with
   |false=>rfl
   |true=>
    have Z7:=ZL k ok Z3 hl e he Z8.1
    rcases Z8.2 with Zq|Zq
    ·grind
    rw[nM ZL hi f e.on Zq]at Z7;cases Z7
def Q5(P:Program)(md:Region.Mode)(ops:Array Oper)(Q:Exit->Act->World->Prop)(k:Nat)(F:World->Prop):Nat->Array Bool->Act->World->Prop
 |0,listed,a,w=>Region.ready md ops listed=[]/\Q .normal a w
 |fuel+1,listed,a,w=>
  (Region.ready md ops listed=[]->Q .normal a w)/\
  ∀i∈Region.ready md ops listed,wpOp P ops Q i (λOa w'=>((listed.setIfInBounds i true).getD k true=false->F w')/\Q5 P md ops Q k F fuel (listed.setIfInBounds i true) Oa w') a w
theorem mN:∀(fuel:Nat)(listed:Array Bool)(a:Act)(w:World),Q5 P md ops Q k F fuel listed a w->wpAny P md ops Q fuel listed a w
 |0,_,_,_,h=>h
 |fuel+1,_,_,_,h=>⟨h.1,λi hi=>wpOp_mono (λOa w' TB=>mN fuel _ Oa w' TB.2) (h.2 i hi)⟩
theorem ald{i f:Nat}{Sc:Oper}{v:Value}(hi:ops[i]?=some Sc)(tH:∀(j:Nat)(o:Oper) cs b,ops[j]?=some o->o.op≠.select cs b)(VI:∀c a w,Q (.panic c) (a.put Sc.dst v) w->Q (.panic c) a w)(TH:i≠k)(ag9:CC md ops i f k=true):
  ∀(fuel:Nat)(listed:Array Bool)(a:Act)(w:World),
   (∀j Ol,ops[j]?=some Ol->j≠i->listed.getD j true=false->(∀e∈Ol.after,Region.binds md e=true->e.on≠i)->Sc.apart ops Ol=true)->
   i∈Region.ready md ops listed->Closed md ops listed->YieldsIf P ops F Sc v a->(listed.getD k true=false->F w)->
   Q5 P md ops Q k F fuel (listed.setIfInBounds i true) (a.put Sc.dst v) w->Q5 P md ops Q k F (fuel+1) listed a w:=by
 intro fuel
 induction fuel with
 |zero=>
  intro listed a w _ ZT ZL ZJ hS H;refine⟨λh=>(by grind),λj YO=>?_⟩;have hF:=hS (nM ZL (mem_ready.1 ZT).1 f k ag9)
  by_cases hji:j=i
  ·subst hji;exact YieldsIf.wpOp hi ZJ hF ⟨λ_=>hF,H⟩
  have:=ready_mono YO hji;rw[H.1]at this
  cases this
 |succ fuel XZ=>
  intro listed a w tX ZT ZL ZJ hS H;have hF:=hS (nM ZL (mem_ready.1 ZT).1 f k ag9);refine⟨λh=>(by grind),λj YO=>?_⟩
  by_cases hji:j=i
  ·subst hji;exact YieldsIf.wpOp hi ZJ hF ⟨λ_=>hF,H⟩
  have Z7:=H.2 j (ready_mono YO hji);obtain⟨kh,Ol,zP,S9⟩:=mem_ready.1 YO;have j5:∀e∈Ol.after,Region.binds md e=true->e.on≠i:=λe he Z8 Jf=>by
   have Z7:=S9 e he Z8;have ZI:=(mem_ready.1 ZT).1;grind
  have Z5:=wpOp_putIf zP (tX j Ol zP hji kh j5) (λcs b=>tH i Sc cs b hi) (λcs b=>tH j Ol cs b zP) VI ZJ Z7;have kp:∀k ok,ops[k]?=some ok->k≠i->(listed.setIfInBounds j true).getD k true=false->
    (∀e∈ok.after,Region.binds md e=true->e.on≠i)->Sc.apart ops ok=true:=λk ok Z3 ke ag4 XF=>by
   refine tX k ok Z3 ke ?_ XF
   by_cases hjk:j=k
   ·grind
   simp_all
  refine wpOp_mono (λOa w' ZS=>?_) Z5;have LM:=λh=>ZS.2.1 (by
   rw[Array.setIfInBounds_comm _ _ (Ne.symm hji),getD_set_ne true TH];exact h)
  refine⟨LM,XZ (listed.setIfInBounds j true) Oa w' kp (ready_mono ZT (Ne.symm hji)) (ap0 ZL YO) ZS.1 LM ?_⟩;grind[Array.setIfInBounds_comm]
theorem kT{i:Nat}{Sc:Oper}{v:Value}{fuel:Nat}{listed:Array Bool}{a:Act}{w:World}(hi:ops[i]?=some Sc)(Z0:(Region.noSelect ops&&Region.free md ops listed i&&(Region.ready md ops listed).contains i&&uY md ops listed&&CC md ops i ops.size k&&!(i==k))=true)(VI:∀c a w,Q (.panic c) (a.put Sc.dst v) w->Q (.panic c) a w)(ZJ:YieldsIf P ops F Sc v a)(hS:F w)(h:Q5 P md ops Q k F fuel (listed.setIfInBounds i true) (a.put Sc.dst v) w):Q5 P md ops Q k F (fuel+1) listed a w:=by
 simp only[Vm,Bool.not_eq_true',Sz]at Z0;obtain⟨⟨⟨⟨⟨Z7,Z5⟩,ZS⟩,ZG⟩,Zi⟩,Yu⟩:=Z0;exact ald hi (Region.noSelect_spec Z7) VI Yu Zi fuel listed a w (Region.free_spec hi Z5) (by grind) (akb ZG) ZJ (λ_=>hS) h
def Lm(P:Program)(md:Region.Mode)(ops:Array Oper)(Q:Exit->Act->World->Prop)(k:Nat)(F:World->Prop)(fuel:Nat)(listed:Array Bool)(a:Act)(w:World)(rs:List Nat):Prop:=
 ∀i∈rs,wpOp P ops Q i (λOa w'=>((listed.setIfInBounds i true).getD k true=false->F w')/\Q5 P md ops Q k F fuel (listed.setIfInBounds i true) Oa w') a w
theorem Lm.nil{fuel:Nat}{listed:Array Bool}{a:Act}{w:World}:Lm P md ops Q k F fuel listed a w []:=λ_ h=>by cases h
theorem Lm.cons{fuel:Nat}{listed:Array Bool}{a:Act}{w:World}{i:Nat}{o:Oper}{rs:List Nat}(YT:ops[i]?=some o)(h:∀HF:Act->World->Prop,Shut (∀a w,((listed.setIfInBounds i true).getD k true=false->F w)->Q5 P md ops Q k F fuel (listed.setIfInBounds i true) a w->HF a w)->if Region.wanted o (yielded ops a.tmps)=true then Oper.wp P o a w HF Q else HF (a.put o.dst undef) w)(Z0:Lm P md ops Q k F fuel listed a w rs):Lm P md ops Q k F fuel listed a w (i::rs):=λj YO=>by
 rcases T7.1 YO with rfl|YO
 ·exact wpOp_step YT (λHF Xc=>h HF (λa w hS Yj=>Xc a w ⟨hS,Yj⟩))
 exact Z0 j YO
theorem qC{rs:List Nat}{fuel:Nat}{listed:Array Bool}{a:Act}{w:World}(ZT:Region.ready md ops listed=rs)(Xq:rs≠[])(h:Lm P md ops Q k F fuel listed a w rs):Q5 P md ops Q k F (fuel+1) listed a w:=⟨λZI=>absurd (ZT▸ZI) Xq,ZT▸h⟩
theorem kO{i:Nat}{o:Oper}{fuel:Nat}{listed:Array Bool}{a:Act}{w:World}(ZT:Region.ready md ops listed=[i])(YT:ops[i]?=some o)(h:∀HF:Act->World->Prop,Shut (∀a w,((listed.setIfInBounds i true).getD k true=false->F w)->Q5 P md ops Q k F fuel (listed.setIfInBounds i true) a w->HF a w)->if Region.wanted o (yielded ops a.tmps)=true then Oper.wp P o a w HF Q else HF (a.put o.dst undef) w):
  Q5 P md ops Q k F (fuel+1) listed a w:=qC ZT (by simp) (Lm.cons YT h Lm.nil)
theorem kS(i:Nat){Sc:Oper}(v:Value){Q:Exit->Act->World->Prop}{fuel:Nat}{listed:Array Bool}{a:Act}{w:World}(hi:ops[i]?=some Sc)(hS:F w)(ZJ:∀w,F w->(execOp a.eval Sc).run P w=.ok (.value v) w)(h:Q5 P md ops (NoPanic Q) k F fuel (listed.setIfInBounds i true) (a.put Sc.dst v) w)(Z0:(Region.noSelect ops&&Region.free md ops listed i&&(Region.ready md ops listed).contains i&&uY md ops listed&&CC md ops i ops.size k&&!(i==k))=true:=by kernel_rfl)(hw:Region.wanted Sc (yielded ops a.tmps)=true:=by kernel_rfl):Q5 P md ops (NoPanic Q) k F (fuel+1) listed a w:=
 kT hi Z0 (λ_ _ _ h=>h) (Or.inl ⟨hw,ZJ⟩) hS h
def Kl(_:List Nat)(X:Prop):Prop:=X
theorem Vp{X:Prop}(is:List Nat)(h:Kl is X):X:=h
theorem Vq{i:Nat}{is:List Nat}{Sc:Oper}(v:Value){Q:Exit->Act->World->Prop}{fuel:Nat}{listed:Array Bool}{a:Act}{w:World}(hi:ops[i]?=some Sc)(hS:F w)(ZJ:∀w,F w->(execOp a.eval Sc).run P w=.ok (.value v) w)(h:Kl is (Q5 P md ops (NoPanic Q) k F fuel (listed.setIfInBounds i true) (a.put Sc.dst v) w))(Z0:(Region.noSelect ops&&Region.free md ops listed i&&(Region.ready md ops listed).contains i&&uY md ops listed&&CC md ops i ops.size k&&!(i==k))=true:=by kernel_rfl)(hw:Region.wanted Sc (yielded ops a.tmps)=true:=by kernel_rfl):Kl (i::is) (Q5 P md ops (NoPanic Q) k F (fuel+1) listed a w):=
 kS i v hi hS ZJ h Z0 hw
theorem Vr{X:Prop}(h:X):Kl [] X:=h
theorem Y1(i:Nat){o:Oper}{fuel:Nat}{listed:Array Bool}{a:Act}{w:World}(YT:ops[i]?=some o)(h:∀HF:Act->World->Prop,Shut (∀a w,((listed.setIfInBounds i true).getD k true=false->F w)->Q5 P md ops Q k F fuel (listed.setIfInBounds i true) a w->HF a w)->if Region.wanted o (yielded ops a.tmps)=true then Oper.wp P o a w HF Q else HF (a.put o.dst undef) w)(ZT:Region.ready md ops listed=[i]:=by kernel_rfl):Q5 P md ops Q k F (fuel+1) listed a w:=kO ZT YT h
theorem au9{listed:Array Bool}{a:Act}{w:World}(ZT:Region.ready md ops listed=[])(h:Q .normal a w):
  ∀fuel,Q5 P md ops Q k F fuel listed a w
 |0=>⟨ZT,h⟩
 |_+1=>⟨λ_=>h,by rw[ZT];simp⟩
theorem kD{listed:Array Bool}{a:Act}{w:World}{Q:Exit->Act->World->Prop}(h:Q .normal a w)(fuel:Nat)(ZT:Region.ready md ops listed=[]:=by kernel_rfl):Q5 P md ops (NoPanic Q) k F fuel listed a w:=au9 ZT (NoPanic.normal h) fuel
theorem Vv{id:Nat}{a:Act}{w:World}(k:Nat)(F:World->Prop)(hm:P.follows .mixedOrders=true)(h:Q5 P .any ops (NoPanic Q) k F ops.size (Array.replicate ops.size false) a w.drew):(Code.region id ops true).wp P Q a w:=
 wp_region_noPanic (wp_region_any hm (mN _ _ _ _ h))
end
section
variable {P:Program} {YR:World} {o:Oper} {a:Act} {K:Act->World->Prop} {Q:Exit->Act->World->Prop} {G8:Prop} {ops:Array Oper}
theorem H6(Uz:o.guard=none)(s x:Operand)(t:TypeId)(YT:o.op=.call {callee:=.builtin .append,args:=#[s,x],argTypes:=#[t,t]}){base:Nat}{e te:TypeId}{bytes:Nat}(TU:Pushes P t e bytes){ps:List Pc}(hS:Sep ps YR)(k:Nat){v u:Value}{n:Nat}{xs:List Value}(Z3:ps[k]?=some (Pc.row base e 1 v n xs))(Z0:a.eval s=v)(Z4:a.eval x=.slice (some ⟨YR.heap.size,0,none⟩) 1 1)(Z7:u.oneCell'=true)(ZP:n<=1000000000)(P6:bytes<=1000)(K8:base<=YR.heap.size)(h:∀Zy w',Sep (ps.set k (Pc.row base e 1 Zy (n+1) (xs++[u]))) w'->(∃g c,Zy=.slice (some ⟨g,0,none⟩) (n+1) c/\n+1<=c/\c<=9223372036854775807)->K (a.put o.dst Zy) w'):
  if Region.wanted o (yielded ops a.tmps)=true then Oper.wp P o a (YR.alloc (.cells #[u] te)) K Q else G8:=by
 obtain⟨i,z,ZM,hi,Vs,Up,Vf,PF⟩:=TU.o;have Z8:(n+1)*bytes<=1000000001*1000:=IA (by omega) P6;rw[Y0 (by simp[Region.wanted,Uz])];obtain⟨Zy,w',ZT,Wo,UN,-,MK⟩:=run_append_own_at (P:=P) (YR.alloc (.cells #[u] te)) base t o.type e i z 1 bytes ZM hi Vs Up Vf PF (by decide) v n xs ((hS.row k Z3).alloc _) ⟨YR.heap.size,0,none⟩ 1 1 [u] rfl (cell_one_new _ _ _) (by grind) (by grind[maxLen]) (by omega) (by simp;omega);unfold Oper.wp execOp;simp only[YT,resolve,invoke,builtin,Sem.run_bind,Sem.run_pure,Result.andThen_ok,List.map_toArray,RG,Pa,Z0,Z4,ZT];have LM:=(hS.alloc (.cells #[u] te)).grow k Z3 UN Wo (by
  grind)
 refine h Zy w' LM ?_
 rcases Wo.2 with⟨_,Z5⟩|⟨g,ZU,VY,Z5,_,_,ZS,ZG,_⟩
 ·omega
 grind[maxLen]
end
structure ID(P:Program)(t e:TypeId)(s bytes:Nat):Prop where
 o:∃(i:TypeInfo)(z:Value),P.underlying t=some (.slice e)/\P.info? e=some i/\i.zero=some z/\i.size=s/\i.bytes=bytes/\z.cells.size=s
theorem ID.mk'{P:Program}{t e:TypeId}{s bytes:Nat}{z:Value}(ZM:P.underlying t=some (.slice e))(h:(P.info? e).map (λi=>(i.zero,i.size,i.bytes))=some (some z,s,bytes))(ZY:z.cells.size=s):ID P t e s bytes:=by
 cases hi:P.info? e with
 |none=>grind
 |some i=>
  rw[hi]at h;simp only[Option.map_some,OS,Prod.mk.injEq]at h;exact⟨i,z,ZM,hi,h.1,h.2.1,h.2.2,ZY⟩
theorem asi(w:World)(cs:List Value)(t:TypeId):∀j u,cs[j]?=some u->(w.alloc (.cells cs.toArray t)).cell? ((⟨w.heap.size,0,none⟩:Addr).add j)=some u:=by
 intro j u YO
 (try unfold ZQ at *);rw[show(⟨w.heap.size,0,none⟩:Addr).add j=⟨w.heap.size,j,none⟩ by grind[Addr.add]]
 simp_all
section
variable {P:Program} {YR:World} {o:Oper} {a:Act} {K:Act->World->Prop} {Q:Exit->Act->World->Prop} {G8:Prop} {ops:Array Oper}
theorem hV{t:TypeId}{base:Nat}{e te:TypeId}{Sa bytes:Nat}(TU:ID P t e Sa bytes)(W1:0<Sa){ps:List Pc}(hS:Sep ps YR)(k:Nat){v:Value}{cs:List Value}{n:Nat}{xs:List Value}(Z3:ps[k]?=some (Pc.row base e Sa v n xs))(ZL:cs.length=Sa)(Z7:∀u∈cs,u.oneCell'=true)(ZP:n<=1000000000)(P6:bytes<=10000)(K8:base<=YR.heap.size)(ty:TypeId):
  ∃Zy w',(Builtin.append_ #[t,t] ty #[v,.slice (some ⟨YR.heap.size,0,none⟩) 1 1]).run P (YR.alloc (.cells cs.toArray te))=.ok Zy w'/\Sep (ps.set k (Pc.row base e Sa Zy (n+1) (xs++cs))) w'/\(∃g c,Zy=.slice (some ⟨g,0,none⟩) (n+1) c/\n+1<=c/\c<=9223372036854775807):=by
 obtain⟨i,z,ZM,hi,Vs,Up,Vf,PF⟩:=TU.o;have Z8:(n+1)*bytes<=1000000001*10000:=IA (by omega) P6;obtain⟨Zy,w',ZT,Wo,UN,-,MK⟩:=run_append_own_at (P:=P) (YR.alloc (.cells cs.toArray te)) base t ty e i z Sa bytes ZM hi Vs Up Vf PF W1 v n xs ((hS.row k Z3).alloc _) ⟨YR.heap.size,0,none⟩ 1 1 cs (by omega) (asi _ _ _) Z7 (by grind[maxLen]) (by omega) (by simp;omega);refine⟨Zy,w',ZT,(hS.alloc (.cells cs.toArray te)).grow k Z3 UN Wo (by
  grind),?_⟩
 rcases Wo.2 with⟨_,Z5⟩|⟨g,ZU,VY,Z5,_,_,ZS,ZG,_⟩
 ·omega
 grind[maxLen]
theorem ac1(Uz:o.guard=none)(s x:Operand)(t:TypeId)(YT:o.op=.call {callee:=.builtin .append,args:=#[s,x],argTypes:=#[t,t]}){base:Nat}{e te:TypeId}{Sa bytes:Nat}(TU:ID P t e Sa bytes)(W1:0<Sa){ps:List Pc}(hS:Sep ps YR)(k:Nat){v:Value}{cs:List Value}{n:Nat}{xs:List Value}(Z3:ps[k]?=some (Pc.row base e Sa v n xs))(Z0:a.eval s=v)(Z4:a.eval x=.slice (some ⟨YR.heap.size,0,none⟩) 1 1)(ZL:cs.length=Sa)(Z7:∀u∈cs,u.oneCell'=true)(ZP:n<=1000000000)(P6:bytes<=10000)(K8:base<=YR.heap.size)(h:∀Zy w',Sep (ps.set k (Pc.row base e Sa Zy (n+1) (xs++cs))) w'->(∃g c,Zy=.slice (some ⟨g,0,none⟩) (n+1) c/\n+1<=c/\c<=9223372036854775807)->K (a.put o.dst Zy) w'):
  if Region.wanted o (yielded ops a.tmps)=true then Oper.wp P o a (YR.alloc (.cells cs.toArray te)) K Q else G8:=by
 rw[Y0 (by simp[Region.wanted,Uz])];obtain⟨Zy,w',ZT,Z5,ZS⟩:=hV (P:=P) TU W1 hS k Z3 ZL Z7 ZP P6 K8 o.type (te:=te);unfold Oper.wp execOp;simp only[YT,resolve,invoke,builtin,Sem.run_bind,Sem.run_pure,Result.andThen_ok,List.map_toArray,RG,Pa,Z0,Z4,ZT];exact h Zy w' Z5 ZS
theorem GK{rest:List Oper}(Uz:o.guard=none)(s x:Operand)(t:TypeId)(YT:o.op=.call {callee:=.builtin .append,args:=#[s,x],argTypes:=#[t,t]}){base:Nat}{e te:TypeId}{Sa bytes:Nat}(TU:ID P t e Sa bytes)(W1:0<Sa){ps:List Pc}(hS:Sep ps YR)(k:Nat){v:Value}{cs:List Value}{n:Nat}{xs:List Value}(Z3:ps[k]?=some (Pc.row base e Sa v n xs))(Z0:a.eval s=v)(Z4:a.eval x=.slice (some ⟨YR.heap.size,0,none⟩) 1 1)(ZL:cs.length=Sa)(Z7:∀u∈cs,u.oneCell'=true)(ZP:n<=1000000000)(P6:bytes<=10000)(K8:base<=YR.heap.size)(h:∀Zy w',Sep (ps.set k (Pc.row base e Sa Zy (n+1) (xs++cs))) w'->(∃g c,Zy=.slice (some ⟨g,0,none⟩) (n+1) c/\n+1<=c/\c<=9223372036854775807)->wpList P ops Q rest (a.put o.dst Zy) w'):
  wpList P ops Q (o::rest) a (YR.alloc (.cells cs.toArray te)):=by
 refine wpList_plain Uz λK Xc=>?_
 obtain⟨Zy,w',ZT,Z5,ZS⟩:=hV (P:=P) TU W1 hS k Z3 ZL Z7 ZP P6 K8 o.type (te:=te);unfold Oper.wp execOp;simp only[YT,resolve,invoke,builtin,Sem.run_bind,Sem.run_pure,Result.andThen_ok,List.map_toArray,RG,Pa,Z0,Z4,ZT];exact Xc _ _ (h Zy w' Z5 ZS)
end
theorem flat_get{α β:Type}(f:α->List β)(s:Nat):∀(L:List α)(i j:Nat)(x:α),(∀y∈L,(f y).length=s)->L[i]?=some x->j<s->(L.flatMap f)[i*s+j]?=(f x)[j]?
 |[],i,_,_,_,h,_=>by grind
 |y::L,0,j,x,hl,h,YO=>by
  grind
 |y::L,i+1,j,x,hl,h,YO=>by
  rw[List.getElem?_cons_succ]at h;have ZJ:=hl y (Pw ..);rw[I3,Fz (by grind),ZJ,show(i+1)*s+j-s=i*s+j by grind];exact flat_get f s L i j x (λz ZY=>hl z (Oj _ ZY)) h YO
theorem aaI(k:Nat):(2:Int)^k=((2^k:Nat):Int):=by simp
theorem atI(S m k:Nat)(hS:S<2^k)(hm:m<k):S ||| 2^m<2^k:=Nat.or_lt_two_pow hS (Nat.pow_lt_pow_right (by omega) hm)
theorem apu(S k:Nat)(hS:S<2^k)(Z3:k<=40):S<1099511627776:=by
 have:2^k<=2^40:=Nat.pow_le_pow_right (by omega) Z3;omega
structure Agree(W0 w:World):Prop where
 size:W0.heap.size<=w.heap.size
 block:∀k,k<W0.heap.size->w.heap[k]?=W0.heap[k]?
theorem Agree.of_below{W0 w:World}(h:Z6 W0 w):Agree W0 w:=⟨h.size,h.block⟩
theorem Agree.turns{A B C:World}{own:Nat->Prop}(h:Agree A B)(k:Turns own B C)(YT:∀i,own i->A.heap.size<=i):Agree A C:=
 ⟨XJ h.size k.size,λi hi=>(k.block i (Vh hi h.size) (λe=>by grind)).trans (h.block i hi)⟩
theorem Agree.holds{A B C:World}{own:Nat->Prop}(h:Agree A B)(k:Holds own B C)(YT:∀i,i<A.heap.size->own i):Agree A C:=
 ⟨XJ h.size k.size,λi hi=>(k.block i (YT i hi)).trans (h.block i hi)⟩
theorem ly{P:Program}{T K E:TypeId}{q:IntKind}(hm:P.underlying T=some (.map K E))(Z3:P.underlying K=some (.int q))(W:World)(es:Array MapEntry)(Vd:Nat)(k:Int)(n:Nat)(ZH:W.heap[n]?=some (.map es Vd))(i:Nat)(v:Value)(Yz:Instr.findNow (.int q) (.int q k) es.toList 0=some (some (i,v))):
  (Instr.lookup T (.map (some n)) (.int q k) false).run P W=.ok v W:=by
 have Z7:(Instr.checkKey es.isEmpty 10000 K (.int q k)).run P W=.ok () W:=MapKept.run_checkKey Z3 (by rfl) _ 9999;have Z5:=MapKept.run_findKey (P:=P) (w:=W) Z3 Yz;unfold Instr.lookup;simp only[Sem.run_bind,run_underlying hm,Result.andThen,MapKept.run_getObj_map ZH,Z7,Z5,Sem.run_pure,Bool.false_eq_true,if_false]
theorem MQ{P:Program}{f:FuncId}{args:Array Value}{w:World}{n:Nat}{v:Value}(h:Calls P f args (w.drewN n) λe w'=>e=.returned v/\w.drewN n=w'):Calls P f args (w.drewN n) λe Ep=>e=.returned v/\∃m,Ep=w.drewN m:=
 h.mono λ_ _ ⟨he,hm⟩=>⟨he,n,hm.symm⟩
theorem aa4{l:List N.Item}(h:Ss l=true){i:Nat}{x:N.Item}(Z4:l[i]?=some x):0<=x.2/\x.2<=2:=by
 unfold Ss at h;rw[Vm,QG]at h;have:=h.2 x (Xh Z4);grind[Ny]
def GW(W0:World)(ahZ ah0 ahY:Nat)(k:Nat):Prop:=k<W0.heap.size\/k=ahZ\/k=ah0\/k=ahY
def yk(l:List N.Item):Int:=if Ss l=true then(N.most l:Int)else 0
def qP(l:List N.Item):Value:=if Ss l=true then .tuple #[Z9 (N.clo l 0),Z9 0]else .tuple #[Z9 0,Z9 80]
def JP(l:List N.Item)(x:Int):Bool:=Ss l&&decide (0<=x)&&decide (x<=N.most l)
def wk(l:List N.Item)(st:Bool)(x c:Int):Value:=if JP l x=true then .tuple #[Z9 (N.step l st x.toNat c),Z9 0]else .tuple #[Z9 0,Z9 80]
def sD(l:List N.Item)(x:Int):Bool:=JP l x&&N.fL l x.toNat
theorem Xl(w:World)(o:Obj):Z6 w (w.alloc o):=YU.alloc Ys o
theorem aB{V w:World}{o:Obj}(h:V=w.alloc o):Z6 w V:=h▸Xl w o
theorem aK{V w:World}{cs:Array Value}{t:TypeId}(h:V=w.alloc (.cells cs t)):Zv V w.heap.size t cs:=h▸Zv.new w t cs
theorem abI(l:List N.Item)(h:l.length<=10):N.most l<4611686018427387904:=by
 have:2^(2*l.length+1)<=2^21:=Nat.pow_le_pow_right (by omega) (by omega);grind[N.most]
theorem EV{l:List N.Item}(h:Ss l=true):l.length<=10:=by
 grind[Ss]
end
section
open Go.Shelf
attribute[local go_sem] Oper.semAt_some
def AM(x:D.Rule):D.Rule:=((x.1.1,x.1.2.take 12),(x.2.1.1,x.2.1.2.take 12),x.2.2)
def Bd(l:List D.Rule):List D.Rule:=(l.take 42).map AM
theorem rb{α:Type}(xs:List α)(k:Nat)(x:α)(h:xs[k]?=some x):xs.take (k+1)=xs.take k++[x]:=by rw[Uo,h];rfl
def H3(y:D.Rule×Value×Value):List Value:=[.bool y.1.1.1,y.2.1,.bool y.1.2.1.1,y.2.2,.bool y.1.2.2]
theorem abe:ID prog 26 254 5 72:=.mk' (z:=.agg #[.bool false,Z1,.bool false,Z1,.bool false]) underlying26 (by rfl) rfl
def yP(W:World)(L:List (D.Rule×Value×Value)):Prop:=∀y∈L,VA W y.2.1 y.1.1.2/\VA W y.2.2 y.1.2.1.2
theorem aaU{W:World}{base n:Nat}{v:Value}{L:List (D.Rule×Value×Value)}(h:W.ownsRow base 254 5 v n (L.flatMap H3))(ZP:n=L.length)(ZO:yP W L):TQ W v (L.map (·.1)):=by
 subst ZP
 rcases h.2 with⟨Z7,Z5⟩|⟨g,ZU,VY,Z7,Z5,ZS,ZG,Zi,Yu,VV⟩
 ·rw[L4 Z5];exact .inl ⟨Z7,rfl⟩
 refine .inr ⟨g,0,none,ZU,by grind,by grind,Zi,λZP=>⟨rfl,(J4.1 ZS).1,λi x Z4=>?_⟩⟩;rw[RX]at Z4;obtain⟨y,ZJ,rfl⟩:=NU.1 Z4;have ZL:∀(j:Nat)(u:Value),j<5->(H3 y)[j]?=some u->ZQ W g (0+i*5+j)=some u:=by
  intro j u YO hu;have Vz:=h.cells (g:=g) (by rw[Z7];rfl) (i*5+j) u (by rw[flat_get H3 5 L i j y (λz _=>rfl) ZJ YO];exact hu)
  (try unfold ZQ at *);grind[Addr.add]
 obtain⟨Zx,Zr⟩:=ZO y (Xh ZJ);exact⟨y.2.1,y.2.2,ZL 0 _ (by omega) rfl,ZL 1 _ (by omega) rfl,ZL 2 _ (by omega) rfl,ZL 3 _ (by omega) rfl,ZL 4 _ (by omega) rfl,Zx,Zr⟩
end
theorem own_below{w w':World}{B:Nat}{T:TypeId}{v:Value}{n:Nat}{bs:List Value}(h:w.ownsRow B T 1 v n bs)(Z8:Z6 w w'):w'.ownsRow B T 1 v n bs:=by
 have hl:=h.lt;refine⟨h.1,?_⟩
 rcases h.2 with Z5|⟨g,ZU,VY,Z5,ZS,ZG,Zi⟩
 ·grind
 exact .inr ⟨g,ZU,VY,Z5,ZS,(Z8.block g (hl g (by rw[Z5];rfl)).2).trans ZG,Zi⟩
def To(n:Nat):Value:=Z9 n
def LX(w:World)(v:Value)(xs:List Bool):Prop:=
 (v=Z1/\xs=[])\/∃b off sp ZU,v=.slice (some ⟨b,off,sp⟩) xs.length ZU/\xs.length<=ZU/\ZU<=maxLen/\(xs≠[]->sp=none/\b<w.heap.size/\∀i x,xs[i]?=some x->w.cell? ⟨b,off+i,none⟩=some (.bool x))
theorem LX.below{w w':World}{v:Value}{xs:List Bool}(h:LX w v xs)(Z8:Z6 w w'):LX w' v xs:=by
 rcases h with h|⟨b,off,sp,ZU,Z7,Z5,ZS,ZG⟩
 ·exact .inl h
 exact .inr ⟨b,off,sp,ZU,Z7,Z5,ZS,λZP=>⟨(ZG ZP).1,Vh (ZG ZP).2.1 Z8.size,λi x Z4=>(Z8.cell (p:=⟨b,off+i,none⟩) (ZG ZP).2.1).trans ((ZG ZP).2.2 i x Z4)⟩⟩
theorem LX.get{w:World}{v:Value}{xs:List Bool}(h:LX w v xs)(ZP:xs≠[]):
  ∃b off ZU,v=.slice (some ⟨b,off,none⟩) xs.length ZU/\xs.length<=ZU/\ZU<=maxLen/\b<w.heap.size/\∀i x,xs[i]?=some x->w.cell? ⟨b,off+i,none⟩=some (.bool x):=by
 rcases h with⟨_,h⟩|⟨b,off,sp,ZU,Z7,Z5,ZS,ZG⟩
 ·grind
 grind
theorem LX.slice{w:World}{v:Value}{xs:List Bool}(h:LX w v xs):∃a ZU,v=.slice a xs.length ZU:=by
 rcases h with⟨rfl,rfl⟩|⟨b,off,sp,ZU,rfl,_⟩
 ·simp
 simp
theorem ownsRow_shape{w:World}{base:Nat}{e:TypeId}{size:Nat}{v:Value}{n:Nat}{xs:List Value}(h:w.ownsRow base e size v n xs):∃a c,v=.slice a n c:=by
 rcases h.2 with⟨rfl,rfl⟩|⟨g,ZU,VY,rfl,_⟩
 ·simp
 simp
theorem Zv.setRow{w:World}{g:Nat}{t:TypeId}{cs:Array Value}(h:Zv w g t cs)(cs':Array Value):Zv (w.setRow g cs') g t cs':=setRow_heap w g cs cs' t (0,0) h
section
open Go.WideMaps
def Small(s:D.Sets):Prop:=∀x∈s,x<4611686018427387904
structure Fine(n:Nat)(t:List D.Sets):Prop where
 n40:n<=40
 len:∀s∈t,s.length=n
 small:∀s∈t,Small s
 once:t.Nodup
end
theorem aqg(S n:Nat)(h:S.testBit n=false):S+2^n=S ||| 2^n:=by
 have hp:2^(n+1)=2*2^n:=by omega
 have Ng:=Nat.two_pow_pos n;rw[Nat.testBit_eq_decide_div_mod_eq,Bv]at h;have Z8:S%2^(n+1)<2^n:=by
  rw[hp,Nat.mul_comm,Nat.mod_mul];have:S/2^n%2=0:=by omega
  rw[this];omega
 have hS:2^(n+1)*(S/2^(n+1))+S%2^(n+1)=S:=Nat.div_add_mod _ _;generalize S/2^(n+1)=a at hS;generalize S%2^(n+1)=b at hS Z8;have Z7:2^(n+1)*a+b=2^(n+1)*a ||| b:=Nat.two_pow_add_eq_or_of_lt (by omega) a
 have Z5:=Nat.two_pow_add_eq_or_of_lt Z8 1
 have ZS:2^(n+1)*a+(2^n*1+b)=2^(n+1)*a ||| (2^n*1+b):=Nat.two_pow_add_eq_or_of_lt (by omega) a
 grind
theorem arV(S n:Nat)(h:S.testBit n=true):S ||| 2^n=S:=by
 apply Nat.eq_of_testBit_eq
 grind
theorem mc(st:Bool)(v:Value)(l:List N.Item)(hl:l.length<=12):∀(d n S:Nat)(w:World),2*l.length+2-n<=d->n<=2*l.length->S<2^(2*l.length+1)->VA w v l->
  Calls prog 261 #[.agg #[.bool st,v],Z9 S,Z9 n] w λe w'=>e=.returned (Z9 ((S ||| N.clo l n:Nat):Int))/\Z6 w w':=by
 intro d
 induction d with
 |zero=>intro n S w Zm ZP hS Z2;omega
 |succ d XZ=>
  intro n S w Zm ZP hS Z2;have ai4:=bx XZ;have ZN:=bx Z2;have ZR:=bx (Zv.new w 252 #[.bool st,v]);have Ox:=bx (Xl w (.cells #[.bool st,v] 252));have Xe:=bx hS;have Rj:=apu _ _ hS (by omega);obtain⟨XH,ZU,rfl⟩:=Z2.slice;obtain⟨q,Zs⟩:∃q,2^n=q:=⟨_,rfl⟩
  have NB:q<=1099511627776:=by rw[<-Zs];exact Nat.pow_le_pow_right (n:=2) (by omega) (show n<=40 by omega)
  have Xy:=bx Zs;have Xf:=bx Zm;clear Z2 XZ hS Zs Zm
  go_in
  go_wp2_with fail;refine YW (Cd S n _ (by omega) (by omega)) ?_
  go_upto_if 10 with(fail)
  go_cut [1]from 9 to 14 (λs NL=>s=Z9 ((S ||| 2^n:Nat):Int)/\Box (Z6 w NL)/\Box (Zv NL w.heap.size 252 #[.bool st,.slice XH l.length ZU]))
  case first=>
   cases Z8:S.testBit n with
   |true=>
    have X9:=bx (arV S n Z8);clear Z8;go_wp2_with fail
    go_meet
    exact⟨by rw[X9.o],Ox,ZR⟩
   |false=>
    have X9:=bx (aqg S n Z8);clear Z8;go_wp2_with fail;refine YW (mi n _ (by omega)) ?_;rw[Xy.o];go_wp2_with fail
    go_meet
    exact⟨PZ (by rw[<-X9.o,Xy.o];simp),Ox,ZR⟩
  case rest=>
   obtain⟨rfl,Z8,XY⟩:=hcut;have YV:=XY.o.q0;have c1:=XY.o.q1
   by_cases hodd:n%2=1
   ·have Yq:=bx (N.au7 l n hodd);have t1:((n:Int)%2==0)=false:=by grind
    clear hodd
    go_wp2
    go_ret
    exact⟨by rw[Yq.o];rfl,Z8.o⟩
   have t1:((n:Int)%2==0)=true:=by grind
   by_cases xN:l.length<=n/2
   ·have Yq:=bx (N.aaZ l n xN);have t2:decide ((n:Int)/2<(l.length:Int))=false:=by grind
    clear hodd
    go_wp2
    go_ret
    exact⟨by rw[Yq.o];rfl,Z8.o⟩
   have t2:decide ((n:Int)/2<(l.length:Int))=true:=by grind
   obtain⟨x,Z4⟩:=Yg l (n/2) (by omega);obtain⟨g,off,XV,Y5,XL,Yi,XB,YX⟩:=(ZN.o.below Z8.o).get (by grind);obtain⟨rfl,rfl⟩:=XN Y5;obtain⟨W2,VM⟩:=YX _ x Z4;have Q2:=bx (show N.aJ l (n/2)=x.2 by grind[N.aJ]);unfold maxLen at Yi;have Zu:n/2<l.length:=by omega
   obtain⟨set,how⟩:=x
   by_cases ZI:how=0
   ·have Yq:=bx (N.aqK l n (Q2.o.trans ZI));subst ZI;clear Z4 Y5 YX hodd xN
    go_wp2
    go_ret
    exact⟨by rw[Yq.o];rfl,Z8.o⟩
   have Yq:=bx (N.aoz l n (by omega) Zu (by rw[Q2.o];exact ZI));have t3:(how==0)=false:=by grind
   have YE:=bx (ai4.o (n+2) (S ||| 2^n) wc (by have:=Xf.o;omega) (by omega) (atI S n _ Xe.o (by omega)) (ZN.o.below Z8.o));have ZE:=bx (show((n:Int)+2)=((n+2:Nat):Int) by omega);clear Z4 Y5 YX hodd xN;go_wp2_with fail;rw[ZE.o];refine X7 YE.o Z8.o λZB Zt=>?_
   go_wp2
   go_ret
   exact⟨by rw[Yq.o,<-Nat.or_assoc];rfl,Zt.o⟩
theorem al9(l:List N.Item)(S:Nat)(c:Int)(k:Nat)(Z3:k<=2*l.length):N.fill l S c 0 k<2^(2*l.length+1):=N.eY l S c 0 (Nat.two_pow_pos _) k Z3
theorem avc(st:Bool)(v:Value)(l:List N.Item)(ZT:Ss l=true)(S:Nat)(hS:S<4611686018427387904)(c:Int)(w:World)(Z2:VA w v l):
  Calls prog 302 #[.agg #[.bool st,v],Z9 S,Z9 c] w λe w'=>e=.returned (Z9 (N.step l st S c))/\Z6 w w':=by
 have hl:=EV ZT;have Vc:=bx ZT;have ZN:=bx Z2;have ZR:=bx (Zv.new w 252 #[.bool st,v]);have Ox:=bx (Xl w (.cells #[.bool st,v] 252));obtain⟨XH,ZU,rfl⟩:=Z2.slice;clear Z2 ZT
 go_in
 go_wp2_with fail
 go_loopw[7,8] (λo i wr=>∃k:Nat,k<=2*l.length/\i=Z9 k/\o=Z9 (N.fill l S c 0 k)/\Box (Zv wr w.heap.size 252 #[.bool st,.slice XH l.length ZU])/\Box (Z6 w wr)) (λ_ i _=>2*l.length-(intOf i).toNat)
 ·exact⟨0,by omega,rfl,rfl,ZR,Ox⟩
 obtain⟨k,Z3,rfl,rfl,XY,Z8⟩:=hrel;have YV:=XY.o.q0;have c1:=XY.o.q1;have S4:=XY.o.lt;have Yt:=bx (al9 l S c k Z3)
 by_cases Zu:k<2*l.length
 ·obtain⟨x,Z4⟩:=Yg l (k/2) (by omega);obtain⟨g,off,XV,Y5,XL,Yi,XB,YX⟩:=(ZN.o.below Z8.o).get (by grind);obtain⟨rfl,rfl⟩:=XN Y5;obtain⟨W2,VM⟩:=YX _ x Z4;obtain⟨C0,N5⟩:=aa4 Vc.o Z4;have Q2:=bx (show N.aJ l (k/2)=x.2/\N.setAt l (k/2)=x.1 by grind[N.aJ,N.setAt]);unfold maxLen at Yi;have aw5:k/2<l.length:=by omega
  have U2:=bx (N.ej l S c 0 k);obtain⟨set,how⟩:=x;have T0:=bx (show Z6 w (wr.alloc (.cells #[Z9 set,Z9 how] 389))from Z8.o.alloc Z8.o.size _);have rF:=bx (XY.o.alloc (.cells #[Z9 set,Z9 how] 389));have WO:=bx (λn ZP=>mc st (.slice (some ⟨g,off,none⟩) l.length ZU) l (by omega) _ n (N.fill l S c 0 k) (wr.alloc (.cells #[Z9 set,Z9 how] 389)) Ys ZP Yt.o (ZN.o.below T0.o));have Hb:=bx (N.aaA l k Zu);clear Z4 Y5 YX
  cases OW:S.testBit k with
  |false=>
   have IR:=bx OW;have Wh:=bx (show N.fill l S c 0 (k+1)=N.fill l S c 0 k by rw[U2.o,Y4];grind[N.goes]);clear OW;go_wp2_with fail;refine YW (Cd S k _ (by omega) hS) ?_;rw[IR.o]
   go_wp2
   go_roundw
   ·exact⟨k+1,Zu,by go_num,by rw[Wh.o],rF,T0⟩
   simp[intOf];omega
  |true=>
   have IR:=bx OW
   cases hhas:N.aV set c with
   |false=>
    have G1:=bx hhas;have Wh:=bx (show N.fill l S c 0 (k+1)=N.fill l S c 0 k by rw[U2.o,Y4];unfold N.goes;rw[OW,Q2.o.2,hhas];simp);clear OW hhas;go_wp2_with fail;refine YW (Cd S k _ (by omega) hS) ?_;rw[IR.o];go_wp2_with fail;refine YW (yj set c _) ?_;rw[G1.o]
    go_wp2
    go_roundw
    ·exact⟨k+1,Zu,by go_num,by rw[Wh.o],rF,T0⟩
    simp[intOf];omega
   |true=>
    have G1:=bx hhas;have Wh:=bx (show N.fill l S c 0 (k+1)=N.fill l S c 0 k ||| N.clo l (N.goto l k) by rw[U2.o,Y0];unfold N.goes;rw[OW,Q2.o.2,hhas];rfl);clear OW hhas
    by_cases hodd:k%2=1
    ·have t1:((k:Int)%2==1)=true:=by grind
     have NO:=bx (show N.goto l k=k-1 by grind[N.goto]);have ZE:=bx (show((k:Int)-1)=((k-1:Nat):Int) by omega);have Zx:1<=k:=by omega
     clear hodd;go_wp2_with fail;refine YW (Cd S k _ (by omega) hS) ?_;rw[IR.o];go_wp2_with fail;refine YW (yj set c _) ?_;rw[G1.o];go_wp2_with fail;rw[ZE.o];refine Y3 (WO.o (k-1) (by omega)) λZV ZZ=>?_
     have ZW:=Zw T0 ZZ;have Ux:=rF.ub ZZ;clear ZZ
     go_wp2
     go_roundw
     ·exact⟨k+1,Zu,by go_num,by rw[Wh.o,NO.o],Ux,ZW⟩
     grind[intOf]
    have t1:((k:Int)%2==1)=false:=by grind
    rcases(show how=0\/how=1\/how=2 by omega)with rfl|rfl|rfl
    focus
     have NO:=bx (show N.goto l k=k+2 by unfold N.goto;rw[Y4 hodd,Y0 Q2.o.1]);have pR:k%2=0:=by omega
     have ZE:=bx (show((k:Int)+2)=((k+2:Nat):Int) by omega);clear hodd;go_wp2_with fail;refine YW (Cd S k _ (by omega) hS) ?_;rw[IR.o];go_wp2_with fail;refine YW (yj set c _) ?_;rw[G1.o];go_wp2_with fail;rw[ZE.o];refine Y3 (WO.o (k+2) (by omega)) λZV ZZ=>?_
    rotate_left
    focus
     have NO:=bx (show N.goto l k=k by unfold N.goto;rw[Y4 hodd,Y4 (by rw[Q2.o.1];simp),Y0 Q2.o.1]);have pR:k%2=0:=by omega
     clear hodd;go_wp2_with fail;refine YW (Cd S k _ (by omega) hS) ?_;rw[IR.o];go_wp2_with fail;refine YW (yj set c _) ?_;rw[G1.o];go_wp2_with fail;refine Y3 (WO.o k (by omega)) λZV ZZ=>?_
    rotate_left
    focus
     have NO:=bx (show N.goto l k=k+1 by unfold N.goto;rw[Y4 hodd,Y4 (by rw[Q2.o.1];simp),Y4 (by rw[Q2.o.1];simp)]);have pR:k%2=0:=by omega
     have ZE:=bx (show((k:Int)+1)=((k+1:Nat):Int) by omega);clear hodd;go_wp2_with fail;refine YW (Cd S k _ (by omega) hS) ?_;rw[IR.o];go_wp2_with fail;refine YW (yj set c _) ?_;rw[G1.o];go_wp2_with fail;rw[ZE.o];refine Y3 (WO.o (k+1) (by omega)) λZV ZZ=>?_
    rotate_left
    all_goals
     have ZW:=Zw T0 ZZ;have Ux:=rF.ub ZZ;clear ZZ
     go_wp2
     go_roundw
     ·exact⟨k+1,Zu,by go_num,by rw[Wh.o,NO.o],Ux,ZW⟩
     grind[intOf]
 obtain rfl:k=2*l.length:=by omega
 have Vt:=Z8.o;have WO:=bx (mc st (.slice XH l.length ZU) l (by omega) _ 0 (N.fill l S c 0 (2*l.length)) wr Ys (by omega) Yt.o (ZN.o.below Vt));clear Vt
 cases st with
 |true=>
  go_wp2
  go_ret
  exact⟨by rfl,Z8.o⟩
 |false=>
  have Se:=bx (N.ajW l S c (N.clo l 0) (2*l.length));go_wp2_with fail;refine X7 WO.o Z8.o λZV ZW=>?_
  go_wp2
  go_ret
  exact⟨by rw[Se.o];rfl,ZW.o⟩
theorem asD(l:List N.Item):(2:Int)*((2^(2*l.length):Nat):Int)-1=(N.most l:Int):=by
 grind[N.most]
theorem rk(st:Bool)(v:Value)(l:List N.Item)(w:World)(Z2:VA w v l)(ZY:l.length<=16777216):
  Calls prog 301 #[.agg #[.bool st,v]] w λe w'=>e=.returned (Z9 (yk l))/\Z6 w w':=by
 have Yn:=Xl w (.cells #[.bool st,v] 252);have WI:=bx (uz st v l _ (Z2.below Yn) ZY);have ZR:=bx Yn;have WH:=bx (Zv.new w 252 #[.bool st,v]);unfold yk;obtain⟨XH,ZU,rfl⟩:=Z2.slice;clear Yn Z2
 cases ZT:Ss l with
 |true=>
  have Vc:=bx ZT;have hl:=EV ZT;obtain⟨q,Zs⟩:∃q,2^(2*l.length)=q:=⟨_,rfl⟩
  have NB:q<=1099511627776:=by rw[<-Zs];exact Nat.pow_le_pow_right (n:=2) (by omega) (show 2*l.length<=40 by omega)
  have Xy:=bx Zs;have W3:=bx (asD l);clear ZT Zs
  go_in
  go_wp2_with fail;refine WI.o.mono ?_;rintro e ZV ⟨rfl,ZZ⟩;rw[Vc.o];have Ux:=WH.o.below ZZ WH.o.lt;have c1:=Ux.q1;have ZW:=bx ZZ;clear ZZ Ux;go_wp2_with fail;have ZE:=bx (show(2*(l.length:Int))=((2*l.length:Nat):Int) by omega);rw[ZE.o];refine YW (mi (2*l.length) _ (by omega)) ?_;rw[Xy.o]
  go_wp2
  go_ret
  exact⟨SJ (by rw[<-W3.o,Xy.o]),bt ZR.o ZW.o⟩
 |false=>
  have Vc:=bx ZT;clear ZT
  go_in
  go_wp2_with fail;refine WI.o.mono ?_;rintro e ZV ⟨rfl,ZZ⟩;rw[Vc.o];have ZW:=bx ZZ;clear ZZ
  go_wp2
  go_ret
  exact⟨rfl,bt ZR.o ZW.o⟩
theorem auv(st:Bool)(v:Value)(l:List N.Item)(w:World)(Z2:VA w v l)(ZY:l.length<=16777216):
  Calls prog 184 #[.agg #[.bool st,v]] w λe w'=>e=.returned (qP l)/\Z6 w w':=by
 have Yn:=Xl w (.cells #[.bool st,v] 252);have WI:=bx (uz st v l _ (Z2.below Yn) ZY);have ZR:=bx Yn;have ZN:=bx Z2;have WH:=bx (Zv.new w 252 #[.bool st,v]);unfold qP
 cases ZT:Ss l with
 |true=>
  have Vc:=bx ZT;have hl:=EV ZT;clear ZT Yn Z2
  go_in
  go_wp2_with fail;refine WI.o.mono ?_;rintro e ZV ⟨rfl,ZZ⟩;rw[Vc.o];have Ux:=WH.o.below ZZ WH.o.lt;have YV:=Ux.q0;have c1:=Ux.q1;have ZW:=Zw ZR ZZ;have WO:=bx (mc st v l (by omega) _ 0 0 ZV Ys (by omega) (Nat.two_pow_pos _) (ZN.o.below ZW.o));have LP:=bx (Nat.zero_or (N.clo l 0));clear ZZ Ux;go_wp2_with fail;refine WO.o.mono ?_;rintro e ZB ⟨rfl,Zz⟩;rw[LP.o];have Zt:=Zw ZW Zz;clear Zz
  go_wp2
  go_ret2
  exact⟨rfl,Zt.o⟩
 |false=>
  have Vc:=bx ZT;clear ZT Yn Z2
  go_in
  go_wp2_with fail;refine WI.o.mono ?_;rintro e ZV ⟨rfl,ZZ⟩;rw[Vc.o];have ZW:=Zw ZR ZZ;clear ZZ
  go_wp2
  go_ret2
  exact⟨rfl,ZW.o⟩
theorem aeA{l:List N.Item}{x:Int}(ZT:Ss l=true)(h:JP l x=false):x<0\/(0<=x/\(N.most l:Int)<x):=by
 grind[JP]
theorem aeh{l:List N.Item}{x:Int}(h:JP l x=true):Ss l=true/\0<=x/\x<=N.most l:=by
 grind[JP]
theorem aui(st:Bool)(v:Value)(l:List N.Item)(x c:Int)(w:World)(Z2:VA w v l)(ZY:l.length<=16777216):
  Calls prog 262 #[.agg #[.bool st,v],Z9 x,Z9 c] w λe w'=>e=.returned (wk l st x c)/\Z6 w w':=by
 have Yn:=Xl w (.cells #[.bool st,v] 252);have WI:=bx (uz st v l _ (Z2.below Yn) ZY);have ZR:=bx Yn;have ZN:=bx Z2;have WH:=bx (Zv.new w 252 #[.bool st,v]);unfold wk
 cases ZT:Ss l with
 |false=>
  have Vc:=bx ZT;rw[show JP l x=false by grind[JP]];clear ZT Yn Z2
  go_in
  go_wp2_with fail;refine WI.o.mono ?_;rintro e ZV ⟨rfl,ZZ⟩;rw[Vc.o];have ZW:=Zw ZR ZZ;clear ZZ
  go_wp2
  go_ret2
  exact⟨rfl,ZW.o⟩
 |true=>
  have Vc:=bx ZT;have hl:=EV ZT;have hm:=abI l hl;have O8:=bx (show yk l=(N.most l:Int) by grind[yk])
  cases YB:JP l x with
  |true=>
   obtain⟨-,ZI,Z7⟩:=aeh YB;obtain⟨S,rfl⟩:=PY ZI;have azM:¬((N.most l:Int)<(S:Int)):=by omega
   clear ZT Yn Z2 YB
   go_in
   go_wp2_with fail;refine WI.o.mono ?_;rintro e ZV ⟨rfl,ZZ⟩;rw[Vc.o];have Ux:=WH.o.below ZZ WH.o.lt;have YV:=Ux.q0;have c1:=Ux.q1;have ZW:=Zw ZR ZZ;have Ux:=bx Ux;clear ZZ;go_wp2_with fail;refine(rk st v l _ (ZN.o.below ZW.o) ZY).mono ?_;rintro e ZB ⟨rfl,Zz⟩;rw[O8.o];have yF:=Ux.o.below Zz Ux.o.lt;have d0:=yF.q0;have d1:=yF.q1;have Zt:=Zw ZW Zz;clear Zz yF YV c1;go_wp2_with fail;refine X7 (avc st v l Vc.o S (by omega) c _ (ZN.o.below Zt.o)) Zt.o λZh YY=>?_
   go_wp2
   go_ret2
   exact⟨by simp,YY.o⟩
  |false=>
   have h:=aeA ZT YB;clear ZT Yn Z2 YB
   go_in
   go_wp2_with fail;refine WI.o.mono ?_;rintro e ZV ⟨rfl,ZZ⟩;rw[Vc.o];have Ux:=WH.o.below ZZ WH.o.lt;have YV:=Ux.q0;have c1:=Ux.q1;have ZW:=Zw ZR ZZ;clear ZZ Ux
   rcases h with h|⟨h,TB⟩
   ·go_wp2
    go_ret2
    exact⟨rfl,ZW.o⟩
   go_wp2_with fail;refine(rk st v l _ (ZN.o.below ZW.o) ZY).mono ?_;rintro e ZB ⟨rfl,Zz⟩;rw[O8.o];have Zt:=Zw ZW Zz;clear Zz
   go_wp2
   go_ret2
   exact⟨rfl,Zt.o⟩
theorem anh(st:Bool)(v:Value)(l:List N.Item)(x:Int)(w:World)(Z2:VA w v l)(ZY:l.length<=16777216):
  Calls prog 264 #[.agg #[.bool st,v],Z9 x] w λe w'=>e=.returned (.bool (sD l x))/\Z6 w w':=by
 have Yn:=Xl w (.cells #[.bool st,v] 252);have WI:=bx (uz st v l _ (Z2.below Yn) ZY);have ZR:=bx Yn;have ZN:=bx Z2;have WH:=bx (Zv.new w 252 #[.bool st,v]);unfold sD
 cases ZT:Ss l with
 |false=>
  have Vc:=bx ZT;have PS:=bx (show JP l x=false by grind[JP]);clear ZT Yn Z2
  go_in
  go_wp2_with fail;refine WI.o.mono ?_;rintro e ZV ⟨rfl,ZZ⟩;rw[Vc.o];have ZW:=Zw ZR ZZ;clear ZZ
  go_wp2
  go_ret
  exact⟨by rw[PS.o];rfl,ZW.o⟩
 |true=>
  have Vc:=bx ZT;have hl:=EV ZT;have hm:=abI l hl;have O8:=bx (show yk l=(N.most l:Int) by grind[yk])
  cases YB:JP l x with
  |true=>
   obtain⟨-,ZI,Z7⟩:=aeh YB;obtain⟨S,rfl⟩:=PY ZI;obtain⟨XH,ZU,rfl⟩:=Z2.slice;have ZE:=bx (show(2*(l.length:Int))=((2*l.length:Nat):Int) by omega);clear ZT Yn Z2 YB
   go_in
   go_wp2_with fail;refine WI.o.mono ?_;rintro e ZV ⟨rfl,ZZ⟩;rw[Vc.o];have Ux:=WH.o.below ZZ WH.o.lt;have YV:=Ux.q0;have c1:=Ux.q1;have ZW:=Zw ZR ZZ;have Ux:=bx Ux;clear ZZ;go_wp2_with fail;refine(rk st (.slice XH l.length ZU) l _ (ZN.o.below ZW.o) ZY).mono ?_;rintro e ZB ⟨rfl,Zz⟩;rw[O8.o];have yF:=Ux.o.below Zz Ux.o.lt;have d1:=yF.q1;have Zt:=Zw ZW Zz;clear Zz yF YV c1;go_wp2_with fail;rw[ZE.o];refine YW (Cd S (2*l.length) _ (by omega) (by omega)) ?_
   go_wp2
   go_ret
   exact⟨by rfl,Zt.o⟩
  |false=>
   have h:=aeA ZT YB;clear ZT Yn Z2 YB
   go_in
   go_wp2_with fail;refine WI.o.mono ?_;rintro e ZV ⟨rfl,ZZ⟩;rw[Vc.o];have Ux:=WH.o.below ZZ WH.o.lt;have YV:=Ux.q0;have c1:=Ux.q1;have ZW:=Zw ZR ZZ;clear ZZ Ux
   rcases h with h|⟨h,TB⟩
   ·go_wp2
    go_ret
    exact⟨rfl,ZW.o⟩
   go_wp2_with fail;refine(rk st v l _ (ZN.o.below ZW.o) ZY).mono ?_;rintro e ZB ⟨rfl,Zz⟩;rw[O8.o];have Zt:=Zw ZW Zz;clear Zz
   go_wp2
   go_ret
   exact⟨rfl,Zt.o⟩
theorem VQ(w:World)(n:Nat):Z6 w (w.drewN n):=below_drewN YU n
structure oL(A:Nat->Addr)(B:Nat)(W0 w:World):Prop where
 e:E A B w
 b:Z6 W0 w
 hB:B<=W0.heap.size
section
variable {A:Nat->Addr} {B:Nat} {W0 w w':World}
end
theorem atd{l:List N.Item}{st:Bool}{x c:Int}(h:JP l x=true):wk l st x c=.tuple #[Z9 (N.step l st x.toNat c),Z9 0]:=by grind[wk]
theorem aac{l:List N.Item}{S:Nat}(ZT:Ss l=true)(h:S<2^(2*l.length+1)):JP l (S:Int)=true:=by
 grind[JP,N.most]
section
open Go.Shelf
attribute[local go_sem] Oper.semAt_some
def Wi(rs:List D.Rule):List D.Side:=rs.map (·.1)
theorem HZ(rs:List D.Rule):(Wi rs).length=rs.length:=by simp[Wi]
theorem uK{rs:List D.Rule}{i:Nat}{x:D.Rule}(h:rs[i]?=some x):D.cK (Wi rs) i=x.1:=D.aqr (by grind[Wi])
theorem take_snoc'{α:Type}(xs:List α)(k:Nat)(x:α)(h:xs[k]?=some x):xs.take (k+1)=xs.take k++[x]:=by rw[Uo,h];rfl
theorem asK{w:World}{base n:Nat}{T:TypeId}{v:Value}{xs:List Nat}(h:w.ownsRow base T 1 v n (xs.map To))(ZP:n=xs.length):Y6 w v (xs.map λx:Nat=>(x:Int)):=
 Y6.au (n:=n) (by rw[IZ];exact h) (by grind)
end
def TF(w:World)(v:Value)(rows:List (List Int)):Prop:=
 (v=Z1/\rows=[])\/∃b off sp ZU,v=.slice (some ⟨b,off,sp⟩) rows.length ZU/\rows.length<=ZU/\ZU<=maxLen/\(rows≠[]->sp=none/\b<w.heap.size/\∀i r,rows[i]?=some r->∃x,w.cell? ⟨b,off+i,none⟩=some x/\Y6 w x r)
theorem TF.nil{w:World}:TF w Z1 []:=.inl ⟨rfl,rfl⟩
theorem TF.below{w w':World}{v:Value}{rows:List (List Int)}(h:TF w v rows)(Z8:Z6 w w'):TF w' v rows:=by
 rcases h with h|⟨b,off,sp,ZU,Z7,Z5,ZS,ZG⟩
 ·exact .inl h
 refine .inr ⟨b,off,sp,ZU,Z7,Z5,ZS,λZP=>⟨(ZG ZP).1,Vh (ZG ZP).2.1 Z8.size,λi r ZT=>?_⟩⟩;obtain⟨x,Z4,hi⟩:=(ZG ZP).2.2 i r ZT;exact⟨x,(Z8.cell (p:=⟨b,off+i,none⟩) (ZG ZP).2.1).trans Z4,hi.below Z8⟩
theorem TF.get{w:World}{v:Value}{rows:List (List Int)}(h:TF w v rows)(ZP:rows≠[]):
  ∃b off ZU,v=.slice (some ⟨b,off,none⟩) rows.length ZU/\rows.length<=ZU/\ZU<=maxLen/\b<w.heap.size/\∀i r,rows[i]?=some r->∃x,w.cell? ⟨b,off+i,none⟩=some x/\Y6 w x r:=by
 rcases h with⟨_,h⟩|⟨b,off,sp,ZU,Z7,Z5,ZS,ZG⟩
 ·grind
 grind
theorem TF.slice{w:World}{v:Value}{rows:List (List Int)}(h:TF w v rows):∃a ZU,v=.slice a rows.length ZU:=by
 rcases h with⟨rfl,rfl⟩|⟨b,off,sp,ZU,rfl,_⟩
 ·simp
 simp
abbrev D.ao:=List (List Int)×List Int
def Oh(w:World)(v:Value)(M:D.ao):Prop:=∃Zo Za,v=.agg #[Zo,Za]/\TF w Zo M.1/\Y6 w Za M.2
theorem Oh.below{w w':World}{v:Value}{M:D.ao}(h:Oh w v M)(Z8:Z6 w w'):Oh w' v M:=by
 obtain⟨Zo,Za,Z7,Z5,ZS⟩:=h;exact⟨Zo,Za,Z7,Z5.below Z8,ZS.below Z8⟩
section
variable {YR w w':World} {b m n k:Nat} {Y2:Value} {t:List D.Sets} {next:List (List Nat)} {fits:List Nat} {Zo Za YI:Value} {WM:List Value}
end
section
open Go.Shelf
attribute[local go_sem] Oper.semAt_some
def atB(rs:List D.Rule):Prop:=∀x∈rs,Ss x.1.2=true
def mS:List Nat:=[14,10]
def Ed(A:Nat->Addr)(B:Nat)(w:World):Prop:=Env mS 448 A B w
theorem Ed.below{A:Nat->Addr}{B:Nat}{w w':World}(h:Ed A B w)(Z8:Below B w w'):Ed A B w':=Env.below h Z8
def anl(g:Nat):Int:=if g=14 then 90 else 100
theorem ann(A:Nat->Addr)(B:Nat)(g:Nat)(ZH:g∈mS)(w:World)(YN:Ed A B w):
  Calls prog 276 #[PE A g] w λe w'=>e=.returned (Z9 (anl g))/\w=w':=by
 have ZI:=YN.var 14 (by decide);have Z7:=YN.var 10 (by decide);have YE:=bx (λk(Z3:k∈mS)=>w2 YN g k ZH Z3);clear YN;unfold PE
 rcases T7.1 ZH with rfl|ZH
 ·go_in
  go_wp2_with fail;refine YW (YE.o 14 (by decide)) ?_
  go_wp2
  go_ret
  exact⟨rfl,rfl⟩
 obtain rfl:g=10:=by grind
 go_in
 go_wp2_with fail;refine YW (YE.o 14 (by decide)) ?_;go_wp2_with fail;refine YW (YE.o 10 (by decide)) ?_
 go_wp2
 go_ret
 exact⟨rfl,rfl⟩
theorem Cf{P:Program}{fn:Func}{p u:Tmp}{ty:TypeId}(h:fn.results=#[.cell p ty,.tmp u])(tmps:Array Value)(w:World)(g:Nat)(t:TypeId)(cs:Array Value)(HA:Nat×Nat)(d:TypeDesc)(hp:tmps.getD p undef=Zn g)(ZH:w.heap[g]?=some (.cells cs t HA))(hu:P.underlying ty=some d)(Zm:(match d with|.struct _|.array _ _=>true|_=>false)=true)(hi:(P.info? ty).map (·.size)=some cs.size):
  (results fn tmps).run P w=.ok (.tuple #[.agg cs,tmps.getD u undef]) w:=by
 rw[results_cell_tmp h,hp];simp[asAddr,run_loadVar_row w g t ty cs HA d ZH hu Zm hi,Result.andThen]
theorem sz:(prog.info? 29).map (·.size)=some 2:=by rfl
def qy(b:D.b8):D.ao:=(b.next.map λr=>r.map λx:Nat=>(x:Int),b.fits.map λx:Nat=>(x:Int))
def mg(L1:List D.Side)(n:Nat):D.ao:=qy (D.build L1 n 300)
theorem ajB{w:World}{Zo Za:Value}{b:D.b8}(Z7:TF w Zo (b.next.map λr=>r.map λx:Nat=>(x:Int)))(Z5:Y6 w Za (b.fits.map λx:Nat=>(x:Int))):Oh w (.agg #[Zo,Za]) (qy b):=⟨Zo,Za,rfl,Z7,Z5⟩
def E9(rs:List D.Rule)(n:Int):Int:=if LV n rs=true then(if D.da (Wi rs) n.toNat=true then 0 else 100)else 90
def HM(rs:List D.Rule)(n:Int):D.ao:=if(LV n rs&&D.da (Wi rs) n.toNat)=true then mg (Wi rs) n.toNat else([],[])
def aea(rs:List D.Rule)(n:Int)(w:World)(e:Ending)(w':World):Prop:=Z6 w w'/\∃Rq,e=.returned (.tuple #[Rq,Z9 (E9 rs n)])/\Oh w' Rq (HM rs n)
theorem hP(w:World):Oh w (.agg #[Z1,Z1]) ([],[]):=⟨_,_,rfl,TF.nil,Y6.nil⟩
theorem uQ{n:Int}{rs:List D.Rule}(h:LV n rs=true):1<=n/\n<=32/\rs.length<=40/\atB rs:=by
 unfold LV at h;simp only[Vm,SS]at h;exact⟨h.1.1.1,h.1.1.2,h.1.2,λx Z4=>aj2 (atV (QG.1 h.2 x Z4))⟩
end
theorem Po(w:World)(n:Nat):Z6 w (w.drewN n):=⟨rfl,rfl,rfl,Wq _,λ_ _=>rfl⟩
theorem aeJ{xs Vi:List Int}{k:Nat}{x:Int}(h:xs.take k=Vi.take k)(Z4:xs[k]?=some x)(ZJ:Vi[k]?=some x):xs.take (k+1)=Vi.take (k+1):=by
 rw[Uo,Uo,h,Z4,ZJ]
theorem ade{xs Vi:List Int}{k:Nat}{x y:Int}(Z4:xs[k]?=some x)(ZJ:Vi[k]?=some y)(h:x≠y):decide (xs=Vi)=false:=by
 grind
theorem ack{xs Vi:List Int}(h:xs.length≠Vi.length):decide (xs=Vi)=false:=by
 grind
theorem apo(a b:Value)(xs Vi:List Int)(w:World)(YZ:Y6 w a xs)(Z8:Y6 w b Vi)(ZY:xs.length<=16777216)(_:Vi.length<=16777216):
  Calls prog 266 #[a,b] w λe w'=>e=.returned (.bool (decide (xs=Vi)))/\Z6 w w':=by
 by_cases Ty:xs.length=Vi.length
 ·have vD:=bx YZ;have wS:=bx Z8;obtain⟨XH,ca,rfl⟩:=YZ.slice;obtain⟨qh,YQ,Z2⟩:=Z8.slice;rw[<-Ty]at Z2;subst Z2;have Jl:=bx Ty;clear YZ Z8 Ty
  go_in
  go_wp2
  go_loopw[5] (λi wr=>∃k n:Nat,k<=xs.length/\i=Z9 k/\wr=w.drewN n/\Box (xs.take k=Vi.take k)) (λi _=>xs.length-(intOf i).toNat)
  ·exact⟨0,0,by omega,rfl,rfl,⟨rfl⟩⟩
  obtain⟨k,n,Z3,rfl,rfl,YN⟩:=hrel
  by_cases Zu:k<xs.length
  ·obtain⟨x,Z4⟩:=Yg xs k Zu;obtain⟨y,ZJ⟩:=Yg Vi k (by rw[<-Jl.o];omega);obtain⟨XD,UC,BT,UV,N9,RK,R0,T3⟩:=vD.o.get (by grind);obtain⟨rfl,rfl⟩:=XN UV;obtain⟨ll,VZ,Dn,Yn,ZZ,Zz,Zb,Yf⟩:=wS.o.get (by grind);obtain⟨rfl,rfl⟩:=XN Yn;have c1:=T3 k x Z4;have c2:=Yf k y ZJ;have YD:=bx Z4;have Wn:=bx ZJ;rw[<-Jl.o]at ZZ;unfold maxLen at RK Zz;clear UV T3 Yn Yf Z4 ZJ
   by_cases Hm:x=y
   ·subst Hm
    go_wp2
    go_region
    go_wp2
    go_roundw
    ·exact⟨k+1,n+1,Zu,by go_num,rfl,⟨aeJ YN.o YD.o Wn.o⟩⟩
    grind[intOf]
   have Yt:=bx (ade YD.o Wn.o Hm);have Zs:=Sz.2 Hm
   go_wp2
   go_region
   go_wp2
   all_goals go_ret
   all_goals exact⟨YG (by rw[Yt.o]),Po w (n+1)⟩
  obtain rfl:k=xs.length:=by omega
  have Y8:=bx (show decide (xs=Vi)=true by rw[decide_eq_true_iff];have:=YN.o;rwa[OR,Jl.o,OR]at this)
  go_wp2
  go_ret
  exact⟨YG (by rw[Y8.o]),Po w n⟩
 have Yt:=bx (ack Ty);obtain⟨XH,ca,rfl⟩:=YZ.slice;obtain⟨qh,YQ,rfl⟩:=Z8.slice;have Zs:((xs.length:Int)==(Vi.length:Int))=false:=Sz.2 (by omega);clear YZ Z8
 go_in
 go_wp2
 all_goals go_ret
 all_goals exact⟨YG (by rw[Yt.o]),Po w 0⟩
theorem at7(a b:Value)(xs Vi:List Int)(w:World)(YZ:Y6 w a xs)(Z8:Y6 w b Vi)(ZY:xs.length<=16777216)(_:Vi.length<=16777216):
  Calls prog 263 #[a,b] w λe w'=>e=.returned (.bool (decide (xs=Vi)))/\Z6 w w':=by
 by_cases Ty:xs.length=Vi.length
 ·have vD:=bx YZ;have wS:=bx Z8;obtain⟨XH,ca,rfl⟩:=YZ.slice;obtain⟨qh,YQ,Z2⟩:=Z8.slice;rw[<-Ty]at Z2;subst Z2;have Jl:=bx Ty;clear YZ Z8 Ty
  go_in
  go_wp2
  go_loopw[5] (λi wr=>∃k n:Nat,k<=xs.length/\i=Z9 k/\wr=w.drewN n/\Box (xs.take k=Vi.take k)) (λi _=>xs.length-(intOf i).toNat)
  ·exact⟨0,0,by omega,rfl,rfl,⟨rfl⟩⟩
  obtain⟨k,n,Z3,rfl,rfl,YN⟩:=hrel
  by_cases Zu:k<xs.length
  ·obtain⟨x,Z4⟩:=Yg xs k Zu;obtain⟨y,ZJ⟩:=Yg Vi k (by rw[<-Jl.o];omega);obtain⟨XD,UC,BT,UV,N9,RK,R0,T3⟩:=vD.o.get (by grind);obtain⟨rfl,rfl⟩:=XN UV;obtain⟨ll,VZ,Dn,Yn,ZZ,Zz,Zb,Yf⟩:=wS.o.get (by grind);obtain⟨rfl,rfl⟩:=XN Yn;have c1:=T3 k x Z4;have c2:=Yf k y ZJ;have YD:=bx Z4;have Wn:=bx ZJ;rw[<-Jl.o]at ZZ;unfold maxLen at RK Zz;clear UV T3 Yn Yf Z4 ZJ
   by_cases Hm:x=y
   ·subst Hm
    go_wp2
    go_region
    go_wp2
    go_roundw
    ·exact⟨k+1,n+1,Zu,by go_num,rfl,⟨aeJ YN.o YD.o Wn.o⟩⟩
    grind[intOf]
   have Yt:=bx (ade YD.o Wn.o Hm);have Zs:=Sz.2 Hm
   go_wp2
   go_region
   go_wp2
   all_goals go_ret
   all_goals exact⟨YG (by rw[Yt.o]),Po w (n+1)⟩
  obtain rfl:k=xs.length:=by omega
  have Y8:=bx (show decide (xs=Vi)=true by rw[decide_eq_true_iff];have:=YN.o;rwa[OR,Jl.o,OR]at this)
  go_wp2
  go_ret
  exact⟨YG (by rw[Y8.o]),Po w n⟩
 have Yt:=bx (ack Ty);obtain⟨XH,ca,rfl⟩:=YZ.slice;obtain⟨qh,YQ,rfl⟩:=Z8.slice;have Zs:((xs.length:Int)==(Vi.length:Int))=false:=Sz.2 (by omega);clear YZ Z8
 go_in
 go_wp2
 all_goals go_ret
 all_goals exact⟨YG (by rw[Yt.o]),Po w 0⟩
section
open Go.Shelf
attribute[local go_sem] Oper.semAt_some
def MA(n:Nat)(c:Int):Nat:=if 0<=c/\c<n then c.toNat else n
theorem vj(n:Nat)(c:Int):MA n c<=n:=by grind[MA]
theorem atr(b:Nat)(Z8:b<9223372036854775808):bits .xor .i64 0 (b:Int)=(b:Int):=by
 show IntKind.i64.wrap ((BitVec.ofInt 64 (0:Int) ^^^ BitVec.ofInt 64 (b:Int)).toNat:Int)=_
 rw[BitVec.toNat_xor,wt b Z8,show(BitVec.ofInt 64 0).toNat=0 from rfl,Nat.zero_xor,QN];omega
theorem apG(n:Nat)(c:Int)(h:n<=32):N.aV ((2^n-1:Nat):Int) c=decide (0<=c/\c<n):=by
 unfold N.aV;have Z7:2^n<=2^32:=Nat.pow_le_pow_right (by omega) h;have Z5:=Nat.two_pow_pos n;rw[Lx];simp only[Vm,SS,RU,Nat.testBit_two_pow_sub_one]
 omega
theorem arW(n:Nat)(w:World)(Z7:1<=n)(Z5:n<=32):
  Calls prog 308 #[Z9 0,Z9 n] w λe w'=>e=.returned (Z9 ((2^n-1:Nat):Int))/\w=w':=by
 have Z8:2^n<=2^32:=Nat.pow_le_pow_right (by omega) Z5;have hp:=Nat.two_pow_pos n;have Xe:=bx (show JS (n:Int) 0=true by rw[show(0:Int)=((0:Nat):Int)from rfl,ow n 0 Z7 Z5];grind);have TW:=bx (show wrap64 ((2:Int)^n)=(2:Int)^n by rw[aaI];generalize 2^n=z at Z8 hp⊢;exact IntWalk.wrap64_in _ (by omega));have R9:=bx (show wrap64 ((2:Int)^n-1)=((2^n-1:Nat):Int) by rw[aaI];generalize 2^n=z at Z8 hp⊢;rw[show((z:Int)-1)=((z-1:Nat):Int) by omega];exact IntWalk.wrap64_in _ (by omega));have YD:=bx (atr (2^n-1) (by omega));clear Z8 hp
 go_in
 go_wp2_with (go_at_call 324;refine YW (hQ _ _ _) ?_;rw[Xe.o])
 go_ret
 refine⟨SJ ?_,rfl⟩;rw[TW.o,R9.o,YD.o]
theorem avE(c:Int)(n:Nat)(w:World)(Z7:1<=n)(Z5:n<=32):
  Calls prog 275 #[Z9 c,Z9 n] w λe w'=>e=.returned (Z9 (MA n c))/\w=w':=by
 have ZE:=bx (arW n w Z7 Z5);have Uy:=apG n c Z5
 by_cases ZL:0<=c/\c<n
 focus
  have Q2:=bx (Uy.trans (Yh ZL));have Yq:=bx (show c=(MA n c:Int) by grind[MA])
 rotate_left
 focus
  have Q2:=bx (Uy.trans (Yp ZL));have Yq:=bx (show(n:Int)=(MA n c:Int) by grind[MA])
 rotate_left
 all_goals
  clear Uy ZL
  go_in
  go_wp2_with fail;refine YW ZE.o ?_;go_wp2_with (go_at_call 309;refine YW (gL _ _ _) ?_;rw[Q2.o])
  go_ret
  exact⟨SJ Yq.o,rfl⟩
theorem akX(n:Nat)(w:World)(ZP:n<=40):
  Calls prog 265 #[Z9 n] w λe w'=>e=.returned (Z9 ((2^n:Nat):Int))/\w=w':=by
 go_in
 go_wp2
 go_loop[4,3] (λi o=>∃(k:Nat)(x:Int),k<=n/\i=Z9 k/\o=Z9 x/\0<=x/\x<=1099511627776/\Box (x=2^k)) (λi _=>n-(intOf i).toNat)
 ·exact⟨0,1,by omega,rfl,rfl,by omega,by omega,⟨rfl⟩⟩
 obtain⟨k,x,Z3,rfl,rfl,Hn,KX,Z4⟩:=hrel
 by_cases Zu:k<n
 ·have Z5:=qp (k+1) (by omega);have YD:=bx (show 2*x=2^(k+1) by rw[Z4.o,Int.pow_succ];omega);have Wn:=bx (show 2*x<=1099511627776 by rw[YD.o];exact Z5);clear Z5
  go_wp2
  go_round
  ·exact⟨k+1,2*x,Zu,by go_num,rfl,by omega,Wn.o,YD⟩
  grind[intOf]
 obtain rfl:k=n:=by omega
 go_wp2
 go_ret
 exact⟨by rw[Z4.o];simp,rfl⟩
def zs(S:List Nat):List Int:=S.map λx:Nat=>(x:Int)
theorem Fp(S:List Nat):(zs S).length=S.length:=by simp[zs]
theorem nt{S:List Nat}{i x:Nat}(h:S[i]?=some x):(zs S)[i]?=some (x:Int):=by grind[zs]
theorem akd{S T:List Nat}(h:zs S=zs T):S=T:=by
 unfold zs at h;exact List.map_inj_right (λa b h=>by omega) |>.1 h
theorem adZ(rs:List D.Side)(S:D.Sets)(k:Nat)(h:k<=40):D.bf rs S k<=1099511627776:=by
 have:=D.fo rs S k;have Z5:2^k<=2^40:=Nat.pow_le_pow_right (by omega) h;omega
theorem apz(Y2 Hj:Value)(rs:List D.Rule)(S:D.Sets)(w:World)(WS:TQ w Y2 rs)(hl:rs.length<=40)(ZT:∀x∈rs,Ss x.1.2=true)(hS:D.Good (Wi rs) S)(Z2:Y6 w Hj (zs S)):
  Calls prog 187 #[Y2,Hj] w λe w'=>e=.returned (Z9 (D.bf (Wi rs) S rs.length))/\Z6 w w':=by
 have ZK:=bx WS;have Xx:=bx ZT;have Xe:=bx hS;have ZN:=bx Z2;have Xa:S.length=rs.length:=by rw[hS.1,HZ]
 obtain⟨XH,ZU,rfl⟩:=WS.slice;obtain⟨Lv,ahP,rfl⟩:=Z2.slice;rw[Fp,Xa]at ZN⊢;clear WS ZT hS Z2
 go_in
 go_wp2_with fail
 go_loopw[5,6] (λo i wr=>∃k:Nat,k<=rs.length/\i=Z9 k/\o=Z9 (D.bf (Wi rs) S k)/\Box (Z6 w wr)) (λ_ i _=>rs.length-(intOf i).toNat)
 ·exact⟨0,by omega,rfl,rfl,⟨Below.refl _ _⟩⟩
 obtain⟨k,Z3,rfl,rfl,Xk⟩:=hrel
 by_cases Zu:k<rs.length
 ·obtain⟨x,Z4⟩:=Yg rs k Zu;obtain⟨SX,off,XV,Y5,XL,Yi,XB,YX⟩:=(ZK.o.below Xk.o).get (by grind);obtain⟨rfl,rfl⟩:=XN Y5;obtain⟨Vj,Ym,Vl,W2,VM,Ph,Is,QI,N7⟩:=YX k x Z4;have Tx:=Xx.o x (Xh Z4);have zV:=Xe.o.2 k (by grind[HZ]);rw[uK Z4]at zV;have xd:S[k]?=some (S.getD k 0):=by
   grind
  obtain⟨QM,aut,akp,Bi,jG,jF,axI,vZ⟩:=(ZN.o.below Xk.o).get (by grind[Fp]);rw[Fp,Xa]at Bi jG;obtain⟨rfl,rfl⟩:=XN Bi;have cs:=vZ k _ (nt xd);have uR:=bx (show sD x.1.2 (S.getD k 0:Nat)=D.ef (Wi rs) S k by unfold sD D.ef;rw[aac Tx zV,RU,uK Z4];rfl);have uF:=bx (λW(h:Z6 wr W)=>anh x.1.1 Vj x.1.2 (S.getD k 0:Nat) W (QI.below h) (by have:=EV Tx;omega));obtain⟨x8,YJ,rfl⟩:=QI.slice;obtain⟨Dq,X5,rfl⟩:=N7.slice;generalize S.getD k 0=sk at *;unfold maxLen at Yi jF;obtain⟨⟨KL,LB⟩,⟨str,LA⟩,Mc⟩:=x;simp only at Vl W2 VM Ph Is uR uF;clear Z4 Y5 YX QI N7 Tx zV xd Bi vZ;have aft:k<40:=by omega
  have MI:=adZ (Wi rs) S k (by omega);have EJ:=adZ (Wi rs) S (k+1) (by omega)
  cases Zm:D.ef (Wi rs) S k with
  |true=>
   have Xf:=bx Zm;have OE:=bx (show D.bf (Wi rs) S k+2^k=D.bf (Wi rs) S (k+1) by rw[D.amL];unfold D.bf;rw[Y0 Zm];cases k <;> rfl);clear Zm;go_wp2_with fail
   go_region_with ((go_at_call 264;refine(uF.o _ ?_).mono ?_;exact below_drewN YU _;rintro e Zh ⟨rfl,Zb⟩;rw[uR.o,Xf.o];have YY:=bx (show Z6 wr Zh from Below.mono ⟨Zb.os,Zb.tape,Zb.output,Zb.size,Zb.block⟩ Ys);clear Zb))
   all_goals
    have mF:=bx (bt Xk.o YY.o);go_wp2_with (go_at_call 265;refine YW (akX k _ (by omega)) ?_)
    have aoD:=bx (show(D.bf (Wi rs) S k:Int)+2^k=(D.bf (Wi rs) S (k+1):Int) by rw[<-OE.o];simp)
    go_roundw
    ·exact⟨k+1,Zu,by go_num,by rw[aoD.o];exact PZ (IntWalk.wrap64_in _ (by omega)),mF⟩
    grind[intOf]
  |false=>
   have Xf:=bx Zm;have OE:=bx (show D.bf (Wi rs) S (k+1)=D.bf (Wi rs) S k by rw[D.bf,Y4 (by grind)]);clear Zm;go_wp2_with fail
   go_region_with ((go_at_call 264;refine(uF.o _ ?_).mono ?_;exact below_drewN YU _;rintro e Zh ⟨rfl,Zb⟩;rw[uR.o,Xf.o];have YY:=bx (show Z6 wr Zh from Below.mono ⟨Zb.os,Zb.tape,Zb.output,Zb.size,Zb.block⟩ Ys);clear Zb))
   all_goals
    have mF:=bx (bt Xk.o YY.o)
    go_wp2
    go_roundw
    ·exact⟨k+1,Zu,by go_num,by rw[OE.o],mF⟩
    grind[intOf]
 obtain rfl:k=rs.length:=by omega
 go_wp2
 go_ret
 exact⟨rfl,Xk.o⟩
theorem rW:Pushes prog 27 2 8:=.mk' (z:=Z9 0) underlying27 (by rfl) rfl
theorem OJ:Pushes prog 22 3 8:=.mk' (z:=Z9 0) underlying22 (by rfl) rfl
theorem wB{w:World}{base n:Nat}{T:TypeId}{v:Value}{S:List Nat}(h:w.ownsRow base T 1 v n (S.map To))(ZP:n=S.length):Y6 w v (zs S):=asK h ZP
theorem aoL{rs:List D.Side}{S:D.Sets}{c:Int}{k:Nat}(h:k<rs.length):(D.bJ rs S c).take (k+1)=(D.bJ rs S c).take k++[D.dV rs S c k]:=take_snoc' _ _ _ (D.aoY rs S c k h)
theorem aoq(Y2 Hj:Value)(rs:List D.Rule)(S:D.Sets)(c:Int)(w:World)(WS:TQ w Y2 rs)(hl:rs.length<=40)(ZT:∀x∈rs,Ss x.1.2=true)(hS:D.Good (Wi rs) S)(Z2:Y6 w Hj (zs S)):
  Calls prog 185 #[Y2,Hj,Z9 c] w λe w'=>Z6 w w'/\∃v,e=.returned v/\w'.ownsRow w.heap.size 2 1 v rs.length ((D.bJ (Wi rs) S c).map To):=by
 have ZK:=bx WS;have Xx:=bx ZT;have Xe:=bx hS;have ZN:=bx Z2;have Xa:S.length=rs.length:=by rw[hS.1,HZ]
 obtain⟨XH,ZU,rfl⟩:=WS.slice;obtain⟨Lv,ahP,rfl⟩:=Z2.slice;rw[Fp,Xa]at ZN⊢;obtain⟨T,Yo⟩:∃T,D.bJ (Wi rs) S c=T:=⟨_,rfl⟩
 have Y8:=bx (λ(k:Nat)(h:k<rs.length)=>show(T.take (k+1)).map To=(T.take k).map To++[To (D.dV (Wi rs) S c k)] by rw[<-Yo,aoL (by grind[HZ]),T9];rfl);have QQ:=bx (show T.length=rs.length by rw[<-Yo,D.aa0,HZ]);rw[Yo];clear WS ZT hS Z2 Yo;have azo:=bx ((Sep.start w).aH w.heap.size 1 2)
 go_in
 go_wp2_with fail
 go_loopw[7,8] (λo i wr=>∃k:Nat,k<=rs.length/\i=Z9 k/\Box (Sep [Pc.row w.heap.size 2 1 o k ((T.take k).map To),Pc.old w.heap.size w] wr)) (λ_ i _=>rs.length-(intOf i).toNat)
 ·grind
 obtain⟨k,Z3,rfl,YC⟩:=hrel;have X3:=bx (show Z6 w wr from YC.o.bel (by simp))
 by_cases Zu:k<rs.length
 ·obtain⟨x,Z4⟩:=Yg rs k Zu;obtain⟨SX,off,XV,Y5,XL,Yi,XB,YX⟩:=(ZK.o.below X3.o).get (by grind);obtain⟨rfl,rfl⟩:=XN Y5;obtain⟨Vj,Ym,Vl,W2,VM,Ph,Is,QI,N7⟩:=YX k x Z4;have Tx:=Xx.o x (Xh Z4);have zV:=Xe.o.2 k (by grind[HZ]);rw[uK Z4]at zV;have xd:S[k]?=some (S.getD k 0):=by
   grind
  obtain⟨QM,aut,akp,Bi,jG,jF,axI,vZ⟩:=(ZN.o.below X3.o).get (by grind[Fp]);rw[Fp,Xa]at Bi jG;obtain⟨rfl,rfl⟩:=XN Bi;have cs:=vZ k _ (nt xd);have U1:=bx (show(T.take (k+1)).map To=(T.take k).map To++[Value.int .i64 ((N.step x.1.2 x.1.1 (S.getD k 0) c:Nat):Int)] by
   rw[Y8.o k Zu];unfold D.dV;rw[uK Z4];rfl)
  have Uv:=bx (show wk x.1.2 x.1.1 (S.getD k 0:Nat) c=.tuple #[Z9 (N.step x.1.2 x.1.1 (S.getD k 0) c),Z9 0] by rw[atd (aac Tx zV),RU]);have Ry:=bx (λW(h:Z6 wr W)=>aui x.1.1 Vj x.1.2 (S.getD k 0:Nat) c W (QI.below h) (by have:=EV Tx;omega));obtain⟨x8,YJ,rfl⟩:=QI.slice;obtain⟨Dq,X5,rfl⟩:=N7.slice;generalize S.getD k 0=sk at *;unfold maxLen at Yi jF;obtain⟨⟨KL,LB⟩,⟨str,LA⟩,Mc⟩:=x;simp only at Vl W2 VM Ph Is U1 Uv Ry;clear Z4 Y5 YX QI N7 Tx zV xd Bi vZ;go_wp2_with fail
  go_region_with ((go_at_call 262;refine(Ry.o _ ?_).mono ?_;exact below_drewN YU _;rintro e Zh ⟨rfl,Zb⟩;rw[Uv.o];have YY:=bx (show Z6 wr Zh from Below.mono ⟨Zb.os,Zb.tape,Zb.output,Zb.size,Zb.block⟩ Ys);clear Zb))
  all_goals
   have WT:=bx (YC.o.below YY.o);have BK:=XJ X3.o.size YY.o.size;go_wp2_with (at_builtin;refine PC rfl _ _ 27 rfl rW WT.o 0 rfl rfl rfl rfl (by omega) (by omega) BK ?_;rintro Zy YL Uh -)
   rw[<-U1.o]at Uh;have Wp:=bx Uh;clear Uh
   go_wp2
   go_roundw
   ·exact⟨k+1,Zu,by go_num,Wp⟩
   grind[intOf]
 obtain rfl:k=rs.length:=by omega
 have Yt:=bx (show T.take rs.length=T by rw[<-QQ.o,OR])
 go_wp2
 go_ret
 refine⟨X3.o,_,rfl,?_⟩;have:=YC.o.row 0 rfl
 rwa[Yt.o]at this
theorem akQ{t:List D.Sets}{s:D.Sets}{k:Nat}(h:s∉t.take k)(Z3:t[k]?=some s):D.place t s=k:=by
 unfold D.place;have Zu:=(R7 Z3).1;have Z7:List.idxOf s t<=k:=by
  rcases SM k (List.idxOf s t)with ZS|ZS
  ·simp_all[List.idxOf]
  exact ZS
 rcases SM (List.idxOf s t) k with Z5|Z5
 ·grind[List.mem_take_iff_getElem]
 omega
theorem anH(qk Hj:Value)(t:List D.Sets)(s:D.Sets)(w:World)(PA:TF w qk (t.map zs))(ZY:t.length<=16777216)(ahk:∀x∈t,x.length<=40)(Z0:s.length<=40)(Z2:Y6 w Hj (zs s)):
  Calls prog 186 #[qk,Hj] w λe w'=>e=.returned (Z9 (D.place t s))/\Z6 w w':=by
 have WO:=bx PA;have ZN:=bx Z2;have LP:=bx ahk;obtain⟨XH,ZU,rfl⟩:=PA.slice;obtain⟨Lv,ahP,rfl⟩:=Z2.slice;rw[X4]at WO⊢;clear PA Z2 ahk
 go_in
 go_wp2_with fail
 go_loopw[5] (λi wr=>∃k:Nat,k<=t.length/\i=Z9 k/\Box (s∉t.take k)/\Box (Z6 w wr)) (λi _=>t.length-(intOf i).toNat)
 ·exact⟨0,by omega,rfl,⟨by simp⟩,⟨Below.refl _ _⟩⟩
 obtain⟨k,Z3,rfl,ZP,Xk⟩:=hrel
 by_cases Zu:k<t.length
 ·obtain⟨x,Z4⟩:=Yg t k Zu;obtain⟨SX,off,XV,Y5,XL,Yi,XB,YX⟩:=(WO.o.below Xk.o).get (by intro e;have:=congrArg List.length e;simp at this;subst this;simp at Zu);rw[X4]at Y5 XL;obtain⟨rfl,rfl⟩:=XN Y5;obtain⟨Sl,ZL,TG⟩:=YX k (zs x) (by rw[RX,Z4];rfl);have H0:=bx (at7 Sl _ (zs x) (zs s) wr TG (ZN.o.below Xk.o) (by have:=LP.o x (Xh Z4);rw[Fp];omega) (by rw[Fp];omega));have YD:=bx Z4;unfold maxLen at Yi;clear Z4 Y5 YX TG
  by_cases CV:x=s
  ·subst CV;have Xf:=bx (show decide (zs x=zs x)=true by simp);have WI:=bx (akQ ZP.o YD.o);go_wp2_with (go_at_call 263;refine H0.o.mono ?_;rintro e ZV ⟨rfl,ZZ⟩;rw[Xf.o])
   go_ret
   exact⟨SJ (by rw[WI.o]),bt Xk.o ZZ⟩
  have Xf:=bx (show decide (zs x=zs s)=false by rw[Bv];exact λe=>CV (akd e));have ZE:=bx (show s∉t.take (k+1) by rw[take_snoc' _ _ _ YD.o,Nb];rintro(h|h);exact ZP.o h;exact CV (Pe.1 h).symm);go_wp2_with (go_at_call 263;refine H0.o.mono ?_;rintro e ZV ⟨rfl,ZZ⟩;rw[Xf.o])
  go_roundw
  ·exact⟨k+1,Zu,by go_num,ZE,⟨bt Xk.o ZZ⟩⟩
  simp[intOf];omega
 obtain rfl:k=t.length:=by omega
 have WI:=bx (show D.place t s=t.length from D.eQ (by have:=ZP.o;rwa[OR]at this))
 go_wp2
 go_ret
 exact⟨SJ (by rw[WI.o]),Xk.o⟩
