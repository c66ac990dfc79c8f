/- Texts of this claim. -/
import Derived.ArgAppend
import Derived.OrdersIn
import Derived.TacticsIn
import Derived.Test.YtdponihkpomheaaGreatDoorK4

namespace Go.Proofs.YtdponihkpomheaaGreatDoor
open Go.RowKit
open Tryz
theorem amh{P:Program}{w:World}{t ty e:TypeId}{bytes:Nat}(TU:Pushes P t e bytes){XH:Option Addr}{n:Nat}{xs:List Value}(Z2:U8 w (.slice XH n n) xs)(ZP:xs.length=n)(u:Value)(te:TypeId)(Z7:u.oneCell'=true)(ZY:n<=1000000)(P6:bytes<=1000):
  ∃Zy w',(Builtin.append_ #[t,t] ty #[.slice XH n n,.slice (some ⟨w.heap.size,0,none⟩) 1 1]).run P (w.alloc (.cells #[u] te))=.ok Zy w'/\U8 w' Zy (xs++[u])/\Z6 w w'/\∀g,Zy.ownBlock=some g->w.heap.size<=g:=by
 obtain⟨i,z,ZM,hi,Vs,Up,Vf,PF⟩:=TU.o;have Z8:(n+1)*bytes<=1000001*1000:=IA (by omega) P6;have Gw:Z6 w (w.alloc (.cells #[u] te)):=YU.alloc Ys _;have hm:n+1<=maxLen:=by grind[maxLen]
 cases XH with
 |none=>
  have Z4:xs=[]:=by
   rcases Z2 with⟨-,h⟩|⟨b,off,sp,ZU,h,-⟩
   ·exact h
   cases h
  subst Z4;obtain rfl:n=0:=ZP.symm;obtain⟨Zy,w',ZT,YT,ZH,-⟩:=run_append_own (P:=P) (w.alloc (.cells #[u] te)) w.heap.size t ty e i z 1 bytes ZM hi Vs Up Vf PF (by decide) (Z1) 0 [] (World.ownsRow_nil _ _ e 1) ⟨w.heap.size,0,none⟩ 1 1 [u] rfl (cell_one_new _ _ _) (by grind) hm (by omega) Gw.size;exact⟨Zy,w',ZT,U8.au YT rfl,Gw.trans ⟨ZH.os,ZH.tape,ZH.output,ZH.size,λk Z3=>ZH.block k (Vh Z3 Gw.size) (by simp[Value.ownBlock])⟩,λg Zs=>(YT.lt g Zs).1⟩
 |some SY=>
  have Hs:∀j x,xs[j]?=some x->(w.alloc (.cells #[u] te)).cell? (SY.add j)=some x:=by
   intro j x YO;have Xq:xs≠[]:=by grind
   obtain⟨b,off,ZU,Z5,ZS,ZG,Zi,Yu⟩:=U8.get Z2 Xq;injection Z5 with Z5;injection Z5 with Z5;subst Z5
   (try unfold ZQ at *);rw[show(⟨b,off,none⟩:Addr).add j=⟨b,off+j,none⟩ by simp[Addr.add]]
   exact(Gw.cell (p:=⟨b,off+j,none⟩) Zi).trans (Yu j x YO)
  obtain⟨Zy,w',ZT,YT,ZH⟩:=run_append_arg_grows (P:=P) (w.alloc (.cells #[u] te)) t ty e i z 1 bytes ZM hi Vs Up Vf PF (by decide) SY n n xs (by omega) Hs ⟨w.heap.size,0,none⟩ 1 1 [u] rfl (cell_one_new _ _ _) (by omega) hm (by omega);exact⟨Zy,w',ZT,U8.au YT (by simp[ZP]),Gw.trans ⟨ZH.os,ZH.tape,ZH.output,ZH.size,λk Z3=>ZH.block k (Vh Z3 Gw.size) (by simp)⟩,λg Zs=>XJ Gw.size (YT.lt g Zs).1⟩
theorem ate{P:Program}{YR:World}{ops:Array Oper}{o:Oper}{a:Act}{K:Act->World->Prop}{Q:Exit->Act->World->Prop}{G8:Prop}(Uz:o.guard=none)(s x:Operand)(t:TypeId)(YT:o.op=.call {callee:=.builtin .append,args:=#[s,x],argTypes:=#[t,t]}){e te:TypeId}{bytes:Nat}(TU:Pushes P t e bytes){XH:Option Addr}{n:Nat}{xs:List Value}(Z2:U8 YR (.slice XH n n) xs)(ZP:xs.length=n){u:Value}(Z0:a.eval s=.slice XH n n)(Z4:a.eval x=.slice (some ⟨YR.heap.size,0,none⟩) 1 1)(Z7:u.oneCell'=true)(ZY:n<=1000000)(P6:bytes<=1000)(h:∀Zy w',U8 w' Zy (xs++[u])->Z6 YR w'->K (a.put o.dst Zy) w'):
  if Region.wanted o (yielded ops a.tmps)=true then Oper.wp P o a (YR.alloc (.cells #[u] te)) K Q else G8:=by
 rw[Y0 (by simp[Region.wanted,Uz])];obtain⟨Zy,w',ZT,r1,r2,-⟩:=amh (ty:=o.type) TU Z2 ZP u te Z7 ZY P6;unfold Oper.wp execOp;simp only[YT,resolve,invoke,builtin,Sem.run_bind,Sem.run_pure,Result.andThen_ok,List.map_toArray,RG,Pa,Z0,Z4,ZT];exact h Zy w' r1 r2
section
attribute[local go_sem] Oper.semAt_some
theorem U8.part{w:World}{b off ZU:Nat}{xs:List Value}(h:U8 w (.slice (some ⟨b,off,none⟩) xs.length ZU) xs)(i j cap':Nat)(LJ:i<=j)(YO:j<=xs.length)(ZL:j-i<=cap')(ZY:cap'<=maxLen)(SY:Addr)(ul:i<j->SY=(⟨b,off,none⟩:Addr).add i):
  U8 w (.slice (some SY) (j-i) cap') ((xs.take j).drop i):=by
 have hl:((xs.take j).drop i).length=j-i:=by grind
 rcases h with⟨Z7,Z5⟩|⟨Xd,OP,ax3,XV,Z7,Z5,ZS,ZG⟩
 ·cases Z7
 injection Z7 with Zq YP Yb;injection Zq with Zq;injection Zq with WW VK BQ;subst WW VK BQ;obtain⟨HD,XH,ln⟩:=SY;refine .inr ⟨HD,XH,ln,cap',by rw[hl],by omega,ZY,λZP=>?_⟩;have Zu:i<j:=by
  grind
 have CV:xs≠[]:=by grind
 grind[Addr.add]
theorem auE(a:Option Addr)(N ZU i j:Nat)(xs:List Value)(LJ:i<=j)(YO:j<=N)(Zp:xs.length=N)(ZY:N<=100000){YR:World}(ZI:U8 YR (.slice a N ZU) xs):
  ∃Y,(∀W,(Instr.slice 49 (.slice a N ZU) (some (Z9 (i:Int))) (some (Z9 (j:Int))) none).run prog W=.ok Y W)/\∀W,U8 W (.slice a N ZU) xs->U8 W Y ((xs.take j).drop i):=by
 subst Zp
 rcases ZI with⟨Z7,Z5⟩|⟨b,off,sp,XV,Z7,Z5,ZS,ZG⟩
 ·injection Z7 with Zq YP Yb;subst Zq Yb Z5;obtain rfl:j=0:=by omega
  obtain rfl:i=0:=by omega
  exact⟨Z1,λW=>by go_simp,λW _=>by grind⟩
 injection Z7 with Zq YP Yb;subst Zq Yb
 by_cases ZP:xs=[]
 ·subst ZP;obtain rfl:j=0:=by grind
  obtain rfl:i=0:=by omega
  refine⟨.slice (some ⟨b,off,sp⟩) 0 ZU,λW=>?_,λW _=>?_⟩
  ·unfold maxLen at ZS
   by_cases ZL:ZU=0
   ·subst ZL;go_simp
   go_simp
  grind
 obtain⟨rfl,Zi,Yu⟩:=ZG ZP;have Z3:j<=ZU:=by omega
 by_cases ZL:ZU=i
 ·obtain rfl:j=i:=by omega
  obtain rfl:ZU=j:=ZL;refine⟨.slice (some ⟨b,off,none⟩) (ZU-ZU) (ZU-ZU),λW=>?_,λW Yj=>Yj.part ZU ZU _ LJ YO (by omega) (by omega) _ (λh=>by omega)⟩;unfold maxLen at ZS;go_simp
 refine⟨.slice (some ((⟨b,off,none⟩:Addr).add i)) (j-i) (ZU-i),λW=>?_,λW Yj=>Yj.part i j _ LJ YO (by omega) (by omega) _ (λ_=>rfl)⟩;unfold maxLen at ZS;go_simp
theorem as9(a:Option Addr)(N ZU i:Nat)(xs:List Value)(LJ:i<=N)(Zp:xs.length=N)(ZY:N<=100000){YR:World}(ZI:U8 YR (.slice a N ZU) xs):
  ∃Y,(∀W,(Instr.slice 49 (.slice a N ZU) (some (Z9 (i:Int))) none none).run prog W=.ok Y W)/\∀W,U8 W (.slice a N ZU) xs->U8 W Y (xs.drop i):=by
 subst Zp
 rcases ZI with⟨Z7,Z5⟩|⟨b,off,sp,XV,Z7,Z5,ZS,ZG⟩
 ·injection Z7 with Zq YP Yb;subst Zq Yb Z5;obtain rfl:i=0:=by omega
  exact⟨Z1,λW=>by go_simp,λW _=>.inl ⟨rfl,rfl⟩⟩
 injection Z7 with Zq YP Yb;subst Zq Yb
 by_cases ZP:xs=[]
 ·subst ZP;obtain rfl:i=0:=by grind
  refine⟨.slice (some ⟨b,off,sp⟩) 0 ZU,λW=>?_,λW _=>?_⟩
  ·unfold maxLen at ZS
   by_cases ZL:ZU=0
   ·subst ZL;go_simp
   go_simp
  grind
 obtain⟨rfl,Zi,Yu⟩:=ZG ZP;have Zm:xs.drop i=(xs.take xs.length).drop i:=by rw[OR]
 rw[Zm]
 by_cases ZL:ZU=i
 ·obtain rfl:i=xs.length:=by omega
  refine⟨.slice (some ⟨b,off,none⟩) (xs.length-xs.length) (ZU-xs.length),λW=>?_,λW Yj=>Yj.part xs.length xs.length _ (by omega) (by omega) (by omega) (by omega) _ (λh=>by omega)⟩;unfold maxLen at ZS;go_simp
 refine⟨.slice (some ((⟨b,off,none⟩:Addr).add i)) (xs.length-i) (ZU-i),λW=>?_,λW Yj=>Yj.part i xs.length _ LJ (by omega) (by omega) (by omega) _ (λ_=>rfl)⟩;unfold maxLen at ZS;go_simp
theorem gO(a:Option Addr)(N ZU i j:Nat)(xs:List (List UInt8))(LJ:i<=j)(YO:j<=N)(Zp:xs.length=N)(ZY:N<=100000){YR:World}(ZI:XC YR (.slice a N ZU) xs):
  ∃Y,(∀W,(Instr.slice 49 (.slice a N ZU) (some (Z9 (i:Int))) (some (Z9 (j:Int))) none).run prog W=.ok Y W)/\∀W,XC W (.slice a N ZU) xs->XC W Y ((xs.take j).drop i):=by
 obtain⟨Y,Z7,Z5⟩:=auE a N ZU i j (xs.map Vu) LJ YO (by grind) ZY ZI;exact⟨Y,Z7,λW Yj=>by have h:=Z5 W Yj;rw[<-List.map_take,<-List.map_drop]at h;exact h⟩
theorem lE(a:Option Addr)(N ZU i:Nat)(xs:List (List UInt8))(LJ:i<=N)(Zp:xs.length=N)(ZY:N<=100000){YR:World}(ZI:XC YR (.slice a N ZU) xs):
  ∃Y,(∀W,(Instr.slice 49 (.slice a N ZU) (some (Z9 (i:Int))) none none).run prog W=.ok Y W)/\∀W,XC W (.slice a N ZU) xs->XC W Y (xs.drop i):=by
 obtain⟨Y,Z7,Z5⟩:=as9 a N ZU i (xs.map Vu) LJ (by grind) ZY ZI;exact⟨Y,Z7,λW Yj=>by have h:=Z5 W Yj;rw[<-List.map_drop]at h;exact h⟩
theorem atJ(a:Option Addr)(N ZU c:Nat)(ZL:c<=N)(Zp:N<=ZU)(W:World):
  (Instr.slice 49 (.slice a N ZU) none (some (Z9 (c:Int))) (some (Z9 (c:Int)))).run prog W=.ok (.slice a c c) W:=by
 cases a with
 |none=>
  by_cases ZI:c=0
  ·subst ZI;go_simp
  go_simp;omega
 |some a=>
  by_cases ZI:c=0
  ·subst ZI;go_simp
  go_simp;omega
end
section
section
variable {P:Program} {md:Region.Mode} {ops:Array Oper} {Q:Exit->Act->World->Prop} {k:Nat} {F:World->Prop}
theorem atk{i:Nat}{Sc:Oper}{v:Value}(hi:ops[i]?=some Sc)(tH:∀(j:Nat)(o:Oper) cs b,ops[j]?=some o->o.op≠.select cs b)(VI:∀c a w,Q (.panic c) (a.put Sc.dst v) w->Q (.panic c) a w)(hF:∀w,F w):
  ∀(fuel:Nat)(listed:Array Bool)(a:Act)(w:World),
   (∀j Ol,ops[j]?=some Ol->j≠i->listed.getD j true=false->(∀e∈Ol.after,Region.binds md e=true->e.on≠i)->Sc.apart ops Ol=true)->
   i∈Region.ready md ops listed->YieldsIf P ops F Sc v a->
   Q5 P md ops Q k F fuel (listed.setIfInBounds i true) (a.put Sc.dst v) w->Q5 P md ops Q k F (fuel+1) listed a w:=by
 intro fuel
 induction fuel with
 |zero=>
  intro listed a w _ ZT ZJ H;refine⟨λh=>(by grind),λj YO=>?_⟩
  by_cases hji:j=i
  ·subst hji;exact YieldsIf.wpOp hi ZJ (hF w) ⟨λ_=>hF w,H⟩
  have:=ready_mono YO hji;rw[H.1]at this
  cases this
 |succ fuel XZ=>
  intro listed a w tX ZT ZJ H;refine⟨λh=>(by grind),λj YO=>?_⟩
  by_cases hji:j=i
  ·subst hji;exact YieldsIf.wpOp hi ZJ (hF w) ⟨λ_=>hF w,H⟩
  have Z7:=H.2 j (ready_mono YO hji);obtain⟨kh,Ol,zP,S9⟩:=mem_ready.1 YO;have j5:∀e∈Ol.after,Region.binds md e=true->e.on≠i:=λe he Z8 Jf=>by
   have Z7:=S9 e he Z8;have ZI:=(mem_ready.1 ZT).1;grind
  have Z5:=wpOp_putIf zP (tX j Ol zP hji kh j5) (λcs b=>tH i Sc cs b hi) (λcs b=>tH j Ol cs b zP) VI ZJ Z7;have kp:∀k ok,ops[k]?=some ok->k≠i->(listed.setIfInBounds j true).getD k true=false->
    (∀e∈ok.after,Region.binds md e=true->e.on≠i)->Sc.apart ops ok=true:=λk ok Z3 ke ag4 XF=>by
   refine tX k ok Z3 ke ?_ XF
   by_cases hjk:j=k
   ·grind
   simp_all
  refine wpOp_mono (λOa w' ZS=>?_) Z5;refine⟨λ_=>hF _,XZ (listed.setIfInBounds j true) Oa w' kp (ready_mono ZT (Ne.symm hji)) ZS.1 ?_⟩;grind[Array.setIfInBounds_comm]
theorem kU(i:Nat){Sc:Oper}(v:Value){Q:Exit->Act->World->Prop}{fuel:Nat}{listed:Array Bool}{a:Act}{w:World}(hi:ops[i]?=some Sc)(ZJ:∀w,(execOp a.eval Sc).run P w=.ok (.value v) w)(h:Q5 P md ops (NoPanic Q) k (λ_=>True) fuel (listed.setIfInBounds i true) (a.put Sc.dst v) w)(Z0:(Region.noSelect ops&&Region.free md ops listed i&&(Region.ready md ops listed).contains i)=true:=by kernel_rfl)(hw:Region.wanted Sc (yielded ops a.tmps)=true:=by kernel_rfl):Q5 P md ops (NoPanic Q) k (λ_=>True) (fuel+1) listed a w:=by
 simp only[Vm]at Z0;obtain⟨⟨Z7,Z5⟩,ZS⟩:=Z0;exact atk hi (Region.noSelect_spec Z7) (λ_ _ _ h=>h) (λ_=>trivial) fuel listed a w (Region.free_spec hi Z5) (by grind) (Or.inl ⟨hw,λw _=>ZJ w⟩) h
theorem aaQ:∀(fuel:Nat)(listed:Array Bool)(a:Act)(w:World),listed.getD k true=true->Q5 P md ops Q k (λ_=>True) fuel listed a w->Q5 P md ops Q k F fuel listed a w
 |0,_,_,_,_,h=>h
 |fuel+1,listed,a,w,hl,h=>⟨h.1,λi hi=>wpOp_mono (λOa w' TB=>by
   have pK:(listed.setIfInBounds i true).getD k true=true:=by
    by_cases e:i=k
    ·simp_all
    simp_all
   exact⟨λWK=>(by grind),aaQ fuel _ Oa w' pK TB.2⟩) (h.2 i hi)⟩
theorem EA{fuel:Nat}{listed:Array Bool}{a:Act}{w:World}(h:Q5 P md ops Q k (λ_=>True) fuel listed a w)(hl:listed.getD k true=true:=by kernel_rfl):Q5 P md ops Q k F fuel listed a w:=aaQ fuel listed a w hl h
end
section
variable {P:Program} {ops:Array Oper} {Q:Exit->Act->World->Prop} {md:Region.Mode}
theorem amN{l n:Nat}{row:String}{args:Array Value}{w:World}{R:Value->World->Prop}(h:Rows P row args w R):RowsIn (Fence.wide.inRound l) n P row args w R:=
 λc cs _=>let ⟨v,w',r,s⟩:=h c cs;⟨v,w',r,stepsIn_wide.2 s⟩
theorem aqJ{l n i:Nat}{K:Act->World->Prop}{a:Act}{w:World}(XF:¬LetsOut Q)(Zm:∀o:Oper,ops[i]?=some o->∀c,o.op≠.defer c)(h:wpOp P ops Q i K a w):wpOpIn (Fence.wide.inRound l) n P ops Q i K a w:=by
 unfold wpOp at h;unfold wpOpIn
 cases YT:ops[i]? with
 |none=>rw[YT]at h;exact h
 |some o=>
  rw[YT]at h;simp only at h⊢
  by_cases hw:Region.wanted o (yielded ops a.tmps)=true
  ·rw[Y0 hw]at h⊢
   rcases h with h|⟨-,h⟩
   ·refine⟨λ_ _=>trivial,?_⟩;rw[Fence.inRound_round,Oper.semAt_some l a.eval o (Zm o YT)];unfold Oper.wp at h
    cases ZT:(execOp a.eval o).run P w with
    |ok v w' =>
     rw[ZT]at h
     cases v with
     |value v=>exact h
     |skip=>exact h
     |defer d=>exact h
     |enter f args=>exact⟨λh=>by simp[Fence.wide]at h,CallsIn.inRound l ((callsIn_wide.2 h).mono (λe w' h=>by omega))⟩
     |row r args=>exact⟨λh=>by simp[Fence.wide]at h,amN h⟩
     |round=>exact h.elim
     |_=>exact h
    |halt c w' =>
     rw[ZT]at h
     cases c <;> exact h
   exact absurd h XF
  rw[Y4 hw]at h⊢;exact⟨λ_ _=>trivial,h⟩
theorem hb{l n:Nat}(XF:¬LetsOut Q)(Zm:∀(i:Nat)(o:Oper),ops[i]?=some o->∀c,o.op≠.defer c):∀(fuel:Nat)(listed:Array Bool)(a:Act)(w:World),wpAny P md ops Q fuel listed a w->wpAnyIn (Fence.wide.inRound l) n P md ops Q fuel listed a w
 |0,_,_,_,h=>h
 |fuel+1,_,_,_,h=>⟨h.1,λi hi=>wpOpIn_mono (λ_ _ TB=>hb XF Zm fuel _ _ _ TB) (aqJ XF (Zm i) (h.2 i hi))⟩
def mW(ops:Array Oper):Bool:=ops.all λo=>match o.op with|.defer _=>false|_=>true
theorem arw(h:mW ops=true):∀(i:Nat)(o:Oper),ops[i]?=some o->∀c,o.op≠.defer c:=by
 grind[mW]
theorem ar4{l n id:Nat}{a:Act}{w:World}(k:Nat)(F:World->Prop)(hm:P.follows .mixedOrders=true)(Zm:mW ops=true)(XF:¬LetsOut Q)(h:Q5 P .any ops (NoPanic Q) k F ops.size (Array.replicate ops.size false) a w.drew):(Code.region id ops true).wpIn (Fence.wide.inRound l) n P Q a w:=
 wpIn_mono (wpIn_region_any hm (hb (Q:=NoPanic Q) (λ⟨a,w,h⟩=>XF ⟨a,w,h⟩) (arw Zm) _ _ _ _ (mN _ _ _ _ h))) NoPanic.imp
end
section
variable {P:Program} {YR:World} {o:Oper} {a:Act} {K:Act->World->Prop} {Q:Exit->Act->World->Prop} {G8:Prop} {ops:Array Oper}
theorem aeH(Uz:o.guard=none)(s x:Operand)(t:TypeId)(YT:o.op=.call {callee:=.builtin .append,args:=#[s,x],argTypes:=#[t,t]}){base:Nat}{e te:TypeId}{bytes:Nat}(TU:Pushes P t e bytes){ps:List Pc}(hS:Sep ps YR)(k:Nat){v u:Value}{n:Nat}{xs:List Value}(Z3:ps[k]?=some (Pc.row base e 1 v n xs))(Z0:a.eval s=v)(Z4:a.eval x=.slice (some ⟨YR.heap.size,0,none⟩) 1 1)(Z7:u.oneCell'=true)(ZP:n<=1000000000)(P6:bytes<=1000)(K8:base<=YR.heap.size)(h:∀Zy w',Sep (ps.set k (Pc.row base e 1 Zy (n+1) (xs++[u]))) w'->(∃g c,Zy=.slice (some ⟨g,0,none⟩) (n+1) c/\n+1<=c/\c<=9223372036854775807)->Turns (λq=>v.ownBlock=some q) YR w'->(Zy.ownBlock=v.ownBlock\/Zy.ownBlock=some (YR.heap.size+1))->K (a.put o.dst Zy) w'):
  if Region.wanted o (yielded ops a.tmps)=true then Oper.wp P o a (YR.alloc (.cells #[u] te)) K Q else G8:=by
 obtain⟨i,z,ZM,hi,Vs,Up,Vf,PF⟩:=TU.o;have Z8:(n+1)*bytes<=1000000001*1000:=IA (by omega) P6;rw[Y0 (by simp[Region.wanted,Uz])];obtain⟨Zy,w',ZT,Wo,UN,-,MK⟩:=run_append_own_at (P:=P) (YR.alloc (.cells #[u] te)) base t o.type e i z 1 bytes ZM hi Vs Up Vf PF (by decide) v n xs ((hS.row k Z3).alloc _) ⟨YR.heap.size,0,none⟩ 1 1 [u] rfl (cell_one_new _ _ _) (by grind) (by grind[maxLen]) (by omega) (by simp;omega);unfold Oper.wp execOp;simp only[YT,resolve,invoke,builtin,Sem.run_bind,Sem.run_pure,Result.andThen_ok,List.map_toArray,RG,Pa,Z0,Z4,ZT];have LM:=(hS.alloc (.cells #[u] te)).grow k Z3 UN Wo (by
  grind)
 refine h Zy w' LM ?_ ((Turns.alloc YR (.cells #[u] te)).trans (CH UN (λ_ Zs=>Zs))) (by simp_all)
 rcases Wo.2 with⟨_,Z5⟩|⟨g,ZU,VY,Z5,_,_,ZS,ZG,_⟩
 ·omega
 grind[maxLen]
