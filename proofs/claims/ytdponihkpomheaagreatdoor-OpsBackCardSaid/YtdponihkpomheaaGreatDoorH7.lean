/- Texts of this claim. -/
import Derived.Laws.RangeAny
import Derived.Lib.IndexBytes
import Derived.Test.YtdponihkpomheaaGreatDoorH6

set_option maxHeartbeats 2000000
namespace Go.Proofs.YtdponihkpomheaaGreatDoor
open Go.RowKit
open Tryz
namespace M
open U
def rng (c d:UInt8):Bool:=decide (iO (aH c)<=aH d)&&decide (aH d<=iI (aH c))
def oO:List UInt8->Nat
 | c::d::t=>if decide (2<=dG (aH c))&&rng c d then (match t with | e::_=>if decide (dG (aH c)=3)&&kC e then 3 else 2 | []=>2) else 1
 | [_]=>1
 | []=>0
theorem avH {c d:UInt8} (t:List UInt8) (h:(decide (2<=dG (aH c))&&rng c d)=false):oO (c::d::t)=1:=by
 simp only [oO];rw [aF (by rw [h];decide)]
theorem as8 {c d:UInt8} (h:(decide (2<=dG (aH c))&&rng c d)=true):oO [c,d]=2:=by
 simp only [oO];rw [aG h]
theorem aqR {c d e:UInt8} (t:List UInt8) (h:(decide (2<=dG (aH c))&&rng c d)=true) (h2:(decide (dG (aH c)=3)&&kC e)=false):oO (c::d::e::t)=2:=by
 simp only [oO];rw [aG h,aF (by rw [h2];decide)]
theorem avY {c d e:UInt8} (t:List UInt8) (h:(decide (2<=dG (aH c))&&rng c d)=true) (h2:(decide (dG (aH c)=3)&&kC e)=true):oO (c::d::e::t)=3:=by
 simp only [oO];rw [aG h,aG h2]
def unit (s:List UInt8):Nat×Bool :=
 match dec s with
 | some (_,n)=>(n,true)
 | none=>(oO s,false)
def LV (p:List UInt8):Bool :=
 (match dec (p++[128]) with | some (_,n)=>n==p.length+1 | none=>false)||(match dec (p++[128,128]) with | some (_,n)=>n==p.length+2 | none=>false)
theorem agl (c d:UInt8):rng c d=true↔iO (aH c)<=aH d/\aH d<=iI (aH c):=by unfold rng;simp
theorem KD (p:Prop) [Decidable p] (x:Int) (m k:Nat) (h:(m==k)=false):(match (if p then some (x,m) else none:Option (Int×Nat)) with | some (_,n)=>n==k | none=>false)=false:=by
 by_cases h':p
 ·rw [aG h'];exact h
 rw [aF h']
theorem ZB:aH 128=128:=rfl
theorem aq8 (c d:UInt8):LV [c,d]=(decide (2<=dG (aH c))&&rng c d):=by
 have hr:=agl c d;unfold LV;simp only [jd,iJ,dY,iG]
 rcases PN (aH c) with e | e | e | e | e
 ·rw [PU (by omega),PU (by omega),e];rfl
 ·rw [Ue e,Ue e,e];rfl
 ·rw [Uu e,Uu e,e,KD _ _ _ _ rfl,KD _ _ _ _ rfl];rfl
 ·have hlo:=Om (aH c) (by omega);have hhi:=Na (aH c) (by omega);rw [Rx e,Rx e,e]
  by_cases h:iO (aH c)<=aH d/\aH d<=iI (aH c)
  ·rw [aG (by rw [ZB];omega),hr.2 h];rfl
  rw [aF (by omega),show rng c d=false by rw [<- Bool.not_eq_true,hr];exact h];rfl
 have hlo:=Om (aH c) (by omega);have hhi:=Na (aH c) (by omega);rw [afq (by simp;omega),UG e,e]
 by_cases h:iO (aH c)<=aH d/\aH d<=iI (aH c)
 ·rw [aG (by rw [ZB];omega),hr.2 h];rfl
 rw [aF (by omega),show rng c d=false by rw [<- Bool.not_eq_true,hr];exact h];rfl
theorem ars (c d e:UInt8):LV [c,d,e]=(decide (dG (aH c)=3)&&rng c d&&kC e):=by
 have hr:=agl c d;have ht:=oW e;unfold LV;simp only [jd,iJ,dY,iG]
 rcases PN (aH c) with k | k | k | k | k
 ·rw [PU (by omega),PU (by omega),k];rfl
 ·rw [Ue k,Ue k,k];rfl
 ·rw [Uu k,Uu k,k,KD _ _ _ _ rfl,KD _ _ _ _ rfl];rfl
 ·rw [Rx k,Rx k,k,KD _ _ _ _ rfl,KD _ _ _ _ rfl];rfl
 have hlo:=Om (aH c) (by omega);have hhi:=Na (aH c) (by omega);rw [UG k,UG k,k]
 by_cases h:(iO (aH c)<=aH d/\aH d<=iI (aH c))/\(128<=aH e/\aH e<=191)
 ·rw [aG (by rw [ZB];omega),hr.2 h.1,ht.2 h.2];rfl
 rw [aF (by omega)];have:(rng c d&&kC e)=false:=by
  rw [<- Bool.not_eq_true,dD,hr,ht];exact h
 rw [show (decide ((3:Int)=3)&&rng c d&&kC e)=(rng c d&&kC e) by simp,this];rfl
theorem OC {s:List UInt8} {r:Int} {n:Nat} (h:dec s=some (r,n)):unit s=(n,true):=by unfold unit;rw [h]
theorem aaq {s:List UInt8} (h:dec s=none):unit s=(oO s,false):=by unfold unit;rw [h]
theorem atr (s:List UInt8):oO s<=s.length/\oO s<=3/\(s≠[]->1<=oO s):=by
 match s with
 | []=>simp [oO]
 | [_]=>simp [oO]
 | c::d::[]=>simp only [oO,dY,iG];split <;> simp
 | c::d::e::t=>simp only [oO,dY];split <;> (try split) <;> simp <;> omega
theorem Ku {s:List UInt8} (hs:s≠[]):1<=(unit s).1/\(unit s).1<=4/\(unit s).1<=s.length:=by
 cases h:dec s with
 | some p =>
  obtain⟨r,n⟩:=p;obtain⟨_,_,h1,h2,h3⟩:=JF h;rw [OC h];exact⟨h1,h2,h3⟩
 | none =>
  have:=atr s;rw [aaq h];exact⟨this.2.2 hs,by omega,this.1⟩
def FN:Nat->List UInt8->List (Nat×Bool)
 | 0,_=>[]
 | k+1,s=>if s=[] then [] else unit s::FN k (s.drop (unit s).1)
def units (s:List UInt8):List (Nat×Bool):=FN s.length s
theorem ahB:∀ (k j:Nat) (s:List UInt8),s.length<=k->s.length<=j->FN k s=FN j s
 | 0,j,s,h,_=>by
  have:s=[]:=nR (by omega);subst this;cases j <;> rfl
 | k+1,0,s,_,h=>by
  have:s=[]:=nR (by omega);subst this;rfl
 | k+1,j+1,s,h,h'=>by
  simp only [FN]
  split
  ·rfl
  rename_i hs
  have:=Ku hs;rw [ahB k j _ (by rw [gy];omega) (by rw [gy];omega)]
theorem adZ {s:List UInt8} (hs:s≠[]):units s=unit s::units (s.drop (unit s).1):=by
 have h1:=Ku hs;unfold units
 cases hl:s.length with
 | zero=>exact absurd (nR hl) hs
 | succ k =>
  simp only [FN];rw [aF hs,ahB k _ _ (by rw [gy];omega) aU]
abbrev Place:=Nat×Nat×Bool
def place:Nat->List (Nat×Bool)->List Place
 | _,[]=>[]
 | a,u::us=>(a,u.1,u.2)::place (a+u.1) us
def places (s:List UInt8):List Place:=place 0 (units s)
def rest (s:List UInt8) (a:Nat):List Place:=place a (units (s.drop a))
theorem Qq (s:List UInt8):rest s 0=places s:=by unfold rest places;rw [List.drop_zero]
theorem rest_end (s:List UInt8) (a:Nat) (h:s.length<=a):rest s a=[]:=by unfold rest;rw [zF h];rfl
theorem Oz (s:List UInt8) (a:Nat) (h:a<s.length):rest s a=(a,(unit (s.drop a)).1,(unit (s.drop a)).2)::rest s (a+(unit (s.drop a)).1):=by
 have hs:s.drop a≠[]:=by intro e;rw [List.drop_eq_nil_iff] at e;omega
 unfold rest;rw [adZ hs,List.drop_drop]
 rfl
def mark:List UInt8:=[239,191,189]
def mended (s:List UInt8) (x:Place):List UInt8:=if x.2.2 then (s.drop x.1).take x.2.1 else mark
def repair (s:List UInt8) (pl:List Place):List UInt8:=pl.flatMap (mended s)
def fwd (pl:List Place) (q:Int):Option Place:=pl.find? λx=>(x.1:Int)==q
def bwd (pl:List Place) (q:Int):Option Place:=pl.find? λx=>((x.1+x.2.1:Nat):Int)==q
end M
namespace M
open U
theorem QJ {P:List UInt8->Prop} (h0:P []) (h1:∀ s,s≠[]->P (s.drop (unit s).1)->P s):∀ s,P s:=by
 have key:∀ (k:Nat) (s:List UInt8),s.length<=k->P s:=by
  intro k
  induction k with
  | zero =>
   intro s h;have:s=[]:=nR (by omega);subst this;exact h0
  | succ k ih =>
   intro s h
   by_cases hs:s=[]
   ·subst hs;exact h0
   have:=Ku hs;exact h1 s hs (ih _ (by rw [gy];omega))
 exact λs=>key s.length s aU
def shift (a:Nat) (x:Place):Place:=(x.1+a,x.2.1,x.2.2)
theorem awu (us:List (Nat×Bool)):∀ a b,place (a+b) us=(place a us).map (shift b):=by
 induction us with
 | nil=>intro a b;rfl
 | cons u us ih =>
  intro a b;simp only [place,iR,shift];rw [show a+b+u.1=(a+u.1)+b by omega,ih]
theorem amc (s:List UInt8) (a:Nat):rest s a=(places (s.drop a)).map (shift a):=by
 unfold rest places;have:=awu (units (s.drop a)) 0 a;rw [Nat.zero_add] at this;exact this
theorem aq4 (s:List UInt8) (a:Nat) (x:Place):mended s (shift a x)=mended (s.drop a) x:=by
 unfold mended shift;rw [List.drop_drop];simp only [Nat.add_comm]
theorem auz (s:List UInt8) (a:Nat) (pl:List Place):repair s (pl.map (shift a))=repair (s.drop a) pl:=by
 unfold repair;rw [List.flatMap_map]
 congr 1
 exact funext λx=>aq4 s a x
def fix (s:List UInt8):List UInt8:=repair s (places s)
theorem places_cons {s:List UInt8} (hs:s≠[]):places s=(0,(unit s).1,(unit s).2)::(places (s.drop (unit s).1)).map (shift (unit s).1):=by
 have hl:0<s.length:=List.length_pos_iff.2 hs;have:=Oz s 0 hl;rw [Qq,List.drop_zero,Nat.zero_add,amc] at this;exact this
theorem ali:fix []=[]:=rfl
theorem Nu {s:List UInt8} (hs:s≠[]):fix s=(if (unit s).2 then s.take (unit s).1 else mark)++fix (s.drop (unit s).1):=by
 unfold fix;rw [places_cons hs];show repair s (_::_)=_
 rw [show repair s ((0,(unit s).1,(unit s).2)::(places (s.drop (unit s).1)).map (shift (unit s).1))=mended s (0,(unit s).1,(unit s).2)++repair s ((places (s.drop (unit s).1)).map (shift (unit s).1)) from rfl,auz]
 rfl
theorem atl:mark=enc 65533:=by decide +kernel
theorem aw9 {s:List UInt8} (h:(unit s).2=true):∃ r,dec s=some (r,(unit s).1):=by
 cases hd:dec s with
 | none=>rw [aaq hd] at h;cases h
 | some p=>obtain⟨r,n⟩:=p;rw [OC hd];exact⟨r,rfl⟩
theorem Uj (s:List UInt8):∃ l,scalars (fix s)=some l/\l.length=(units s).length:=by
 refine QJ (P:=λs=>∃ l,scalars (fix s)=some l/\l.length=(units s).length) ⟨[],rfl,rfl⟩ (λs hs ih=>?_) s;obtain⟨l,h1,h2⟩:=ih;have hu:=adZ hs
 cases hok:(unit s).2 with
 | true =>
  obtain⟨r,hd⟩:=aw9 hok;obtain⟨hr,he,_⟩:=JF hd;refine⟨r::l,?_,by rw [hu,dY,dY,h2]⟩;rw [Nu hs,hok,aG rfl,<- he,U3 r hr,h1]
  rfl
 | false =>
  refine⟨65533::l,?_,by rw [hu,dY,dY,h2]⟩;rw [Nu hs,hok,aF (by simp),atl,U3 65533 (by decide),h1]
  rfl
end M
namespace M
open U
theorem afB {s:List UInt8} {P:Nat->Prop} (h0:∀ a,s.length<=a->P a) (h1:∀ a,a<s.length->P (a+(unit (s.drop a)).1)->P a):∀ a,P a:=by
 have key:∀ (k a:Nat),s.length<=a+k->P a:=by
  intro k
  induction k with
  | zero=>intro a h;exact h0 a (by omega)
  | succ k ih =>
   intro a h
   by_cases hs:s.length<=a
   ·exact h0 a hs
   have hne:s.drop a≠[]:=by intro e;rw [List.drop_eq_nil_iff] at e;omega
   have:=Ku hne;exact h1 a (by omega) (ih _ (by omega))
 exact λa=>key s.length a (by omega)
theorem Tv {s:List UInt8} {a:Nat} (h:a<s.length):1<=(unit (s.drop a)).1/\(unit (s.drop a)).1<=4/\a+(unit (s.drop a)).1<=s.length:=by
 have hne:s.drop a≠[]:=by intro e;rw [List.drop_eq_nil_iff] at e;omega
 have:=Ku hne;rw [gy] at this;omega
theorem ac3 (s:List UInt8):∀ a,∀ x∈rest s a,a<=x.1/\x.1<s.length/\(x.2.1,x.2.2)=unit (s.drop x.1)/\x.1+x.2.1<=s.length/\1<=x.2.1/\x.2.1<=4:=by
 refine afB (s:=s) (λa h x hx=>?_) (λa h ih x hx=>?_)
 ·rw [rest_end s a h] at hx;exact absurd hx iH
 rw [Oz s a h] at hx;have hu:=Tv h
 rcases fB.1 hx with rfl | hx
 ·exact⟨bK _,h,rfl,hu.2.2,hu.1,hu.2.1⟩
 have:=ih x hx;exact⟨by omega,this.2⟩
def aqU (a:Nat) (pl:List Place):List Nat:=a::pl.map λx=>x.1+x.2.1
theorem aj1 (s:List UInt8):∀ a,a<=s.length->(aqU a (rest s a))[(rest s a).length]?=some s.length:=by
 refine afB (s:=s) (λa h h'=>?_) (λa h ih h'=>?_)
 ·rw [rest_end s a h];show some a=_;congr 1;omega
 rw [Oz s a h];exact ih (Tv h).2.2
end M
section
open Go.Extern.Stop Go.Stop Go.Extern
namespace As
abbrev VP (a:Addr):Value:=.agg #[.pointer (some ⟨16,321,none⟩), .pointer (some a), .int .u64 150]
theorem X8 (t:Addr) (w:World):(ReflectliteValue.unpack (.iface 321 (.pointer (some t)))).run prog w
  = .ok (VP ⟨w.heap.size,0,none⟩) (w.alloc (.cells #[.pointer (some t)] 321)):=by kernel_rfl
theorem VT (a:Addr) (w:World):(ReflectliteValue.methodAny (ReflectliteValue.valueError "reflectlite.Value.Type" 0) (λt _ _ _=>ReflectliteType.toType t) #[VP a]).run prog w
  = .ok (.iface 351 (.agg #[.pointer (some ⟨16,321,none⟩)])) w:=by kernel_rfl
theorem methodKind (h:Value) (w:World):(Go.method 579 351 (.agg #[h]) "Kind").run prog w = .ok (371,h) w:=by kernel_rfl
theorem ZJ (w:World):((ReflectliteType.abiMethod λt=>(λa:Nat=>Value.int IntKind.u8 (a:Int)) <$> Rtype.kind t) #[.pointer (some ⟨16,321,none⟩)]).run prog w = .ok (.int .u8 22) w:=by kernel_rfl
theorem WV (w:World):((ReflectliteType.abiMethod λt=>(λa:Nat=>Value.int IntKind.u8 (a:Int)) <$> Rtype.kind t) #[.pointer (some ⟨16,320,none⟩)]).run prog w = .ok (.int .u8 25) w:=by kernel_rfl
theorem methodElem (h:Value) (w:World):(Go.method 579 351 (.agg #[h]) "Elem").run prog w = .ok (383, .agg #[h]) w:=by kernel_rfl
theorem methodImplements (h:Value) (w:World):(Go.method 579 351 (.agg #[h]) "Implements").run prog w = .ok (384, .agg #[h]) w:=by kernel_rfl
theorem methodAssignableTo (h:Value) (w:World):(Go.method 579 351 (.agg #[h]) "AssignableTo").run prog w = .ok (381, .agg #[h]) w:=by kernel_rfl
theorem aan (w:World):(ReflectliteType.method ReflectliteType.elem #[.agg #[.pointer (some ⟨16,321,none⟩)]]).run prog w = .ok (.iface 351 (.agg #[.pointer (some ⟨16,320,none⟩)])) w:=by kernel_rfl
theorem WC (w:World):(ReflectliteType.relation "Implements" ReflectliteType.implements_ #[.agg #[.pointer (some ⟨16,320,none⟩)], .iface 351 (.agg #[.pointer (some ⟨16,87,none⟩)])]).run prog w = .ok (.bool true) w:=by kernel_rfl
theorem ZW (v:Value) (w:World):(ReflectliteType.typeOf #[.iface 320 v]).run prog w = .ok (.iface 351 (.agg #[.pointer (some ⟨16,320,none⟩)])) w:=by kernel_rfl
theorem VH (w:World):(ReflectliteType.relation "AssignableTo" ReflectliteType.assignableTo #[.agg #[.pointer (some ⟨16,320,none⟩)], .iface 351 (.agg #[.pointer (some ⟨16,320,none⟩)])]).run prog w = .ok (.bool true) w:=by kernel_rfl
theorem Ym (x y:Value) (w:World):(ReflectliteValue.unpack (.iface 320 (.agg #[x,y]))).run prog w
  = .ok (.agg #[.pointer (some ⟨16,320,none⟩), aA (w.heap.size), .int .u64 153]) (w.alloc (.cells #[x,y] 320)):=by kernel_rfl
theorem rlm (z:Sem Value) (f:TypeId->Addr->Nat->Nat->Sem Value) (v:Value) :
  ReflectliteValue.method z f #[v]=(do match <- ReflectliteValue.parts v with | none=>z | some (t,a,fl)=>f t a fl (fl % 32)):=rfl
theorem NM (a:Addr) (w:World):(ReflectliteValue.parts (VP a)).run prog w = .ok (some (321,a,150)) w:=by kernel_rfl
theorem XU (a p:Addr) (W:World) (ha:W.cell? a=some (.pointer (some p))) :
  (ReflectliteValue.method (ReflectliteValue.valueError "reflectlite.Value.IsNil" 0) ReflectliteValue.isNil #[VP a]).run prog W = .ok (.bool false) W:=by
 rw [rlm];simp only [Sem.run_bind,NM,Result.andThen];simp [ReflectliteValue.isNil,loadVar,isAgg,underlying,underlying321,ha,Result.andThen]
theorem Xp (w:World):(Rtype.elem? 321).run prog w = .ok (some 320) w:=by kernel_rfl
abbrev VW (p:Addr) (fl:Int):Value:=.agg #[.pointer (some ⟨16,320,none⟩), .pointer (some p), .int .u64 fl]
theorem Zu (p:Addr) (w:World):(ReflectliteValue.mk 320 p ReflectliteValue.flagAddr).run prog w = .ok (VW p 409) w:=by kernel_rfl
theorem elemV (a p:Addr) (W:World) (ha:W.cell? a=some (.pointer (some p))) :
  (ReflectliteValue.method (ReflectliteValue.valueError "reflectlite.Value.Elem" 0) ReflectliteValue.elem #[VP a]).run prog W = .ok (VW p 409) W:=by
 rw [rlm];simp only [Sem.run_bind,NM,Result.andThen];simp [ReflectliteValue.elem,loadVar,isAgg,underlying,underlying321,ha,Result.andThen,Xp,Zu]
theorem rls (v x:Value):ReflectliteValue.set #[v,x]=(do
  let (some (dst,a,fl),some (src,b,_)):=(<- ReflectliteValue.parts v,<- ReflectliteValue.parts x)
   | unsupported (.noEntry "extern/(internal/reflectlite.Value).Set.zeroValue")
  if fl / ReflectliteValue.flagAddr % 2==0 then unsupported (.noEntry "extern/(internal/reflectlite.Value).Set.unaddressable")
  let val <- loadVar src b
  if <- Rtype.directlyAssignable dst src then storeVar dst a val
  else if <- Rtype.implements dst src then
   if (<- Rtype.kind src)==20 then
    match val with
    | .nilIface=>unsupported (.noEntry "extern/reflectlite: a nil value of one interface type handed on as a value of another")
    | _=>storeVar dst a val
   else storeVar dst a (.iface src val)
  else panicString ("reflectlite.Set: value of type " ++ (<- Rtype.spelt src) ++ " is not assignable to type " ++ (<- Rtype.spelt dst))
  pure (.tuple #[])):=rfl
theorem YT (a:Addr) (w:World):(ReflectliteValue.parts (VW a 409)).run prog w = .ok (some (320,a,409)) w:=by kernel_rfl
theorem VI (a:Addr) (w:World):(ReflectliteValue.parts (VW a 153)).run prog w = .ok (some (320,a,153)) w:=by kernel_rfl
theorem Yn (w:World):(Rtype.directlyAssignable 320 320).run prog w = .ok true w:=by kernel_rfl
theorem afV:(prog.info? 320).map (·.size)=some 2:=by kernel_rfl
theorem setW (ta b:Nat) (x y o1 o2:Value) (W:World) (hb:aC W b 320 #[x,y]) (ht:aC W ta 320 #[o1,o2]) (h1:x.oneCell'=true) (h2:y.oneCell'=true) :
  (ReflectliteValue.set #[VW ⟨ta,0,none⟩ 409,VW ⟨b,0,none⟩ 153]).run prog W = .ok (.tuple #[]) (W.setRow ta #[x,y]):=by
 rw [rls];simp only [Sem.run_bind,YT,VI,Result.andThen];simp [ReflectliteValue.flagAddr,run_loadVar_row W b 320 320 _ (0,0) _ hb underlying320 rfl afV,Result.andThen,Yn];rw [run_storeVar_row W ta 320 320 #[o1,o2] #[x,y] ht afV rfl (by simp [h1,h2])]
end As
end
def Az (es:Array MapEntry) (q:Int):Option Value:=match Instr.findNow (.int .i64) (ah q) es.toList 0 with | some (some p)=>some p.2 | _=>none
def DJ (es:Array MapEntry):Prop:=∀ x∈es.toList,∃ k,x.key = ah k
def zn:Value->Int->Bool
 | .int .i64 k,q=>decide (k=q)
 | _,_=>false
theorem alE (v:Value) (q:Int):zn v q=true↔v = ah q:=by
 constructor
 ·intro h;unfold zn at h
  split at h
  ·simp at h;subst h;rfl
  cases h
 rintro rfl;simp [zn]
def qw:List MapEntry->Int->Option Value
 | [],_=>none
 | e::es,q=>if zn e.key q=true then some e.val else qw es q
theorem Qd (q:Int):∀ (l:List MapEntry) (i:Nat),(∀ x∈l,∃ k,x.key = ah k) ->
  (Instr.findNow (.int .i64) (ah q) l i=some none/\qw l q=none)\/∃ j v,Instr.findNow (.int .i64) (ah q) l i=some (some (i+j,v))/\qw l q=some v/\∃ e,l[j]?=some e/\e.key = ah q/\e.val=v
 | [],_,_=>.inl ⟨rfl,rfl⟩
 | e::es,i,h=>by
  obtain⟨k,hk⟩:=h e (jZ ..)
  by_cases hq:q=k
  ·subst hq;refine .inr ⟨0,e.val,?_,?_,e,rfl,hk,rfl⟩
   ·simp [Instr.findNow,Instr.sameNow,hk]
   simp [qw,zn,hk]
  have hq':(q==k)=false:=by simpa using hq
  have hkq:¬ k=q:=λe=>hq e.symm
  rcases Qd q es (i+1) (λx hx=>h x (mZ _ hx)) with⟨h1,h2⟩ | ⟨j,v,h1,h2,e',h3,h4⟩
  ·exact .inl ⟨by simp [Instr.findNow,Instr.sameNow,hk,hq',h1],by simp [qw,zn,hk,hkq,h2]⟩
  exact .inr ⟨j+1,v,by simp [Instr.findNow,Instr.sameNow,hk,hq',h1];omega,by simp [qw,zn,hk,hkq,h2],e',h3,h4⟩
theorem Ey {es:Array MapEntry} (h:DJ es) (q:Int):Az es q=qw es.toList q:=by
 unfold Az
 rcases Qd q es.toList 0 h with⟨h1,h2⟩ | ⟨j,v,h1,h2,_⟩ <;> rw [h1,h2]
theorem ajy (l:List MapEntry) (e:MapEntry) (k q:Int) (hk:e.key = ah k) (hn:qw l k=none):qw (l++[e]) q=if q=k then some e.val else qw l q:=by
 induction l with
 | nil =>
  by_cases h:q=k
  ·subst h;simp [qw,zn,hk]
  have:¬ k=q:=λe=>h e.symm
  simp [qw,zn,hk,h,this]
 | cons x t ih =>
  simp only [qw] at hn
  split at hn
  ·cases hn
  rename_i hx
  simp only [jd,qw];rw [ih hn]
  by_cases h:q=k
  ·subst h;rw [aF hx,aG rfl,aG rfl]
  rw [aF h,aF h]
theorem abw (k q:Int) (v:Value):∀ (l:List MapEntry) (j:Nat) (e:MapEntry),l[j]?=some e->e.key = ah k->qw l k=some e.val->(∀ i x,i<j->l[i]?=some x->x.key≠ah k) ->
  qw (l.modify j (λe=>{ e with key:=ah k,val:=v })) q=if q=k then some v else qw l q
 | [],_,_,h,_,_,_=>by simp at h
 | x::t,0,e,h,hk,_,_=>by
  simp at h;subst h;simp only [List.modify_zero_cons,qw]
  by_cases hq:q=k
  ·subst hq;simp [zn]
  have:¬ k=q:=λe=>hq e.symm
  simp [hq,this,hk,zn]
 | x::t,j+1,e,h,hk,hl,hf=>by
  have hx:=hf 0 x (by omega) rfl;simp only [List.getElem?_cons_succ] at h;simp only [qw] at hl;have hx':¬ zn x.key k=true:=λe=>hx ((alE _ _).mp e)
  rw [aF hx'] at hl;have ih:=abw k q v t j e h hk hl (λi y hi hy=>hf (i+1) y (by omega) (by simpa using hy));simp only [List.modify_succ_cons,qw];rw [ih]
  by_cases hq:q=k
  ·subst hq;rw [aF hx',aG rfl,aG rfl]
  rw [aF hq,aF hq]
theorem ajd (k:Int):∀ (l:List MapEntry) (i j:Nat) (v:Value),(∀ x∈l,∃ k,x.key = ah k)->Instr.findNow (.int .i64) (ah k) l i=some (some (i+j,v))->∀ m x,m<j->l[m]?=some x->x.key≠ah k
 | [],_,_,_,_,h=>by simp [Instr.findNow] at h
 | e::es,i,j,v,hk,h=>by
  obtain⟨k',hk'⟩:=hk e (jZ ..)
  by_cases hq:k=k'
  ·subst hq;simp [Instr.findNow,Instr.sameNow,hk'] at h;intro m x hm;omega
  have hq':(k==k')=false:=by simpa using hq
  simp [Instr.findNow,Instr.sameNow,hk',hq'] at h;intro m x hm hx
  cases m with
  | zero =>
   simp at hx;subst hx;rw [hk'];intro e;injection e with _ e;exact hq e.symm
  | succ m =>
   exact ajd k es (i+1) (j-1) v (λx hx=>hk x (mZ _ hx)) (by rw [h];congr 3;omega) m x (by omega) (by simpa using hx)
section
variable {P:Program} {T K E:TypeId}
theorem U6 (hm:P.underlying T=some (.map K E)) (hk:P.underlying K=some (.int .i64)) (W:World) (es:Array MapEntry) (clk:Nat) (k:Int) (n:Nat) (hg:W.heap[n]?=some (.map es clk)) (hik:DJ es) (z:Value) (hz:(zeroValue E).run P W = .ok z W) :
  (Instr.lookup T (.map (some n)) (ah k) false).run P W = .ok ((Az es k).getD z) W:=by
 have h1:(Instr.checkKey es.isEmpty 10000 K (ah k)).run P W = .ok () W:=MapKept.run_checkKey hk (by simp [MapKept.IsKey]) _ 9999
 rcases Qd k es.toList 0 hik with⟨hf,hl⟩ | ⟨j,v,hf,hl,_⟩
 ·have h2:=MapKept.run_findKey (P:=P) (w:=W) hk hf;unfold Instr.lookup;rw [Ey hik,hl];simp only [Sem.run_bind,run_underlying hm,Result.andThen,MapKept.run_getObj_map hg,h1,h2,Sem.run_pure,Bool.false_eq_true,if_false,hz,Option.getD_none]
 have h2:=MapKept.run_findKey (P:=P) (w:=W) hk hf;unfold Instr.lookup;rw [Ey hik,hl];simp only [Sem.run_bind,run_underlying hm,Result.andThen,MapKept.run_getObj_map hg,h1,h2,Sem.run_pure,Bool.false_eq_true,if_false,jE]
theorem anb (hm:P.underlying T=some (.map K E)) (hk:P.underlying K=some (.int .i64)) (W:World) (es:Array MapEntry) (clk:Nat) (k:Int) (v:Value) (n:Nat) (hg:W.heap[n]?=some (.map es clk)) (hik:DJ es) :
  ∃ es' lV,(Instr.mapUpdate T (.map (some n)) (ah k) v).run P W = .ok () (W.putObj n (.map es' lV))/\DJ es'/\∀ q,Az es' q=if q=k then some v else Az es q:=by
 have h1:(Instr.checkKey false 10000 K (ah k)).run P W = .ok () W:=MapKept.run_checkKey hk (by simp [MapKept.IsKey]) false 9999
 rcases Qd k es.toList 0 hik with⟨hf,hl⟩ | ⟨j,v0,hf,hl,e,he,hek,hev⟩
 ·have h2:=MapKept.run_findKey (P:=P) (w:=W) hk hf;have hik':DJ (es.push ⟨ah k,v,clk⟩):=by
   intro x hx;rw [Array.toList_push,lM,fU] at hx
   rcases hx with hx | rfl
   ·exact hik x hx
   exact⟨k,rfl⟩
  refine⟨es.push ⟨ah k,v,clk⟩,clk+1,?_,hik',λq=>?_⟩
  ·unfold Instr.mapUpdate;simp only [Sem.run_bind,run_underlying hm,Result.andThen,MapKept.run_getObj_map hg,h1,h2,MapKept.run_setObj_map _ hg]
   rfl
  rw [Ey hik',Ey hik,Array.toList_push,ajy _ _ k q rfl hl]
 have h2:=MapKept.run_findKey (P:=P) (w:=W) hk hf;rw [Nat.zero_add] at hf h2;have hje:es[j]?=some e:=by simpa using he
 have hik':DJ (es.modify j (λe=>{ e with key:=ah k,val:=v })):=by
  intro x hx
  rcases MapFrom.mem_modify hx with hx | ⟨e',_,rfl⟩
  ·exact hik x hx
  exact⟨k,rfl⟩
 refine⟨es.modify j (λe=>{ e with key:=ah k,val:=v }),clk,?_,hik',λq=>?_⟩
 ·unfold Instr.mapUpdate;simp only [Sem.run_bind,run_underlying hm,Result.andThen,MapKept.run_getObj_map hg,h1,h2,hje,Option.map_some,jE,hek,MapKept.run_keyThatStays (k:=ah k) (d:=.int .i64) (by simp [MapKept.IsKey]),MapKept.run_setObj_map _ hg]
  rfl
 rw [Ey hik',Ey hik,Array.toList_modify];exact abw k q v es.toList j e he hek (by rw [hl,hev]) (λi x hi hx=>ajd k es.toList 0 j v0 hik (by rw [Nat.zero_add];exact hf) i x hi hx)
end
def aeL {α:Type} (n:Nat) (P:Program) (gf:Nat) (lb:Array Value) (encs:α->Array Value) (own keep:Nat->Prop) (ok:List α->α->World->Prop) (S:List α->World->Prop) (l:Nat) (W1:World):Prop :=
 ∀ (J Jx:List α->World->Prop),(∀ pre W W',J pre W->Turns own W W'->J pre W')->(∀ pre W W',Jx pre W->Turns (λ_=>False) W W'->Jx pre W') ->
  (∀ pre x W0 W,J pre W0->Turns own W0 W->ok pre x W->YieldAt Fence.wide (n-1) P l (encs x) W λe W'=>(e = .returned (.bool true)/\J (pre++[x]) W'/\Turns (λk=>¬ (keep k\/(W0.heap.size<=k/\k<W.heap.size))) W W')\/(e = .returned (.bool false)/\Jx (pre++[x]) W')) ->
  J [] W1->CallsIn Fence.wide n P gf (#[.func (.yield l) #[] #[]]++lb) W1 λe W'=>(∃ v,e = .returned v)/\((∃ xs,S xs W'/\J xs W')\/(∃ pre,Jx pre W'))
def afm {α:Type} (keep:Nat->Prop) (I:List α->World->Prop) (Ix:Code->List α->World->Prop) (l D:Nat) (xs:List α) (W:World):Exit->Act->World->Prop
 | .normal,_,W'=>Turns (λk=>¬ (keep k\/k=l\/k=D)) W W'/\I xs W'
 | .ret,_,W'=>Holds (λk=>k=l\/k=D) W W'/\Ix .ret xs W'
 | .exit id,_,W'=>Holds (λk=>k=l\/k=D) W W'/\Ix (.exit id) xs W'
 | .goto t,_,W'=>Holds (λk=>k=l\/k=D) W W'/\Ix (.goto t) xs W'
 | .panic _,_,_=>False
 | .outgrown,_,_=>False
theorem akh {α:Type} {P:Program} {n:Nat} {g:Operand} {ps:Array Tmp} {assign body:Code} {Q:Exit->Act->World->Prop} {a:Act} {w:World}
  {gf:Nat} {lb:Array Value} (hg:a.eval g = .func (.func gf) #[] lb) (eg:∀ args w,(callFunc gf args).run P w = .ok (.enter gf args) w)
  {encs:α->Array Value} {own keep:Nat->Prop} {ok:List α->α->World->Prop} {S:List α->World->Prop} (hown:∀ k,own k\/keep k->k<w.heap.size)
  (hit:∀ W1,Turns (λ_=>False) w W1->aeL (n-1) P gf lb encs own keep ok S (w.heap.size+1) W1)
  (hps:∀ x,(encs x).size=ps.size)
  (I:List α->World->Prop) (Ix:Code->List α->World->Prop)
  (hI:∀ pre W W',I pre W->Turns (λk=>own k\/k=w.heap.size+1) W W'->I pre W')
  (hIx:∀ c pre W W',Ix c pre W->Turns (λk=>k=w.heap.size+1) W W'->Ix c pre W')
  (hokS:∀ pre x W W',ok pre x W->Turns (λk=>k=w.heap.size+1) W W'->ok pre x W') (h0:I [] w) (Ax:α->Act->World->Prop) (hAx:∀ x a1 W W',Ax x a1 W->Turns (λk=>k=w.heap.size+1) W W'->Ax x a1 W')
  (hassign:∀ (x:α) (W:World) (K:Act->World->Prop),w.heap.size+2<=W.heap.size->(∀ a1 W1,Turns (λ_=>False) W W1->Ax x a1 W1->K a1 W1) ->
   assign.wpIn (Fence.wide.inRound (w.heap.size+1)) (n-1-1) P (Exit.then K (λ_ _ _=>False)) { tmps:=(ps.zip (encs x)).foldl (λt (p,v)=>t.setIfInBounds p v) a.tmps,defers:=[] } W)
  (hbody:∀ (pre:List α) (x:α) (a1:Act) (W0 W:World) (N:Nat),w.heap.size+2<=W0.heap.size->I pre W0->Turns (λk=>own k\/k=w.heap.size+1) W0 W->N<=W.heap.size->ok pre x W->Ax x a1 W ->
   body.wpIn (Fence.wide.inRound (w.heap.size+1)) (n-1-1) P (afm (λk=>keep k\/(W0.heap.size<=k/\k<N)) I Ix (w.heap.size+1) w.heap.size (pre++[x]) W) a1 W)
  (hdone:∀ (xs:List α) (W:World),w.heap.size+2<=W.heap.size->S xs W->I xs W->W.heap[w.heap.size]?=some (.deferred (some []))->Q .normal { a with defers:={ target:=.collected w.heap.size,args:=#[] }::a.defers } W)
  (hstop:∀ (c:Code) (pre:List α) (W:World),w.heap.size+2<=W.heap.size->Ix c pre W->W.heap[w.heap.size]?=some (.deferred (some []))->c.wpIn Fence.wide n P Q { a with defers:={ target:=.collected w.heap.size,args:=#[] }::a.defers } W)
  (hS:∀ xs W W',S xs W->Turns (λk=>k=w.heap.size+1) W W'->S xs W') :
  (Code.rangeFunc g ps assign body).wpIn Fence.wide n P Q a w:=by
 refine wpIn_rangeFunc ?_;intro fn hfn;obtain⟨rec,hrec⟩:∃ rec:LoopState->Option Code->Loop,rec=λst pe=>{ state:=st,pending:=pe,fn,tmps:=a.tmps,params:=ps,assign,body,defers:=w.heap.size }:=⟨_,rfl⟩
 obtain⟨W1,hW1⟩:∃ W1,(w.alloc (.deferred (some []))).alloc (.loop (rec .ready none))=W1:=⟨_,rfl⟩
 have hL1:W1.heap[w.heap.size+1]?=some (.loop (rec .ready none)):=by
  rw [<- hW1];have:=World.alloc_heap_new (w.alloc (.deferred (some []))) (.loop (rec .ready none));rwa [World.size_alloc] at this
 have hK1:W1.heap[w.heap.size]?=some (.deferred (some [])):=by
  rw [<- hW1];exact(Below.heap_alloc _ _ _ (by simp)).trans (World.alloc_heap_new w _)
 have hT1:∀ o,Turns o w W1:=λo=>by rw [<- hW1];exact(Turns.alloc w _).trans (Turns.alloc _ _)
 have hI1:I [] W1:=hI _ _ _ h0 (hT1 _);refine⟨w.heap.size+1,[{ target:=.collected w.heap.size,args:=#[] }],W1,{ target:=.fn (.func gf) lb,args:=#[.func (.yield (w.heap.size+1)) #[] #[]] },W1,gf,
  #[.func (.yield (w.heap.size+1)) #[] #[]]++lb,W1,?_,?_,?_,?_,λh=>by simp [Fence.wide] at h,?_⟩
 ·rw [<- hW1,hrec];exact run_enterLoop_outer _ _ _ _ _
 ·simp only [resolve,hg];simp [go_sem]
 ·intro f' _;trivial
 ·simp [invoke,go_sem,eg]
 have hnl:¬ own (w.heap.size+1):=λh=>by have:=hown _ (.inl h);omega
 have hnd:¬ own w.heap.size:=λh=>by have:=hown _ (.inl h);omega
 refine(hit W1 (hT1 _)
  (λpre W=>I pre W/\W.heap[w.heap.size+1]?=some (.loop (rec .ready none))/\W.heap[w.heap.size]?=some (.deferred (some [])))
  (λpre W=>∃ c,Ix c pre W/\W.heap[w.heap.size+1]?=some (.loop (rec .done (some c)))/\W.heap[w.heap.size]?=some (.deferred (some [])))
  ?_ ?_ ?_ ⟨hI1,hL1,hK1⟩).mono ?_
 ·rintro pre W W' ⟨hi,hl,hk⟩ ht;exact⟨hI _ _ _ hi (ht.mono λk=>.inl),(ht.block _ (fF.1 hl).1 hnl).trans hl,(ht.block _ (fF.1 hk).1 hnd).trans hk⟩
 ·rintro pre W W' ⟨c,hi,hl,hk⟩ ht;exact⟨c,hIx _ _ _ _ hi (ht.mono λk h=>h.elim),(ht.block _ (fF.1 hl).1 (λh=>h)).trans hl,(ht.block _ (fF.1 hk).1 (λh=>h)).trans hk⟩
 ·-- one round
  rintro pre x W0 W ⟨hi,hl0,hk0⟩ ht hok;have hlt0:w.heap.size+1<W0.heap.size:=(fF.1 hl0).1;have hl:=(ht.block _ hlt0 hnl).trans hl0;have hk:=(ht.block _ (by omega) hnd).trans hk0;have hlt:w.heap.size+1<W.heap.size:=(fF.1 hl).1;have hy:=run_yield (P:=P) (args:=encs x) hl (by rw [hrec];exact hps x);rw [hrec] at hy;refine⟨fn,_,assign,body,hy,roundIn_of_wpIn hfn (hassign x W _ (by omega) λa1 Wa ha hax=>?_)⟩;have hla:Wa.heap[w.heap.size+1]?=some (.loop (rec .ready none)):=(ha.block _ hlt (λh=>h)).trans hl;have hka:Wa.heap[w.heap.size]?=some (.deferred (some [])):=(ha.block _ (by omega) (λh=>h)).trans hk;have JG:w.heap.size+1<Wa.heap.size:=(fF.1 hla).1;refine⟨_,run_beginRound hla (by rw [hrec]),?_⟩;obtain⟨Wb,nJ⟩:∃ Wb,Wa.putObj (w.heap.size+1) (.loop { rec .ready none with state:=.busy })=Wb:=⟨_,rfl⟩
  rw [nJ];have htb:∀ o:Nat->Prop,o (w.heap.size+1)->Turns o Wa Wb:=λo ho=>by rw [<- nJ];exact Turns.putObj _ ho _
  have hlb:Wb.heap[w.heap.size+1]?=some (.loop { rec .ready none with state:=.busy }):=by rw [<- nJ];exact World.putObj_heap_same JG
  have hkb:Wb.heap[w.heap.size]?=some (.deferred (some [])):=by rw [<- nJ];exact(World.putObj_heap_other (by omega)).trans hka
  have hsb:Wb.heap.size=Wa.heap.size:=by rw [<- nJ];simp
  refine wpIn_mono (hbody pre x a1 W0 Wb W.heap.size (by omega) hi ((ht.mono λ_ h=>.inl h).trans ((ha.mono λ_ h=>h.elim).trans (htb _ (.inr rfl)))) (by have:=ha.size;omega) (hokS _ _ _ _ hok ((ha.mono λ_ h=>h.elim).trans (htb _ rfl))) (hAx _ _ _ _ hax (htb _ rfl))) ?_;have fin:∀ (jump:Option Code) (W3:World),Holds (λk=>k=w.heap.size+1\/k=w.heap.size) Wb W3 ->
    (Instr.endRound (w.heap.size+1) jump).run P W3 = .ok (.bool jump.isNone) (W3.putObj (w.heap.size+1) (.loop (rec (if jump.isNone then .ready else .done) jump))) /\
    (W3.putObj (w.heap.size+1) (.loop (rec (if jump.isNone then .ready else .done) jump))).heap[w.heap.size+1]?=some (.loop (rec (if jump.isNone then .ready else .done) jump)) /\
    (W3.putObj (w.heap.size+1) (.loop (rec (if jump.isNone then .ready else .done) jump))).heap[w.heap.size]?=some (.deferred (some [])):=λjump W3 hk3=>by
   have hl3:=(hk3.block _ (.inl rfl)).trans hlb;have:=run_endRound (P:=P) jump hl3;rw [hrec] at this ⊢;exact⟨this,World.putObj_heap_same (fF.1 hl3).1,(World.putObj_heap_other (by omega)).trans ((hk3.block _ (.inr rfl)).trans hkb)⟩
  rintro e a3 W3 hp
  cases e with
  | normal =>
   obtain⟨ht3,hi3⟩:=hp;have hh:Holds (λk=>k=w.heap.size+1\/k=w.heap.size) Wb W3:=Holds.zX ht3 (λk hk=>by rw [hsb];omega) (λk hk hn=>hn (.inr hk));obtain⟨hr,hl4,hk4⟩:=fin none W3 hh;refine⟨_,_,hr, .inl ⟨rfl,⟨hI _ _ _ hi3 (Turns.putObj _ (.inr rfl) _),hl4,hk4⟩,?_⟩⟩;have hnk:¬ (keep (w.heap.size+1)\/(W0.heap.size<=w.heap.size+1/\w.heap.size+1<W.heap.size)):=by
    rintro(h | h)
    ·have:=hown _ (.inr h);omega
    omega
   exact(((ha.mono λ_ h=>h.elim).trans (htb _ hnk)).trans (ht3.mono λk hk hn=>hk (.inl hn))).trans (Turns.putObj _ hnk _)
  | ret =>
   obtain⟨hh,hi3⟩:=hp;obtain⟨hr,hl4,hk4⟩:=fin (some .ret) W3 hh;exact⟨_,_,hr, .inr ⟨rfl, .ret,hIx _ _ _ _ hi3 (Turns.putObj (own:=λk=>k=w.heap.size+1) _ rfl _),hl4,hk4⟩⟩
  | exit id =>
   obtain⟨hh,hi3⟩:=hp;obtain⟨hr,hl4,hk4⟩:=fin (some (.exit id)) W3 hh;exact⟨_,_,hr, .inr ⟨rfl, .exit id,hIx _ _ _ _ hi3 (Turns.putObj (own:=λk=>k=w.heap.size+1) _ rfl _),hl4,hk4⟩⟩
  | goto t =>
   obtain⟨hh,hi3⟩:=hp;obtain⟨hr,hl4,hk4⟩:=fin (some (.goto t)) W3 hh;exact⟨_,_,hr, .inr ⟨rfl, .goto t,hIx _ _ _ _ hi3 (Turns.putObj (own:=λk=>k=w.heap.size+1) _ rfl _),hl4,hk4⟩⟩
  | panic ch=>exact hp.elim
  | outgrown=>exact hp.elim
 -- behind the iterator
 rintro e W2 ⟨⟨v,rfl⟩,(⟨xs,IW,hi,hl,hk⟩ | ⟨pre,c,hi,hl,hk⟩)⟩
 ·have hlt:=(fF.1 hl).1;exact⟨none,_,by have:=run_endLoop (P:=P) hl (by rw [hrec];simp);rw [hrec] at this;exact this,
   hdone xs _ (by simp;omega) (hS _ _ _ IW (Turns.putObj (own:=λk=>k=w.heap.size+1) _ rfl _)) (hI _ _ _ hi (Turns.putObj _ (.inr rfl) _)) ((World.putObj_heap_other (by omega)).trans hk)⟩
 have hlt:=(fF.1 hl).1;exact⟨some c,_,by have:=run_endLoop (P:=P) hl (by rw [hrec];simp);rw [hrec] at this;exact this,
  hstop c pre _ (by simp;omega) (hIx _ _ _ _ hi (Turns.putObj (own:=λk=>k=w.heap.size+1) _ rfl _)) ((World.putObj_heap_other (by omega)).trans hk)⟩
section
open Go
theorem aoU (s:ByteArray) (i k:Nat) (d:UInt8) (h:(s.data.toList.drop i)[k]?=some d):(s.get! (i+k)).toNat=d.toNat/\i+k<s.size:=by
 rw [xY] at h;obtain⟨h1,h2⟩:=dO h;have h3:i+k<s.size:=by rw [<- ByteArray.size_data,<- Array.length_toList];exact h1
 refine⟨?_,h3⟩;have e:s.get! (i+k)=s[i+k]'h3:=by
  show s.get! (i+k)=_
  simp [ByteArray.get!,getElem!_pos,h3]
  rfl
 rw [e]
 congr 1
theorem SQ (n:Nat) (h:n<256):(U.byte (n:Int)).toNat=n:=by
 have:=U.AA (n:Int) (by omega) (by omega);unfold U.aH at this;omega
def E5 (b0 b1 b2 b3:Nat) (c1 c2 c3:Bool):Nat×Nat :=
 if b0<128 then (b0,1)
 else if (b0 / 32==6&&c1)=true then (if b0 % 32*64+b1 % 64≥128 then (b0 % 32*64+b1 % 64,2) else (Utf8.runeError,1))
 else if (b0 / 16==14&&c1&&c2)=true then (if (decide (b0 % 16*4096+b1 % 64*64+b2 % 64≥2048)&&Utf8.valid ((b0 % 16*4096+b1 % 64*64+b2 % 64:Nat):Int))=true then (b0 % 16*4096+b1 % 64*64+b2 % 64,3) else (Utf8.runeError,1))
 else if (b0 / 8==30&&c1&&c2&&c3)=true then (if (decide (b0 % 8*262144+b1 % 64*4096+b2 % 64*64+b3 % 64≥65536)&&Utf8.valid ((b0 % 8*262144+b1 % 64*4096+b2 % 64*64+b3 % 64:Nat):Int))=true then (b0 % 8*262144+b1 % 64*4096+b2 % 64*64+b3 % 64,4) else (Utf8.runeError,1))
 else (Utf8.runeError,1)
theorem ajV (s:ByteArray) (i:Nat):Utf8.decode s i=E5 (s.get! (i+0)).toNat (s.get! (i+1)).toNat (s.get! (i+2)).toNat (s.get! (i+3)).toNat
  (decide (i+1<s.size)&&(s.get! (i+1)).toNat / 64==2) (decide (i+2<s.size)&&(s.get! (i+2)).toNat / 64==2) (decide (i+3<s.size)&&(s.get! (i+3)).toNat / 64==2):=rfl
theorem arp (n b1 b2 b3:Nat) (c1 c2 c3:Bool) (h:n<128):E5 n b1 b2 b3 c1 c2 c3=(n,1):=by unfold E5;rw [aG h]
theorem aku (n b2 b3:Nat) (c2 c3:Bool) (h:128<=n) (h2:n<2048):E5 (192+n / 64) (128+n % 64) b2 b3 true c2 c3=(n,2):=by
 unfold E5;have e:(192+n / 64) % 32*64+(128+n % 64) % 64=n:=by omega
 have e2:(192+n / 64) / 32=6:=by omega
 rw [e,e2,aF (by omega),aG (by rfl),aG h]
theorem auJ (n b3:Nat) (c3:Bool) (h:2048<=n) (h2:n<65536) (hv:Utf8.valid (n:Int)=true):E5 (224+n / 4096) (128+n / 64 % 64) (128+n % 64) b3 true true c3=(n,3):=by
 unfold E5;have e:(224+n / 4096) % 16*4096+(128+n / 64 % 64) % 64*64+(128+n % 64) % 64=n:=by omega
 have e1:((224+n / 4096) / 32==6)=false:=by rw [fG];omega
 have e2:(224+n / 4096) / 16=14:=by omega
 rw [e,e1,e2,aF (by omega),aF (by simp),aG (by rfl),aG (by rw [hv,bD h];rfl)]
theorem apc (n:Nat) (h:65536<=n) (h2:n<1114112) (hv:Utf8.valid (n:Int)=true):E5 (240+n / 262144) (128+n / 4096 % 64) (128+n / 64 % 64) (128+n % 64) true true true=(n,4):=by
 unfold E5;have e:(240+n / 262144) % 8*262144+(128+n / 4096 % 64) % 64*4096+(128+n / 64 % 64) % 64*64+(128+n % 64) % 64=n:=by omega
 have e1:((240+n / 262144) / 32==6)=false:=by rw [fG];omega
 have e2:((240+n / 262144) / 16==14)=false:=by rw [fG];omega
 have e3:(240+n / 262144) / 8=30:=by omega
 rw [e,e1,e2,e3,aF (by omega),aF (by simp),aF (by simp),aG (by rfl),aG (by rw [hv,bD h];rfl)]
theorem ar0 (n:Nat) (hr:U.right (n:Int)=true):Utf8.valid (n:Int)=true:=by
 rw [U.Gs] at hr;simp [Utf8.valid];omega
theorem afa (s:ByteArray) (i n:Nat) (t:List UInt8) (hr:U.right (n:Int)=true) (h:s.data.toList.drop i=U.enc (n:Int)++t):Utf8.decode s i=(n,(U.enc (n:Int)).length):=by
 have hv:=ar0 n hr;rw [U.Gs] at hr;have key:∀ k d,(U.enc (n:Int))[k]?=some d->(s.get! (i+k)).toNat=d.toNat/\i+k<s.size:=λk d hk=>aoU s i k d (by
  rw [h,zU (dO hk).1];exact hk)
 have cont:∀ m,m / 64=2->∀ k,i+k<s.size->(decide (i+k<s.size)&&m / 64==2)=true:=λm hm k hk=>by rw [bD hk,hm];rfl
 rw [ajV]
 by_cases h1:n<128
 ·have e:U.enc (n:Int)=[U.byte (n:Int)]:=by unfold U.enc;rw [aG (by omega)]
  rw [e] at key ⊢;have k0:=(key 0 _ rfl).1;rw [SQ n (by omega)] at k0;rw [k0,arp _ _ _ _ _ _ _ h1]
  rfl
 by_cases h2:n<2048
 ·have e:U.enc (n:Int)=[U.byte ((192+n / 64:Nat):Int),U.byte ((128+n % 64:Nat):Int)]:=by
   unfold U.enc;rw [aF (by omega),aG (by omega)];rfl
  rw [e] at key ⊢;have k0:=(key 0 _ rfl).1;obtain⟨k1,s1⟩:=key 1 _ rfl;rw [SQ _ (by omega)] at k0 k1;rw [k0,k1,cont _ (by omega) 1 s1,aku _ _ _ _ _ (by omega) h2]
  rfl
 by_cases h3:n<65536
 ·have e:U.enc (n:Int)=[U.byte ((224+n / 4096:Nat):Int),U.byte ((128+n / 64 % 64:Nat):Int),U.byte ((128+n % 64:Nat):Int)]:=by
   unfold U.enc;rw [aF (by omega),aF (by omega),aG (by omega)];rfl
  rw [e] at key ⊢;have k0:=(key 0 _ rfl).1;obtain⟨k1,s1⟩:=key 1 _ rfl;obtain⟨k2,s2⟩:=key 2 _ rfl;rw [SQ _ (by omega)] at k0 k1 k2;rw [k0,k1,k2,cont _ (by omega) 1 s1,cont _ (by omega) 2 s2,auJ _ _ _ (by omega) h3 hv]
  rfl
 have e:U.enc (n:Int)=[U.byte ((240+n / 262144:Nat):Int),U.byte ((128+n / 4096 % 64:Nat):Int),U.byte ((128+n / 64 % 64:Nat):Int),U.byte ((128+n % 64:Nat):Int)]:=by
  unfold U.enc;rw [aF (by omega),aF (by omega),aF (by omega)];rfl
 rw [e] at key ⊢;have k0:=(key 0 _ rfl).1;obtain⟨k1,s1⟩:=key 1 _ rfl;obtain⟨k2,s2⟩:=key 2 _ rfl;obtain⟨k3,s3⟩:=key 3 _ rfl;rw [SQ _ (by omega)] at k0 k1 k2 k3;rw [k0,k1,k2,k3,cont _ (by omega) 1 s1,cont _ (by omega) 2 s2,cont _ (by omega) 3 s3,apc _ (by omega) (by omega) hv]
 rfl
def dF (s:List UInt8):List Int:=(U.scalars (M.fix s)).getD []
theorem Et (s:List UInt8):U.scalars (M.fix s)=some (dF s):=by
 obtain⟨l,h,-⟩:=M.Uj s;unfold dF;rw [h]
 rfl
theorem Dx (s:List UInt8):∀ r∈dF s,U.right r=true:=((U.zJ _ _).1 (Et s)).2
theorem avr (s:List UInt8):U.textOf (dF s)=M.fix s:=((U.zJ _ _).1 (Et s)).1
def jU (t:F.Trie) (l:List Int):List Int:=l.map (F.says t)
end
section
open Go.Shelf
attribute [local go_sem] Oper.semAt_some
def SB (s:ByteArray) (A:Nat->Addr) (b:Nat) (xs:List Int) (W:World):Prop :=
 (U.scalars s.data.toList=some xs/\∃ s',aC W b 152 #[.string s', .nilIface])\/(U.scalars s.data.toList=none/\∃ s',aC W b 152 #[.string s',oZ A 3])
theorem anT (l:List Int):l.length<=(U.textOf l).length:=by
 induction l with
 | nil=>simp
 | cons r l ih =>
  have:=U.Jo r;show l.length+1<=(U.enc r++U.textOf l).length
  rw [bC];omega
theorem E.holds {A:Nat->Addr} {B:Nat} {w w':World} (h:E A B w) {own:Nat->Prop} (hh:Holds own w w') (hB:∀ k,k<B->own k):E A B w' where
 var g hg:=(World.cell?_of_block (hh.block g (hB _ (h.lt g hg).1))).trans (h.var g hg)
 row g hg:=by
  obtain⟨c,t,hr⟩:=h.row g hg;exact⟨c,t,(hh.block _ (hB _ (h.lt g hg).2)).trans hr⟩
 lt:=h.lt
 ne:=h.ne
theorem Holds.blk {own:Nat->Prop} {A B:World} (h:Holds own A B) {g:Nat} {t:TypeId} {cs:Array Value} (hb:aC A g t cs) (hg:own g):aC B g t cs:=(h.block g hg).trans hb
theorem E.only {A:Nat->Addr} {B:Nat} {w w':World} {b:Nat} (h:E A B w) (hg:w.grownBy w' (some b)) (hB:B<=b) (hB2:B<=w.heap.size):E A B w':=h.below (IZ hg hB hB2)
theorem alg (n:Nat) (A:Nat->Addr) (B b Bn:Nat) (s:ByteArray) (hs:s.size<=maxLen) (l:Nat) (W1:World)
  (hE:E A B W1) (hB:B<=b) (hB2:B<=Bn) (hne:b≠Bn) (hb:aC W1 b 152 #[.string s, .nilIface]) (hBn:aC W1 Bn 148 #[aA b]) :
  Sz (n+1) prog 160 #[aA Bn] (λx:Int=>#[ah x]) (λk=>k=b) (λk=>k=b\/k=Bn\/k<B) (λpre _=>pre.length<s.size) (SB s A b) l W1:=by
 intro J Jx hJ hJx hY h0;have HY:=bx hY;have HJ:=bx hJ;clear hY hJ;refine callsIn_of_wp func160 rfl trivial ?_;simp only [ntmps160,qH,dY,iG,Nat.reduceAdd,Nat.reduceSub,rE,qW,ou,qQ,iJ,jd]
 gi_wp2
 refine wpIn_wide.2 (wp_scope_straight ((wpIn_wide (n:=n+1)).1 ?_))
 gi_wp2
 refine wpIn_label ?_
 gi_wp2
 gi_loopw [3] (λv wr=>∃ (pre:List Int) (rest:ByteArray),rest.size<=s.size/\Box (U.textOf pre++rest.data.toList=s.data.toList/\∀ r∈pre,U.right r=true)/\E A B wr/\aC wr b 152 #[.string rest, .nilIface]/\aC wr Bn 148 #[aA b]/\J pre wr)
  (λ_ wr=>match wr.cell? ⟨b,0,none⟩ with | some (.string r)=>r.size | _=>0)
 ·exact⟨[],s,bK _,⟨⟨rfl,λr hr=>by cases hr⟩⟩,hE,hb,hBn,h0⟩
 obtain⟨pre,rest,hrs,hp,hEr,hbr,Kv,hj⟩:=hrel;have c0:wr.cell? ⟨b,0,none⟩=some (.string rest):=(hbr.cell 0).trans rfl;have c1:wr.cell? ⟨Bn,0,none⟩=some (aA b):=(Kv.cell 0).trans rfl
 cases hl:rest.data.toList with
 | nil =>
  have hz:=isEmpty_nil hl;have HS:=bx (show SB s A b pre wr from .inl ⟨(U.zJ _ _).2 ⟨by rw [<- hp.o.1,hl,oG],hp.o.2⟩,rest,hbr⟩);clear hl
  gi_wp2
  rw [Exit.noGoto_normal]
  go_end0
  exact⟨⟨_,rfl⟩, .inl ⟨pre,HS.o,hj⟩⟩
 | cons c t =>
  have hz:=isEmpty_cons hl;have HN:=bx ((callsIn_wide (n:=n)).2 (next_any A B b .nilIface rest wr (by omega) hEr hB hbr));have hsz:B<=wr.heap.size:=by have:=hbr.lt;omega
  have HEr:=bx hEr;have HBn:=bx Kv;have HJr:=bx hj;have HL:=bx hl;clear hEr hbr Kv hj hl
  gi_wp2
  refine⟨trivial,HN.o.mono ?_⟩;intro e w2 hN;unfold IL at hN
  cases hd:U.dec rest.data.toList with
  | none =>
   rw [hd] at hN;obtain⟨rfl,hb2,hg2⟩:=hN;have HS:=bx (show SB s A b pre w2 from .inr ⟨by
    rw [<- hp.o.1,U.ah7 _ hp.o.2,U.QI (by rw [HL.o];simp) hd];rfl,rest,hb2⟩)
   have HJ2:=bx (HJ.o _ _ _ HJr.o (Turns.ajf hg2 rfl));clear hd hb2 hg2
   gi_wp2
   refine⟨λ_ h=>(by cases h),?_⟩
   gi_wp2
   rw [Exit.noGoto_normal]
   go_end0
   exact⟨⟨_,rfl⟩, .inl ⟨pre,HS.o,HJ2.o⟩⟩
  | some p =>
   obtain⟨r,m⟩:=p;rw [hd] at hN;obtain⟨rfl,hb2,hg2⟩:=hN;obtain⟨hr,he,hm1,_,hm⟩:=U.JF hd;have hj2:=HJ.o _ _ _ HJr.o (Turns.ajf hg2 rfl);have hE2:=HEr.o.only hg2 hB hsz;have aey:aC w2 Bn 148 #[aA b]:=HBn.o.grown hg2 (by intro e;cases e;exact hne rfl);have HB2:=bx hb2;have HE2:=bx hE2;have awt:=bx aey;have hsr:rest.size=rest.data.toList.length:=size_eq rest;have HP:=bx (show (rest.extract m rest.size).size<=s.size/\(rest.extract m rest.size).size<rest.size/\U.textOf (pre++[r])++(rest.extract m rest.size).data.toList=s.data.toList/\∀ x∈pre++[r],U.right x=true by
    have hx:(rest.extract m rest.size).data.toList=rest.data.toList.drop m:=Lib.extract_to_end rest m;have hx2:(rest.extract m rest.size).size=rest.size-m:=by rw [size_eq,hx,gy,<- hsr]
    refine⟨by omega,by omega,?_,?_⟩
    ·rw [U.Fq,hx,pz,<- hp.o.1]
     congr 1
     show U.enc r++[]++_=_
     rw [he,oG,oN]
    intro x hx
    rcases lM.1 hx with hx | hx
    ·exact hp.o.2 x hx
    simp at hx;rw [hx];exact hr)
   have HLEN:=bx (show pre.length<s.size by
    have h1:=congrArg List.length hp.o.1;have h2:=anT pre;rw [bC,<- size_eq,<- size_eq] at h1;omega)
   obtain⟨fn,tmps,assign,body,hy,hR⟩:=HY.o pre r w2 hj2 HLEN.o;have HR:=bx hR;have hm0:((m:Int)==0)=false:=by rw [fG];omega
   clear hd hb2 hg2 hE2 aey hj2 hR he hr hsr
   gi_wp2
   refine HR.o.mono ?_;rintro e W3 (⟨rfl,hj3,hk3⟩ | ⟨rfl,hx3⟩)
   ·have hb3:=hk3.blk HB2.o (.inl rfl);have HR3:=bx (show ∃ (pre:List Int) (rest:ByteArray),rest.size<=s.size/\Box (U.textOf pre++rest.data.toList=s.data.toList/\∀ r∈pre,U.right r=true)/\E A B W3/\aC W3 b 152 #[.string rest, .nilIface]/\aC W3 Bn 148 #[aA b]/\J pre W3 from
     ⟨pre++[r],_,HP.o.1,⟨HP.o.2.2⟩,HE2.o.holds hk3 (λk hk=>.inr (.inr hk)),hb3,hk3.blk awt.o (.inr (.inl rfl)),hj3⟩)
    have c3:W3.cell? ⟨b,0,none⟩=some (.string (rest.extract m rest.size)):=(hb3.cell 0).trans rfl;have iw:=bx c3;have HC0:=bx c0;clear hb3 hj3 hk3 c3 c0 c1
    gi_wp2
    go_roundw
    ·exact HR3.o
    rw [iw.o,HC0.o];exact HP.o.2.1
   gi_wp2
   rw [Exit.noGoto_normal]
   go_end0
   exact⟨⟨_,rfl⟩, .inr ⟨_,hx3⟩⟩
theorem atp (p:Option Addr) (w:World) :
  Calls prog 89 #[.pointer p] w λe w'=>e = .returned (.func (.func 160) #[] #[aA (w.heap.size)])/\w.alloc (.cells #[.pointer p] 148)=w':=by
 go_in
 go_wp2
 go_ret
 exact⟨rfl,rfl⟩
theorem Turns.aug {own:Nat->Prop} {A B:World} {row:Option Nat} (h:A.grownBy B row) (hr:∀ k,row=some k->own k):Turns own A B :=
 ⟨h.os,h.tape,h.output,h.size,λi hi ho=>h.block i hi (λe=>ho (hr i e.symm))⟩
theorem arI {w:World} {base base':Nat} {e:TypeId} {size:Nat} {v:Value} {n:Nat} {xs:List Value} (h:w.ownsRow base e size v n xs) (hb:base'<=base):w.ownsRow base' e size v n xs:=by
 refine⟨h.1,?_⟩
 rcases h.2 with h | ⟨g,cap,cur,h1,h2,h3⟩
 ·exact .inl h
 exact .inr ⟨g,cap,cur,h1,by omega,h3⟩
def VF (s:ByteArray) (w:World) (e:Ending) (w':World):Prop :=
 ak w w'/\match U.scalars s.data.toList with
 | none=>e = .returned (.tuple #[aj, ah 11])
 | some xs=>∃ v,e = .returned (.tuple #[v, ah 0])/\w'.ownsRow w.heap.size 3 1 v xs.length (xs.map (Value.int .i64))
theorem ajB:(prog.info? 3).map (λi=>(i.zero,i.size,i.bytes))=some (some (ah 0),1,8):=by kernel_rfl
theorem Zf (A:Nat->Addr) (B:Nat) (s:ByteArray) (w:World) (hs:s.size<=16777216) (hE:E A B w) (hB:B<=w.heap.size) :
  Calls prog 35 #[.string s] w (VF s w):=by
 have HE:=bx hE;have hEv:=bx hE;clear hE;refine(callsIn_wide (n:=9)).1 (callsIn_of_wp_marks func35 rfl trivial (wpIn_wide.2 ?_));simp only [ntmps35,qH,dY,iG,Nat.reduceAdd,Nat.reduceSub,rE,qW,ou,qQ,iJ,jd];go_wp2_with (go_at_call 89;refine aP (atp _ _) ?_)
 have hb:aC (((w.alloc (.cells #[.string s, .nilIface] 152)).alloc (.cells #[aj] 22)).alloc (.cells #[aA (w.heap.size)] 148)) w.heap.size 152 #[.string s, .nilIface]:=((aC.new w _ _).alloc _).alloc _;have ho:aC (((w.alloc (.cells #[.string s, .nilIface] 152)).alloc (.cells #[aj] 22)).alloc (.cells #[aA (w.heap.size)] 148)) (w.heap.size+1) 22 #[aj]:=by
  have:=(aC.new (w.alloc (.cells #[.string s, .nilIface] 152)) 22 #[aj]).alloc (.cells #[aA (w.heap.size)] 148)
  simpa using this
 have hn:aC (((w.alloc (.cells #[.string s, .nilIface] 152)).alloc (.cells #[aj] 22)).alloc (.cells #[aA (w.heap.size)] 148)) (w.heap.size+1+1) 148 #[aA (w.heap.size)]:=by
  have:=aC.new ((w.alloc (.cells #[.string s, .nilIface] 152)).alloc (.cells #[aj] 22)) 148 #[aA (w.heap.size)]
  simpa using this
 have hbw:ak w (((w.alloc (.cells #[.string s, .nilIface] 152)).alloc (.cells #[aj] 22)).alloc (.cells #[aA (w.heap.size)] 148)) :=
  ((aZ.alloc aU _).alloc (by simp) _).alloc (by simp;omega) _
 have hsz:(((w.alloc (.cells #[.string s, .nilIface] 152)).alloc (.cells #[aj] 22)).alloc (.cells #[aA (w.heap.size)] 148)).heap.size=w.heap.size+3:=by simp
 generalize ((w.alloc (.cells #[.string s, .nilIface] 152)).alloc (.cells #[aj] 22)).alloc (.cells #[aA (w.heap.size)] 148)=wL at hb ho hn hbw hsz ⊢;have IE:E A B wL:=HE.o.below (hbw.mono hB);refine(wpIn_wide (n:=9)).1 (Pn (α:=Int) (gf:=160) (lb:=#[aA (w.heap.size+1+1)]) rfl (enters_of func160 (by kernel_rfl) rfl)
  (encs:=λx=>#[ah x]) (own:=λk=>k=w.heap.size) (keep:=λk=>k=w.heap.size\/k=w.heap.size+1+1\/k<B) (ok:=λpre _=>pre.length<s.size) (S:=SB s A w.heap.size)
  (λk hk=>by omega)
  (λW1 ht=>alg 7 A B w.heap.size (w.heap.size+1+1) s (by unfold maxLen;omega) _ W1 (IE.below (ht.below (by omega) (λ_ h=>h.elim))) hB (by omega) (by omega) (ht.blk hb (λh=>h)) (ht.blk hn (λh=>h)))
  (λ_=>rfl)
  (λpre W=>(∃ v,aC W (w.heap.size+1) 22 #[v]/\W.ownsRow (wL.heap.size+2) 3 1 v pre.length (pre.map (Value.int .i64)))/\ak w W)
  (λ_ _ _=>False) ?hI (λ_ _ _ _ h _=>h) ⟨⟨_,ho,World.ownsRow_nil _ _ _ _⟩,hbw⟩
  (λx a1 _=>a1={ tmps:=#[.string s,undef, aj, ah 0, aA (w.heap.size), aA (w.heap.size+1), ah x, .string s, .agg #[.string s], .agg #[.string s, .nilIface], aA (w.heap.size), aA (w.heap.size), .func (.func 160) #[] #[aA (w.heap.size+1+1)], ah x,undef,undef,undef,undef,undef,undef,undef,undef,undef,undef,undef,undef,undef,undef,undef],defers:=[] })
  (λ_ _ _ _ h _=>h) ?assign ?body ?done (λ_ _ _ _ h _=>h.elim) ?hS)
 case hI =>
  rintro pre W W' ⟨⟨v,hv,hr⟩,hB'⟩ ht;refine⟨⟨v,ht.blk hv (by omega),ht.row hr (λk hk=>by have:=(hr.lt k hk).1;omega)⟩,hB'.trans (ht.below hB'.size (λk hk=>by omega))⟩
 case assign =>
  intro x W K _ hK
  gi_wp2
  exact hK _ _ (Turns.refl _ _) rfl
 case hS =>
  rintro xs W W' (⟨h1,s',h2⟩ | ⟨h1,s',h2⟩) ht
  ·exact .inl ⟨h1,s',ht.blk h2 (by omega)⟩
  exact .inr ⟨h1,s',ht.blk h2 (by omega)⟩
 case body =>
  rintro pre x a1 W hW ⟨⟨v,hv,hr⟩,hB'⟩ hlen rfl;obtain⟨i0,hi,hz0,hz1,hz2⟩:=info_parts ajB;have hc:ay W (w.heap.size+1) 0=some v:=(hv.cell 0).trans rfl;have hf:=hv.frozen 0;have HV:=bx hv;have hlt:=hv.lt;have hsz':=hB'.size;clear hv;have hnb:v.ownBlock≠some (w.heap.size+1):=λe=>by have:=(hr.lt _ e).1;omega
  have qP:=bx hnb;have dU:=bx hsz;clear hnb hsz IE hbw hb ho hn
  gi_wp2_with (gi_at_builtin;refine wpListIn_append_own _ rfl _ _ 22 rfl (wL.heap.size+2) 3 i0 (ah 0) 1 8 underlying22 hi hz0 hz1 hz2 rfl (by decide) _ _ _ rfl (hr.alloc _) ⟨W.heap.size,0,none⟩ 1 1 [ah x] rfl rfl (cell_one_new _ _ _) (by simp [Value.oneCell']) (by unfold maxLen;omega) (by omega) (by simp;omega) ?_;intro v' w1 hown' hgrow _;obtain⟨g',cap',rfl⟩:=ownsRow_succ hown';have hv1:=(HV.o.alloc _).grown hgrow (Ne.symm qP.o);have hc1:=hv1.cell 0;have hf1:=hv1.frozen 0;simp at hc1)
  have hlt':=λk (hk:v.ownBlock=some k)=>hr.lt k hk
  have hT:Turns (λk=>v.ownBlock=some k\/k=w.heap.size+1) W (w1.setCell ⟨w.heap.size+1,0,none⟩ (.slice (some ⟨g',0,none⟩) (pre.length+1) cap')) :=
   ((Turns.alloc W _).trans (Turns.aug hgrow (λk hk=>.inl hk))).trans (Turns.setCell _ (.inr rfl) _)
  have hz:=dU.o;have hg':=(hown'.lt g' rfl).1;have hn1:=qP.o;refine⟨Holds.zX hT (λk hk=>by omega) (λk hk h=>?_),⟨_,hv1.bJ 0 _,?_⟩,hB'.trans (hT.below hB'.size (λk hk=>?_))⟩
  ·rcases h with h | h
   ·have:=(hlt' k h).1;omega
   omega
  ·have:=(Turns.setCell (own:=λk=>k=w.heap.size+1) w1 (p:=⟨w.heap.size+1,0,none⟩) rfl (.slice (some ⟨g',0,none⟩) (pre.length+1) cap')).row hown' (λk hk=>by simp [Value.ownBlock] at hk;omega)
   simpa using this
  rcases hk with hk | hk
  ·have:=(hlt' k hk).1;omega
  omega
 case done =>
  intro xs W hW hS ⟨⟨v,hv,hr⟩,hB'⟩ hD;have HV:=bx hv;have hc:ay W (w.heap.size+1) 0=some v:=(hv.cell 0).trans rfl;have HR:=bx hr;have HD:=bx hD;have dU:=bx hsz;clear hr hD hsz hv IE hbw hb ho hn
  rcases hS with⟨h1,s',h2⟩ | ⟨h1,s',h2⟩
  ·have e1:ay W w.heap.size 1=some .nilIface:=(h2.cell 1).trans rfl;have HS:=bx h1;clear h1 h2;go_wp2_with fail;refine⟨by simp, .inl ⟨_,_,rfl,run_takeDeferred HD.o,?_⟩⟩;refine⟨_,results_tmp2 rfl _ _ _,?_⟩;have hz:=dU.o;unfold VF;rw [HS.o];refine⟨hB'.trans ((Turns.putObj (own:=λk=>k=wL.heap.size) W rfl _).below hB'.size (λk hk=>by omega)),v,rfl,?_⟩;have hr:=(Turns.putObj (own:=λk=>k=wL.heap.size) W rfl (.deferred none)).row HR.o (λk hk=>by have:=(HR.o.lt k hk).1;omega);exact arI hr (by omega)
  have e1:ay W w.heap.size 1=some (oZ A 3):=(h2.cell 1).trans rfl;unfold oZ at e1;have HS:=bx h1;have HT:=bx (asr A B W (HE.o.below (hB'.mono hB)));clear h1 h2;go_wp2_with (go_at_call 90;refine aP HT.o ?_)
  refine⟨by simp, .inl ⟨_,_,rfl,run_takeDeferred HD.o,?_⟩⟩;refine⟨_,results_tmp2 rfl _ _ _,?_⟩;have hz:=dU.o;unfold VF;rw [HS.o];exact⟨hB'.trans ((Turns.putObj (own:=λk=>k=wL.heap.size) W rfl _).below hB'.size (λk hk=>by omega)),rfl⟩
theorem adU (A:Nat->Addr) (B:Nat) (s:ByteArray) (w:World) (hs:s.size<=16777216) (hE:E A B w) (hB:B<=w.heap.size) :
  Calls prog 32 #[.string s] w λe w'=>e = .returned (.bool (U.valid s.data.toList))/\ak w w':=by
 have HS:=bx (Zf A B s w hs hE hB);clear hE
 go_in
 go_wp2_with fail;refine HS.o.mono ?_;rintro e w' ⟨hb,hp⟩
 cases hd:U.scalars s.data.toList with
 | none =>
  rw [hd] at hp;obtain rfl:=hp;have HV:=bx (show U.valid s.data.toList=false by unfold U.valid;rw [hd];rfl);clear hd
  go_wp2
  go_ret
  exact⟨by rw [HV.o];rfl,hb⟩
 | some xs =>
  rw [hd] at hp;obtain⟨v,rfl,_⟩:=hp;have HV:=bx (show U.valid s.data.toList=true by unfold U.valid;rw [hd];rfl);clear hd
  go_wp2
  go_ret
  exact⟨by rw [HV.o];rfl,hb⟩
end
theorem abt {l:List UInt8} (h:U.dec l=none):AB l = .tuple #[ah 0, ah 0, .bool false]:=by unfold AB;rw [h];rfl
theorem UN {l:List UInt8} {r:Int} {n:Nat} (h:U.dec l=some (r,n)):AB l = .tuple #[ah r, ah n, .bool true]:=by unfold AB;rw [h];rfl
def hit (p t:List UInt8):Bool:=match U.dec (p++t) with | some (_,n)=>n==p.length+t.length | none=>false
theorem ajZ (p:List UInt8):M.LV p=(hit p [128]||hit p [128,128]):=rfl
theorem ai4 (p t:List UInt8):(hit p t=false/\AB (p++t) = .tuple #[ah 0, ah 0, .bool false])\/(∃ (r:Int) (n:Nat),hit p t=false/\AB (p++t) = .tuple #[ah r, ah n, .bool true]/\((n:Int)==(p.length:Int)+(t.length:Int))=false) \/
  (∃ (r:Int),hit p t=true/\AB (p++t) = .tuple #[ah r, ah ((p.length+t.length:Nat):Int), .bool true]):=by
 cases h:U.dec (p++t) with
 | none=>exact .inl ⟨by unfold hit;rw [h],abt h⟩
 | some q =>
  obtain⟨r,n⟩:=q
  by_cases hn:n=p.length+t.length
  ·subst hn;exact .inr (.inr ⟨r,by unfold hit;rw [h];simp,UN h⟩)
  exact .inr (.inl ⟨r,n,by unfold hit;rw [h];simpa using hn,UN h,by rw [fG];omega⟩)
theorem adJ (s t:ByteArray):(s++t).data.toList=s.data.toList++t.data.toList:=by
 rw [ByteArray.data_append,Array.toList_append]
theorem abE (s t:ByteArray):(s++t).size=s.size+t.size:=ByteArray.size_append
theorem abv (A:Nat->Addr) (B:Nat) (s:ByteArray) (w:World) (hs:s.size<=16777216) (hE:E A B w) (hB:B<=w.heap.size) :
  Calls prog 235 #[.string s] w λe w'=>e = .returned (.bool (M.LV s.data.toList))/\ak w w':=by
 have hb0:=(Below.refl w.heap.size w).alloc aU (.cells #[.string ⟨#[128]⟩, .string ⟨#[128,128]⟩] 9);have HE:=bx (hE.below (hb0.mono hB));have HB0:=bx hb0;have dU:=bx (size_eq s);have dn:=bx (aC.new w 9 #[.string ⟨#[128]⟩, .string ⟨#[128,128]⟩]);rw [ajZ];clear hE hb0
 go_in
 go_wp2_with fail;refine wp_loop_rounds 3 ?_;rw [rounds_succ];go_wp2_with fail;refine(QK A B _ _ ?_ HE.o (bP hB HB0.o.size)).mono ?_
 ·rw [abE];show s.size+1<=maxLen;unfold maxLen;omega
 rintro e w1 ⟨rfl,hb1⟩;rw [adJ,show (⟨#[128]⟩:ByteArray).data.toList=[128] from rfl];have HB1:=aJ HB0 hb1;have yH:=bx (HE.o.below (hb1.mono (bP hB HB0.o.size)));have hbk1:=dn.o.below hb1 dn.o.lt;have c1:w1.cell? ⟨w.heap.size,1,none⟩=some (.string ⟨#[128,128]⟩):=(hbk1.cell 1).trans rfl;clear hb1 hbk1;have H1:=bx (ai4 s.data.toList [128]);have H2:=bx (ai4 s.data.toList [128,128])
 rcases H1.o with⟨h1,h2⟩ | ⟨r,n,h1,h2,h3⟩ | ⟨r,h1,h2⟩
 case inr.inr =>
  have HV:=bx h2;have HH:=bx h1;have t1:(((s.data.toList.length+1:Nat):Int)==(s.size:Int)+1)=true:=by rw [dU.o,lN];omega
  rw [h2];clear h1 h2 H1 H2
  go_wp2
  go_ret
  exact⟨by rw [HH.o];rfl,HB1.o⟩
 all_goals
  have Yy:=bx h1;rw [h2]
  first | (have t1:((n:Int)==(s.size:Int)+1)=false:=by rw [dU.o];exact h3) | skip
  clear h1 h2 H1
  try clear h3
  go_wp2_with fail;rw [rounds_succ];go_wp2_with fail;refine(QK A B _ _ ?_ yH.o (bP hB HB1.o.size)).mono ?_
  ·rw [abE];show s.size+2<=maxLen;unfold maxLen;omega
  rintro e w2 ⟨rfl,hb2⟩;rw [adJ,show (⟨#[128,128]⟩:ByteArray).data.toList=[128,128] from rfl];have HB2:=aJ HB1 hb2;clear hb2 c1
  rcases H2.o with⟨k1,k2⟩ | ⟨r',n',k1,k2,k3⟩ | ⟨r',k1,k2⟩
  ·have Qo:=bx k1;rw [k2];clear k1 k2 H2;go_wp2_with fail;rw [rounds_succ]
   go_wp2
   go_ret
   exact⟨by rw [Yy.o,Qo.o];rfl,HB2.o⟩
  ·have Qo:=bx k1;have t2:((n':Int)==(s.size:Int)+2)=false:=by rw [dU.o];exact k3
   rw [k2];clear k1 k2 k3 H2;go_wp2_with fail;rw [rounds_succ]
   go_wp2
   go_ret
   exact⟨by rw [Yy.o,Qo.o];rfl,HB2.o⟩
  have Qo:=bx k1;have t2:(((s.data.toList.length+2:Nat):Int)==(s.size:Int)+2)=true:=by rw [dU.o,lN];omega
  rw [k2];clear k1 k2 H2
  go_wp2
  go_ret
  exact⟨by rw [Yy.o,Qo.o];rfl,HB2.o⟩
def FY (l:List UInt8):Value:=.agg #[ah ((M.unit l).1:Int), .bool (M.unit l).2]
theorem abK (s:ByteArray) (a:Nat):(s.extract a s.size).data.toList=s.data.toList.drop a:=Lib.extract_to_end s a
theorem alJ (s:ByteArray) (a:Nat):(s.extract a s.size).size=s.size-a:=by
 rw [size_eq,abK,gy,<- size_eq]
theorem ani (A:Nat->Addr) (B:Nat) (tb:Nat) (s:ByteArray) (a:Nat) (w:World) (ht:w.cell? ⟨tb,0,none⟩=some (.string s)) (ha:a<=s.size) (hs:s.size<=16777216) (hE:E A B w) (hB:B<=w.heap.size) :
  Calls prog 153 #[aA tb, ah a] w λe w'=>e = .returned (FY (s.data.toList.drop a))/\ak w w':=by
 have htl:=World.block_lt_of_cell? w _ ht;obtain⟨X,hX⟩:∃ X,X=s.extract a s.size:=⟨_,rfl⟩
 have hXl:X.data.toList=s.data.toList.drop a:=by rw [hX];exact abK s a
 have hXs:X.size<=16777216:=by rw [hX,alJ];omega
 have HX:=bx hX;rw [<- hXl];have hb0:=((Below.refl w.heap.size w).alloc aU (.cells #[ah 0, .bool false] 138)).alloc (by simp) (.cells #[ah 1, .bool false] 138);have HE:=bx (hE.below (hb0.mono hB));have HB0:=bx hb0;have dn:=bx ((aC.new w 138 #[ah 0, .bool false]).alloc (.cells #[ah 1, .bool false] 138));have aiv:=bx (show aC ((w.alloc (.cells #[ah 0, .bool false] 138)).alloc (.cells #[ah 1, .bool false] 138)) (w.heap.size+1) 138 #[ah 1, .bool false] by
  have:=aC.new (w.alloc (.cells #[ah 0, .bool false] 138)) 138 #[ah 1, .bool false]
  simpa using this)
 clear hE hb0 hX hXl hs
 cases hl:X.data.toList with
 | nil =>
  have hz:=isEmpty_nil hl;rw [HX.o] at hz;have HU:=bx (show FY X.data.toList = .agg #[ah 0, .bool false] by rw [hl];rfl);rw [<- hl];clear hl
  go_in
  go_wp2_with fail;refine uz 0 rfl ?_;go_wp2_with fail;rw [yE];exact bodyPost_ret (v:=.agg #[ah 0, .bool false]) (by simp [results,results153,go_sem]) rfl ⟨by rw [HU.o],HB0.o⟩
 | cons c t =>
  have hz:=isEmpty_cons hl;rw [HX.o] at hz;have HL:=bx hl;rw [<- hl];clear hl;have HD:=bx (QK A B X _ (by unfold maxLen;omega) HE.o (bP hB HB0.o.size))
  go_in
  go_wp2_with fail;refine uz 0 rfl ?_;go_wp2_with fail;rw [<- HX.o];refine aT HD.o λw1 hb1=>?_
  have HB1:=aJ HB0 hb1;have yH:=bx (HE.o.below (hb1.mono (bP hB HB0.o.size)));have hbk:=dn.o.below hb1 dn.o.lt;have Yr:=aiv.o.below hb1 aiv.o.lt;clear hb1 hz
  cases hd:U.dec X.data.toList with
  | some q =>
   obtain⟨r,n⟩:=q;rw [UN hd];have HU:=bx (show FY X.data.toList = .agg #[ah n, .bool true] by unfold FY;rw [M.OC hd]);have c0:w1.cell? ⟨w.heap.size,0,none⟩=some (ah 0):=(hbk.cell 0).trans rfl;have c1:w1.cell? ⟨w.heap.size,1,none⟩=some (.bool false):=(hbk.cell 1).trans rfl;have f0:=hbk.frozen 0;have f1:=hbk.frozen 1;clear hd Yr;have hfin:=(hbk.bJ 0 (ah n)).bJ 1 (.bool true);have ru:=(HB1.o.setCell (p:=⟨w.heap.size,0,none⟩) aU (ah n)).setCell (p:=⟨w.heap.size,1,none⟩) aU (.bool true);have Zq:=bx hfin;have avS:=bx ru;clear hfin ru hbk;go_wp2_with fail;rw [yE];have hfin:=Zq.o;have ru:=avS.o;generalize (w1.setCell ⟨w.heap.size,0,none⟩ (ah n)).setCell ⟨w.heap.size,1,none⟩ (.bool true)=W2 at hfin ru ⊢;have d0:W2.cell? ⟨w.heap.size,0,none⟩=some (ah n):=(hfin.cell 0).trans rfl;have d1:W2.cell? ⟨w.heap.size,1,none⟩=some (.bool true):=(hfin.cell 1).trans rfl;exact bodyPost_ret (v:=.agg #[ah n, .bool true]) (by simp [results,results153,go_sem,d0,d1]) rfl ⟨by rw [HU.o],ru⟩
  | none =>
   rw [abt hd];have Gy:=bx (show FY X.data.toList = .agg #[ah (M.oO X.data.toList), .bool false] by unfold FY;rw [M.aaq hd]);clear hd;have HK:=bx hbk;have pV:=bx Yr;have fJ:=HB1;have HSL:=bx (size_eq X);clear hbk Yr
   cases ht':t with
   | nil =>
    have cu:=bx (show M.oO X.data.toList=1 by rw [HL.o,ht'];rfl);have t2:decide ((2:Int)<=(X.size:Int))=false:=by rw [HSL.o,HL.o,ht'];rfl
    clear ht';have c0:w1.cell? ⟨w.heap.size,0,none⟩=some (ah 0):=(HK.o.cell 0).trans rfl;have c1:w1.cell? ⟨w.heap.size,1,none⟩=some (.bool false):=(HK.o.cell 1).trans rfl;have k0:w1.cell? ⟨w.heap.size+1,0,none⟩=some (ah 1):=(pV.o.cell 0).trans rfl;have k1:w1.cell? ⟨w.heap.size+1,1,none⟩=some (.bool false):=(pV.o.cell 1).trans rfl;have f0:=HK.o.frozen 0;have f1:=HK.o.frozen 1;go_wp2_with fail;refine wp_loop_rounds 1 ?_;rw [rounds_succ];go_wp2_with fail
    go_step3
    go_wp2_with fail;rw [yE];have hfin:=(HK.o.bJ 0 (ah 1)).bJ 1 (.bool false);have ru:=(fJ.o.setCell (p:=⟨w.heap.size,0,none⟩) aU (ah 1)).setCell (p:=⟨w.heap.size,1,none⟩) aU (.bool false);generalize (w1.setCell ⟨w.heap.size,0,none⟩ (ah 1)).setCell ⟨w.heap.size,1,none⟩ (.bool false)=W2 at hfin ru ⊢;have d0:W2.cell? ⟨w.heap.size,0,none⟩=some (ah 1):=(hfin.cell 0).trans rfl;have d1:W2.cell? ⟨w.heap.size,1,none⟩=some (.bool false):=(hfin.cell 1).trans rfl;exact bodyPost_ret (v:=.agg #[ah 1, .bool false]) (by simp [results,results153,go_sem,d0,d1]) rfl ⟨by rw [Gy.o,cu.o];rfl,ru⟩
   | cons d t' =>
    have hL2:X.data.toList=c::d::t':=by rw [HL.o,ht']
    have hsz2:2<=X.size:=by rw [HSL.o,hL2];simp
    have HL2:=bx hL2;have hx2:(X.extract 0 2).data.toList=[c,d]:=by rw [Lib.extract_data,hL2];rfl
    have ajn:(X.extract 0 2).size=2:=by rw [size_eq,hx2];rfl
    have KR:=bx (abv A B (X.extract 0 2) w1 (by rw [ajn];omega) yH.o (bP hB HB1.o.size));rw [hx2,M.aq8] at KR;clear hx2 ajn hL2 ht'
    cases hb2:(decide (2<=U.dG (U.aH c))&&M.rng c d) with
    | false =>
     have cu:=bx (show M.oO X.data.toList=1 by rw [HL2.o];exact M.avH _ hb2);rw [hb2] at KR;clear hb2;go_wp2_with fail;refine wp_loop_rounds 3 ?_;rw [rounds_succ];go_wp2_with fail;refine aT KR.o λw2 hb3=>?_
     have HK:=HK.ub hb3;have pV:=pV.ub hb3;have fJ:=aJ HB1 hb3;clear hb3;have c0:w2.cell? ⟨w.heap.size,0,none⟩=some (ah 0):=(HK.o.cell 0).trans rfl;have c1:w2.cell? ⟨w.heap.size,1,none⟩=some (.bool false):=(HK.o.cell 1).trans rfl;have k0:w2.cell? ⟨w.heap.size+1,0,none⟩=some (ah 1):=(pV.o.cell 0).trans rfl;have k1:w2.cell? ⟨w.heap.size+1,1,none⟩=some (.bool false):=(pV.o.cell 1).trans rfl;have f0:=HK.o.frozen 0;have f1:=HK.o.frozen 1;go_wp2_with fail
     go_step3
     refine⟨rfl,?_⟩;go_wp2_with fail;rw [Exit.noGoto_ret];have hfin:=(HK.o.bJ 0 (ah 1)).bJ 1 (.bool false);have ru:=(fJ.o.setCell (p:=⟨w.heap.size,0,none⟩) aU (ah 1)).setCell (p:=⟨w.heap.size,1,none⟩) aU (.bool false);generalize (w2.setCell ⟨w.heap.size,0,none⟩ (ah 1)).setCell ⟨w.heap.size,1,none⟩ (.bool false)=W2 at hfin ru ⊢;have d0:W2.cell? ⟨w.heap.size,0,none⟩=some (ah 1):=(hfin.cell 0).trans rfl;have d1:W2.cell? ⟨w.heap.size,1,none⟩=some (.bool false):=(hfin.cell 1).trans rfl;exact bodyPost_ret (v:=.agg #[ah 1, .bool false]) (by simp [results,results153,go_sem,d0,d1]) rfl ⟨by rw [Gy.o,cu.o];rfl,ru⟩
    | true =>
     rw [hb2] at KR;have Tm:=bx hb2;clear hb2;go_wp2_with fail;refine wp_loop_rounds 3 ?_;rw [rounds_succ];go_wp2_with fail;refine aT KR.o λw2 hb3=>?_
     have HE2:=bx (yH.o.below (hb3.mono (bP hB HB1.o.size)));have hk6:=pV.o.below hb3 pV.o.lt;have p0:w2.cell? ⟨w.heap.size+1,0,none⟩=some (ah 1):=(hk6.cell 0).trans rfl;have p1:=hk6.frozen 0;have HK:=bx ((HK.o.below hb3 HK.o.lt).far (p:=⟨w.heap.size+1,0,none⟩) (by simp) (ah 2));have pV:=bx (hk6.bJ 0 (ah 2));have aaU:=bt HB1.o hb3;have fJ:=bx (aaU.setCell (p:=⟨w.heap.size+1,0,none⟩) (by simp) (ah 2));have Rf:=bx (HE2.o.below (((Below.refl B w2).setCell (p:=⟨w.heap.size+1,0,none⟩) (by show B<=w.heap.size+1;omega) (ah 2))));have dK:=bx (show (w2.setCell ⟨w.heap.size+1,0,none⟩ (ah 2)).heap.size=w2.heap.size by simp [World.setCell]);have bM:=bx (show B<=w2.heap.size from bP hB aaU.size);clear hb3 aaU hk6;go_wp2_with fail;generalize w2.setCell ⟨w.heap.size+1,0,none⟩ (ah 2)=w3 at HK pV fJ Rf dK ⊢;clear p0 p1;rw [rounds_succ]
     cases ht2:t' with
     | nil =>
      have cu:=bx (show M.oO X.data.toList=2 by rw [HL2.o,ht2];exact M.as8 Tm.o);have t3:decide ((3:Int)<=(X.size:Int))=false:=by rw [HSL.o,HL2.o,ht2];rfl
      clear ht2;have c0:w3.cell? ⟨w.heap.size,0,none⟩=some (ah 0):=(HK.o.cell 0).trans rfl;have c1:w3.cell? ⟨w.heap.size,1,none⟩=some (.bool false):=(HK.o.cell 1).trans rfl;have k0:w3.cell? ⟨w.heap.size+1,0,none⟩=some (ah 2):=(pV.o.cell 0).trans rfl;have k1:w3.cell? ⟨w.heap.size+1,1,none⟩=some (.bool false):=(pV.o.cell 1).trans rfl;have f0:=HK.o.frozen 0;have f1:=HK.o.frozen 1;go_wp2_with fail
      go_step3
      go_wp2_with fail;rw [yE];have hfin:=(HK.o.bJ 0 (ah 2)).bJ 1 (.bool false);have ru:=(fJ.o.setCell (p:=⟨w.heap.size,0,none⟩) aU (ah 2)).setCell (p:=⟨w.heap.size,1,none⟩) aU (.bool false);generalize (w3.setCell ⟨w.heap.size,0,none⟩ (ah 2)).setCell ⟨w.heap.size,1,none⟩ (.bool false)=W2 at hfin ru ⊢;have d0:W2.cell? ⟨w.heap.size,0,none⟩=some (ah 2):=(hfin.cell 0).trans rfl;have d1:W2.cell? ⟨w.heap.size,1,none⟩=some (.bool false):=(hfin.cell 1).trans rfl;exact bodyPost_ret (v:=.agg #[ah 2, .bool false]) (by simp [results,results153,go_sem,d0,d1]) rfl ⟨by rw [Gy.o,cu.o];rfl,ru⟩
     | cons e' t2 =>
      have hL3:X.data.toList=c::d::e'::t2:=by rw [HL2.o,ht2]
      have hsz3:3<=X.size:=by rw [HSL.o,hL3];simp
      have zI:=bx hL3;have hx3:(X.extract 0 3).data.toList=[c,d,e']:=by rw [Lib.extract_data,hL3];rfl
      have ai2:(X.extract 0 3).size=3:=by rw [size_eq,hx3];rfl
      have Kr:=bx (abv A B (X.extract 0 3) w3 (by rw [ai2];omega) Rf.o (by rw [dK.o];exact bM.o));rw [hx3,M.ars] at Kr;clear hx3 ai2 hL3 ht2 hsz2;have OT:=bx (show M.rng c d=true by have:=Tm.o;rw [dD] at this;exact this.2);rw [OT.o,Bool.and_true] at Kr
      cases hb5:(decide (U.dG (U.aH c)=3)&&U.kC e') with
      | false =>
       have cu:=bx (show M.oO X.data.toList=2 by rw [zI.o];exact M.aqR _ Tm.o hb5);rw [hb5] at Kr;clear hb5;go_wp2_with fail;refine aT Kr.o λw4 hb6=>?_
       have fJ:=aJ fJ hb6;have HK:=HK.ub hb6;have pV:=pV.ub hb6;clear hb6;have c0:w4.cell? ⟨w.heap.size,0,none⟩=some (ah 0):=(HK.o.cell 0).trans rfl;have c1:w4.cell? ⟨w.heap.size,1,none⟩=some (.bool false):=(HK.o.cell 1).trans rfl;have k0:w4.cell? ⟨w.heap.size+1,0,none⟩=some (ah 2):=(pV.o.cell 0).trans rfl;have k1:w4.cell? ⟨w.heap.size+1,1,none⟩=some (.bool false):=(pV.o.cell 1).trans rfl;have f0:=HK.o.frozen 0;have f1:=HK.o.frozen 1;go_wp2_with fail
       go_step3
       refine⟨rfl,?_⟩;go_wp2_with fail;rw [Exit.noGoto_ret];have hfin:=(HK.o.bJ 0 (ah 2)).bJ 1 (.bool false);have ru:=(fJ.o.setCell (p:=⟨w.heap.size,0,none⟩) aU (ah 2)).setCell (p:=⟨w.heap.size,1,none⟩) aU (.bool false);generalize (w4.setCell ⟨w.heap.size,0,none⟩ (ah 2)).setCell ⟨w.heap.size,1,none⟩ (.bool false)=W2 at hfin ru ⊢;have d0:W2.cell? ⟨w.heap.size,0,none⟩=some (ah 2):=(hfin.cell 0).trans rfl;have d1:W2.cell? ⟨w.heap.size,1,none⟩=some (.bool false):=(hfin.cell 1).trans rfl;exact bodyPost_ret (v:=.agg #[ah 2, .bool false]) (by simp [results,results153,go_sem,d0,d1]) rfl ⟨by rw [Gy.o,cu.o];rfl,ru⟩
      | true =>
       have cu:=bx (show M.oO X.data.toList=3 by rw [zI.o];exact M.avY _ Tm.o hb5);rw [hb5] at Kr;clear hb5;go_wp2_with fail;refine aT Kr.o λw4 hb6=>?_
       have aeV:=bt fJ.o hb6;have hk6:=pV.o.below hb6 pV.o.lt;have p0:w4.cell? ⟨w.heap.size+1,0,none⟩=some (ah 2):=(hk6.cell 0).trans rfl;have p1:=hk6.frozen 0;have HK:=bx ((HK.o.below hb6 HK.o.lt).far (p:=⟨w.heap.size+1,0,none⟩) (by simp) (ah 3));have pV:=bx (hk6.bJ 0 (ah 3));have fJ:=bx (aeV.setCell (p:=⟨w.heap.size+1,0,none⟩) (by simp) (ah 3));clear hb6 aeV hk6;go_wp2_with fail;generalize w4.setCell ⟨w.heap.size+1,0,none⟩ (ah 3)=w5 at HK pV fJ ⊢;clear p0 p1;rw [rounds_succ];have c0:w5.cell? ⟨w.heap.size,0,none⟩=some (ah 0):=(HK.o.cell 0).trans rfl;have c1:w5.cell? ⟨w.heap.size,1,none⟩=some (.bool false):=(HK.o.cell 1).trans rfl;have k0:w5.cell? ⟨w.heap.size+1,0,none⟩=some (ah 3):=(pV.o.cell 0).trans rfl;have k1:w5.cell? ⟨w.heap.size+1,1,none⟩=some (.bool false):=(pV.o.cell 1).trans rfl;have f0:=HK.o.frozen 0;have f1:=HK.o.frozen 1;go_wp2_with fail
       go_step3
       go_wp2_with fail;rw [yE];have hfin:=(HK.o.bJ 0 (ah 3)).bJ 1 (.bool false);have ru:=(fJ.o.setCell (p:=⟨w.heap.size,0,none⟩) aU (ah 3)).setCell (p:=⟨w.heap.size,1,none⟩) aU (.bool false);generalize (w5.setCell ⟨w.heap.size,0,none⟩ (ah 3)).setCell ⟨w.heap.size,1,none⟩ (.bool false)=W2 at hfin ru ⊢;have d0:W2.cell? ⟨w.heap.size,0,none⟩=some (ah 3):=(hfin.cell 0).trans rfl;have d1:W2.cell? ⟨w.heap.size,1,none⟩=some (.bool false):=(hfin.cell 1).trans rfl;exact bodyPost_ret (v:=.agg #[ah 3, .bool false]) (by simp [results,results153,go_sem,d0,d1]) rfl ⟨by rw [Gy.o,cu.o];rfl,ru⟩
end Go.Proofs.YtdponihkpomheaaGreatDoor
