/- Texts of this claim. -/
import Derived.Test.YtniemfpkcjdcfaaGreatDoorK8

set_option maxHeartbeats 1000000
namespace Go.Proofs.YtniemfpkcjdcfaaGreatDoor
open Go.RowKit
open Tryz
namespace T
open Go.Proofs.YtniemfpkcjdcfaaGreatDoor
def lower(c:Cs)(l:List Int):List Int:=(List.range l.length).flatMap (small c l)
end T
theorem aeo(r:Int)(w:World):
  Calls prog 162 #[Z9 r] w λe w'=>e=.returned (Ei r)/\Z6 w w':=by
 by_cases ZT:U.right r=true
 case neg=>
  have zK:U.right r=false:=by simpa using ZT
  have ZL:=AY r;rw[zK]at ZL;have Yq:=bx ZL;have Xf:=bx (rf zK);clear ZL ZT zK
  go_in
  go_wp2_with (first|(go_at_call 107;refine YW (Yq.o _) ?_))
  go_ret2
  exact⟨by rw[Xf.o];rfl,Below.refl _ _⟩
 have Z8:=(U.cT r).1 ZT;obtain⟨g0,g1,_⟩:=Z8;have ZL:=AY r;rw[ZT]at ZL;have Yq:=bx ZL;have Xn:=bx (λ(l:List Int)=>h2 (l:=l) ZT);clear ZL ZT;have c1:=λ(w:World)(a:Int)=>B5 (P:=prog) (src:=120) (dst:=9) underlying120 underlying5 underlying9 [a] w 1 1 rfl 5
 have c2:=λ(w:World)(a b:Int)=>B5 (P:=prog) (src:=120) (dst:=9) underlying120 underlying5 underlying9 [a,b] w 2 2 rfl 5
 have c3:=λ(w:World)(a b c:Int)=>B5 (P:=prog) (src:=120) (dst:=9) underlying120 underlying5 underlying9 [a,b,c] w 3 3 rfl 5
 have VG:=λ(w:World)(a b c d:Int)=>B5 (P:=prog) (src:=120) (dst:=9) underlying120 underlying5 underlying9 [a,b,c,d] w 4 4 rfl 5
 simp only[RG,Pa]at c1 c2 c3 VG
 by_cases Zx:r<128
 ·go_in
  go_wp2_with (first|(go_at_call 107;refine YW (Yq.o _) ?_))
  go_ret2
  exact⟨Lg (Xn.o [r] (by unfold U.enc;rw[Y0 (by omega)];rfl)),YU.alloc Ys _⟩
 by_cases Zr:r<2048
 ·go_in
  go_wp2_with (first|(go_at_call 107;refine YW (Yq.o _) ?_))
  go_ret2
  exact⟨Lg (Xn.o [192+r/64,128+r%64] (by unfold U.enc;rw[Y4 (by omega),Y0 (by omega)];rfl)),YU.alloc Ys _⟩
 by_cases Zk:r<65536
 ·go_in
  go_wp2_with (first|(go_at_call 107;refine YW (Yq.o _) ?_))
  go_ret2
  exact⟨Lg (Xn.o [224+r/4096,128+r/64%64,128+r%64] (by unfold U.enc;rw[Y4 (by omega),Y4 (by omega),Y0 (by omega)];rfl)),YU.alloc Ys _⟩
 go_in
 go_wp2_with (first|(go_at_call 107;refine YW (Yq.o _) ?_))
 go_ret2
 exact⟨Lg (Xn.o [240+r/262144,128+r/4096%64,128+r/64%64,128+r%64] (by unfold U.enc;rw[Y4 (by omega),Y4 (by omega),Y4 (by omega)];rfl)),YU.alloc Ys _⟩
namespace T
open Go.Proofs.YtniemfpkcjdcfaaGreatDoor
def cQ(c:Cs)(m:List Int):Bool:=(List.range m.length).any λi=>cased c (m.getD i 0)&&(m.drop (i+1)).all (al c)
theorem atg(c:Cs)(m:List Int)(x:Int):cQ c (m++[x])=(cased c x||(al c x&&cQ c m)):=by
 unfold cQ;rw[WR,List.length_singleton,List.range_succ,List.any_append,List.any_cons,List.any_nil,Bool.or_false,Bool.or_comm]
 congr 1
 ·rw[Rl,Fz Ys,Nat.sub_self];simp
 rw[Lx];simp only[NS,Ly,Vm]
 constructor
 ·rintro⟨i,hi,Z7,Z5⟩;rw[Rl,tj hi,<-Rl]at Z7;rw[List.drop_append_of_le_length (by omega),List.all_append,Vm]at Z5;exact⟨by simpa using Z5.2,i,hi,Z7,Z5.1⟩
 rintro⟨ZI,i,hi,Z7,Z5⟩;refine⟨i,hi,?_,?_⟩
 ·rw[Rl,tj hi,<-Rl];exact Z7
 rw[List.drop_append_of_le_length (by omega),List.all_append,Vm];exact⟨Z5,by simpa using ZI⟩
theorem arO(c:Cs)(m:List Int):meets c m.reverse=cQ c m:=by
 have key:∀n(m:List Int),m.length=n->meets c m.reverse=cQ c m:=by
  intro n
  induction n with
  |zero=>intro m hm;rw[L4 hm];rfl
  |succ n XZ=>
   intro m hm
   rcases List.eq_nil_or_concat m with rfl|⟨q,x,rfl⟩
   ·simp at hm
   rw[List.concat_eq_append]at hm⊢;rw[List.reverse_append,List.reverse_singleton,List.singleton_append,atg];have:=XZ q (by simpa using hm);show(cased c x||(al c x&&meets c q.reverse))=_
   rw[this]
 exact key _ m rfl
end T
namespace T
open Go.Proofs.YtniemfpkcjdcfaaGreatDoor
def dI(c:Cs)(m:List Int):Bool:=(List.range m.length).any λi=>cased c (m.getD i 0)&&(m.take i).all (al c)
theorem acE(c:Cs):∀m:List Int,meets c m=dI c m
 |[]=>rfl
 |x::t=>by
  have XZ:=acE c t;unfold meets;rw[XZ];unfold dI;rw[U3,List.range_succ_eq_map,List.any_cons,List.any_map]
  congr 1
  ·simp
  rw[Lx,Vm,NS,NS]
  constructor
  ·rintro⟨ZI,i,hi,Z7⟩;refine⟨i,hi,?_⟩;simp only[Function.comp,List.getD_cons_succ,Lu,List.all_cons];rw[Vm]at Z7⊢;exact⟨Z7.1,by rw[ZI,Z7.2];rfl⟩
  rintro⟨i,hi,Z7⟩;simp only[Function.comp,List.getD_cons_succ,Lu,List.all_cons,Vm]at Z7;exact⟨Z7.2.1,i,hi,by rw[Z7.1,Z7.2.2];rfl⟩
theorem aty(c:Cs)(l:List Int)(at':Nat):final c l at'=(cQ c (l.take at')&&!dI c (l.drop (at'+1))):=by
 unfold final;rw[arO,acE]
def cI(c:Cs)(l:List Int)(at' k:Nat):Bool:=(List.range k).any λi=>cased c (l.getD i 0)&&((l.take at').drop (i+1)).all (al c)
theorem auX(c:Cs)(l:List Int)(at' k:Nat):cI c l at' (k+1)=(cI c l at' k||(cased c (l.getD k 0)&&((l.take at').drop (k+1)).all (al c))):=by
 unfold cI;rw[List.range_succ,List.any_append,List.any_cons,List.any_nil,Bool.or_false]
theorem arE(c:Cs)(l:List Int)(at':Nat)(h:at'<=l.length):cI c l at' at'=cQ c (l.take at'):=by
 unfold cI cQ;rw[SW,tn h];rw[Lx,NS,NS];have key:∀i,i<at'->(l.take at').getD i 0=l.getD i 0:=λi hi=>by
  rw[Rl,Rl,List.getElem?_take_of_lt hi]
 constructor
 ·rintro⟨i,hi,Z7⟩;exact⟨i,hi,by rw[key i (Ly.1 hi)];exact Z7⟩
 rintro⟨i,hi,Z7⟩;exact⟨i,hi,by rw[key i (Ly.1 hi)]at Z7;exact Z7⟩
def cH(c:Cs)(l:List Int)(at' k:Nat):Bool:=(List.range k).any λi=>cased c (l.getD (at'+1+i) 0)&&((l.drop (at'+1)).take i).all (al c)
theorem amS(c:Cs)(l:List Int)(at' k:Nat):cH c l at' (k+1)=(cH c l at' k||(cased c (l.getD (at'+1+k) 0)&&((l.drop (at'+1)).take k).all (al c))):=by
 unfold cH;rw[List.range_succ,List.any_append,List.any_cons,List.any_nil,Bool.or_false]
theorem avL(c:Cs)(l:List Int)(at':Nat):cH c l at' (l.length-(at'+1))=dI c (l.drop (at'+1)):=by
 unfold cH dI;rw[Px];have key:∀i,(l.drop (at'+1)).getD i 0=l.getD (at'+1+i) 0:=λi=>by
  rw[Rl,Rl,pr]
 simp only[key]
theorem ep(c:Cs)(l:List Int)(k:Nat):(List.range (k+1)).flatMap (small c l)=(List.range k).flatMap (small c l)++small c l k:=by
 rw[List.range_succ,Hi,I3,List.flatMap_nil,L3]
end T
namespace T
open Go.Proofs.YtniemfpkcjdcfaaGreatDoor
theorem afw{m:Nat}{c:Cs}(h:az m c=true){l:List Int}(hl:∀x∈l,U.right x=true):Fine l.length (lower c l):=by
 have key:∀k,k<=l.length->Fine k ((List.range k).flatMap (small c l)):=by
  intro k
  induction k with
  |zero=>intro _;exact Fine.nil
  |succ k XZ=>
   intro Z3;rw[ep];exact(XZ (by omega)).append (dz h hl (by omega))
 exact key _ Ys
end T
section
section
variable {P:Program} {W:World} {g:Nat} {t:TypeId} {cs cs':Array Value}
theorem H2{o:Oper}{a:Act}(ty:TypeId)(x:Operand)(YT:o.op=.load ty x)(g:Nat)(Z4:a.eval x=Zn g)(d:TypeDesc)(hu:P.underlying ty=some d)(Zm:(match d with|.struct _|.array _ _=>true|_=>false)=true)(hi:(P.info? ty).map (·.size)=some cs.size)(ZH:Zv W g t cs):(execOp a.eval o).run P W=.ok (.value (.agg cs)) W:=by
 unfold execOp;simp only[YT,Z4,Instr.loadAt,Instr.sureAddr,Sem.run_bind,Sem.run_pure,Result.andThen_ok,run_loadVar_row W g t ty cs (0,0) d ZH hu Zm hi]
