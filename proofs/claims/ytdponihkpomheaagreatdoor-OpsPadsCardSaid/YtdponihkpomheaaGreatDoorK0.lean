/- Short words of this claim. -/
import Derived.Below
import Derived.WalkKit
namespace Go.Proofs.YtdponihkpomheaaGreatDoor
open Go.RowKit
abbrev Z6(w w':World):Prop:=Below w.heap.size w w'
theorem Yg{α:Type}(l:List α)(i:Nat)(h:i<l.length):∃x,l[i]?=some x:=⟨_,List.getElem?_eq_getElem h⟩
theorem gEE{α:Type}{l:List α}{i:Nat}(h:i<l.length):l[i]?=some l[i]:=List.getElem?_eq_getElem h
theorem R7{α:Type}{l:List α}{i:Nat}{x:α}(h:l[i]?=some x):∃h:i<l.length,l[i]=x:=List.getElem?_eq_some_iff.1 h
theorem Xh{α:Type}{l:List α}{i:Nat}{x:α}(h:l[i]?=some x):x∈l:=List.mem_of_getElem? h
theorem gLM{α β:Type}{l:List α}{f:α→β}:(l.map f).length=l.length:=List.length_map ..
theorem gLA{α:Type}{l r:List α}:(l++r).length=l.length+r.length:=List.length_append
theorem YU{w:World}:Below w.heap.size w w:=Below.refl _ _
theorem Ys{n:Nat}:n<=n:=Nat.le_refl n
theorem XN{a b:Option Addr}{n m c d:Nat}(h:Value.slice a n c=.slice b m d):a=b∧c=d:=by injection h with Z7 Z5 ZS;exact⟨Z7,ZS⟩
abbrev Z9(x:Int):Value:=.int .i64 x
abbrev Z1:Value:=.slice none 0 0
abbrev Zn(g:Nat):Value:=.pointer (some ⟨g,0,none⟩)
abbrev ZQ(W:World)(g i:Nat):Option Value:=W.cell? ⟨g,i,none⟩
abbrev WR:=@List.length_append
abbrev Yh:=@decide_eq_true
abbrev Yp:=@decide_eq_false
abbrev X4:=@List.length_map
abbrev SA:=@List.getElem?_eq_getElem
abbrev SW:=@List.length_take
abbrev SU:=@List.take_of_length_le
abbrev Rl:=@List.getD_eq_getElem?_getD
abbrev J4:=@Array.getElem?_eq_some_iff
abbrev Vm:=@Bool.and_eq_true
abbrev XJ:=@Nat.le_trans
abbrev Sz:=@beq_eq_false_iff_ne
abbrev Vh:=@Nat.lt_of_lt_of_le
abbrev Pe:=@List.mem_singleton
abbrev U3:=@List.length_cons
abbrev RX:=@List.getElem?_map
abbrev Px:=@List.length_drop
abbrev SS:=@decide_eq_true_eq
abbrev I0:=@List.take_append_drop
abbrev OS:=@Option.some.injEq
abbrev L4:=@List.eq_nil_of_length_eq_zero
abbrev JZ:=@List.flatten_append
abbrev RG:=@List.map_cons
abbrev T9:=@List.map_append
abbrev T7:=@List.mem_cons
abbrev RH:=@List.not_mem_nil
abbrev SL:=@List.mem_map
abbrev RU:=@Int.toNat_natCast
abbrev QN:=@IntKind.wrap_i64
abbrev SK:=@List.length_nil
abbrev RQ:=@List.nil_append
abbrev L3:=@List.append_nil
abbrev M8:=@List.append_assoc
abbrev Bu:=@List.flatten_cons
abbrev OT:=@Option.getD_some
abbrev Bz:=@List.length_range
abbrev J0:=@List.mem_nil_iff
abbrev jB:=@List.getElem?_range
abbrev Ig:=@List.getElem?_cons_zero
abbrev Uo:=@List.take_add_one
abbrev ajd:=@List.length_reverse
abbrev IZ:=@List.map_map
abbrev alR:=@List.getElem?_eq_none_iff
abbrev ajg:=@Bool.and_eq_false_iff
abbrev uV:=@ByteArray.toList_eq
abbrev IA:=@Nat.mul_le_mul
abbrev Bn:=@Nat.le_of_lt
abbrev H9:=@List.drop_eq_getElem_cons
abbrev Nb:=@List.mem_append
abbrev yl:=@List.take_succ_eq_append_getElem
abbrev En:=@bne_iff_ne
abbrev QG:=@List.all_eq_true
abbrev NS:=@List.any_eq_true
abbrev s7:=@Nat.add_mul
abbrev Wq:=@Nat.le_refl
abbrev Fz:=@List.getElem?_append_right
abbrev tj:=@List.getElem?_append_left
abbrev pr:=@List.getElem?_drop
abbrev Y4:=@if_neg
abbrev Y0:=@if_pos
abbrev SI:=@List.cons_append
abbrev PY:=@Int.eq_ofNat_of_zero_le
abbrev Pw:=@List.mem_cons_self
abbrev SM:=@Nat.lt_or_ge
abbrev Oj:=@List.mem_cons_of_mem
abbrev QE:=@List.cons.injEq
abbrev Hi:=@List.flatMap_append
abbrev NU:=@Option.map_eq_some_iff
abbrev OR:=@List.take_length
abbrev Og:=@List.push_toArray
abbrev I3:=@List.flatMap_cons
abbrev Mg:=@Array.replicate_zero
abbrev Mu:=@Array.replicate_succ
abbrev Lx:=@Bool.eq_iff_iff
abbrev Mo:=@List.append_toArray
abbrev My:=@List.size_toArray
abbrev Ly:=@List.mem_range
abbrev Bv:=@decide_eq_false_iff_not
abbrev Pa:=@List.map_nil
abbrev tn:=@Nat.min_eq_left
abbrev Gr:=@List.drop_eq_nil_of_le
abbrev J3:=@List.take_zero
abbrev OQ:=@Nat.zero_le
abbrev Bx:=@Nat.eq_zero_or_pos
abbrev PX:=@Int.lt_or_le
abbrev Lz:=@beq_iff_eq
abbrev ayf:=@List.getElem?_take
abbrev Jo:=@List.forall_mem_cons
abbrev Lu:=@List.take_succ_cons
