/- Short words of this claim. -/
import Derived.Below
import Derived.WalkKit
namespace Go.Proofs.YtdponihkpomheaaGreatDoor
open Go.RowKit
abbrev ak (w w':World):Prop:=Below w.heap.size w w'
theorem bV {α:Type} (l:List α) (i:Nat) (h:i<l.length):∃ x,l[i]?=some x:=⟨_,List.getElem?_eq_getElem h⟩
theorem gEE {α:Type} {l:List α} {i:Nat} (h:i<l.length):l[i]?=some l[i]:=List.getElem?_eq_getElem h
theorem dO {α:Type} {l:List α} {i:Nat} {x:α} (h:l[i]?=some x):∃ h:i<l.length,l[i]=x:=List.getElem?_eq_some_iff.1 h
theorem dB {α:Type} {l:List α} {i:Nat} {x:α} (h:l[i]?=some x):x∈l:=List.mem_of_getElem? h
theorem gLM {α β:Type} {l:List α} {f:α→β}:(l.map f).length=l.length:=List.length_map ..
theorem gLA {α:Type} {l r:List α}:(l++r).length=l.length+r.length:=List.length_append
theorem aZ {w:World}:Below w.heap.size w w:=Below.refl _ _
theorem aU {n:Nat}:n<=n:=Nat.le_refl n
theorem dQ {a b:Option Addr} {n m c d:Nat} (h:Value.slice a n c=.slice b m d):a=b∧c=d:=by injection h with h1 h2 h3;exact ⟨h1,h3⟩
abbrev ah (x:Int):Value:=.int .i64 x
abbrev aj:Value:=.slice none 0 0
abbrev aA (g:Nat):Value:=.pointer (some ⟨g,0,none⟩)
abbrev ay (W:World) (g i:Nat):Option Value:=W.cell? ⟨g,i,none⟩
abbrev bC:=@List.length_append
abbrev bD:=@decide_eq_true
abbrev dh:=@decide_eq_false
abbrev aV:=@List.length_map
abbrev dW:=@List.getElem?_eq_getElem
abbrev dw:=@List.length_take
abbrev gq:=@List.take_of_length_le
abbrev fO:=@List.getD_eq_getElem?_getD
abbrev fF:=@Array.getElem?_eq_some_iff
abbrev dD:=@Bool.and_eq_true
abbrev bP:=@Nat.le_trans
abbrev fG:=@beq_eq_false_iff_ne
abbrev fC:=@Nat.lt_of_lt_of_le
abbrev fU:=@List.mem_singleton
abbrev dY:=@List.length_cons
abbrev eX:=@List.getElem?_map
abbrev gy:=@List.length_drop
abbrev fD:=@decide_eq_true_eq
abbrev oN:=@List.take_append_drop
abbrev iQ:=@Option.some.injEq
abbrev nR:=@List.eq_nil_of_length_eq_zero
abbrev rH:=@List.flatten_append
abbrev iR:=@List.map_cons
abbrev gX:=@List.map_append
abbrev fB:=@List.mem_cons
abbrev iH:=@List.not_mem_nil
abbrev jM:=@List.mem_map
abbrev mG:=@Int.toNat_natCast
abbrev yC:=@IntKind.wrap_i64
abbrev iG:=@List.length_nil
abbrev iJ:=@List.nil_append
abbrev oG:=@List.append_nil
abbrev pz:=@List.append_assoc
abbrev pY:=@List.flatten_cons
abbrev jE:=@Option.getD_some
abbrev wF:=@List.length_range
abbrev qV:=@List.mem_nil_iff
abbrev yj:=@List.getElem?_range
abbrev rQ:=@List.getElem?_cons_zero
abbrev jw:=@List.take_add_one
abbrev PG:=@List.length_reverse
abbrev EX:=@List.map_map
abbrev Vz:=@List.getElem?_eq_none_iff
abbrev Ub:=@Bool.and_eq_false_iff
abbrev MV:=@ByteArray.toList_eq
abbrev zA:=@Nat.mul_le_mul
abbrev G9:=@Nat.le_of_lt
abbrev zS:=@List.drop_eq_getElem_cons
abbrev lM:=@List.mem_append
abbrev Ja:=@List.take_succ_eq_append_getElem
abbrev Ji:=@bne_iff_ne
abbrev jG:=@List.all_eq_true
abbrev zO:=@List.any_eq_true
abbrev BX:=@Nat.add_mul
abbrev bK:=@Nat.le_refl
abbrev yD:=@List.getElem?_append_right
abbrev zU:=@List.getElem?_append_left
abbrev xY:=@List.getElem?_drop
abbrev aF:=@if_neg
abbrev aG:=@if_pos
abbrev jd:=@List.cons_append
abbrev oJ:=@Int.eq_ofNat_of_zero_le
abbrev jZ:=@List.mem_cons_self
abbrev gZ:=@Nat.lt_or_ge
abbrev mZ:=@List.mem_cons_of_mem
abbrev jm:=@List.cons.injEq
abbrev oz:=@List.flatMap_append
abbrev rC:=@Option.map_eq_some_iff
abbrev mQ:=@List.take_length
abbrev ou:=@List.push_toArray
abbrev pq:=@List.flatMap_cons
abbrev qW:=@Array.replicate_zero
abbrev rE:=@Array.replicate_succ
abbrev ny:=@Bool.eq_iff_iff
abbrev qQ:=@List.append_toArray
abbrev qH:=@List.size_toArray
abbrev oM:=@List.mem_range
abbrev yX:=@decide_eq_false_iff_not
abbrev oV:=@List.map_nil
abbrev sH:=@Nat.min_eq_left
abbrev zF:=@List.drop_eq_nil_of_le
abbrev qN:=@List.take_zero
abbrev nK:=@Nat.zero_le
abbrev Ah:=@Nat.eq_zero_or_pos
abbrev sZ:=@Int.lt_or_le
abbrev lN:=@beq_iff_eq
abbrev wE:=@List.getElem?_take
abbrev xX:=@List.forall_mem_cons
abbrev wM:=@List.take_succ_cons
end Go.Proofs.YtdponihkpomheaaGreatDoor
