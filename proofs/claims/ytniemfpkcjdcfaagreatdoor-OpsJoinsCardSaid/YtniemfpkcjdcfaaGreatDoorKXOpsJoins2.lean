/- Texts of this claim. -/
import Derived.Test.YtniemfpkcjdcfaaGreatDoorK10
import Derived.Test.YtniemfpkcjdcfaaGreatDoorKXOpsJoins1

set_option maxHeartbeats 4000000
namespace Go.Proofs.YtniemfpkcjdcfaaGreatDoor
open Go.RowKit
open Tryz
theorem atZ{w w':World}{B:Nat}{v:Value}{n:Nat}{bs:List Value}(h:w.ownsRow B 5 1 v n bs)(Z8:Z6 w w'):w'.ownsRow B 5 1 v n bs:=by
 have hl:=h.lt;refine⟨h.1,?_⟩
 rcases h.2 with Z5|⟨g,ZU,VY,Z5,ZS,ZG,Zi⟩
 ·exact .inl Z5
 exact .inr ⟨g,ZU,VY,Z5,ZS,(Z8.block g (hl g (by rw[Z5];rfl)).2).trans ZG,Zi⟩
theorem av8{w:World}{B:Nat}{v:Value}{l:List UInt8}(h:w.ownsRow B 5 1 v l.length (Lib.byteCells l)):
  (convert 120 9 v).run prog w=.ok (.string ⟨l.toArray⟩) w:=by
 rcases h.2 with⟨rfl,Z5⟩|⟨g,ZU,VY,rfl,Z5,ZS,ZG⟩
 ·obtain rfl:=L4 Z5;exact Lib.run_convert_nil_bytes w _ _ _ 0 underlying120 underlying5 underlying9
 have ZL:=h.cells (g:=g) rfl;rw[run_convert_bytes_arg w 120 5 underlying120 underlying5 g 0 l.length ZU (l.map λb=>(b.toNat:Int)) (by simp) (λi hi=>?_) 9 underlying9]
 ·show Result.ok (Value.string ⟨((l.map λb=>(b.toNat:Int)).map U.byte).toArray⟩) w=_
  rw[IZ,show(U.byte∘λb:UInt8=>(b.toNat:Int))=id from funext λb=>U.eS b,List.map_id]
 have:=ZL i (.int .u8 ((l.map λb=>(b.toNat:Int)).getD i 0)) (by
  simp[Lib.byteCells,SA hi])
 (try unfold ZQ at *);rw[show(⟨g,0+i,none⟩:Addr)=(⟨g,0,none⟩:Addr).add i by unfold Addr.add;by_cases ZI:i=0 <;> simp[ZI]]
 exact this
theorem gG(v:Value)(xs:List Int)(w:World)(Z2:Y6 w v xs)(_:xs.length<=1000):
  Calls prog 88 #[v] w λe w'=>e=.returned (AA xs)/\Z6 w w':=by
 obtain⟨i0,hi,Vs,Up,Vf⟩:=info_parts si;have Qv:=bx Z2;obtain⟨XH,ZU,rfl⟩:=Z2.slice;clear Z2
 go_in
 go_wp2
 go_loopw[5,4] (λi o wr=>∃k:Nat,k<=xs.length/\i=Z9 k/\Box ((xs.take k).all U.right=true)/\Box (wr.ownsRow w.heap.size 5 1 o (U.textOf (xs.take k)).length (Lib.byteCells (U.textOf (xs.take k))))/\Box (Z6 w wr))
  (λi _ _=>xs.length-(intOf i).toNat)
 ·exact⟨0,by omega,rfl,⟨rfl⟩,⟨World.ownsRow_nil _ _ _ _⟩,⟨Below.refl _ _⟩⟩
 obtain⟨k,Z3,rfl,YZ,YT,Z8⟩:=hrel
 by_cases Zu:k<xs.length
 ·obtain⟨x,Z4⟩:=Yg xs k Zu;have YD:=bx Z4;obtain⟨g,off,XV,Y5,XL,Yi,XB,YX⟩:=(Qv.o.below Z8.o).get (by rintro rfl;simp at Zu);obtain⟨rfl,rfl⟩:=XN Y5;have ZL:=YX k x Z4;unfold maxLen at Yi;clear Z4 Y5 YX
  cases ZT:U.right x with
  |true=>
   have ZN:=bx (aa9 x ZT);have WO:=bx (acH xs k x YD.o YZ.o ZT);have V0:=bx (show w.heap.size<=wr.heap.size from Z8.o.size);have QQ:=bx (show(U.textOf (xs.take k)).length+(⟨(U.enc x).toArray⟩:ByteArray).size<=16777216 by
    have Z7:=abj (xs.take k);have Z5:=(U.c6 x).2;rw[SW]at Z7;rw[nN];omega)
   have PV:=bx (gF xs k x YD.o);clear ZT;go_wp2_with fail;refine(aeo x _).mono ?_;rintro e ZV ⟨rfl,ZZ⟩;rw[ZN.o];have iS:=bx (show ZV.ownsRow w.heap.size 5 1 _ _ _ from atZ YT.o ZZ);have ZW:=bx (show Z6 w ZV from bt Z8.o ZZ);clear ZZ;go_wp2_with (at_builtin;refine Lib.wpList_append_own_string _ rfl _ _ 120 9 rfl w.heap.size 5 i0 underlying120 underlying9 hi Vs Up Vf _ _ _ rfl iS.o _ rfl (by have:=QQ.o;unfold maxLen;omega) (by have:=QQ.o;omega) ZW.o.size ?_;intro Zy ZB Tf UN _)
   have iR:=bx (show ZB.ownsRow w.heap.size 5 1 Zy (U.textOf (xs.take (k+1))).length (Lib.byteCells (U.textOf (xs.take (k+1)))) by
    rw[PV.o,WR];rw[nN]at Tf;rw[show Lib.byteCells (U.textOf (xs.take k)++U.enc x)=Lib.byteCells (U.textOf (xs.take k))++Lib.strCells ⟨(U.enc x).toArray⟩ by simp[Lib.byteCells,Lib.strCells]];exact Tf)
   have Zt:=bx (show Z6 w ZB from ZW.o.grown UN ZW.o.size (λk Z3=>(iS.o.lt k Z3).1));clear Tf UN;obtain⟨a2,CR,c2,rfl⟩:∃XH n' ZU,Zy=.slice XH n' ZU:=by
    rcases iR.o.2 with⟨Z2,_⟩|⟨g,ZU,VY,Z2,_⟩
    ·exact⟨_,_,_,Z2⟩
    exact⟨_,_,_,Z2⟩
   go_wp2
   go_roundw
   ·exact⟨k+1,Zu,by go_num,WO,iR,Zt⟩
   simp[intOf];omega
  |false=>
   have ZN:=bx (rf ZT);have Y8:=bx (h5 xs k x YD.o ZT);clear ZT;go_wp2_with fail;refine(aeo x _).mono ?_;rintro e ZV ⟨rfl,ZZ⟩;rw[ZN.o]
   go_wp2
   go_ret2
   exact⟨by rw[Y8.o];rfl,bt Z8.o ZZ⟩
 have Y8:=bx (show xs.all U.right=true by have:=YZ.o;rwa[SU (by omega)]at this);have pJ:=YT.o;rw[SU (by omega)]at pJ;have ZL:=av8 pJ;clear YT
 rcases pJ.2 with⟨rfl,_⟩|⟨g,XV,VY,rfl,_⟩
 all_goals
  clear pJ
  go_wp2
  go_ret2
  exact⟨by rw[l3 xs Y8.o];rfl,Z8.o⟩
