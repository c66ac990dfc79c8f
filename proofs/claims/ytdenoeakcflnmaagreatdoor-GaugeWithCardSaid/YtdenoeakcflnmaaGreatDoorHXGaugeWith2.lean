/- Texts of this claim. -/
import Derived.IntWalk
import Derived.Laws.IdiomStrings
import Derived.Laws.BytesArg
import Derived.Lib.BufferRead
import Derived.Test.YtdenoeakcflnmaaGreatDoorH11
import Derived.Test.YtdenoeakcflnmaaGreatDoorHXGaugeWith1

set_option maxHeartbeats 2000000
namespace Go.Proofs.YtdenoeakcflnmaaGreatDoor
section
open Go.RowKit
def wV (w:World) (g off cap:Nat) (l:List UInt8):Prop:=g<w.heap.size/\(M.places l).length+1<=cap/\cap<=maxLen/\∀ (k p:Nat),(M.cuts (M.places l))[k]?=some p->w.cell? ⟨g,off+k,none⟩=some (.int .i64 (p:Int))
theorem wV.below {w w':World} {g off cap:Nat} {l:List UInt8} (h:wV w g off cap l) (hb:Below w.heap.size w w'):wV w' g off cap l :=
 ⟨Nat.lt_of_lt_of_le h.1 hb.size,h.2.1,h.2.2.1,λk p hk=>(hb.cell (p:=⟨g,off+k,none⟩) h.1).trans (h.2.2.2 k p hk)⟩
theorem VL {w:World} {v:Value} {l:List UInt8} (h:aB w v (lT l)):∃ g off cap,v = .slice (some ⟨g,off,none⟩) ((M.places l).length+1) cap/\wV w g off cap l:=by
 have hl:(lT l).length=(M.places l).length+1:=by unfold lT;rw [List.length_map,M.KG]
 obtain⟨g,off,cap,h1,h2,h3,h4,h5⟩:=h.get (by intro e;rw [e] at hl;simp at hl);rw [hl] at h1 h2;refine⟨g,off,cap,h1,h4,h2,h3,λk p hk=>h5 k p ?_⟩;unfold lT;rw [List.getElem?_map,hk];rfl
section
variable {A:Nat->Addr} {B:Nat} {W0 w:World}
end
theorem SS (s:ByteArray) (m:Nat) (hm:Box ((M.places s.data.toList).length+1=m+1)) (w:World) (hs:s.size<=100000) :
  Calls Tryz.prog 80 #[.string s] w λe w'=>(∃ g off cap,e = .returned (.slice (some ⟨g,off,none⟩) (m+1) cap)/\Box (wV w' g off cap s.data.toList))/\Below w.heap.size w w':=by
 rw [<- hm.o];exact(Iu s w hs).mono λe w' ⟨⟨v,he,hi⟩,hb⟩=>by
  obtain⟨g,off,cap,rfl,hc⟩:=VL hi;exact⟨⟨g,off,cap,he,⟨hc⟩⟩,hb⟩
theorem take_snoc {α:Type} {l:List α} {k:Nat} {x:α} (h:l[k]?=some x):l.take (k+1)=l.take k++[x]:=by
 rw [List.take_add_one,h];rfl
theorem Ir (w:World) (n:Nat):Below w.heap.size w (w.drewN n):=below_drewN (Below.refl _ _) n
theorem Pv {P:Program} {ops:Array Oper} {o:Oper} {a:Act} (w:World) {K:Act->World->Prop} {Q:Exit->Act->World->Prop} {E:Prop} (hgd:o.guard=none) (sl x:Operand) (t u:TypeId)
  (ho:o.op = .call { callee:=.builtin .append,args:=#[sl,x],argTypes:=#[t,u] })
  (base:Nat) (e:TypeId) (i:TypeInfo) (ht:P.underlying t=some (.slice e)) (hu:P.underlying u=some .string) (hi:P.info? e=some i) (hz:i.zero=some (.int .u8 0))
  (hsize:i.size=1) (hby:i.bytes=1)
  (v:Value) (n:Nat) (xs:List Value) (hs:a.eval sl=v) (hown:w.ownsRow base e 1 v n xs) (s:ByteArray) (hx:a.eval x = .string s)
  (h63:n+s.size<=maxLen) (hbytes:n+s.size<=140737488355328) (hbase:base<=w.heap.size)
  (h:∀ v' w',w'.ownsRow base e 1 v' (n+s.size) (xs++Lib.strCells s)->w.grownBy w' v.ownBlock->K (a.put o.dst v') w') :
  if Region.wanted o (yielded ops a.tmps)=true then Oper.wp P o a w K Q else E:=by
 have hw:Region.wanted o (yielded ops a.tmps)=true:=by simp [Region.wanted,hgd]
 rw [if_pos hw];obtain⟨v',w',hr,h2,h3,h4⟩:=Lib.run_append_own_string (P:=P) w base t u o.type e i ht hu hi hz hsize hby v n xs hown s h63 hbytes hbase;unfold Oper.wp execOp;simp only [ho,resolve,invoke,builtin,Sem.run_bind,Sem.run_pure,Result.andThen_ok,List.map_toArray,List.map_cons,List.map_nil,hs,hx,hr];exact h v' w' h2 h3
theorem Vb {P:Program} {src dst e:TypeId} {W:World} {base n:Nat} {v:Value} {l:List UInt8} (hs:P.underlying src=some (.slice e)) (he:P.underlying e=some (.int .u8)) (hd:P.underlying dst=some .string)
  (h:W.ownsRow base e 1 v n (Lib.byteCells l)):(convert src dst v).run P W = .ok (.string ⟨l.toArray⟩) W:=by
 have hn:l.length=n:=by have:=h.1;rw [Lib.byteCells_length,Nat.mul_one] at this;exact this
 subst hn
 rcases h.2 with⟨rfl,h2⟩ | ⟨g,cap,cur,rfl,-⟩
 ·obtain rfl:=List.eq_nil_of_length_eq_zero h2;exact run_convert_bytes_nil W src e hs he 0 0 dst hd
 ·refine run_convert_bytes_back W src dst e _ cap l hs he hd λj hj=>?_
  exact h.cells (g:=g) rfl j (.int .u8 (l[j].toNat:Int)) (by unfold Lib.byteCells;rw [List.getElem?_map,List.getElem?_eq_getElem hj];rfl)
theorem Ui (a b:List UInt8):Lib.byteCells (a++b)=Lib.byteCells a++Lib.byteCells b:=by simp [Lib.byteCells]
theorem zY {w:World} {base:Nat} {e:TypeId} {size:Nat} {v:Value} {n:Nat} {xs:List Value} (h:w.ownsRow base e size v n xs):∃ a c,v = .slice a n c:=by
 rcases h.2 with⟨rfl,rfl⟩ | ⟨g,cap,cur,rfl,_⟩
 ·exact⟨_,_,rfl⟩
 ·exact⟨_,_,rfl⟩
theorem TL {w w':World} {base:Nat} {e:TypeId} {v:Value} {n:Nat} {xs:List Value} (h:w.ownsRow base e 1 v n xs) (hb:Below w.heap.size w w'):w'.ownsRow base e 1 v n xs :=
 (Turns.of_below hb).row h (λ_ _ h=>h)
theorem yF (s:ByteArray) (w:World) (hs:s.size<=100000) :
  Calls Tryz.prog 41 #[.string s] w λe w'=>e = .returned (.string ⟨(M.fix s.data.toList).toArray⟩)/\Below w.heap.size w w':=by
 have aU:=bx (size_eq s);obtain⟨m,hm⟩:∃ m,(M.places s.data.toList).length=m:=⟨_,rfl⟩
 have hmz:=sS s.data.toList;rw [hm,<- aU.o] at hmz;have HM:=bx hm;have HU:=bx (SS s m ⟨by rw [hm]⟩ w hs);obtain⟨i0,hi,hz0,hz1,hz2⟩:=info_parts PK;clear hm
 go_enter Tryz.func41,Tryz.ntmps41
 go_wp2_with fail;refine HU.o.mono ?_;rintro e w1 ⟨⟨g,off,cap,rfl,HC⟩,hb1⟩;have HB1:=bx hb1;have hcap1:m+1<=cap:=by have:=HC.o.2.1;have:=HM.o;omega
 have hcap2:cap<=9223372036854775807:=by have:=HC.o.2.2.1;unfold maxLen at this;omega
 clear hb1;go_wp2_with fail
 go_loopw [3,5] (λo i wr=>∃ k n:Nat,k<=m/\n<=4*k/\i = .int .i64 k/\Box (wr.ownsRow w1.heap.size 5 1 o n (Lib.byteCells (M.repair s.data.toList ((M.places s.data.toList).take k))))/\Box (Below w1.heap.size w1 wr)) (λ_ i _=>m-(intOf i).toNat)
 case atStart=>exact⟨0,0,by omega,by omega,rfl,⟨World.ownsRow_nil _ _ _ _⟩,⟨Below.refl _ _⟩⟩
 case round =>
  obtain⟨k,n,hk,hnk,rfl,ho,hb⟩:=hrel
  by_cases hlt:k<m
  ·obtain⟨x,hx,g1,g2,-,g3,g4,g5,g6,g7⟩:=M.WW (s:=s.data.toList) (i:=k) (by rw [HM.o];exact hlt);have En:=HC.o.below hb.o;have k0:wr.cell? ⟨g,off+k,none⟩=some (.int .i64 (x.1:Int)):=En.2.2.2 k x.1 g1;have k1:wr.cell? ⟨g,off+(k+1),none⟩=some (.int .i64 ((x.1+x.2.1:Nat):Int)):=En.2.2.2 (k+1) _ g2;have jJ:=bx (show Lib.byteCells (M.repair s.data.toList ((M.places s.data.toList).take (k+1)))=Lib.byteCells (M.repair s.data.toList ((M.places s.data.toList).take k))++Lib.byteCells (M.mended s.data.toList x) by rw [take_snoc hx,Uj,Ui]);obtain⟨xa,xm,xo⟩:=x;simp only at k0 k1 g5 g6 g7;have hxa:xa+xm<=s.size:=by rw [aU.o];exact g6
   obtain⟨X,hX⟩:∃ X,s.extract xa s.size=X:=⟨_,rfl⟩
   have nN:=L8 s xa;rw [hX] at nN;have vw:X.size<=16777216:=by rw [size_eq,nN,List.length_drop,<- aU.o];omega
   have HV:=bx (show oh X.data.toList = .tuple #[.int .i64 xm, .bool xo] by rw [nN];unfold oh;rw [g7]);have hsl:=LY (P:=Tryz.prog) (T:=9) Tryz.underlying9 s xa ⟨by omega,by omega⟩;rw [Int.toNat_natCast,hX] at hsl;have jS:=bx (Lm X wr vw);have SY:=bx (TL ho.o (Ir wr 1));obtain⟨oa,oc,rfl⟩:=zY ho.o;clear hx g1 g2 g3 g4 g6 g7 hX nN vw En
   cases xo with
   | true =>
    have hYl:(s.extract xa (xa+xm)).data.toList=(s.data.toList.drop xa).take xm:=by rw [Lib.extract_data,Nat.add_sub_cancel_left]
    have hs2:=Oy (P:=Tryz.prog) (T:=9) Tryz.underlying9 s xa ((xa+xm:Nat):Int) ⟨by omega,by omega,by omega⟩;rw [Int.toNat_natCast,Int.toNat_natCast] at hs2;obtain⟨Y,hY⟩:∃ Y,s.extract xa (xa+xm)=Y:=⟨_,rfl⟩
    rw [hY] at hs2 hYl;have hYz:Y.size<=4:=by rw [size_eq,hYl,List.length_take];omega
    have HY:=bx (show Lib.byteCells (M.mended s.data.toList (xa,xm,true))=Lib.strCells Y by unfold M.mended Lib.strCells Lib.byteCells;rw [if_pos rfl,hYl]);clear hYl hY;generalize xa+xm=z at k1 hs2 hxa;have hw1:IntKind.i64.wrap ((k:Int)+1)=(k:Int)+1:=IntWalk.i64_in _ (by omega);have hw2:0<=(k:Int)+1:=by omega
    have hw3:((k:Int)+1).toNat=k+1:=by omega
    have hw4:(k:Int)+1<(m:Int)+1:=by omega
    have hw5:(k:Int)<(m:Int)+1:=by omega
    go_wp2_with fail;refine jS.o.mono ?_;rintro e w3 ⟨rfl,rfl⟩;rw [HV.o];go_wp2_with fail
    go_region_law (refine Pv _ rfl _ _ 94 9 rfl w1.heap.size 5 i0 Tryz.underlying94 Tryz.underlying9 hi hz0 hz1 hz2 _ _ _ rfl SY.o Y rfl ?c3 ?c4 ?c5 ?_;(case c3=>unfold maxLen;omega);(case c4=>omega);(case c5=>have:=hb.o.size;simp;omega);intro v' w4 hown' hgrow;obtain⟨Di,oc',rfl⟩:=zY hown')
    all_goals
     have HOW:=bx (show w4.ownsRow w1.heap.size 5 1 (.slice Di (n+Y.size) oc') (n+Y.size) (Lib.byteCells (M.repair s.data.toList ((M.places s.data.toList).take (k+1)))) by rw [jJ.o,HY.o];exact hown');have HB4:=bx (show Below w1.heap.size w1 w4 from(hb.o.trans ((Ir wr 1).mono hb.o.size)).grown hgrow (by have:=hb.o.size;simp;omega) (λq hq=>(ho.o.lt q hq).1));clear hown' hgrow hw1 hw2 hw3 hw4 hw5;go_wp2_with fail
     go_roundw
     case rel=>exact⟨k+1,n+Y.size,hlt,by omega,by go_num,HOW,HB4⟩
     case measure=>simp [intOf];try omega
   | false =>
    have HY:=bx (show Lib.byteCells (M.mended s.data.toList (xa,xm,false))=Lib.strCells ⟨#[239,191,189]⟩ by unfold M.mended;rfl);clear k1;go_wp2_with fail;refine jS.o.mono ?_;rintro e w3 ⟨rfl,rfl⟩;rw [HV.o];go_wp2_with (at_builtin;refine Lib.wpList_append_own_string _ rfl _ _ 94 9 rfl w1.heap.size 5 i0 Tryz.underlying94 Tryz.underlying9 hi hz0 hz1 hz2 _ _ _ rfl ho.o ⟨#[239,191,189]⟩ rfl ?c3 ?c4 ?c5 ?_)
    case c3=>show n+3<=maxLen;unfold maxLen;omega
    case c4=>show n+3<=_;omega
    case c5=>have:=hb.o.size;omega
    intro v' w4 hown' hgrow _;obtain⟨Di,oc',rfl⟩:=zY hown';have HOW:=bx (show w4.ownsRow w1.heap.size 5 1 (.slice Di (n+3) oc') (n+3) (Lib.byteCells (M.repair s.data.toList ((M.places s.data.toList).take (k+1)))) by rw [jJ.o,HY.o];exact hown');have HB4:=bx (show Below w1.heap.size w1 w4 from hb.o.grown hgrow (by have:=hb.o.size;omega) (λq hq=>(ho.o.lt q hq).1));clear hown' hgrow;go_wp2_with fail
    go_roundw
    case rel=>exact⟨k+1,n+3,hlt,by omega,by go_num,HOW,HB4⟩
    case measure=>simp [intOf];try omega
  ·obtain rfl:k=m:=by omega
   have hrow:=ho.o;rw [List.take_of_length_le (by rw [HM.o];omega)] at hrow;have hcv:=Vb (P:=Tryz.prog) (src:=94) (dst:=9) Tryz.underlying94 Tryz.underlying5 Tryz.underlying9 hrow;obtain⟨F,hF⟩:∃ F,M.repair s.data.toList (M.places s.data.toList)=F:=⟨_,rfl⟩
   rw [hF] at hcv;have HF:=bx (show M.fix s.data.toList=F from hF);obtain⟨oa,oc,rfl⟩:=zY ho.o;clear hrow hF;go_wp2_with fail;go_ret
   exact⟨by rw [HF.o];rfl,bt HB1.o hb.o⟩
theorem Qk {l:List UInt8} (h:U.dec l=none):iY l = .tuple #[.int .i64 0, .int .i64 0, .bool false]:=by unfold iY;rw [h];rfl
theorem TA {l:List UInt8} {r:Int} {n:Nat} (h:U.dec l=some (r,n)):iY l = .tuple #[.int .i64 r, .int .i64 n, .bool true]:=by unfold iY;rw [h];rfl
theorem LV (s:ByteArray) (w:World) (hs:s.size<=16777216) :
  Calls Tryz.prog 151 #[.string s] w (KA s w):=by
 obtain⟨i0,hi,hz0,hz1,hz2⟩:=info_parts KD;have HS:=bx hs
 go_enter Tryz.func151,Tryz.ntmps151
 go_wp2
 go_loopw [0,4] (λa v wr=>∃ (pre:List Int) (rest:ByteArray),rest.size<=s.size/\pre.length+rest.size<=s.size/\a = .string rest/\Box (U.textOf pre++rest.data.toList=s.data.toList/\∀ r∈pre,U.right r=true)/\Box (wr.ownsRow w.heap.size 3 1 v pre.length (pre.map (Value.int .i64)))/\Box (Below w.heap.size w wr))
  (λa _ _=>match a with | .string r=>r.size | _=>0)
 case atStart=>exact⟨[],s,Nat.le_refl _,by simp,rfl,⟨⟨rfl,λr hr=>by cases hr⟩⟩,⟨World.ownsRow_nil _ _ _ _⟩,⟨Below.refl _ _⟩⟩
 case round =>
  obtain⟨pre,rest,hrs,hpl,rfl,hp,ho,hb⟩:=hrel
  cases hl:rest.data.toList with
  | nil =>
   have hz:=isEmpty_nil hl;have HX:=bx (show U.scalars s.data.toList=some pre from(U.qK _ _).2 ⟨by rw [<- hp.o.1,hl,List.append_nil],hp.o.2⟩);clear hl hpl hrs
   go_wp2
   go_ret2
   refine⟨hb.o,?_⟩;rw [HX.o];exact⟨_,rfl,ho.o⟩
  | cons c t =>
   have hz:=isEmpty_cons hl;have hne:rest.data.toList≠[]:=by rw [hl];simp
   cases hd:U.dec rest.data.toList with
   | none =>
    have HV:=bx (Qk hd);have HX:=bx (show U.scalars s.data.toList=none by
     cases hx:U.scalars s.data.toList with
     | none=>rfl
     | some l =>
      obtain⟨h1,h2⟩:=(U.qK _ _).1 hx;have h3:U.scalars (U.textOf pre++rest.data.toList)=some l:=by rw [hp.o.1];exact hx
      rw [U.NC pre hp.o.2,U.LW hne hd] at h3
      cases h3)
    have HR:=bx (show rest.size<=maxLen by have:=HS.o;unfold maxLen;omega);clear hl hne hd hpl hrs;go_wp2_with fail;refine(EI rest _ HR.o).mono ?_;rintro e w1 ⟨rfl,rfl⟩;rw [HV.o];go_wp2_with fail;go_ret2
    refine⟨hb.o,?_⟩;rw [HX.o]
    rfl
   | some q =>
    obtain⟨r,n⟩:=q;obtain⟨hr,he,h1,h4,hlen⟩:=U.zh hd;have HV:=bx (TA hd);rw [<- size_eq] at hlen;have HP:=bx (show U.textOf (pre++[r])++(rest.extract n rest.size).data.toList=s.data.toList/\∀ x∈pre++[r],U.right x=true by
     constructor
     ·rw [U.I9,List.append_assoc,<- hp.o.1];refine congrArg (U.textOf pre++·) ?_;rw [Lib.extract_data,List.take_of_length_le (by rw [List.length_drop,<- size_eq];exact Nat.le_refl _)];show U.enc r++[]++_=_
      rw [he,List.append_nil,List.take_append_drop]
     ·intro x hx
      rcases List.mem_append.1 hx with hx | hx
      ·exact hp.o.2 x hx
      ·simp at hx;rw [hx];exact hr)
    have HR:=bx (show rest.size<=maxLen by have:=HS.o;unfold maxLen;omega);have HN:=bx (show (rest.extract n rest.size).size=rest.size-n by rw [size_eq,Lib.extract_data,List.length_take,List.length_drop,<- size_eq];omega);have hpz:pre.length<=16777216:=by have:=HS.o;omega
    have HB:=bx (show w.heap.size<=wr.heap.size from hb.o.size);clear hl hne hd he hr;go_wp2_with fail;refine(EI rest _ HR.o).mono ?_;rintro e w1 ⟨rfl,rfl⟩;rw [HV.o];go_wp2_with (at_builtin;refine wpList_append_own _ rfl _ _ 22 rfl w.heap.size 3 i0 (.int .i64 0) 1 8 Tryz.underlying22 hi hz0 hz1 hz2 rfl (by decide) _ _ _ rfl (ho.o.alloc _) ⟨wr.heap.size,0,none⟩ 1 1 [.int .i64 r] rfl rfl (cell_one_new _ _ _) (by simp [Value.oneCell']) (by unfold maxLen;omega) (by omega) (by have:=HB.o;simp;omega) ?_;intro v' w1 hown' hgrow _;obtain⟨g',cap',rfl⟩:=ownsRow_succ hown')
    have HO:=bx hown';have HG:=bx (show Below w.heap.size w w1 from(hb.o.alloc HB.o _).grown hgrow (by have:=HB.o;simp;omega) (λk hk=>(ho.o.lt k hk).1));clear hown' hgrow
    go_roundw
    case rel =>
     refine⟨pre++[r],rest.extract n rest.size,by rw [HN.o];omega,by rw [HN.o,List.length_append];simp;omega,rfl,HP,⟨?_⟩,HG⟩;have:=HO.o
     simpa using this
    case measure=>have:=HN.o;show (rest.extract n rest.size).size<rest.size;omega
end
end Go.Proofs.YtdenoeakcflnmaaGreatDoor
