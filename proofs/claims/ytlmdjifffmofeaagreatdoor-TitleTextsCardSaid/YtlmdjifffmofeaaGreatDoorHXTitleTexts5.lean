import Derived.Test.YtlmdjifffmofeaaGreatDoorHXTitleTexts4

set_option maxHeartbeats 16000000
set_option maxRecDepth 100000
namespace Go.Proofs.YtlmdjifffmofeaaGreatDoor
open Tryz
section
open Go.RowKit
theorem YI (s:ByteArray) (a:Nat):(s.extract a s.size).data.toList=s.data.toList.drop a:=by
 rw [Lib.extract_data,List.take_of_length_le (by rw [List.length_drop,<- size_eq];omega)]
theorem adl {P:Program} {T:TypeId} (hT:P.underlying T=some .string) (s:ByteArray) (lo:Int) (h:0<=lo/\lo<=s.size) :
  ∀ W,(Instr.slice T (.string s) (some (.int .i64 lo)) none none).run P W = .ok (.string (s.extract lo.toNat s.size)) W:=by
 intro W;rw [run_slice_string_from_if W _ _ _ _ hT,if_pos (by omega)]
theorem ah1 (s:ByteArray) (w:World) (hs:s.size<=100000) :
  Calls prog 88 #[.string s] w λe w'=>(∃ v,e = .returned v/\ay w' v (Gt s.data.toList))/\Below w.heap.size w w':=by
 have bK:=bx (size_eq s);obtain⟨i0,hi,hz0,hz1,hz2⟩:=info_parts VH
 go_enter func88,ntmps88
 go_wp2_with fail
 go_loopw [3,4] (λo i wr=>∃ (a:Nat) (pre:List M.Place),a<=s.size/\i = .int .i64 a/\Box (pre++M.rest s.data.toList a=M.places s.data.toList)/\Box (wr.ownsRow w.heap.size 3 1 o (pre.length+1) (KQ pre))/\Box (Below w.heap.size w wr))
  (λ_ i _=>s.size-(intOf i).toNat)
 case atStart =>
  refine⟨0,[],by omega,rfl,⟨by rw [M.F9];rfl⟩,⟨?_⟩,⟨Oz _ _⟩⟩;exact World.ownsRow_lit (base:=w.heap.size) (e:=3) (size:=1) w #[.int .i64 0] 1 (Nat.le_refl _) (by unfold maxLen;omega) rfl
 case round =>
  obtain⟨a,pre,ha,rfl,hp,ho,hb⟩:=hrel
  by_cases hlt:a<s.size
  ·have hlt':a<s.data.toList.length:=by rw [<- bK.o];exact hlt
   obtain⟨m,ok,hu⟩:∃ m ok,M.unit (s.data.toList.drop a)=(m,ok):=⟨_,_,rfl⟩
   have wK:=M.I8 hlt';have hrc:=M.Cc s.data.toList a hlt';rw [hu] at wK hrc;simp only at wK hrc;obtain⟨X,hX⟩:∃ X,s.extract a s.size=X:=⟨_,rfl⟩
   have xP:=YI s a;rw [hX] at xP;have GR:X.size<=16777216:=by rw [size_eq,xP,List.length_drop,<- bK.o];omega
   have HU:=bx (show Ak X.data.toList = .tuple #[.int .i64 m, .bool ok] by rw [xP];unfold Ak;rw [hu]);have HP:=bx (show pre++(a,m,ok)::M.rest s.data.toList (a+m)=M.places s.data.toList by rw [<- hrc];exact hp.o);have hpl:pre.length<s.size:=by
    have h1:=congrArg List.length HP.o;have h2:=OE s.data.toList;simp only [List.length_append,List.length_cons] at h1;rw [<- bK.o] at h2;omega
   have ham:a+m<=s.size:=by rw [bK.o];exact wK.2.2
   have hm1:=wK.1;have hm4:=wK.2.1;have hsl:=adl (P:=prog) (T:=9) underlying9 s a ⟨by omega,by omega⟩;rw [Int.toNat_natCast,hX] at hsl;have vZ:=bx (abr X wr GR);have gU:=bx (alN pre (a,m,ok));clear hlt' hu wK hrc hX xP GR hp;obtain⟨og,oc,rfl⟩:=ownsRow_succ ho.o;go_wp2_with fail;refine vZ.o.mono ?_;rintro e w3 ⟨rfl,rfl⟩;rw [HU.o];go_wp2_with (at_builtin;refine wpList_append_own _ rfl _ _ 23 rfl w.heap.size 3 i0 (.int .i64 0) 1 8 underlying23 hi hz0 hz1 hz2 rfl (by decide) _ _ _ rfl (ho.o.alloc _) ⟨wr.heap.size,0,none⟩ 1 1 [.int .i64 ((a:Int)+(m:Int))] rfl rfl (cell_one_new _ _ _) (by simp [Value.oneCell']) (by unfold maxLen;omega) (by omega) (by have:=hb.o.size;simp;omega) ?_;intro v' w4 hown' hgrow _;obtain⟨g',cap',rfl⟩:=ownsRow_succ hown')
   have HOW:=bx (show w4.ownsRow w.heap.size 3 1 (.slice (some ⟨g',0,none⟩) (pre.length+1+1) cap') ((pre++[(a,m,ok)]).length+1) (KQ (pre++[(a,m,ok)])) by rw [gU.o,List.length_append];exact hown');have HB4:=bx (show Below w.heap.size w w4 from(hb.o.alloc hb.o.size _).grown hgrow (by have:=hb.o.size;simp;omega) (λq hq=>(ho.o.lt q hq).1));clear hown' hgrow;go_wp2_with fail
   go_roundw
   case rel=>exact⟨a+m,pre++[(a,m,ok)],ham,by go_num,⟨by rw [List.append_assoc];exact HP.o⟩,HOW,HB4⟩
   case measure=>simp [intOf];omega
  ·have Aw:=bx (show pre=M.places s.data.toList by
    have:=hp.o;rw [M.rest_end _ _ (by rw [<- bK.o];omega),List.append_nil] at this;exact this)
   obtain⟨og,oc,rfl⟩:=ownsRow_succ ho.o;go_wp2_with fail;go_ret
   refine⟨⟨_,rfl,?_⟩,hb.o⟩;have:=ho.o;rw [Aw.o] at this;refine ay.dL (n:=(M.places s.data.toList).length+1) (T:=3) (base:=w.heap.size) ?_ (by unfold Gt;rw [List.length_map,M.adG]);unfold Gt;rw [List.map_map];have h2:pre.length=(M.places s.data.toList).length:=by rw [Aw.o]
   rw [<- h2];rw [<- h2] at this;exact this
def Kw (w:World) (g off cap:Nat) (l:List UInt8):Prop:=g<w.heap.size/\(M.places l).length+1<=cap/\cap<=maxLen/\∀ (k p:Nat),(M.cuts (M.places l))[k]?=some p->w.cell? ⟨g,off+k,none⟩=some (.int .i64 (p:Int))
theorem Kw.below {w w':World} {g off cap:Nat} {l:List UInt8} (h:Kw w g off cap l) (hb:Below w.heap.size w w'):Kw w' g off cap l :=
 ⟨Nat.lt_of_lt_of_le h.1 hb.size,h.2.1,h.2.2.1,λk p hk=>(hb.cell (p:=⟨g,off+k,none⟩) h.1).trans (h.2.2.2 k p hk)⟩
theorem aj3 {w:World} {v:Value} {l:List UInt8} (h:ay w v (Gt l)):∃ g off cap,v = .slice (some ⟨g,off,none⟩) ((M.places l).length+1) cap/\Kw w g off cap l:=by
 have hl:(Gt l).length=(M.places l).length+1:=by unfold Gt;rw [List.length_map,M.adG]
 obtain⟨g,off,cap,h1,h2,h3,h4,h5⟩:=h.get (by intro e;rw [e] at hl;simp at hl);rw [hl] at h1 h2;refine⟨g,off,cap,h1,h4,h2,h3,λk p hk=>h5 k p ?_⟩;unfold Gt;rw [List.getElem?_map,hk];rfl
section
variable {A:Nat->Addr} {B:Nat} {W0 w:World}
end
theorem anM (s:ByteArray) (m:Nat) (hm:Box ((M.places s.data.toList).length+1=m+1)) (w:World) (hs:s.size<=100000) :
  Calls prog 88 #[.string s] w λe w'=>(∃ g off cap,e = .returned (.slice (some ⟨g,off,none⟩) (m+1) cap)/\Box (Kw w' g off cap s.data.toList))/\Below w.heap.size w w':=by
 rw [<- hm.o];exact(ah1 s w hs).mono λe w' ⟨⟨v,he,hi⟩,hb⟩=>by
  obtain⟨g,off,cap,rfl,hc⟩:=aj3 hi;exact⟨⟨g,off,cap,he,⟨hc⟩⟩,hb⟩
theorem take_snoc {α:Type} {l:List α} {k:Nat} {x:α} (h:l[k]?=some x):l.take (k+1)=l.take k++[x]:=by
 rw [List.take_add_one,h];rfl
theorem abu (w:World) (n:Nat):Below w.heap.size w (w.drewN n):=below_drewN (Below.refl _ _) n
theorem akO {P:Program} {ops:Array Oper} {o:Oper} {a:Act} (w:World) {K:Act->World->Prop} {Q:Exit->Act->World->Prop} {E:Prop} (hgd:o.guard=none) (sl x:Operand) (t u:TypeId)
  (ho:o.op = .call { callee:=.builtin .append,args:=#[sl,x],argTypes:=#[t,u] })
  (base:Nat) (e:TypeId) (i:TypeInfo) (ht:P.underlying t=some (.slice e)) (hu:P.underlying u=some .string) (hi:P.info? e=some i) (hz:i.zero=some (.int .u8 0))
  (hsize:i.size=1) (hby:i.bytes=1)
  (v:Value) (n:Nat) (xs:List Value) (hs:a.eval sl=v) (hown:w.ownsRow base e 1 v n xs) (s:ByteArray) (hx:a.eval x = .string s)
  (h63:n+s.size<=maxLen) (hbytes:n+s.size<=140737488355328) (hbase:base<=w.heap.size)
  (h:∀ v' w',w'.ownsRow base e 1 v' (n+s.size) (xs++Lib.strCells s)->w.grownBy w' v.ownBlock->K (a.put o.dst v') w') :
  if Region.wanted o (yielded ops a.tmps)=true then Oper.wp P o a w K Q else E:=by
 have hw:Region.wanted o (yielded ops a.tmps)=true:=by simp [Region.wanted,hgd]
 rw [if_pos hw];obtain⟨v',w',hr,h2,h3,h4⟩:=Lib.run_append_own_string (P:=P) w base t u o.type e i ht hu hi hz hsize hby v n xs hown s h63 hbytes hbase;unfold Oper.wp execOp;simp only [ho,resolve,invoke,builtin,Sem.run_bind,Sem.run_pure,Result.andThen_ok,List.map_toArray,List.map_cons,List.map_nil,hs,hx,hr];exact h v' w' h2 h3
theorem amX {P:Program} {src dst e:TypeId} {W:World} {base n:Nat} {v:Value} {l:List UInt8} (hs:P.underlying src=some (.slice e)) (he:P.underlying e=some (.int .u8)) (hd:P.underlying dst=some .string)
  (h:W.ownsRow base e 1 v n (Lib.byteCells l)):(convert src dst v).run P W = .ok (.string ⟨l.toArray⟩) W:=by
 have hn:l.length=n:=by have:=h.1;rw [Lib.byteCells_length,Nat.mul_one] at this;exact this
 subst hn
 rcases h.2 with⟨rfl,h2⟩ | ⟨g,cap,cur,rfl,-⟩
 ·obtain rfl:=List.eq_nil_of_length_eq_zero h2;exact run_convert_bytes_nil W src e hs he 0 0 dst hd
 ·refine run_convert_bytes_back W src dst e _ cap l hs he hd λj hj=>?_
  exact h.cells (g:=g) rfl j (.int .u8 (l[j].toNat:Int)) (by unfold Lib.byteCells;rw [List.getElem?_map,List.getElem?_eq_getElem hj];rfl)
theorem an7 (a b:List UInt8):Lib.byteCells (a++b)=Lib.byteCells a++Lib.byteCells b:=by simp [Lib.byteCells]
theorem NY {w:World} {base:Nat} {e:TypeId} {size:Nat} {v:Value} {n:Nat} {xs:List Value} (h:w.ownsRow base e size v n xs):∃ a c,v = .slice a n c:=by
 rcases h.2 with⟨rfl,rfl⟩ | ⟨g,cap,cur,rfl,_⟩
 ·exact⟨_,_,rfl⟩
 ·exact⟨_,_,rfl⟩
theorem aew {w w':World} {base:Nat} {e:TypeId} {v:Value} {n:Nat} {xs:List Value} (h:w.ownsRow base e 1 v n xs) (hb:Below w.heap.size w w'):w'.ownsRow base e 1 v n xs :=
 (Turns.of_below hb).row h (λ_ _ h=>h)
theorem VX (s:ByteArray) (w:World) (hs:s.size<=100000) :
  Calls prog 50 #[.string s] w λe w'=>e = .returned (.string ⟨(M.fix s.data.toList).toArray⟩)/\Below w.heap.size w w':=by
 have bK:=bx (size_eq s);obtain⟨m,hm⟩:∃ m,(M.places s.data.toList).length=m:=⟨_,rfl⟩
 have hmz:=OE s.data.toList;rw [hm,<- bK.o] at hmz;have HM:=bx hm;have HU:=bx (anM s m ⟨by rw [hm]⟩ w hs);obtain⟨i0,hi,hz0,hz1,hz2⟩:=info_parts PS;clear hm
 go_enter func50,ntmps50
 go_wp2_with fail;refine HU.o.mono ?_;rintro e w1 ⟨⟨g,off,cap,rfl,HC⟩,hb1⟩;have HB1:=bx hb1;have hcap1:m+1<=cap:=by have:=HC.o.2.1;have:=HM.o;omega
 have hcap2:cap<=9223372036854775807:=by have:=HC.o.2.2.1;unfold maxLen at this;omega
 clear hb1;go_wp2_with fail
 go_loopw [3,5] (λo i wr=>∃ k n:Nat,k<=m/\n<=4*k/\i = .int .i64 k/\Box (wr.ownsRow w1.heap.size 5 1 o n (Lib.byteCells (M.repair s.data.toList ((M.places s.data.toList).take k))))/\Box (Below w1.heap.size w1 wr)) (λ_ i _=>m-(intOf i).toNat)
 case atStart=>exact⟨0,0,by omega,by omega,rfl,⟨World.ownsRow_nil _ _ _ _⟩,⟨Below.refl _ _⟩⟩
 case round =>
  obtain⟨k,n,hk,hnk,rfl,ho,hb⟩:=hrel
  by_cases hlt:k<m
  ·obtain⟨x,hx,g1,g2,-,g3,g4,g5,g6,g7⟩:=M.af6 (s:=s.data.toList) (i:=k) (by rw [HM.o];exact hlt);have TR:=HC.o.below hb.o;have k0:wr.cell? ⟨g,off+k,none⟩=some (.int .i64 (x.1:Int)):=TR.2.2.2 k x.1 g1;have k1:wr.cell? ⟨g,off+(k+1),none⟩=some (.int .i64 ((x.1+x.2.1:Nat):Int)):=TR.2.2.2 (k+1) _ g2;have gU:=bx (show Lib.byteCells (M.repair s.data.toList ((M.places s.data.toList).take (k+1)))=Lib.byteCells (M.repair s.data.toList ((M.places s.data.toList).take k))++Lib.byteCells (M.mended s.data.toList x) by rw [take_snoc hx,aas,an7]);obtain⟨xa,xm,xo⟩:=x;simp only at k0 k1 g5 g6 g7;have hxa:xa+xm<=s.size:=by rw [bK.o];exact g6
   obtain⟨X,hX⟩:∃ X,s.extract xa s.size=X:=⟨_,rfl⟩
   have xP:=YI s xa;rw [hX] at xP;have GR:X.size<=16777216:=by rw [size_eq,xP,List.length_drop,<- bK.o];omega
   have HV:=bx (show Ak X.data.toList = .tuple #[.int .i64 xm, .bool xo] by rw [xP];unfold Ak;rw [g7]);have hsl:=adl (P:=prog) (T:=9) underlying9 s xa ⟨by omega,by omega⟩;rw [Int.toNat_natCast,hX] at hsl;have vZ:=bx (abr X wr GR);have Lr:=bx (aew ho.o (abu wr 1));obtain⟨oa,oc,rfl⟩:=NY ho.o;clear hx g1 g2 g3 g4 g6 g7 hX xP GR TR
   cases xo with
   | true =>
    have hYl:(s.extract xa (xa+xm)).data.toList=(s.data.toList.drop xa).take xm:=by rw [Lib.extract_data,Nat.add_sub_cancel_left]
    have hs2:=Va (P:=prog) (T:=9) underlying9 s xa ((xa+xm:Nat):Int) ⟨by omega,by omega,by omega⟩;rw [Int.toNat_natCast,Int.toNat_natCast] at hs2;obtain⟨Y,hY⟩:∃ Y,s.extract xa (xa+xm)=Y:=⟨_,rfl⟩
    rw [hY] at hs2 hYl;have TF:Y.size<=4:=by rw [size_eq,hYl,List.length_take];omega
    have HY:=bx (show Lib.byteCells (M.mended s.data.toList (xa,xm,true))=Lib.strCells Y by unfold M.mended Lib.strCells Lib.byteCells;rw [if_pos rfl,hYl]);clear hYl hY;generalize xa+xm=z at k1 hs2 hxa;have hw1:IntKind.i64.wrap ((k:Int)+1)=(k:Int)+1:=IntWalk.i64_in _ (by omega);have hw2:0<=(k:Int)+1:=by omega
    have hw3:((k:Int)+1).toNat=k+1:=by omega
    have hw4:(k:Int)+1<(m:Int)+1:=by omega
    have hw5:(k:Int)<(m:Int)+1:=by omega
    go_wp2_with fail;refine vZ.o.mono ?_;rintro e w3 ⟨rfl,rfl⟩;rw [HV.o];go_wp2_with fail
    go_region_law (refine akO _ rfl _ _ 98 9 rfl w1.heap.size 5 i0 underlying98 underlying9 hi hz0 hz1 hz2 _ _ _ rfl Lr.o Y rfl ?c3 ?c4 ?c5 ?_;(case c3=>unfold maxLen;omega);(case c4=>omega);(case c5=>have:=hb.o.size;simp;omega);intro v' w4 hown' hgrow;obtain⟨WV,oc',rfl⟩:=NY hown')
    all_goals
     have HOW:=bx (show w4.ownsRow w1.heap.size 5 1 (.slice WV (n+Y.size) oc') (n+Y.size) (Lib.byteCells (M.repair s.data.toList ((M.places s.data.toList).take (k+1)))) by rw [gU.o,HY.o];exact hown');have HB4:=bx (show Below w1.heap.size w1 w4 from(hb.o.trans ((abu wr 1).mono hb.o.size)).grown hgrow (by have:=hb.o.size;simp;omega) (λq hq=>(ho.o.lt q hq).1));clear hown' hgrow hw1 hw2 hw3 hw4 hw5;go_wp2_with fail
     go_roundw
     case rel=>exact⟨k+1,n+Y.size,hlt,by omega,by go_num,HOW,HB4⟩
     case measure=>simp [intOf];try omega
   | false =>
    have HY:=bx (show Lib.byteCells (M.mended s.data.toList (xa,xm,false))=Lib.strCells ⟨#[239,191,189]⟩ by unfold M.mended;rfl);clear k1;go_wp2_with fail;refine vZ.o.mono ?_;rintro e w3 ⟨rfl,rfl⟩;rw [HV.o];go_wp2_with (at_builtin;refine Lib.wpList_append_own_string _ rfl _ _ 98 9 rfl w1.heap.size 5 i0 underlying98 underlying9 hi hz0 hz1 hz2 _ _ _ rfl ho.o ⟨#[239,191,189]⟩ rfl ?c3 ?c4 ?c5 ?_)
    case c3=>show n+3<=maxLen;unfold maxLen;omega
    case c4=>show n+3<=_;omega
    case c5=>have:=hb.o.size;omega
    intro v' w4 hown' hgrow _;obtain⟨WV,oc',rfl⟩:=NY hown';have HOW:=bx (show w4.ownsRow w1.heap.size 5 1 (.slice WV (n+3) oc') (n+3) (Lib.byteCells (M.repair s.data.toList ((M.places s.data.toList).take (k+1)))) by rw [gU.o,HY.o];exact hown');have HB4:=bx (show Below w1.heap.size w1 w4 from hb.o.grown hgrow (by have:=hb.o.size;omega) (λq hq=>(ho.o.lt q hq).1));clear hown' hgrow;go_wp2_with fail
    go_roundw
    case rel=>exact⟨k+1,n+3,hlt,by omega,by go_num,HOW,HB4⟩
    case measure=>simp [intOf];try omega
  ·obtain rfl:k=m:=by omega
   have hrow:=ho.o;rw [List.take_of_length_le (by rw [HM.o];omega)] at hrow;have hcv:=amX (P:=prog) (src:=98) (dst:=9) underlying98 underlying5 underlying9 hrow;obtain⟨F,hF⟩:∃ F,M.repair s.data.toList (M.places s.data.toList)=F:=⟨_,rfl⟩
   rw [hF] at hcv;have HF:=bx (show M.fix s.data.toList=F from hF);obtain⟨oa,oc,rfl⟩:=NY ho.o;clear hrow hF;go_wp2_with fail;go_ret
   exact⟨by rw [HF.o];rfl,bt HB1.o hb.o⟩
theorem akM {l:List UInt8} (h:U.dec l=none):oK l = .tuple #[.int .i64 0, .int .i64 0, .bool false]:=by unfold oK;rw [h];rfl
theorem ahM {l:List UInt8} {r:Int} {n:Nat} (h:U.dec l=some (r,n)):oK l = .tuple #[.int .i64 r, .int .i64 n, .bool true]:=by unfold oK;rw [h];rfl
theorem WS (s:ByteArray) (w:World) (hs:s.size<=16777216) :
  Calls prog 49 #[.string s] w (NP s w):=by
 obtain⟨i0,hi,hz0,hz1,hz2⟩:=info_parts VH;have HS:=bx hs
 go_enter func49,ntmps49
 go_wp2
 go_loopw [0,4] (λa v wr=>∃ (pre:List Int) (rest:ByteArray),rest.size<=s.size/\pre.length+rest.size<=s.size/\a = .string rest/\Box (U.textOf pre++rest.data.toList=s.data.toList/\∀ r∈pre,U.right r=true)/\Box (wr.ownsRow w.heap.size 3 1 v pre.length (pre.map (Value.int .i64)))/\Box (Below w.heap.size w wr))
  (λa _ _=>match a with | .string r=>r.size | _=>0)
 case atStart=>exact⟨[],s,Nat.le_refl _,by simp,rfl,⟨⟨rfl,λr hr=>by cases hr⟩⟩,⟨World.ownsRow_nil _ _ _ _⟩,⟨Below.refl _ _⟩⟩
 case round =>
  obtain⟨pre,rest,hrs,hpl,rfl,hp,ho,hb⟩:=hrel
  cases hl:rest.data.toList with
  | nil =>
   have hz:=isEmpty_nil hl;have HX:=bx (show U.scalars s.data.toList=some pre from(U.BG _ _).2 ⟨by rw [<- hp.o.1,hl,List.append_nil],hp.o.2⟩);clear hl hpl hrs
   go_wp2
   go_ret2
   refine⟨hb.o,?_⟩;rw [HX.o];exact⟨_,rfl,ho.o⟩
  | cons c t =>
   have hz:=isEmpty_cons hl;have hne:rest.data.toList≠[]:=by rw [hl];simp
   cases hd:U.dec rest.data.toList with
   | none =>
    have HV:=bx (akM hd);have HX:=bx (show U.scalars s.data.toList=none by
     cases hx:U.scalars s.data.toList with
     | none=>rfl
     | some l =>
      obtain⟨h1,h2⟩:=(U.BG _ _).1 hx;have h3:U.scalars (U.textOf pre++rest.data.toList)=some l:=by rw [hp.o.1];exact hx
      rw [U.Sj pre hp.o.2,U.UY hne hd] at h3
      cases h3)
    have HR:=bx (show rest.size<=maxLen by have:=HS.o;unfold maxLen;omega);clear hl hne hd hpl hrs;go_wp2_with fail;refine(Xw rest _ HR.o).mono ?_;rintro e w1 ⟨rfl,rfl⟩;rw [HV.o];go_wp2_with fail;go_ret2
    refine⟨hb.o,?_⟩;rw [HX.o]
    rfl
   | some q =>
    obtain⟨r,n⟩:=q;obtain⟨hr,he,h1,h4,hlen⟩:=U.Ey hd;have HV:=bx (ahM hd);rw [<- size_eq] at hlen;have HP:=bx (show U.textOf (pre++[r])++(rest.extract n rest.size).data.toList=s.data.toList/\∀ x∈pre++[r],U.right x=true by
     constructor
     ·rw [U.U9,List.append_assoc,<- hp.o.1];refine congrArg (U.textOf pre++·) ?_;rw [Lib.extract_data,List.take_of_length_le (by rw [List.length_drop,<- size_eq];exact Nat.le_refl _)];show U.enc r++[]++_=_
      rw [he,List.append_nil,List.take_append_drop]
     ·intro x hx
      rcases List.mem_append.1 hx with hx | hx
      ·exact hp.o.2 x hx
      ·simp at hx;rw [hx];exact hr)
    have HR:=bx (show rest.size<=maxLen by have:=HS.o;unfold maxLen;omega);have HN:=bx (show (rest.extract n rest.size).size=rest.size-n by rw [size_eq,Lib.extract_data,List.length_take,List.length_drop,<- size_eq];omega);have hpz:pre.length<=16777216:=by have:=HS.o;omega
    have HB:=bx (show w.heap.size<=wr.heap.size from hb.o.size);clear hl hne hd he hr;go_wp2_with fail;refine(Xw rest _ HR.o).mono ?_;rintro e w1 ⟨rfl,rfl⟩;rw [HV.o];go_wp2_with (at_builtin;refine wpList_append_own _ rfl _ _ 23 rfl w.heap.size 3 i0 (.int .i64 0) 1 8 underlying23 hi hz0 hz1 hz2 rfl (by decide) _ _ _ rfl (ho.o.alloc _) ⟨wr.heap.size,0,none⟩ 1 1 [.int .i64 r] rfl rfl (cell_one_new _ _ _) (by simp [Value.oneCell']) (by unfold maxLen;omega) (by omega) (by have:=HB.o;simp;omega) ?_;intro v' w1 hown' hgrow _;obtain⟨g',cap',rfl⟩:=ownsRow_succ hown')
    have HO:=bx hown';have HG:=bx (show Below w.heap.size w w1 from(hb.o.alloc HB.o _).grown hgrow (by have:=HB.o;simp;omega) (λk hk=>(ho.o.lt k hk).1));clear hown' hgrow
    go_roundw
    case rel =>
     refine⟨pre++[r],rest.extract n rest.size,by rw [HN.o];omega,by rw [HN.o,List.length_append];simp;omega,rfl,HP,⟨?_⟩,HG⟩;have:=HO.o
     simpa using this
    case measure=>have:=HN.o;show (rest.extract n rest.size).size<rest.size;omega
theorem adY {w w':World} {B:Nat} {v:Value} {n:Nat} {bs:List Value} (h:w.ownsRow B 5 1 v n bs) (hb:Below w.heap.size w w'):w'.ownsRow B 5 1 v n bs:=by
 have hl:=h.lt;refine⟨h.1,?_⟩
 rcases h.2 with h2 | ⟨g,cap,cur,h2,h3,h4,h5⟩
 ·exact .inl h2
 ·exact .inr ⟨g,cap,cur,h2,h3,(hb.block g (hl g (by rw [h2];rfl)).2).trans h4,h5⟩
theorem aed {w:World} {B:Nat} {v:Value} {l:List UInt8} (h:w.ownsRow B 5 1 v l.length (Lib.byteCells l)) :
  (convert 98 9 v).run prog w = .ok (.string ⟨l.toArray⟩) w:=by
 rcases h.2 with⟨rfl,h2⟩ | ⟨g,cap,cur,rfl,h2,h3,h4⟩
 ·obtain rfl:=List.eq_nil_of_length_eq_zero h2;exact Lib.run_convert_nil_bytes w _ _ _ 0 underlying98 underlying5 underlying9
 ·have hc:=h.cells (g:=g) rfl;rw [run_convert_bytes_arg w 98 5 underlying98 underlying5 g 0 l.length cap (l.map λb=>(b.toNat:Int)) (by simp) (λi hi=>?_) 9 underlying9]
  ·show Result.ok (Value.string ⟨((l.map λb=>(b.toNat:Int)).map U.byte).toArray⟩) w=_
   rw [List.map_map,show (U.byte∘λb:UInt8=>(b.toNat:Int))=id from funext λb=>U.Xp b,List.map_id]
  ·have:=hc i (.int .u8 ((l.map λb=>(b.toNat:Int)).getD i 0)) (by
    simp [Lib.byteCells,List.getElem?_map,List.getElem?_eq_getElem hi])
   rw [show (⟨g,0+i,none⟩:Addr)=(⟨g,0,none⟩:Addr).add i by unfold Addr.add;by_cases h0:i=0 <;> simp [h0]];exact this
theorem abR (v:Value) (xs:List Int) (w:World) (hv:ay w v xs) (hz:xs.length<=1000) :
  Calls prog 51 #[v] w λe w'=>e = .returned (EI xs)/\Below w.heap.size w w':=by
 obtain⟨i0,hi,hz0,hz1,hz2⟩:=info_parts PS;have jw:=bx hv;obtain⟨ao,cap,rfl⟩:=hv.slice;clear hv
 go_enter func51,ntmps51
 go_wp2
 go_loopw [5,4] (λi o wr=>∃ k:Nat,k<=xs.length/\i = .int .i64 k/\Box ((xs.take k).all U.right=true)/\Box (wr.ownsRow w.heap.size 5 1 o (U.textOf (xs.take k)).length (Lib.byteCells (U.textOf (xs.take k))))/\Box (Below w.heap.size w wr))
  (λi _ _=>xs.length-(intOf i).toNat)
 case atStart=>exact⟨0,by omega,rfl,⟨rfl⟩,⟨World.ownsRow_nil _ _ _ _⟩,⟨Below.refl _ _⟩⟩
 case round =>
  obtain⟨k,hk,rfl,ha,ho,hb⟩:=hrel
  by_cases hlt:k<xs.length
  ·obtain⟨x,hx⟩:∃ x,xs[k]?=some x:=⟨_,List.getElem?_eq_getElem hlt⟩
   have HX:=bx hx;obtain⟨g,off,cap2,hg1,hg2,hg3,hg4,hg5⟩:=(jw.o.below hb.o).get (by rintro rfl;simp at hlt);obtain⟨rfl,rfl⟩:ao=some ⟨g,off,none⟩/\cap=cap2:=by injection hg1 with h1 h2 h3;exact⟨h1,h3⟩
   have hc:=hg5 k x hx;unfold maxLen at hg3;clear hx hg1 hg5
   cases hr:U.right x with
   | true =>
    have HV:=bx (abM x hr);have HA:=bx (YX xs k x HX.o ha.o hr);have bQ:=bx (show w.heap.size<=wr.heap.size from hb.o.size);have lq:=bx (show (U.textOf (xs.take k)).length+(⟨(U.enc x).toArray⟩:ByteArray).size<=16777216 by
     have h1:=IU (xs.take k);have h2:=(U.KC x).2;rw [List.length_take] at h1;rw [WE];omega)
    have nG:=bx (aad xs k x HX.o);clear hr;go_wp2_with fail;refine(aaU x _).mono ?_;rintro e w1 ⟨rfl,hb1⟩;rw [HV.o];have YT:=bx (show w1.ownsRow w.heap.size 5 1 _ _ _ from adY ho.o hb1);have HB1:=bx (show Below w.heap.size w w1 from bt hb.o hb1);clear hb1;go_wp2_with (at_builtin;refine Lib.wpList_append_own_string _ rfl _ _ 98 9 rfl w.heap.size 5 i0 underlying98 underlying9 hi hz0 hz1 hz2 _ _ _ rfl YT.o _ rfl (by have:=lq.o;unfold maxLen;omega) (by have:=lq.o;omega) HB1.o.size ?_;intro v' w2 hown' hgrow _)
    have HO2:=bx (show w2.ownsRow w.heap.size 5 1 v' (U.textOf (xs.take (k+1))).length (Lib.byteCells (U.textOf (xs.take (k+1)))) by
     rw [nG.o,List.length_append];rw [WE] at hown';rw [show Lib.byteCells (U.textOf (xs.take k)++U.enc x)=Lib.byteCells (U.textOf (xs.take k))++Lib.strCells ⟨(U.enc x).toArray⟩ by simp [Lib.byteCells,Lib.strCells]];exact hown')
    have HB2:=bx (show Below w.heap.size w w2 from HB1.o.grown hgrow HB1.o.size (λk hk=>(YT.o.lt k hk).1));clear hown' hgrow;obtain⟨a2,n2,c2,rfl⟩:∃ ao n' cap,v' = .slice ao n' cap:=by
     rcases HO2.o.2 with⟨hv,_⟩ | ⟨g,cap,cur,hv,_⟩
     ·exact⟨_,_,_,hv⟩
     ·exact⟨_,_,_,hv⟩
    go_wp2_with fail
    go_roundw
    case rel=>exact⟨k+1,hlt,by go_num,HA,HO2,HB2⟩
    case measure=>simp [intOf];omega
   | false =>
    have HV:=bx (Ov hr);have HT:=bx (abb xs k x HX.o hr);clear hr;go_wp2_with fail;refine(aaU x _).mono ?_;rintro e w1 ⟨rfl,hb1⟩;rw [HV.o];go_wp2_with fail;go_ret2
    exact⟨by rw [HT.o];rfl,bt hb.o hb1⟩
  ·have HT:=bx (show xs.all U.right=true by have:=ha.o;rwa [List.take_of_length_le (by omega)] at this);have ho':=ho.o;rw [List.take_of_length_le (by omega)] at ho';have hc:=aed ho';clear ho
   rcases ho'.2 with⟨rfl,_⟩ | ⟨g,cap2,cur,rfl,_⟩
   all_goals
    clear ho';go_wp2_with fail;go_ret2
    exact⟨by rw [Vz xs HT.o];rfl,hb.o⟩
end
section
open Go.RowKit
attribute [local go_sem] Oper.semAt_some
theorem alE (v:Value) (t:Tab) (s:ByteArray) (w:World) (hv:TabAt w v t) (hs:wz t) (hz:s.size<=100000) :
  Calls prog 94 #[v, .string s] w λe w'=>e = .returned (.int .i64 (textE t s.data.toList))/\Below w.heap.size w w':=by
 obtain⟨pi,pb,rv,nv,fv,rfl,h1,h2,h3,h4,h5⟩:=hv;obtain⟨V,hV⟩:∃ V,V=w.alloc (.cells #[.int .i64 t.n,pi,pb,rv,nv,fv] 46):=⟨_,rfl⟩
 have HB0:=bx (show Below w.heap.size w V by rw [hV];exact aS _ _);have HK:=bx (show ak V w.heap.size 46 #[.int .i64 t.n,pi,pb,rv,nv,fv] by rw [hV];exact ak.new _ _ _);have bW:=bx (λW (h:Below w.heap.size w W)=>show TabAt W (.agg #[.int .i64 t.n,pi,pb,rv,nv,fv]) t from⟨pi,pb,rv,nv,fv,rfl,h1.below h,h2.below h,h3.below h,h4.below h,h5.below h⟩);have aB:=bx (λW (h:Below V.heap.size V W)=>HK.o.c6 h);have HV:=bx hV;have bI:=bx (aiE _ t V (bW.o V HB0.o) hs);have lH:=bx (show textE t s.data.toList=if rE t=false then 120 else if 2000<s.size then 121 else 0 by unfold textE;rw [size_eq]);generalize textE t s.data.toList=te at lH ⊢;generalize rE t=tb at bI lH;obtain⟨n,hn⟩:∃ n,n=t.n:=⟨_,rfl⟩
 rw [<- hn] at HV HK bW aB bI ⊢;clear h1 h2 h3 h4 h5 hV hs hn;obtain⟨k0,k1,k2,k3,k4,k5,kk⟩:=aB.o V (Below.refl _ _)
 go_enter func94,ntmps94
 go_upto_region 1 with(fail)
 rw [<- HV.o];go_wp2_with fail;refine bI.o.mono ?_;rintro e w1 ⟨rfl,hb1⟩;have HB1:=bx (bt HB0.o hb1);clear hb1 k0 k1 k2 k3 k4 k5 kk
 cases tb with
 | false =>
  go_wp2_with fail;go_ret
  exact⟨BF (by rw [lH.o];simp),HB1.o⟩
 | true =>
  rw [if_neg (by simp)] at lH
  by_cases h:2000<s.size
  ·have e1:decide ((2000:Int)<(s.size:Int))=true:=decide_eq_true (by omega);rw [if_pos h] at lH;clear h;go_wp2_with fail;go_ret
   exact⟨BF (by rw [lH.o]),HB1.o⟩
  ·have e1:decide ((2000:Int)<(s.size:Int))=false:=decide_eq_false (by omega);rw [if_neg h] at lH;clear h;go_wp2_with fail;go_ret
   exact⟨BF (by rw [lH.o]),HB1.o⟩
theorem ame (v:Value) (t:Tab) (s:ByteArray) (w:World) (hv:TabAt w v t) (ht:F.jK t.p=true) (hz:s.size<=2000) :
  Calls prog 96 #[v, .string s] w λe w'=>(∃ v',e = .returned v'/\ay w' v' (jJ t.p (dw s.data.toList)))/\Below w.heap.size w w':=by
 obtain⟨pi,pb,rv,nv,fv,rfl,h1,h2,h3,h4,h5⟩:=hv;obtain⟨V,hV⟩:∃ V,V=w.alloc (.cells #[.int .i64 t.n,pi,pb,rv,nv,fv] 46):=⟨_,rfl⟩
 have HB0:=bx (show Below w.heap.size w V by rw [hV];exact aS _ _);have HK:=bx (show ak V w.heap.size 46 #[.int .i64 t.n,pi,pb,rv,nv,fv] by rw [hV];exact ak.new _ _ _);have bW:=bx (λW (h:Below w.heap.size w W)=>show TabAt W (.agg #[.int .i64 t.n,pi,pb,rv,nv,fv]) t from⟨pi,pb,rv,nv,fv,rfl,h1.below h,h2.below h,h3.below h,h4.below h,h5.below h⟩);have aB:=bx (λW (h:Below V.heap.size V W)=>HK.o.c6 h);have HV:=bx hV;have wR:=bx (VX s V (by omega));have hfl:=BD s.data.toList;rw [<- size_eq] at hfl;have lW:=bx (λW=>WS ⟨(M.fix s.data.toList).toArray⟩ W (by rw [size_mk];omega));have hsl:=rM s.data.toList;rw [<- size_eq] at hsl;have kV:=bx (zT s.data.toList);have mO:=bx (uf s.data.toList);generalize dw s.data.toList=xs at hsl kV mO ⊢;obtain⟨N,hN⟩:∃ N,xs.length=N:=⟨_,rfl⟩
 rw [hN] at hsl;have HN:=bx hN;have Uo:=bx (λ(r:Nat) (hr:r<=1114111)=>Il h1 h2 ht r hr);clear h1 h2 h3 h4 h5 hV ht hN;obtain⟨n,hn⟩:∃ n,n=t.n:=⟨_,rfl⟩
 rw [<- hn] at HV HK bW aB ⊢;clear hn;obtain⟨k0,k1,k2,k3,k4,k5,kk⟩:=aB.o V (Below.refl _ _)
 go_enter func96,ntmps96
 go_upto_region 1 with(fail)
 rw [<- HV.o];clear k0 k1 k2 k3 k4 k5 kk;go_wp2_with fail;refine wR.o.mono ?_;rintro e w1 ⟨rfl,hb1⟩;have HB1:=bx hb1;clear hb1;go_wp2_with fail;refine(lW.o w1).mono ?_;rintro e w2 ⟨hb2,hr2⟩;rw [toList_mk,kV.o] at hr2;obtain⟨v2,rfl,hrow⟩:=hr2;have HL2:=bx (ay.dL hrow rfl);have HB2:=bx (bt HB1.o hb2);obtain⟨la,lc,rfl⟩:=HL2.o.slice;rw [HN.o] at HL2 ⊢;clear hb2 hrow;have aU:=bx (show Sep (fJ w2.heap.size w2 (.slice none 0 0) (jJ t.p (xs.take 0))) w2 from(Sep.start w2).fP w2.heap.size 1 3);go_wp2_with fail
 go_loopw [7,8] (λov i wr=>∃ k:Nat,k<=N/\i = .int .i64 k/\Box (Sep (fJ w2.heap.size w2 ov (jJ t.p (xs.take k))) wr)) (λ_ i _=>N-(intOf i).toNat)
 case atStart=>exact⟨0,by omega,rfl,aU⟩
 case round =>
  obtain⟨k,hk,rfl,hsep⟩:=hrel;have HB3:=bx (kF hsep.o);have bG:=bx (bt HB2.o HB3.o);have aJ:=bx (bt HB0.o bG.o)
  by_cases hlt:k<N
  ·obtain⟨z,hzx⟩:∃ z,xs[k]?=some z:=⟨_,List.getElem?_eq_getElem (by rw [HN.o];exact hlt)⟩
   obtain⟨r,rfl,hrz⟩:=yw (mO.o z (List.mem_of_getElem? hzx));obtain⟨lg,vU,EO,e1,e2,e3,e4,e5⟩:=HL2.o.get (by rintro rfl;simp at hzx);rw [HN.o] at e1 e2;obtain⟨rfl,rfl⟩:la=some ⟨lg,vU,none⟩/\lc=EO:=by injection e1 with h1 h2 h3;exact⟨h1,h3⟩
   have cx:=e5 k _ hzx;obtain⟨g,off,cap,n',g2,off2,cap2,g3,qU,cap3,hi,a2,a3,a4,a5,a6,hb,b2,b3,b4,b5,c2,c3,c4,c5⟩:=Uo.o r hrz;have gI:=bx (show jJ t.p (xs.take (k+1))=jJ t.p (xs.take k)++[F.says t.p (r:Int)] by unfold jJ;rw [List.take_add_one,hzx,List.map_append];rfl);have hal:(jJ t.p (xs.take k)).length<=1000000000:=by unfold jJ;rw [List.length_map,List.length_take];omega
   have jr:=bx hal;generalize F.says t.p (r:Int)=y at c5 gI;generalize t.p.2.length=M at *;obtain⟨d,hd⟩:∃ d,r / 256=d:=⟨_,rfl⟩
   obtain⟨q,hq⟩:∃ q,r % 256=q:=⟨_,rfl⟩
   have hd1:d<4352:=by omega
   have hq1:q<256:=by omega
   have td:(r:Int).tdiv 256=(d:Int):=by rw [<- hd];rfl
   have tm:(r:Int).tmod 256=(q:Int):=by rw [<- hq];rfl
   have wd:IntKind.i64.wrap (d:Int)=(d:Int):=by rw [IntKind.wrap_i64];omega
   have di:(d:Int)<4352:=by omega
   have qi:(q:Int)<256:=by omega
   have ni:(n':Int)<(M:Int):=by omega
   have wq:IntKind.i64.wrap (q:Int)=(q:Int):=by rw [IntKind.wrap_i64];omega
   rw [hd] at a5;rw [hq] at c5;generalize jJ t.p (xs.take k)=acc at hsep gI jr;have sU:=bx (λW (h:Below w2.heap.size w2 W)=>show W.cell? ⟨w.heap.size,1,none⟩=some (.slice (some ⟨g,off,none⟩) 4352 cap)/\W.cell? ⟨w.heap.size,2,none⟩=some (.slice (some ⟨g2,off2,none⟩) M cap2)/\W.cell? ⟨lg,vU+k,none⟩=some (.int .i64 (r:Int))/\W.cell? ⟨g,off+d,none⟩=some (.int .i64 (n':Nat))/\W.cell? ⟨g2,off2+n',none⟩=some (.slice (some ⟨g3,qU,none⟩) 256 cap3)/\W.cell? ⟨g3,qU+q,none⟩=some (.int .i64 y) from by
    have hv:=bt HB2.o h;have hw:=bt HB0.o hv;obtain⟨k0,k1,k2,k3,k4,k5,kk⟩:=aB.o W hv;exact⟨k1.trans (by rw [hi]),k2.trans (by rw [hb]),(h.cell (p:=⟨lg,vU+k,none⟩) e4).trans cx,(hw.cell (p:=⟨g,off+d,none⟩) a4).trans a5,(hw.cell (p:=⟨g2,off2+n',none⟩) b4).trans b5,(hw.cell (p:=⟨g3,qU+q,none⟩) c4).trans c5⟩)
   have cZ:=bx (show Sep (fJ w2.heap.size w2 u7 acc) wr.drew from hsep.o.drewN 1);have aF:=bx (show Below w2.heap.size w2 wr.drew from HB3.o.trans ((eu wr 1).mono HB3.o.size));have au:=bx (sU.o wr.drew aF.o);have hbs:w2.heap.size<=wr.drew.heap.size:=HB3.o.size;unfold maxLen at e3;clear cx a4 a5 b4 b5 c4 c5 e1 e4 e5 hd hq hi hb hzx hal;go_wp2_with fail;refine dO 25 (λW'=>W'.cell? ⟨w.heap.size,1,none⟩=some (.slice (some ⟨g,off,none⟩) 4352 cap)/\W'.cell? ⟨w.heap.size,2,none⟩=some (.slice (some ⟨g2,off2,none⟩) M cap2)/\W'.cell? ⟨lg,vU+k,none⟩=some (.int .i64 (r:Int))/\W'.cell? ⟨g,off+d,none⟩=some (.int .i64 (n':Nat))/\W'.cell? ⟨g2,off2+n',none⟩=some (.slice (some ⟨g3,qU,none⟩) 256 cap3)/\W'.cell? ⟨g3,qU+q,none⟩=some (.int .i64 y)) (by kernel_rfl) ?_;generalize wr.drew=WR at cZ aF au hbs ⊢;refine kS 0 ?_ rfl au.o ?_ ?_;rotate_left
   ·rintro w ⟨a,b,c,d,e,f⟩;go_simp;try rfl
   refine kS 1 ?_ rfl au.o ?_ ?_;rotate_left
   ·rintro w ⟨a,b,c,d,e,f⟩;go_simp;try rfl
   refine kS 2 ?_ rfl au.o ?_ ?_;rotate_left
   ·rintro w ⟨a,b,c,d,e,f⟩;go_simp;try rfl
   refine kS 3 ?_ rfl au.o ?_ ?_;rotate_left
   ·rintro w ⟨a,b,c,d,e,f⟩;go_simp;try rfl
   refine kS 4 ?_ rfl au.o ?_ ?_;rotate_left
   ·rintro w ⟨a,b,c,d,e,f⟩;go_simp;try rfl
   refine kS 5 ?_ rfl au.o ?_ ?_;rotate_left
   ·rintro w ⟨a,b,c,d,e,f⟩;go_simp;try rfl
   refine kS 6 ?_ rfl au.o ?_ ?_;rotate_left
   ·rintro w ⟨a,b,c,d,e,f⟩;go_simp;try rfl
   refine kS 7 ?_ rfl au.o ?_ ?_;rotate_left
   ·rintro w ⟨a,b,c,d,e,f⟩;go_simp;try rfl
   refine kS 8 ?_ rfl au.o ?_ ?_;rotate_left
   ·rintro w ⟨a,b,c,d,e,f⟩;go_simp;try rfl
   refine kS 9 ?_ rfl au.o ?_ ?_;rotate_left
   ·rintro w ⟨a,b,c,d,e,f⟩;go_simp;try rfl
   refine kS 10 ?_ rfl au.o ?_ ?_;rotate_left
   ·rintro w ⟨a,b,c,d,e,f⟩;go_simp;try rfl
   refine kS 11 ?_ rfl au.o ?_ ?_;rotate_left
   ·rintro w ⟨a,b,c,d,e,f⟩;go_simp;try rfl
   refine kS 12 ?_ rfl au.o ?_ ?_;rotate_left
   ·rintro w ⟨a,b,c,d,e,f⟩;go_simp;try rfl
   refine kS 13 ?_ rfl au.o ?_ ?_;rotate_left
   ·rintro w ⟨a,b,c,d,e,f⟩;go_simp;try rfl
   refine kS 14 ?_ rfl au.o ?_ ?_;rotate_left
   ·rintro w ⟨a,b,c,d,e,f⟩;go_simp;try rfl
   refine kS 15 ?_ rfl au.o ?_ ?_;rotate_left
   ·rintro w ⟨a,b,c,d,e,f⟩;go_simp;try rfl
   refine kS 16 ?_ rfl au.o ?_ ?_;rotate_left
   ·rintro w ⟨a,b,c,d,e,f⟩;go_simp;try rfl
   refine kS 17 ?_ rfl au.o ?_ ?_;rotate_left
   ·rintro w ⟨a,b,c,d,e,f⟩;go_simp;try rfl
   refine kS 18 ?_ rfl au.o ?_ ?_;rotate_left
   ·rintro w ⟨a,b,c,d,e,f⟩;go_simp;try rfl
   refine kS 19 ?_ rfl au.o ?_ ?_;rotate_left
   ·rintro w ⟨a,b,c,d,e,f⟩;go_simp;try rfl
   refine kS 20 ?_ rfl au.o ?_ ?_;rotate_left
   ·rintro w ⟨a,b,c,d,e,f⟩;go_simp;try rfl
   refine kS 21 ?_ rfl au.o ?_ ?_;rotate_left
   ·rintro w ⟨a,b,c,d,e,f⟩;go_simp;try rfl
   refine kS 22 ?_ rfl au.o ?_ ?_;rotate_left
   ·rintro w ⟨a,b,c,d,e,f⟩;go_simp;try rfl
   refine kP 23 rfl λKK aj=>?_
   go_simp;refine aj.out _ _ (λ_=>sU.o _ (aF.o.trans ((aS WR _).mono aF.o.size))) ?_;clear aj KK;refine kP 24 rfl λKK aj=>?_
   refine BZ (u:=.int .i64 y) rfl _ _ 23 rfl mQ cZ.o 0 rfl (by kernel_rfl) (by kernel_rfl) rfl jr.o (by omega) hbs ?_;rintro v6 w6 hS6 -;have dA:=bx (pY (m:=[y]) hS6 (by simp) gI.o);have HF6:=bx (sU.o w6 (kF dA.o));clear hS6;refine aj.out _ _ (λ_=>HF6.o) ?_;clear aj KK;refine kP 25 rfl λKK aj=>?_
   go_simp;refine aj.out _ _ (λh=>by cases h) ?_;clear aj KK;refine kD ?_ _;go_wp2_with fail
   go_roundw
   case rel=>exact⟨k+1,by omega,by go_num,dA⟩
   case measure=>simp [intOf];omega
  ·obtain rfl:k=N:=by omega
   have hsp:=hsep.o;rw [List.take_of_length_le (by rw [HN.o];exact Nat.le_refl _)] at hsp;have HI:=bx (wW hsp).1;clear hsp;go_wp2_with fail;go_ret
   exact⟨⟨_,rfl,HI.o⟩,aJ.o⟩
theorem am4 (v:Value) (t:Tab) (s:ByteArray) (w:World) (hv:TabAt w v t) (hs:wz t) (hz:s.size<=299) :
  Calls prog 53 #[v, .string s] w λe w'=>(∃ v',e = .returned (.tuple #[v', .int .i64 (textE t s.data.toList)])/\ay w' v' (vH t s.data.toList))/\Below w.heap.size w w':=by
 obtain⟨pi,pb,rv,nv,fv,rfl,h1,h2,h3,h4,h5⟩:=hv;obtain⟨V,hV⟩:∃ V,V=w.alloc (.cells #[.int .i64 t.n,pi,pb,rv,nv,fv] 46):=⟨_,rfl⟩
 have HB0:=bx (show Below w.heap.size w V by rw [hV];exact aS _ _);have HK:=bx (show ak V w.heap.size 46 #[.int .i64 t.n,pi,pb,rv,nv,fv] by rw [hV];exact ak.new _ _ _);have bW:=bx (λW (h:Below w.heap.size w W)=>show TabAt W (.agg #[.int .i64 t.n,pi,pb,rv,nv,fv]) t from⟨pi,pb,rv,nv,fv,rfl,h1.below h,h2.below h,h3.below h,h4.below h,h5.below h⟩);have aB:=bx (λW (h:Below V.heap.size V W)=>HK.o.c6 h);have HV:=bx hV;have iT:=bx (alE _ t s V (bW.o V HB0.o) hs (by omega));have vZ:=bx (λW (h:Below w.heap.size w W) L' aT (hl:ay W aT L') (hlz:L'.length<=299)=>abV rv t.r (.agg #[nv,fv]) t.m t.n aT L' W (h3.below h) hs.r1 hs.r2 ⟨nv,fv,rfl,h4.below h,h5.below h⟩ hs.m hl hlz);have HSL:=bx (show (jJ t.p (dw s.data.toList)).length<=299 by unfold jJ;rw [List.length_map];have:=rM s.data.toList;rw [<- size_eq] at this;omega)
 by_cases he:textE t s.data.toList=0
 ·obtain⟨t1,t2⟩:=Rz he;have t3:=t1;unfold rE at t3;rw [Bool.and_eq_true] at t3;have yV:=bx t3.1;have lC:=bx (λW (h:Below w.heap.size w W)=>ame _ t s W (bW.o W h) t3.2 (by omega));have bU:=bx (show vH t s.data.toList=vS t.r t.m t.n.toNat (jJ t.p (dw s.data.toList)) by unfold vH FW;rw [if_pos he]);have Sl:=bx he;rw [he] at iT;obtain⟨tn,hn⟩:∃ n,n=t.n:=⟨_,rfl⟩
  rw [<- hn] at HV HK bW aB iT vZ lC yV bU ⊢;clear h1 h2 h3 h4 h5 hV hs hn he t1 t2 t3;obtain⟨k0,k1,k2,k3,k4,k5,kk⟩:=aB.o V (Below.refl _ _)
  go_enter func53,ntmps53
  go_upto_region 1 with(fail)
  rw [<- HV.o];go_wp2_with fail;refine iT.o.mono ?_;rintro e w1 ⟨rfl,hb1⟩;have dU:=bx hb1;have HB1:=bx (bt HB0.o hb1);clear hb1 k0 k1 k2 k3 k4 k5 kk;go_wp2_with fail;have aF:=bx (show Below V.heap.size V w1.drew from dU.o.trans ((eu w1 1).mono dU.o.size));have au:=bx (aB.o w1.drew aF.o);refine dO 13 (λW'=>W'.cell? ⟨w.heap.size,0,none⟩=some (.int .i64 tn)/\W'.cell? ⟨w.heap.size,1,none⟩=some pi/\W'.cell? ⟨w.heap.size,2,none⟩=some pb/\W'.cell? ⟨w.heap.size,3,none⟩=some rv/\W'.cell? ⟨w.heap.size,4,none⟩=some nv/\W'.cell? ⟨w.heap.size,5,none⟩=some fv/\w.heap.size<W'.heap.size) (by kernel_rfl) ?_;generalize w1.drew=WR at aF au ⊢;have aJ:=bx (bt HB0.o aF.o);refine kS 0 ?_ rfl au.o ?_ ?_;rotate_left
  ·rintro w ⟨a,b,c,d,e,f,g⟩;go_simp;try rfl
  refine kS 1 ?_ rfl au.o ?_ ?_;rotate_left
  ·rintro w ⟨a,b,c,d,e,f,g⟩;go_simp;try rfl
  refine kS 2 ?_ rfl au.o ?_ ?_;rotate_left
  ·rintro w ⟨a,b,c,d,e,f,g⟩;go_simp;try rfl
  refine kS 3 ?_ rfl au.o ?_ ?_;rotate_left
  ·rintro w ⟨a,b,c,d,e,f,g⟩;go_simp;try rfl
  refine kS 4 ?_ rfl au.o ?_ ?_;rotate_left
  ·rintro w ⟨a,b,c,d,e,f,g⟩;go_simp;try rfl
  refine kS 5 ?_ rfl au.o ?_ ?_;rotate_left
  ·rintro w ⟨a,b,c,d,e,f,g⟩;go_simp;try rfl
  refine kS 6 ?_ rfl au.o ?_ ?_;rotate_left
  ·rintro w ⟨a,b,c,d,e,f,g⟩;go_simp;try rfl
  refine kS 7 ?_ rfl au.o ?_ ?_;rotate_left
  ·rintro w ⟨a,b,c,d,e,f,g⟩;go_simp;try rfl
  refine kP 8 rfl λKK aj=>?_
  go_simp;refine(lC.o WR aJ.o).mono ?_;rintro e w5 ⟨⟨v5,rfl,hv5⟩,hb5⟩;have aP:=bx (bt aF.o hb5);have Gw:=bx (bt HB0.o aP.o);have jI:=bx (aB.o w5 aP.o);have HRC:=bx (vZ.o w5 Gw.o _ v5 hv5 HSL.o);clear hv5 hb5;refine aj.out _ _ (λ_=>jI.o) ?_;clear aj KK;refine kP 9 rfl λKK aj=>?_
  go_simp;refine HRC.o.mono ?_;rintro e w6 ⟨hb6,⟨-,v6,rfl,hv6⟩ | ⟨h9,-⟩⟩;rotate_left
  ·exact absurd (yV.o.symm.trans h9) (by simp)
  have yT:=bx hv6;have cO:=bx (bt aP.o hb6);have HF6:=bx (aB.o w6 cO.o);clear hv6 hb6;refine aj.out _ _ (λ_=>HF6.o) ?_;clear aj KK;refine kS 10 ?_ rfl HF6.o ?_ ?_;rotate_left
  ·rintro w ⟨a,b,c,d,e,f,g⟩;go_simp;try rfl
  refine kS 11 ?_ rfl HF6.o ?_ ?_;rotate_left
  ·rintro w ⟨a,b,c,d,e,f,g⟩;go_simp;try rfl
  refine kP 12 rfl λKK aj=>?_
  go_simp;refine aj.out _ _ (λ_=>HF6.o) ?_;clear aj KK;refine kP 13 rfl λKK aj=>?_
  go_simp;refine aj.out _ _ (λh=>by cases h) ?_;clear aj KK;refine kD ?_ _;have dJ:=bx (bt HB0.o cO.o);go_wp2_with fail;go_ret2
  exact⟨⟨_,gY rfl (fF Sl.o.symm),by rw [bU.o];exact yT.o⟩,dJ.o⟩
 ·have bU:=bx (show vH t s.data.toList=[] by unfold vH;rw [if_neg he]);obtain⟨r,hr⟩:∃ r,r=textE t s.data.toList:=⟨_,rfl⟩
  have HR:=bx hr;rw [<- hr] at he iT;have e2:(r != 0)=true:=by rw [bne_iff_ne];exact he
  obtain⟨tn,hn⟩:∃ n,n=t.n:=⟨_,rfl⟩
  rw [<- hn] at HV HK bW aB iT ⊢;clear h1 h2 h3 h4 h5 hV hs hn he hr;obtain⟨k0,k1,k2,k3,k4,k5,kk⟩:=aB.o V (Below.refl _ _)
  go_enter func53,ntmps53
  go_upto_region 1 with(fail)
  rw [<- HV.o];go_wp2_with fail;refine iT.o.mono ?_;rintro e w1 ⟨rfl,hb1⟩;have HB1:=bx (bt HB0.o hb1);clear hb1 k0 k1 k2 k3 k4 k5 kk;go_wp2_with fail;go_ret2
  exact⟨⟨_,gY rfl (fF HR.o),by rw [bU.o];exact .nil⟩,HB1.o⟩
theorem af9 (v:Value) (c:T.Cs) (s:ByteArray) (w:World) (hv:bC w v c) (hs:T.Small c) (hz:s.size<=300) :
  Calls prog 24 #[v, .string s] w λe w'=>e = .returned (.tuple #[.string ⟨(T.jR c s.data.toList).toArray⟩, .int .i64 (T.jd c s.data.toList)])/\Below w.heap.size w w':=by
 obtain⟨lv,tv,ci,cb,gi,gb,rfl,h1,h2,h3,h4,h5,h6⟩:=hv;obtain⟨V,hV⟩:∃ V,V=w.alloc (.cells #[lv,tv,ci,cb,gi,gb] 28):=⟨_,rfl⟩
 have HB0:=bx (show Below w.heap.size w V by rw [hV];exact aS _ _);have HK:=bx (show ak V w.heap.size 28 #[lv,tv,ci,cb,gi,gb] by rw [hV];exact ak.new _ _ _);have bU:=bx (λW (h:Below w.heap.size w W)=>show bC W (.agg #[lv,tv,ci,cb,gi,gb]) c from⟨lv,tv,ci,cb,gi,gb,rfl,h1.below h,h2.below h,h3.below h,h4.below h,h5.below h,h6.below h⟩);have aB:=bx (λW (h:Below V.heap.size V W)=>HK.o.c6 h);have HV:=bx hV;have bI:=bx (FZ _ c V (bU.o V HB0.o) hs);have wR:=bx (λW=>VX s W (by omega));have qH:=bx (λW (h:Below w.heap.size w W) aT (hl:ay W aT (dw s.data.toList)) (hlz:(dw s.data.toList).length<=100000)=>JX _ aT c (dw s.data.toList) W (bU.o W h) hs hl hlz);have e9:decide ((2000:Int)<(s.size:Int))=false:=decide_eq_false (by omega);have hsl:=rM s.data.toList;have hfl:=BD s.data.toList;rw [<- size_eq] at hfl hsl;have lW:=bx (λW=>WS ⟨(M.fix s.data.toList).toArray⟩ W (by rw [size_mk];omega));have kV:=bx (zT s.data.toList);obtain⟨k0,k1,k2,k3,k4,k5,kk⟩:=aB.o V (Below.refl _ _)
 cases hcb:T.cu 600 c with
 | false =>
  rw [hcb] at bI;have HE:=bx (show T.jd c s.data.toList=140 by unfold T.jd;rw [if_pos hcb]);have HA:=bx (show T.jR c s.data.toList=[] by unfold T.jR;rw [HE.o,if_neg (by decide)]);clear h1 h2 h3 h4 h5 h6 hs hV hcb hsl hfl
  go_enter func24,ntmps24
  go_upto_region 1 with(fail)
  rw [<- HV.o];go_wp2_with fail;refine bI.o.mono ?_;rintro e w1 ⟨rfl,hb1⟩;have HB1:=bx (bt HB0.o hb1);clear hb1 k0 k1 k2 k3 k4 k5 kk;go_wp2_with fail;go_ret2
  exact⟨gY (by rw [HA.o];rfl) (fF HE.o.symm),HB1.o⟩
 | true =>
  rw [hcb] at bI;have HE:=bx (show T.jd c s.data.toList=0 by unfold T.jd;rw [hcb,if_neg (by simp),if_neg (by rw [<- size_eq];omega)]);have HA:=bx (show T.jR c s.data.toList=U.textOf (T.lower c (dw s.data.toList)) by unfold T.jR;rw [HE.o,if_pos rfl]);have hwz:=T.PU hcb (by omega) (uf s.data.toList);have Gp:=T.Fa hcb (uf s.data.toList);have yI:=bx (Lp Gp);have sG:=bx (show T.gy c (dw s.data.toList)=T.lower c (dw s.data.toList) by unfold T.gy;rw [if_pos hwz]);have hlz:(T.lower c (dw s.data.toList)).length<=1000:=by have:=Gp.1;omega
  have nG:=bx (λv' W (hv':ay W v' (T.lower c (dw s.data.toList)))=>abR v' _ W hv' hlz);have bK:=bx (show (dw s.data.toList).length<=100000 by omega);rw [hwz,sG.o] at qH;rw [yI.o] at nG;clear h1 h2 h3 h4 h5 h6 hs hV hcb hsl hfl hwz Gp hlz
  go_enter func24,ntmps24
  go_upto_region 1 with(fail)
  rw [<- HV.o];go_wp2_with fail;refine bI.o.mono ?_;rintro e w1 ⟨rfl,hb1⟩;have dU:=bx hb1;clear hb1 k0 k1 k2 k3 k4 k5 kk;go_wp2_with fail;refine(wR.o w1).mono ?_;rintro e w2 ⟨rfl,hb2⟩;have eY:=bx (bt dU.o hb2);clear hb2;go_wp2_with fail;refine(lW.o w2).mono ?_;rintro e w3 ⟨hb3,hr3⟩;rw [toList_mk,kV.o] at hr3;obtain⟨v3,rfl,hrow⟩:=hr3;have nU:=bx (bt eY.o hb3);have HB3:=bx (bt HB0.o nU.o);have qF:=bx (qH.o w3 HB3.o v3 (ay.dL hrow rfl) bK.o);clear hb3 hrow;obtain⟨k0,k1,k2,k3,k4,k5,kk⟩:=aB.o w3 nU.o;go_wp2_with fail;refine qF.o.mono ?_;rintro e w4 ⟨⟨v4,rfl,hv4⟩,hb4⟩;have HB4:=bx (bt HB3.o hb4);have iP:=bx (nG.o v4 w4 hv4);clear hb4 hv4 k0 k1 k2 k3 k4 k5 kk;go_wp2_with fail;refine iP.o.mono ?_;rintro e w5 ⟨rfl,hb5⟩;have aP:=bx (bt HB4.o hb5);clear hb5;go_wp2_with fail;go_ret2
  exact⟨gY (by rw [HA.o];rfl) (fF HE.o.symm),aP.o⟩
theorem an6 (v vt:Value) (c:T.Cs) (t:Tab) (s:ByteArray) (w:World) (hv:bC w v c) (hs:T.Small c) (hvt:TabAt w vt t) (hts:wz t) (hz:s.size<=299) :
  Calls prog 26 #[v,vt, .string s] w λe w'=>e = .returned (.tuple #[.string ⟨(T.iJ c t s.data.toList).toArray⟩, .int .i64 (T.jH c t s.data.toList)])/\Below w.heap.size w w':=by
 obtain⟨lv,tv,ci,cb,gi,gb,rfl,h1,h2,h3,h4,h5,h6⟩:=hv;obtain⟨V,hV⟩:∃ V,V=w.alloc (.cells #[lv,tv,ci,cb,gi,gb] 28):=⟨_,rfl⟩
 have HB0:=bx (show Below w.heap.size w V by rw [hV];exact aS _ _);have HK:=bx (show ak V w.heap.size 28 #[lv,tv,ci,cb,gi,gb] by rw [hV];exact ak.new _ _ _);have bU:=bx (λW (h:Below w.heap.size w W)=>show bC W (.agg #[lv,tv,ci,cb,gi,gb]) c from⟨lv,tv,ci,cb,gi,gb,rfl,h1.below h,h2.below h,h3.below h,h4.below h,h5.below h,h6.below h⟩);have aB:=bx (λW (h:Below V.heap.size V W)=>HK.o.c6 h);have HV:=bx hV;obtain⟨pi,pb,rv,nv,fv,rfl,t1,t2,t3,t4,t5⟩:=hvt;obtain⟨V2,hV2⟩:∃ V2,V2=V.alloc (.cells #[.int .i64 t.n,pi,pb,rv,nv,fv] 46):=⟨_,rfl⟩
 have bG:=bx (show Below V.heap.size V V2 by rw [hV2];exact aS _ _);have KT:=bx (show ak V2 V.heap.size 46 #[.int .i64 t.n,pi,pb,rv,nv,fv] by rw [hV2];exact ak.new _ _ _);have eY:=bx hV2;have HB2:=bx (bt HB0.o bG.o);have bW:=bx (λW (h:Below w.heap.size w W)=>show TabAt W (.agg #[.int .i64 t.n,pi,pb,rv,nv,fv]) t from⟨pi,pb,rv,nv,fv,rfl,t1.below h,t2.below h,t3.below h,t4.below h,t5.below h⟩);have lT:=bx (λW (h:Below V2.heap.size V2 W)=>KT.o.c6 h);have hvs:V.heap.size=w.heap.size+1:=by rw [hV];simp
 rw [hvs] at lT;clear hvs;have bI:=bx (FZ _ c V2 (bU.o V2 HB2.o) hs);have gQ:=bx (λW (h:Below w.heap.size w W)=>am4 _ t s W (bW.o W h) hts hz);have wR:=bx (λW=>VX s W (by omega));have hsl:=rM s.data.toList;have hfl:=BD s.data.toList;rw [<- size_eq] at hfl hsl;have lW:=bx (λW=>WS ⟨(M.fix s.data.toList).toArray⟩ W (by rw [size_mk];omega));have kV:=bx (zT s.data.toList);obtain⟨tn,hn⟩:∃ n,n=t.n:=⟨_,rfl⟩
 rw [<- hn] at KT bW lT eY gQ ⊢;obtain⟨k0,k1,k2,k3,k4,k5,kk⟩:=aB.o V2 bG.o
 cases hcb:T.cu 600 c with
 | false =>
  rw [hcb] at bI;have HE:=bx (show T.jH c t s.data.toList=140 by unfold T.jH;rw [if_pos hcb]);have HA:=bx (show T.iJ c t s.data.toList=[] by unfold T.iJ;rw [HE.o,if_neg (by decide)]);clear h1 h2 h3 h4 h5 h6 t1 t2 t3 t4 t5 hs hts hV hV2 hcb hsl hfl hn
  go_enter func26,ntmps26
  go_upto_region 1 with(fail)
  rw [<- HV.o,<- eY.o];go_wp2_with fail;refine bI.o.mono ?_;rintro e w1 ⟨rfl,hb1⟩;have HB1:=bx (bt HB2.o hb1);clear hb1 k0 k1 k2 k3 k4 k5 kk;go_wp2_with fail;go_ret2
  exact⟨gY (by rw [HA.o];rfl) (fF HE.o.symm),HB1.o⟩
 | true =>
  rw [hcb] at bI;have iZ:=bx (show T.jH c t s.data.toList=textE t s.data.toList by unfold T.jH;rw [hcb,if_neg (by simp)])
  by_cases he:textE t s.data.toList=0
  ·have HE:=bx (iZ.o.trans he);have HA:=bx (show T.iJ c t s.data.toList=U.textOf (T.vG c t s.data.toList) by unfold T.iJ;rw [HE.o,if_pos rfl]);obtain⟨hcn,qO⟩:=L6 t s.data.toList;have RV:=bx (show vH t s.data.toList=(qM t s.data.toList).map (λn:Nat=>(n:Int)) by unfold vH;rw [if_pos he,hcn]);rw [he,RV.o] at gQ;have lq:=bx (show T.vG c t s.data.toList=T.qg c (dw s.data.toList) (qM t s.data.toList) ((qM t s.data.toList).length-1) from rfl);have hsr:=uf s.data.toList;generalize qM t s.data.toList=ns at gQ lq qO;generalize T.vG c t s.data.toList=tl at HA lq;generalize dw s.data.toList=xs at kV lq qO hsl hsr;have FP:=bx qO;have Rh:=bx (λk hk=>T.JK hcb hsr qO k hk);have yI:=bx (λ(h:T.Fine xs.length tl)=>Lp h);have SC:=bx (λW (h:Below w.heap.size w W) aT (hl:ay W aT xs) (a b:Nat) (hab:a<=b) (hb:b<=xs.length)=>Xi _ aT c xs a b W (bU.o W h) hs hcb hl hsr (by omega) hab hb);have Hl:=bx (λa b (hb:b<=xs.length)=>T.NM hcb hsr a b hb);obtain⟨N,hN⟩:∃ N,xs.length=N:=⟨_,rfl⟩
   have HN:=bx hN;have SX:N<=299:=by omega
   obtain⟨Q,hQ⟩:∃ Q,ns.length=Q:=⟨_,rfl⟩
   have HQ:=bx hQ;have hQ0:0<Q:=by rw [<- hQ];exact qO.ne
   have hQz:Q<=300:=by have:=qO.len;omega
   clear h1 h2 h3 h4 h5 h6 t1 t2 t3 t4 t5 hs hts hV hV2 hcb hsl hfl hn he hcn qO hsr hN hQ
   go_enter func26,ntmps26
   go_upto_region 1 with(fail)
   rw [<- HV.o,<- eY.o];go_wp2_with fail;refine bI.o.mono ?_;rintro e w1 ⟨rfl,hb1⟩;have dU:=bx hb1;have HB1:=bx (bt HB2.o hb1);clear hb1 k0 k1 k2 k3 k4 k5 kk;obtain⟨k0,k1,k2,k3,k4,k5,kk⟩:=lT.o w1 dU.o;go_wp2_with fail;refine(gQ.o w1 HB1.o).mono ?_;rintro e w2 ⟨⟨v2,rfl,hv2⟩,hb2⟩;have HC2:=bx hv2;obtain⟨ca,cc,rfl⟩:=hv2.slice;rw [List.length_map,HQ.o] at HC2 ⊢;have aaK:=bx (bt dU.o hb2);clear hb2 hv2 k0 k1 k2 k3 k4 k5 kk;go_wp2_with fail;refine(wR.o w2).mono ?_;rintro e w3 ⟨rfl,hb3⟩;have nU:=bx (aaK.o.trans (hb3.mono aaK.o.size));have fA:=bx (HC2.o.below hb3);clear hb3;go_wp2_with fail;refine(lW.o w3).mono ?_;rintro e w4 ⟨hb4,hr4⟩;rw [toList_mk,kV.o] at hr4;obtain⟨v4,rfl,hrow⟩:=hr4;have sJ:=bx (bt nU.o hb4);have WO:=bx (fA.o.below hb4);have JL:=bx (ay.dL hrow rfl);clear hb4 hrow;have aU:=bx (show Sep (fJ w4.heap.size w4 (.slice none 0 0) (T.qg c xs ns 0)) w4 from(Sep.start w4).fP w4.heap.size 1 3);go_wp2_with fail
   go_loopw [12,13] (λov i wr=>∃ k:Nat,k+1<=Q/\i = .int .i64 k/\Box (Sep (fJ w4.heap.size w4 ov (T.qg c xs ns k)) wr)) (λ_ i _=>Q-(intOf i).toNat)
   case atStart=>exact⟨0,by omega,rfl,aU⟩
   case round =>
    obtain⟨k,hk,rfl,hsep⟩:=hrel;have jf:=bx (kF hsep.o);have aee:=bx (bt sJ.o jf.o);have aJ:=bx (bt HB2.o aee.o);have HFk:=bx (Rh.o k (by rw [HQ.o];exact hk))
    by_cases hlt:k+1<Q
    ·obtain⟨a,ha⟩:∃ a,ns[k]?=some a:=⟨_,List.getElem?_eq_getElem (by rw [HQ.o];omega)⟩
     obtain⟨b,hb⟩:∃ b,ns[k+1]?=some b:=⟨_,List.getElem?_eq_getElem (by rw [HQ.o];omega)⟩
     have hga:ns.getD k 0=a:=by rw [List.getD_eq_getElem?_getD,ha,Option.getD_some]
     have hgb:ns.getD (k+1) 0=b:=by rw [List.getD_eq_getElem?_getD,hb,Option.getD_some]
     have hab:a<=b:=by have:=FP.o.up k (by rw [HQ.o];exact hlt);omega
     have hbN:b<=xs.length:=by have:=FP.o.le (k+1) (by rw [HQ.o];exact hlt);omega
     obtain⟨cg,yM,KJ,e1,e2,e3,e4,e5⟩:=WO.o.get (by intro h;have:=congrArg List.length h;rw [List.length_map,HQ.o] at this;simp at this;omega);rw [List.length_map,HQ.o] at e1 e2;obtain⟨rfl,rfl⟩:ca=some ⟨cg,yM,none⟩/\cc=KJ:=by injection e1 with h1 h2 h3;exact⟨h1,h3⟩
     have ca1:=e5 k (a:Int) (by rw [List.getElem?_map,ha];rfl);have cb1:=e5 (k+1) (b:Int) (by rw [List.getElem?_map,hb];rfl);have nR:=bx (show T.qg c xs ns (k+1)=T.qg c xs ns k++T.word c xs a b by rw [T.OA,hga,hgb]);have hwl:=(Hl.o a b hbN).1;have hal:=HFk.o.1;rw [hga] at hal;have e8:decide ((k:Int)+1<(Q:Int))=true:=decide_eq_true (by omega);have hkQ:k<Q:=by omega
     have hkI:(k:Int)<(Q:Int):=by omega
     have hkJ:(k:Int)+1<(Q:Int):=by omega
     have HWC:=bx (λW (h:Below w4.heap.size w4 W)=>SC.o W (HB2.o.trans ((bt sJ.o h).mono HB2.o.size)) v4 (JL.o.below h) a b hab hbN);have sU:=bx (λW (h:Below w4.heap.size w4 W)=>show W.cell? ⟨w.heap.size,0,none⟩=some lv/\W.cell? ⟨w.heap.size,1,none⟩=some tv/\W.cell? ⟨w.heap.size,2,none⟩=some ci/\W.cell? ⟨w.heap.size,3,none⟩=some cb/\W.cell? ⟨w.heap.size,4,none⟩=some gi/\W.cell? ⟨w.heap.size,5,none⟩=some gb/\w.heap.size<W.heap.size/\W.cell? ⟨cg,yM+k,none⟩=some (.int .i64 (a:Int))/\W.cell? ⟨cg,yM+(k+1),none⟩=some (.int .i64 (b:Int)) from by
      have hv:=bt sJ.o h;obtain⟨k0,k1,k2,k3,k4,k5,kk⟩:=aB.o W (bt bG.o hv);exact⟨k0,k1,k2,k3,k4,k5,kk,(h.cell (p:=⟨cg,yM+k,none⟩) e4).trans ca1,(h.cell (p:=⟨cg,yM+(k+1),none⟩) e4).trans cb1⟩)
     generalize T.qg c xs ns k=acc at hsep nR hal HFk;generalize T.word c xs a b=sm at HWC nR hwl;obtain⟨SL,fB⟩:∃ SL,sm.length=SL:=⟨_,rfl⟩
     have jl:=bx fB;have fM:=bx (show acc.length+SL<=1000000000 by rw [HN.o] at hbN;omega);have cZ:=bx (show Sep (fJ w4.heap.size w4 u12 acc) wr.drew from hsep.o.drewN 1);have aF:=bx (show Below w4.heap.size w4 wr.drew from jf.o.trans ((eu wr 1).mono jf.o.size));have au:=bx (sU.o wr.drew aF.o);have oV:=bx (HWC.o wr.drew aF.o);have hbs:w4.heap.size<=wr.drew.heap.size:=jf.o.size;unfold maxLen at e3;have hk1:IntKind.i64.wrap ((k:Int)+1)=(k:Int)+1:=by rw [IntKind.wrap_i64];omega
     have hk2:(0:Int)<=(k:Int)+1:=by omega
     have hk3:((k:Int)+1).toNat=k+1:=by omega
     clear ha hb hga hgb e1 e4 e5 ca1 cb1 hwl hal fB;go_wp2_with fail;refine dO 14 (λW'=>W'.cell? ⟨w.heap.size,0,none⟩=some lv/\W'.cell? ⟨w.heap.size,1,none⟩=some tv/\W'.cell? ⟨w.heap.size,2,none⟩=some ci/\W'.cell? ⟨w.heap.size,3,none⟩=some cb/\W'.cell? ⟨w.heap.size,4,none⟩=some gi/\W'.cell? ⟨w.heap.size,5,none⟩=some gb/\w.heap.size<W'.heap.size/\W'.cell? ⟨cg,yM+k,none⟩=some (.int .i64 (a:Int))/\W'.cell? ⟨cg,yM+(k+1),none⟩=some (.int .i64 (b:Int))) (by kernel_rfl) ?_;generalize wr.drew=WR at cZ aF au oV hbs ⊢;refine kS 0 ?_ rfl au.o ?_ ?_;rotate_left
     ·rintro w ⟨a,b,c,d,e,f,g,h,i⟩;go_simp;try rfl
     refine kS 1 ?_ rfl au.o ?_ ?_;rotate_left
     ·rintro w ⟨a,b,c,d,e,f,g,h,i⟩;go_simp;try rfl
     refine kS 2 ?_ rfl au.o ?_ ?_;rotate_left
     ·rintro w ⟨a,b,c,d,e,f,g,h,i⟩;go_simp;try rfl
     refine kS 3 ?_ rfl au.o ?_ ?_;rotate_left
     ·rintro w ⟨a,b,c,d,e,f,g,h,i⟩;go_simp;try rfl
     refine kS 4 ?_ rfl au.o ?_ ?_;rotate_left
     ·rintro w ⟨a,b,c,d,e,f,g,h,i⟩;go_simp;try rfl
     refine kS 5 ?_ rfl au.o ?_ ?_;rotate_left
     ·rintro w ⟨a,b,c,d,e,f,g,h,i⟩;go_simp;try rfl
     refine kS 6 ?_ rfl au.o ?_ ?_;rotate_left
     ·rintro w ⟨a,b,c,d,e,f,g,h,i⟩;go_simp;try rfl
     refine kS 7 ?_ rfl au.o ?_ ?_;rotate_left
     ·rintro w ⟨a,b,c,d,e,f,g,h,i⟩;go_simp;try rfl
     refine kS 8 ?_ rfl au.o ?_ ?_;rotate_left
     ·rintro w ⟨a,b,c,d,e,f,g,h,i⟩;go_simp;try rfl
     refine kS 9 ?_ rfl au.o ?_ ?_;rotate_left
     ·rintro w ⟨a,b,c,d,e,f,g,h,i⟩;go_simp;try rfl
     refine kS 10 ?_ rfl au.o ?_ ?_;rotate_left
     ·rintro w ⟨a,b,c,d,e,f,g,h,i⟩;go_simp;try rfl
     refine kS 11 ?_ rfl au.o ?_ ?_;rotate_left
     ·rintro w ⟨a,b,c,d,e,f,g,h,i⟩;go_simp;try rfl
     refine kP 12 rfl λKK aj=>?_
     go_simp;refine oV.o.mono ?_;rintro e w5 ⟨⟨v5,rfl,hv5,-⟩,hb5⟩;have aG:=bx (cZ.o.below hb5);have fZ:=bx (pG hv5);rw [jl.o] at fZ;have jI:=bx (sU.o w5 (bt aF.o hb5));have U2:w4.heap.size<=w5.heap.size:=Nat.le_trans hbs hb5.size;clear hv5 hb5 hk1 hk2 hk3;refine aj.out _ _ (λ_=>jI.o) ?_;clear aj KK;refine kP 13 rfl λKK aj=>?_
     refine oW rfl _ _ 23 rfl lQ (by decide) aG.o 0 rfl (by kernel_rfl) (by kernel_rfl) (m:=SL) (cs:=sm.map (Value.int .i64)) fZ.o (by rw [List.length_map,Nat.mul_one,jl.o]) (by intro z hz;obtain⟨q,-,rfl⟩:=List.mem_map.1 hz;rfl) fM.o (by omega) U2 ?_;rintro v6 w6 hS6;have dA:=bx (pY hS6 (by rw [jl.o]) nR.o);have HF6:=bx (sU.o w6 (kF dA.o));clear hS6;refine aj.out _ _ (λ_=>HF6.o) ?_;clear aj KK;refine kP 14 rfl λKK aj=>?_
     go_simp;refine aj.out _ _ (λh=>by cases h) ?_;clear aj KK;refine kD ?_ _;go_wp2_with fail
     go_roundw
     case rel=>exact⟨k+1,by omega,by go_num,dA⟩
     case measure=>simp [intOf];omega
    ·have hkk:k=ns.length-1:=by rw [HQ.o];omega
     have hsp:=hsep.o;rw [hkk,<- lq.o] at hsp;have HI:=bx (wW hsp).1;have eF:=bx (show T.Fine xs.length tl by
      have h9:=HFk.o;rw [hkk,<- lq.o,FP.o.last] at h9;exact h9)
     have nG:=bx (abR u12 tl wr HI.o (by have:=eF.o.1;have:=HN.o;omega));rw [yI.o eF.o] at nG;have hkq:(k:Int)+1=(Q:Int):=by omega
     clear hsp hkk hlt;go_wp2_with fail;refine nG.o.mono ?_;rintro e w5 ⟨rfl,hb5⟩;have aP:=bx (bt aJ.o hb5);clear hb5;go_wp2_with fail;go_ret2
     exact⟨gY (by rw [HA.o];rfl) (fF HE.o.symm),aP.o⟩
  ·have HA:=bx (show T.iJ c t s.data.toList=[] by unfold T.iJ;rw [iZ.o,if_neg he]);obtain⟨r,hr⟩:∃ r,r=textE t s.data.toList:=⟨_,rfl⟩
   have HR:=bx (iZ.o.trans hr.symm);rw [<- hr] at he gQ;have e2:(r != 0)=true:=by rw [bne_iff_ne];exact he
   clear h1 h2 h3 h4 h5 h6 t1 t2 t3 t4 t5 hs hts hV hV2 hcb hsl hfl hn he hr
   go_enter func26,ntmps26
   go_upto_region 1 with(fail)
   rw [<- HV.o,<- eY.o];go_wp2_with fail;refine bI.o.mono ?_;rintro e w1 ⟨rfl,hb1⟩;have dU:=bx hb1;have HB1:=bx (bt HB2.o hb1);clear hb1 k0 k1 k2 k3 k4 k5 kk;obtain⟨k0,k1,k2,k3,k4,k5,kk⟩:=lT.o w1 dU.o;go_wp2_with fail;refine(gQ.o w1 HB1.o).mono ?_;rintro e w2 ⟨⟨v2,rfl,-⟩,hb2⟩;have dM:=bx (bt HB1.o hb2);clear hb2 k0 k1 k2 k3 k4 k5 kk;go_wp2_with fail;go_ret2
   exact⟨gY (by rw [HA.o];rfl) (fF HR.o.symm),dM.o⟩
end
end Go.Proofs.YtlmdjifffmofeaaGreatDoor
